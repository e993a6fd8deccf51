/- Texts for the row of the law FnNarrowAll, part 18: the plain machine, the program's functions on it, what they come to. No conditions. -/
import Derived.Test.YtchliocobgkmbaaBuFnNarrowAll17
import Derived.Test.YtchliocobgkmbaaBuFnNarrowAll7
import Derived.Test.YtchliocobgkmbaaBuFnNarrowAll16
import Derived.Test.YtchliocobgkmbaaBuFnNarrowAll8
set_option linter.unusedVariables false
set_option linter.unusedSimpArgs false
namespace Go.Proofs.Ytchliocobgkmbaa.Rp
open Go Go.RowKit Go.Proofs.Ytchliocobgkmbaa.Ab
theorem Hidden_l3 (rec:Rec) (k:Nat) (L0:Sl→Int→Sl→Int→Hp→An) (L1:Sl→Int→Sl→Int→Sl→Int→Hp→An) {H:Hp} {ms t cs:Sl} {l cells:List Int} {n line:Int} {v:Nat} (hm:Reads .i64 H ms l) (hc:Reads .i64 H cs cells) (hcl:cells.length ≤ 10) (hin:∀ c ∈ cells,0 ≤ c∧c.toNat < l.length∧c < (l.length:Int)) (hM:Ms l) (hv:1 ≤ v∧v ≤ 4) :
  ∀ (j q fuel:Nat) (many at':Int),q + j=cells.length→j < fuel→0 ≤ many→many ≤ q →
   ∃ at2,spec_NarrowHidden.l3 rec k L0 L1 fuel ms n t line cs v many at' q H=spec_NarrowHidden.j6 rec k L0 L1 ms n t line cs v (many + ((cells.drop q).filter fun c=>has (l.getD c.toNat 0) v).length) at2 H∧(∀ c,many=0→(cells.drop q).filter (fun c=>has (l.getD c.toNat 0) v)=[c]→at2=c)∧((cells.drop q).filter (fun c=>has (l.getD c.toNat 0) v)=[]→at2=at'):=by
 have hml:=hm.len
 have hcs:=hc.len
 intro j
 induction j with
 | zero=>
  intro q fuel many at' hq hf h0 h1
  obtain ⟨fuel,rfl⟩:=Zs fuel (by omega)
  rw [List.drop_eq_nil_of_le (by omega)]
  refine ⟨at',?_,fun c _ h=>(by cases h),fun _=>rfl⟩
  simp (disch:=omega) only [spec_NarrowHidden.l3,dt,df,bt,bf,nt,nf,Za,Zy,Zx,Zt,Zf,Zn,Zz,Zi,Zo,wr,AV.toB,AV.toI,AV.toS,if_true,List.filter_nil,Zm,Int.natCast_zero,Int.add_zero]
 | succ j ih=>
  intro q fuel many at' hq hf h0 h1
  obtain ⟨fuel,rfl⟩:=Zs fuel (by omega)
  have hq2:q < cells.length:=by omega
  obtain ⟨c0,c1,c2⟩:=hin _ (mem_getD hq2)
  have hd:cells.drop q=cells.getD q 0 :: cells.drop (q + 1):=by
   rw [List.drop_eq_getElem_cons hq2,List.getD_eq_getElem?_getD,List.getElem?_eq_getElem hq2]; rfl
  rw [hd,List.filter_cons]
  have hb:=m_bit (v:=(v:Int)) (hM.at (cells.getD q 0).toNat) (by omega) (by omega)
  rw [Int.toNat_natCast] at hb
  cases hh:has (l.getD (cells.getD q 0).toNat 0) v with
  | true=>
   rw [hh] at hb
   obtain ⟨at2,a1,a2,a3⟩:=ih (q + 1) fuel (many + 1) (cells.getD q 0) (by omega) (by omega) (by omega) (by omega)
   push_cast at a1
   rw [if_pos rfl,List.length_cons]
   refine ⟨at2,?_,fun c hm0 he=>?_,fun h=>by cases h⟩
   ·push_cast
    rw [show many + ((((cells.drop (q + 1)).filter fun c=>has (l.getD c.toNat 0) v).length:Int) + 1)=many + 1 + (((cells.drop (q + 1)).filter fun c=>has (l.getD c.toNat 0) v).length:Int) by omega,← a1]
    simp (disch:=omega) only [spec_NarrowHidden.l3,spec_NarrowHidden.j5,dt,df,Za,Zt,Zn,Zo,rdn hc,rdn hm,iN,hb,wr]
   ·rw [List.cons.injEq] at he
    rw [a3 he.2]; exact he.1
  | false=>
   rw [hh] at hb
   obtain ⟨at2,a1,a2,a3⟩:=ih (q + 1) fuel many at' (by omega) (by omega) h0 (by omega)
   push_cast at a1
   rw [if_neg (by simp)]
   refine ⟨at2,?_,a2,a3⟩
   rw [← a1]
   simp (disch:=omega) only [spec_NarrowHidden.l3,spec_NarrowHidden.j5,dt,df,Za,Zt,Zf,Zn,Zo,rdn hc,rdn hm,iN,hb,wr]
theorem Hidden_l1 (rec:Rec) (k:Nat) (hk:100 ≤ k) (L0:Sl→Int→Sl→Int→Hp→An) {H0:Hp} {ms t cs:Sl} {l:List Int} {n:Int} {line:Nat} (hmk:masksOk n l=true) (hm:Reads .i64 H0 ms l) (hline:(line:Int) < 2 * n) (hcb:cs.blk ≠ t.blk) :
  ∀ (j v fuel:Nat) (H:Hp) (a:List Int) (P:Nat→Nat→Prop),(v:Int) + j=n + 1→1 ≤ v→j < fuel→H0 <+: H→Reads .i64 H cs (lineCells n line)→Own 1 H0 H t (a.map (.int .i64))→Sub l a P →
   ∃ H' a',spec_NarrowHidden.l1 rec k L0 fuel ms n t line cs v H=L0 ms n t ((line:Int) + 1) H'∧H0 <+: H'∧Own 1 H0 H' t (a'.map (.int .i64))∧Sub l a' (fun x w=>P x w ∨ ∃ u:Nat,v ≤ u∧(u:Int) ≤ n∧lineHas n l line u=[(x:Int)]∧w ≠ u):=by
 obtain ⟨l4,l16,lN,hN,n2,n4⟩:=masks_len hmk
 have hM:=masks_M hmk
 have hlc:=lineCells_len n line
 intro j
 induction j with
 | zero=>
  intro v fuel H a P hv hv1 hf hp hc ho hs
  obtain ⟨fuel,rfl⟩:=Zs fuel (by omega)
  refine ⟨H,a,?_,hp,ho,hs.congr fun x w hx=>⟨.inl,by rintro (h | ⟨u,h1,h2,_⟩); exact h; omega⟩⟩
  simp (disch:=omega) only [spec_NarrowHidden.l1,spec_NarrowHidden.j4,dt,df,bt,bf,nt,nf,Za,Zy,Zx,Zt,Zf,Zn,Zz,Zi,Zo,wr,AV.toB,AV.toI,AV.toS,if_true]
 | succ j ih=>
  intro v fuel H a P hv hv1 hf hp hc ho hs
  obtain ⟨fuel,rfl⟩:=Zs fuel (by omega)
  have hal:=hs.len
  have htl:t.len=a.length:=by have:=ho.len; simpa using this
  obtain ⟨at2,b1,b2,b3⟩:=Hidden_l3 rec k L0 (spec_NarrowHidden.l1 rec k L0 fuel) (t:=t) (n:=n) (line:=(line:Int)) (pf_reads hp hm) hc (by omega) (fun c h=>line_in hmk h) hM (v:=v) ⟨hv1,by omega⟩ (lineCells n line).length 0 k 0 0 (by omega) (by omega) (by omega) (by omega)
  simp only [List.drop_zero,Int.natCast_zero,Int.zero_add] at b1 b2
  have hlh:(lineCells n line).filter (fun c=>has (l.getD c.toNat 0) v)=lineHas n l line v:=rfl
  rw [hlh] at b1 b2
  by_cases c:(lineHas n l line v).length=1
  ·obtain ⟨x0,hx0⟩:=List.length_eq_one_iff.1 c
   have hat:=b2 x0 (by first | rfl | trivial) hx0
   have hxm:x0 ∈ lineCells n line:=(List.mem_filter.1 (show x0 ∈ lineHas n l line v by rw [hx0]; simp)).1
   obtain ⟨q0,q1,q2⟩:=line_in hmk hxm
   have hpm:M (pw (v:Int)):=M.pw (by omega) (by omega)
   have h31:M (mSub 31 (pw (v:Int))):=M.sub ⟨by decide,by decide⟩ hpm
   obtain ⟨H1,d1,d2,d3,d4⟩:=own_set1 ho hp x0.toNat (by omega) (mAnd (a.getD x0.toNat 0) (pw (v:Int)))
   have hs1:=hs.step x0.toNat q1 h31
   rw [← and_sub (hs.ms.at _) hpm] at hs1
   obtain ⟨H',a',e1,e2,e3,e4⟩:=ih (v + 1) fuel H1 _ _ (by omega) (by omega) (by omega) d2 (d4.reads hcb hc) d3 hs1
   push_cast at e1
   refine ⟨H',a',?_,e2,e3,e4.congr5 hM fun x w hx hw=>?_⟩
   ·rw [c] at b1
    subst hat
    simp only [Int.natCast_one] at b1
    simp (disch:=omega) only [spec_NarrowHidden.l1,dt,Zt,b1,spec_NarrowHidden.j6,bt,Za,Zo,rdn (own_reads ho),iN,m_shl (v:=(v:Int)),m_and (hs.ms.at _) hpm,d1,spec_NarrowHidden.j7,wr (n:=(v:Int) + 1),e1]
   ·have hnot:Rp.has (mSub 31 (pw (v:Int))) w=true ↔ w ≠ v:=by
     rcases has_all w hw (pw (v:Int)) with e | e
     ·rw [e,has_pw (by omega)]
      simp only [Bool.not_eq_true',decide_eq_false_iff_not]
      constructor <;> (intro h e; apply h; omega)
     ·exact absurd hpm e
    constructor
    ·rintro ((h | ⟨h1,h2⟩) | ⟨u,h1,h2⟩)
     ·exact .inl h
     ·subst h1
      exact .inr ⟨v,Nat.le_refl _,by omega,by rw [hx0]; congr 1; omega,hnot.1 h2⟩
     ·exact .inr ⟨u,by omega,h2⟩
    ·rintro (h | ⟨u,h1,h2,h3,h4⟩)
     ·exact .inl (.inl h)
     ·by_cases e:u=v
      ·subst e
       rw [hx0,List.cons.injEq] at h3
       exact .inl (.inr ⟨by omega,hnot.2 h4⟩)
      ·exact .inr ⟨u,by omega,h2,h3,h4⟩
  ·obtain ⟨H',a',e1,e2,e3,e4⟩:=ih (v + 1) fuel H a P (by omega) (by omega) (by omega) hp hc ho hs
   push_cast at e1
   refine ⟨H',a',?_,e2,e3,e4.congr fun x w hx=>?_⟩
   ·simp (disch:=omega) only [spec_NarrowHidden.l1,dt,Zt,b1,spec_NarrowHidden.j6,bf,Zf,spec_NarrowHidden.j7,wr (n:=(v:Int) + 1),e1]
   ·constructor
    ·rintro (h | ⟨u,h1,h2⟩)
     ·exact .inl h
     ·exact .inr ⟨u,by omega,h2⟩
    ·rintro (h | ⟨u,h1,h2,h3,h4⟩)
     ·exact .inl h
     ·refine .inr ⟨u,?_,h2,h3,h4⟩
      by_cases e:u=v
      ·subst e; rw [h3] at c; exact absurd rfl c
      ·omega
theorem Hidden_l0 {k:Nat} (hk:2000000 ≤ k) {H0:Hp} {ms t:Sl} {l:List Int} {n:Int} (hmk:masksOk n l=true) (hm:Reads .i64 H0 ms l) :
  ∀ (j line fuel:Nat) (H:Hp) (a:List Int) (P:Nat→Nat→Prop),(line:Int) + j=2 * n→j < fuel→H0 <+: H→Own 1 H0 H t (a.map (.int .i64))→Sub l a P →
   ∃ H' a',spec_NarrowHidden.l0 (callF PP orc k) k fuel ms n t line H=some (.sl 1 t,H')∧H0 <+: H'∧Own 1 H0 H' t (a'.map (.int .i64))∧Sub l a' (fun x w=>P x w ∨ ∃ ln u:Nat,line ≤ ln∧(ln:Int) < 2 * n∧1 ≤ u∧(u:Int) ≤ n∧lineHas n l ln u=[(x:Int)]∧w ≠ u):=by
 obtain ⟨l4,l16,lN,hN,n2,n4⟩:=masks_len hmk
 intro j
 induction j with
 | zero=>
  intro line fuel H a P hl hf hp ho hs
  obtain ⟨fuel,rfl⟩:=Zs fuel (by omega)
  refine ⟨H,a,?_,hp,ho,hs.congr fun x w hx=>⟨.inl,by rintro (h | ⟨ln,u,h1,h2,_⟩); exact h; omega⟩⟩
  simp (disch:=omega) only [spec_NarrowHidden.l0,spec_NarrowHidden.j2,dt,df,bt,bf,nt,nf,Za,Zy,Zx,Zt,Zf,Zn,Zz,Zi,Zo,wr,AV.toB,AV.toI,AV.toS,if_true]
 | succ j ih=>
  intro line fuel H a P hl hf hp ho hs
  obtain ⟨fuel,rfl⟩:=Zs fuel (by omega)
  obtain ⟨cs,H1,a1,a2,a3⟩:=specLineCells_own hk n (line:Int) H
  have hcb:cs.blk ≠ t.blk:=by have:=a3.blk; have:=own_lt' ho; omega
  obtain ⟨H2,a',b1,b2,b3,b4⟩:=Hidden_l1 (callF PP orc k) k (by omega) (spec_NarrowHidden.l0 (callF PP orc k) k fuel) hmk hm (by omega) hcb n.toNat 1 k H1 a P (by omega) (by omega) (by omega) (hp.trans a2) (own_reads a3) (own_pf ho a2) hs
  obtain ⟨H',a'',d1,d2,d3,d4⟩:=ih (line + 1) fuel H2 a' _ (by omega) (by omega) b2 b3 b4
  push_cast at d1
  refine ⟨H',a'',?_,d2,d3,d4.congr fun x w hx=>?_⟩
  ·simp only [Int.natCast_one] at b1
   simp (disch:=omega) only [spec_NarrowHidden.l0,dt,df,bt,bf,nt,nf,Za,Zy,Zx,Zt,Zf,Zn,Zz,Zi,Zo,wr,AV.toB,AV.toI,AV.toS,if_true,a1,b1,d1]
  ·constructor
   ·rintro ((h | ⟨u,h1,h2,h3,h4⟩) | ⟨ln,u,h1,h2⟩)
    ·exact .inl h
    ·exact .inr ⟨line,u,Nat.le_refl _,by omega,h1,h2,h3,h4⟩
    ·exact .inr ⟨ln,u,by omega,h2⟩
   ·rintro (h | ⟨ln,u,h1,h2,h3,h4,h5,h6⟩)
    ·exact .inl (.inl h)
    ·by_cases e:ln=line
     ·subst e; exact .inl (.inr ⟨u,h3,h4,h5,h6⟩)
     ·exact .inr ⟨ln,u,by omega,h2,h3,h4,h5,h6⟩
theorem specNarrowHidden_ok {k:Nat} (hk:2000010 ≤ k) {H:Hp} {ms:Sl} {l:List Int} {n:Int} (hb:-1 ≤ n∧n ≤ 5) (hm:Reads .i64 H ms l) (hl:l.length ≤ 1000) :
  ∃ t H',callF PP orc k spec_NarrowHidden.id [.sl 1 ms,.int .i64 n] H=some (.sl 1 t,H')∧H <+: H'∧Own 1 H H' t ((hiddenV n l).map (.int .i64)):=by
 obtain ⟨k,rfl⟩:=Zs k (by omega)
 rw [spec_NarrowHidden.call]
 have h1:=specMasksValid_any (show 2000000 ≤ k by omega) hb hm hl
 unfold hiddenV
 cases hv:masksOk n l with
 | false=>
  rw [hv] at h1
  rw [iN (by simp)]
  exact ⟨Sl.mk false H.length 0 0,H ++ [some (Blk.mk false [])],by simp only [spec_NarrowHidden.f,dt,df,bt,bf,nt,nf,Za,Zy,Zx,Zt,Zf,Zn,Zz,Zi,Zo,wr,AV.toB,AV.toI,AV.toS,if_true,h1],(List.prefix_append _ _),own_new 1 H [] 0 rfl⟩
 | true=>
  rw [hv] at h1
  rw [ip rfl]
  obtain ⟨l4,l16,lN,hN,n2,n4⟩:=masks_len hv
  have hM:=masks_M hv
  have h2:=l6Copy_ok (show 1 ≤ k by omega) hm hl
  have hnew:=own_new 1 H (l.map (.int .i64)) l.length (by simp)
  obtain ⟨H',a',b1,b2,b3,b4⟩:=Hidden_l0 (show 2000000 ≤ k by omega) hv hm (2 * n).toNat 0 k (H ++ [some (Blk.mk false (l.map (.int .i64)))]) l _ (by omega) (by omega) (List.prefix_append _ _) hnew (Sub.refl hM)
  have e:a'=subAll l (PH n l):=(b4.congr fun x w hx=>(show _ ↔ PH n l x w from ⟨by rintro (h | ⟨ln,u,_,h⟩); exact h.elim; exact ⟨ln,u,h⟩,fun ⟨ln,u,h⟩=>.inr ⟨ln,u,by omega,h⟩⟩)).eq hM
  subst e
  refine ⟨_,H',?_,b2,b3⟩
  simp only [Int.natCast_zero] at b1
  simp only [spec_NarrowHidden.f,dt,df,bt,bf,nt,nf,Za,Zy,Zx,Zt,Zf,Zn,Zz,Zi,Zo,wr,AV.toB,AV.toI,AV.toS,if_true,h1,h2,b1]
theorem line_len {n:Int} {l:List Int} (hv:masksOk n l=true) {line:Nat} (h:(line:Int) < 2 * n):(lineCells n line).length=n.toNat:=by
 obtain ⟨hn,_⟩:=masksOk_iff.1 hv
 unfold lineCells
 rw [if_pos ⟨hn,by omega,h⟩]
 simp
theorem Pairs_l9 (rec:Rec) (k:Nat) (L0:Sl→Int→Sl→Int→Hp→An) (L1:Sl→Int→Sl→Int→Sl→Int→Hp→An) (L3:Sl→Int→Sl→Int→Sl→Int→Int→Hp→An) {H0:Hp} {ms t cs:Sl} {l:List Int} {n m:Int} {line i jj:Nat} (hmk:masksOk n l=true) (hline:(line:Int) < 2 * n) (hcb:cs.blk ≠ t.blk) (hm:M m) (hjj:jj < 1000000) :
  ∀ (j q fuel:Nat) (H:Hp) (a:List Int) (P:Nat→Nat→Prop),(q:Int) + j=n→j < fuel→H0 <+: H→Reads .i64 H cs (lineCells n line)→Own 1 H0 H t (a.map (.int .i64))→Sub l a P →
   ∃ H' a',spec_NarrowPairs.l12 rec k L0 L1 L3 fuel ms n t line cs i jj m q H=L3 ms n t line cs i ((jj:Int) + 1) H'∧H0 <+: H'∧Own 1 H0 H' t (a'.map (.int .i64))∧Adv t.blk H H'∧Sub l a' (fun x w=>P x w ∨ ∃ u:Nat,q ≤ u∧(u:Int) < n∧u ≠ i∧u ≠ jj∧x=lc n line u∧has m w=true):=by
 obtain ⟨l4,l16,lN,hN,n2,n4⟩:=masks_len hmk
 have hll:=line_len hmk hline
 intro j
 induction j with
 | zero=>
  intro q fuel H a P hq hf hp hc ho hs
  obtain ⟨fuel,rfl⟩:=Zs fuel (by omega)
  refine ⟨H,a,?_,hp,ho,Adv.refl _ _,hs.congr fun x w hx=>⟨.inl,by rintro (h | ⟨u,h1,h2,_⟩); exact h; omega⟩⟩
  simp (disch:=omega) only [spec_NarrowPairs.l12,spec_NarrowPairs.j10,dt,df,bt,bf,nt,nf,Za,Zy,Zx,Zt,Zf,Zn,Zz,Zi,Zo,wr,AV.toB,AV.toI,AV.toS,if_true]
 | succ j ih=>
  intro q fuel H a P hq hf hp hc ho hs
  obtain ⟨fuel,rfl⟩:=Zs fuel (by omega)
  have hal:=hs.len
  have htl:t.len=a.length:=by have:=ho.len; simpa using this
  have hcl:=hc.len
  have hq2:q < (lineCells n line).length:=by omega
  obtain ⟨c0,c1,c2⟩:=line_in hmk (mem_getD hq2)
  by_cases c:q ≠ i∧q ≠ jj
  ·obtain ⟨H1,d1,d2,d3,d4⟩:=own_set1 ho hp ((lineCells n line).getD q 0).toNat (by omega) (mSub (a.getD ((lineCells n line).getD q 0).toNat 0) m)
   obtain ⟨H',a',e1,e2,e3,e4,e5⟩:=ih (q + 1) fuel H1 _ _ (by omega) (by omega) d2 (d4.reads hcb hc) d3 (hs.step _ c1 hm)
   push_cast at e1
   refine ⟨H',a',?_,e2,e3,d4.trans e4,e5.congr fun x w hx=>?_⟩
   ·simp (disch:=omega) only [spec_NarrowPairs.l12,spec_NarrowPairs.j13,spec_NarrowPairs.j14,spec_NarrowPairs.j15,spec_NarrowPairs.j16,spec_NarrowPairs.j17,dt,nt,Za,Zt,Zn,Zo,rdn hc,rdn (own_reads ho),m_sub (hs.ms.at _) hm,d1,wr (n:=(q:Int) + 1),e1]
   ·constructor
    ·rintro ((h | ⟨h1,h2⟩) | ⟨u,h1,h2⟩)
     ·exact .inl h
     ·exact .inr ⟨q,Nat.le_refl _,by omega,c.1,c.2,h1,h2⟩
     ·exact .inr ⟨u,by omega,h2⟩
    ·rintro (h | ⟨u,h1,h2,h3,h4,h5,h6⟩)
     ·exact .inl (.inl h)
     ·by_cases e:u=q
      ·subst e; exact .inl (.inr ⟨h5,h6⟩)
      ·exact .inr ⟨u,by omega,h2,h3,h4,h5,h6⟩
  ·obtain ⟨H',a',e1,e2,e3,e4,e5⟩:=ih (q + 1) fuel H a P (by omega) (by omega) hp hc ho hs
   push_cast at e1
   refine ⟨H',a',?_,e2,e3,e4,e5.congr fun x w hx=>?_⟩
   ·by_cases c1':q=i
    ·simp (disch:=omega) only [spec_NarrowPairs.l12,spec_NarrowPairs.j13,spec_NarrowPairs.j14,spec_NarrowPairs.j15,spec_NarrowPairs.j16,spec_NarrowPairs.j17,dt,nf,Zt,Zf,wr (n:=(q:Int) + 1),e1]
    ·simp (disch:=omega) only [spec_NarrowPairs.l12,spec_NarrowPairs.j13,spec_NarrowPairs.j14,spec_NarrowPairs.j15,spec_NarrowPairs.j16,spec_NarrowPairs.j17,dt,nt,nf,Zt,Zf,wr (n:=(q:Int) + 1),e1]
   ·constructor
    ·rintro (h | ⟨u,h1,h2⟩)
     ·exact .inl h
     ·exact .inr ⟨u,by omega,h2⟩
    ·rintro (h | ⟨u,h1,h2,h3,h4,h5,h6⟩)
     ·exact .inl h
     ·refine .inr ⟨u,?_,h2,h3,h4,h5,h6⟩
      by_cases e:u=q
      ·subst e; exact absurd ⟨h3,h4⟩ c
      ·omega
def PQ2 (n:Int) (l:List Int) (line i j x w:Nat):Prop:=l.getD (lc n line i) 0=l.getD (lc n line j) 0∧two (l.getD (lc n line i) 0)=true∧∃ u:Nat,(u:Int) < n∧u ≠ i∧u ≠ j∧x=lc n line u∧has (l.getD (lc n line i) 0) w=true
theorem Pairs_l3 {k:Nat} (hk:2000000 ≤ k) (L0:Sl→Int→Sl→Int→Hp→An) (L1:Sl→Int→Sl→Int→Sl→Int→Hp→An) {H0:Hp} {ms t cs:Sl} {l:List Int} {n:Int} {line i:Nat} (hmk:masksOk n l=true) (hm:Reads .i64 H0 ms l) (hline:(line:Int) < 2 * n) (hi:(i:Int) < n) :
  ∀ (j q fuel:Nat) (H:Hp) (a:List Int) (P:Nat→Nat→Prop),q + j=i→j < fuel→H0 <+: H→Reads .i64 H cs (lineCells n line)→cs.blk ≠ t.blk→Own 1 H0 H t (a.map (.int .i64))→Sub l a P →
   ∃ H' a',spec_NarrowPairs.l3 (callF Ab.PP orc k) k L0 L1 fuel ms n t line cs i q H=L1 ms n t line cs ((i:Int) + 1) H'∧H0 <+: H'∧Own 1 H0 H' t (a'.map (.int .i64))∧Adv t.blk H H'∧Sub l a' (fun x w=>P x w ∨ ∃ u:Nat,q ≤ u∧u < i∧PQ2 n l line i u x w):=by
 obtain ⟨l4,l16,lN,hN,n2,n4⟩:=masks_len hmk
 have hll:=line_len hmk hline
 have hM:=masks_M hmk
 have hml:=hm.len
 intro j
 induction j with
 | zero=>
  intro q fuel H a P hq hf hp hc hcb ho hs
  obtain ⟨fuel,rfl⟩:=Zs fuel (by omega)
  refine ⟨H,a,?_,hp,ho,Adv.refl _ _,hs.congr fun x w hx=>⟨.inl,by rintro (h | ⟨u,h1,h2,_⟩); exact h; omega⟩⟩
  simp (disch:=omega) only [spec_NarrowPairs.l3,spec_NarrowPairs.j6,dt,df,bt,bf,nt,nf,Za,Zy,Zx,Zt,Zf,Zn,Zz,Zi,Zo,wr,AV.toB,AV.toI,AV.toS,if_true]
 | succ j ih=>
  intro q fuel H a P hq hf hp hc hcb ho hs
  obtain ⟨fuel,rfl⟩:=Zs fuel (by omega)
  have hcl:=hc.len
  obtain ⟨c0,c1,c2⟩:=line_in hmk (mem_getD (show q < (lineCells n line).length by omega))
  obtain ⟨f0,f1,f2⟩:=line_in hmk (mem_getD (show i < (lineCells n line).length by omega))
  have hrd:=pf_reads hp hm
  have e0:∀ z,l.getD ((lineCells n line).getD z 0).toNat 0=l.getD (lc n line z) 0:=fun z=>rfl
  by_cases ce:l.getD (lc n line i) 0=l.getD (lc n line q) 0
  ·obtain ⟨u,H1,a1,a2,a3⟩:=MaskValues_ok hk (l.getD (lc n line i) 0) H
   have hul:=(own_reads a3).len
   have hc1:=pf_reads a2 hc
   by_cases c3:(maskVals (l.getD (lc n line i) 0)).length=2
   ·obtain ⟨H2,a',b1,b2,b3,b4,b5⟩:=Pairs_l9 (callF Ab.PP orc k) k L0 L1 (spec_NarrowPairs.l3 (callF Ab.PP orc k) k L0 L1 fuel) (ms:=ms) (i:=i) (jj:=q) hmk hline hcb (hM.at (lc n line i)) (by omega) n.toNat 0 k H1 a P (by omega) (by omega) (hp.trans a2) hc1 (own_pf ho a2) hs
    obtain ⟨H',a'',d1,d2,d3,d4,d5⟩:=ih (q + 1) fuel H2 a' _ (by omega) (by omega) b2 (b4.reads hcb hc1) hcb b3 b5
    push_cast at d1
    refine ⟨H',a'',?_,d2,d3,((pf_adv a2).trans b4).trans d4,d5.congr fun x w hx=>?_⟩
    ·simp only [Int.natCast_zero] at b1
     simp (disch:=omega) only [spec_NarrowPairs.l3,spec_NarrowPairs.j5,spec_NarrowPairs.j7,spec_NarrowPairs.j8,spec_NarrowPairs.j9,spec_NarrowPairs.j10,spec_NarrowPairs.j11,dt,df,bt,bf,nt,nf,Za,Zy,Zx,Zt,Zf,Zn,Zz,Zi,Zo,wr,AV.toB,AV.toI,AV.toS,if_true,rdn hc,rdn hrd,e0,a1,hul,b1,d1]
    ·have ht:two (l.getD (lc n line i) 0)=true:=by unfold two; rw [c3]; rfl
     constructor
     ·rintro ((h | ⟨u,h1,h2,h3,h4,h5,h6⟩) | ⟨u,h1,h2⟩)
      ·exact .inl h
      ·exact .inr ⟨q,Nat.le_refl _,by omega,ce,ht,u,h2,h3,h4,h5,h6⟩
      ·exact .inr ⟨u,by omega,h2⟩
     ·rintro (h | ⟨u,h1,h2,h3,h4,z,h5,h6,h7,h8,h9⟩)
      ·exact .inl (.inl h)
      ·by_cases e:u=q
       ·subst e; exact .inl (.inr ⟨z,by omega,h5,h6,h7,h8,h9⟩)
       ·exact .inr ⟨u,by omega,h2,h3,h4,z,h5,h6,h7,h8,h9⟩
   ·obtain ⟨H',a'',d1,d2,d3,d4,d5⟩:=ih (q + 1) fuel H1 a P (by omega) (by omega) (hp.trans a2) hc1 hcb (own_pf ho a2) hs
    push_cast at d1
    refine ⟨H',a'',?_,d2,d3,(pf_adv a2).trans d4,d5.congr fun x w hx=>?_⟩
    ·simp (disch:=omega) only [spec_NarrowPairs.l3,spec_NarrowPairs.j5,spec_NarrowPairs.j7,spec_NarrowPairs.j8,spec_NarrowPairs.j9,spec_NarrowPairs.j10,spec_NarrowPairs.j11,dt,df,bt,bf,nt,nf,Za,Zy,Zx,Zt,Zf,Zn,Zz,Zi,Zo,wr,AV.toB,AV.toI,AV.toS,if_true,rdn hc,rdn hrd,e0,a1,hul,d1]
    ·have ht:¬ two (l.getD (lc n line i) 0)=true:=by unfold two; rw [beq_iff_eq]; exact c3
     constructor
     ·rintro (h | ⟨u,h1,h2⟩)
      ·exact .inl h
      ·exact .inr ⟨u,by omega,h2⟩
     ·rintro (h | ⟨u,h1,h2,h3,h4,h5⟩)
      ·exact .inl h
      ·exact absurd h4 ht
  ·obtain ⟨H',a'',d1,d2,d3,d4,d5⟩:=ih (q + 1) fuel H a P (by omega) (by omega) hp hc hcb ho hs
   push_cast at d1
   refine ⟨H',a'',?_,d2,d3,d4,d5.congr fun x w hx=>?_⟩
   ·simp (disch:=omega) only [spec_NarrowPairs.l3,spec_NarrowPairs.j5,spec_NarrowPairs.j7,spec_NarrowPairs.j8,spec_NarrowPairs.j9,spec_NarrowPairs.j10,spec_NarrowPairs.j11,dt,Za,Zt,Zn,Zo,rdn hc,rdn hrd,e0,nt ce,wr (n:=(q:Int) + 1),d1]
   ·constructor
    ·rintro (h | ⟨u,h1,h2⟩)
     ·exact .inl h
     ·exact .inr ⟨u,by omega,h2⟩
    ·rintro (h | ⟨u,h1,h2,h3,h4⟩)
     ·exact .inl h
     ·refine .inr ⟨u,?_,h2,h3,h4⟩
      by_cases e:u=q
      ·subst e; exact absurd h3 ce
      ·omega
theorem Pairs_l1 {k:Nat} (hk:2000000 ≤ k) (L0:Sl→Int→Sl→Int→Hp→An) {H0:Hp} {ms t cs:Sl} {l:List Int} {n:Int} {line:Nat} (hmk:masksOk n l=true) (hm:Reads .i64 H0 ms l) (hline:(line:Int) < 2 * n) (hcb:cs.blk ≠ t.blk) :
  ∀ (j q fuel:Nat) (H:Hp) (a:List Int) (P:Nat→Nat→Prop),(q:Int) + j=n→j < fuel→H0 <+: H→Reads .i64 H cs (lineCells n line)→Own 1 H0 H t (a.map (.int .i64))→Sub l a P →
   ∃ H' a',spec_NarrowPairs.l1 (callF Ab.PP orc k) k L0 fuel ms n t line cs q H=L0 ms n t ((line:Int) + 1) H'∧H0 <+: H'∧Own 1 H0 H' t (a'.map (.int .i64))∧Sub l a' (fun x w=>P x w ∨ ∃ i u:Nat,q ≤ i∧(i:Int) < n∧u < i∧PQ2 n l line i u x w):=by
 obtain ⟨l4,l16,lN,hN,n2,n4⟩:=masks_len hmk
 intro j
 induction j with
 | zero=>
  intro q fuel H a P hq hf hp hc ho hs
  obtain ⟨fuel,rfl⟩:=Zs fuel (by omega)
  refine ⟨H,a,?_,hp,ho,hs.congr fun x w hx=>⟨.inl,by rintro (h | ⟨i,u,h1,h2,_⟩); exact h; omega⟩⟩
  simp (disch:=omega) only [spec_NarrowPairs.l1,spec_NarrowPairs.j4,dt,df,bt,bf,nt,nf,Za,Zy,Zx,Zt,Zf,Zn,Zz,Zi,Zo,wr,AV.toB,AV.toI,AV.toS,if_true]
 | succ j ih=>
  intro q fuel H a P hq hf hp hc ho hs
  obtain ⟨fuel,rfl⟩:=Zs fuel (by omega)
  obtain ⟨H1,a',b1,b2,b3,b4,b5⟩:=Pairs_l3 hk L0 (spec_NarrowPairs.l1 (callF Ab.PP orc k) k L0 fuel) (cs:=cs) (i:=q) hmk hm hline (by omega) q 0 k H a P (by omega) (by omega) hp hc hcb ho hs
  obtain ⟨H',a'',d1,d2,d3,d4⟩:=ih (q + 1) fuel H1 a' _ (by omega) (by omega) b2 (b4.reads hcb hc) b3 b5
  push_cast at d1
  refine ⟨H',a'',?_,d2,d3,d4.congr fun x w hx=>?_⟩
  ·simp only [Int.natCast_zero] at b1
   simp (disch:=omega) only [spec_NarrowPairs.l1,dt,df,bt,bf,nt,nf,Za,Zy,Zx,Zt,Zf,Zn,Zz,Zi,Zo,wr,AV.toB,AV.toI,AV.toS,if_true,b1,d1]
  ·constructor
   ·rintro ((h | ⟨u,h1,h2,h3⟩) | ⟨i,u,h1,h2⟩)
    ·exact .inl h
    ·exact .inr ⟨q,u,Nat.le_refl _,by omega,h2,h3⟩
    ·exact .inr ⟨i,u,by omega,h2⟩
   ·rintro (h | ⟨i,u,h1,h2,h3,h4⟩)
    ·exact .inl (.inl h)
    ·by_cases e:i=q
     ·subst e; exact .inl (.inr ⟨u,by omega,h3,h4⟩)
     ·exact .inr ⟨i,u,by omega,h2,h3,h4⟩
theorem Pairs_l0 {k:Nat} (hk:2000000 ≤ k) {H0:Hp} {ms t:Sl} {l:List Int} {n:Int} (hmk:masksOk n l=true) (hm:Reads .i64 H0 ms l) :
  ∀ (j line fuel:Nat) (H:Hp) (a:List Int) (P:Nat→Nat→Prop),(line:Int) + j=2 * n→j < fuel→H0 <+: H→Own 1 H0 H t (a.map (.int .i64))→Sub l a P →
   ∃ H' a',spec_NarrowPairs.l0 (callF Ab.PP orc k) k fuel ms n t line H=some (.sl 1 t,H')∧H0 <+: H'∧Own 1 H0 H' t (a'.map (.int .i64))∧Sub l a' (fun x w=>P x w ∨ ∃ ln i u:Nat,line ≤ ln∧(ln:Int) < 2 * n∧(i:Int) < n∧u < i∧PQ2 n l ln i u x w):=by
 obtain ⟨l4,l16,lN,hN,n2,n4⟩:=masks_len hmk
 intro j
 induction j with
 | zero=>
  intro line fuel H a P hl hf hp ho hs
  obtain ⟨fuel,rfl⟩:=Zs fuel (by omega)
  refine ⟨H,a,?_,hp,ho,hs.congr fun x w hx=>⟨.inl,by rintro (h | ⟨ln,i,u,h1,h2,_⟩); exact h; omega⟩⟩
  simp (disch:=omega) only [spec_NarrowPairs.l0,spec_NarrowPairs.j2,dt,df,bt,bf,nt,nf,Za,Zy,Zx,Zt,Zf,Zn,Zz,Zi,Zo,wr,AV.toB,AV.toI,AV.toS,if_true]
 | succ j ih=>
  intro line fuel H a P hl hf hp ho hs
  obtain ⟨fuel,rfl⟩:=Zs fuel (by omega)
  obtain ⟨cs,H1,a1,a2,a3⟩:=specLineCells_own hk n (line:Int) H
  have hcb:cs.blk ≠ t.blk:=by have:=a3.blk; have:=own_lt' ho; omega
  obtain ⟨H2,a',b1,b2,b3,b4⟩:=Pairs_l1 hk (spec_NarrowPairs.l0 (callF Ab.PP orc k) k fuel) hmk hm (by omega) hcb n.toNat 0 k H1 a P (by omega) (by omega) (hp.trans a2) (own_reads a3) (own_pf ho a2) hs
  obtain ⟨H',a'',d1,d2,d3,d4⟩:=ih (line + 1) fuel H2 a' _ (by omega) (by omega) b2 b3 b4
  push_cast at d1
  refine ⟨H',a'',?_,d2,d3,d4.congr fun x w hx=>?_⟩
  ·simp only [Int.natCast_zero] at b1
   simp (disch:=omega) only [spec_NarrowPairs.l0,dt,df,bt,bf,nt,nf,Za,Zy,Zx,Zt,Zf,Zn,Zz,Zi,Zo,wr,AV.toB,AV.toI,AV.toS,if_true,a1,b1,d1]
  ·constructor
   ·rintro ((h | ⟨i,u,h1,h2,h3,h4⟩) | ⟨ln,i,u,h1,h2⟩)
    ·exact .inl h
    ·exact .inr ⟨line,i,u,Nat.le_refl _,by omega,h2,h3,h4⟩
    ·exact .inr ⟨ln,i,u,by omega,h2⟩
   ·rintro (h | ⟨ln,i,u,h1,h2,h3,h4,h5⟩)
    ·exact .inl (.inl h)
    ·by_cases e:ln=line
     ·subst e; exact .inl (.inr ⟨i,u,by omega,h3,h4,h5⟩)
     ·exact .inr ⟨ln,i,u,by omega,h2,h3,h4,h5⟩
theorem PQ_iff {n:Int} {l:List Int} {x w:Nat}:PQ n l x w ↔ ∃ ln i u:Nat,(ln:Int) < 2 * n∧(i:Int) < n∧u < i∧PQ2 n l ln i u x w:=by
 constructor
 ·rintro ⟨ln,i,j,k,h1,h2,h3,h4,h5,h6,h7,h8,h9,h10⟩
  exact ⟨ln,i,j,h1,h3,h2,h7,h8,k,h4,h5,h6,h9,h10⟩
 ·rintro ⟨ln,i,j,h1,h3,h2,h7,h8,k,h4,h5,h6,h9,h10⟩
  exact ⟨ln,i,j,k,h1,h2,h3,h4,h5,h6,h7,h8,h9,h10⟩
theorem specNarrowPairs_ok {k:Nat} (hk:2000010 ≤ k) {H:Hp} {ms:Sl} {l:List Int} {n:Int} (hb:-1 ≤ n∧n ≤ 5) (hm:Reads .i64 H ms l) (hl:l.length ≤ 1000) :
  ∃ t H',callF Ab.PP orc k spec_NarrowPairs.id [.sl 1 ms,.int .i64 n] H=some (.sl 1 t,H')∧H <+: H'∧Own 1 H H' t ((pairsV n l).map (.int .i64)):=by
 obtain ⟨k,rfl⟩:=Zs k (by omega)
 rw [spec_NarrowPairs.call]
 have h1:=specMasksValid_any (show 2000000 ≤ k by omega) hb hm hl
 unfold pairsV
 cases hv:masksOk n l with
 | false=>
  rw [hv] at h1
  rw [iN (by simp)]
  exact ⟨Sl.mk false H.length 0 0,H ++ [some (Blk.mk false [])],by simp only [spec_NarrowPairs.f,dt,df,bt,bf,nt,nf,Za,Zy,Zx,Zt,Zf,Zn,Zz,Zi,Zo,wr,AV.toB,AV.toI,AV.toS,if_true,h1],(List.prefix_append _ _),own_new 1 H [] 0 rfl⟩
 | true=>
  rw [hv] at h1
  rw [ip rfl]
  obtain ⟨l4,l16,lN,hN,n2,n4⟩:=masks_len hv
  have hM:=masks_M hv
  have h2:=l6Copy_ok (show 1 ≤ k by omega) hm hl
  have hnew:=own_new 1 H (l.map (.int .i64)) l.length (by simp)
  obtain ⟨H',a',b1,b2,b3,b4⟩:=Pairs_l0 (show 2000000 ≤ k by omega) hv hm (2 * n).toNat 0 k (H ++ [some (Blk.mk false (l.map (.int .i64)))]) l _ (by omega) (by omega) (List.prefix_append _ _) hnew (Sub.refl hM)
  have e:a'=subAll l (PQ n l):=(b4.congr fun x w hx=>(show _ ↔ PQ n l x w from by
   rw [PQ_iff]
   constructor
   ·rintro (h | ⟨ln,i,u,_,h⟩)
    ·exact h.elim
    ·exact ⟨ln,i,u,h⟩
   ·rintro ⟨ln,i,u,h⟩
    exact .inr ⟨ln,i,u,by omega,h⟩)).eq hM
  subst e
  refine ⟨_,H',?_,b2,b3⟩
  simp only [Int.natCast_zero] at b1
  simp only [spec_NarrowPairs.f,dt,df,bt,bf,nt,nf,Za,Zy,Zx,Zt,Zf,Zn,Zz,Zi,Zo,wr,AV.toB,AV.toI,AV.toS,if_true,h1,h2,b1]
theorem orFrom_has {vals:List Int} (hv:Vals vals):∀ (j i:Nat) {fl:List Int},Ms fl→i + j=vals.length→vals.length ≤ fl.length→∀ x v:Nat,has ((orFrom vals fl i j).getD x 0) v=true ↔ has (fl.getD x 0) v=true ∨ (i ≤ x∧x < i + j∧vals.getD x 0=(v:Int))
 | 0,i,fl,h,_,_,x,v=>by rw [orFrom]; constructor; exact .inl; rintro (h | h); exact h; omega
 | j + 1,i,fl,h,hi,hl,x,v=>by
  have hM:=M.pw (hv.at i).1 (hv.at i).2
  rw [orFrom,orFrom_has hv j (i + 1) (h.set i (M.or (h.at i) hM)) (by omega) (by simpa using hl)]
  by_cases e:x=i
  ·subst e
   have:(fl.set x (mOr (fl.getD x 0) (pw (vals.getD x 0)))).getD x 0=mOr (fl.getD x 0) (pw (vals.getD x 0)):=by
    rw [List.getD_eq_getElem?_getD,List.getElem?_set_self (by omega)]; rfl
   rw [this,has_or,has_pw (hv.at x).1]
   simp only [Bool.or_eq_true,decide_eq_true_eq]
   constructor
   ·rintro ((h | h) | h)
    ·exact .inl h
    ·exact .inr ⟨by omega,by omega,h.symm⟩
    ·omega
   ·rintro (h | h)
    ·exact .inl (.inl h)
    ·exact .inl (.inr h.2.2.symm)
  ·have:(fl.set i (mOr (fl.getD i 0) (pw (vals.getD i 0)))).getD x 0=fl.getD x 0:=by
    rw [List.getD_eq_getElem?_getD,List.getElem?_set_ne (Ne.symm e),← List.getD_eq_getElem?_getD]
   rw [this]
   constructor
   ·rintro (h | h)
    ·exact .inl h
    ·exact .inr ⟨by omega,by omega,h.2.2⟩
   ·rintro (h | h)
    ·exact .inl h
    ·exact .inr ⟨by omega,by omega,h.2.2⟩
def AllIn:List Int→List Int→Prop
 | [],[]=>True
 | m :: ms,w :: ws=>w ∈ maskVals m∧AllIn ms ws
 | _,_=>False
theorem AllIn.len:∀ {ms ws:List Int},AllIn ms ws→ws.length=ms.length
 | [],[],_=>rfl
 | _ :: _,_ :: _,h=>by simp [AllIn.len h.2]
 | [],_ :: _,h=>h.elim
 | _ :: _,[],h=>h.elim
theorem AllIn.vals:∀ {ms ws:List Int},AllIn ms ws→∀ w ∈ ws,1 ≤ w∧w ≤ 4
 | [],[],_,w,hw=>by cases hw
 | _ :: _,_ :: _,h,w,hw=>by
  rcases List.mem_cons.1 hw with e | e
  ·rw [e]; exact maskVals_mem h.1
  ·exact AllIn.vals h.2 w e
 | [],_ :: _,h,_,_=>h.elim
 | _ :: _,[],h,_,_=>h.elim
theorem ways_has (h:List Int→Bool):∀ (ms vals fl:List Int),Vals vals→vals.length + ms.length ≤ 4→Ms fl→vals.length + ms.length ≤ fl.length→∀ x v:Nat,x < vals.length + ms.length →
  (has ((ways h ms vals fl).getD x 0) v=true ↔ has (fl.getD x 0) v=true ∨ ∃ ws,AllIn ms ws∧h (vals ++ ws)=true∧(vals ++ ws).getD x 0=(v:Int))
 | [],vals,fl,hv,hl4,hf,hl,x,v,hx=>by
  simp only [Zm,Nat.add_zero] at hx hl
  have key:(∃ ws,AllIn [] ws∧h (vals ++ ws)=true∧(vals ++ ws).getD x 0=(v:Int)) ↔ (h vals=true∧vals.getD x 0=(v:Int)):=by
   constructor
   ·rintro ⟨ws,h1,h2,h3⟩
    cases ws with
    | nil=>rw [List.append_nil] at h2 h3; exact ⟨h2,h3⟩
    | cons w ws=>exact h1.elim
   ·rintro ⟨h1,h2⟩
    exact ⟨[],trivial,by rw [List.append_nil]; exact h1,by rw [List.append_nil]; exact h2⟩
  rw [key,ways]
  split
  ·rename_i hh
   unfold orAll
   rw [orFrom_has hv vals.length 0 hf (by omega) hl]
   constructor
   ·rintro (a | a)
    ·exact .inl a
    ·exact .inr ⟨hh,a.2.2⟩
   ·rintro (a | a)
    ·exact .inl a
    ·exact .inr ⟨by omega,by omega,a.2⟩
  ·rename_i hh
   constructor
   ·exact .inl
   ·rintro (a | a)
    ·exact a
    ·exact absurd a.1 hh
 | m :: ms,vals,fl,hv,hl4,hf,hl,x,v,hx=>by
  simp only [Zl] at hl4 hl hx
  have key:∀ (L:List Int) (fl:List Int),(∀ w ∈ L,1 ≤ w∧w ≤ 4)→Ms fl→vals.length + ms.length + 1 ≤ fl.length →
    (has ((L.foldl (fun f v=>ways h ms (vals ++ [v]) f) fl).getD x 0) v=true ↔ has (fl.getD x 0) v=true ∨ ∃ w ∈ L,∃ ws,AllIn ms ws∧h (vals ++ w :: ws)=true∧(vals ++ w :: ws).getD x 0=(v:Int)):=by
   intro L
   induction L with
   | nil=>intro fl _ _ _; simp
   | cons w L ih=>
    intro fl hL hf hl
    have hw:=hL w (by simp)
    have hv1:=hv.app (show vals.length < 4 by omega) (v:=w) ⟨by omega,hw.2⟩
    have w1:=ways_ok h ms (vals ++ [w]) fl hv1 (by simp; omega) hf
    have w2:=ways_has h ms (vals ++ [w]) fl hv1 (by simp; omega) hf (by simp; omega) x v (by simp; omega)
    rw [List.foldl_cons,ih _ (fun y hy=>hL y (by simp [hy])) w1.1 (by rw [w1.2]; exact hl),w2]
    simp only [List.append_assoc,List.singleton_append]
    constructor
    ·rintro ((a | ⟨ws,a⟩) | ⟨y,hy,ws,a⟩)
     ·exact .inl a
     ·exact .inr ⟨w,by simp,ws,a⟩
     ·exact .inr ⟨y,by simp [hy],ws,a⟩
    ·rintro (a | ⟨y,hy,ws,a⟩)
     ·exact .inl (.inl a)
     ·rcases List.mem_cons.1 hy with e | e
      ·subst e; exact .inl (.inr ⟨ws,a⟩)
      ·exact .inr ⟨y,e,ws,a⟩
  rw [ways,key (maskVals m) fl (fun w hw=>maskVals_mem hw) hf (by omega)]
  constructor
  ·rintro (a | ⟨w,hw,ws,a1,a2,a3⟩)
   ·exact .inl a
   ·exact .inr ⟨w :: ws,⟨hw,a1⟩,a2,a3⟩
  ·rintro (a | ⟨ws,a1,a2,a3⟩)
   ·exact .inl a
   ·cases ws with
    | nil=>exact a1.elim
    | cons w ws=>exact .inr ⟨w,a1.1,ws,a1.2,a2,a3⟩
theorem has_zero (v:Nat):has 0 v=false:=by unfold has; simp
theorem ruleMasks_has {kind value:Int} {own:List Int} (hl:own.length ≤ 4) (x v:Nat) (hx:x < own.length) :
  has ((ruleMasksV kind value own).getD x 0) v=true ↔ ∃ ws,AllIn own ws∧holdsV kind value ws=true∧ws.getD x 0=(v:Int):=by
 unfold ruleMasksV
 rw [ways_has _ own [] _ ⟨by simp,fun v hv=>by cases hv⟩ (by simpa using hl) (Ms.zeros _) (by simp) x v (by simpa using hx)]
 have e:(List.replicate own.length (0:Int)).getD x 0=0:=by simp [List.getD_eq_getElem?_getD,hx]
 rw [e,has_zero]
 simp
theorem ruleMasks_ok {kind value:Int} {own:List Int} (hl:own.length ≤ 4):Ms (ruleMasksV kind value own)∧(ruleMasksV kind value own).length=own.length:=by
 have:=ways_ok (holdsV kind value) own [] (List.replicate own.length 0) ⟨by simp,fun v hv=>by cases hv⟩ (by simpa using hl) (Ms.zeros _)
 exact ⟨this.1,this.2.trans (by simp)⟩
theorem ne_zero_has {m:Int} (hm:M m):m ≠ 0 ↔ ∃ v:Nat,has m v=true:=by
 constructor
 ·intro h
  apply Classical.byContradiction
  intro hc
  apply h
  refine m_ext hm ⟨by decide,by decide⟩ fun v _=>?_
  rw [has_zero]
  cases e:has m v with
  | false=>rfl
  | true=>exact absurd ⟨v,e⟩ hc
 ·rintro ⟨v,hv⟩ e
  rw [e,has_zero] at hv; cases hv
theorem head_getD (l:List Int):l.headD 0=l.getD 0 0:=by cases l <;> rfl
theorem canHold_iff {n:Int} {g:List Int} {r:V} (h1:1 ≤ r.2.1.length) (h4:r.2.1.length ≤ 4):canHoldV n g r=true ↔ ∃ ws,AllIn (ownOf (openOf n g) r.2.1) ws∧holdsV r.1 r.2.2 ws=true:=by
 unfold canHoldV
 have hl:(ownOf (openOf n g) r.2.1).length=r.2.1.length:=by simp [ownOf]
 have ho:=ruleMasks_ok (kind:=r.1) (value:=r.2.2) (own:=ownOf (openOf n g) r.2.1) (by omega)
 rw [bne_iff_ne,head_getD,ne_zero_has (ho.1.at 0)]
 constructor
 ·rintro ⟨v,hv⟩
  obtain ⟨ws,a,b,_⟩:=(ruleMasks_has (by omega) 0 v (by omega)).1 hv
  exact ⟨ws,a,b⟩
 ·rintro ⟨ws,a,b⟩
  have hwl:=a.len
  have hw:=a.vals _ (mem_getD (show 0 < ws.length by omega))
  refine ⟨(ws.getD 0 0).toNat,(ruleMasks_has (by omega) 0 _ (by omega)).2 ⟨ws,a,b,by omega⟩⟩
theorem tab_mv:∀ m:Nat,m < 16→∀ w:Nat,w < 6→((maskVals ((2 * m:Nat):Int)).contains (w:Int)=(decide (1 ≤ w) && (2 * m).testBit w)):=by decide +kernel
theorem mem_maskVals {m w:Int} (hm:0 ≤ m∧m ≤ 30) (he:m.tmod 2=0):w ∈ maskVals m ↔ (1 ≤ w∧w ≤ 4)∧has m w.toNat=true:=by
 obtain ⟨a,ha⟩:∃ a:Nat,m=((2 * a:Nat):Int):=⟨(m / 2).toNat,by rw [Int.tmod_eq_emod_of_nonneg hm.1] at he; omega⟩
 have ha16:a < 16:=by omega
 by_cases hw:1 ≤ w∧w ≤ 4
 ·obtain ⟨b,rfl⟩:=Int.eq_ofNat_of_zero_le (show 0 ≤ w by omega)
  have:=tab_mv a ha16 b (by omega)
  rw [← ha] at this
  rw [← List.contains_iff_mem,this]
  have h1:1 ≤ b:=by omega
  have e:has m ((b:Nat):Int).toNat=(2 * a).testBit b:=by unfold has; rw [ha,Int.toNat_natCast,Int.toNat_natCast]
  rw [e]
  simp [h1,hw]
 ·constructor
  ·intro h; exact absurd (maskVals_mem h) hw
  ·intro h; exact absurd h.1 hw
def Le (g' g:List Int):Prop:=g'.length=g.length∧∀ i:Nat,g'.getD i 0=0 ∨ g'.getD i 0=g.getD i 0
theorem Le.refl (g:List Int):Le g g:=⟨rfl,fun _=>.inr rfl⟩
theorem Le.trans {a b c:List Int} (h:Le a b) (h':Le b c):Le a c:=⟨h.1.trans h'.1,fun i=>by
 rcases h.2 i with e | e
 ·exact .inl e
 ·rw [e]; exact h'.2 i⟩
theorem Le.gv {g' g:List Int} (h:Le g' g) (c:Int):gv g' c=0 ∨ gv g' c=gv g c:=h.2 c.toNat
theorem getD_set {l:List Int} {i j:Nat} {v:Int}:(l.set i v).getD j 0=if i=j∧i < l.length then v else l.getD j 0:=by
 rw [List.getD_eq_getElem?_getD,List.getElem?_set]
 by_cases e:i=j
 ·subst e
  by_cases h:i < l.length
  ·simp [h]
  ·simp [h,List.getD_eq_getElem?_getD,List.getElem?_eq_none (Nat.le_of_not_lt h)]
 ·simp [e]
theorem clashL_anti {g' g:List Int} (h:Le g' g):∀ (cells s' s:List Int),(∀ v,0 < v→v ∈ s'→v ∈ s)→clashL g' cells s'=true→clashL g cells s=true
 | [],s',s,_,hc=>by cases hc
 | c :: cs,s',s,hs,hc=>by
  rw [clashL] at hc ⊢
  rw [Bool.or_eq_true,Bool.and_eq_true,decide_eq_true_eq,List.contains_iff_mem] at hc ⊢
  rcases h.gv c with e | e
  ·rcases hc with ⟨a,_⟩ | a
   ·omega
   ·refine .inr (clashL_anti h cs _ _ (fun v hv hm=>?_) a)
    rw [e] at hm
    rcases List.mem_cons.1 hm with e' | e'
    ·omega
    ·exact List.mem_cons_of_mem _ (hs v hv e')
  ·rw [e] at hc
   rcases hc with ⟨a,b⟩ | a
   ·exact .inl ⟨a,hs _ a b⟩
   ·refine .inr (clashL_anti h cs _ _ (fun v hv hm=>?_) a)
    rcases List.mem_cons.1 hm with e' | e'
    ·rw [e']; exact List.mem_cons_self
    ·exact List.mem_cons_of_mem _ (hs v hv e')
theorem clashFrom_anti {g' g:List Int} (h:Le g' g) (n:Int):∀ (j line:Nat),clashFrom g' n line j=true→clashFrom g n line j=true
 | 0,_,hc=>by cases hc
 | j + 1,line,hc=>by
  rw [clashFrom,Bool.or_eq_true] at hc ⊢
  rcases hc with a | a
  ·exact .inl (clashL_anti h _ _ _ (fun v _ hm=>hm) a)
  ·exact .inr (clashFrom_anti h n j (line + 1) a)
theorem clash_anti {g' g:List Int} (h:Le g' g) (n:Int) (hc:clash g n=false):clash g' n=false:=by
 cases e:clash g' n with
 | false=>rfl
 | true=>
  have:clash g n=true:=clashFrom_anti h n _ _ e
  rw [this] at hc; cases hc
theorem compatFrom_iff (a g:List Int):∀ (j i:Nat),compatFrom a g i j=true ↔ ∀ x,i ≤ x→x < i + j→a.getD x 0 > 0→g.getD x 0 > 0→g.getD x 0=a.getD x 0
 | 0,i=>by simp [compatFrom]; intro x h1 h2; omega
 | j + 1,i=>by
  rw [compatFrom,Bool.and_eq_true,compatFrom_iff a g j (i + 1)]
  simp only [Bool.not_eq_true',Bool.and_eq_false_iff,decide_eq_false_iff_not,bne_eq_false_iff_eq]
  constructor
  ·rintro ⟨h1,h2⟩ x hx1 hx2 ha hg
   by_cases e:x=i
   ·subst e
    rcases h1 with h1 | h1 | h1
    ·omega
    ·omega
    ·exact h1
   ·exact h2 x (by omega) (by omega) ha hg
  ·intro h
   refine ⟨?_,fun x h1 h2=>h x (by omega) (by omega)⟩
   by_cases h1:a.getD i 0 > 0
   ·by_cases h2:g.getD i 0 > 0
    ·exact .inr (.inr (h i (by omega) (by omega) h1 h2))
    ·exact .inr (.inl h2)
   ·exact .inl h1
theorem compatB_iff (a g:List Int):compatB a g=true ↔ ∀ x,x < g.length→a.getD x 0 > 0→g.getD x 0 > 0→g.getD x 0=a.getD x 0:=by
 unfold compatB
 rw [compatFrom_iff]
 constructor
 ·intro h x hx; exact h x (by omega) (by omega)
 ·intro h x _ hx; exact h x (by omega)
theorem AllIn.mono:∀ {ms ms' ws:List Int},ms.length=ms'.length→(∀ i,i < ms.length→∀ w,w ∈ maskVals (ms.getD i 0)→w ∈ maskVals (ms'.getD i 0))→AllIn ms ws→AllIn ms' ws
 | [],[],[],_,_,_=>trivial
 | m :: ms,m' :: ms',w :: ws,hl,hs,h=>⟨hs 0 (by simp) w h.1,AllIn.mono (by simpa using hl) (fun i hi w hw=>hs (i + 1) (by simpa using hi) w hw) h.2⟩
 | [],_ :: _,_,hl,_,_=>by simp at hl
 | _ :: _,[],_,hl,_,_=>by simp at hl
 | [],[],_ :: _,_,_,h=>h.elim
 | _ :: _,_ :: _,[],_,_,h=>h.elim
theorem tab_open:∀ n:Int,2 ≤ n∧n ≤ 4→(∀ v:Int,1 ≤ v∧v ≤ n→maskVals (pw v)=[v])∧maskVals (topMask n)=upto n.toNat 1:=by
 intro n hn
 have:n=2 ∨ n=3 ∨ n=4:=by omega
 rcases this with rfl | rfl | rfl
 all_goals
  refine ⟨fun v hv=>?_,by decide⟩
  have:v=1 ∨ v=2 ∨ v=3 ∨ v=4:=by omega
  rcases this with rfl | rfl | rfl | rfl <;> first | omega | decide
theorem mem_upto:∀ (j:Nat) (v w:Int),w ∈ upto j v ↔ v ≤ w∧w < v + j
 | 0,v,w=>by
  constructor
  ·intro h; cases h
  ·intro h; omega
 | j + 1,v,w=>by rw [upto,List.mem_cons,mem_upto j]; push_cast; omega
theorem openOf_at {n:Int} {g:List Int} {i:Nat} (hi:i < g.length):(openOf n g).getD i 0=if g.getD i 0 > 0 then pw (g.getD i 0) else topMask n:=by
 unfold openOf
 rw [List.getD_eq_getElem?_getD,List.getElem?_map,List.getElem?_eq_getElem hi,List.getD_eq_getElem?_getD (l:=g),List.getElem?_eq_getElem hi]; rfl
theorem open_vals {n:Int} {g:List Int} (hg:gridOk g n=true) {i:Nat} (hi:i < g.length) (w:Int):w ∈ maskVals ((openOf n g).getD i 0) ↔ (1 ≤ w∧w ≤ n)∧(g.getD i 0 > 0→w=g.getD i 0):=by
 obtain ⟨hn,h2,h3⟩:=(gridOk_iff g n).1 hg
 have hv:=h3 _ (mem_getD hi)
 obtain ⟨t1,t2⟩:=tab_open n hn
 rw [openOf_at hi]
 split
 ·rename_i c
  rw [t1 _ ⟨by omega,hv.2⟩]
  simp only [List.mem_singleton]
  constructor
  ·intro e; subst e; exact ⟨⟨by omega,hv.2⟩,fun _=>rfl⟩
  ·intro h; exact h.2 c
 ·rename_i c
  rw [t2,mem_upto]
  constructor
  ·intro h; exact ⟨by omega,fun h=>absurd h c⟩
  ·intro h; omega
theorem canHold_anti {n:Int} {g' g:List Int} (h:Le g' g) (hg:gridOk g n=true) (hg':gridOk g' n=true) {r:V} (hr:ruleOkV n r=true) (hc:canHoldV n g r=true):canHoldV n g' r=true:=by
 obtain ⟨c1,c2,c3,c4⟩:=ruleOk_cells hr
 have hl:=((gridOk_iff g n).1 hg).2.1
 have hl':=h.1
 rw [canHold_iff c3 c2] at hc ⊢
 obtain ⟨ws,a,b⟩:=hc
 refine ⟨ws,a.mono (by simp [ownOf]) (fun i hi w hw=>?_),b⟩
 have hi':i < r.2.1.length:=by simpa [ownOf] using hi
 have hcc:=c1 _ (mem_getD hi')
 have e:∀ g:List Int,(ownOf (openOf n g) r.2.1).getD i 0=(openOf n g).getD (r.2.1.getD i 0).toNat 0:=fun g=>by
  unfold ownOf
  rw [List.getD_eq_getElem?_getD,List.getElem?_map,List.getElem?_eq_getElem hi',List.getD_eq_getElem?_getD (l:=r.2.1),List.getElem?_eq_getElem hi']; rfl
 rw [e] at hw ⊢
 have hlt:(r.2.1.getD i 0).toNat < g.length:=by omega
 rw [open_vals hg hlt] at hw
 rw [open_vals hg' (by omega)]
 refine ⟨hw.1,fun h1=>?_⟩
 rcases h.2 (r.2.1.getD i 0).toNat with e1 | e1
 ·omega
 ·rw [e1] at h1 ⊢; exact hw.2 h1
theorem grid_le {n:Int} {g' g:List Int} (h:Le g' g) (hg:gridOk g n=true):gridOk g' n=true:=by
 obtain ⟨hn,h2,h3⟩:=(gridOk_iff g n).1 hg
 refine (gridOk_iff g' n).2 ⟨hn,by rw [h.1]; exact h2,fun v hv=>?_⟩
 obtain ⟨i,hi,rfl⟩:=List.getElem_of_mem hv
 have e:g'.getD i 0=g'[i]:=by simp [List.getD_eq_getElem?_getD,hi]
 have hi2:i < g.length:=by rw [← h.1]; exact hi
 have:=h3 _ (mem_getD hi2)
 rcases h.2 i with e1 | e1
 ·rw [← e,e1]; omega
 ·rw [← e,e1]; exact this
theorem fits_anti {n:Int} {given:List Int} {vs:List V} {g' g:List Int} (h:Le g' g) (hg:gridOk g n=true) (hv:vs.all (ruleOkV n)=true) (hc:fitsV n given vs g=true):fitsV n given vs g'=true:=by
 unfold fitsV at hc ⊢
 simp only [Bool.and_eq_true,List.all_eq_true,Bool.not_eq_true'] at hc hv ⊢
 refine ⟨?_,fun r hr=>canHold_anti h hg (grid_le h hg) (hv r hr) (hc.2.1 r hr),clash_anti h n hc.2.2⟩
 rw [compatB_iff] at hc ⊢
 intro x hx ha hg1
 rcases h.2 x with e | e
 ·omega
 ·rw [e] at hg1 ⊢; exact hc.1 x (by rw [← h.1]; exact hx) ha hg1
theorem zt2:(2:Int).toNat=2:=rfl
theorem zt3:(3:Int).toNat=3:=rfl
theorem zt4:(4:Int).toNat=4:=rfl
theorem clashL_iff (g:List Int):∀ (cells seen:List Int),clashL g cells seen=true ↔ ∃ i,i < cells.length∧0 < gv g (cells.getD i 0)∧(gv g (cells.getD i 0) ∈ seen ∨ ∃ j,j < i∧gv g (cells.getD j 0)=gv g (cells.getD i 0))
 | [],seen=>by simp [clashL]
 | c :: cs,seen=>by
  rw [clashL,Bool.or_eq_true,Bool.and_eq_true,decide_eq_true_eq,List.contains_iff_mem,clashL_iff g cs]
  constructor
  ·rintro (⟨h1,h2⟩ | ⟨i,hi,h1,h2⟩)
   ·exact ⟨0,by simp,h1,.inl h2⟩
   ·refine ⟨i + 1,by simpa using hi,h1,?_⟩
    rcases h2 with h2 | ⟨j,hj,h2⟩
    ·rcases List.mem_cons.1 h2 with e | e
     ·exact .inr ⟨0,by omega,e.symm⟩
     ·exact .inl e
    ·exact .inr ⟨j + 1,by omega,h2⟩
  ·rintro ⟨i,hi,h1,h2⟩
   cases i with
   | zero=>
    rcases h2 with h2 | ⟨j,hj,_⟩
    ·exact .inl ⟨h1,h2⟩
    ·omega
   | succ i=>
    refine .inr ⟨i,by simpa using hi,h1,?_⟩
    rcases h2 with h2 | ⟨j,hj,h2⟩
    ·exact .inl (List.mem_cons_of_mem _ h2)
    ·cases j with
     | zero=>exact .inl (by have e:gv g c=gv g (cs.getD i 0):=h2; rw [← e]; exact List.mem_cons_self)
     | succ j=>exact .inr ⟨j,by omega,h2⟩
theorem clashFrom_iff (g:List Int) (n:Int):∀ (j line:Nat),clashFrom g n line j=true ↔ ∃ ln:Nat,line ≤ ln∧ln < line + j∧clashL g (lineCells n ln) []=true
 | 0,line=>by simp [clashFrom]; omega
 | j + 1,line=>by
  rw [clashFrom,Bool.or_eq_true,clashFrom_iff g n j]
  constructor
  ·rintro (h | ⟨ln,h1,h2,h3⟩)
   ·exact ⟨line,Nat.le_refl _,by omega,h⟩
   ·exact ⟨ln,by omega,by omega,h3⟩
  ·rintro ⟨ln,h1,h2,h3⟩
   by_cases e:ln=line
   ·subst e; exact .inl h3
   ·exact .inr ⟨ln,by omega,by omega,h3⟩
def sameLine (N x y:Nat):Prop:=x / N=y / N ∨ x % N=y % N
theorem line_at {n:Int} (hn:2 ≤ n∧n ≤ 4) {ln i:Nat} (hl:(ln:Int) < 2 * n) (hi:(i:Int) < n):(lineCells n ln).getD i 0=lineCell n ln i∧(lineCells n ln).length=n.toNat:=by
 unfold lineCells
 rw [if_pos ⟨hn,by omega,hl⟩]
 refine ⟨?_,by simp⟩
 rw [List.getD_eq_getElem?_getD,List.getElem?_map,List.getElem?_range (by omega)]; rfl
theorem clash_iff {n:Int} (hn:2 ≤ n∧n ≤ 4) (g:List Int):clash g n=true ↔ ∃ x y:Nat,x < n.toNat * n.toNat∧y < n.toNat * n.toNat∧x ≠ y∧sameLine n.toNat x y∧0 < g.getD x 0∧g.getD y 0=g.getD x 0:=by
 have e0:clash g n=clashFrom g n 0 (2 * n).toNat:=rfl
 rw [e0,clashFrom_iff]
 have gvd:∀ c:Int,gv g c=g.getD c.toNat 0:=fun _=>rfl
 constructor
 ·rintro ⟨ln,_,h2,h3⟩
  have hl:(ln:Int) < 2 * n:=by omega
  rw [clashL_iff] at h3
  obtain ⟨i,hi,h4,h5⟩:=h3
  rw [(line_at hn hl (i:=0) (by omega)).2] at hi
  have hi':(i:Int) < n:=by omega
  rcases h5 with h5 | ⟨j,hj,h5⟩
  ·cases h5
  rw [(line_at hn hl hi').1,gvd] at h4 h5
  rw [(line_at hn hl (i:=j) (by omega)).1,gvd] at h5
  refine ⟨(lineCell n ln i).toNat,(lineCell n ln j).toNat,?_,?_,?_,?_,h4,h5⟩
  all_goals
   have:n=2 ∨ n=3 ∨ n=4:=by omega
   unfold lineCell
   try unfold sameLine
   rcases this with rfl | rfl | rfl
  all_goals
   split
  all_goals
   try simp only [zt2,zt3,zt4] at *
   omega
 ·rintro ⟨x,y,hx,hy,hne,hs,h1,h2⟩
  have key:∀ x y:Nat,x < n.toNat * n.toNat→y < n.toNat * n.toNat→∀ ln i j:Nat,(ln:Int) < 2 * n→(i:Int) < n→j < i→(lineCell n ln i).toNat=x→(lineCell n ln j).toNat=y→0 < g.getD x 0→g.getD y 0=g.getD x 0→∃ ln:Nat,0 ≤ ln∧ln < 0 + (2 * n).toNat∧clashL g (lineCells n ln) []=true:=by
   intro x y hx hy ln i j hl hi hj e1 e2 h1 h2
   refine ⟨ln,by omega,by omega,(clashL_iff _ _ _).2 ⟨i,by rw [(line_at hn hl hi).2]; omega,?_,.inr ⟨j,hj,?_⟩⟩⟩
   ·rw [(line_at hn hl hi).1,gvd,e1]; exact h1
   ·rw [(line_at hn hl hi).1,(line_at hn hl (i:=j) (by omega)).1,gvd,gvd,e1,e2]; exact h2
  have hrow:∀ x y:Nat,x < n.toNat * n.toNat→y < n.toNat * n.toNat→x / n.toNat=y / n.toNat→y % n.toNat < x % n.toNat→0 < g.getD x 0→g.getD y 0=g.getD x 0→∃ ln:Nat,0 ≤ ln∧ln < 0 + (2 * n).toNat∧clashL g (lineCells n ln) []=true:=by
   intro x y hx hy h3 h4 h1 h2
   refine key x y hx hy (x / n.toNat) (x % n.toNat) (y % n.toNat) ?_ ?_ h4 ?_ ?_ h1 h2
   all_goals
    have:n=2 ∨ n=3 ∨ n=4:=by omega
    try unfold lineCell
    rcases this with rfl | rfl | rfl
   all_goals
    try split
   all_goals
    try simp only [zt2,zt3,zt4] at *
    omega
  have hcol:∀ x y:Nat,x < n.toNat * n.toNat→y < n.toNat * n.toNat→x % n.toNat=y % n.toNat→y / n.toNat < x / n.toNat→0 < g.getD x 0→g.getD y 0=g.getD x 0→∃ ln:Nat,0 ≤ ln∧ln < 0 + (2 * n).toNat∧clashL g (lineCells n ln) []=true:=by
   intro x y hx hy h3 h4 h1 h2
   refine key x y hx hy (n.toNat + x % n.toNat) (x / n.toNat) (y / n.toNat) ?_ ?_ h4 ?_ ?_ h1 h2
   all_goals
    have:n=2 ∨ n=3 ∨ n=4:=by omega
    try unfold lineCell
    rcases this with rfl | rfl | rfl
   all_goals
    try split
   all_goals
    try simp only [zt2,zt3,zt4] at *
    omega
  have h2':g.getD x 0=g.getD y 0:=h2.symm
  have h1':0 < g.getD y 0:=by omega
  have hxy:x / n.toNat=y / n.toNat→x % n.toNat ≠ y % n.toNat:=fun h3 h4=>hne (by rw [← Nat.div_add_mod x n.toNat,← Nat.div_add_mod y n.toNat,h3,h4])
  rcases hs with hs | hs
  ·rcases Nat.lt_or_gt_of_ne (hxy hs) with h | h
   ·exact hrow y x hy hx hs.symm h h1' h2'
   ·exact hrow x y hx hy hs h h1 h2
  ·have:x / n.toNat ≠ y / n.toNat:=fun h=>hxy h hs
   rcases Nat.lt_or_gt_of_ne this with h | h
   ·exact hcol y x hy hx hs.symm h h1' h2'
   ·exact hcol x y hx hy hs h h1 h2
/-! ### One cell more -/
def cellFrom (N:Nat) (g:List Int) (at':Nat):Nat→Nat→Bool
 | _,0=>false
 | k,j + 1=>(decide (at' / N * N + k ≠ at') && decide (g.getD (at' / N * N + k) 0=g.getD at' 0)) || ((decide (k * N + at' % N ≠ at') && decide (g.getD (k * N + at' % N) 0=g.getD at' 0)) || cellFrom N g at' (k + 1) j)
theorem cellFrom_iff (N:Nat) (g:List Int) (at':Nat):∀ (j k:Nat),cellFrom N g at' k j=true ↔ ∃ u,k ≤ u∧u < k + j∧((at' / N * N + u ≠ at'∧g.getD (at' / N * N + u) 0=g.getD at' 0) ∨ (u * N + at' % N ≠ at'∧g.getD (u * N + at' % N) 0=g.getD at' 0))
 | 0,k=>by simp [cellFrom]; omega
 | j + 1,k=>by
  rw [cellFrom,Bool.or_eq_true,Bool.or_eq_true,Bool.and_eq_true,Bool.and_eq_true,cellFrom_iff N g at' j]
  simp only [decide_eq_true_eq]
  constructor
  ·rintro (h | h | ⟨u,h1,h2,h3⟩)
   ·exact ⟨k,Nat.le_refl _,by omega,.inl h⟩
   ·exact ⟨k,Nat.le_refl _,by omega,.inr h⟩
   ·exact ⟨u,by omega,by omega,h3⟩
  ·rintro ⟨u,h1,h2,h3⟩
   by_cases e:u=k
   ·subst e
    rcases h3 with h3 | h3
    ·exact .inl h3
    ·exact .inr (.inl h3)
   ·exact .inr (.inr ⟨u,by omega,by omega,h3⟩)
def cellFitsV (n:Int) (vs:List V) (g:List Int) (at':Nat):Bool:=!cellFrom n.toNat g at' 0 n.toNat && vs.all fun r=>!r.2.1.contains (at':Int) || canHoldV n g r
theorem cell_clash {n:Int} (hn:2 ≤ n∧n ≤ 4) {g:List Int} (hl:g.length=n.toNat * n.toNat) {at':Nat} (ha:at' < g.length) {v:Int} (hv:1 ≤ v) (hc:clash g n=false) (h0:g.getD at' 0=0):clash (g.set at' v) n=cellFrom n.toNat (g.set at' v) at' 0 n.toNat:=by
 have hat:(g.set at' v).getD at' 0=v:=by rw [getD_set,if_pos ⟨rfl,ha⟩]
 have hne:∀ x,x ≠ at'→(g.set at' v).getD x 0=g.getD x 0:=fun x hx=>by rw [getD_set,if_neg (by omega)]
 have hno:¬ ∃ x y:Nat,x < n.toNat * n.toNat∧y < n.toNat * n.toNat∧x ≠ y∧sameLine n.toNat x y∧0 < g.getD x 0∧g.getD y 0=g.getD x 0:=by
  intro h; rw [← clash_iff hn] at h; rw [h] at hc; cases hc
 rw [Bool.eq_iff_iff,clash_iff hn,cellFrom_iff,hat]
 have one:∀ x,x < n.toNat * n.toNat→x ≠ at'→sameLine n.toNat at' x→(g.set at' v).getD x 0=v→∃ u,0 ≤ u∧u < 0 + n.toNat∧((at' / n.toNat * n.toNat + u ≠ at'∧(g.set at' v).getD (at' / n.toNat * n.toNat + u) 0=v) ∨ (u * n.toNat + at' % n.toNat ≠ at'∧(g.set at' v).getD (u * n.toNat + at' % n.toNat) 0=v)):=by
  intro x hx hxa hs hgx
  rcases hs with hs | hs
  ·refine ⟨x % n.toNat,Nat.zero_le _,by have:=Nat.mod_lt x (show n.toNat > 0 by omega); omega,.inl ?_⟩
   have e:at' / n.toNat * n.toNat + x % n.toNat=x:=by rw [hs,Nat.mul_comm]; exact Nat.div_add_mod x n.toNat
   rw [e]; exact ⟨hxa,hgx⟩
  ·refine ⟨x / n.toNat,Nat.zero_le _,by have:=Nat.div_lt_of_lt_mul hx; omega,.inr ?_⟩
   have e:x / n.toNat * n.toNat + at' % n.toNat=x:=by rw [hs,Nat.mul_comm]; exact Nat.div_add_mod x n.toNat
   rw [e]; exact ⟨hxa,hgx⟩
 constructor
 ·rintro ⟨x,y,hx,hy,hxy,hs,h1,h2⟩
  by_cases ex:x=at'
  ·subst ex
   rw [hat] at h2
   exact one y hy (Ne.symm hxy) hs h2
  ·by_cases ey:y=at'
   ·subst ey
    rw [hat] at h2
    exact one x hx ex (by rcases hs with h | h; exact .inl h.symm; exact .inr h.symm) h2.symm
   ·rw [hne x ex] at h1 h2
    rw [hne y ey] at h2
    exact absurd ⟨x,y,hx,hy,hxy,hs,h1,h2⟩ hno
 ·rintro ⟨u,_,hu,h⟩
  have hdm:=Nat.div_add_mod at' n.toNat
  have hmul:n.toNat * (at' / n.toNat)=at' / n.toNat * n.toNat:=Nat.mul_comm _ _
  have:n=2 ∨ n=3 ∨ n=4:=by omega
  rcases h with ⟨h1,h2⟩ | ⟨h1,h2⟩
  ·refine ⟨at',at' / n.toNat * n.toNat + u,by omega,?_,Ne.symm h1,.inl ?_,by rw [hat]; omega,by rw [hat,h2]⟩
   all_goals
    rcases this with rfl | rfl | rfl <;> try simp only [zt2,zt3,zt4] at * <;> omega
  ·refine ⟨at',u * n.toNat + at' % n.toNat,by omega,?_,Ne.symm h1,.inr ?_,by rw [hat]; omega,by rw [hat,h2]⟩
   all_goals
    rcases this with rfl | rfl | rfl <;> try simp only [zt2,zt3,zt4] at * <;> omega
theorem own_away {n:Int} {g:List Int} {at':Nat} {v:Int} {cells:List Int} (hc:¬ (at':Int) ∈ cells) (hp:∀ c ∈ cells,0 ≤ c):ownOf (openOf n (g.set at' v)) cells=ownOf (openOf n g) cells:=by
 unfold ownOf
 refine List.map_congr_left fun c hm=>?_
 have hne:at' ≠ c.toNat:=fun e=>hc (by have:=hp c hm; rw [show (at':Int)=c by omega]; exact hm)
 unfold gv openOf
 rw [List.getD_eq_getElem?_getD,List.getD_eq_getElem?_getD,List.getElem?_map,List.getElem?_map,List.getElem?_set_ne hne]
theorem fits_step {n:Int} {given:List Int} {vs:List V} {g:List Int} (hf:fitsV n given vs g=true) (hg:gridOk g n=true) (hle:Le given g) (hgg:∀ x,0 ≤ given.getD x 0) {at':Nat} (ha:at' < g.length) (h0:g.getD at' 0=0) {v:Int} (hv:1 ≤ v∧v ≤ n) (hro:∀ r ∈ vs,ruleOkV n r=true) :
  fitsV n given vs (g.set at' v)=cellFitsV n vs (g.set at' v) at':=by
 obtain ⟨hn,h2,_⟩:=(gridOk_iff g n).1 hg
 unfold fitsV at hf ⊢
 simp only [Bool.and_eq_true,Bool.not_eq_true',List.all_eq_true] at hf
 obtain ⟨f1,f2,f3⟩:=hf
 have hl:g.length=n.toNat * n.toNat:=by
  have:n=2 ∨ n=3 ∨ n=4:=by omega
  rcases this with rfl | rfl | rfl <;> simp <;> omega
 have hc:compatB given (g.set at' v)=true:=by
  rw [compatB_iff] at f1 ⊢
  intro x hx h1 h3
  rw [getD_set] at h3 ⊢
  have hx':x < g.length:=by simpa using hx
  by_cases e:at'=x
  ·subst e
   rcases hle.2 at' with e | e <;> omega
  ·rw [if_neg (by omega)] at h3 ⊢; exact f1 x hx' h1 h3
 unfold cellFitsV
 rw [hc,Bool.true_and,cell_clash hn hl ha hv.1 f3 h0,Bool.and_comm]
 congr 1
 rw [Bool.eq_iff_iff,List.all_eq_true,List.all_eq_true]
 refine forall_congr' fun r=>forall_congr' fun hr=>?_
 by_cases hm:(at':Int) ∈ r.2.1
 ·have:r.2.1.contains (at':Int)=true:=List.contains_iff_mem.2 hm
  rw [this]; simp
 ·have:r.2.1.contains (at':Int)=false:=by rw [← Bool.not_eq_true,List.contains_iff_mem]; exact hm
  rw [this]
  have e:canHoldV n (g.set at' v) r=canHoldV n g r:=by
   unfold canHoldV
   rw [own_away hm fun c h=>((ruleOk_cells (hro r hr)).1 c h).1]
  rw [e,f2 r hr]; simp
theorem ext_getD {a b:List Int} (hl:a.length=b.length) (h:∀ i,i < a.length→a.getD i 0=b.getD i 0):a=b:=by
 apply List.ext_getElem hl
 intro i h1 h2
 have:=h i h1
 rw [List.getD_eq_getElem?_getD,List.getElem?_eq_getElem h1,List.getD_eq_getElem?_getD,List.getElem?_eq_getElem h2] at this
 exact this
theorem grid_set'' {g:List Int} {n:Int} (h:gridOk g n=true) (i:Nat) (v:Int) (hv:0 ≤ v∧v ≤ n):gridOk (g.set i v) n=true:=by
 obtain ⟨h1,h2,h3⟩:=(gridOk_iff g n).1 h
 refine (gridOk_iff _ n).2 ⟨h1,by simpa using h2,fun x hx=>?_⟩
 rcases List.mem_or_eq_of_mem_set hx with h | h
 ·exact h3 x h
 ·subst h; exact hv
theorem Le.up {g x:List Int} (h:Le g x) {i:Nat} (hi:i < g.length):Le (g.set i (x.getD i 0)) x:=⟨by simpa using h.1,fun j=>by
 rw [getD_set]
 split
 ·rename_i e; right; rw [e.1]
 ·exact h.2 j⟩
theorem Le.set {g:List Int} {i:Nat} (h0:g.getD i 0=0) (v:Int):Le g (g.set i v):=⟨by simp,fun j=>by
 rw [getD_set]
 split
 ·rename_i e; left; rw [← e.1]; exact h0
 ·exact .inr rfl⟩
def full (x:List Int):Prop:=∀ i,i < x.length→0 < x.getD i 0
theorem mem_sols {n:Int} {f:List Int→Bool} (hf:∀ g' g,Le g' g→gridOk g n=true→f g=true→f g'=true):∀ (rem:Nat) (g:List Int),rem ≤ g.length→gridOk g n=true→(∀ i,i < g.length - rem→0 < g.getD i 0)→f g=true→∀ x,x ∈ sols f n.toNat rem g ↔ gridOk x n=true∧Le g x∧full x∧f x=true:=by
 intro rem
 induction rem with
 | zero=>
  intro g hr hg hfu hfg x
  rw [sols,List.mem_singleton]
  constructor
  ·rintro rfl
   exact ⟨hg,Le.refl _,fun i hi=>hfu i (by omega),hfg⟩
  ·rintro ⟨h1,h2,h3,h4⟩
   refine (ext_getD h2.1 fun i hi=>?_).symm
   have:=hfu i (by omega)
   rcases h2.2 i with e | e
   ·omega
   ·exact e
 | succ rem ih=>
  intro g hr hg hfu hfg x
  have hat:g.length - (rem + 1) < g.length:=by omega
  obtain ⟨hn,h2,h3⟩:=(gridOk_iff g n).1 hg
  by_cases c:0 < g.getD (g.length - (rem + 1)) 0
  ·rw [sols,if_pos c]
   refine ih g (by omega) hg (fun i hi=>?_) hfg x
   by_cases e:i=g.length - (rem + 1)
   ·rw [e]; exact c
   ·exact hfu i (by omega)
  ·rw [sols,if_neg c,List.mem_flatMap]
   have hv:=h3 _ (mem_getD hat)
   have h0:g.getD (g.length - (rem + 1)) 0=0:=by omega
   have go:∀ v,1 ≤ v∧v ≤ n→f (g.set (g.length - (rem + 1)) v)=true→(x ∈ sols f n.toNat rem (g.set (g.length - (rem + 1)) v) ↔ gridOk x n=true∧Le (g.set (g.length - (rem + 1)) v) x∧full x∧f x=true):=fun v hv1 hfv=>by
    refine ih _ (by simp; omega) (grid_set'' hg _ v ⟨by omega,by omega⟩) (fun i hi=>?_) hfv x
    rw [List.length_set] at hi
    rw [getD_set]
    split
    ·omega
    ·rename_i e
     exact hfu i (by omega)
   constructor
   ·rintro ⟨v,hv1,hx⟩
    rw [mem_upto] at hv1
    split at hx
    ·rename_i hfv
     obtain ⟨q1,q2,q3,q4⟩:=(go v (by omega) hfv).1 hx
     exact ⟨q1,(Le.set h0 v).trans q2,q3,q4⟩
    ·cases hx
   ·rintro ⟨q1,q2,q3,q4⟩
    obtain ⟨_,l2,l3⟩:=(gridOk_iff x n).1 q1
    have hlx:g.length - (rem + 1) < x.length:=by rw [← q2.1]; exact hat
    have hxv:=l3 _ (mem_getD hlx)
    have hxp:=q3 _ hlx
    have hup:=q2.up hat
    have hfv:=hf _ _ hup q1 q4
    refine ⟨x.getD (g.length - (rem + 1)) 0,(mem_upto _ _ _).2 (by omega),?_⟩
    rw [if_pos hfv]
    exact (go _ (by omega) hfv).2 ⟨q1,hup,q3,q4⟩
theorem puzzleV_grid {n:Int} {given:List Int} {vs:List V} (h:puzzleV n given vs=true):gridOk given n=true∧vs.all (ruleOkV n)=true:=by
 unfold puzzleV at h
 simp only [Bool.and_eq_true] at h
 exact ⟨h.1,h.2.2⟩
theorem mem_allSols {n:Int} {given:List Int} {vs:List V} (hp:puzzleV n given vs=true) (x:List Int):x ∈ allSols n given vs ↔ gridOk x n=true∧Le given x∧full x∧fitsV n given vs x=true:=by
 obtain ⟨hg,hv⟩:=puzzleV_grid hp
 have anti:∀ g' g,Le g' g→gridOk g n=true→fitsV n given vs g=true→fitsV n given vs g'=true:=fun g' g h1 h2 h3=>fits_anti h1 h2 hv h3
 unfold allSols
 by_cases c:puzzleFitsV n given vs given=true
 ·rw [if_pos c]
  have c':=c
  unfold puzzleFitsV at c'
  simp only [Bool.and_eq_true] at c'
  exact mem_sols anti _ _ (Nat.le_refl _) hg (fun i hi=>by omega) c'.2.2 x
 ·rw [if_neg c]
  constructor
  ·intro h; cases h
  ·rintro ⟨h1,h2,h3,h4⟩
   refine absurd ?_ c
   unfold puzzleFitsV
   rw [hp,hg,anti _ _ h2 h1 h4]; rfl

theorem zeros_len {n:Int} (hn:2 ≤ n∧n ≤ 4):((zeros n).length:Int)=n * n∧(zeros n).length=(n * n).toNat∧(n * n).toNat ≤ 16:=by
 have:n=2 ∨ n=3 ∨ n=4:=by omega
 rcases this with rfl | rfl | rfl <;> decide
theorem zeros_at (n:Int) (i:Nat):(zeros n).getD i 0=0:=by
 unfold zeros
 rw [List.getD_eq_getElem?_getD,List.getElem?_replicate]
 split <;> rfl
theorem zeros_grid {n:Int} (hn:2 ≤ n∧n ≤ 4):gridOk (zeros n) n=true:=(gridOk_iff _ _).2 ⟨hn,(zeros_len hn).1,fun v hv=>by
 have:=(List.mem_replicate.1 hv).2; omega⟩
theorem zeros_clash {n:Int} (hn:2 ≤ n∧n ≤ 4):clash (zeros n) n=false:=by
 have:n=2 ∨ n=3 ∨ n=4:=by omega
 rcases this with rfl | rfl | rfl <;> decide
theorem zeros_Le {n:Int} {x:List Int} (hx:gridOk x n=true):Le (zeros n) x:=by
 obtain ⟨hn,h2,_⟩:=(gridOk_iff x n).1 hx
 have:=zeros_len hn
 exact ⟨by omega,fun i=>.inl (zeros_at n i)⟩
theorem clash_antiB (n:Int):∀ g' g,Le g' g→gridOk g n=true→(!clash g n)=true→(!clash g' n)=true:=fun g' g h1 _ h3=>by
 rw [Bool.not_eq_true'] at h3 ⊢; exact clash_anti h1 n h3
theorem mem_squares {n:Int} (hn:2 ≤ n∧n ≤ 4) (x:List Int):x ∈ squares n ↔ gridOk x n=true∧full x∧clash x n=false:=by
 unfold squares
 rw [mem_sols (clash_antiB n) _ _ (by have:=zeros_len hn; omega) (zeros_grid hn) (fun i hi=>by have:=zeros_len hn; omega) (by rw [zeros_clash hn]; rfl) x]
 constructor
 ·rintro ⟨a,b,c,d⟩; exact ⟨a,c,by simpa using d⟩
 ·rintro ⟨a,c,d⟩; exact ⟨a,zeros_Le a,c,by simpa using d⟩
theorem filled_eq {g:List Int}:filled g=g.length ↔ full g:=by
 unfold filled full
 rw [List.countP_eq_length]
 constructor
 ·intro h i hi; simpa using h _ (mem_getD hi)
 ·intro h v hv
  obtain ⟨i,hi,rfl⟩:=List.getElem_of_mem hv
  have:=h i hi
  rw [List.getD_eq_getElem?_getD,List.getElem?_eq_getElem hi] at this
  simpa using this
theorem sol_square {n:Int} {given:List Int} {vs:List V} (hp:puzzleV n given vs=true) {x:List Int} (hx:x ∈ allSols n given vs):x ∈ squares n:=by
 rw [mem_allSols hp] at hx
 have hn:=((gridOk_iff x n).1 hx.1).1
 rw [mem_squares hn]
 refine ⟨hx.1,hx.2.2.1,?_⟩
 have:=hx.2.2.2
 unfold fitsV at this
 simp only [Bool.and_eq_true,Bool.not_eq_true'] at this
 exact this.2.2
theorem squares_pos {n:Int} (hn:2 ≤ n∧n ≤ 4) {x:List Int} (hx:x ∈ squares n):fullG x n∧gridOk x n=true∧full x∧clash x n=false∧x.length ≤ 16:=by
 rw [mem_squares hn] at hx
 obtain ⟨_,h2,h3⟩:=(gridOk_iff x n).1 hx.1
 have:=zeros_len hn
 refine ⟨⟨by omega,fun v hv=>?_⟩,hx.1,hx.2.1,hx.2.2,gridOk_len hx.1⟩
 obtain ⟨i,hi,rfl⟩:=List.getElem_of_mem hv
 have p:=hx.2.1 i hi
 rw [List.getD_eq_getElem?_getD,List.getElem?_eq_getElem hi] at p
 have p':0 < x[i]:=by simpa using p
 exact ⟨by omega,(h3 _ (List.getElem_mem hi)).2⟩
theorem nodup_len {α:Type}:∀ (A B:List α),A.Nodup→(∀ x ∈ A,x ∈ B)→A.length ≤ B.length
 | [],B,_,_=>Nat.zero_le _
 | x :: A,B,hn,h=>by
  obtain ⟨s,t,e⟩:=List.append_of_mem (h x (by simp))
  subst e
  have hx:=(List.nodup_cons.1 hn).1
  have:=nodup_len A (s ++ t) (List.nodup_cons.1 hn).2 fun y hy=>by
   have hyx:y ≠ x:=fun e=>hx (e ▸ hy)
   have:=h y (List.mem_cons_of_mem _ hy)
   simp only [List.mem_append,List.mem_cons] at this ⊢
   rcases this with h | h | h
   ·exact .inl h
   ·exact absurd h hyx
   ·exact .inr h
  simp only [List.length_append,Zl] at this ⊢
  omega
theorem len_two:∀ {L:List Int},L.length=2→∃ x y,L=[x,y]
 | [x,y],_=>⟨x,y,rfl⟩
 | [],h=>by simp at h
 | [_],h=>by simp at h
 | _ :: _ :: _ :: _,h=>by simp at h
theorem maskOk_iff {n m:Int}:maskOk n m=true ↔ (0 ≤ m∧m ≤ topMask n)∧m.tmod 2=0:=by
 unfold maskOk
 simp
theorem tab_has0:∀ a:Nat,a < 32→((a:Int)).tmod 2=0→a.testBit 0=false:=by decide +kernel
theorem mv_has {n m:Int} (hm:maskOk n m=true) (v:Nat):has m v=true ↔ (v:Int) ∈ maskVals m:=by
 obtain ⟨h1,h2⟩:=maskOk_iff.1 hm
 have ht:=topMask_le n
 have hM:=maskOk_M hm
 rw [mem_maskVals ⟨h1.1,by omega⟩ h2,Int.toNat_natCast]
 constructor
 ·intro h
  refine ⟨?_,h⟩
  by_cases h5:5 ≤ v
  ·rw [has_big hM h5] at h; cases h
  ·by_cases h0:v=0
   ·subst h0
    obtain ⟨a,rfl,ha⟩:=hM.nat
    unfold has at h
    rw [Int.toNat_natCast,tab_has0 a ha h2] at h; cases h
   ·omega
 ·intro h; exact h.2
def InM (l g:List Int):Prop:=∀ i,i < g.length→has (l.getD i 0) (g.getD i 0).toNat=true
theorem masks_at {n:Int} {l:List Int} (h:masksOk n l=true) {i:Nat} (hi:i < l.length):maskOk n (l.getD i 0)=true:=(masksOk_iff.1 h).2.1 _ (mem_getD hi)
theorem InM.mem {n:Int} {l g:List Int} (h:InM l g) (hl:masksOk n l=true) (hg:gridOk g n=true) {i:Nat} (hi:i < g.length):g.getD i 0 ∈ maskVals (l.getD i 0):=by
 have h1:=h i hi
 have e:=((gridOk_iff g n).1 hg).2.1
 have e2:=(masksOk_iff.1 hl).2.2
 rw [mv_has (masks_at hl (show i < l.length by omega))] at h1
 have hv:=((gridOk_iff g n).1 hg).2.2 _ (mem_getD hi)
 rw [show (((g.getD i 0).toNat:Nat):Int)=g.getD i 0 by omega] at h1
 exact h1
theorem square_len {n:Int} {l g:List Int} (hl:masksOk n l=true) (hg:gridOk g n=true):g.length=l.length:=by
 have e:=((gridOk_iff g n).1 hg).2.1
 have e2:=(masksOk_iff.1 hl).2.2
 omega
theorem square_line {n:Int} (hn:2 ≤ n∧n ≤ 4) {g:List Int} (hg:g ∈ squares n) {line i j:Nat} (hl:(line:Int) < 2 * n) (hi:(i:Int) < n) (hj:(j:Int) < n) (hij:i ≠ j):g.getD (lc n line i) 0 ≠ g.getD (lc n line j) 0:=by
 rw [mem_squares hn] at hg
 obtain ⟨h1,h2,h3⟩:=hg
 have hll:(lineCells n line).length=n.toNat:=(line_at hn hl hi).2
 have hnc:¬ clashL g (lineCells n line) []=true:=fun h=>by
  have:clash g n=true:=(clashFrom_iff g n _ 0).2 ⟨line,by omega,by omega,h⟩
  rw [h3] at this; cases this
 rw [clashL_iff] at hnc
 have hpos:∀ i:Nat,(i:Int) < n→0 < g.getD (lc n line i) 0:=fun i hi=>by
  have hm:=mem_getD (l:=lineCells n line) (i:=i) (by omega)
  have:=lineCells_mem hm
  have e:=((gridOk_iff g n).1 h1).2.1
  refine h2 _ ?_
  unfold lc; omega
 have e0:∀ z:Nat,gv g ((lineCells n line).getD z 0)=g.getD (lc n line z) 0:=fun z=>rfl
 intro he
 apply hnc
 rcases Nat.lt_or_gt_of_ne hij with h | h
 ·exact ⟨j,by omega,by rw [e0]; exact hpos j hj,.inr ⟨i,h,by rw [e0,e0]; exact he⟩⟩
 ·exact ⟨i,by omega,by rw [e0]; exact hpos i hi,.inr ⟨j,h,by rw [e0,e0]; exact he.symm⟩⟩
theorem lc_lt {n:Int} (hn:2 ≤ n∧n ≤ 4) {line i:Nat} (hl:(line:Int) < 2 * n) (hi:(i:Int) < n):(lc n line i:Int) < n * n∧((lc n line i:Nat):Int)=(lineCells n line).getD i 0:=by
 have hll:(lineCells n line).length=n.toNat:=(line_at hn hl hi).2
 have hm:=mem_getD (l:=lineCells n line) (i:=i) (by omega)
 have:=lineCells_mem hm
 unfold lc; omega
theorem line_val {n:Int} (hn:2 ≤ n∧n ≤ 4) {g:List Int} (hg:g ∈ squares n) {line:Nat} (hl:(line:Int) < 2 * n) {v:Int} (hv:1 ≤ v∧v ≤ n):∃ i:Nat,(i:Int) < n∧g.getD (lc n line i) 0=v:=by
 apply Classical.byContradiction
 intro hc
 have hp:=squares_pos hn hg
 have hlen:=hp.1.1
 have hz:=zeros_len hn
 have hnd:((List.range n.toNat).map fun i=>g.getD (lc n line i) 0).Nodup:=by
  unfold List.Nodup
  rw [List.pairwise_map]
  refine List.Pairwise.imp_of_mem (fun {a b} ha hb hab=>?_) (List.nodup_range (n:=n.toNat))
  rw [List.mem_range] at ha hb
  exact square_line hn hg hl (by omega) (by omega) hab
 have:=nodup_len (v :: ((List.range n.toNat).map fun i=>g.getD (lc n line i) 0)) (upto n.toNat 1) (List.nodup_cons.2 ⟨fun h=>by
  obtain ⟨i,hi,e⟩:=List.mem_map.1 h
  rw [List.mem_range] at hi
  exact hc ⟨i,by omega,e⟩,hnd⟩) (fun x hx=>by
   rw [mem_upto]
   rcases List.mem_cons.1 hx with e | e
   ·omega
   ·obtain ⟨i,hi,e⟩:=List.mem_map.1 e
    rw [List.mem_range] at hi
    have h1:=lc_lt hn hl (show (i:Int) < n by omega)
    have h2:=hp.1.2 _ (mem_getD (show lc n line i < g.length by omega))
    omega)
 have hul:∀ (j:Nat) (v:Int),(upto j v).length=j:=fun j=>by
  induction j with
  | zero=>intro v; rfl
  | succ j ih=>intro v; rw [upto,List.length_cons,ih]
 rw [hul] at this
 simp at this
 omega
/-! ### Nothing is lost -/
theorem Sub.keeps {l l' g:List Int} {P:Nat→Nat→Prop} (h:Sub l l' P) (hl:g.length=l.length) (hin:InM l g) (hp:∀ j,j < l.length→¬ P j (g.getD j 0).toNat):InM l' g:=fun i hi=>(h.has i _ (by omega)).2 ⟨hin i hi,hp i (by omega)⟩
theorem singles_sound {n:Int} {l g:List Int} (hl:masksOk n l=true) (hg:g ∈ squares n) (hin:InM l g) {j v:Nat} (hj:j < l.length) (hp:PS n.toNat l j v):(g.getD j 0).toNat ≠ v:=by
 have hn:=(masksOk_iff.1 hl).1
 obtain ⟨k,hk,hpe,hs,hv⟩:=hp
 have hq:=squares_pos hn hg
 have hlen:=square_len hl hq.2.1
 have m1:=hin.mem hl hq.2.1 (show k < g.length by omega)
 rw [mv_has (masks_at hl hk)] at hv
 unfold single at hs
 rw [beq_iff_eq] at hs
 have e:g.getD k 0=v:=by
  obtain ⟨x,ex⟩:=List.length_eq_one_iff.1 hs
  rw [ex,List.mem_singleton] at m1 hv
  omega
 intro hc
 have gj:=hq.1.2 _ (mem_getD (show j < g.length by omega))
 have gk:=hq.1.2 _ (mem_getD (show k < g.length by omega))
 have hcl:clash g n=true:=(clash_iff hn g).2 ⟨j,k,by have:=(masksOk_iff.1 hl).2.2; rcases (show n=2 ∨ n=3 ∨ n=4 by omega) with rfl | rfl | rfl <;> simp <;> omega,by have:=(masksOk_iff.1 hl).2.2; rcases (show n=2 ∨ n=3 ∨ n=4 by omega) with rfl | rfl | rfl <;> simp <;> omega,hpe.1,hpe.2,by omega,by omega⟩
 rw [hq.2.2.2.1] at hcl; cases hcl
theorem hidden_sound {n:Int} {l g:List Int} (hl:masksOk n l=true) (hg:g ∈ squares n) (hin:InM l g) {j w:Nat} (hj:j < l.length) (hp:PH n l j w):(g.getD j 0).toNat ≠ w:=by
 have hn:=(masksOk_iff.1 hl).1
 obtain ⟨line,v,h1,h2,h3,h4,h5⟩:=hp
 have hq:=squares_pos hn hg
 have hlen:=square_len hl hq.2.1
 obtain ⟨i,hi,hiv⟩:=line_val hn hg h1 (v:=v) ⟨by omega,h3⟩
 have hc:=lc_lt hn h1 hi
 have hsz:=(masksOk_iff.1 hl).2.2
 have hh:=hin (lc n line i) (by omega)
 rw [hiv,Int.toNat_natCast] at hh
 have hm:((lc n line i:Nat):Int) ∈ lineHas n l line v:=by
  unfold lineHas
  rw [List.mem_filter,hc.2]
  refine ⟨mem_getD (by have:=(line_at hn h1 hi).2; omega),?_⟩
  rw [← hc.2,Int.toNat_natCast]; exact hh
 rw [h4,List.mem_singleton] at hm
 rw [show lc n line i=j by omega] at hiv
 omega
theorem pairs_sound {n:Int} {l g:List Int} (hl:masksOk n l=true) (hg:g ∈ squares n) (hin:InM l g) {c v:Nat} (hj:c < l.length) (hp:PQ n l c v):(g.getD c 0).toNat ≠ v:=by
 have hn:=(masksOk_iff.1 hl).1
 obtain ⟨line,i,j,k,h1,h2,h3,h4,h5,h6,h7,h8,h9,h10⟩:=hp
 have hq:=squares_pos hn hg
 have hlen:=square_len hl hq.2.1
 have hsz:=(masksOk_iff.1 hl).2.2
 have ci:=lc_lt hn h1 h3
 have cj:=lc_lt hn h1 (show (j:Int) < n by omega)
 have mi:=hin.mem hl hq.2.1 (show lc n line i < g.length by omega)
 have mj:=hin.mem hl hq.2.1 (show lc n line j < g.length by omega)
 rw [← h7] at mj
 rw [mv_has (masks_at hl (by omega))] at h10
 have dij:=square_line hn hg h1 h3 (show (j:Int) < n by omega) (by omega)
 have dki:=square_line hn hg h1 h4 h3 h5
 have dkj:=square_line hn hg h1 h4 (show (j:Int) < n by omega) h6
 unfold two at h8
 rw [beq_iff_eq] at h8
 obtain ⟨x,y,exy⟩:=len_two h8
 rw [exy] at mi mj h10
 simp only [List.mem_cons,List.not_mem_nil,or_false] at mi mj h10
 have gk:=hq.1.2 _ (mem_getD (show c < g.length by omega))
 rw [h9] at gk ⊢
 omega
def cntM (m:Int):Nat:=(maskVals m).length
def total:List Int→Nat
 | []=>0
 | m :: l=>cntM m + total l
def SubM (a b:List Int):Prop:=a.length=b.length∧∀ i v:Nat,i < b.length→has (a.getD i 0) v=true→has (b.getD i 0) v=true
theorem SubM.refl (a:List Int):SubM a a:=⟨rfl,fun _ _ _ h=>h⟩
theorem SubM.trans {a b c:List Int} (h:SubM a b) (h':SubM b c):SubM a c:=⟨h.1.trans h'.1,fun i v hi hv=>h'.2 i v hi (h.2 i v (by rw [h'.1]; exact hi) hv)⟩
theorem InM.up {a b g:List Int} (h:InM a g) (hs:SubM a b) (hl:g.length=b.length):InM b g:=fun i hi=>hs.2 i _ (by omega) (h i hi)
theorem or_of_sub {a b:Nat} (h:∀ v:Nat,a.testBit v=true→b.testBit v=true):a ||| b=b:=by
 refine Nat.eq_of_testBit_eq fun v=>?_
 rw [Nat.testBit_or]
 cases e:a.testBit v with
 | false=>simp
 | true=>rw [h v e]; rfl
theorem tab_cnt:∀ a:Nat,a < 16→∀ b:Nat,b < 16→(2 * a) ||| (2 * b)=2 * b→(cntM ((2 * a:Nat):Int) ≤ cntM ((2 * b:Nat):Int)∧(cntM ((2 * a:Nat):Int)=cntM ((2 * b:Nat):Int)→a=b)):=by decide +kernel
theorem tab_even:∀ a:Nat,a < 32→∀ b:Nat,b < 32→a ||| b=b→((b:Int)).tmod 2=0→((a:Int)).tmod 2=0:=by decide +kernel
theorem mask_sub {n a b:Int} (ha:M a) (hb:maskOk n b=true) (h:∀ v:Nat,has a v=true→has b v=true):maskOk n a=true:=by
 obtain ⟨h1,h2⟩:=maskOk_iff.1 hb
 have hM:=maskOk_M hb
 obtain ⟨x,rfl,hx⟩:=ha.nat
 obtain ⟨y,rfl,hy⟩:=hM.nat
 have e:x ||| y=y:=or_of_sub fun v hv=>h v (by unfold has; rw [Int.toNat_natCast]; exact hv)
 have hle:x ≤ y:=by rw [← e]; exact Nat.left_le_or
 exact maskOk_iff.2 ⟨⟨by omega,by omega⟩,tab_even x hx y hy e h2⟩
theorem cnt_sub {n a b:Int} (ha:maskOk n a=true) (hb:maskOk n b=true) (h:∀ v:Nat,has a v=true→has b v=true):cntM a ≤ cntM b∧(cntM a=cntM b→a=b):=by
 obtain ⟨h1,h2⟩:=maskOk_iff.1 ha
 obtain ⟨h3,h4⟩:=maskOk_iff.1 hb
 have ht:=topMask_le n
 obtain ⟨x,hx,hx16⟩:∃ x:Nat,a=((2 * x:Nat):Int)∧x < 16:=⟨(a / 2).toNat,by rw [Int.tmod_eq_emod_of_nonneg h1.1] at h2; omega,by omega⟩
 obtain ⟨y,hy,hy16⟩:∃ y:Nat,b=((2 * y:Nat):Int)∧y < 16:=⟨(b / 2).toNat,by rw [Int.tmod_eq_emod_of_nonneg h3.1] at h4; omega,by omega⟩
 subst hx; subst hy
 have e:(2 * x) ||| (2 * y)=2 * y:=or_of_sub fun v hv=>by
  have:=h v (by unfold has; rw [Int.toNat_natCast]; exact hv)
  unfold has at this
  rw [Int.toNat_natCast] at this; exact this
 obtain ⟨q1,q2⟩:=tab_cnt x hx16 y hy16 e
 exact ⟨q1,fun h=>by rw [q2 h]⟩
theorem total_sub {n:Int}:∀ (a b:List Int),(∀ m ∈ a,maskOk n m=true)→(∀ m ∈ b,maskOk n m=true)→SubM a b→total a ≤ total b∧(total a=total b→a=b)
 | [],[],_,_,_=>⟨Nat.le_refl _,fun _=>rfl⟩
 | [],_ :: _,_,_,h=>by have:=h.1; simp at this
 | _ :: _,[],_,_,h=>by have:=h.1; simp at this
 | x :: a,y :: b,ha,hb,h=>by
  have h0:=cnt_sub (ha x (by simp)) (hb y (by simp)) (fun v hv=>by have:=h.2 0 v (by simp) (by simpa using hv); simpa using this)
  have ih:=total_sub a b (fun m hm=>ha m (List.mem_cons_of_mem _ hm)) (fun m hm=>hb m (List.mem_cons_of_mem _ hm)) ⟨by have:=h.1; simpa using this,fun i v hi hv=>by
   have:=h.2 (i + 1) v (by simp; omega) (by simpa using hv); simpa using this⟩
  simp only [total]
  refine ⟨by omega,fun he=>?_⟩
  rw [h0.2 (by omega),ih.2 (by omega)]
theorem masks_total {n:Int} {a b:List Int} (ha:masksOk n a=true) (hb:masksOk n b=true) (h:SubM a b):total a ≤ total b∧(a ≠ b→total a < total b):=by
 obtain ⟨h1,h2⟩:=total_sub a b (masksOk_iff.1 ha).2.1 (masksOk_iff.1 hb).2.1 h
 exact ⟨h1,fun hne=>by rcases Nat.lt_or_eq_of_le h1 with e | e; exact e; exact absurd (h2 e) hne⟩
theorem Sub.subM {l l':List Int} {P:Nat→Nat→Prop} (h:Sub l l' P):SubM l' l:=⟨h.len,fun i v hi hv=>((h.has i v hi).1 hv).1⟩
theorem masks_subM {n:Int} {a b:List Int} (ha:Ms a) (hb:masksOk n b=true) (h:SubM a b):masksOk n a=true:=by
 obtain ⟨h1,h2,h3⟩:=masksOk_iff.1 hb
 refine masksOk_iff.2 ⟨h1,fun m hm=>?_,by rw [h.1]; exact h3⟩
 obtain ⟨i,hi,rfl⟩:=List.getElem_of_mem hm
 have e:a.getD i 0=a[i]:=by simp [List.getD_eq_getElem?_getD,hi]
 have hib:i < b.length:=by rw [← h.1]; exact hi
 rw [← e]
 exact mask_sub (ha.at i) (masks_at hb hib) fun v hv=>h.2 i v hib hv
theorem Sub.ok {n:Int} {l l':List Int} {P:Nat→Nat→Prop} (h:Sub l l' P) (hl:masksOk n l=true):masksOk n l'=true:=masks_subM h.ms hl h.subM
theorem cntM_le (m:Int):cntM m ≤ 4:=by
 unfold cntM maskVals
 split
 ·have:∀ (j v:Nat),(mvFrom m v j).length ≤ j:=fun j=>by
   induction j with
   | zero=>intro v; simp [mvFrom]
   | succ j ih=>intro v; rw [mvFrom,List.length_append]; have:=ih (v + 1); split <;> simp <;> omega
  exact this 4 1
 ·simp
theorem tab_cntn:∀ n:Nat,n < 5→∀ m:Nat,m < 32→(2 ≤ n∧(m:Int) ≤ topMask n)→cntM m ≤ n:=by decide +kernel
theorem cntM_n {n m:Int} (hn:2 ≤ n∧n ≤ 4) (h:maskOk n m=true):cntM m ≤ n.toNat:=by
 have hM:=maskOk_M h
 obtain ⟨h1,h2⟩:=maskOk_iff.1 h
 obtain ⟨a,rfl,ha⟩:=hM.nat
 exact tab_cntn n.toNat (by omega) a ha ⟨by omega,by rw [show ((n.toNat:Nat):Int)=n by omega]; exact h1.2⟩
theorem total_n {n:Int} (hn:2 ≤ n∧n ≤ 4):∀ (l:List Int),(∀ m ∈ l,maskOk n m=true)→total l ≤ n.toNat * l.length
 | [],_=>by simp [total]
 | m :: l,h=>by
  have h0:=cntM_n hn (h m (by simp))
  have ih:=total_n hn l fun x hx=>h x (List.mem_cons_of_mem _ hx)
  simp only [total,Zl,Nat.mul_succ]
  omega
theorem total_le {n:Int} {l:List Int} (h:masksOk n l=true):total l ≤ 64:=by
 obtain ⟨hn,h2,h3⟩:=masksOk_iff.1 h
 have:=total_n hn l h2
 have hl:=masks_len h
 have:n=2 ∨ n=3 ∨ n=4:=by omega
 rcases this with rfl | rfl | rfl <;> simp at * <;> omega
/-! ### Rounds -/
def nextFrom (N:List Int→Int→List Int) (l:List Int):Nat→Int→Option (Int × List Int)
 | 0,_=>none
 | j + 1,t=>if N l t=l then nextFrom N l j (t + 1) else some (t,N l t)
theorem next_none {N:List Int→Int→List Int} {l:List Int}:∀ (j:Nat) (t:Int),nextFrom N l j t=none ↔ ∀ u,t ≤ u→u < t + j→N l u=l
 | 0,t=>by simp [nextFrom]; intro u; omega
 | j + 1,t=>by
  rw [nextFrom]
  split
  ·rename_i e
   rw [next_none j (t + 1)]
   constructor
   ·intro h u h1 h2
    by_cases hu:u=t
    ·rw [hu]; exact e
    ·exact h u (by omega) (by omega)
   ·intro h u h1 h2; exact h u (by omega) (by omega)
  ·rename_i e
   constructor
   ·intro h; cases h
   ·intro h; exact absurd (h t (by omega) (by omega)) e
theorem next_some {N:List Int→Int→List Int} {l:List Int}:∀ (j:Nat) (t:Int) {u:Int} {l':List Int},nextFrom N l j t=some (u,l')→(t ≤ u∧u < t + j)∧l'=N l u∧l' ≠ l∧∀ w,t ≤ w→w < u→N l w=l
 | 0,t,u,l',h=>by cases h
 | j + 1,t,u,l',h=>by
  rw [nextFrom] at h
  split at h
  ·rename_i e
   obtain ⟨h1,h2,h3,h4⟩:=next_some j (t + 1) h
   refine ⟨by omega,h2,h3,fun w hw1 hw2=>?_⟩
   by_cases hu:w=t
   ·rw [hu]; exact e
   ·exact h4 w (by omega) hw2
  ·rename_i e
   simp only [Option.some.injEq,Prod.mk.injEq] at h
   obtain ⟨rfl,rfl⟩:=h
   exact ⟨by omega,rfl,e,fun w h1 h2=>by omega⟩
def stepsV (N:List Int→Int→List Int) (most:Nat):Nat→List Int→List (Int × List Int)
 | 0,_=>[]
 | F + 1,l=>match nextFrom N l most 1 with
  | none=>[]
  | some (t,l')=>(t,l') :: stepsV N most F l'
def lastV:List (Int × List Int)→List Int→List Int
 | [],l=>l
 | x :: r,_=>lastV r x.2
def Good (N:List Int→Int→List Int) (n:Int) (most:Nat):Prop:=∀ l t,masksOk n l=true→1 ≤ t→t < 1 + (most:Int)→masksOk n (N l t)=true∧SubM (N l t) l
theorem next_good {N:List Int→Int→List Int} {n:Int} {most:Nat} (hN:Good N n most) {l:List Int} (hl:masksOk n l=true) {t:Int} {l':List Int} (h:nextFrom N l most 1=some (t,l')):masksOk n l'=true∧SubM l' l∧total l' < total l:=by
 obtain ⟨h1,h2,h3,_⟩:=next_some _ _ h
 obtain ⟨a,b⟩:=hN l t hl h1.1 h1.2
 subst h2
 exact ⟨a,b,(masks_total a hl b).2 h3⟩
theorem steps_fuel {N:List Int→Int→List Int} {n:Int} {most:Nat} (hN:Good N n most):∀ (F F':Nat) (l:List Int),masksOk n l=true→total l < F→total l < F'→stepsV N most F l=stepsV N most F' l
 | 0,_,_,_,h,_=>by omega
 | _ + 1,0,_,_,_,h=>by omega
 | F + 1,F' + 1,l,hl,h,h'=>by
  rw [stepsV,stepsV]
  cases e:nextFrom N l most 1 with
  | none=>rfl
  | some x=>
   obtain ⟨t,l'⟩:=x
   obtain ⟨a,b,c⟩:=next_good hN hl e
   simp only
   rw [steps_fuel hN F F' l' a (by omega) (by omega)]
def runS (N:List Int→Int→List Int) (most:Nat) (l:List Int):List (Int × List Int):=stepsV N most (total l + 1) l
theorem runS_none {N:List Int→Int→List Int} {most:Nat} {l:List Int} (h:nextFrom N l most 1=none):runS N most l=[]:=by
 unfold runS; rw [stepsV,h]
theorem runS_some {N:List Int→Int→List Int} {n:Int} {most:Nat} (hN:Good N n most) {l:List Int} (hl:masksOk n l=true) {t:Int} {l':List Int} (h:nextFrom N l most 1=some (t,l')):runS N most l=(t,l') :: runS N most l':=by
 unfold runS
 rw [stepsV,h]
 simp only
 obtain ⟨a,b,c⟩:=next_good hN hl h
 rw [steps_fuel hN _ (total l' + 1) l' a (by omega) (by omega)]
theorem runS_ind {N:List Int→Int→List Int} {n:Int} {most:Nat} (hN:Good N n most) {C:List Int→List (Int × List Int)→Prop} (h0:∀ l,masksOk n l=true→nextFrom N l most 1=none→C l []) (h1:∀ l t l',masksOk n l=true→masksOk n l'=true→SubM l' l→total l' < total l→nextFrom N l most 1=some (t,l')→C l' (runS N most l')→C l ((t,l') :: runS N most l')) :
  ∀ (F:Nat) (l:List Int),masksOk n l=true→total l < F→C l (runS N most l)
 | 0,_,_,h=>by omega
 | F + 1,l,hl,h=>by
  cases e:nextFrom N l most 1 with
  | none=>rw [runS_none e]; exact h0 l hl e
  | some x=>
   obtain ⟨t,l'⟩:=x
   obtain ⟨a,b,c⟩:=next_good hN hl e
   rw [runS_some hN hl e]
   exact h1 l t l' hl a b c e (runS_ind hN h0 h1 F l' a (by omega))
theorem run_end {N:List Int→Int→List Int} {n:Int} {most:Nat} (hN:Good N n most) {l:List Int} (hl:masksOk n l=true):masksOk n (lastV (runS N most l) l)=true∧SubM (lastV (runS N most l) l) l∧nextFrom N (lastV (runS N most l) l) most 1=none∧(runS N most l).length + total (lastV (runS N most l) l) ≤ total l:=by
 refine runS_ind hN (C:=fun l r=>masksOk n (lastV r l)=true∧SubM (lastV r l) l∧nextFrom N (lastV r l) most 1=none∧r.length + total (lastV r l) ≤ total l) ?_ ?_ (total l + 1) l hl (by omega)
 ·intro l hl e
  exact ⟨hl,SubM.refl l,e,by simp [lastV]⟩
 ·intro l t l' hl hl' hs ht e h
  refine ⟨h.1,h.2.1.trans hs,h.2.2.1,?_⟩
  have:=h.2.2.2
  simp only [lastV,Zl]
  omega
theorem AllIn_pt:∀ (ms ws:List Int),AllIn ms ws ↔ ws.length=ms.length∧∀ i,i < ms.length→ws.getD i 0 ∈ maskVals (ms.getD i 0)
 | [],[]=>by simp [AllIn]
 | [],w :: ws=>by simp [AllIn]
 | m :: ms,[]=>by simp [AllIn]
 | m :: ms,w :: ws=>by
  show (w ∈ maskVals m∧AllIn ms ws) ↔ _
  rw [AllIn_pt ms ws]
  constructor
  ·rintro ⟨h1,h2,h3⟩
   refine ⟨by simpa using h2,fun i hi=>?_⟩
   cases i with
   | zero=>simpa using h1
   | succ i=>simpa using h3 i (by simpa using hi)
  ·rintro ⟨h1,h2⟩
   refine ⟨by simpa using h2 0 (by simp),by simpa using h1,fun i hi=>?_⟩
   simpa using h2 (i + 1) (by simpa using hi)
theorem own_len (masks cells:List Int):(ownOf masks cells).length=cells.length:=by simp [ownOf]
theorem own_at {masks cells:List Int} {i:Nat} (hi:i < cells.length):(ownOf masks cells).getD i 0=masks.getD (cells.getD i 0).toNat 0:=by
 unfold ownOf
 rw [List.getD_eq_getElem?_getD,List.getElem?_map,List.getElem?_eq_getElem hi,List.getD_eq_getElem?_getD (l:=cells),List.getElem?_eq_getElem hi]; rfl
theorem map_at {cells:List Int} {f:Int→Int} {i:Nat} (hi:i < cells.length):(cells.map f).getD i 0=f (cells.getD i 0):=by
 rw [List.getD_eq_getElem?_getD,List.getElem?_map,List.getElem?_eq_getElem hi,List.getD_eq_getElem?_getD (l:=cells),List.getElem?_eq_getElem hi]; rfl
theorem cells_ne {n:Int} {r:V} (h:ruleOkV n r=true) {a b:Nat} (ha:a < r.2.1.length) (hb:b < r.2.1.length) (hab:a ≠ b):(r.2.1.getD a 0).toNat ≠ (r.2.1.getD b 0).toNat:=by
 obtain ⟨c1,_⟩:=ruleOk_cells h
 unfold ruleOkV ruleOk at h
 rw [Bool.and_eq_true] at h
 have hd:∀ a b,a < b→b < r.2.1.length→r.2.1.getD a 0 ≠ r.2.1.getD b 0:=fun a b h1 h2 he=>by
  have:=(cellsOk_at _ _ h.1 b (by omega) (by omega)).2
  rw [← he,← Bool.not_eq_true,List.contains_iff_mem] at this
  apply this
  have:(r.2.1.take b).getD a 0=r.2.1.getD a 0:=by
   rw [List.getD_eq_getElem?_getD,List.getElem?_take,if_pos h1,← List.getD_eq_getElem?_getD]
  rw [← this]
  exact mem_getD (by rw [List.length_take]; omega)
 have p1:=c1 _ (mem_getD ha)
 have p2:=c1 _ (mem_getD hb)
 rcases Nat.lt_or_gt_of_ne hab with e | e
 ·have:=hd a b e hb; omega
 ·have:=hd b a e ha; omega
theorem setAll_at {cells found:List Int}:∀ (j i:Nat) (l:List Int),i + j ≤ cells.length→(∀ a b,a < cells.length→b < cells.length→a ≠ b→(cells.getD a 0).toNat ≠ (cells.getD b 0).toNat)→(∀ a,a < cells.length→(cells.getD a 0).toNat < l.length) →
  (setAll cells l found i j).length=l.length∧(∀ u,i ≤ u→u < i + j→(setAll cells l found i j).getD (cells.getD u 0).toNat 0=found.getD u 0)∧(∀ x,(∀ u,i ≤ u→u < i + j→(cells.getD u 0).toNat ≠ x)→(setAll cells l found i j).getD x 0=l.getD x 0)
 | 0,i,l,_,_,_=>⟨rfl,fun u h1 h2=>by omega,fun x _=>rfl⟩
 | j + 1,i,l,hi,hd,hl=>by
  obtain ⟨a,b,c⟩:=setAll_at (found:=found) j (i + 1) (l.set (cells.getD i 0).toNat (found.getD i 0)) (by omega) hd (fun x hx=>by rw [List.length_set]; exact hl x hx)
  rw [setAll]
  refine ⟨by rw [a,List.length_set],fun u h1 h2=>?_,fun x hx=>?_⟩
  ·by_cases e:u=i
   ·subst e
    rw [c _ (fun w h3 h4=>hd w u (by omega) (by omega) (by omega)),getD_set,if_pos ⟨rfl,hl u (by omega)⟩]
   ·exact b u (by omega) (by omega)
  ·rw [c x (fun u h1 h2=>hx u (by omega) (by omega)),getD_set,if_neg (fun h=>hx i (Nat.le_refl _) (by omega) h.1)]
theorem ruleMasks_S {n:Int} {r:V} {l:List Int} (hr:ruleOkV n r=true) (hl:masksOk n l=true):ruleMasksS n r.1 r.2.2 r.2.1 l=ruleMasksV r.1 r.2.2 (ownOf l r.2.1):=by
 unfold ruleMasksS
 rw [if_pos ⟨by unfold ruleOkV at hr; rw [hr,decide_eq_true (masksOk_iff.1 hl).1]; rfl,hl⟩]
def RS (l:List Int) (r:V) (x v:Nat):Prop:=∃ u,u < r.2.1.length∧(r.2.1.getD u 0).toNat=x∧¬ ∃ ws,AllIn (ownOf l r.2.1) ws∧holdsV r.1 r.2.2 ws=true∧ws.getD u 0=(v:Int)
theorem rule_cells {n:Int} {r:V} {l:List Int} (hr:ruleOkV n r=true) (hl:masksOk n l=true) {u:Nat} (hu:u < r.2.1.length):(r.2.1.getD u 0).toNat < l.length:=by
 obtain ⟨c1,_⟩:=ruleOk_cells hr
 have:=c1 _ (mem_getD hu)
 have:=(masksOk_iff.1 hl).2.2
 omega
theorem ruleStep_sub {n:Int} {r:V} {l:List Int} (hr:ruleOkV n r=true) (hl:masksOk n l=true):Sub l (ruleStep n l r) (RS l r):=by
 obtain ⟨c1,c2,c3,c4⟩:=ruleOk_cells hr
 have hol:=own_len l r.2.1
 have hrm:=ruleMasks_ok (kind:=r.1) (value:=r.2.2) (own:=ownOf l r.2.1) (by omega)
 unfold ruleStep
 rw [ruleMasks_S hr hl]
 obtain ⟨s1,s2,s3⟩:=setAll_at (found:=ruleMasksV r.1 r.2.2 (ownOf l r.2.1)) r.2.1.length 0 l (by omega) (fun a b ha hb=>cells_ne hr ha hb) (fun a ha=>rule_cells hr hl ha)
 have hM:=masks_M hl
 have at1:∀ u,u < r.2.1.length→∀ v:Nat,has ((setAll r.2.1 l (ruleMasksV r.1 r.2.2 (ownOf l r.2.1)) 0 r.2.1.length).getD (r.2.1.getD u 0).toNat 0) v=true ↔ ∃ ws,AllIn (ownOf l r.2.1) ws∧holdsV r.1 r.2.2 ws=true∧ws.getD u 0=(v:Int):=fun u hu v=>by
  rw [s2 u (by omega) (by omega)]
  exact ruleMasks_has (by omega) u v (by omega)
 refine ⟨s1,fun m hm=>?_,fun x v hx=>?_⟩
 ·obtain ⟨i,hi,rfl⟩:=List.getElem_of_mem hm
  have e:(setAll r.2.1 l (ruleMasksV r.1 r.2.2 (ownOf l r.2.1)) 0 r.2.1.length).getD i 0=(setAll r.2.1 l (ruleMasksV r.1 r.2.2 (ownOf l r.2.1)) 0 r.2.1.length)[i]:=by simp [List.getD_eq_getElem?_getD,hi]
  rw [← e]
  by_cases c:∃ u,u < r.2.1.length∧(r.2.1.getD u 0).toNat=i
  ·obtain ⟨u,hu,rfl⟩:=c
   rw [s2 u (by omega) (by omega)]
   exact hrm.1.at u
  ·rw [s3 i (fun u _ h2 h3=>c ⟨u,by omega,h3⟩)]
   exact hM.at i
 ·by_cases c:∃ u,u < r.2.1.length∧(r.2.1.getD u 0).toNat=x
  ·obtain ⟨u,hu,rfl⟩:=c
   rw [at1 u hu v]
   constructor
   ·rintro ⟨ws,h1,h2,h3⟩
    have:=((AllIn_pt _ _).1 h1).2 u (by omega)
    rw [own_at hu,h3] at this
    refine ⟨(mv_has (masks_at hl hx) v).2 this,?_⟩
    rintro ⟨w,hw,he,hn⟩
    have:w=u:=by
     apply Classical.byContradiction
     intro hne
     exact cells_ne hr hw hu hne he
    subst this
    exact hn ⟨ws,h1,h2,h3⟩
   ·rintro ⟨h1,h2⟩
    apply Classical.byContradiction
    intro h3
    exact h2 ⟨u,hu,rfl,h3⟩
  ·rw [s3 x (fun u _ h2 h3=>c ⟨u,by omega,h3⟩)]
   constructor
   ·intro h; exact ⟨h,by rintro ⟨u,hu,he,_⟩; exact c ⟨u,hu,he⟩⟩
   ·intro h; exact h.1
theorem rule_full {n:Int} {g:List Int} (hg:gridOk g n=true) (hf:full g) {r:V} (hr:ruleOkV n r=true) (h:canHoldV n g r=true):holdsV r.1 r.2.2 (r.2.1.map (gv g))=true:=by
 obtain ⟨c1,c2,c3,c4⟩:=ruleOk_cells hr
 have hl:=((gridOk_iff g n).1 hg).2.1
 rw [canHold_iff c3 c2] at h
 obtain ⟨ws,a,b⟩:=h
 rw [AllIn_pt,own_len] at a
 have:ws=r.2.1.map (gv g):=by
  refine ext_getD (by rw [a.1,List.length_map]) fun i hi=>?_
  have hi2:i < r.2.1.length:=by omega
  have h1:=a.2 i hi2
  have hc:=c1 _ (mem_getD hi2)
  rw [own_at hi2,open_vals hg (show (r.2.1.getD i 0).toNat < g.length by omega)] at h1
  rw [map_at hi2]
  exact h1.2 (hf _ (by omega))
 rw [← this]; exact b
theorem rule_sound {n:Int} {r:V} {l g:List Int} (hr:ruleOkV n r=true) (hl:masksOk n l=true) (hg:gridOk g n=true) (hin:InM l g) (hh:holdsV r.1 r.2.2 (r.2.1.map (gv g))=true) {x:Nat} (hx:x < l.length):¬ RS l r x (g.getD x 0).toNat:=by
 rintro ⟨u,hu,rfl,hn⟩
 apply hn
 have hlen:=square_len hl hg
 refine ⟨r.2.1.map (gv g),?_,hh,?_⟩
 ·rw [AllIn_pt,own_len]
  refine ⟨by simp,fun i hi=>?_⟩
  rw [map_at hi,own_at hi]
  exact hin.mem hl hg (by rw [hlen]; exact rule_cells hr hl hi)
 ·rw [map_at hu]
  have:=((gridOk_iff g n).1 hg).2.2 _ (mem_getD (show (r.2.1.getD u 0).toNat < g.length by omega))
  show g.getD (r.2.1.getD u 0).toNat 0=_
  omega
theorem rules_fold {n:Int}:∀ (vs:List V) (l:List Int),(∀ r ∈ vs,ruleOkV n r=true)→masksOk n l=true→masksOk n (vs.foldl (ruleStep n) l)=true∧SubM (vs.foldl (ruleStep n) l) l
 | [],l,_,hl=>⟨hl,SubM.refl l⟩
 | r :: vs,l,hv,hl=>by
  have h1:=ruleStep_sub (hv r (by simp)) hl
  obtain ⟨a,b⟩:=rules_fold vs (ruleStep n l r) (fun q hq=>hv q (List.mem_cons_of_mem _ hq)) (h1.ok hl)
  exact ⟨a,b.trans h1.subM⟩
theorem rules_keep {n:Int} {g:List Int} (hg:gridOk g n=true):∀ (vs:List V) (l:List Int),(∀ r ∈ vs,ruleOkV n r=true∧holdsV r.1 r.2.2 (r.2.1.map (gv g))=true)→masksOk n l=true→InM l g→InM (vs.foldl (ruleStep n) l) g
 | [],l,_,_,h=>h
 | r :: vs,l,hv,hl,h=>by
  have hr:=hv r (by simp)
  have h1:=ruleStep_sub hr.1 hl
  exact rules_keep hg vs (ruleStep n l r) (fun q hq=>hv q (List.mem_cons_of_mem _ hq)) (h1.ok hl) (h1.keeps (square_len hl hg) h fun x hx=>rule_sound hr.1 hl hg h hr.2 hx)
/-! ### All techniques -/
theorem subAll_good {n:Int} {l:List Int} (hl:masksOk n l=true) (P:Nat→Nat→Prop):masksOk n (subAll l P)=true∧SubM (subAll l P) l:=⟨(subAll_ok (masks_M hl) P).ok hl,(subAll_ok (masks_M hl) P).subM⟩
theorem singlesV_good {n:Int} {l:List Int} (hl:masksOk n l=true):masksOk n (singlesV n l)=true∧SubM (singlesV n l) l:=by
 unfold singlesV; rw [if_pos hl]; exact subAll_good hl _
theorem hiddenV_good {n:Int} {l:List Int} (hl:masksOk n l=true):masksOk n (hiddenV n l)=true∧SubM (hiddenV n l) l:=by
 unfold hiddenV; rw [if_pos hl]; exact subAll_good hl _
theorem pairsV_good {n:Int} {l:List Int} (hl:masksOk n l=true):masksOk n (pairsV n l)=true∧SubM (pairsV n l) l:=by
 unfold pairsV; rw [if_pos hl]; exact subAll_good hl _
theorem puzzleV_rules {n:Int} {given:List Int} {vs:List V} (hp:puzzleV n given vs=true):∀ r ∈ vs,ruleOkV n r=true:=List.all_eq_true.1 (puzzleV_grid hp).2
theorem rulesV_good {n:Int} {given:List Int} {vs:List V} (hp:puzzleV n given vs=true) {l:List Int} (hl:masksOk n l=true):masksOk n (rulesV n given vs l)=true∧SubM (rulesV n given vs l) l:=by
 unfold rulesV; rw [if_pos ⟨hp,hl⟩]; exact rules_fold vs l (puzzleV_rules hp) hl
theorem singlesV_keeps {n:Int} {l g:List Int} (hl:masksOk n l=true) (hg:g ∈ squares n) (h:InM l g):InM (singlesV n l) g:=by
 unfold singlesV; rw [if_pos hl]
 exact (subAll_ok (masks_M hl) _).keeps (square_len hl (squares_pos (masksOk_iff.1 hl).1 hg).2.1) h fun j hj hp=>singles_sound hl hg h hj hp rfl
theorem hiddenV_keeps {n:Int} {l g:List Int} (hl:masksOk n l=true) (hg:g ∈ squares n) (h:InM l g):InM (hiddenV n l) g:=by
 unfold hiddenV; rw [if_pos hl]
 exact (subAll_ok (masks_M hl) _).keeps (square_len hl (squares_pos (masksOk_iff.1 hl).1 hg).2.1) h fun j hj hp=>hidden_sound hl hg h hj hp rfl
theorem pairsV_keeps {n:Int} {l g:List Int} (hl:masksOk n l=true) (hg:g ∈ squares n) (h:InM l g):InM (pairsV n l) g:=by
 unfold pairsV; rw [if_pos hl]
 exact (subAll_ok (masks_M hl) _).keeps (square_len hl (squares_pos (masksOk_iff.1 hl).1 hg).2.1) h fun j hj hp=>pairs_sound hl hg h hj hp rfl
theorem sol_rules {n:Int} {given:List Int} {vs:List V} (hp:puzzleV n given vs=true) {g:List Int} (hg:g ∈ allSols n given vs):∀ r ∈ vs,ruleOkV n r=true∧holdsV r.1 r.2.2 (r.2.1.map (gv g))=true:=fun r hr=>by
 have hok:=puzzleV_rules hp r hr
 rw [mem_allSols hp] at hg
 refine ⟨hok,rule_full hg.1 hg.2.2.1 hok ?_⟩
 have:=hg.2.2.2
 unfold fitsV at this
 simp only [Bool.and_eq_true] at this
 exact List.all_eq_true.1 this.2.1 r hr
theorem rulesV_keeps {n:Int} {given:List Int} {vs:List V} (hp:puzzleV n given vs=true) {l g:List Int} (hl:masksOk n l=true) (hg:g ∈ allSols n given vs) (h:InM l g):InM (rulesV n given vs l) g:=by
 unfold rulesV; rw [if_pos ⟨hp,hl⟩]
 exact rules_keep (squares_pos (masksOk_iff.1 hl).1 (sol_square hp hg)).2.1 vs l (sol_rules hp hg) hl h
theorem narrowV_cases {n:Int} {given:List Int} {vs:List V} (hp:puzzleV n given vs=true) {l:List Int} (hl:masksOk n l=true):narrowV n given vs l 1=singlesV n l∧narrowV n given vs l 2=hiddenV n l∧narrowV n given vs l 3=pairsV n l∧narrowV n given vs l 4=rulesV n given vs l:=by
 refine ⟨?_,?_,?_,?_⟩ <;> (unfold narrowV; rw [if_pos ⟨hp,hl⟩]; simp)
theorem narrow_good {n:Int} {given:List Int} {vs:List V} (hp:puzzleV n given vs=true) {most:Nat} (hm:most ≤ 4):Good (narrowV n given vs) n most:=fun l t hl h1 h2=>by
 obtain ⟨c1,c2,c3,c4⟩:=narrowV_cases hp hl
 have:t=1 ∨ t=2 ∨ t=3 ∨ t=4:=by omega
 rcases this with rfl | rfl | rfl | rfl
 ·rw [c1]; exact singlesV_good hl
 ·rw [c2]; exact hiddenV_good hl
 ·rw [c3]; exact pairsV_good hl
 ·rw [c4]; exact rulesV_good hp hl
theorem narrow_keeps {n:Int} {given:List Int} {vs:List V} (hp:puzzleV n given vs=true) {l g:List Int} (hl:masksOk n l=true) (hg:g ∈ allSols n given vs) (h:InM l g) {t:Int} (h1:1 ≤ t) (h2:t ≤ 4):InM (narrowV n given vs l t) g:=by
 obtain ⟨c1,c2,c3,c4⟩:=narrowV_cases hp hl
 have hs:=sol_square hp hg
 have:t=1 ∨ t=2 ∨ t=3 ∨ t=4:=by omega
 rcases this with rfl | rfl | rfl | rfl
 ·rw [c1]; exact singlesV_keeps hl hs h
 ·rw [c2]; exact hiddenV_keeps hl hs h
 ·rw [c3]; exact pairsV_keeps hl hs h
 ·rw [c4]; exact rulesV_keeps hp hl hg h
theorem run_keeps {n:Int} {given:List Int} {vs:List V} (hp:puzzleV n given vs=true) {most:Nat} (hm:most ≤ 4) {g:List Int} (hg:g ∈ allSols n given vs) {l:List Int} (hl:masksOk n l=true):InM l g→InM (lastV (runS (narrowV n given vs) most l) l) g:=by
 refine runS_ind (narrow_good hp hm) (C:=fun l r=>InM l g→InM (lastV r l) g) ?_ ?_ (total l + 1) l hl (by omega)
 ·intro l hl e h; exact h
 ·intro l t l' hl hl' hs ht e ih h
  obtain ⟨h1,h2,_⟩:=next_some _ _ e
  refine ih ?_
  rw [h2]
  exact narrow_keeps hp hl hg h h1.1 (by omega)
theorem Rules_l3 (rec:Rec) (k:Nat) (L2:Sl→Int→Int→Sl→Sl→Hp→An) {H0 Hb:Hp} {n kind value:Int} {gs s cs us t:Sl} {cells fl:List Int} {i m:Nat} (hc:Reads .i64 H0 cs cells) (hcl:cells.length ≤ 1000) (hfl:fl.length=cells.length) (hin:∀ c ∈ cells,0 ≤ c∧c < (m:Int)) (hm:m ≤ 1000) (htb:t.blk < Hb.length) :
  ∀ (j q fuel:Nat) (H:Hp) (a:List Int),q + j=cells.length→j < fuel→H0 <+: H→Own 1 Hb H us (fl.map (.int .i64))→Own 1 H0 H t (a.map (.int .i64))→a.length=m →
   ∃ H',spec_NarrowRules.l3 rec k L2 fuel t i us q n gs s kind cs value H=L2 t (IntKind.i64.wrap ((i:Int) + 1)) n gs s H'∧H0 <+: H'∧Own 1 H0 H' t ((setAll cells a fl q j).map (.int .i64))∧Adv t.blk H H':=by
 have hcs:=hc.len
 intro j
 induction j with
 | zero=>
  intro q fuel H a hq hf hp hu ho ha
  obtain ⟨fuel,rfl⟩:=Zs fuel (by omega)
  refine ⟨H,?_,hp,ho,Adv.refl _ _⟩
  simp (disch:=omega) only [spec_NarrowRules.l3,spec_NarrowRules.j5,dt,df,Zt,Zf]
 | succ j ih=>
  intro q fuel H a hq hf hp hu ho ha
  obtain ⟨fuel,rfl⟩:=Zs fuel (by omega)
  have hq2:q < cells.length:=by omega
  obtain ⟨c0,c1⟩:=hin _ (mem_getD hq2)
  have hus:=(own_reads hu).len
  have htl:=(own_reads ho).len
  have hrc:=pf_reads hp hc
  obtain ⟨H1,a1,a2,a3,a4⟩:=own_set1 ho hp (cells.getD q 0).toNat (by omega) (fl.getD q 0)
  obtain ⟨H',b1,b2,b3,b4⟩:=ih (q + 1) fuel H1 _ (by omega) (by omega) a2 (a4.own htb hu) a3 (by simpa using ha)
  push_cast at b1
  refine ⟨H',?_,b2,b3,a4.trans b4⟩
  simp (disch:=omega) only [spec_NarrowRules.l3,dt,Za,Zt,Zn,Zo,rdn hrc,rdn (own_reads hu),a1,wr (n:=(q:Int) + 1),b1]
theorem val_drop (rs:List R) (i:Nat) (h:i < rs.length):(rs.drop i).map R.val=rs[i].val :: (rs.drop (i + 1)).map R.val:=by
 rw [List.drop_eq_getElem_cons h]; rfl
theorem Rules_l2 {k:Nat} (hk:2000040 ≤ k) {H0:Hp} {n:Int} {gs s t:Sl} {given:List Int} {rs:List R} (hz:PuzAt H0 n gs s given rs) (hro:∀ r ∈ rs,R.ok n r=true) :
  ∀ (j i fuel:Nat) (H:Hp) (a:List Int),i + j=rs.length→j < fuel→H0 <+: H→Own 1 H0 H t (a.map (.int .i64))→masksOk n a=true →
   ∃ H',spec_NarrowRules.l2 (callF PP orc k) k fuel t i n gs s H=some (.sl 1 t,H')∧H0 <+: H'∧Own 1 H0 H' t ((((rs.drop i).map R.val).foldl (ruleStep n) a).map (.int .i64)):=by
 have hrl:=hz.rr.len
 have hrl2:=hz.rl
 have hn:=hz.n4
 intro j
 induction j with
 | zero=>
  intro i fuel H a hi hf hp ho ha
  obtain ⟨fuel,rfl⟩:=Zs fuel (by omega)
  rw [List.drop_eq_nil_of_le (by omega)]
  refine ⟨H,?_,hp,ho⟩
  simp (disch:=omega) only [spec_NarrowRules.l2,spec_NarrowRules.j4,dt,df,Zt,Zf]
 | succ j ih=>
  intro i fuel H a hi hf hp ho ha
  obtain ⟨fuel,rfl⟩:=Zs fuel (by omega)
  have hi2:i < rs.length:=by omega
  obtain ⟨l0,l1,l2⟩:=rules_at1 (pf_readsR hp hz.rr) i hi2
  have hrc:=hz.rc _ (List.getElem_mem hi2)
  have hrk:=hro _ (List.getElem_mem hi2)
  have hok:ruleOkV n rs[i].val=true:=hrk
  obtain ⟨c1,c2,c3,c4⟩:=ruleOk_cells hok
  obtain ⟨ml4,ml16,_⟩:=masks_len ha
  have hm2:=(masksOk_iff.1 ha).2.2
  obtain ⟨u,H1,a1,a2,a3⟩:=specRuleMasks_ok (show 2000030 ≤ k by omega) (n:=n) (kind:=rs[i].kind) (value:=rs[i].value) (by omega) (pf_reads hp (hz.rr.cs i hi2)) (own_reads ho) (by omega) (by omega)
  have hfl:(ruleMasksS n rs[i].kind rs[i].value rs[i].cells a).length=rs[i].cells.length:=by
   have e:ruleMasksS n rs[i].kind rs[i].value rs[i].cells a=ruleMasksV rs[i].kind rs[i].value (ownOf a rs[i].cells):=ruleMasks_S hok ha
   have h4:rs[i].cells.length ≤ 4:=c2
   rw [e,(ruleMasks_ok (by rw [own_len]; exact h4)).2,own_len]
  obtain ⟨H2,b1,b2,b3,b4⟩:=Rules_l3 (callF PP orc k) k (spec_NarrowRules.l2 (callF PP orc k) k fuel) (n:=n) (kind:=rs[i].kind) (value:=rs[i].value) (gs:=gs) (s:=s) (i:=i) (m:=a.length) (hz.rr.cs i hi2) hrc hfl (fun c hc=>by have:=c1 c hc; omega) (by omega) (own_lt' ho) rs[i].cells.length 0 k H1 a (by omega) (by omega) (hp.trans a2) a3 (own_pf ho a2) rfl
  have hst:masksOk n (ruleStep n a rs[i].val)=true:=(ruleStep_sub hok ha).ok ha
  obtain ⟨H',d1,d2,d3⟩:=ih (i + 1) fuel H2 (ruleStep n a rs[i].val) (by omega) (by omega) b2 b3 hst
  push_cast at d1
  rw [val_drop rs i hi2,List.foldl_cons]
  refine ⟨H',?_,d2,d3⟩
  simp only [Int.natCast_zero] at b1
  simp (disch:=omega) only [spec_NarrowRules.l2,dt,Za,Zt,Zn,Zo,l0,l1,l2,a1,AV.toS,if_true,b1,wr (n:=(i:Int) + 1),d1]
theorem specNarrowRules_ok {k:Nat} (hk:2000050 ≤ k) {H:Hp} {n:Int} {gs s ms:Sl} {given l:List Int} {rs:List R} (hz:PuzAt H n gs s given rs) (hm:Reads .i64 H ms l) (hl:l.length ≤ 1000) :
  ∃ t H',callF PP orc k spec_NarrowRules.id [.agg [.int .i64 n,.sl 1 gs,.sl 3 s],.sl 1 ms] H=some (.sl 1 t,H')∧H <+: H'∧Own 1 H H' t ((rulesV n given (rs.map R.val) l).map (.int .i64)):=by
 obtain ⟨k,rfl⟩:=Zs k (by omega)
 rw [spec_NarrowRules.call]
 have hn:=hz.n4
 have h1:=specPuzzleValid_ok (show 2000003 ≤ k by omega) hz.n4 hz.rg hz.gl hz.rr hz.rl hz.rc
 rw [puzzle_map] at h1
 have h2:=specMasksValid_any (show 2000000 ≤ k by omega) (n:=n) (by omega) hm hl
 unfold rulesV
 cases e1:puzzleV n given (rs.map R.val) with
 | false=>
  rw [e1] at h1
  rw [iN (by simp)]
  exact ⟨Sl.mk false H.length 0 0,H ++ [some (Blk.mk false [])],by simp only [spec_NarrowRules.f,spec_NarrowRules.j0,dt,df,bt,bf,nt,nf,Za,Zy,Zx,Zt,Zf,Zn,Zz,Zi,Zo,wr,AV.toB,AV.toI,AV.toS,if_true,h1],(List.prefix_append _ _),own_new 1 H [] 0 rfl⟩
 | true=>
  rw [e1] at h1
  cases e2:masksOk n l with
  | false=>
   rw [e2] at h2
   rw [iN (by simp)]
   exact ⟨Sl.mk false H.length 0 0,H ++ [some (Blk.mk false [])],by simp only [spec_NarrowRules.f,spec_NarrowRules.j0,dt,df,bt,bf,nt,nf,Za,Zy,Zx,Zt,Zf,Zn,Zz,Zi,Zo,wr,AV.toB,AV.toI,AV.toS,if_true,h1,h2],(List.prefix_append _ _),own_new 1 H [] 0 rfl⟩
  | true=>
   rw [e2] at h2
   rw [ip ⟨rfl,rfl⟩]
   have h3:=l6Copy_ok (show 1 ≤ k by omega) hm hl
   have hnew:=own_new 1 H (l.map (.int .i64)) l.length (by simp)
   obtain ⟨_,_,q3⟩:=puzzleV_iff e1
   have hrl:=hz.rl
   obtain ⟨H',b1,b2,b3⟩:=Rules_l2 (show 2000040 ≤ k by omega) hz q3 rs.length 0 k (H ++ [some (Blk.mk false (l.map (.int .i64)))]) l (by omega) (by omega) (List.prefix_append _ _) hnew e2
   rw [List.drop_zero] at b3
   refine ⟨_,H',?_,b2,b3⟩
   simp only [Int.natCast_zero] at b1
   simp only [spec_NarrowRules.f,spec_NarrowRules.j0,spec_NarrowRules.j1,dt,df,bt,bf,nt,nf,Za,Zy,Zx,Zt,Zf,Zn,Zz,Zi,Zo,wr,AV.toB,AV.toI,AV.toS,if_true,h1,h2,h3,b1]
theorem l8Same_l0 (rec:Rec) (k:Nat) {H:Hp} {s t:Sl} {x y:List Int} (hs:Reads .i64 H s x) (ht:Reads .i64 H t y) (hl:x.length=y.length) (h1:x.length ≤ 1000) :
  ∀ (j i fuel:Nat),i + j=x.length→j < fuel→spec_l8Same.l0 rec k fuel s t i H=some (.bool (decide (x.drop i=y.drop i)),H):=by
 have hsl:=hs.len
 have htl:=ht.len
 intro j
 induction j with
 | zero=>
  intro i fuel hi hf
  obtain ⟨fuel,rfl⟩:=Zs fuel (by omega)
  rw [List.drop_eq_nil_of_le (show x.length ≤ i by omega),List.drop_eq_nil_of_le (show y.length ≤ i by omega)]
  simp (disch:=omega) only [spec_l8Same.l0,dt,df,bt,bf,nt,nf,Za,Zy,Zx,Zt,Zf,Zn,Zz,Zi,Zo,wr,AV.toB,AV.toI,AV.toS,if_true]
  rfl
 | succ j ih=>
  intro i fuel hi hf
  obtain ⟨fuel,rfl⟩:=Zs fuel (by omega)
  have hx:i < x.length:=by omega
  have hy:i < y.length:=by omega
  have ex:x.drop i=x.getD i 0 :: x.drop (i + 1):=by
   rw [List.drop_eq_getElem_cons hx,List.getD_eq_getElem?_getD,List.getElem?_eq_getElem hx]; rfl
  have ey:y.drop i=y.getD i 0 :: y.drop (i + 1):=by
   rw [List.drop_eq_getElem_cons hy,List.getD_eq_getElem?_getD,List.getElem?_eq_getElem hy]; rfl
  rw [ex,ey]
  by_cases c:x.getD i 0=y.getD i 0
  ·have d1:=ih (i + 1) fuel (by omega) (by omega)
   push_cast at d1
   rw [show decide (x.getD i 0 :: x.drop (i + 1)=y.getD i 0 :: y.drop (i + 1))=decide (x.drop (i + 1)=y.drop (i + 1)) by rw [c]; simp,← d1]
   simp (disch:=omega) only [spec_l8Same.l0,dt,df,bt,bf,nt,nf,Za,Zy,Zx,Zt,Zf,Zn,Zz,Zi,Zo,wr,AV.toB,AV.toI,AV.toS,if_true,rdn hs,rdn ht,nf]
  ·rw [show decide (x.getD i 0 :: x.drop (i + 1)=y.getD i 0 :: y.drop (i + 1))=false from decide_eq_false fun h=>c (List.cons.inj h).1]
   simp (disch:=omega) only [spec_l8Same.l0,dt,df,bt,bf,nt,nf,Za,Zy,Zx,Zt,Zf,Zn,Zz,Zi,Zo,wr,AV.toB,AV.toI,AV.toS,if_true,rdn hs,rdn ht,nt]
theorem l8Same_ok {k:Nat} (hk:2000000 ≤ k) {H:Hp} {s t:Sl} {x y:List Int} (hs:Reads .i64 H s x) (ht:Reads .i64 H t y) (h1:x.length ≤ 1000) (h2:y.length ≤ 1000) :
  callF PP orc k spec_l8Same.id [.sl 1 s,.sl 1 t] H=some (.bool (decide (x=y)),H):=by
 obtain ⟨k,rfl⟩:=Zs k (by omega)
 rw [spec_l8Same.call]
 have hsl:=hs.len
 have htl:=ht.len
 by_cases c:x.length=y.length
 ·have d1:=l8Same_l0 (callF PP orc k) k hs ht c h1 x.length 0 k (by omega) (by omega)
  simp only [Int.natCast_zero,List.drop_zero] at d1
  rw [← d1]
  simp (disch:=omega) only [spec_l8Same.f,dt,df,bt,bf,nt,nf,Za,Zy,Zx,Zt,Zf,Zn,Zz,Zi,Zo,wr,AV.toB,AV.toI,AV.toS,if_true]
 ·rw [decide_eq_false (fun h=>c (congrArg List.length h))]
  simp (disch:=omega) only [spec_l8Same.f,dt,df,bt,bf,nt,nf,Za,Zy,Zx,Zt,Zf,Zn,Zz,Zi,Zo,wr,AV.toB,AV.toI,AV.toS,if_true]
theorem specNarrowBy_ok {k:Nat} (hk:2000060 ≤ k) {H:Hp} {n:Int} {gs s ms:Sl} {given l:List Int} {rs:List R} (hz:PuzAt H n gs s given rs) (hm:Reads .i64 H ms l) (hl:l.length ≤ 1000) (t:Int) :
  ∃ u H',callF PP orc k spec_NarrowBy.id [.agg [.int .i64 n,.sl 1 gs,.sl 3 s],.sl 1 ms,.int .i64 t] H=some (.sl 1 u,H')∧H <+: H'∧Own 1 H H' u ((narrowV n given (rs.map R.val) l t).map (.int .i64)):=by
 obtain ⟨k,rfl⟩:=Zs k (by omega)
 rw [spec_NarrowBy.call]
 have hn:=hz.n4
 have h1:=specPuzzleValid_ok (show 2000003 ≤ k by omega) hz.n4 hz.rg hz.gl hz.rr hz.rl hz.rc
 rw [puzzle_map] at h1
 have h2:=specMasksValid_any (show 2000000 ≤ k by omega) (n:=n) (by omega) hm hl
 unfold narrowV
 cases e1:puzzleV n given (rs.map R.val) with
 | false=>
  rw [e1] at h1
  rw [iN (by simp)]
  exact ⟨Sl.mk false H.length 0 0,H ++ [some (Blk.mk false [])],by simp only [spec_NarrowBy.f,spec_NarrowBy.j0,dt,df,bt,bf,nt,nf,Za,Zy,Zx,Zt,Zf,Zn,Zz,Zi,Zo,wr,AV.toB,AV.toI,AV.toS,if_true,h1],(List.prefix_append _ _),own_new 1 H [] 0 rfl⟩
 | true=>
  rw [e1] at h1
  cases e2:masksOk n l with
  | false=>
   rw [e2] at h2
   rw [iN (by simp)]
   exact ⟨Sl.mk false H.length 0 0,H ++ [some (Blk.mk false [])],by simp only [spec_NarrowBy.f,spec_NarrowBy.j0,dt,df,bt,bf,nt,nf,Za,Zy,Zx,Zt,Zf,Zn,Zz,Zi,Zo,wr,AV.toB,AV.toI,AV.toS,if_true,h1,h2],(List.prefix_append _ _),own_new 1 H [] 0 rfl⟩
  | true=>
   rw [e2] at h2
   rw [ip ⟨rfl,rfl⟩]
   by_cases t1:t=1
   ·obtain ⟨u,H',a1,a2,a3⟩:=specNarrowSingles_ok (show 2000010 ≤ k by omega) (n:=n) (by omega) hm hl
    rw [ip t1]
    exact ⟨u,H',by simp only [spec_NarrowBy.f,spec_NarrowBy.j0,spec_NarrowBy.j1,dt,df,bt,bf,nt,nf,Za,Zy,Zx,Zt,Zf,Zn,Zz,Zi,Zo,wr,AV.toB,AV.toI,AV.toS,if_true,h1,h2,bt t1,a1],a2,a3⟩
   rw [iN t1]
   by_cases t2:t=2
   ·obtain ⟨u,H',a1,a2,a3⟩:=specNarrowHidden_ok (show 2000010 ≤ k by omega) (n:=n) (by omega) hm hl
    rw [ip t2]
    exact ⟨u,H',by simp only [spec_NarrowBy.f,spec_NarrowBy.j0,spec_NarrowBy.j1,dt,df,bt,bf,nt,nf,Za,Zy,Zx,Zt,Zf,Zn,Zz,Zi,Zo,wr,AV.toB,AV.toI,AV.toS,if_true,h1,h2,bf t1,bt t2,a1],a2,a3⟩
   rw [iN t2]
   by_cases t3:t=3
   ·obtain ⟨u,H',a1,a2,a3⟩:=specNarrowPairs_ok (show 2000010 ≤ k by omega) (n:=n) (by omega) hm hl
    rw [ip t3]
    exact ⟨u,H',by simp only [spec_NarrowBy.f,spec_NarrowBy.j0,spec_NarrowBy.j1,dt,df,bt,bf,nt,nf,Za,Zy,Zx,Zt,Zf,Zn,Zz,Zi,Zo,wr,AV.toB,AV.toI,AV.toS,if_true,h1,h2,bf t1,bf t2,bt t3,a1],a2,a3⟩
   rw [iN t3]
   by_cases t4:t=4
   ·obtain ⟨u,H',a1,a2,a3⟩:=specNarrowRules_ok (show 2000050 ≤ k by omega) hz hm hl
    rw [ip t4]
    exact ⟨u,H',by simp only [spec_NarrowBy.f,spec_NarrowBy.j0,spec_NarrowBy.j1,dt,df,bt,bf,nt,nf,Za,Zy,Zx,Zt,Zf,Zn,Zz,Zi,Zo,wr,AV.toB,AV.toI,AV.toS,if_true,h1,h2,bf t1,bf t2,bf t3,bt t4,a1],a2,a3⟩
   rw [iN t4]
   exact ⟨Sl.mk false H.length 0 0,H ++ [some (Blk.mk false [])],by simp only [spec_NarrowBy.f,spec_NarrowBy.j0,spec_NarrowBy.j1,dt,df,bt,bf,nt,nf,Za,Zy,Zx,Zt,Zf,Zn,Zz,Zi,Zo,wr,AV.toB,AV.toI,AV.toS,if_true,h1,h2,bf t1,bf t2,bf t3,bf t4],(List.prefix_append _ _),own_new 1 H [] 0 rfl⟩
end Go.Proofs.Ytchliocobgkmbaa.Rp
