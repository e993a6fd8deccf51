/- Texts for the row of the law FnNarrowPairs, part 15: the plain machine, the program's functions on it, what they come to. No conditions. -/
import Derived.Test.YtjojhbdghhmeeaaBuFnNarrowPairs14
import Derived.Test.YtjojhbdghhmeeaaBuFnNarrowPairs8
import Derived.Test.YtjojhbdghhmeeaaBuFnNarrowPairs13
import Derived.Test.YtjojhbdghhmeeaaBuFnNarrowPairs9
import Derived.Test.YtjojhbdghhmeeaaBuFnNarrowPairs10
import Derived.Test.YtjojhbdghhmeeaaBuFnNarrowPairs12
import Derived.Test.YtjojhbdghhmeeaaBuFnNarrowPairs11
set_option linter.unusedVariables false
set_option linter.unusedSimpArgs false
namespace Go.Proofs.Ytjojhbdghhmeeaa.Rp
open Go Go.RowKit Go.Proofs.Ytjojhbdghhmeeaa.Ab
def inB (l g:List Int):Nat→Nat→Bool
 | _,0=>true
 | i,j + 1=>has (l.getD i 0) (g.getD i 0).toNat && inB l g (i + 1) j
theorem inB_iff (l g:List Int):∀ (j i:Nat),inB l g i j=true ↔ ∀ x,i ≤ x→x < i + j→has (l.getD x 0) (g.getD x 0).toNat=true
 | 0,i=>by simp [inB]; intro x h1 h2; omega
 | j + 1,i=>by
  rw [inB,Bool.and_eq_true,inB_iff l g j (i + 1)]
  constructor
  ·rintro ⟨h1,h2⟩ x h3 h4
   by_cases e:x=i
   ·rw [e]; exact h1
   ·exact h2 x (by omega) (by omega)
  ·intro h; exact ⟨h i (by omega) (by omega),fun x h1 h2=>h x (by omega) (by omega)⟩
def haveV (n:Int) (l g:List Int):Bool:=masksOk n l && (gridOk g n && inB l g 0 g.length)
theorem haveV_iff {n:Int} {l g:List Int}:haveV n l g=true ↔ masksOk n l=true∧gridOk g n=true∧InM l g:=by
 unfold haveV InM
 rw [Bool.and_eq_true,Bool.and_eq_true,inB_iff]
 constructor
 ·rintro ⟨a,b,c⟩; exact ⟨a,b,fun i hi=>c i (by omega) (by omega)⟩
 ·rintro ⟨a,b,c⟩; exact ⟨a,b,fun i _ hi=>c i (by omega)⟩
theorem have_full {n:Int} {l g:List Int} (hl:masksOk n l=true) (hg:gridOk g n=true) (h:InM l g):full g:=fun i hi=>(maskVals_mem (h.mem hl hg hi)).1
theorem gr {g:List Int} {n:Int} (hg:gridOk g n=true) {i:Nat} (hi:i < g.length):0 ≤ g.getD i 0∧g.getD i 0 ≤ 4:=by
 obtain ⟨h1,_,h3⟩:=(gridOk_iff g n).1 hg
 have:=h3 _ (mem_getD hi)
 omega
theorem implHave_l2 (rec:Rec) (k:Nat) {H:Hp} {ms xs:Sl} {l g:List Int} {n:Int} (hm:Reads .i64 H ms l) (hx:Reads .i64 H xs g) (hl:masksOk n l=true) (hg:gridOk g n=true) :
  ∀ (j i fuel:Nat),i + j=g.length→j < fuel→impl_MasksHave.l2 rec k fuel ms xs (g.length:Int) i H=some (.bool (inB l g i j),H):=by
 have hml:=hm.len
 have hxl:=hx.len
 have hlen:=square_len hl hg
 have h16:=gridOk_len hg
 have hM:=masks_M hl
 intro j
 induction j with
 | zero=>
  intro i fuel hi hf
  obtain ⟨fuel,rfl⟩:=Zs fuel (by omega)
  simp (disch:=omega) only [impl_MasksHave.l2,dt,df,bt,bf,nt,nf,Za,Zy,Zx,Zt,Zf,Zn,Zz,Zi,Zo,wr,AV.toB,AV.toI,AV.toS,if_true,inB]
 | succ j ih=>
  intro i fuel hi hf
  obtain ⟨fuel,rfl⟩:=Zs fuel (by omega)
  obtain ⟨v0,v4⟩:=gr hg (show i < g.length by omega)
  have d1:=ih (i + 1) fuel (by omega) (by omega)
  push_cast at d1
  have hb:=m_bit0' (hM.at i) v0 (show g.getD i 0 ≤ 5 by omega)
  rw [inB]
  cases e:has (l.getD i 0) (g.getD i 0).toNat with
  | true=>
   rw [e] at hb
   simp (disch:=omega) only [impl_MasksHave.l2,dt,Za,Zy,Zt,Zf,Zn,Zo,rdn hm,rdn hx,iN,hb,wr (n:=(i:Int) + 1),d1,Bool.true_and]
  | false=>
   rw [e] at hb
   simp (disch:=omega) only [impl_MasksHave.l2,dt,Za,Zx,Zt,Zf,Zn,Zo,rdn hm,rdn hx,iN,hb,Bool.false_and]
theorem implMasksHave_ok {k:Nat} (hk:2000010 ≤ k) {H:Hp} {ms xs:Sl} {l g:List Int} {n:Int} (hb:-1 ≤ n∧n ≤ 5) (hm:Reads .i64 H ms l) (hx:Reads .i64 H xs g) (hl:l.length ≤ 1000) (hr:∀ m ∈ l,-2 ≤ m∧m ≤ 63) (hgl:g.length ≤ 1000) :
  callF PP orc k impl_MasksHave.id [.sl 1 ms,.int .i64 n,.sl 1 xs] H=some (.bool (haveV n l g),H):=by
 obtain ⟨k,rfl⟩:=Zs k (by omega)
 rw [impl_MasksHave.call]
 have h1:=implMasksValid_ok (show 2000000 ≤ k by omega) hb hm hl hr
 have h2:=implGridValid_ok (show 2000000 ≤ k by omega) hx (by omega) n
 have h3:=implGridFilled_ok (show 2000001 ≤ k by omega) hx (by omega) n
 have hxl:=hx.len
 unfold haveV
 cases e1:masksOk n l with
 | false=>
  rw [e1] at h1
  simp only [impl_MasksHave.f,impl_MasksHave.j0,dt,df,bt,bf,nt,nf,Za,Zy,Zx,Zt,Zf,Zn,Zz,Zi,Zo,wr,AV.toB,AV.toI,AV.toS,if_true,h1,Bool.false_and]
 | true=>
  rw [e1] at h1
  cases e2:gridOk g n with
  | false=>
   rw [e2] at h2
   simp only [impl_MasksHave.f,impl_MasksHave.j0,dt,df,bt,bf,nt,nf,Za,Zy,Zx,Zt,Zf,Zn,Zz,Zi,Zo,wr,AV.toB,AV.toI,AV.toS,if_true,h1,h2,Bool.false_and,Bool.and_false]
  | true=>
   rw [e2] at h2 h3
   rw [ip rfl] at h3
   by_cases c:(filled g:Int)=(g.length:Int)
   ·have d1:=implHave_l2 (callF PP orc k) k hm hx e1 e2 g.length 0 k (by omega) (by omega)
    simp only [Int.natCast_zero] at d1
    simp only [impl_MasksHave.f,impl_MasksHave.j0,impl_MasksHave.j1,dt,df,bt,bf,nt,nf,Za,Zy,Zx,Zt,Zf,Zn,Zz,Zi,Zo,wr,AV.toB,AV.toI,AV.toS,if_true,h1,h2,h3,hxl,nf c,Bool.true_and,d1]
   ·have e:inB l g 0 g.length=false:=by
     rw [Bool.eq_false_iff]
     intro h
     apply c
     have hf:full g:=have_full e1 e2 fun i hi=>(inB_iff l g _ _).1 h i (by omega) (by omega)
     rw [filled_eq.2 hf]
    rw [e]
    simp only [impl_MasksHave.f,impl_MasksHave.j0,dt,df,bt,bf,nt,nf,Za,Zy,Zx,Zt,Zf,Zn,Zz,Zi,Zo,wr,AV.toB,AV.toI,AV.toS,if_true,h1,h2,h3,hxl,nt c,Bool.true_and]


def peerB (n line a b:Nat):Bool:=!(decide (2 ≤ n) && (decide (line < 2 * n) && (decide (a < n) && (decide (b < n) && !(a == b))))) || (!(lc n line a == lc n line b) && (lc n line a / n == lc n line b / n || lc n line a % n == lc n line b % n))
theorem tab_peer:∀ n:Nat,n < 5→∀ line:Nat,line < 8→∀ a:Nat,a < 4→∀ b:Nat,b < 4→peerB n line a b=true:=by decide +kernel
theorem lc_peer {n:Int} (hn:2 ≤ n∧n ≤ 4) {line a b:Nat} (hl:(line:Int) < 2 * n) (ha:(a:Int) < n) (hb:(b:Int) < n) (hab:a ≠ b):peer n.toNat (lc n line a) (lc n line b):=by
 have:=tab_peer n.toNat (by omega) line (by omega) a (by omega) b (by omega)
 unfold peerB at this
 rw [decide_eq_true (show 2 ≤ n.toNat by omega),decide_eq_true (show line < 2 * n.toNat by omega),decide_eq_true (show a < n.toNat by omega),decide_eq_true (show b < n.toNat by omega),show (a == b)=false by simpa using hab,show ((n.toNat:Nat):Int)=n by omega] at this
 simp only [Zx,Za,Zy,Bool.false_or,Bool.and_eq_true,Bool.not_eq_true',beq_eq_false_iff_ne,Bool.or_eq_true,beq_iff_eq] at this
 exact this
theorem PQ2_symm {n:Int} {l:List Int} {line i j x w:Nat} (h:PQ2 n l line i j x w):PQ2 n l line j i x w:=by
 obtain ⟨h1,h2,u,h3,h4,h5,h6,h7⟩:=h
 exact ⟨h1.symm,by rw [← h1]; exact h2,u,h3,h5,h4,h6,by rw [← h1]; exact h7⟩
theorem iPairs_l13 (rec:Rec) (k:Nat) (L0:Sl→Int→Sl→Int→Int→Hp→An) (L1:Sl→Int→Sl→Sl→Int→Int→Sl→Int→Int→Hp→An) (L5:Sl→Int→Sl→Sl→Int→Int→Int→Sl→Int→Int→Sl→Int→Int→Hp→An) {H0 Hb:Hp} {ms t cs x28 x38:Sl} {l:List Int} {n x21 x22 x29 x30 x39 x40:Int} {line i jj:Nat} (hmk:masksOk n l=true) (hm:Reads .i64 H0 ms l) (hline:(line:Int) < 2 * n) (htb:t.blk < Hb.length) (hi:(i:Int) < n) (hj:(jj:Int) < n) :
  ∀ (j q fuel:Nat) (H:Hp) (a:List Int) (P:Nat→Nat→Prop),(q:Int) + j=n→j < fuel→H0 <+: H→Own 1 Hb H cs ((lineCells n line).map (.int .i64))→Own 1 H0 H t (a.map (.int .i64))→Sub l a P →
   ∃ H' a',impl_NarrowPairs.l13 rec k L0 L1 L5 fuel ms n t cs (lc n line i:Int) (lc n line jj:Int) x21 x22 x28 x29 x30 x38 x39 x40 cs n q H=L5 ms n t cs (lc n line i:Int) x21 x22 x28 x29 x30 x38 x39 (IntKind.i64.wrap (x40 + 1)) H'∧H0 <+: H'∧Own 1 H0 H' t (a'.map (.int .i64))∧Adv t.blk H H'∧Sub l a' (fun x w=>P x w ∨ ∃ u:Nat,q ≤ u∧(u:Int) < n∧u ≠ i∧u ≠ jj∧x=lc n line u∧has (l.getD (lc n line i) 0) w=true):=by
 obtain ⟨l4,l16,lN,hN,n2,n4⟩:=masks_len hmk
 have hll:=line_len hmk hline
 have hn:2 ≤ n∧n ≤ 4:=(masksOk_iff.1 hmk).1
 have hsz:=(masksOk_iff.1 hmk).2.2
 have hM:=masks_M hmk
 have hml:=hm.len
 intro j
 induction j with
 | zero=>
  intro q fuel H a P hq hf hp hc ho hs
  obtain ⟨fuel,rfl⟩:=Zs fuel (by omega)
  refine ⟨H,a,?_,hp,ho,Adv.refl _ _,hs.congr fun x w hx=>⟨.inl,by rintro (h | ⟨u,h1,h2,_⟩); exact h; omega⟩⟩
  simp (disch:=omega) only [impl_NarrowPairs.l13,impl_NarrowPairs.j11,df,Zf]
 | succ j ih=>
  intro q fuel H a P hq hf hp hc ho hs
  obtain ⟨fuel,rfl⟩:=Zs fuel (by omega)
  have hal:=hs.len
  have htl:t.len=a.length:=by have:=ho.len; simpa using this
  have hcl:=(own_reads hc).len
  have cq:=lc_lt hn hline (show (q:Int) < n by omega)
  have ci:=lc_lt hn hline hi
  have hrq:=rdn (own_reads hc) (i:=q) (by omega)
  rw [← cq.2] at hrq
  have hrm:=pf_reads hp hm
  have inj:∀ u:Nat,(u:Int) < n→u ≠ q→lc n line q ≠ lc n line u:=fun u hu hne=>(lc_peer hn hline (show (q:Int) < n by omega) hu (fun e=>hne e.symm)).1
  by_cases c:q ≠ i∧q ≠ jj
  ·have n1:=inj i hi (fun e=>c.1 e.symm)
   have n2:=inj jj hj (fun e=>c.2 e.symm)
   obtain ⟨H1,d1,d2,d3,d4⟩:=own_set1 ho hp (lc n line q) (by omega) (mSub (a.getD (lc n line q) 0) (l.getD (lc n line i) 0))
   obtain ⟨H',a',e1,e2,e3,e4,e5⟩:=ih (q + 1) fuel H1 _ _ (by omega) (by omega) d2 (d4.own htb hc) d3 (hs.step _ (by omega) (hM.at (lc n line i)))
   push_cast at e1
   refine ⟨H',a',?_,e2,e3,d4.trans e4,e5.congr fun x w hx=>?_⟩
   ·simp (disch:=omega) only [impl_NarrowPairs.l13,impl_NarrowPairs.j14,impl_NarrowPairs.j15,impl_NarrowPairs.j16,impl_NarrowPairs.j18,impl_NarrowPairs.j19,dt,nt,Za,Zt,Zn,Zo,hrq,rdn (own_reads ho),rdn hrm,m_sub (hs.ms.at _) (hM.at _),d1,wr (n:=(q:Int) + 1),e1]
   ·constructor
    ·rintro ((h | ⟨h1,h2⟩) | ⟨u,h1,h2⟩)
     ·exact .inl h
     ·exact .inr ⟨q,Nat.le_refl _,by omega,c.1,c.2,h1,h2⟩
     ·exact .inr ⟨u,by omega,h2⟩
    ·rintro (h | ⟨u,h1,h2,h3,h4,h5,h6⟩)
     ·exact .inl (.inl h)
     ·by_cases e:u=q
      ·subst e; exact .inl (.inr ⟨h5,h6⟩)
      ·exact .inr ⟨u,by omega,h2,h3,h4,h5,h6⟩
  ·obtain ⟨H',a',e1,e2,e3,e4,e5⟩:=ih (q + 1) fuel H a P (by omega) (by omega) hp hc ho hs
   push_cast at e1
   refine ⟨H',a',?_,e2,e3,e4,e5.congr fun x w hx=>?_⟩
   ·by_cases c1':q=i
    ·subst c1'
     simp (disch:=omega) only [impl_NarrowPairs.l13,impl_NarrowPairs.j14,impl_NarrowPairs.j15,impl_NarrowPairs.j17,impl_NarrowPairs.j18,impl_NarrowPairs.j19,dt,nf,Za,Zt,Zf,Zn,Zo,hrq,wr (n:=(q:Int) + 1),e1]
    ·have hqj:q=jj:=by omega
     subst hqj
     have n1:=inj i hi (fun e=>c1' e.symm)
     simp (disch:=omega) only [impl_NarrowPairs.l13,impl_NarrowPairs.j14,impl_NarrowPairs.j15,impl_NarrowPairs.j16,impl_NarrowPairs.j18,impl_NarrowPairs.j19,dt,nt,nf,Za,Zt,Zf,Zn,Zo,hrq,wr (n:=(q:Int) + 1),e1]
   ·constructor
    ·rintro (h | ⟨u,h1,h2⟩)
     ·exact .inl h
     ·exact .inr ⟨u,by omega,h2⟩
    ·rintro (h | ⟨u,h1,h2,h3,h4,h5,h6⟩)
     ·exact .inl h
     ·refine .inr ⟨u,?_,h2,h3,h4,h5,h6⟩
      by_cases e:u=q
      ·subst e; exact absurd ⟨h3,h4⟩ c
      ·omega
theorem iPairs_l5 {k:Nat} (hk:2000000 ≤ k) (L0:Sl→Int→Sl→Int→Int→Hp→An) (L1:Sl→Int→Sl→Sl→Int→Int→Sl→Int→Int→Hp→An) {H0 Hb:Hp} {ms t cs x28:Sl} {l:List Int} {n x21 x22 x29 x30:Int} {line i:Nat} (hmk:masksOk n l=true) (hm:Reads .i64 H0 ms l) (hline:(line:Int) < 2 * n) (htb:t.blk < Hb.length) (hi:(i:Int) < n) :
  ∀ (j p fuel:Nat) (H:Hp) (a:List Int) (P:Nat→Nat→Prop),((i + 1 + p:Nat):Int) + j=n→j < fuel→H0 <+: H→Own 1 Hb H cs ((lineCells n line).map (.int .i64))→Own 1 H0 H t (a.map (.int .i64))→Sub l a P →
   ∃ H' a',impl_NarrowPairs.l5 (callF Ab.PP orc k) k L0 L1 fuel ms n t cs (lc n line i:Int) x21 x22 x28 x29 x30 (Sl.mk cs.nil cs.blk (cs.off + (i + 1)) (n.toNat - (i + 1))) ((n.toNat - (i + 1):Nat):Int) p H=L1 ms n t cs x21 x22 x28 x29 (IntKind.i64.wrap (x30 + 1)) H'∧H0 <+: H'∧Own 1 H0 H' t (a'.map (.int .i64))∧Own 1 Hb H' cs ((lineCells n line).map (.int .i64))∧Sub l a' (fun x w=>P x w ∨ ∃ u:Nat,i + 1 + p ≤ u∧(u:Int) < n∧PQ2 n l line i u x w):=by
 obtain ⟨l4,l16,lN,hN,n2,n4⟩:=masks_len hmk
 have hll:=line_len hmk hline
 have hn:2 ≤ n∧n ≤ 4:=(masksOk_iff.1 hmk).1
 have hsz:=(masksOk_iff.1 hmk).2.2
 have hml:=hm.len
 intro j
 induction j with
 | zero=>
  intro p fuel H a P hq hf hp hc ho hs
  obtain ⟨fuel,rfl⟩:=Zs fuel (by omega)
  refine ⟨H,a,?_,hp,ho,hc,hs.congr fun x w hx=>⟨.inl,by rintro (h | ⟨u,h1,h2,_⟩); exact h; omega⟩⟩
  simp (disch:=omega) only [impl_NarrowPairs.l5,impl_NarrowPairs.j7,df,Zf]
 | succ j ih=>
  intro p fuel H a P hq hf hp hc ho hs
  obtain ⟨fuel,rfl⟩:=Zs fuel (by omega)
  have hcl:=(own_reads hc).len
  have ci:=lc_lt hn hline hi
  have cb:=lc_lt hn hline (show ((i + 1 + p:Nat):Int) < n by omega)
  have hrs:=reads_from (own_reads hc) (i + 1) (by omega)
  rw [hll] at hrs
  have hrp:=rdn hrs (i:=p) (by simp; omega)
  have edr:((lineCells n line).drop (i + 1)).getD p 0=(lineCells n line).getD (i + 1 + p) 0:=by
   rw [List.getD_eq_getElem?_getD,List.getElem?_drop,← List.getD_eq_getElem?_getD]
  rw [edr,← cb.2] at hrp
  have hrm:=pf_reads hp hm
  have hi2:lc n line i < l.length:=by omega
  have hb2:lc n line (i + 1 + p) < l.length:=by omega
  have h1:=OnesCount_ok (show 2 ≤ k by omega) (masks_at hmk hi2) H
  by_cases ce:l.getD (lc n line i) 0=l.getD (lc n line (i + 1 + p)) 0
  ·by_cases c3:cntM (l.getD (lc n line i) 0)=2
   ·obtain ⟨H2,a',b1,b2,b3,b4,b5⟩:=iPairs_l13 (callF Ab.PP orc k) k L0 L1 (impl_NarrowPairs.l5 (callF Ab.PP orc k) k L0 L1 fuel) (x21:=x21) (x22:=x22) (x28:=x28) (x29:=x29) (x30:=x30) (x38:=Sl.mk cs.nil cs.blk (cs.off + (i + 1)) (n.toNat - (i + 1))) (x39:=((n.toNat - (i + 1):Nat):Int)) (x40:=(p:Int)) hmk hm hline htb hi (jj:=i + 1 + p) (by omega) n.toNat 0 k H a P (by omega) (by omega) hp hc ho hs
    have hc2:=b4.own htb hc
    obtain ⟨H',a'',d1,d2,d3,d4,d5⟩:=ih (p + 1) fuel H2 a' _ (by omega) (by omega) b2 hc2 b3 b5
    push_cast at d1
    refine ⟨H',a'',?_,d2,d3,d4,d5.congr fun x w hx=>?_⟩
    ·simp only [Int.natCast_zero] at b1
     rw [← hN] at *
     have hlen:(cs.len:Int)=n:=by omega
     have hc2':((cntM (l.getD (lc n line i) 0):Nat):Int)=2:=by omega
     simp (disch:=omega) only [impl_NarrowPairs.l5,impl_NarrowPairs.j6,impl_NarrowPairs.j9,impl_NarrowPairs.j10,impl_NarrowPairs.j12,dt,nf,Za,Zt,Zf,Zn,Zo,AV.toI,if_true,hrp,rdn hrm,h1,hc2',hlen,b1,wr (n:=(p:Int) + 1),d1]
    ·have ht:two (l.getD (lc n line i) 0)=true:=by unfold two; unfold cntM at c3; rw [c3]; rfl
     constructor
     ·rintro ((h | ⟨u,h1,h2,h3,h4,h5,h6⟩) | ⟨u,h1,h2⟩)
      ·exact .inl h
      ·exact .inr ⟨i + 1 + p,Nat.le_refl _,by omega,ce,ht,u,h2,h3,h4,h5,h6⟩
      ·exact .inr ⟨u,by omega,h2⟩
     ·rintro (h | ⟨u,h1,h2,h3,h4,z,h5,h6,h7,h8,h9⟩)
      ·exact .inl (.inl h)
      ·by_cases e:u=i + 1 + p
       ·subst e; exact .inl (.inr ⟨z,by omega,h5,h6,h7,h8,h9⟩)
       ·exact .inr ⟨u,by omega,h2,h3,h4,z,h5,h6,h7,h8,h9⟩
   ·obtain ⟨H',a'',d1,d2,d3,d4,d5⟩:=ih (p + 1) fuel H a P (by omega) (by omega) hp hc ho hs
    push_cast at d1
    refine ⟨H',a'',?_,d2,d3,d4,d5.congr fun x w hx=>?_⟩
    ·have hc2':((cntM (l.getD (lc n line i) 0):Nat):Int) ≠ 2:=by omega
     simp (disch:=omega) only [impl_NarrowPairs.l5,impl_NarrowPairs.j6,impl_NarrowPairs.j9,impl_NarrowPairs.j10,impl_NarrowPairs.j11,dt,nf,nt hc2',Za,Zt,Zf,Zn,Zo,AV.toI,if_true,hrp,rdn hrm,h1,wr (n:=(p:Int) + 1),d1]
    ·have ht:¬ two (l.getD (lc n line i) 0)=true:=by unfold two; rw [beq_iff_eq]; exact c3
     constructor
     ·rintro (h | ⟨u,h1,h2⟩)
      ·exact .inl h
      ·exact .inr ⟨u,by omega,h2⟩
     ·rintro (h | ⟨u,h1,h2,h3,h4,h5⟩)
      ·exact .inl h
      ·exact absurd h4 ht
  ·obtain ⟨H',a'',d1,d2,d3,d4,d5⟩:=ih (p + 1) fuel H a P (by omega) (by omega) hp hc ho hs
   push_cast at d1
   refine ⟨H',a'',?_,d2,d3,d4,d5.congr fun x w hx=>?_⟩
   ·simp (disch:=omega) only [impl_NarrowPairs.l5,impl_NarrowPairs.j6,impl_NarrowPairs.j8,impl_NarrowPairs.j10,impl_NarrowPairs.j11,dt,nt ce,Za,Zt,Zf,Zn,Zo,hrp,rdn hrm,wr (n:=(p:Int) + 1),d1]
   ·constructor
    ·rintro (h | ⟨u,h1,h2⟩)
     ·exact .inl h
     ·exact .inr ⟨u,by omega,h2⟩
    ·rintro (h | ⟨u,h1,h2,h3,h4⟩)
     ·exact .inl h
     ·refine .inr ⟨u,?_,h2,h3,h4⟩
      by_cases e:u=i + 1 + p
      ·subst e; exact absurd h3 ce
      ·omega
theorem iPairs_l1 {k:Nat} (hk:2000000 ≤ k) (L0:Sl→Int→Sl→Int→Int→Hp→An) {H0 Hb:Hp} {ms t cs:Sl} {l:List Int} {n x21 x22:Int} {line:Nat} (hmk:masksOk n l=true) (hm:Reads .i64 H0 ms l) (hline:(line:Int) < 2 * n) (htb:t.blk < Hb.length) :
  ∀ (j i fuel:Nat) (H:Hp) (a:List Int) (P:Nat→Nat→Prop),(i:Int) + j=n→j < fuel→H0 <+: H→Own 1 Hb H cs ((lineCells n line).map (.int .i64))→Own 1 H0 H t (a.map (.int .i64))→Sub l a P →
   ∃ H' a',impl_NarrowPairs.l1 (callF Ab.PP orc k) k L0 fuel ms n t cs x21 x22 cs n i H=L0 ms n t x21 (IntKind.i64.wrap (x22 + 1)) H'∧H0 <+: H'∧Own 1 H0 H' t (a'.map (.int .i64))∧Sub l a' (fun x w=>P x w ∨ ∃ z u:Nat,i ≤ z∧z < u∧(u:Int) < n∧PQ2 n l line z u x w):=by
 obtain ⟨l4,l16,lN,hN,n2,n4⟩:=masks_len hmk
 have hll:=line_len hmk hline
 have hn:2 ≤ n∧n ≤ 4:=(masksOk_iff.1 hmk).1
 intro j
 induction j with
 | zero=>
  intro i fuel H a P hq hf hp hc ho hs
  obtain ⟨fuel,rfl⟩:=Zs fuel (by omega)
  refine ⟨H,a,?_,hp,ho,hs.congr fun x w hx=>⟨.inl,by rintro (h | ⟨z,u,h1,h2,h3,_⟩); exact h; omega⟩⟩
  simp (disch:=omega) only [impl_NarrowPairs.l1,impl_NarrowPairs.j4,df,Zf]
 | succ j ih=>
  intro i fuel H a P hq hf hp hc ho hs
  obtain ⟨fuel,rfl⟩:=Zs fuel (by omega)
  have hi:(i:Int) < n:=by omega
  have hcl:=(own_reads hc).len
  have ci:=lc_lt hn hline hi
  have hrq:=rdn (own_reads hc) (i:=i) (by omega)
  rw [← ci.2] at hrq
  obtain ⟨H1,a',b1,b2,b3,b4,b5⟩:=iPairs_l5 hk L0 (impl_NarrowPairs.l1 (callF Ab.PP orc k) k L0 fuel) (x21:=x21) (x22:=x22) (x28:=cs) (x29:=n) (x30:=(i:Int)) hmk hm hline htb hi (n.toNat - (i + 1)) 0 k H a P (by omega) (by omega) hp hc ho hs
  obtain ⟨H',a'',d1,d2,d3,d4⟩:=ih (i + 1) fuel H1 a' _ (by omega) (by omega) b2 b4 b3 b5
  push_cast at d1
  refine ⟨H',a'',?_,d2,d3,d4.congr fun x w hx=>?_⟩
  ·have hlen:(cs.len:Int)=n:=by omega
   have w1:IntKind.i64.wrap ((i:Int) + 1)=(i:Int) + 1:=wr (by omega) (by omega)
   have esl:(Sl.mk cs.nil cs.blk (cs.off + ((i:Int) + 1).toNat * 1) (n - ((i:Int) + 1)).toNat)=Sl.mk cs.nil cs.blk (cs.off + (i + 1)) (n.toNat - (i + 1)):=by
    congr 1 <;> omega
   have hq:((0:Int) ≤ (i:Int) + 1∧(i:Int) + 1 ≤ n∧n ≤ n∧True)∧0 < 1∧True:=⟨⟨by omega,by omega,by omega,trivial⟩,by omega,trivial⟩
   simp only [Int.natCast_zero] at b1
   simp (disch:=omega) only [impl_NarrowPairs.l1,impl_NarrowPairs.j3,dt,Za,Zt,Zn,Zo,hrq,hlen,w1,esl,ip hq]
   rw [show (n - ((i:Int) + 1)).toNat=n.toNat - (i + 1) by omega,b1,w1,d1]
  ·constructor
   ·rintro ((h | ⟨u,h1,h2,h3⟩) | ⟨z,u,h1,h2⟩)
    ·exact .inl h
    ·exact .inr ⟨i,u,Nat.le_refl _,by omega,h2,h3⟩
    ·exact .inr ⟨z,u,by omega,h2⟩
   ·rintro (h | ⟨z,u,h1,h2,h3,h4⟩)
    ·exact .inl (.inl h)
    ·by_cases e:z=i
     ·subst e; exact .inl (.inr ⟨u,by omega,h3,h4⟩)
     ·exact .inr ⟨z,u,by omega,h2,h3,h4⟩
theorem iPairs_l0 {k:Nat} (hk:2000000 ≤ k) {H0:Hp} {ms t:Sl} {l:List Int} {n:Int} (hmk:masksOk n l=true) (hm:Reads .i64 H0 ms l) :
  ∀ (j line fuel:Nat) (H:Hp) (a:List Int) (P:Nat→Nat→Prop),(line:Int) + j=2 * n→j < fuel→H0 <+: H→Own 1 H0 H t (a.map (.int .i64))→Sub l a P →
   ∃ H' a',impl_NarrowPairs.l0 (callF Ab.PP orc k) k fuel ms n t (2 * n) line H=some (.sl 1 t,H')∧H0 <+: H'∧Own 1 H0 H' t (a'.map (.int .i64))∧Sub l a' (fun x w=>P x w ∨ ∃ ln z u:Nat,line ≤ ln∧(ln:Int) < 2 * n∧z < u∧(u:Int) < n∧PQ2 n l ln z u x w):=by
 obtain ⟨l4,l16,lN,hN,n2,n4⟩:=masks_len hmk
 have hn:2 ≤ n∧n ≤ 4:=(masksOk_iff.1 hmk).1
 intro j
 induction j with
 | zero=>
  intro line fuel H a P hl hf hp ho hs
  obtain ⟨fuel,rfl⟩:=Zs fuel (by omega)
  refine ⟨H,a,?_,hp,ho,hs.congr fun x w hx=>⟨.inl,by rintro (h | ⟨ln,z,u,h1,h2,_⟩); exact h; omega⟩⟩
  simp (disch:=omega) only [impl_NarrowPairs.l0,impl_NarrowPairs.j2,df,Zf]
 | succ j ih=>
  intro line fuel H a P hl hf hp ho hs
  obtain ⟨fuel,rfl⟩:=Zs fuel (by omega)
  have hline:(line:Int) < 2 * n:=by omega
  obtain ⟨cs,H1,a1,a2,a3⟩:=implLineCells_own hk hn (line:=(line:Int)) ⟨by omega,hline⟩ H
  have hcl:=(own_reads a3).len
  have hll:=line_len hmk hline
  obtain ⟨H2,a',b1,b2,b3,b4⟩:=iPairs_l1 hk (impl_NarrowPairs.l0 (callF Ab.PP orc k) k fuel) (x21:=2 * n) (x22:=(line:Int)) hmk hm hline (own_lt' ho) n.toNat 0 k H1 a P (by omega) (by omega) (hp.trans a2) a3 (own_pf ho a2) hs
  obtain ⟨H',a'',d1,d2,d3,d4⟩:=ih (line + 1) fuel H2 a' _ (by omega) (by omega) b2 b3 b4
  push_cast at d1
  refine ⟨H',a'',?_,d2,d3,d4.congr fun x w hx=>?_⟩
  ·simp only [Int.natCast_zero] at b1
   have hlen:(cs.len:Int)=n:=by omega
   simp (disch:=omega) only [impl_NarrowPairs.l0,dt,Zt,Zo,AV.toS,if_true,a1,hlen,b1,wr (n:=(line:Int) + 1),d1]
  ·constructor
   ·rintro ((h | ⟨z,u,h1,h2,h3,h4⟩) | ⟨ln,z,u,h1,h2⟩)
    ·exact .inl h
    ·exact .inr ⟨line,z,u,Nat.le_refl _,by omega,h2,h3,h4⟩
    ·exact .inr ⟨ln,z,u,by omega,h2⟩
   ·rintro (h | ⟨ln,z,u,h1,h2,h3,h4,h5⟩)
    ·exact .inl (.inl h)
    ·by_cases e:ln=line
     ·subst e; exact .inl (.inr ⟨z,u,by omega,h3,h4,h5⟩)
     ·exact .inr ⟨ln,z,u,by omega,h2,h3,h4,h5⟩
theorem implNarrowPairs_ok {k:Nat} (hk:2000010 ≤ k) {H:Hp} {ms:Sl} {l:List Int} {n:Int} (hb:-1 ≤ n∧n ≤ 5) (hm:Reads .i64 H ms l) (hnn:ms.nil=false) (hl:l.length ≤ 1000) (hr:∀ m ∈ l,-2 ≤ m∧m ≤ 63) :
  ∃ t H',callF Ab.PP orc k impl_NarrowPairs.id [.sl 1 ms,.int .i64 n] H=some (.sl 1 t,H')∧H <+: H'∧NilOr H H' t (pairsV n l):=by
 obtain ⟨k,rfl⟩:=Zs k (by omega)
 rw [impl_NarrowPairs.call]
 have h1:=implMasksValid_ok (show 2000000 ≤ k by omega) hb hm hl hr
 have hml:=hm.len
 unfold pairsV
 cases hv:masksOk n l with
 | false=>
  rw [hv] at h1
  rw [iN (by simp)]
  exact ⟨Sl.none,H,by simp only [impl_NarrowPairs.f,dt,df,bt,bf,nt,nf,Za,Zy,Zx,Zt,Zf,Zn,Zz,Zi,Zo,wr,AV.toB,AV.toI,AV.toS,if_true,h1],(List.prefix_refl _),.inl ⟨rfl,rfl⟩⟩
 | true=>
  rw [hv] at h1
  rw [ip rfl]
  obtain ⟨l4,l16,lN,hN,n2,n4⟩:=masks_len hv
  have hM:=masks_M hv
  have h2:=Clone_own (show 1 ≤ k by omega) hm hnn hl
  have hnew:=own_new 1 H (l.map (.int .i64)) l.length (by simp)
  obtain ⟨H',a',b1,b2,b3,b4⟩:=iPairs_l0 (show 2000000 ≤ k by omega) hv hm (2 * n).toNat 0 k (H ++ [some (Blk.mk false (l.map (.int .i64)))]) l _ (by omega) (by omega) (List.prefix_append _ _) hnew (Sub.refl hM)
  have e:a'=subAll l (PQ n l):=(b4.congr fun x w hx=>(show _ ↔ PQ n l x w from by
   rw [PQ_iff]
   constructor
   ·rintro (h | ⟨ln,z,u,_,h1,h2,h3,h4⟩)
    ·exact h.elim
    ·exact ⟨ln,u,z,h1,h3,h2,PQ2_symm h4⟩
   ·rintro ⟨ln,i,u,h1,h2,h3,h4⟩
    exact .inr ⟨ln,u,i,by omega,h1,h3,h2,PQ2_symm h4⟩)).eq hM
  subst e
  refine ⟨_,H',?_,b2,.inr b3⟩
  simp only [Int.natCast_zero] at b1
  simp (disch:=omega) only [impl_NarrowPairs.f,dt,df,Zy,Zf,AV.toB,AV.toS,if_true,Zo,h1,h2,wr (n:=2 * n),b1]
theorem specHave_l2 (rec:Rec) (k:Nat) {H:Hp} {ms xs:Sl} {l g:List Int} {n:Int} (hm:Reads .i64 H ms l) (hx:Reads .i64 H xs g) (hl:masksOk n l=true) (hg:gridOk g n=true) :
  ∀ (j i fuel:Nat),i + j=g.length→j < fuel→spec_MasksHave.l2 rec k fuel ms xs i H=some (.bool (inB l g i j),H):=by
 have hml:=hm.len
 have hxl:=hx.len
 have hlen:=square_len hl hg
 have h16:=gridOk_len hg
 have hM:=masks_M hl
 intro j
 induction j with
 | zero=>
  intro i fuel hi hf
  obtain ⟨fuel,rfl⟩:=Zs fuel (by omega)
  simp (disch:=omega) only [spec_MasksHave.l2,dt,df,bt,bf,nt,nf,Za,Zy,Zx,Zt,Zf,Zn,Zz,Zi,Zo,wr,AV.toB,AV.toI,AV.toS,if_true,inB]
 | succ j ih=>
  intro i fuel hi hf
  obtain ⟨fuel,rfl⟩:=Zs fuel (by omega)
  obtain ⟨v0,v4⟩:=gr hg (show i < g.length by omega)
  have d1:=ih (i + 1) fuel (by omega) (by omega)
  push_cast at d1
  have hb:=m_bit0 (hM.at i) v0 (show g.getD i 0 ≤ 5 by omega)
  rw [inB]
  cases e:has (l.getD i 0) (g.getD i 0).toNat with
  | true=>
   rw [e] at hb
   simp (disch:=omega) only [spec_MasksHave.l2,dt,df,bt,bf,nt,nf,Za,Zy,Zx,Zt,Zf,Zn,Zz,Zi,Zo,wr,AV.toB,AV.toI,AV.toS,if_true,rdn hm,rdn hx,iN,hb,d1,Bool.true_and]
  | false=>
   rw [e] at hb
   simp (disch:=omega) only [spec_MasksHave.l2,dt,df,bt,bf,nt,nf,Za,Zy,Zx,Zt,Zf,Zn,Zz,Zi,Zo,wr,AV.toB,AV.toI,AV.toS,if_true,rdn hm,rdn hx,iN,hb,Bool.false_and]
theorem specMasksHave_ok {k:Nat} (hk:2000010 ≤ k) {H:Hp} {ms xs:Sl} {l g:List Int} {n:Int} (hb:-1 ≤ n∧n ≤ 5) (hm:Reads .i64 H ms l) (hx:Reads .i64 H xs g) (hl:l.length ≤ 1000) (hgl:g.length ≤ 1000) :
  callF PP orc k spec_MasksHave.id [.sl 1 ms,.int .i64 n,.sl 1 xs] H=some (.bool (haveV n l g),H):=by
 obtain ⟨k,rfl⟩:=Zs k (by omega)
 rw [spec_MasksHave.call]
 have h1:=specMasksValid_any (show 2000000 ≤ k by omega) hb hm hl
 have h2:=specGridValid_ok (show 2000000 ≤ k by omega) hx (by omega) n
 unfold haveV
 cases e1:masksOk n l with
 | false=>
  rw [e1] at h1
  simp only [spec_MasksHave.f,spec_MasksHave.j0,dt,df,bt,bf,nt,nf,Za,Zy,Zx,Zt,Zf,Zn,Zz,Zi,Zo,wr,AV.toB,AV.toI,AV.toS,if_true,h1,Bool.false_and]
 | true=>
  rw [e1] at h1
  cases e2:gridOk g n with
  | false=>
   rw [e2] at h2
   simp only [spec_MasksHave.f,spec_MasksHave.j0,dt,df,bt,bf,nt,nf,Za,Zy,Zx,Zt,Zf,Zn,Zz,Zi,Zo,wr,AV.toB,AV.toI,AV.toS,if_true,h1,h2,Bool.false_and,Bool.and_false]
  | true=>
   rw [e2] at h2
   have d1:=specHave_l2 (callF PP orc k) k hm hx e1 e2 g.length 0 k (by omega) (by omega)
   simp only [Int.natCast_zero] at d1
   simp only [spec_MasksHave.f,spec_MasksHave.j0,spec_MasksHave.j1,dt,df,bt,bf,nt,nf,Za,Zy,Zx,Zt,Zf,Zn,Zz,Zi,Zo,wr,AV.toB,AV.toI,AV.toS,if_true,h1,h2,Bool.true_and,d1]
theorem sub_zero {a b:Int} (ha:M a) (hb:M b) (h:∀ v:Nat,has a v=true→has b v=true):mSub a b=0:=by
 apply Classical.byContradiction
 intro hc
 obtain ⟨v,hv⟩:=(ne_zero_has (M.sub ha hb)).1 hc
 rw [has_sub ha hb,Bool.and_eq_true,Bool.not_eq_true'] at hv
 rw [h v hv.1] at hv
 exact absurd hv.2 (by simp)
theorem within_l0 (rec:Rec) (k:Nat) {H:Hp} {s t:Sl} {x y:List Int} (hs:Reads .i64 H s x) (ht:Reads .i64 H t y) (hx:Ms x) (hy:Ms y) (h:SubM x y) (h1:x.length ≤ 1000) :
  ∀ (j i fuel:Nat),i + j=x.length→j < fuel→laws_within.l0 rec k fuel s t i H=some (.bool true,H):=by
 have hsl:=hs.len
 have htl:=ht.len
 have hl:=h.1
 intro j
 induction j with
 | zero=>
  intro i fuel hi hf
  obtain ⟨fuel,rfl⟩:=Zs fuel (by omega)
  simp (disch:=omega) only [laws_within.l0,dt,df,bt,bf,nt,nf,Za,Zy,Zx,Zt,Zf,Zn,Zz,Zi,Zo,wr,AV.toB,AV.toI,AV.toS,if_true]
 | succ j ih=>
  intro i fuel hi hf
  obtain ⟨fuel,rfl⟩:=Zs fuel (by omega)
  have d1:=ih (i + 1) fuel (by omega) (by omega)
  push_cast at d1
  have e:=sub_zero (hx.at i) (hy.at i) fun v hv=>h.2 i v (by omega) hv
  simp (disch:=omega) only [laws_within.l0,dt,nf,Za,Zt,Zf,Zn,Zo,rdn hs,rdn ht,m_sub (hx.at i) (hy.at i),e,wr (n:=(i:Int) + 1),d1]
theorem within_ok {k:Nat} (hk:2000000 ≤ k) {H:Hp} {s t:Sl} {x y:List Int} (hs:Reads .i64 H s x) (ht:Reads .i64 H t y) (hx:Ms x) (hy:Ms y) (h:SubM x y) (h1:x.length ≤ 1000) :
  callF PP orc k laws_within.id [.sl 1 s,.sl 1 t] H=some (.bool true,H):=by
 obtain ⟨k,rfl⟩:=Zs k (by omega)
 rw [laws_within.call]
 have hsl:=hs.len
 have htl:=ht.len
 have hl:=h.1
 have d1:=within_l0 (callF PP orc k) k hs ht hx hy h h1 x.length 0 k (by omega) (by omega)
 simp only [Int.natCast_zero] at d1
 simp (disch:=omega) only [laws_within.f,nf,Zf,d1]
def sq (n:Int) (rem:Nat) (g:List Int):List (List Int):=sols (fun g=>!clash g n) n.toNat rem g
def sqFrom (n:Int) (rem:Nat) (g:List Int) (at':Nat) (j:Nat) (v:Int):List (List Int):=(upto j v).flatMap fun v=>if (!clash (g.set at' v) n)=true then sq n rem (g.set at' v) else []
theorem sqFrom_succ (n:Int) (rem:Nat) (g:List Int) (at':Nat) (j:Nat) (v:Int):sqFrom n rem g at' (j + 1) v=(if (!clash (g.set at' v) n)=true then sq n rem (g.set at' v) else []) ++ sqFrom n rem g at' j (v + 1):=by
 unfold sqFrom; rw [upto,List.flatMap_cons]
structure SqTo (b:Nat) (H':Hp) (L:List (List Int)) (left:Nat) (t:Sl):Prop where
 yes:∀ x,L[left]?=some x→Reads .i64 H' t x∧t.blk ≠ b∧0 < x.length
 no:L[left]?=none→t.len=0∧NumAt b H' ((left - L.length:Nat):Int)
theorem l2Find_ok {n:Int} (hn:2 ≤ n∧n ≤ 4) {b:Nat}:∀ (rem:Nat) {k:Nat},2000002 + rem ≤ k→∀ {H:Hp} {s:Sl} {g:List Int} {left:Nat},rem ≤ (n * n).toNat→Reads .i64 H s g→s.blk ≠ b→gridOk g n=true→(∀ i,g.length - rem ≤ i→g.getD i 0=0)→NumAt b H left→left < 9223372036854775808→
  ∃ t H',callF PP orc k spec_l2Search.id [.sl 1 s,.int .i64 n,.int .i64 (((n * n).toNat - rem:Nat):Int),.ptr b 0] H=some (.sl 1 t,H')∧Adv b H H'∧SqTo b H' (sq n rem g) left t:=by
 have hnn:4 ≤ n * n∧n * n ≤ 16:=by
  have:n=2 ∨ n=3 ∨ n=4:=by omega
  rcases this with rfl | rfl | rfl <;> decide
 intro rem
 induction rem with
 | zero=>
  intro k hk H s g left hrem hs hsb hg hgz hnum hleft
  obtain ⟨k,rfl⟩:=Zs k (by omega)
  rw [spec_l2Search.call]
  obtain ⟨_,h2,h3⟩:=(gridOk_iff g n).1 hg
  have hsl:=hs.len
  have e1:((((n * n).toNat - 0:Nat):Int) == (s.len:Int))=true:=by simp; omega
  have hl:ldI .i64 H b 0=some (left:Int):=by unfold ldI Hp.cell; rw [hnum]; simp [AV.toI]
  have hb:=(List.getElem?_eq_some_iff.1 hnum).1
  have eL:sq n 0 g=[g]:=rfl
  rw [eL]
  by_cases c:left=0
  ·subst c
   refine ⟨s,H,?_,Adv.refl b H,fun x hx=>?_,fun h=>by simp at h⟩
   ·have e2:(((0:Nat):Int) == 0)=true:=rfl
    simp only [spec_l2Search.f,e1,Zt,hl,Zo,e2]
   ·simp at hx; subst hx; exact ⟨hs,hsb,by omega⟩
  ·have w:IntKind.i64.wrap ((left:Int) - 1)=((left - 1:Nat):Int):=by rw [wr (by omega) (by omega)]; omega
   obtain ⟨H',a1,a2,a3,a4⟩:=sto1' hnum (.int .i64 ((left - 1:Nat):Int))
   refine ⟨Sl.none,H',?_,⟨a3,by omega⟩,fun x hx=>?_,fun _=>⟨rfl,by simpa [NumAt] using a2⟩⟩
   ·have e2:((left:Int) == 0)=false:=by simp; omega
    simp only [spec_l2Search.f,e1,Zt,Zf,hl,Zo,e2,w,a1]
   ·rw [List.getElem?_eq_none (by simp; omega)] at hx; cases hx
 | succ rem ih=>
  intro k hk H s g left hrem hs hsb hg hgz hnum hleft
  obtain ⟨k,rfl⟩:=Zs k (by omega)
  rw [spec_l2Search.call]
  obtain ⟨_,h2,h3⟩:=(gridOk_iff g n).1 hg
  have hsl:=hs.len
  have hgl:g.length=(n * n).toNat:=by omega
  have e1:((((n * n).toNat - (rem + 1):Nat):Int) == (s.len:Int))=false:=by simp; omega
  have eL:sq n (rem + 1) g=sqFrom n rem g (g.length - (rem + 1)) n.toNat 1:=by
   have h0:=hgz (g.length - (rem + 1)) (Nat.le_refl _)
   unfold sq sqFrom
   rw [sols,if_neg (by omega)]; rfl
  rw [eL,hgl]
  have hgz':∀ i,g.length - rem ≤ i→i ≠ (n * n).toNat - (rem + 1)→g.getD i 0=0:=fun i h _=>hgz i (by omega)
  generalize hat:(n * n).toNat - (rem + 1)=at' at *
  have hw:IntKind.i64.wrap ((at':Int) + 1)=(((n * n).toNat - rem:Nat):Int):=by rw [wr (by omega) (by omega)]; omega
  -- the loop
  have loop:∀ (j fuel:Nat) (v:Int) (H1:Hp) (left:Nat),v + j=n + 1→1 ≤ v→j < fuel→Adv b H H1→NumAt b H1 left→left < 9223372036854775808 →
    ∃ t H',spec_l2Search.l0 (callF PP orc k) k fuel s n at' b 0 v H1=some (.sl 1 t,H')∧Adv b H H'∧SqTo b H' (sqFrom n rem g at' j v) left t:=by
   intro j
   induction j with
   | zero=>
    intro fuel v H1 left hv hv1 hf hadv hnum hleft
    obtain ⟨fuel,rfl⟩:=Zs fuel (by omega)
    have:¬ (v ≤ n):=by omega
    refine ⟨Sl.none,H1,?_,hadv,fun x hx=>by simp [sqFrom,upto] at hx,fun _=>⟨rfl,by simpa [sqFrom,upto] using hnum⟩⟩
    simp only [spec_l2Search.l0,this,decide_false,Zf]
   | succ j ihj=>
    intro fuel v H1 left hv hv1 hf hadv hnum hleft
    obtain ⟨fuel,rfl⟩:=Zs fuel (by omega)
    have hvn:v ≤ n:=by omega
    have hs1:=hadv.reads hsb hs
    have c1:=read_ok hs1
    have c2:=appl_ok H1 g .i64 (by omega)
    have hnew:=own_new 1 H1 (g.map (.int .i64)) g.length (by simp)
    obtain ⟨H6,d1,d2,d3,d4,d5⟩:=own_set hnew (List.prefix_append _ _) at' (by omega) v
    have hb1:b < H1.length:=(List.getElem?_eq_some_iff.1 hnum).1
    have hg6:=grid_set hg at' v ⟨by omega,hvn⟩
    obtain ⟨H7,f1,f2⟩:=specl2Clash_ok (show 2000001 ≤ k by omega) (own_reads d3) hg6
    have adv6:Adv b H1 H6:=pf_adv d2
    have num7:NumAt b H7 left:=pf_get (d2.trans f2) hnum
    have adv7:Adv b H H7:=hadv.trans (pf_adv (d2.trans f2))
    have q0:(0:Int) ≤ (at':Int):=by omega
    have q1:(at':Int) < ((Sl.mk false H1.length 0 g.length).len:Int):=by show (at':Int) < (g.length:Int); omega
    have w1:IntKind.i64.wrap (v + 1)=v + 1:=wr (by omega) (by omega)
    have gl:s.len=g.length:=hsl
    have d1':(H1 ++ [some (Blk.mk false (g.map (.int .i64)))]).sto H1.length (0 + at') [.int .i64 v]=some H6:=d1
    rw [sqFrom_succ]
    cases hc:clash (g.set at' v) n with
    | true=>
     obtain ⟨t,H',i1,i2,i3⟩:=ihj fuel (v + 1) H7 left (by omega) (by omega) (by omega) adv7 num7 hleft
     rw [if_neg (by simp),List.nil_append]
     refine ⟨t,H',?_,i2,i3⟩
     simp only [spec_l2Search.l0,spec_l2Search.j1,hvn,decide_true,Zt,c1,gl,c2,Zo,cells_ok,Za,q0,q1,Zn,Nat.mul_one,d1',f1,AV.toB,hc,w1,i1]
    | false=>
     have hs6:=pf_reads f2 (own_reads d3)
     rw [if_pos (by simp)]
     obtain ⟨t,H8,r1,r2,r3⟩:=ih (k:=k) (by omega) (H:=H7) (s:=Sl.mk false H1.length 0 g.length) (g:=g.set at' v) (left:=left) (by omega) hs6 (by simp only; omega) hg6 (fun i hi=>by
      rw [List.length_set] at hi
      rw [getD_set,if_neg (by omega)]
      exact hgz' i hi (by omega)) num7 hleft
     by_cases hlt:left < (sq n rem (g.set at' v)).length
     ·obtain ⟨t1,t2,t3⟩:=r3.yes _ (List.getElem?_eq_getElem hlt)
      have hpos:(t.len:Int) > 0:=by rw [t1.len]; omega
      refine ⟨t,H8,?_,adv7.trans r2,fun x hx=>?_,fun h=>?_⟩
      ·simp only [spec_l2Search.l0,spec_l2Search.j1,hvn,decide_true,Zt,c1,gl,c2,Zo,cells_ok,Za,q0,q1,Zn,Nat.mul_one,d1',f1,AV.toB,hc,Zf,hw,r1,AV.toS,if_true,hpos]
      ·rw [List.getElem?_append_left hlt] at hx; exact r3.yes x hx
      ·rw [List.getElem?_append_left hlt] at h; rw [List.getElem?_eq_getElem hlt] at h; cases h
     ·obtain ⟨t1,t2⟩:=r3.no (List.getElem?_eq_none (by omega))
      have hneg:¬ ((t.len:Int) > 0):=by omega
      obtain ⟨u,H',i1,i2,i3⟩:=ihj fuel (v + 1) H8 _ (by omega) (by omega) (by omega) (adv7.trans r2) t2 (by omega)
      refine ⟨u,H',?_,i2,fun x hx=>?_,fun h=>?_⟩
      ·simp only [spec_l2Search.l0,spec_l2Search.j1,hvn,decide_true,Zt,c1,gl,c2,Zo,cells_ok,Za,q0,q1,Zn,Nat.mul_one,d1',f1,AV.toB,hc,Zf,hw,r1,AV.toS,if_true,hneg,decide_false,w1,i1]
      ·rw [List.getElem?_append_right (by omega)] at hx; exact i3.yes x hx
      ·rw [List.getElem?_append_right (by omega)] at h
       have:=i3.no h
       rw [Nat.sub_sub] at this
       rw [List.length_append]; exact this
  obtain ⟨t,H',i1,i2,i3⟩:=loop n.toNat k 1 H left (by omega) (by omega) (by omega) (Adv.refl b H) hnum hleft
  refine ⟨t,H',?_,i2,i3⟩
  simp only [spec_l2Search.f,e1,Zf]; exact i1
def squareV (n x:Int):List Int:=if (2 ≤ n∧n ≤ 4)∧0 ≤ x then ((squares n)[x.toNat]?).getD [] else []
theorem squareV_mem {n:Int} (hn:2 ≤ n∧n ≤ 4) {x:Int} (h:squareV n x ≠ []):squareV n x ∈ squares n:=by
 unfold squareV at h ⊢
 split at h
 ·rename_i c
  rw [if_pos c]
  cases e:(squares n)[x.toNat]? with
  | none=>rw [e] at h; simp at h
  | some y=>
   have:=List.mem_of_getElem? e
   exact this
 ·simp at h
theorem squareV_len (n x:Int):(squareV n x).length ≤ 16:=by
 by_cases c:2 ≤ n∧n ≤ 4
 ·by_cases h:squareV n x=[]
  ·rw [h]; simp
  ·exact (squares_pos c (squareV_mem c h)).2.2.2.2
 ·unfold squareV; rw [if_neg (by omega)]; simp
theorem specSquare_full {k:Nat} (hk:2000100 ≤ k) {n x:Int} (hx:x ≤ 9223372036854775807) (H:Hp) :
  ∃ t H',callF PP orc k spec_SquareNumber.id [.int .i64 n,.int .i64 x] H=some (.sl 1 t,H')∧H <+: H'∧Own 1 H H' t ((squareV n x).map (.int .i64)):=by
 obtain ⟨k,rfl⟩:=Zs k (by omega)
 rw [spec_SquareNumber.call]
 have hin:=l1In_ok (show 1 ≤ k by omega) n 2 4
 by_cases hn:2 ≤ n∧n ≤ 4
 ·by_cases h0:0 ≤ x
  ·have hz:=zeros_len hn
   have hnn:0 ≤ n * n∧n * n ≤ 16:=by omega
   obtain ⟨left,rfl⟩:=Int.eq_ofNat_of_zero_le h0
   have w:IntKind.i64.wrap (n * n)=n * n:=wr (by omega) (by omega)
   obtain ⟨H3,a1,a2,a3,a4⟩:=sto1' (H:=H ++ [some (Blk.mk false [.int .i64 0])]) (b:=H.length) (x:=.int .i64 0) (by simp) (.int .i64 (left:Int))
   have hp3:H <+: H3:=a3.pf (Nat.le_refl _) (List.prefix_append _ _) (by omega)
   have hl3:H3.length=H.length + 1:=by rw [a4]; simp
   have e0:∀ N:Nat,(List.replicate N [AV.int .i64 0]).flatten=(List.replicate N 0).map (.int .i64):=fun N=>by
    induction N with
    | zero=>rfl
    | succ N ih=>simp [List.replicate_succ,ih]
   have hnew:=own_new 1 H3 ((zeros n).map (.int .i64)) (n * n).toNat (by simp; exact hz.2.1.symm)
   obtain ⟨t,H4,b1,b2,b3⟩:=l2Find_ok (b:=H.length) hn (n * n).toNat (k:=k) (by omega) (H:=H3 ++ [some (Blk.mk false ((zeros n).map (.int .i64)))]) (left:=left) (Nat.le_refl _) (own_reads hnew) (by simp only; omega) (zeros_grid hn) (fun i _=>zeros_at n i) (pf_get (List.prefix_append _ _) a2) (by omega)
   have hp4:H <+: H4:=b2.but.pf (Nat.le_refl _) (hp3.trans (List.prefix_append _ _)) b2.le
   have esq:sq n (n * n).toNat (zeros n)=squares n:=rfl
   rw [esq] at b3
   have hrd:Reads .i64 H4 t (squareV n (left:Int)):=by
    unfold squareV
    rw [if_pos ⟨hn,h0⟩,Int.toNat_natCast]
    cases e:(squares n)[left]? with
    | none=>exact reads_nil (b3.no e).1
    | some y=>exact (b3.yes y e).1
   have hl16:=squareV_len n (left:Int)
   have d1:=read_ok hrd
   have d2:=appl_ok H4 (squareV n (left:Int)) .i64 (by omega)
   refine ⟨_,_,?_,hp4.trans (List.prefix_append _ _),own_base (own_new 1 H4 ((squareV n (left:Int)).map (.int .i64)) (squareV n (left:Int)).length (by simp)) hp4⟩
   have hx0:¬ ((left:Int) < 0):=by omega
   simp only [Nat.sub_self] at b1
   have tl:=hrd.len
   simp only [spec_SquareNumber.f,spec_SquareNumber.j0,spec_SquareNumber.j1,hin,hn,and_self,decide_true,Zo,AV.toB,Zy,Zf,hx0,decide_false,a1,w,e0]
   rw [if_pos (by omega)]
   have b1':callF PP orc k spec_l2Search.id [.sl 1 (Sl.mk false H3.length 0 (n * n).toNat),.int .i64 n,.int .i64 0,.ptr H.length 0] (H3 ++ [some (Blk.mk false ((List.replicate (n * n).toNat (0:Int)).map (.int .i64)))])=some (.sl 1 t,H4):=b1
   simp only [b1',Zo,AV.toS,if_true,d1,tl,d2,cells_ok,Za,Zt]
  ·refine ⟨Sl.mk false H.length 0 0,H ++ [some (Blk.mk false [])],?_,(List.prefix_append _ _),?_⟩
   ·have hx0:x < 0:=by omega
    simp only [spec_SquareNumber.f,spec_SquareNumber.j0,spec_SquareNumber.j1,hin,hn,and_self,decide_true,Zo,AV.toB,Zy,Zf,Zt,hx0]
   ·unfold squareV; rw [if_neg (by omega)]; exact own_new 1 H [] 0 rfl
 ·refine ⟨Sl.mk false H.length 0 0,H ++ [some (Blk.mk false [])],?_,(List.prefix_append _ _),?_⟩
  ·simp only [spec_SquareNumber.f,spec_SquareNumber.j0,spec_SquareNumber.j1,hin,hn,decide_false,Zo,AV.toB,Zx,Zt]
  ·unfold squareV; rw [if_neg (by omega)]; exact own_new 1 H [] 0 rfl
theorem sameInts_l0 (rec:Rec) (k:Nat) {H:Hp} {s t:Sl} {x y:List Int} (hs:Reads .i64 H s x) (ht:Reads .i64 H t y) (hl:x.length=y.length) (h1:x.length ≤ 1000) :
  ∀ (j i fuel:Nat),i + j=x.length→j < fuel→laws_sameInts.l0 rec k fuel s t i H=some (.bool (decide (x.drop i=y.drop i)),H):=by
 have hsl:=hs.len
 have htl:=ht.len
 intro j
 induction j with
 | zero=>
  intro i fuel hi hf
  obtain ⟨fuel,rfl⟩:=Zs fuel (by omega)
  rw [List.drop_eq_nil_of_le (show x.length ≤ i by omega),List.drop_eq_nil_of_le (show y.length ≤ i by omega)]
  simp (disch:=omega) only [laws_sameInts.l0,dt,df,bt,bf,nt,nf,Za,Zy,Zx,Zt,Zf,Zn,Zz,Zi,Zo,wr,AV.toB,AV.toI,AV.toS,if_true]
  rfl
 | succ j ih=>
  intro i fuel hi hf
  obtain ⟨fuel,rfl⟩:=Zs fuel (by omega)
  have hx:i < x.length:=by omega
  have hy:i < y.length:=by omega
  have ex:x.drop i=x.getD i 0 :: x.drop (i + 1):=by
   rw [List.drop_eq_getElem_cons hx,List.getD_eq_getElem?_getD,List.getElem?_eq_getElem hx]; rfl
  have ey:y.drop i=y.getD i 0 :: y.drop (i + 1):=by
   rw [List.drop_eq_getElem_cons hy,List.getD_eq_getElem?_getD,List.getElem?_eq_getElem hy]; rfl
  rw [ex,ey]
  by_cases c:x.getD i 0=y.getD i 0
  ·have d1:=ih (i + 1) fuel (by omega) (by omega)
   push_cast at d1
   rw [show decide (x.getD i 0 :: x.drop (i + 1)=y.getD i 0 :: y.drop (i + 1))=decide (x.drop (i + 1)=y.drop (i + 1)) by rw [c]; simp,← d1]
   simp (disch:=omega) only [laws_sameInts.l0,dt,df,bt,bf,nt,nf,Za,Zy,Zx,Zt,Zf,Zn,Zz,Zi,Zo,wr,AV.toB,AV.toI,AV.toS,if_true,rdn hs,rdn ht,nf]
  ·rw [show decide (x.getD i 0 :: x.drop (i + 1)=y.getD i 0 :: y.drop (i + 1))=false from decide_eq_false fun h=>c (List.cons.inj h).1]
   simp (disch:=omega) only [laws_sameInts.l0,dt,df,bt,bf,nt,nf,Za,Zy,Zx,Zt,Zf,Zn,Zz,Zi,Zo,wr,AV.toB,AV.toI,AV.toS,if_true,rdn hs,rdn ht,nt]
theorem sameInts_ok {k:Nat} (hk:2000000 ≤ k) {H:Hp} {s t:Sl} {x y:List Int} (hs:Reads .i64 H s x) (ht:Reads .i64 H t y) (h1:x.length ≤ 1000) (h2:y.length ≤ 1000) :
  callF PP orc k laws_sameInts.id [.sl 1 s,.sl 1 t] H=some (.bool (decide (x=y)),H):=by
 obtain ⟨k,rfl⟩:=Zs k (by omega)
 rw [laws_sameInts.call]
 have hsl:=hs.len
 have htl:=ht.len
 by_cases c:x.length=y.length
 ·have d1:=sameInts_l0 (callF PP orc k) k hs ht c h1 x.length 0 k (by omega) (by omega)
  simp only [Int.natCast_zero,List.drop_zero] at d1
  rw [← d1]
  simp (disch:=omega) only [laws_sameInts.f,dt,df,bt,bf,nt,nf,Za,Zy,Zx,Zt,Zf,Zn,Zz,Zi,Zo,wr,AV.toB,AV.toI,AV.toS,if_true]
 ·rw [decide_eq_false (fun h=>c (congrArg List.length h))]
  simp (disch:=omega) only [laws_sameInts.f,dt,df,bt,bf,nt,nf,Za,Zy,Zx,Zt,Zf,Zn,Zz,Zi,Zo,wr,AV.toB,AV.toI,AV.toS,if_true]
theorem same_ok {k:Nat} (hk:2000000 ≤ k) {H:Hp} {s t:Sl} {x:List Int} (hs:Reads .i64 H s x) (ht:Reads .i64 H t x) (h1:x.length ≤ 1000) :
  callF PP orc k laws_sameInts.id [.sl 1 s,.sl 1 t] H=some (.bool true,H):=by
 rw [sameInts_ok hk hs ht h1 h1,decide_eq_true rfl]
theorem keeps_l0 {k:Nat} (hk:2000100 ≤ k) {H0:Hp} {s t:Sl} {l l':List Int} {n:Int} (hs:Reads .i64 H0 s l) (ht:Reads .i64 H0 t l') (hl:masksOk n l=true) (hl':masksOk n l'=true) (h:∀ g ∈ squares n,InM l g→InM l' g) :
  ∀ (j i fuel:Nat) (H:Hp),i + j=14→j < fuel→H0 <+: H→∃ H',laws_keeps.l0 (callF PP orc k) k fuel s t n i H=some (.bool true,H')∧H0 <+: H':=by
 have hn:=(masksOk_iff.1 hl).1
 obtain ⟨q1,q2,q3⟩:=masks_rg' hl
 obtain ⟨r1,r2,r3⟩:=masks_rg' hl'
 intro j
 induction j with
 | zero=>
  intro i fuel H hi hf hp
  obtain ⟨fuel,rfl⟩:=Zs fuel (by omega)
  exact ⟨H,by simp (disch:=omega) only [laws_keeps.l0,df,Zf],hp⟩
 | succ j ih=>
  intro i fuel H hi hf hp
  obtain ⟨fuel,rfl⟩:=Zs fuel (by omega)
  obtain ⟨u,H1,a1,a2,a3⟩:=specSquare_full hk (n:=n) (x:=(i:Int)) (by omega) H
  have hul:=(own_reads a3).len
  have h16:=squareV_len n (i:Int)
  have hp1:=hp.trans a2
  obtain ⟨H',b1,b2⟩:=ih (i + 1) fuel H1 (by omega) (by omega) hp1
  push_cast at b1
  by_cases c:squareV n (i:Int)=[]
  ·rw [c] at hul
   refine ⟨H1,?_,hp1⟩
   have hz:(u.len:Int)=0:=by rw [hul]; rfl
   simp (disch:=omega) only [laws_keeps.l0,dt,bt,Zt,Zo,AV.toS,if_true,a1]
  ·have hg:=squareV_mem hn c
   have hpos:0 < (squareV n (i:Int)).length:=List.length_pos_iff.2 c
   have h2:=specMasksHave_ok (show 2000010 ≤ k by omega) (n:=n) (by omega) (pf_reads hp1 hs) (own_reads a3) (by omega) (by omega)
   have h3:=implMasksHave_ok (show 2000010 ≤ k by omega) (n:=n) (by omega) (pf_reads hp1 ht) (own_reads a3) (by omega) r3 (by omega)
   refine ⟨H',?_,b2⟩
   cases e:haveV n l (squareV n (i:Int)) with
   | true=>
    have e':haveV n l' (squareV n (i:Int))=true:=haveV_iff.2 ⟨hl',(squares_pos hn hg).2.1,h _ hg (haveV_iff.1 e).2.2⟩
    rw [e] at h2
    rw [e'] at h3
    simp (disch:=omega) only [laws_keeps.l0,laws_keeps.j1,laws_keeps.j2,dt,bf,Zt,Zf,Zy,Zo,AV.toS,AV.toB,if_true,a1,h2,h3,wr (n:=(i:Int) + 1),b1]
   | false=>
    rw [e] at h2
    simp (disch:=omega) only [laws_keeps.l0,laws_keeps.j1,laws_keeps.j2,dt,bf,Zt,Zf,Zo,AV.toS,AV.toB,if_true,a1,h2,wr (n:=(i:Int) + 1),b1]
where
 masks_rg' {n:Int} {l:List Int} (h:masksOk n l=true):l.length ≤ 16∧0 < l.length∧∀ m ∈ l,-2 ≤ m∧m ≤ 63:=by
  obtain ⟨h1,h2,h3⟩:=masksOk_iff.1 h
  have:=masks_len h
  refine ⟨by omega,by omega,fun m hm=>?_⟩
  have:=(maskOk_iff.1 (h2 m hm)).1
  have:=topMask_le n
  omega
theorem keeps_ok {k:Nat} (hk:2000101 ≤ k) {H:Hp} {s t:Sl} {l l':List Int} {n:Int} (hs:Reads .i64 H s l) (ht:Reads .i64 H t l') (hl:masksOk n l=true) (hl':masksOk n l'=true) (h:∀ g ∈ squares n,InM l g→InM l' g) :
  ∃ H',callF PP orc k laws_keeps.id [.sl 1 s,.sl 1 t,.int .i64 n] H=some (.bool true,H')∧H <+: H':=by
 obtain ⟨k,rfl⟩:=Zs k (by omega)
 rw [laws_keeps.call]
 exact keeps_l0 (by omega) hs ht hl hl' h 14 0 k H (by omega) (by omega) (List.prefix_refl _)
def sumR (g:Nat→Nat):Nat→Nat→Nat
 | _,0=>0
 | a,c + 1=>g a + sumR g (a + 1) c
theorem sumR_le {g:Nat→Nat} (h:∀ i,g i ≤ 1):∀ (c a:Nat),sumR g a c ≤ c
 | 0,a=>Nat.le_refl _
 | c + 1,a=>by rw [sumR]; have:=h a; have:=sumR_le h c (a + 1); omega
def pf (n:Int) (l:List Int) (line i j:Nat):Nat:=if l.getD (lc n line i) 0=l.getD (lc n line j) 0∧two (l.getD (lc n line i) 0)=true then 1 else 0
theorem pf_le (n:Int) (l:List Int) (line i j:Nat):pf n l line i j ≤ 1:=by unfold pf; split <;> omega
theorem pf_symm (n:Int) (l:List Int) (line i j:Nat):pf n l line i j=pf n l line j i:=by
 unfold pf
 by_cases c:l.getD (lc n line i) 0=l.getD (lc n line j) 0
 ·rw [c]
 ·rw [if_neg (fun h=>c h.1),if_neg (fun h=>c h.1.symm)]
def pairsN (n:Int) (l:List Int) (line:Nat):Nat:=sumR (fun i=>sumR (pf n l line i) 0 i) 0 n.toNat
theorem pairs_up {n:Int} (hn:2 ≤ n∧n ≤ 4) (l:List Int) (line:Nat):sumR (fun i=>sumR (pf n l line i) (i + 1) (n.toNat - (i + 1))) 0 n.toNat=pairsN n l line:=by
 unfold pairsN
 have h01:=pf_symm n l line 0 1
 have h02:=pf_symm n l line 0 2
 have h03:=pf_symm n l line 0 3
 have h12:=pf_symm n l line 1 2
 have h13:=pf_symm n l line 1 3
 have h23:=pf_symm n l line 2 3
 generalize hN:n.toNat=N at *
 have:N=2 ∨ N=3 ∨ N=4:=by omega
 rcases this with rfl | rfl | rfl <;> simp only [sumR,Nat.reduceAdd,Nat.reduceSub] <;> omega
theorem pairs_zero {n:Int} (hn:2 ≤ n∧n ≤ 4) {l:List Int} {line:Nat} (h:pairsN n l line=0) {i j:Nat} (hi:(i:Int) < n) (hj:j < i):pf n l line i j=0:=by
 unfold pairsN at h
 have:n=2 ∨ n=3 ∨ n=4:=by omega
 have hi3:i=1 ∨ i=2 ∨ i=3:=by omega
 have hj3:j=0 ∨ j=1 ∨ j=2:=by omega
 rcases this with rfl | rfl | rfl <;> simp only [sumR,Int.reduceToNat,Nat.reduceAdd,Nat.reduceSub] at h <;> rcases hi3 with rfl | rfl | rfl <;> rcases hj3 with rfl | rfl | rfl <;> omega
def pairsInV (n:Int) (l:List Int) (line:Int):Int:=if masksOk n l=true∧0 ≤ line∧line < 2 * n then (pairsN n l line.toNat:Int) else -1
theorem two_cnt (m:Int):two m=true ↔ cntM m=2:=by unfold two cntM; rw [beq_iff_eq]
theorem iPairsIn_l3 {k:Nat} (hk:2 ≤ k) (L2:Sl→Sl→Int→Sl→Int→Int→Hp→An) {H:Hp} {ms cs:Sl} {l:List Int} {n:Int} {line i:Nat} (hmk:masksOk n l=true) (hm:Reads .i64 H ms l) (hc:Reads .i64 H cs (lineCells n line)) (hline:(line:Int) < 2 * n) (hi:(i:Int) < n) :
  ∀ (j p fuel r:Nat),((i + 1 + p:Nat):Int) + j=n→j < fuel→r + j ≤ 100 →
   impl_PairsIn.l3 (callF Ab.PP orc k) k L2 fuel ms cs (r:Int) (lc n line i:Int) cs n i (Sl.mk cs.nil cs.blk (cs.off + (i + 1)) (n.toNat - (i + 1))) ((n.toNat - (i + 1):Nat):Int) p H=L2 ms cs ((r + sumR (pf n l line i) (i + 1 + p) j:Nat):Int) cs n ((i:Int) + 1) H:=by
 obtain ⟨l4,l16,lN,hN,n2,n4⟩:=masks_len hmk
 have hll:=line_len hmk hline
 have hn:2 ≤ n∧n ≤ 4:=(masksOk_iff.1 hmk).1
 have hsz:=(masksOk_iff.1 hmk).2.2
 have hml:=hm.len
 have hcl:=hc.len
 intro j
 induction j with
 | zero=>
  intro p fuel r hq hf hr
  obtain ⟨fuel,rfl⟩:=Zs fuel (by omega)
  simp (disch:=omega) only [impl_PairsIn.l3,impl_PairsIn.j6,dt,df,bt,bf,nt,nf,Za,Zy,Zx,Zt,Zf,Zn,Zz,Zi,Zo,wr,AV.toB,AV.toI,AV.toS,if_true,sumR,Nat.add_zero]
 | succ j ih=>
  intro p fuel r hq hf hr
  obtain ⟨fuel,rfl⟩:=Zs fuel (by omega)
  have ci:=lc_lt hn hline hi
  have cb:=lc_lt hn hline (show ((i + 1 + p:Nat):Int) < n by omega)
  have hrs:=reads_from hc (i + 1) (by omega)
  rw [hll] at hrs
  have hrp:=rdn hrs (i:=p) (by simp; omega)
  have edr:((lineCells n line).drop (i + 1)).getD p 0=(lineCells n line).getD (i + 1 + p) 0:=by
   rw [List.getD_eq_getElem?_getD,List.getElem?_drop,← List.getD_eq_getElem?_getD]
  rw [edr,← cb.2] at hrp
  have h1:=OnesCount_ok (show 2 ≤ k by omega) (masks_at hmk (show lc n line i < l.length by omega)) H
  have hp1:=pf_le n l line i (i + 1 + p)
  rw [sumR]
  by_cases ce:l.getD (lc n line i) 0=l.getD (lc n line (i + 1 + p)) 0
  ·by_cases c2:cntM (l.getD (lc n line i) 0)=2
   ·have e:pf n l line i (i + 1 + p)=1:=by unfold pf; rw [if_pos ⟨ce,(two_cnt _).2 c2⟩]
    have d1:=ih (p + 1) fuel (r + 1) (by omega) (by omega) (by omega)
    push_cast at d1
    rw [e]
    have hc2':((cntM (l.getD (lc n line i) 0):Nat):Int)=2:=by omega
    simp (disch:=omega) only [impl_PairsIn.l3,impl_PairsIn.j5,impl_PairsIn.j7,dt,bt ce,bt,Za,Zt,Zn,Zo,AV.toI,if_true,hrp,rdn hm,h1,hc2',wr (n:=(r:Int) + 1),wr (n:=(p:Int) + 1),d1]
    congr 2
    rw [show i + 1 + (p + 1)=i + 1 + p + 1 by omega]
    omega
   ·have e:pf n l line i (i + 1 + p)=0:=by unfold pf; rw [if_neg (fun h=>c2 ((two_cnt _).1 h.2))]
    have d1:=ih (p + 1) fuel r (by omega) (by omega) (by omega)
    push_cast at d1
    rw [e]
    simp (disch:=omega) only [impl_PairsIn.l3,impl_PairsIn.j5,impl_PairsIn.j7,dt,bt ce,bf,Za,Zt,Zf,Zn,Zo,AV.toI,if_true,hrp,rdn hm,h1,wr (n:=(p:Int) + 1),d1]
    congr 2
    rw [show i + 1 + (p + 1)=i + 1 + p + 1 by omega]
    omega
  ·have e:pf n l line i (i + 1 + p)=0:=by unfold pf; rw [if_neg (fun h=>ce h.1)]
   have d1:=ih (p + 1) fuel r (by omega) (by omega) (by omega)
   push_cast at d1
   rw [e]
   simp (disch:=omega) only [impl_PairsIn.l3,impl_PairsIn.j5,impl_PairsIn.j7,dt,bf ce,Za,Zt,Zf,Zn,Zo,hrp,rdn hm,wr (n:=(p:Int) + 1),d1]
   congr 2
   rw [show i + 1 + (p + 1)=i + 1 + p + 1 by omega]
   omega
theorem iPairsIn_l2 {k:Nat} (hk:2000000 ≤ k) {H:Hp} {ms cs:Sl} {l:List Int} {n:Int} {line:Nat} (hmk:masksOk n l=true) (hm:Reads .i64 H ms l) (hc:Reads .i64 H cs (lineCells n line)) (hline:(line:Int) < 2 * n) :
  ∀ (j i fuel r:Nat),((i + j:Nat):Int)=n→j < fuel→r ≤ 4 * i →
   impl_PairsIn.l2 (callF Ab.PP orc k) k fuel ms cs (r:Int) cs n i H=some (.int .i64 ((r + sumR (fun i=>sumR (pf n l line i) (i + 1) (n.toNat - (i + 1))) i j:Nat):Int),H):=by
 obtain ⟨l4,l16,lN,hN,n2,n4⟩:=masks_len hmk
 have hll:=line_len hmk hline
 have hn:2 ≤ n∧n ≤ 4:=(masksOk_iff.1 hmk).1
 have hcl:=hc.len
 intro j
 induction j with
 | zero=>
  intro i fuel r hq hf hr
  obtain ⟨fuel,rfl⟩:=Zs fuel (by omega)
  simp (disch:=omega) only [impl_PairsIn.l2,impl_PairsIn.j4,dt,df,bt,bf,nt,nf,Za,Zy,Zx,Zt,Zf,Zn,Zz,Zi,Zo,wr,AV.toB,AV.toI,AV.toS,if_true,sumR,Nat.add_zero]
 | succ j ih=>
  intro i fuel r hq hf hr
  obtain ⟨fuel,rfl⟩:=Zs fuel (by omega)
  have hi:(i:Int) < n:=by omega
  have ci:=lc_lt hn hline hi
  have hrq:=rdn hc (i:=i) (by omega)
  rw [← ci.2] at hrq
  have a1:=iPairsIn_l3 (show 2 ≤ k by omega) (impl_PairsIn.l2 (callF Ab.PP orc k) k fuel) hmk hm hc hline hi (n.toNat - (i + 1)) 0 k r (by omega) (by omega) (by omega)
  have hs:=sumR_le (pf_le n l line i) (n.toNat - (i + 1)) (i + 1)
  have d1:=ih (i + 1) fuel (r + sumR (pf n l line i) (i + 1) (n.toNat - (i + 1))) (by push_cast at hq ⊢; omega) (by omega) (by omega)
  push_cast at d1
  rw [sumR]
  have hlen:(cs.len:Int)=n:=by omega
  have w1:IntKind.i64.wrap ((i:Int) + 1)=(i:Int) + 1:=wr (by omega) (by omega)
  have esl:(Sl.mk cs.nil cs.blk (cs.off + ((i:Int) + 1).toNat * 1) (n - ((i:Int) + 1)).toNat)=Sl.mk cs.nil cs.blk (cs.off + (i + 1)) (n.toNat - (i + 1)):=by
   congr 1 <;> omega
  have hq:((0:Int) ≤ (i:Int) + 1∧(i:Int) + 1 ≤ n∧n ≤ n∧True)∧0 < 1∧True:=⟨⟨by omega,by omega,by omega,trivial⟩,by omega,trivial⟩
  simp only [Int.natCast_zero,Nat.add_zero] at a1
  simp (disch:=omega) only [impl_PairsIn.l2,dt,Za,Zt,Zn,Zo,hrq,hlen,w1,esl,ip hq]
  rw [show (n - ((i:Int) + 1)).toNat=n.toNat - (i + 1) by omega,a1]
  push_cast
  rw [d1,Int.add_assoc]
theorem implPairsIn_ok {k:Nat} (hk:2000010 ≤ k) {H:Hp} {ms:Sl} {l:List Int} {n:Int} (hb:-1 ≤ n∧n ≤ 5) (hm:Reads .i64 H ms l) (hl:l.length ≤ 1000) (hr:∀ m ∈ l,-2 ≤ m∧m ≤ 63) (line:Int) :
  ∃ H',callF Ab.PP orc k impl_PairsIn.id [.sl 1 ms,.int .i64 n,.int .i64 line] H=some (.int .i64 (pairsInV n l line),H')∧H <+: H':=by
 obtain ⟨k,rfl⟩:=Zs k (by omega)
 rw [impl_PairsIn.call]
 unfold pairsInV
 cases e1:masksOk n l with
 | false=>
  rw [iN (by simp)]
  obtain ⟨cs,H1,a1,a2,a3⟩:=implLineCells_ok (show 2000000 ≤ k by omega) n line H
  have h1:=implMasksValid_ok (show 2000000 ≤ k by omega) hb (pf_reads a2 hm) hl hr
  rw [e1] at h1
  exact ⟨H1,by simp only [impl_PairsIn.f,impl_PairsIn.j0,dt,df,bt,bf,nt,nf,Za,Zy,Zx,Zt,Zf,Zn,Zz,Zi,Zo,wr,AV.toB,AV.toI,AV.toS,if_true,a1,h1],a2⟩
 | true=>
  have hn:2 ≤ n∧n ≤ 4:=(masksOk_iff.1 e1).1
  by_cases c:0 ≤ line∧line < 2 * n
  ·rw [ip ⟨rfl,c⟩]
   obtain ⟨cs,H1,a1,a2,a3⟩:=implLineCells_own (show 2000000 ≤ k by omega) hn c H
   have h1:=implMasksValid_ok (show 2000000 ≤ k by omega) hb (pf_reads a2 hm) hl hr
   rw [e1] at h1
   have hcl:=(own_reads a3).len
   obtain ⟨ln,rfl⟩:=Int.eq_ofNat_of_zero_le c.1
   have hll:=line_len e1 c.2
   have d1:=iPairsIn_l2 (show 2000000 ≤ k by omega) e1 (pf_reads a2 hm) (own_reads a3) c.2 n.toNat 0 k 0 (by omega) (by omega) (by omega)
   rw [Nat.zero_add,pairs_up hn] at d1
   rw [Int.toNat_natCast]
   refine ⟨H1,?_,a2⟩
   simp only [Int.natCast_zero] at d1
   have hlen:(cs.len:Int)=n:=by omega
   simp (disch:=omega) only [impl_PairsIn.f,impl_PairsIn.j0,impl_PairsIn.j1,Zy,Zf,Zo,AV.toB,AV.toS,if_true,a1,h1,a3.nn,hlen,d1]
  ·rw [iN (fun h=>c h.2)]
   have h1:=implMasksValid_ok (show 2000000 ≤ k by omega) hb hm hl hr
   rw [e1] at h1
   have a1:callF Ab.PP orc k impl_LineCells.id [.int .i64 n,.int .i64 line] H=some (.sl 1 Sl.none,H):=by
    obtain ⟨k,rfl⟩:=Zs k (by omega)
    rw [impl_LineCells.call]
    have hs:=sizeOk_ok (show 1 ≤ k by omega) n H
    rw [decide_eq_true hn] at hs
    by_cases c1:line < 0
    ·simp (disch:=omega) only [impl_LineCells.f,impl_LineCells.j0,dt,df,bt,bf,nt,nf,Za,Zy,Zx,Zt,Zf,Zn,Zz,Zi,Zo,wr,AV.toB,AV.toI,AV.toS,if_true,hs,dt c1]
    ·have hg:line ≥ 2 * n:=by omega
     simp (disch:=omega) only [impl_LineCells.f,impl_LineCells.j0,dt,df,bt,bf,nt,nf,Za,Zy,Zx,Zt,Zf,Zn,Zz,Zi,Zo,wr,AV.toB,AV.toI,AV.toS,if_true,hs,df c1,wr (n:=2 * n),dt hg]
   exact ⟨H,by simp only [impl_PairsIn.f,impl_PairsIn.j0,dt,df,bt,bf,nt,nf,Za,Zy,Zx,Zt,Zf,Zn,Zz,Zi,Zo,wr,AV.toB,AV.toI,AV.toS,if_true,a1,h1,Sl.none],(List.prefix_refl _)⟩
theorem pairsN_le {n:Int} (hn:2 ≤ n∧n ≤ 4) (l:List Int) (line:Nat):pairsN n l line ≤ 16:=by
 unfold pairsN
 have h1:∀ i,sumR (pf n l line i) 0 i ≤ i:=fun i=>sumR_le (pf_le n l line i) i 0
 have a0:=h1 0
 have a1:=h1 1
 have a2:=h1 2
 have a3:=h1 3
 have:n=2 ∨ n=3 ∨ n=4:=by omega
 rcases this with rfl | rfl | rfl <;> simp only [sumR,Int.reduceToNat,Nat.reduceAdd] at * <;> omega
theorem sumR_zero {g:Nat→Nat}:∀ (c a:Nat),sumR g a c=0→∀ i,a ≤ i→i < a + c→g i=0
 | 0,a,_,i,h1,h2=>by omega
 | c + 1,a,h,i,h1,h2=>by
  rw [sumR] at h
  by_cases e:i=a
  ·subst e; omega
  ·exact sumR_zero c (a + 1) (by omega) i (by omega) (by omega)
theorem no_pairs {n:Int} {l:List Int} (hl:masksOk n l=true) (h:sumR (pairsN n l) 0 (2 * n.toNat)=0):pairsV n l=l:=by
 have hn:=(masksOk_iff.1 hl).1
 unfold pairsV
 rw [if_pos hl]
 refine ((Sub.refl (masks_M hl)).congr fun c v hc=>?_).eq (masks_M hl) |>.symm
 constructor
 ·intro h; exact h.elim
 ·rintro ⟨line,i,j,q,h1,h2,h3,h4,h5,h6,h7,h8,h9⟩
  have hz:=sumR_zero _ _ h line (by omega) (by omega)
  have:=pairs_zero hn hz h3 h2
  unfold pf at this
  rw [if_pos ⟨h7,h8⟩] at this
  omega
theorem NPairs_l0 {k:Nat} (hk:2000010 ≤ k) {H0:Hp} {n:Int} {ms x:Sl} {l:List Int} (hn:2 ≤ n∧n ≤ 4) (hm:Reads .i64 H0 ms l) (hl:masksOk n l=true) :
  ∀ (j i fuel acc:Nat) (H:Hp),i + j=2 * n.toNat→j < fuel→acc ≤ 16 * i→H0 <+: H →
   ∃ H',laws_FnNarrowPairs.l0 (callF PP orc k) k fuel ms n x (acc:Int) (i:Int) H=laws_FnNarrowPairs.j1 (callF PP orc k) k ms n x ((acc + sumR (pairsN n l) i j:Nat):Int) H'∧H0 <+: H':=by
 have q1:=(masks_len hl).2.1
 have q3:∀ m ∈ l,-2 ≤ m∧m ≤ 63:=fun m hm=>by
  have h1:=(maskOk_iff.1 ((masksOk_iff.1 hl).2.1 m hm)).1
  have:=topMask_le n
  omega
 intro j
 induction j with
 | zero=>
  intro i fuel acc H hi hf ha hp
  obtain ⟨fuel,rfl⟩:=Zs fuel (by omega)
  refine ⟨H,?_,hp⟩
  simp (disch:=omega) only [laws_FnNarrowPairs.l0,df,Zf,wr (n:=2 * n),sumR,Nat.add_zero]
 | succ j ih=>
  intro i fuel acc H hi hf ha hp
  obtain ⟨fuel,rfl⟩:=Zs fuel (by omega)
  obtain ⟨H1,a1,a2⟩:=implPairsIn_ok (show 2000010 ≤ k by omega) (n:=n) (by omega) (pf_reads hp hm) (by omega) q3 (i:Int)
  have e:pairsInV n l (i:Int)=(pairsN n l i:Int):=by
   unfold pairsInV; rw [if_pos ⟨hl,by omega,by omega⟩,Int.toNat_natCast]
  rw [e] at a1
  have hle:=pairsN_le hn l i
  obtain ⟨H',b1,b2⟩:=ih (i + 1) fuel (acc + pairsN n l i) H1 (by omega) (by omega) (by omega) (hp.trans a2)
  push_cast at b1
  refine ⟨H',?_,b2⟩
  rw [sumR,← Nat.add_assoc]
  push_cast
  rw [← b1]
  simp (disch:=omega) only [laws_FnNarrowPairs.l0,dt,Zt,wr (n:=2 * n),a1,Zo,AV.toI,if_true,wr (n:=(acc:Int) + (pairsN n l i:Int)),wr (n:=(i:Int) + 1)]
theorem NarrowPairs_law {k:Nat} (hk:2000800 ≤ k) {H:Hp} {s:Sl} {l:List Int} (hs:Reads .u8 H s l) (hb:∀ x ∈ l,0 ≤ x∧x ≤ 255) :
  ∃ H',callF PP orc k laws_FnNarrowPairs.id [.sl 1 s] H=some (.bool true,H'):=by
 obtain ⟨k,rfl⟩:=Zs k (by omega)
 rw [laws_FnNarrowPairs.call]
 by_cases hbig:(s.len:Int) > 1048576
 ·exact ⟨H,by simp only [laws_FnNarrowPairs.f,dt hbig,Zt]⟩
 ·obtain ⟨n,t,v,H1,a1,a2,a3,a4,a5,a6,a7,a8⟩:=DrawNarrowPairs_ok (show 2000602 ≤ k by omega) hs hb
  obtain ⟨x,H2,b1,b2,b3⟩:=implNarrowPairs_ok (show 2000010 ≤ k by omega) (n:=n) ⟨a7,a8⟩ a3 a4 (by omega) a6
  obtain ⟨y,H3,c1,c2,c3⟩:=specNarrowPairs_ok (show 2000010 ≤ k by omega) (n:=n) ⟨a7,a8⟩ (pf_reads b2 a3) (by omega)
  have hx16:(pairsV n v).length ≤ 1000:=by
   cases e:masksOk n v with
   | true=>have:=(pairsV_good e).2.1; omega
   | false=>unfold pairsV; rw [e]; simp
  have hx3:=pf_reads c2 b3.reads
  have sm:=same_ok (show 2000000 ≤ k by omega) hx3 (own_reads c3) hx16
  have hm3:=pf_reads (b2.trans c2) a3
  have h2:=specMasksValid_any (show 2000000 ≤ k by omega) (n:=n) ⟨a7,a8⟩ hm3 (by omega)
  unfold laws_FnNarrowPairs.f
  rw [df hbig,cond_false,a1,Option.bind_some]
  simp only [AV.isTup,AV.nth,AV.isAgg,AV.cel,AV.toI,AV.toS,AV.toB,Zl,Zm,Zc,Zd,if_true,decide_true,beq_self_eq_true,Zt,Zf,Zy,Zx,Zo]
  rw [b1,Option.bind_some]
  simp only [AV.isTup,AV.nth,AV.isAgg,AV.cel,AV.toI,AV.toS,AV.toB,Zl,Zm,Zc,Zd,if_true,decide_true,beq_self_eq_true,Zt,Zf,Zy,Zx,Zo]
  rw [c1,Option.bind_some]
  simp only [AV.isTup,AV.nth,AV.isAgg,AV.cel,AV.toI,AV.toS,AV.toB,Zl,Zm,Zc,Zd,if_true,decide_true,beq_self_eq_true,Zt,Zf,Zy,Zx,Zo]
  rw [sm,Option.bind_some]
  simp only [AV.isTup,AV.nth,AV.isAgg,AV.cel,AV.toI,AV.toS,AV.toB,Zl,Zm,Zc,Zd,if_true,decide_true,beq_self_eq_true,Zt,Zf,Zy,Zx,Zo]
  rw [h2,Option.bind_some]
  cases e:masksOk n v with
  | false=>
   obtain ⟨H4,d1,d2⟩:=alive_ok (show 2000002 ≤ k by omega) H3
   have hxl:=b3.reads.len
   have hz:(x.len:Int)=0:=by
    rw [hxl]; unfold pairsV; rw [e]; rfl
   refine ⟨H4,?_⟩
   simp only [AV.isTup,AV.nth,AV.isAgg,AV.cel,AV.toI,AV.toS,AV.toB,Zl,Zm,Zc,Zd,if_true,decide_true,beq_self_eq_true,Zt,Zf,Zy,Zx,Zo]
   rw [bt hz,cond_true,d1,Option.bind_some]
   simp only [AV.isTup,AV.nth,AV.isAgg,AV.cel,AV.toI,AV.toS,AV.toB,Zl,Zm,Zc,Zd,if_true,decide_true,beq_self_eq_true,Zt,Zf,Zy,Zx,Zo]
  | true=>
   have hn:=(masksOk_iff.1 e).1
   obtain ⟨H4,d1,d2⟩:=NPairs_l0 (show 2000010 ≤ k by omega) (x:=x) hn hm3 e (2 * n.toNat) 0 k 0 H3 (by omega) (by omega) (by omega) (List.prefix_refl _)
   simp only [Int.natCast_zero,Nat.zero_add] at d1
   obtain ⟨g1,g2⟩:=pairsV_good e
   have hx4:=pf_reads d2 hx3
   have hm4:=pf_reads d2 hm3
   have h4:=within_ok (show 2000000 ≤ k by omega) hx4 hm4 (masks_M g1) (masks_M e) g2 hx16
   obtain ⟨H5,h5,h6⟩:=keeps_ok (show 2000101 ≤ k by omega) hm4 hx4 e g1 (fun g hg hi=>pairsV_keeps e hg hi)
   refine ⟨H5,?_⟩
   simp only [AV.isTup,AV.nth,AV.isAgg,AV.cel,AV.toI,AV.toS,AV.toB,Zl,Zm,Zc,Zd,if_true,decide_true,beq_self_eq_true,Zt,Zf,Zy,Zx,Zo]
   rw [d1]
   unfold laws_FnNarrowPairs.j1
   rw [h4,Option.bind_some]
   simp only [AV.isTup,AV.nth,AV.isAgg,AV.cel,AV.toI,AV.toS,AV.toB,Zl,Zm,Zc,Zd,if_true,decide_true,beq_self_eq_true,Zt,Zf,Zy,Zx,Zo]
   rw [h5,Option.bind_some]
   simp only [AV.isTup,AV.nth,AV.isAgg,AV.cel,AV.toI,AV.toS,AV.toB,Zl,Zm,Zc,Zd,if_true,decide_true,beq_self_eq_true,Zt,Zf,Zy,Zx,Zo]
   by_cases c:sumR (pairsN n v) 0 (2 * n.toNat)=0
   ·have ep:=no_pairs e c
    have hx5:=pf_reads h6 hx4
    rw [ep] at hx5
    have sm2:=same_ok (show 2000000 ≤ k by omega) hx5 (pf_reads h6 hm4) (by omega)
    rw [df (show ¬ ((sumR (pairsN n v) 0 (2 * n.toNat):Nat):Int) > 0 by omega),cond_false,sm2,Option.bind_some]
    simp only [AV.isTup,AV.nth,AV.isAgg,AV.cel,AV.toI,AV.toS,AV.toB,Zl,Zm,Zc,Zd,if_true,decide_true,beq_self_eq_true,Zt,Zf,Zy,Zx,Zo]
   ·rw [dt (show ((sumR (pairsN n v) 0 (2 * n.toNat):Nat):Int) > 0 by omega),cond_true]
end Go.Proofs.Ytjojhbdghhmeeaa.Rp
