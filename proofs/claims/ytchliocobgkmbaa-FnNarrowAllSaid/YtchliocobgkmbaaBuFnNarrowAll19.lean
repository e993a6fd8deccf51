/- Texts for the row of the law FnNarrowAll, part 19: the plain machine, the program's functions on it, what they come to. No conditions. -/
import Derived.Test.YtchliocobgkmbaaBuFnNarrowAll18
import Derived.Test.YtchliocobgkmbaaBuFnNarrowAll8
import Derived.Test.YtchliocobgkmbaaBuFnNarrowAll17
import Derived.Test.YtchliocobgkmbaaBuFnNarrowAll16
import Derived.Test.YtchliocobgkmbaaBuFnNarrowAll9
import Derived.Test.YtchliocobgkmbaaBuFnNarrowAll10
import Derived.Test.YtchliocobgkmbaaBuFnNarrowAll11
import Derived.Test.YtchliocobgkmbaaBuFnNarrowAll12
import Derived.Test.YtchliocobgkmbaaBuFnNarrowAll15
set_option linter.unusedVariables false
set_option linter.unusedSimpArgs false
namespace Go.Proofs.Ytchliocobgkmbaa.Rp
open Go Go.RowKit Go.Proofs.Ytchliocobgkmbaa.Ab
theorem next_at {N:List Int→Int→List Int} {l:List Int}:∀ (j:Nat) (s t:Int),s ≤ t→t < s + j→(∀ w,s ≤ w→w < t→N l w=l)→N l t ≠ l→nextFrom N l j s=some (t,N l t)
 | 0,s,t,h1,h2,_,_=>by omega
 | j + 1,s,t,h1,h2,h3,h4=>by
  rw [nextFrom]
  by_cases e:s=t
  ·subst e; rw [if_neg h4]
  ·rw [if_pos (h3 s (Int.le_refl _) (by omega))]
   exact next_at j (s + 1) t (by omega) (by omega) (fun w h5 h6=>h3 w (by omega) h6) h4
noncomputable def allV (n:Int) (given:List Int) (vs:List V) (l:List Int) (most:Int):List Int × Int:=
 if puzzleV n given vs=true∧masksOk n l=true∧1 ≤ most∧most ≤ 4 then (lastV (runS (narrowV n given vs) most.toNat l) l,((runS (narrowV n given vs) most.toNat l).length:Int)) else ([],-1)
theorem NarrowAll_l2 {k:Nat} (hk:2000060 ≤ k) {H0:Hp} {n:Int} {gs s:Sl} {given:List Int} {rs:List R} (hz:PuzAt H0 n gs s given rs) (hp:puzzleV n given (rs.map R.val)=true) {most:Nat} (hm:most ≤ 4) :
  ∀ (m fuel:Nat) (H:Hp) (u:Sl) (a:List Int) (t r:Nat),5 * total a + (most + 1 - t) ≤ m→m < fuel→H0 <+: H→Own 1 H0 H u (a.map (.int .i64))→masksOk n a=true→1 ≤ t→t ≤ most + 1→(∀ w:Int,1 ≤ w→w < (t:Int)→narrowV n given (rs.map R.val) a w=a)→r + total a ≤ 1000 →
   ∃ u' H',spec_NarrowAll.l2 (callF PP orc k) k fuel (most:Int) u (r:Int) (t:Int) n gs s H=some (.tup [.sl 1 u',.int .i64 ((r + (runS (narrowV n given (rs.map R.val)) most a).length:Nat):Int)],H')∧H0 <+: H'∧Own 1 H0 H' u' ((lastV (runS (narrowV n given (rs.map R.val)) most a) a).map (.int .i64)):=by
 have hgood:=narrow_good hp hm
 intro m
 induction m with
 | zero=>
  intro fuel H u a t r h1 hf hpf ho ha ht1 ht2 hw hr
  obtain ⟨fuel,rfl⟩:=Zs fuel (by omega)
  have hno:nextFrom (narrowV n given (rs.map R.val)) a most 1=none:=(next_none most 1).2 fun w w1 w2=>hw w w1 (by omega)
  rw [runS_none hno]
  refine ⟨u,H,?_,hpf,ho⟩
  simp (disch:=omega) only [spec_NarrowAll.l2,spec_NarrowAll.j3,df,Zf,Zm,Nat.add_zero]
 | succ m ih=>
  intro fuel H u a t r h1 hf hpf ho ha ht1 ht2 hw hr
  obtain ⟨fuel,rfl⟩:=Zs fuel (by omega)
  by_cases ct:t ≤ most
  ·have hal:=masks_len ha
   obtain ⟨v,H1,a1,a2,a3⟩:=specNarrowBy_ok hk (hz.pf hpf) (own_reads ho) (by omega) (t:Int)
   have hg:=hgood a t ha (by omega) (by omega)
   have hgl:=masks_len hg.1
   have h2:=l8Same_ok (show 2000000 ≤ k by omega) (own_reads a3) (pf_reads a2 (own_reads ho)) (by omega) (by omega)
   by_cases c:narrowV n given (rs.map R.val) a t=a
   ·rw [decide_eq_true c] at h2
    obtain ⟨u',H',b1,b2,b3⟩:=ih fuel H1 u a (t + 1) r (by omega) (by omega) (hpf.trans a2) (own_pf ho a2) ha (by omega) (by omega) (fun w w1 w2=>by
     by_cases e:w=t
     ·rw [e]; exact c
     ·exact hw w w1 (by omega)) hr
    push_cast at b1
    refine ⟨u',H',?_,b2,b3⟩
    simp (disch:=omega) only [spec_NarrowAll.l2,dt,Zt,a1,h2,Zo,AV.toS,AV.toB,if_true,wr (n:=(t:Int) + 1),b1]
    push_cast; rfl
   ·rw [decide_eq_false c] at h2
    have hno:=next_at most 1 t (by omega) (by omega) (fun w w1 w2=>hw w w1 (by omega)) c
    obtain ⟨q1,q2,q3⟩:=next_good hgood ha hno
    rw [runS_some hgood ha hno]
    obtain ⟨u',H',b1,b2,b3⟩:=ih fuel H1 v (narrowV n given (rs.map R.val) a t) 1 (r + 1) (by omega) (by omega) (hpf.trans a2) (own_base a3 hpf) q1 (by omega) (by omega) (fun w w1 w2=>by omega) (by omega)
    push_cast at b1
    refine ⟨u',H',?_,b2,b3⟩
    simp (disch:=omega) only [spec_NarrowAll.l2,dt,Zt,Zf,a1,h2,Zo,AV.toS,AV.toB,if_true,wr (n:=(r:Int) + 1),b1]
    simp only [Zl]
    congr 6
    push_cast; omega
  ·have hno:nextFrom (narrowV n given (rs.map R.val)) a most 1=none:=(next_none most 1).2 fun w w1 w2=>hw w w1 (by omega)
   rw [runS_none hno]
   refine ⟨u,H,?_,hpf,ho⟩
   simp (disch:=omega) only [spec_NarrowAll.l2,spec_NarrowAll.j3,df,Zf,Zm,Nat.add_zero]
theorem specNarrowAll_ok {k:Nat} (hk:2000070 ≤ k) {H:Hp} {n:Int} {gs s ms:Sl} {given l:List Int} {rs:List R} (hz:PuzAt H n gs s given rs) (hm:Reads .i64 H ms l) (hl:l.length ≤ 1000) (most:Int) :
  ∃ u H',callF PP orc k spec_NarrowAll.id [.agg [.int .i64 n,.sl 1 gs,.sl 3 s],.sl 1 ms,.int .i64 most] H=some (.tup [.sl 1 u,.int .i64 (allV n given (rs.map R.val) l most).2],H')∧H <+: H'∧Own 1 H H' u ((allV n given (rs.map R.val) l most).1.map (.int .i64)):=by
 obtain ⟨k,rfl⟩:=Zs k (by omega)
 rw [spec_NarrowAll.call]
 have hn:=hz.n4
 have h1:=specPuzzleValid_ok (show 2000003 ≤ k by omega) hz.n4 hz.rg hz.gl hz.rr hz.rl hz.rc
 rw [puzzle_map] at h1
 have h2:=specMasksValid_any (show 2000000 ≤ k by omega) (n:=n) (by omega) hm hl
 have h3:=l1In_ok (show 1 ≤ k by omega) most 1 4 H
 unfold allV
 cases e1:puzzleV n given (rs.map R.val) with
 | false=>
  rw [e1] at h1
  rw [iN (by simp)]
  exact ⟨Sl.mk false H.length 0 0,H ++ [some (Blk.mk false [])],by simp only [spec_NarrowAll.f,spec_NarrowAll.j0,dt,df,bt,bf,nt,nf,Za,Zy,Zx,Zt,Zf,Zn,Zz,Zi,Zo,wr,AV.toB,AV.toI,AV.toS,if_true,h1],(List.prefix_append _ _),own_new 1 H [] 0 rfl⟩
 | true=>
  rw [e1] at h1
  cases e2:masksOk n l with
  | false=>
   rw [e2] at h2
   rw [iN (by simp)]
   exact ⟨Sl.mk false H.length 0 0,H ++ [some (Blk.mk false [])],by simp only [spec_NarrowAll.f,spec_NarrowAll.j0,dt,df,bt,bf,nt,nf,Za,Zy,Zx,Zt,Zf,Zn,Zz,Zi,Zo,wr,AV.toB,AV.toI,AV.toS,if_true,h1,h2],(List.prefix_append _ _),own_new 1 H [] 0 rfl⟩
  | true=>
   rw [e2] at h2
   by_cases c:1 ≤ most∧most ≤ 4
   ·rw [decide_eq_true c] at h3
    rw [ip ⟨rfl,rfl,c⟩]
    obtain ⟨M,rfl⟩:=Int.eq_ofNat_of_zero_le (show 0 ≤ most by omega)
    have h4:=l6Copy_ok (show 1 ≤ k by omega) hm hl
    have hnew:=own_new 1 H (l.map (.int .i64)) l.length (by simp)
    have ht:=total_le e2
    obtain ⟨u',H',b1,b2,b3⟩:=NarrowAll_l2 (show 2000060 ≤ k by omega) hz e1 (most:=M) (by omega) (5 * total l + M) k (H ++ [some (Blk.mk false (l.map (.int .i64)))]) _ l 1 0 (by omega) (by omega) (List.prefix_append _ _) hnew e2 (by omega) (by omega) (fun w w1 w2=>by omega) (by omega)
    rw [Int.toNat_natCast]
    refine ⟨u',H',?_,b2,b3⟩
    rw [Nat.zero_add] at b1
    simp only [spec_NarrowAll.f,spec_NarrowAll.j0,spec_NarrowAll.j1,dt,df,bt,bf,nt,nf,Za,Zy,Zx,Zt,Zf,Zn,Zz,Zi,Zo,wr,AV.toB,AV.toI,AV.toS,if_true,h1,h2,h3,h4]
    exact b1
   ·rw [decide_eq_false c] at h3
    rw [iN (fun h=>c ⟨h.2.2.1,h.2.2.2⟩)]
    exact ⟨Sl.mk false H.length 0 0,H ++ [some (Blk.mk false [])],by simp only [spec_NarrowAll.f,spec_NarrowAll.j0,dt,df,bt,bf,nt,nf,Za,Zy,Zx,Zt,Zf,Zn,Zz,Zi,Zo,wr,AV.toB,AV.toI,AV.toS,if_true,h1,h2,h3],(List.prefix_append _ _),own_new 1 H [] 0 rfl⟩
structure WK (b:Nat) (l:List Int) (p:Nat) (B H:Hp) (t:Sl) (c:List Int):Prop where
 hb:b < B.length
 adv:Adv b B H
 rd:RD b H l p
 ow:Own 1 B H t (c.map (.int .i64))
 c16:c.length ≤ 16
 rg:∀ m ∈ c,-2 ≤ m∧m ≤ 63
theorem WK.step {b:Nat} {l:List Int} {p p':Nat} {B H H':Hp} {t:Sl} {c:List Int} (h:WK b l p B H t c) (a:Adv b H H') (r:RD b H' l p'):WK b l p' B H' t c:=⟨h.hb,h.adv.trans a,r,a.own h.hb h.ow,h.c16,h.rg⟩
theorem WK.set {b:Nat} {l:List Int} {p:Nat} {B H:Hp} {t:Sl} {c:List Int} (h:WK b l p B H t c) {i:Nat} (hi:i < c.length) {v:Int} (hv:-2 ≤ v∧v ≤ 63) :
  ∃ H',H.sto t.blk (t.off + i * 1) [.int .i64 v]=some H'∧WK b l p B H' t (c.set i v):=by
 obtain ⟨H',a1,a2,a3,a4⟩:=own_setB h.ow h.hb h.adv h.rd i hi v
 refine ⟨H',a1,h.hb,a3,a4,a2,by simpa using h.c16,fun m hm=>?_⟩
 rcases List.mem_or_eq_of_mem_set hm with h1 | h1
 ·exact h.rg m h1
 ·rw [h1]; exact hv
def WorkDraw (b:Nat) (l:List Int) (p0:Nat) (H0:Hp) (r:An):Prop:=
 ∃ n gs s given rs t,∃ v:List Int,∃ p' H',r=some (.tup [.agg [.int .i64 n,.sl 1 gs,.sl 3 s],.sl 1 t],H')∧RD b H' l p'∧p' ≤ p0∧Adv b H0 H'∧PuzB H0 H' n gs s given rs∧Own 1 H0 H' t (v.map (.int .i64))∧v.length ≤ 17∧∀ m ∈ v,-2 ≤ m∧m ≤ 63
theorem Work_j3 {k:Nat} (hk:1000 ≤ k) {b:Nat} {l:List Int} {p p0:Nat} (hp:p + 2 ≤ p0) (hp0:p0 ≤ 999990000) {H0 B H:Hp} {t:Sl} {c:List Int} (h:WK b l p B H t c) {y0 n:Int} {y1 y2 gs s:Sl} {given:List Int} {rs:List R} (hb0:b < H0.length) (ha0:Adv b H0 B) (hz:PuzB H0 B n gs s given rs) :
  WorkDraw b l p0 H0 (spec_l20Work.j3 (callF PP orc k) k b 0 t y0 y1 y2 n gs s H):=by
 obtain ⟨v,p1,H1,a1,a2,a3,a4,a5⟩:=odd_adv (show 2 ≤ k by omega) h.rd (by omega) (n:=14) (by omega)
 have h1:=h.step a4 a2
 have h16:=h.c16
 cases v with
 | false=>
  refine ⟨n,gs,s,given,rs,t,c,p1,H1,?_,a2,by omega,ha0.trans h1.adv,hz.adv hb0 h1.adv,⟨h1.ow.nn,h1.ow.off,Nat.le_trans ha0.le h1.ow.blk,h1.ow.get,h1.ow.len⟩,by omega,h.rg⟩
  simp only [spec_l20Work.j3,spec_l20Work.j4,dt,df,bt,bf,nt,nf,Za,Zy,Zx,Zt,Zf,Zn,Zz,Zi,Zo,wr,AV.toB,AV.toI,AV.toS,if_true,a1]
 | true=>
  have ho3:=h1.ow
  have o':Own 1 [] H1 t (c.map (.int .i64)):=⟨ho3.nn,ho3.off,Nat.zero_le _,ho3.get,ho3.len⟩
  have htl:=(own_reads ho3).len
  obtain ⟨H4,d1,d2,d3,d4,d5⟩:=own_app1 o' List.nil_prefix 2 (by omega)
  have hle:=h1.adv.le
  have hav:=adv_but h1.adv d4 ho3.blk (by omega)
  refine ⟨n,gs,s,given,rs,_,c ++ [2],p1,H4,?_,a2.but' d4 (by have:=ho3.blk; have:=h.hb; omega) ho3.get (ints_no_u8 _),by omega,ha0.trans hav,hz.adv hb0 hav,⟨d3.nn,d3.off,by have:=ha0.le; simp only; omega,d3.get,d3.len⟩,by simp; omega,fun m hm=>?_⟩
  ·simp only [spec_l20Work.j3,spec_l20Work.j4,dt,df,bt,bf,nt,nf,Za,Zy,Zx,Zt,Zf,Zn,Zz,Zi,Zo,wr,AV.toB,AV.toI,AV.toS,if_true,a1,d1]
  ·rcases List.mem_append.1 hm with h2 | h2
   ·exact h.rg m h2
   ·rw [List.mem_singleton] at h2; omega
theorem Work_j1 {k:Nat} (hk:1000 ≤ k) {b:Nat} {l:List Int} {p p0:Nat} (hp:p + 6 ≤ p0) (hp0:p0 ≤ 999990000) {H0 B H:Hp} {t:Sl} {c:List Int} (h:WK b l p B H t c) {y0 n:Int} {y1 y2 gs s:Sl} {given:List Int} {rs:List R} (hb0:b < H0.length) (ha0:Adv b H0 B) (hz:PuzB H0 B n gs s given rs) :
  WorkDraw b l p0 H0 (spec_l20Work.j1 (callF PP orc k) k b 0 t y0 y1 y2 n gs s H):=by
 have htl:=(own_reads h.ow).len
 have h16:=h.c16
 by_cases c0:0 < c.length
 ·obtain ⟨v,p1,H1,a1,a2,a3,a4,a5⟩:=odd_adv (show 2 ≤ k by omega) h.rd (by omega) (n:=9) (by omega)
  have h1:=h.step a4 a2
  cases v with
  | false=>
   have:=Work_j3 hk (p0:=p0) (by omega) hp0 h1 (y0:=y0) (y1:=y1) (y2:=y2) hb0 ha0 hz
   simp (disch:=omega) only [spec_l20Work.j1,spec_l20Work.j2,dt,df,bt,bf,nt,nf,Za,Zy,Zx,Zt,Zf,Zn,Zz,Zi,Zo,wr,AV.toB,AV.toI,AV.toS,if_true,a1]
   exact this
  | true=>
   obtain ⟨i,H2,b1,b2,b3,b4,b5⟩:=pick_adv (show 1 ≤ k by omega) a2 (by omega) (t.len:Int)
   have h2:=h1.step b3 b2
   have i1:=b5 (by omega)
   obtain ⟨z,H3,c1,c2,c3,c4,c5⟩:=pick_adv (show 1 ≤ k by omega) b2 (by omega) 16
   have h3:=h2.step c3 c2
   have z1:=c5 (by omega)
   obtain ⟨H4,d1,d2⟩:=h3.set (i:=i.toNat) (by omega) (v:=z * 2) ⟨by omega,by omega⟩
   have:=Work_j3 hk (p0:=p0) (by omega) hp0 d2 (y0:=y0) (y1:=y1) (y2:=y2) hb0 ha0 hz
   simp (disch:=omega) only [spec_l20Work.j1,spec_l20Work.j2,dt,df,bt,bf,nt,nf,Za,Zy,Zx,Zt,Zf,Zn,Zz,Zi,Zo,wr,AV.toB,AV.toI,AV.toS,if_true,a1,b1,c1,wr (n:=z * 2),d1]
   exact this
 ·have:=Work_j3 hk (p0:=p0) (by omega) hp0 h (y0:=y0) (y1:=y1) (y2:=y2) hb0 ha0 hz
  simp (disch:=omega) only [spec_l20Work.j1,spec_l20Work.j2,dt,df,bt,bf,nt,nf,Za,Zy,Zx,Zt,Zf,Zn,Zz,Zi,Zo,wr,AV.toB,AV.toI,AV.toS,if_true]
  exact this
theorem start_rg {n:Int} {given:List Int} {vs:List V}:(startV n given vs).length ≤ 16∧∀ m ∈ startV n given vs,-2 ≤ m∧m ≤ 63:=by
 unfold startV
 by_cases hv:puzzleV n given vs=true
 ·rw [if_pos hv]
  have hok:=openOf_ok (puzzleV_grid hv).1
  have hl:=masks_len hok
  refine ⟨hl.2.1,fun m hm=>?_⟩
  have:=(maskOk_iff.1 ((masksOk_iff.1 hok).2.1 m hm)).1
  have:=topMask_le n
  omega
 ·rw [if_neg hv]
  exact ⟨by simp,fun m hm=>by cases hm⟩
theorem all_rg {n:Int} {given l:List Int} {vs:List V} {most:Int}:(allV n given vs l most).1.length ≤ 16∧∀ m ∈ (allV n given vs l most).1,-2 ≤ m∧m ≤ 63:=by
 unfold allV
 split
 ·rename_i c
  have hok:=(run_end (narrow_good c.1 (most:=most.toNat) (by omega)) c.2.1).1
  have hl:=masks_len hok
  refine ⟨hl.2.1,fun m hm=>?_⟩
  have:=(maskOk_iff.1 ((masksOk_iff.1 hok).2.1 m hm)).1
  have:=topMask_le n
  omega
 ·exact ⟨by simp,fun m hm=>by cases hm⟩
theorem l20Work_ok {k:Nat} (hk:2000601 ≤ k) {b:Nat} {l:List Int} {p:Nat} {H:Hp} (hrd:RD b H l p) (hp:p ≤ 800000000) :
  WorkDraw b l (p + 600) H (callF PP orc k spec_l20Work.id [.ptr b 0] H):=by
 obtain ⟨k,rfl⟩:=Zs k (by omega)
 rw [spec_l20Work.call]
 have hb0:=hrd.lt
 obtain ⟨n,gs,s,given,rs,p2,H2,b1,b2,b3,b4,b5,b6⟩:=l20Puzzle_ok (show 2000500 ≤ k by omega) (x1:=14) (by omega) hrd (by omega)
 have hb2:b < H2.length:=by have:=b4.le; omega
 obtain ⟨u,H3,c1,c2,c3⟩:=specStartMasks_ok (show 2000010 ≤ k by omega) b5.at'
 obtain ⟨v,H4,d1,d2,d3,d4,d5⟩:=pick_adv (show 1 ≤ k by omega) (b2.pf c2) (by omega) 2
 have sr:=start_rg (n:=n) (given:=given) (vs:=rs.map R.val)
 have w4:WK b l (p2 + 1) H2 H4 u (startV n given (rs.map R.val)):=⟨hb2,(pf_adv c2).trans d3,d2,d3.own hb2 c3,sr.1,sr.2⟩
 have hul:=(own_reads c3).len
 have done:=Work_j1 (show 1000 ≤ k by omega) (p0:=p + 600) (by omega) (by omega) w4 (y0:=0) (y1:=Sl.none) (y2:=Sl.none) hb0 b4 b5
 by_cases v0:v=0
 ·by_cases c0:0 < (startV n given (rs.map R.val)).length
  ·have hz4:=(b5.adv hb0 w4.adv).at'
   obtain ⟨x,H5,e1,e2,e3⟩:=specNarrowAll_ok (show 2000070 ≤ k by omega) hz4 (own_reads w4.ow) (by omega) 1
   have ar:=all_rg (n:=n) (given:=given) (vs:=rs.map R.val) (l:=startV n given (rs.map R.val)) (most:=1)
   have w5:WK b l (p2 + 1) H2 H5 x (allV n given (rs.map R.val) (startV n given (rs.map R.val)) 1).1:=⟨hb2,w4.adv.trans (pf_adv e2),d2.pf e2,⟨e3.nn,e3.off,Nat.le_trans w4.adv.le e3.blk,e3.get,e3.len⟩,ar.1,ar.2⟩
   have:=Work_j1 (show 1000 ≤ k by omega) (p0:=p + 600) (by omega) (by omega) w5 (y0:=0) (y1:=Sl.none) (y2:=Sl.none) hb0 b4 b5
   simp (disch:=omega) only [spec_l20Work.f,spec_l20Work.j0,dt,df,bt,bf,nt,nf,Za,Zy,Zx,Zt,Zf,Zn,Zz,Zi,Zo,wr,AV.toB,AV.toI,AV.toS,if_true,b1,AV.isAgg,AV.isTup,AV.nth,AV.cel,Zl,Zm,Zc,Zd,beq_self_eq_true,c1,d1,v0,e1]
   exact this
  ·simp (disch:=omega) only [spec_l20Work.f,spec_l20Work.j0,dt,df,bt,bf,nt,nf,Za,Zy,Zx,Zt,Zf,Zn,Zz,Zi,Zo,wr,AV.toB,AV.toI,AV.toS,if_true,b1,AV.isAgg,AV.cel,Zl,Zm,Zc,Zd,beq_self_eq_true,c1,d1,v0]
   exact done
 ·simp (disch:=omega) only [spec_l20Work.f,spec_l20Work.j0,dt,df,bt,bf,nt,nf,Za,Zy,Zx,Zt,Zf,Zn,Zz,Zi,Zo,wr,AV.toB,AV.toI,AV.toS,if_true,b1,AV.isAgg,AV.cel,Zl,Zm,Zc,Zd,beq_self_eq_true,c1,d1]
  exact done
theorem open_work {k:Nat} (hk:2000601 ≤ k) {H:Hp} {s:Sl} {l:List Int} (hs:Reads .u8 H s l) (hb:∀ x ∈ l,0 ≤ x∧x ≤ 255) :
  ∃ H1 n gs ss given rs t,∃ v:List Int,∃ l' p' H',callF PP orc k spec_l20Open.id [.sl 1 s] H=some (.ptr H.length 0,H1)∧callF PP orc k spec_l20Work.id [.ptr H.length 0] H1=some (.tup [.agg [.int .i64 n,.sl 1 gs,.sl 3 ss],.sl 1 t],H')∧H <+: H'∧RD H.length H' l' p'∧p' ≤ 700∧H <+: H1∧H.length < H1.length∧Adv H.length H1 H'∧PuzB H1 H' n gs ss given rs∧Own 1 H1 H' t (v.map (.int .i64))∧v.length ≤ 17∧(∀ m ∈ v,-2 ≤ m∧m ≤ 63):=by
 obtain ⟨l',H1,a1,a2,a3,a4⟩:=l20Open_ok (show 1 ≤ k by omega) hs hb
 obtain ⟨n,gs,ss,given,rs,t,v,p',H',b1,b2,b3,b4,b5,b6,b7,b8⟩:=l20Work_ok hk a3 (by omega)
 exact ⟨H1,n,gs,ss,given,rs,t,v,l',p',H',a1,b1,b4.but.pf (Nat.le_refl _) a2 b4.le,b2,by omega,a2,a3.lt,b4,b5,b6,b7,b8⟩
theorem Clone_own {k:Nat} (hk:1 ≤ k) {H:Hp} {s:Sl} {l:List Int} (hs:Reads .i64 H s l) (hn:s.nil=false) (hl:l.length ≤ 1000) :
  callF PP orc k slices_Clone_int.id [.sl 1 s] H=some (.sl 1 (Sl.mk false H.length 0 l.length),H ++ [some (Blk.mk false (l.map (.int .i64)))]):=by
 obtain ⟨k,rfl⟩:=Zs k (by omega)
 rw [slices_Clone_int.call]
 simp only [slices_Clone_int.f,hn,Zf,read_ok hs,hs.len,appl_ok _ _ _ (show l.length ≤ 1000000 by omega),Zo,cells_ok,Za,Zt]
theorem allValues_ok {k:Nat} (hk:1 ≤ k) {n:Int} (hn:2 ≤ n∧n ≤ 4) (H:Hp):callF PP orc k impl_allValues.id [.int .i64 n] H=some (.int .i64 (topMask n),H):=by
 obtain ⟨k,rfl⟩:=Zs k (by omega)
 rw [impl_allValues.call]
 obtain ⟨p1,p2,p3⟩:=topMask_pw hn
 simp (disch:=omega) only [impl_allValues.f,iN,m_shl (v:=n + 1),p1,wr]
/-! ### impl.valuesHold -/
def KindLen (kind:Int) (m:Nat):Prop:=(kind=1 ∨ kind=2 ∨ kind=3) ∨ ((kind=4 ∨ kind=5)∧2 ≤ m)
theorem implHold_l0 {k:Nat} (hk:2000001 ≤ k) {kind value:Int} {cs vs:Sl} {H:Hp} {vals:List Int} (hs:Reads .i64 H vs vals) (hl:Vals vals) (h2:KindLen kind vals.length) :
  ∀ (j i fuel:Nat) (x5 x6:Int),i + j=vals.length→j < fuel→0 ≤ x5→x5 ≤ 4 * i→0 ≤ x6→x6 ≤ 4 ^ i →
   impl_valuesHold.l0 (callF PP orc k) k fuel vs x5 x6 vs vals.length i kind cs value H=some (.bool (if kind=1 then distFrom vals i j else if kind=2 then decide ((vals.drop i).foldl (· + ·) x5=value) else if kind=3 then decide ((vals.drop i).foldl (· * ·) x6=value)
    else if kind=4 then decide (vals.getD 0 0 < vals.getD 1 0) else decide (mx (vals.getD 0 0 - vals.getD 1 0) (vals.getD 1 0 - vals.getD 0 0)=value)),H):=by
 have hv:=hs.len
 have hl4:=hl.1
 have eqd:∀ a b:Int,(a == b)=decide (a=b):=fun a b=>by rw [Bool.eq_iff_iff]; simp
 unfold KindLen at h2
 intro j
 induction j with
 | zero=>
  intro i fuel x5 x6 hi hf h50 h51 h60 h61
  obtain ⟨fuel,rfl⟩:=Zs fuel (by omega)
  rw [show vals.drop i=[] from List.drop_eq_nil_of_le (by omega)]
  simp (disch:=omega) only [impl_valuesHold.l0,impl_valuesHold.j2,df,Zf,distFrom,List.foldl_nil,eqd]
  by_cases k1:kind=1
  ·subst k1; rfl
  by_cases k2:kind=2
  ·subst k2; rfl
  by_cases k3:kind=3
  ·subst k3; rfl
  have hlen:2 ≤ vals.length:=by omega
  have a0:=hl.at 0
  have a1:=hl.at 1
  by_cases k4:kind=4
  ·simp (disch:=omega) only [k2,k3,k4,if_false,dt,df,Za,Zt,Zf,rdn hs,Zo,wr,Zz,Zi]
   rfl
  ·have k5:kind=5:=by omega
   subst k5
   simp (disch:=omega) only [if_false,dt,df,Za,Zt,Zf,rdn hs,Zo,wr,Zz,Zi]
   rfl
 | succ j ih=>
  intro i fuel x5 x6 hi hf h50 h51 h60 h61
  obtain ⟨fuel,rfl⟩:=Zs fuel (by omega)
  have h3:i < vals.length:=by omega
  obtain ⟨a0,a1⟩:=hl.at i
  have hd:(vals.drop i)=vals.getD i 0 :: vals.drop (i + 1):=by
   rw [List.drop_eq_getElem_cons h3,List.getD_eq_getElem?_getD,List.getElem?_eq_getElem h3]; rfl
  have hp:(4:Int) ^ i ≤ 64:=by
   have:i=0 ∨ i=1 ∨ i=2 ∨ i=3:=by omega
   rcases this with rfl | rfl | rfl | rfl <;> decide
  have hm:x6 * vals.getD i 0 ≤ x6 * 4:=Int.mul_le_mul_of_nonneg_left a1 h60
  have hm0:0 ≤ x6 * vals.getD i 0:=Int.mul_nonneg h60 a0
  have hq:(4:Int) ^ (i + 1)=4 ^ i * 4:=Int.pow_succ _ _
  have h6:=ih (i + 1) fuel (x5 + vals.getD i 0) (x6 * vals.getD i 0) (by omega) (by omega) (by omega) (by omega) (by omega) (by omega)
  push_cast at h6
  rw [hd,List.foldl_cons,List.foldl_cons]
  by_cases k1:kind=1
  ·have hc:=Contains_ok hk (vals.getD i 0) (reads_pre hs i (by omega) vs.nil) (by simp; omega)
   have hsl:Sl.mk vs.nil vs.blk (vs.off + 0 * 1) ((i:Int) - 0).toNat=Sl.mk vs.nil vs.blk vs.off i:=by simp
   subst k1
   simp only [if_true] at h6 ⊢
   rw [distFrom]
   simp (disch:=omega) only [impl_valuesHold.l0,dt,bt,Za,Zt,Zn,Zz,rdn hs,Zo,wr,hsl]
   rw [ip (by simp; omega),hc]
   cases (vals.take i).contains (vals.getD i 0) with
   | true=>simp only [impl_valuesHold.j1,dt,df,bt,bf,nt,nf,Za,Zy,Zx,Zt,Zf,Zn,Zz,Zi,Zo,wr,AV.toB,AV.toI,AV.toS,if_true,Bool.false_and]
   | false=>simp (disch:=omega) only [impl_valuesHold.j1,impl_valuesHold.j3,dt,df,bt,bf,nt,nf,Za,Zy,Zx,Zt,Zf,Zn,Zz,Zi,Zo,wr,AV.toB,AV.toI,AV.toS,if_true,h6,Bool.true_and]
  ·simp only [if_neg k1] at h6 ⊢
   simp (disch:=omega) only [impl_valuesHold.l0,impl_valuesHold.j1,impl_valuesHold.j3,dt,bf,Za,Zt,Zf,Zn,rdn hs,Zo,wr,h6]
theorem valuesHold_ok {k:Nat} (hk:2000002 ≤ k) {kind value:Int} {cs vs:Sl} {H:Hp} {vals:List Int} (hs:Reads .i64 H vs vals) (hl:Vals vals) (h2:KindLen kind vals.length) :
  callF PP orc k impl_valuesHold.id [.agg [.int .i64 kind,.sl 1 cs,.int .i64 value],.sl 1 vs] H=some (.bool (holdsV kind value vals),H):=by
 obtain ⟨k,rfl⟩:=Zs k (by omega)
 rw [impl_valuesHold.call]
 have h4:=hl.1
 have:=implHold_l0 (show 2000001 ≤ k by omega) (kind:=kind) (value:=value) (cs:=cs) hs hl h2 vals.length 0 k 0 1 (by omega) (by omega) (by omega) (by omega) (by omega) (by omega)
 simp only [List.drop_zero] at this
 have e:=hs.len
 show impl_valuesHold.l0 (callF PP orc k) k k vs 0 1 vs (vs.len:Int) 0 kind cs value H=_
 rw [e]
 exact this
/-! ### impl.ruleMasks -/
structure Try (H:Hp) (cb:Nat) (rb vb ob tb:Nat) (kind value:Int) (cs ws vs os:Sl):Prop where
 c:H[cb]?=some (some ⟨false,[.sl 1 ws]⟩)
 r:H[rb]?=some (some ⟨false,[.int .i64 kind,.sl 1 cs,.int .i64 value]⟩)
 v:H[vb]?=some (some ⟨false,[.sl 1 vs]⟩)
 o:H[ob]?=some (some ⟨false,[.sl 1 os]⟩)
 t:H[tb]?=some (some ⟨false,[.fn impl_ruleMasks_1.id [.ptr cb 0,.ptr rb 0,.ptr vb 0,.ptr ob 0,.ptr tb 0]]⟩)
 ne:(cb ≠ vs.blk∧cb ≠ os.blk)∧(rb ≠ vs.blk∧rb ≠ os.blk)∧(vb ≠ vs.blk∧vb ≠ os.blk)∧(ob ≠ vs.blk∧ob ≠ os.blk)∧(tb ≠ vs.blk∧tb ≠ os.blk)
theorem Try.adv {H H':Hp} {cb rb vb ob tb:Nat} {kind value:Int} {cs ws vs os:Sl} (h:Try H cb rb vb ob tb kind value cs ws vs os) (g:Adv2 vs.blk os.blk H H'):Try H' cb rb vb ob tb kind value cs ws vs os:=by
 obtain ⟨n1,n2,n3,n4,n5⟩:=h.ne
 exact ⟨g.but _ _ n1.1 n1.2 h.c,g.but _ _ n2.1 n2.2 h.r,g.but _ _ n3.1 n3.2 h.v,g.but _ _ n4.1 n4.2 h.o,g.but _ _ n5.1 n5.2 h.t,h.ne⟩
theorem box_sl {H:Hp} {b:Nat} {s:Sl} (h:H[b]?=some (some ⟨false,[.sl 1 s]⟩)):ldS 1 H b 0=some s:=by unfold ldS Hp.cell; rw [h]; simp [AV.toS]
theorem adv_adv2 {a c:Nat} {H H':Hp} (h:Adv a H H'):Adv2 a c H H':=⟨fun d x h1 _ hx=>h.but d x h1 hx,h.le⟩
theorem adv_adv2' {a c:Nat} {H H':Hp} (h:Adv c H H'):Adv2 a c H H':=⟨fun d x _ h2 hx=>h.but d x h2 hx,h.le⟩
theorem Adv2.tr {a c:Nat} {H H1 H2:Hp} (h:Adv2 a c H H1) (h':Adv2 a c H1 H2):Adv2 a c H H2:=h.trans h' (.inl rfl)
theorem Try_l0 (rec:Rec) (k:Nat) {B:Hp} {ob:Nat} {vs os:Sl} {vals:List Int} (hv:Vals vals) (hne:vs.blk ≠ os.blk) (hob:ob ≠ os.blk) :
  ∀ (j i fuel:Nat) (H:Hp) (fl:List Int),i + j=vals.length→j < fuel→B <+: H→Reads .i64 H vs vals→H[ob]?=some (some ⟨false,[.sl 1 os]⟩)→Ms fl→vals.length ≤ fl.length→Own 1 B H os (fl.map (.int .i64)) →
   ∃ H',impl_ruleMasks_1.l0 rec k fuel ob 0 vs vals.length i H=some (.tup [],H')∧B <+: H'∧Adv os.blk H H'∧Own 1 B H' os ((orFrom vals fl i j).map (.int .i64)):=by
 have hl:=hv.1
 intro j
 induction j with
 | zero=>
  intro i fuel H fl hi hf hp hs hb hm hfl ho
  obtain ⟨fuel,rfl⟩:=Zs fuel (by omega)
  exact ⟨H,by simp (disch:=omega) only [impl_ruleMasks_1.l0,dt,df,bt,bf,nt,nf,Za,Zy,Zx,Zt,Zf,Zn,Zz,Zi,Zo,wr,AV.toB,AV.toI,AV.toS,if_true],hp,Adv.refl _ _,ho⟩
 | succ j ih=>
  intro i fuel H fl hi hf hp hs hb hm hfl ho
  obtain ⟨fuel,rfl⟩:=Zs fuel (by omega)
  have hfs:os.len=fl.length:=by have:=ho.len; simpa using this
  have hvl:=hs.len
  obtain ⟨v0,v1⟩:=hv.at i
  obtain ⟨H1,a1,a2,a3,a4⟩:=own_set1 ho hp i (by omega) (mOr (fl.getD i 0) (pw (vals.getD i 0)))
  obtain ⟨H',b1,b2,b3,b4⟩:=ih (i + 1) fuel H1 _ (by omega) (by omega) a2 (a4.reads hne hs) (a4.but _ _ hob hb) (hm.set i (M.or (hm.at i) (M.pw v0 v1))) (by simpa using hfl) a3
  push_cast at b1
  refine ⟨H',?_,b2,a4.trans b3,b4⟩
  simp (disch:=omega) only [impl_ruleMasks_1.l0,dt,df,bt,bf,nt,nf,Za,Zy,Zx,Zt,Zf,Zn,Zz,Zi,Zo,wr,AV.toB,AV.toI,AV.toS,if_true,box_sl hb,rdn (own_reads ho),rdn hs,iN,m_shl v0,m_or (hm.at i) (M.pw v0 v1),a1,b1]
theorem okTry:okF PP impl_ruleMasks_1.id=true:=by kernel_rfl
theorem Try_ok {B:Hp} {cb rb vb ob tb:Nat} {kind value:Int} {cs ws vs os:Sl} {own:List Int} (hw:Reads .i64 B ws own) (hol:own.length ≤ 4) (hom:∀ m ∈ own,(0 ≤ m∧m ≤ 30)∧m.tmod 2=0) (hk2:KindLen kind own.length) (hne:vs.blk ≠ os.blk) :
  ∀ (rem k:Nat),2000010 + rem ≤ k→∀ (H:Hp) (vals rest fl:List Int),vals.length + rem=own.length→rest.length=rem→B <+: H→Try H cb rb vb ob tb kind value cs ws vs os→Own 1 B H vs ((vals ++ rest).map (.int .i64))→Vals vals→fl.length=own.length→Ms fl→Own 1 B H os (fl.map (.int .i64)) →
   ∃ H' rest',callF PP orc k impl_ruleMasks_1.id [.int .i64 (vals.length:Int),.ptr cb 0,.ptr rb 0,.ptr vb 0,.ptr ob 0,.ptr tb 0] H=some (.tup [],H')∧rest'.length=rem∧B <+: H'∧Adv2 vs.blk os.blk H H'∧Own 1 B H' vs ((vals ++ rest').map (.int .i64))∧Own 1 B H' os ((ways (holdsV kind value) (own.drop vals.length) vals fl).map (.int .i64)):=by
 intro rem
 induction rem with
 | zero=>
  intro k hk H vals rest fl hl hr hp ht hv hvals hfl hm ho
  obtain ⟨k,rfl⟩:=Zs k (by omega)
  rw [impl_ruleMasks_1.call]
  have er:rest=[]:=List.length_eq_zero_iff.1 hr
  subst er
  rw [List.append_nil] at hv
  have hwl:=hw.len
  have rv:=own_reads hv
  have hvl:=rv.len
  have h1:=valuesHold_ok (show 2000002 ≤ k by omega) (kind:=kind) (value:=value) (cs:=cs) rv hvals (by rw [show vals.length=own.length by omega]; exact hk2)
  have r0:ldI .i64 H rb 0=some kind:=by unfold ldI Hp.cell; rw [ht.r]; simp [AV.toI]
  have r1:ldS 1 H rb (0 + 1)=some cs:=by unfold ldS Hp.cell; rw [ht.r]; simp [AV.toS]
  have r2:ldI .i64 H rb (0 + 1 + 1)=some value:=by unfold ldI Hp.cell; rw [ht.r]; simp [AV.toI]
  rw [show own.drop vals.length=[] from List.drop_eq_nil_of_le (by omega),ways]
  cases hh:holdsV kind value vals with
  | true=>
   rw [hh] at h1
   obtain ⟨H',b1,b2,b3,b4⟩:=Try_l0 (callF PP orc k) k hvals hne ht.ne.2.2.2.1.2 vals.length 0 k H fl (by omega) (by have:=hvals.1; omega) hp rv ht.o hm (by omega) ho
   refine ⟨H',[],?_,rfl,b2,adv_adv2' b3,by rw [List.append_nil]; exact b3.but.own hne hv,b4⟩
   simp only [Int.natCast_zero] at b1
   simp (disch:=omega) only [impl_ruleMasks_1.f,dt,df,bt,bf,nt,nf,Za,Zy,Zx,Zt,Zf,Zn,Zz,Zi,Zo,wr,AV.toB,AV.toI,AV.toS,if_true,box_sl ht.c,box_sl ht.v,r0,r1,r2,h1,hvl,b1]
  | false=>
   rw [hh] at h1
   refine ⟨H,[],?_,rfl,hp,Adv2.refl _ _ _,by rw [List.append_nil]; exact hv,by simpa using ho⟩
   simp (disch:=omega) only [impl_ruleMasks_1.f,dt,df,bt,bf,nt,nf,Za,Zy,Zx,Zt,Zf,Zn,Zz,Zi,Zo,wr,AV.toB,AV.toI,AV.toS,if_true,box_sl ht.c,box_sl ht.v,r0,r1,r2,h1]
 | succ rem ih=>
  intro k hk H vals rest fl hl hr hp ht hv hvals hfl hm ho
  obtain ⟨k,rfl⟩:=Zs k (by omega)
  rw [impl_ruleMasks_1.call]
  have hwl:=hw.len
  have hcv:vals.length < own.length:=by omega
  have hom':=hom _ (mem_getD hcv)
  have hd:own.drop vals.length=own.getD vals.length 0 :: own.drop (vals.length + 1):=by
   rw [List.drop_eq_getElem_cons hcv,List.getD_eq_getElem?_getD,List.getElem?_eq_getElem hcv]; rfl
  rw [hd,ways]
  generalize hmm:own.getD vals.length 0=m at *
  have hM:M m:=⟨hom'.1.1,by have:=hom'.1.2; omega⟩
  have hmv:maskVals m=mvFrom m 1 4:=by unfold maskVals; rw [if_pos hom']
  rw [hmv]
  have loop:∀ (j v fuel:Nat) (Hc:Hp) (rest fl:List Int),v + j=5→1 ≤ v→j < fuel→rest.length=rem + 1→B <+: Hc→Try Hc cb rb vb ob tb kind value cs ws vs os→Own 1 B Hc vs ((vals ++ rest).map (.int .i64))→fl.length=own.length→Ms fl→Own 1 B Hc os (fl.map (.int .i64)) →
    ∃ H' rest',impl_ruleMasks_1.l1 (callF PP orc k) k fuel (vals.length:Int) cb 0 vb 0 tb 0 v Hc=some (.tup [],H')∧rest'.length=rem + 1∧B <+: H'∧Adv2 vs.blk os.blk Hc H'∧Own 1 B H' vs ((vals ++ rest').map (.int .i64))∧Own 1 B H' os (((mvFrom m v j).foldl (fun f v=>ways (holdsV kind value) (own.drop (vals.length + 1)) (vals ++ [v]) f) fl).map (.int .i64)):=by
   intro j
   induction j with
   | zero=>
    intro v fuel Hc rest fl hv5 hv1 hf hr hp ht hv hfl hm ho
    obtain ⟨fuel,rfl⟩:=Zs fuel (by omega)
    refine ⟨Hc,rest,?_,hr,hp,Adv2.refl _ _ _,hv,ho⟩
    simp (disch:=omega) only [impl_ruleMasks_1.l1,dt,df,bt,bf,nt,nf,Za,Zy,Zx,Zt,Zf,Zn,Zz,Zi,Zo,wr,AV.toB,AV.toI,AV.toS,if_true]
   | succ j ihj=>
    intro v fuel Hc rest fl hv5 hv1 hf hr hp ht hv hfl hm ho
    obtain ⟨fuel,rfl⟩:=Zs fuel (by omega)
    have hvl:=(own_reads hv).len
    simp only [List.length_append] at hvl
    have hb:mbit m v=has m v:=by
     have:=m_bit (v:=(v:Int)) hM (by omega) (by omega)
     simpa [mbit] using this
    have hbit:=m_bit' (v:=(v:Int)) hM (by omega) (by omega)
    rw [Int.toNat_natCast] at hbit
    rw [mvFrom,hb]
    cases hh:has m v with
    | true=>
     rw [hh] at hbit
     obtain ⟨x,rest0,rfl⟩:∃ x rest0,rest=x :: rest0:=by
      cases rest with
      | nil=>simp at hr
      | cons x r=>exact ⟨x,r,rfl⟩
     obtain ⟨H1,a1,a2,a3,a4⟩:=own_set1 hv hp vals.length (by simp) (v:Int)
     have e1:(vals ++ x :: rest0).set vals.length (v:Int)=(vals ++ [(v:Int)]) ++ rest0:=by
      rw [List.set_append_right _ _ (Nat.le_refl _),Nat.sub_self,List.set_cons_zero,List.append_assoc]; rfl
     rw [e1] at a3
     have ht1:=ht.adv (adv_adv2 (c:=os.blk) a4)
     have hw1:=ways_ok (holdsV kind value) (own.drop (vals.length + 1)) (vals ++ [(v:Int)]) fl (hvals.app (by omega) ⟨by omega,by omega⟩) (by simp; omega) hm
     obtain ⟨H2,rest',b1,b2,b3,b4,b5,b6⟩:=ih k (by omega) H1 (vals ++ [(v:Int)]) rest0 fl (by simp; omega) (by simpa using hr) a2 ht1 a3 (hvals.app (by omega) ⟨by omega,by omega⟩) hfl hm (a4.but.own (Ne.symm hne) ho)
     rw [List.length_append,List.length_singleton] at b1 b6
     rw [List.append_assoc] at b5
     have adv2:Adv2 vs.blk os.blk Hc H2:=(adv_adv2 (c:=os.blk) a4).tr b4
     obtain ⟨H3,rest'',d1,d2,d3,d4,d5,d6⟩:=ihj (v + 1) fuel H2 ([(v:Int)] ++ rest') _ (by omega) (by omega) (by omega) (by simp; omega) b3 (ht.adv adv2) b5 (by rw [hw1.2]; exact hfl) hw1.1 b6
     have hf0:ldF H1 tb 0=some (impl_ruleMasks_1.id,[.ptr cb 0,.ptr rb 0,.ptr vb 0,.ptr ob 0,.ptr tb 0]):=by unfold ldF Hp.cell; rw [ht1.t]; simp [AV.toF]
     refine ⟨H3,rest'',?_,d2,d3,adv2.tr d4,d5,?_⟩
     ·push_cast at d1 b1
      have rw0:=rdn (pf_reads hp hw) hcv
      rw [hmm] at rw0
      simp (disch:=omega) only [impl_ruleMasks_1.l1,impl_ruleMasks_1.j2,dt,Za,Zt,Zn,Zo,box_sl ht.c,box_sl ht.v,rw0,iN,hbit,hvl,a1,hf0,okTry,wr (n:=(vals.length:Int) + 1),wr (n:=(v:Int) + 1),List.cons_append,List.nil_append,List.all_cons,List.all_nil,AV.glob,AV.cell,b1,d1]
     ·rw [if_pos rfl,List.cons_append,List.nil_append,List.foldl_cons]; exact d6
    | false=>
     rw [hh] at hbit
     obtain ⟨H3,rest'',d1,d2,d3,d4,d5,d6⟩:=ihj (v + 1) fuel Hc rest fl (by omega) (by omega) (by omega) hr hp ht hv hfl hm ho
     refine ⟨H3,rest'',?_,d2,d3,d4,d5,?_⟩
     ·push_cast at d1
      have rw0:=rdn (pf_reads hp hw) hcv
      rw [hmm] at rw0
      simp (disch:=omega) only [impl_ruleMasks_1.l1,impl_ruleMasks_1.j2,dt,Za,Zt,Zf,Zn,Zo,box_sl ht.c,rw0,iN,hbit,wr (n:=(v:Int) + 1),d1]
     ·rw [if_neg (by simp),List.nil_append]; exact d6
  obtain ⟨H',rest',b1,b2,b3,b4,b5,b6⟩:=loop 4 1 k H rest fl (by omega) (by omega) (by omega) hr hp ht hv hfl hm ho
  refine ⟨H',rest',?_,b2,b3,b4,b5,b6⟩
  simp (disch:=omega) only [impl_ruleMasks_1.f,dt,df,bt,bf,nt,nf,Za,Zy,Zx,Zt,Zf,Zn,Zz,Zi,Zo,wr,AV.toB,AV.toI,AV.toS,if_true,box_sl ht.c]
  exact b1
def NilOr (H0 H:Hp) (t:Sl) (l:List Int):Prop:=(t=Sl.none∧l=[]) ∨ Own 1 H0 H t (l.map (.int .i64))
theorem NilOr.reads {H0 H:Hp} {t:Sl} {l:List Int} (h:NilOr H0 H t l):Reads .i64 H t l:=by
 rcases h with ⟨h1,h2⟩ | h
 ·subst h1; subst h2; exact reads_nil rfl
 ·exact own_reads h
theorem NilOr.pf {H0 H H':Hp} {t:Sl} {l:List Int} (h:NilOr H0 H t l) (g:H <+: H'):NilOr H0 H' t l:=by
 rcases h with h | h
 ·exact .inl h
 ·exact .inr (own_pf h g)
theorem NilOr.base {H0 H1 H:Hp} {t:Sl} {l:List Int} (h:NilOr H1 H t l) (g:H0 <+: H1):NilOr H0 H t l:=by
 rcases h with h | h
 ·exact .inl h
 ·exact .inr (own_base h g)
theorem NilOr.nn {H0 H:Hp} {t:Sl} {l:List Int} (h:NilOr H0 H t l) (hl:l ≠ []):t.nil=false:=by
 rcases h with ⟨_,h⟩ | h
 ·exact absurd h hl
 ·exact h.nn
theorem OnesCount_ok {k:Nat} (hk:2 ≤ k) {n m:Int} (hm:maskOk n m=true) (H:Hp):callF PP orc k math_bits_OnesCount.id [.int .u64 (IntKind.u64.wrap m)] H=some (.int .i64 (cntM m),H):=by
 obtain ⟨k,rfl⟩:=Zs k (by omega)
 rw [math_bits_OnesCount.call]
 have h1:callF PP orc k math_bits_OnesCount64.id [.int .u64 (IntKind.u64.wrap m)] H=some (.int .i64 (cntM m),H):=by
  obtain ⟨k,rfl⟩:=Zs k (by omega)
  rw [math_bits_OnesCount64.call]
  obtain ⟨h1,h2⟩:=maskOk_iff.1 hm
  have ht:=topMask_le n
  obtain ⟨a,ha,ha16⟩:∃ a:Nat,m=((2 * a:Nat):Int)∧a < 16:=⟨(m / 2).toNat,by rw [Int.tmod_eq_emod_of_nonneg h1.1] at h2; omega,by omega⟩
  subst ha
  have:a=0 ∨ a=1 ∨ a=2 ∨ a=3 ∨ a=4 ∨ a=5 ∨ a=6 ∨ a=7 ∨ a=8 ∨ a=9 ∨ a=10 ∨ a=11 ∨ a=12 ∨ a=13 ∨ a=14 ∨ a=15:=by omega
  rcases this with rfl | rfl | rfl | rfl | rfl | rfl | rfl | rfl | rfl | rfl | rfl | rfl | rfl | rfl | rfl | rfl <;> (show _=_; kernel_rfl)
 simp only [math_bits_OnesCount.f,h1,Zo,AV.toI,if_true]
theorem all_getD {p:Int→Bool} {l:List Int} {i:Nat} (h:i < l.length):(l.drop i).all p=(p (l.getD i 0) && (l.drop (i + 1)).all p):=by
 rw [List.drop_eq_getElem_cons h,List.all_cons,List.getD_eq_getElem?_getD,List.getElem?_eq_getElem h]; rfl
theorem tab_andnot:∀ n:Nat,n < 5→∀ m:Nat,m < 64→(n < 2 ∨ ((IntKind.i64.wrap (((BitVec.ofInt IntKind.i64.bits ((m:Nat):Int) &&& ~~~(BitVec.ofInt IntKind.i64.bits (topMask n))).toNat:Int))) != 0)=!maskOk n m):=by decide +kernel
theorem implMasksValid_l2 {k:Nat} (hk:1 ≤ k) {n:Int} (hn:2 ≤ n∧n ≤ 4) {H:Hp} {s:Sl} {l:List Int} (hs:Reads .i64 H s l) (hl:l.length ≤ 1000) (hr:∀ m ∈ l,-2 ≤ m∧m ≤ 63) :
  ∀ (j i fuel:Nat),i + j=l.length→j < fuel→impl_MasksValid.l2 (callF PP orc k) k fuel n s (l.length:Int) i H=some (.bool ((l.drop i).all (maskOk n)),H):=by
 have hsl:=hs.len
 intro j
 induction j with
 | zero=>
  intro i fuel hi hf
  obtain ⟨fuel,rfl⟩:=Zs fuel (by omega)
  rw [List.drop_eq_nil_of_le (by omega)]
  simp (disch:=omega) only [impl_MasksValid.l2,dt,df,bt,bf,nt,nf,Za,Zy,Zx,Zt,Zf,Zn,Zz,Zi,Zo,wr,AV.toB,AV.toI,AV.toS,if_true,List.all_nil]
 | succ j ih=>
  intro i fuel hi hf
  obtain ⟨fuel,rfl⟩:=Zs fuel (by omega)
  have hi2:i < l.length:=by omega
  have hm:=hr _ (mem_getD hi2)
  have d1:=ih (i + 1) fuel (by omega) (by omega)
  push_cast at d1
  rw [all_getD hi2]
  by_cases c:l.getD i 0 < 0
  ·have e:maskOk n (l.getD i 0)=false:=by
    rw [Bool.eq_false_iff]; intro h; have:=(maskOk_iff.1 h).1; omega
   rw [e,Bool.false_and]
   simp (disch:=omega) only [impl_MasksValid.l2,impl_MasksValid.j3,dt,df,bt,bf,nt,nf,Za,Zy,Zx,Zt,Zf,Zn,Zz,Zi,Zo,wr,AV.toB,AV.toI,AV.toS,if_true,rdn hs]
  ·have ht:=tab_andnot n.toNat (by omega) (l.getD i 0).toNat (by omega)
   rw [show ((n.toNat:Nat):Int)=n by omega,show (((l.getD i 0).toNat:Nat):Int)=l.getD i 0 by omega] at ht
   have ht':=ht.resolve_left (by omega)
   cases e:maskOk n (l.getD i 0) with
   | false=>
    rw [e] at ht'
    simp (disch:=omega) only [impl_MasksValid.l2,impl_MasksValid.j3,dt,df,bt,bf,nt,nf,Za,Zy,Zx,Zt,Zf,Zn,Zz,Zi,Zo,wr,AV.toB,AV.toI,AV.toS,if_true,rdn hs,allValues_ok hk hn,ht',Bool.false_and]
   | true=>
    rw [e] at ht'
    simp (disch:=omega) only [impl_MasksValid.l2,impl_MasksValid.j3,impl_MasksValid.j4,dt,df,bt,bf,nt,nf,Za,Zy,Zx,Zt,Zf,Zn,Zz,Zi,Zo,wr,AV.toB,AV.toI,AV.toS,if_true,rdn hs,allValues_ok hk hn,ht',Bool.true_and,d1]
theorem implMasksValid_ok {k:Nat} (hk:2000000 ≤ k) {n:Int} (hb:-1 ≤ n∧n ≤ 5) {H:Hp} {s:Sl} {l:List Int} (hs:Reads .i64 H s l) (hl:l.length ≤ 1000) (hr:∀ m ∈ l,-2 ≤ m∧m ≤ 63) :
  callF PP orc k impl_MasksValid.id [.sl 1 s,.int .i64 n] H=some (.bool (masksOk n l),H):=by
 obtain ⟨k,rfl⟩:=Zs k (by omega)
 rw [impl_MasksValid.call]
 have hsl:=hs.len
 have h1:=sizeOk_ok (show 1 ≤ k by omega) n H
 have h7:=n7 hb
 unfold masksOk
 by_cases hn:2 ≤ n∧n ≤ 4
 ·rw [decide_eq_true hn] at h1 ⊢
  by_cases c:(l.length:Int)=n * n
  ·have d1:=implMasksValid_l2 (show 1 ≤ k by omega) hn hs hl hr l.length 0 k (by omega) (by omega)
   simp only [Int.natCast_zero,List.drop_zero] at d1
   rw [decide_eq_true c,Bool.and_true,Bool.true_and]
   simp (disch:=omega) only [impl_MasksValid.f,impl_MasksValid.j0,impl_MasksValid.j1,dt,df,bt,bf,nt,nf,Za,Zy,Zx,Zt,Zf,Zn,Zz,Zi,Zo,wr,AV.toB,AV.toI,AV.toS,if_true,h1,hsl,wr (n:=n * n),nf c,d1]
  ·rw [decide_eq_false c,Bool.and_false,Bool.and_false]
   simp (disch:=omega) only [impl_MasksValid.f,impl_MasksValid.j0,impl_MasksValid.j1,dt,df,bt,bf,nt,nf,Za,Zy,Zx,Zt,Zf,Zn,Zz,Zi,Zo,wr,AV.toB,AV.toI,AV.toS,if_true,h1,hsl,wr (n:=n * n),nt c]
 ·rw [decide_eq_false hn] at h1 ⊢
  rw [Bool.false_and]
  simp only [impl_MasksValid.f,impl_MasksValid.j0,dt,df,bt,bf,nt,nf,Za,Zy,Zx,Zt,Zf,Zn,Zz,Zi,Zo,wr,AV.toB,AV.toI,AV.toS,if_true,h1]
theorem Equal_l0 (rec:Rec) (k:Nat) {H:Hp} {s t:Sl} {x y:List Int} (hs:Reads .i64 H s x) (ht:Reads .i64 H t y) (hl:x.length=y.length) (h1:x.length ≤ 1000) :
  ∀ (j i fuel:Nat),i + j=x.length→j < fuel→slices_Equal_int.l0 rec k fuel s t (x.length:Int) i H=some (.bool (decide (x.drop i=y.drop i)),H):=by
 have hsl:=hs.len
 have htl:=ht.len
 intro j
 induction j with
 | zero=>
  intro i fuel hi hf
  obtain ⟨fuel,rfl⟩:=Zs fuel (by omega)
  rw [List.drop_eq_nil_of_le (show x.length ≤ i by omega),List.drop_eq_nil_of_le (show y.length ≤ i by omega)]
  simp (disch:=omega) only [slices_Equal_int.l0,dt,df,bt,bf,nt,nf,Za,Zy,Zx,Zt,Zf,Zn,Zz,Zi,Zo,wr,AV.toB,AV.toI,AV.toS,if_true]
  rfl
 | succ j ih=>
  intro i fuel hi hf
  obtain ⟨fuel,rfl⟩:=Zs fuel (by omega)
  have hx:i < x.length:=by omega
  have hy:i < y.length:=by omega
  have ex:x.drop i=x.getD i 0 :: x.drop (i + 1):=by
   rw [List.drop_eq_getElem_cons hx,List.getD_eq_getElem?_getD,List.getElem?_eq_getElem hx]; rfl
  have ey:y.drop i=y.getD i 0 :: y.drop (i + 1):=by
   rw [List.drop_eq_getElem_cons hy,List.getD_eq_getElem?_getD,List.getElem?_eq_getElem hy]; rfl
  rw [ex,ey]
  by_cases c:x.getD i 0=y.getD i 0
  ·have d1:=ih (i + 1) fuel (by omega) (by omega)
   push_cast at d1
   rw [show decide (x.getD i 0 :: x.drop (i + 1)=y.getD i 0 :: y.drop (i + 1))=decide (x.drop (i + 1)=y.drop (i + 1)) by rw [c]; simp,← d1]
   simp (disch:=omega) only [slices_Equal_int.l0,dt,df,bt,bf,nt,nf,Za,Zy,Zx,Zt,Zf,Zn,Zz,Zi,Zo,wr,AV.toB,AV.toI,AV.toS,if_true,rdn hs,rdn ht,nf]
  ·rw [show decide (x.getD i 0 :: x.drop (i + 1)=y.getD i 0 :: y.drop (i + 1))=false from decide_eq_false fun h=>c (List.cons.inj h).1]
   simp (disch:=omega) only [slices_Equal_int.l0,dt,df,bt,bf,nt,nf,Za,Zy,Zx,Zt,Zf,Zn,Zz,Zi,Zo,wr,AV.toB,AV.toI,AV.toS,if_true,rdn hs,rdn ht,nt]
theorem Equal_ok {k:Nat} (hk:2000000 ≤ k) {H:Hp} {s t:Sl} {x y:List Int} (hs:Reads .i64 H s x) (ht:Reads .i64 H t y) (h1:x.length ≤ 1000) (h2:y.length ≤ 1000) :
  callF PP orc k slices_Equal_int.id [.sl 1 s,.sl 1 t] H=some (.bool (decide (x=y)),H):=by
 obtain ⟨k,rfl⟩:=Zs k (by omega)
 rw [slices_Equal_int.call]
 have hsl:=hs.len
 have htl:=ht.len
 by_cases c:x.length=y.length
 ·have d1:=Equal_l0 (callF PP orc k) k hs ht c h1 x.length 0 k (by omega) (by omega)
  simp only [Int.natCast_zero,List.drop_zero] at d1
  rw [← d1,← hsl]
  simp (disch:=omega) only [slices_Equal_int.f,dt,df,bt,bf,nt,nf,Za,Zy,Zx,Zt,Zf,Zn,Zz,Zi,Zo,wr,AV.toB,AV.toI,AV.toS,if_true]
 ·rw [decide_eq_false (fun h=>c (congrArg List.length h))]
  simp (disch:=omega) only [slices_Equal_int.f,dt,df,bt,bf,nt,nf,Za,Zy,Zx,Zt,Zf,Zn,Zz,Zi,Zo,wr,AV.toB,AV.toI,AV.toS,if_true]
/-! ### The only value of a mask -/
def ovFrom (m:Int):Int→Nat→Int
 | _,0=>0
 | v,j + 1=>if m=pw v then v else ovFrom m (v + 1) j
def oneOf (m:Int):Int:=if (maskVals m).length=1 then (maskVals m).headD 0 else 0
theorem tab_ov:∀ a:Nat,a < 16→ovFrom ((2 * a:Nat):Int) 1 4=oneOf ((2 * a:Nat):Int):=by decide +kernel
theorem ov_one {n m:Int} (hm:maskOk n m=true):ovFrom m 1 4=oneOf m:=by
 obtain ⟨h1,h2⟩:=maskOk_iff.1 hm
 have ht:=topMask_le n
 obtain ⟨a,ha,ha16⟩:∃ a:Nat,m=((2 * a:Nat):Int)∧a < 16:=⟨(m / 2).toNat,by rw [Int.tmod_eq_emod_of_nonneg h1.1] at h2; omega,by omega⟩
 rw [ha]; exact tab_ov a ha16
theorem onlyValue_l0 (rec:Rec) (k:Nat) {m:Int} {H:Hp}:∀ (j fuel:Nat) (v:Int),v + j=5→1 ≤ v→j < fuel→impl_onlyValue.l0 rec k fuel m v H=some (.int .i64 (ovFrom m v j),H):=by
 intro j
 induction j with
 | zero=>
  intro fuel v hv h1 hf
  obtain ⟨fuel,rfl⟩:=Zs fuel (by omega)
  simp (disch:=omega) only [impl_onlyValue.l0,dt,df,bt,bf,nt,nf,Za,Zy,Zx,Zt,Zf,Zn,Zz,Zi,Zo,wr,AV.toB,AV.toI,AV.toS,if_true,ovFrom]
 | succ j ih=>
  intro fuel v hv h1 hf
  obtain ⟨fuel,rfl⟩:=Zs fuel (by omega)
  by_cases c:m=pw v
  ·rw [ovFrom,if_pos c]
   simp (disch:=omega) only [impl_onlyValue.l0,dt,Zt,iN,m_shl (v:=v),bt c]
  ·rw [ovFrom,if_neg c]
   have d1:=ih fuel (v + 1) (by omega) (by omega) (by omega)
   simp (disch:=omega) only [impl_onlyValue.l0,dt,Zt,Zf,iN,m_shl (v:=v),bf c,wr (n:=v + 1),d1]
theorem onlyValue_ok {k:Nat} (hk:2000000 ≤ k) {n m:Int} (hm:maskOk n m=true) (H:Hp):callF PP orc k impl_onlyValue.id [.int .i64 m] H=some (.int .i64 (oneOf m),H):=by
 obtain ⟨k,rfl⟩:=Zs k (by omega)
 rw [impl_onlyValue.call,← ov_one hm]
 exact onlyValue_l0 _ _ 4 k 1 (by omega) (by omega) (by omega)
theorem oneOf_single {n m:Int} (hm:maskOk n m=true):(oneOf m=0 ↔ single m=false)∧(single m=true→maskVals m=[oneOf m]∧1 ≤ oneOf m):=by
 unfold oneOf single
 by_cases c:(maskVals m).length=1
 ·obtain ⟨x,ex⟩:=List.length_eq_one_iff.1 c
  have hx:=maskVals_mem (m:=m) (x:=x) (by rw [ex]; simp)
  rw [if_pos c,ex]
  simp only [List.headD_cons,List.length_singleton,beq_self_eq_true]
  exact ⟨⟨fun h=>by omega,fun h=>by cases h⟩,fun _=>⟨trivial,hx.1⟩⟩
 ·rw [if_neg c]
  have:((maskVals m).length == 1)=false:=by simpa using c
  rw [this]
  exact ⟨⟨fun _=>rfl,fun _=>rfl⟩,fun h=>by cases h⟩
def inB (l g:List Int):Nat→Nat→Bool
 | _,0=>true
 | i,j + 1=>has (l.getD i 0) (g.getD i 0).toNat && inB l g (i + 1) j
theorem inB_iff (l g:List Int):∀ (j i:Nat),inB l g i j=true ↔ ∀ x,i ≤ x→x < i + j→has (l.getD x 0) (g.getD x 0).toNat=true
 | 0,i=>by simp [inB]; intro x h1 h2; omega
 | j + 1,i=>by
  rw [inB,Bool.and_eq_true,inB_iff l g j (i + 1)]
  constructor
  ·rintro ⟨h1,h2⟩ x h3 h4
   by_cases e:x=i
   ·rw [e]; exact h1
   ·exact h2 x (by omega) (by omega)
  ·intro h; exact ⟨h i (by omega) (by omega),fun x h1 h2=>h x (by omega) (by omega)⟩
def haveV (n:Int) (l g:List Int):Bool:=masksOk n l && (gridOk g n && inB l g 0 g.length)
theorem haveV_iff {n:Int} {l g:List Int}:haveV n l g=true ↔ masksOk n l=true∧gridOk g n=true∧InM l g:=by
 unfold haveV InM
 rw [Bool.and_eq_true,Bool.and_eq_true,inB_iff]
 constructor
 ·rintro ⟨a,b,c⟩; exact ⟨a,b,fun i hi=>c i (by omega) (by omega)⟩
 ·rintro ⟨a,b,c⟩; exact ⟨a,b,fun i _ hi=>c i (by omega)⟩
theorem have_full {n:Int} {l g:List Int} (hl:masksOk n l=true) (hg:gridOk g n=true) (h:InM l g):full g:=fun i hi=>(maskVals_mem (h.mem hl hg hi)).1
theorem gr {g:List Int} {n:Int} (hg:gridOk g n=true) {i:Nat} (hi:i < g.length):0 ≤ g.getD i 0∧g.getD i 0 ≤ 4:=by
 obtain ⟨h1,_,h3⟩:=(gridOk_iff g n).1 hg
 have:=h3 _ (mem_getD hi)
 omega
theorem implHave_l2 (rec:Rec) (k:Nat) {H:Hp} {ms xs:Sl} {l g:List Int} {n:Int} (hm:Reads .i64 H ms l) (hx:Reads .i64 H xs g) (hl:masksOk n l=true) (hg:gridOk g n=true) :
  ∀ (j i fuel:Nat),i + j=g.length→j < fuel→impl_MasksHave.l2 rec k fuel ms xs (g.length:Int) i H=some (.bool (inB l g i j),H):=by
 have hml:=hm.len
 have hxl:=hx.len
 have hlen:=square_len hl hg
 have h16:=gridOk_len hg
 have hM:=masks_M hl
 intro j
 induction j with
 | zero=>
  intro i fuel hi hf
  obtain ⟨fuel,rfl⟩:=Zs fuel (by omega)
  simp (disch:=omega) only [impl_MasksHave.l2,dt,df,bt,bf,nt,nf,Za,Zy,Zx,Zt,Zf,Zn,Zz,Zi,Zo,wr,AV.toB,AV.toI,AV.toS,if_true,inB]
 | succ j ih=>
  intro i fuel hi hf
  obtain ⟨fuel,rfl⟩:=Zs fuel (by omega)
  obtain ⟨v0,v4⟩:=gr hg (show i < g.length by omega)
  have d1:=ih (i + 1) fuel (by omega) (by omega)
  push_cast at d1
  have hb:=m_bit0' (hM.at i) v0 (show g.getD i 0 ≤ 5 by omega)
  rw [inB]
  cases e:has (l.getD i 0) (g.getD i 0).toNat with
  | true=>
   rw [e] at hb
   simp (disch:=omega) only [impl_MasksHave.l2,dt,Za,Zy,Zt,Zf,Zn,Zo,rdn hm,rdn hx,iN,hb,wr (n:=(i:Int) + 1),d1,Bool.true_and]
  | false=>
   rw [e] at hb
   simp (disch:=omega) only [impl_MasksHave.l2,dt,Za,Zx,Zt,Zf,Zn,Zo,rdn hm,rdn hx,iN,hb,Bool.false_and]
theorem implMasksHave_ok {k:Nat} (hk:2000010 ≤ k) {H:Hp} {ms xs:Sl} {l g:List Int} {n:Int} (hb:-1 ≤ n∧n ≤ 5) (hm:Reads .i64 H ms l) (hx:Reads .i64 H xs g) (hl:l.length ≤ 1000) (hr:∀ m ∈ l,-2 ≤ m∧m ≤ 63) (hgl:g.length ≤ 1000) :
  callF PP orc k impl_MasksHave.id [.sl 1 ms,.int .i64 n,.sl 1 xs] H=some (.bool (haveV n l g),H):=by
 obtain ⟨k,rfl⟩:=Zs k (by omega)
 rw [impl_MasksHave.call]
 have h1:=implMasksValid_ok (show 2000000 ≤ k by omega) hb hm hl hr
 have h2:=implGridValid_ok (show 2000000 ≤ k by omega) hx (by omega) n
 have h3:=implGridFilled_ok (show 2000001 ≤ k by omega) hx (by omega) n
 have hxl:=hx.len
 unfold haveV
 cases e1:masksOk n l with
 | false=>
  rw [e1] at h1
  simp only [impl_MasksHave.f,impl_MasksHave.j0,dt,df,bt,bf,nt,nf,Za,Zy,Zx,Zt,Zf,Zn,Zz,Zi,Zo,wr,AV.toB,AV.toI,AV.toS,if_true,h1,Bool.false_and]
 | true=>
  rw [e1] at h1
  cases e2:gridOk g n with
  | false=>
   rw [e2] at h2
   simp only [impl_MasksHave.f,impl_MasksHave.j0,dt,df,bt,bf,nt,nf,Za,Zy,Zx,Zt,Zf,Zn,Zz,Zi,Zo,wr,AV.toB,AV.toI,AV.toS,if_true,h1,h2,Bool.false_and,Bool.and_false]
  | true=>
   rw [e2] at h2 h3
   rw [ip rfl] at h3
   by_cases c:(filled g:Int)=(g.length:Int)
   ·have d1:=implHave_l2 (callF PP orc k) k hm hx e1 e2 g.length 0 k (by omega) (by omega)
    simp only [Int.natCast_zero] at d1
    simp only [impl_MasksHave.f,impl_MasksHave.j0,impl_MasksHave.j1,dt,df,bt,bf,nt,nf,Za,Zy,Zx,Zt,Zf,Zn,Zz,Zi,Zo,wr,AV.toB,AV.toI,AV.toS,if_true,h1,h2,h3,hxl,nf c,Bool.true_and,d1]
   ·have e:inB l g 0 g.length=false:=by
     rw [Bool.eq_false_iff]
     intro h
     apply c
     have hf:full g:=have_full e1 e2 fun i hi=>(inB_iff l g _ _).1 h i (by omega) (by omega)
     rw [filled_eq.2 hf]
    rw [e]
    simp only [impl_MasksHave.f,impl_MasksHave.j0,dt,df,bt,bf,nt,nf,Za,Zy,Zx,Zt,Zf,Zn,Zz,Zi,Zo,wr,AV.toB,AV.toI,AV.toS,if_true,h1,h2,h3,hxl,nt c,Bool.true_and]
/-! ### How many values -/
theorem total_drop {l:List Int} {i:Nat} (h:i < l.length):total (l.drop i)=cntM (l.getD i 0) + total (l.drop (i + 1)):=by
 rw [List.drop_eq_getElem_cons h,total,List.getD_eq_getElem?_getD,List.getElem?_eq_getElem h]; rfl
def massV (n:Int) (l:List Int):Int:=if masksOk n l=true then (total l:Int) else -1
theorem implCount_l0 {k:Nat} (hk:2000000 ≤ k) {H:Hp} {ms:Sl} {l:List Int} {n:Int} (hm:Reads .i64 H ms l) (hv:masksOk n l=true) :
  ∀ (j i fuel:Nat) (r:Nat),i + j=l.length→j < fuel→r ≤ 4 * i→impl_MasksCount.l0 (callF PP orc k) k fuel (r:Int) ms (l.length:Int) i H=some (.int .i64 ((r + total (l.drop i):Nat):Int),H):=by
 have hml:=hm.len
 have hl:=masks_len hv
 intro j
 induction j with
 | zero=>
  intro i fuel r hi hf hr
  obtain ⟨fuel,rfl⟩:=Zs fuel (by omega)
  rw [List.drop_eq_nil_of_le (by omega)]
  simp (disch:=omega) only [impl_MasksCount.l0,impl_MasksCount.j1,dt,df,bt,bf,nt,nf,Za,Zy,Zx,Zt,Zf,Zn,Zz,Zi,Zo,wr,AV.toB,AV.toI,AV.toS,if_true,total,Nat.add_zero]
 | succ j ih=>
  intro i fuel r hi hf hr
  obtain ⟨fuel,rfl⟩:=Zs fuel (by omega)
  have hi2:i < l.length:=by omega
  have h1:=OnesCount_ok (show 2 ≤ k by omega) (masks_at hv hi2) H
  have h4:=cntM_le (l.getD i 0)
  have b1:=ih (i + 1) fuel (r + cntM (l.getD i 0)) (by omega) (by omega) (by omega)
  push_cast at b1
  rw [total_drop hi2]
  simp (disch:=omega) only [impl_MasksCount.l0,dt,df,bt,bf,nt,nf,Za,Zy,Zx,Zt,Zf,Zn,Zz,Zi,Zo,wr,AV.toB,AV.toI,AV.toS,if_true,rdn hm,h1,wr (n:=(r:Int) + (cntM (l.getD i 0):Int)),b1]
  congr 4
  omega
theorem implMasksCount_ok {k:Nat} (hk:2000010 ≤ k) {H:Hp} {ms:Sl} {l:List Int} {n:Int} (hb:-1 ≤ n∧n ≤ 5) (hm:Reads .i64 H ms l) (hl:l.length ≤ 1000) (hr:∀ m ∈ l,-2 ≤ m∧m ≤ 63) :
  callF PP orc k impl_MasksCount.id [.sl 1 ms,.int .i64 n] H=some (.int .i64 (massV n l),H):=by
 obtain ⟨k,rfl⟩:=Zs k (by omega)
 rw [impl_MasksCount.call]
 have h1:=implMasksValid_ok (show 2000000 ≤ k by omega) hb hm hl hr
 have hml:=hm.len
 unfold massV
 cases e1:masksOk n l with
 | false=>
  rw [e1] at h1
  simp only [impl_MasksCount.f,dt,df,bt,bf,nt,nf,Za,Zy,Zx,Zt,Zf,Zn,Zz,Zi,Zo,wr,AV.toB,AV.toI,AV.toS,if_true,h1,Bool.false_eq_true,if_false]
 | true=>
  rw [e1] at h1
  have b1:=implCount_l0 (show 2000000 ≤ k by omega) hm e1 l.length 0 k 0 (by omega) (by omega) (by omega)
  rw [List.drop_zero,Nat.zero_add] at b1
  simp only [Int.natCast_zero] at b1
  simp only [impl_MasksCount.f,dt,df,bt,bf,nt,nf,Za,Zy,Zx,Zt,Zf,Zn,Zz,Zi,Zo,wr,AV.toB,AV.toI,AV.toS,if_true,h1,hml,b1]
theorem row_ok {N i kk:Nat} (hN:N=2 ∨ N=3 ∨ N=4) (hi:i ≤ 100) (hk:kk ≤ 100):IntKind.i64.wrap (IntKind.i64.wrap (IntKind.i64.wrap ((i:Int).tdiv (N:Int)) * (N:Int)) + (kk:Int))=((i / N * N + kk:Nat):Int)∧IntKind.i64.wrap (IntKind.i64.wrap ((kk:Int) * (N:Int)) + (i:Int).tmod (N:Int))=((kk * N + i % N:Nat):Int):=by
 rw [tdivN,tmodN]
 have d:=Nat.div_le_self i N
 have m:i % N < N:=Nat.mod_lt _ (by omega)
 rcases hN with rfl | rfl | rfl
 ·rw [wr (n:=((i / 2:Nat):Int)) (by omega) (by omega),wr (n:=((i / 2:Nat):Int) * ((2:Nat):Int)) (by omega) (by omega),wr (n:=((i / 2:Nat):Int) * ((2:Nat):Int) + (kk:Int)) (by omega) (by omega),wr (n:=(kk:Int) * ((2:Nat):Int)) (by omega) (by omega),wr (n:=(kk:Int) * ((2:Nat):Int) + ((i % 2:Nat):Int)) (by omega) (by omega)]
  constructor <;> (push_cast; omega)
 ·rw [wr (n:=((i / 3:Nat):Int)) (by omega) (by omega),wr (n:=((i / 3:Nat):Int) * ((3:Nat):Int)) (by omega) (by omega),wr (n:=((i / 3:Nat):Int) * ((3:Nat):Int) + (kk:Int)) (by omega) (by omega),wr (n:=(kk:Int) * ((3:Nat):Int)) (by omega) (by omega),wr (n:=(kk:Int) * ((3:Nat):Int) + ((i % 3:Nat):Int)) (by omega) (by omega)]
  constructor <;> (push_cast; omega)
 ·rw [wr (n:=((i / 4:Nat):Int)) (by omega) (by omega),wr (n:=((i / 4:Nat):Int) * ((4:Nat):Int)) (by omega) (by omega),wr (n:=((i / 4:Nat):Int) * ((4:Nat):Int) + (kk:Int)) (by omega) (by omega),wr (n:=(kk:Int) * ((4:Nat):Int)) (by omega) (by omega),wr (n:=(kk:Int) * ((4:Nat):Int) + ((i % 4:Nat):Int)) (by omega) (by omega)]
  constructor <;> (push_cast; omega)
theorem peer_iff {N x i:Nat} (hN:N=2 ∨ N=3 ∨ N=4) (hx:x < N * N) (hi:i < N * N):(∃ u,u < N∧(x=i / N * N + u ∨ x=u * N + i % N)∧x ≠ i) ↔ peer N x i:=by
 unfold peer
 constructor
 ·rintro ⟨u,hu,h,hne⟩
  refine ⟨hne,?_⟩
  rcases hN with rfl | rfl | rfl <;> omega
 ·rintro ⟨hne,h⟩
  rcases h with h | h
  ·refine ⟨x % N,Nat.mod_lt _ (by omega),.inl ?_,hne⟩
   rcases hN with rfl | rfl | rfl <;> omega
  ·refine ⟨x / N,?_,.inr ?_,hne⟩
   ·rcases hN with rfl | rfl | rfl <;> omega
   ·rcases hN with rfl | rfl | rfl <;> omega
theorem iSing_l4 (rec:Rec) (k:Nat) (L0:Int→Sl→Sl→Int→Int→Hp→An) (L2:Int→Sl→Int→Int→Sl→Int→Int→Int→Int→Hp→An) {H0 Hb:Hp} {n x18 x19 x27 x28 m:Int} {i:Nat} {t xs x17:Sl} {l cs:List Int} (hm:M m) (hcl:cs.length ≤ 10) (hin:∀ c ∈ cs,0 ≤ c∧c < (l.length:Int)) (hl:l.length ≤ 100) (htb:t.blk < Hb.length) :
  ∀ (j q fuel:Nat) (H:Hp) (a:List Int) (P:Nat→Nat→Prop),q + j=cs.length→j < fuel→H0 <+: H→Own 1 Hb H xs (cs.map (.int .i64))→Own 1 H0 H t (a.map (.int .i64))→Sub l a P →
   ∃ H' a',impl_NarrowSingles.l4 rec k L0 L2 fuel n t i m x17 x18 x19 x27 x28 xs (cs.length:Int) q H=L2 n t i m x17 x18 x19 x27 (IntKind.i64.wrap (x28 + 1)) H'∧H0 <+: H'∧Own 1 H0 H' t (a'.map (.int .i64))∧Adv t.blk H H'∧Sub l a' (fun x v=>P x v ∨ ∃ u,q ≤ u∧u < cs.length∧(x:Int)=cs.getD u 0∧x ≠ i∧has m v=true):=by
 intro j
 induction j with
 | zero=>
  intro q fuel H a P hq hf hp hx ho hs
  obtain ⟨fuel,rfl⟩:=Zs fuel (by omega)
  refine ⟨H,a,?_,hp,ho,Adv.refl _ _,hs.congr fun x v hx=>⟨.inl,by rintro (h | ⟨u,h1,h2,_⟩); exact h; omega⟩⟩
  simp (disch:=omega) only [impl_NarrowSingles.l4,impl_NarrowSingles.j6,df,Zf]
 | succ j ih=>
  intro q fuel H a P hq hf hp hx ho hs
  obtain ⟨fuel,rfl⟩:=Zs fuel (by omega)
  have hq2:q < cs.length:=by omega
  obtain ⟨c0,c1⟩:=hin _ (mem_getD hq2)
  have hal:=hs.len
  have htl:=(own_reads ho).len
  have hxl:=(own_reads hx).len
  have hrx:=rdn (own_reads hx) hq2
  obtain ⟨c,hc⟩:=Int.eq_ofNat_of_zero_le c0
  rw [hc] at hrx c1
  by_cases e:c=i
  ·obtain ⟨H',a',b1,b2,b3,b4,b5⟩:=ih (q + 1) fuel H a P (by omega) (by omega) hp hx ho hs
   push_cast at b1
   refine ⟨H',a',?_,b2,b3,b4,b5.congr fun x v hxl=>?_⟩
   ·simp (disch:=omega) only [impl_NarrowSingles.l4,impl_NarrowSingles.j5,dt,nf,Za,Zt,Zf,Zn,Zo,hrx,wr (n:=(q:Int) + 1),b1]
   ·constructor
    ·rintro (h | ⟨u,h1,h2⟩)
     ·exact .inl h
     ·exact .inr ⟨u,by omega,h2⟩
    ·rintro (h | ⟨u,h1,h2,h3,h4,h5⟩)
     ·exact .inl h
     ·refine .inr ⟨u,?_,h2,h3,h4,h5⟩
      by_cases eu:u=q
      ·subst eu; rw [hc] at h3; omega
      ·omega
  ·obtain ⟨H1,a1,a2,a3,a4⟩:=own_set1 ho hp c (by omega) (mSub (a.getD c 0) m)
   obtain ⟨H',a',b1,b2,b3,b4,b5⟩:=ih (q + 1) fuel H1 _ _ (by omega) (by omega) a2 (a4.own htb hx) a3 (hs.step c (by omega) hm)
   push_cast at b1
   refine ⟨H',a',?_,b2,b3,a4.trans b4,b5.congr fun x v hxl=>?_⟩
   ·simp (disch:=omega) only [impl_NarrowSingles.l4,impl_NarrowSingles.j5,dt,nt,Za,Zt,Zn,Zo,hrx,rdn (own_reads ho),m_sub (hs.ms.at c) hm,a1,wr (n:=(q:Int) + 1),b1]
   ·constructor
    ·rintro ((h | ⟨h1,h2⟩) | ⟨u,h1,h2⟩)
     ·exact .inl h
     ·exact .inr ⟨q,Nat.le_refl _,hq2,by rw [hc,h1],by omega,h2⟩
     ·exact .inr ⟨u,by omega,h2⟩
    ·rintro (h | ⟨u,h1,h2,h3,h4,h5⟩)
     ·exact .inl (.inl h)
     ·by_cases eu:u=q
      ·subst eu; rw [hc] at h3; exact .inl (.inr ⟨by omega,h5⟩)
      ·exact .inr ⟨u,by omega,h2,h3,h4,h5⟩
theorem iSing_l2 (rec:Rec) (k:Nat) (hk:100 ≤ k) (L0:Int→Sl→Sl→Int→Int→Hp→An) {H0:Hp} {N i:Nat} {x18 m:Int} {t x17:Sl} {l:List Int} (hN:N=2 ∨ N=3 ∨ N=4) (hl:l.length=N * N) (hi:i < l.length) (hm:M m) :
  ∀ (j kk fuel:Nat) (H:Hp) (a:List Int) (P:Nat→Nat→Prop),kk + j=N→j < fuel→H0 <+: H→Own 1 H0 H t (a.map (.int .i64))→Sub l a P →
   ∃ H' a',impl_NarrowSingles.l2 rec k L0 fuel (N:Int) t i m x17 x18 i (N:Int) kk H=L0 (N:Int) t x17 x18 ((i:Int) + 1) H'∧H0 <+: H'∧Own 1 H0 H' t (a'.map (.int .i64))∧Sub l a' (fun x v=>P x v ∨ ∃ u,kk ≤ u∧u < N∧(x=i / N * N + u ∨ x=u * N + i % N)∧x ≠ i∧has m v=true):=by
 have hl16:l.length ≤ 16:=by rcases hN with rfl | rfl | rfl <;> omega
 intro j
 induction j with
 | zero=>
  intro kk fuel H a P hq hf hp ho hs
  obtain ⟨fuel,rfl⟩:=Zs fuel (by omega)
  refine ⟨H,a,?_,hp,ho,hs.congr fun x v hx=>⟨.inl,by rintro (h | ⟨u,h1,h2,_⟩); exact h; omega⟩⟩
  simp (disch:=omega) only [impl_NarrowSingles.l2,impl_NarrowSingles.j1,df,Zf,wr (n:=(i:Int) + 1)]
 | succ j ih=>
  intro kk fuel H a P hq hf hp ho hs
  obtain ⟨fuel,rfl⟩:=Zs fuel (by omega)
  obtain ⟨r1,r2⟩:=row_ok (i:=i) (kk:=kk) hN (by omega) (by omega)
  have q1:H <+: H ++ [some (Blk.mk false (([((i / N * N + kk:Nat):Int),((kk * N + i % N:Nat):Int)]:List Int).map (.int .i64)))]:=List.prefix_append _ _
  have hnew:=own_new 1 H (([((i / N * N + kk:Nat):Int),((kk * N + i % N:Nat):Int)]:List Int).map (.int .i64)) 2 rfl
  obtain ⟨H1,a1,b1,b2,b3,b4,b5⟩:=iSing_l4 rec k L0 (impl_NarrowSingles.l2 rec k L0 fuel) (n:=(N:Int)) (x17:=x17) (x18:=x18) (x19:=(i:Int)) (x27:=(N:Int)) (x28:=(kk:Int)) (i:=i) hm (cs:=[((i / N * N + kk:Nat):Int),((kk * N + i % N:Nat):Int)]) (l:=l) (by simp) (fun c hc=>by
   simp only [List.mem_cons,List.not_mem_nil,or_false] at hc
   rcases hN with rfl | rfl | rfl <;> omega) (by omega) (own_lt' ho) 2 0 k (H ++ [some (Blk.mk false (([((i / N * N + kk:Nat):Int),((kk * N + i % N:Nat):Int)]:List Int).map (.int .i64)))]) a P (by simp) (by omega) (hp.trans q1) hnew (own_pf ho q1) hs
  obtain ⟨H',a',d1,d2,d3,d4⟩:=ih (kk + 1) fuel H1 a1 _ (by omega) (by omega) b2 b3 b5
  push_cast at d1
  refine ⟨H',a',?_,d2,d3,d4.congr fun x v hxl=>?_⟩
  ·simp only [List.map_cons,List.map_nil,Zl,Zm,Int.natCast_zero] at b1
   simp (disch:=omega) only [impl_NarrowSingles.l2,dt,Zt,iN (show ¬ ((N:Int)=0) by omega),r1,r2]
   refine Eq.trans b1 ?_
   rw [wr (n:=(kk:Int) + 1) (by omega) (by omega)]
   exact d1
  ·constructor
   ·rintro ((h | ⟨u,h1,h2,h3,h4⟩) | ⟨u,h1,h2⟩)
    ·exact .inl h
    ·have:u=0 ∨ u=1:=by simp at h2; omega
     rcases this with rfl | rfl
     ·exact .inr ⟨kk,Nat.le_refl _,by omega,.inl (by simpa using Int.ofNat_inj.1 h3),h4⟩
     ·exact .inr ⟨kk,Nat.le_refl _,by omega,.inr (by simpa using Int.ofNat_inj.1 h3),h4⟩
    ·exact .inr ⟨u,by omega,h2⟩
   ·rintro (h | ⟨u,h1,h2,h3,h4⟩)
    ·exact .inl (.inl h)
    ·by_cases eu:u=kk
     ·subst eu
      rcases h3 with h3 | h3
      ·exact .inl (.inr ⟨0,by omega,by simp,by rw [h3]; rfl,h4⟩)
      ·exact .inl (.inr ⟨1,by omega,by simp,by rw [h3]; rfl,h4⟩)
     ·exact .inr ⟨u,by omega,h2,h3,h4⟩
theorem iSing_l0 {k:Nat} (hk:2000000 ≤ k) {H0:Hp} {ms t:Sl} {l:List Int} {N:Nat} {n:Int} (hN:N=2 ∨ N=3 ∨ N=4) (hnN:n=(N:Int)) (hm:Reads .i64 H0 ms l) (hv:masksOk n l=true) (hll:l.length=N * N) :
  ∀ (j i fuel:Nat) (H:Hp) (a:List Int) (P:Nat→Nat→Prop),i + j=l.length→j < fuel→H0 <+: H→Own 1 H0 H t (a.map (.int .i64))→Sub l a P →
   ∃ H' a',impl_NarrowSingles.l0 (callF PP orc k) k fuel (N:Int) t ms (l.length:Int) i H=some (.sl 1 t,H')∧H0 <+: H'∧Own 1 H0 H' t (a'.map (.int .i64))∧Sub l a' (fun x v=>P x v ∨ ∃ q,i ≤ q∧q < l.length∧peer N x q∧single (l.getD q 0)=true∧has (l.getD q 0) v=true):=by
 have hml:=hm.len
 have hM:=masks_M hv
 have hl16:l.length ≤ 16:=by rcases hN with rfl | rfl | rfl <;> omega
 intro j
 induction j with
 | zero=>
  intro i fuel H a P hi hf hp ho hs
  obtain ⟨fuel,rfl⟩:=Zs fuel (by omega)
  refine ⟨H,a,?_,hp,ho,hs.congr fun x v hx=>⟨.inl,by rintro (h | ⟨q,h1,h2,_⟩); exact h; omega⟩⟩
  simp (disch:=omega) only [impl_NarrowSingles.l0,impl_NarrowSingles.j3,df,Zf]
 | succ j ih=>
  intro i fuel H a P hi hf hp ho hs
  obtain ⟨fuel,rfl⟩:=Zs fuel (by omega)
  have hi2:i < l.length:=by omega
  have hrd:=pf_reads hp hm
  have h1:=onlyValue_ok hk (masks_at hv hi2) H
  obtain ⟨o1,o2⟩:=oneOf_single (masks_at hv hi2)
  cases es:single (l.getD i 0) with
  | true=>
   have h0:=(o2 es).2
   obtain ⟨H2,a',b1,b2,b3,b4⟩:=iSing_l2 (callF PP orc k) k (by omega) (impl_NarrowSingles.l0 (callF PP orc k) k fuel) (x17:=ms) (x18:=(l.length:Int)) hN hll hi2 (hM.at i) N 0 k H a P (by omega) (by omega) hp ho hs
   obtain ⟨H',a'',d1,d2,d3,d4⟩:=ih (i + 1) fuel H2 a' _ (by omega) (by omega) b2 b3 b4
   push_cast at d1
   refine ⟨H',a'',?_,d2,d3,d4.congr fun x v hx=>?_⟩
   ·simp only [Int.natCast_zero] at b1
    simp (disch:=omega) only [impl_NarrowSingles.l0,dt,bf,Za,Zt,Zf,Zn,Zo,AV.toI,if_true,rdn hrd,h1,b1,d1]
   ·constructor
    ·rintro ((h | ⟨u,_,h2,h3,h4,h5⟩) | ⟨q,h1,h2⟩)
     ·exact .inl h
     ·exact .inr ⟨i,Nat.le_refl _,hi2,(peer_iff hN (by omega) (by omega)).1 ⟨u,h2,h3,h4⟩,es,h5⟩
     ·exact .inr ⟨q,by omega,h2⟩
    ·rintro (h | ⟨q,h1,h2,h3,h4,h5⟩)
     ·exact .inl (.inl h)
     ·by_cases e:q=i
      ·subst e
       obtain ⟨u,u1,u2,u3⟩:=(peer_iff hN (by omega) (by omega)).2 h3
       exact .inl (.inr ⟨u,by omega,u1,u2,u3,h5⟩)
      ·exact .inr ⟨q,by omega,h2,h3,h4,h5⟩
  | false=>
   have h0:=o1.2 es
   obtain ⟨H',a'',d1,d2,d3,d4⟩:=ih (i + 1) fuel H a P (by omega) (by omega) hp ho hs
   push_cast at d1
   refine ⟨H',a'',?_,d2,d3,d4.congr fun x v hx=>?_⟩
   ·simp (disch:=omega) only [impl_NarrowSingles.l0,impl_NarrowSingles.j1,dt,bt,Za,Zt,Zf,Zn,Zo,AV.toI,if_true,rdn hrd,h1,wr (n:=(i:Int) + 1),d1]
   ·constructor
    ·rintro (h | ⟨q,h1,h2⟩)
     ·exact .inl h
     ·exact .inr ⟨q,by omega,h2⟩
    ·rintro (h | ⟨q,h1,h2,h3,h4,h5⟩)
     ·exact .inl h
     ·refine .inr ⟨q,?_,h2,h3,h4,h5⟩
      by_cases e:q=i
      ·subst e; rw [es] at h4; cases h4
      ·omega
theorem implNarrowSingles_ok {k:Nat} (hk:2000010 ≤ k) {H:Hp} {ms:Sl} {l:List Int} {n:Int} (hb:-1 ≤ n∧n ≤ 5) (hm:Reads .i64 H ms l) (hnn:ms.nil=false) (hl:l.length ≤ 1000) (hr:∀ m ∈ l,-2 ≤ m∧m ≤ 63) :
  ∃ t H',callF PP orc k impl_NarrowSingles.id [.sl 1 ms,.int .i64 n] H=some (.sl 1 t,H')∧H <+: H'∧NilOr H H' t (singlesV n l):=by
 obtain ⟨k,rfl⟩:=Zs k (by omega)
 rw [impl_NarrowSingles.call]
 have h1:=implMasksValid_ok (show 2000000 ≤ k by omega) hb hm hl hr
 have hml:=hm.len
 unfold singlesV
 cases hv:masksOk n l with
 | false=>
  rw [hv] at h1
  rw [iN (by simp)]
  exact ⟨Sl.none,H,by simp only [impl_NarrowSingles.f,dt,df,bt,bf,nt,nf,Za,Zy,Zx,Zt,Zf,Zn,Zz,Zi,Zo,wr,AV.toB,AV.toI,AV.toS,if_true,h1],(List.prefix_refl _),.inl ⟨rfl,rfl⟩⟩
 | true=>
  rw [hv] at h1
  rw [ip rfl]
  obtain ⟨l4,l16,lN,hN,n2,n4⟩:=masks_len hv
  have hM:=masks_M hv
  have h2:=Clone_own (show 1 ≤ k by omega) hm hnn hl
  have hnew:=own_new 1 H (l.map (.int .i64)) l.length (by simp)
  obtain ⟨H',a',b1,b2,b3,b4⟩:=iSing_l0 (show 2000000 ≤ k by omega) (N:=n.toNat) (by omega) hN hm hv lN l.length 0 k (H ++ [some (Blk.mk false (l.map (.int .i64)))]) l _ (by omega) (by omega) (List.prefix_append _ _) hnew (Sub.refl hM)
  rw [← hN] at b1
  have e:a'=subAll l (PS n.toNat l):=(b4.congr fun x v hx=>(show _ ↔ PS n.toNat l x v from ⟨by rintro (h | ⟨q,_,h⟩); exact h.elim; exact ⟨q,h⟩,fun ⟨q,h⟩=>.inr ⟨q,by omega,h⟩⟩)).eq hM
  subst e
  refine ⟨_,H',?_,b2,.inr b3⟩
  simp only [Int.natCast_zero] at b1
  simp only [impl_NarrowSingles.f,dt,df,bt,bf,nt,nf,Za,Zy,Zx,Zt,Zf,Zn,Zz,Zi,Zo,wr,AV.toB,AV.toI,AV.toS,if_true,h1,h2,hml,b1]
theorem iHid_l3 (rec:Rec) (k:Nat) (L0:Sl→Int→Sl→Int→Int→Hp→An) (L1:Sl→Int→Sl→Int→Int→Int→Int→Hp→An) {H:Hp} {ms t cs:Sl} {l cells:List Int} {n line x19 x20:Int} {v:Nat} (hm:Reads .i64 H ms l) (hc:Reads .i64 H cs cells) (hcl:cells.length ≤ 10) (hin:∀ c ∈ cells,0 ≤ c∧c.toNat < l.length∧c < (l.length:Int)) (hM:Ms l) (hv:1 ≤ v∧v ≤ 4) :
  ∀ (j q fuel:Nat) (many at':Int),q + j=cells.length→j < fuel→0 ≤ many→many ≤ q →
   ∃ at2,impl_NarrowHidden.l3 rec k L0 L1 fuel ms n t line v at' many x19 x20 cs (cells.length:Int) q H=impl_NarrowHidden.j6 rec k L0 L1 ms n t line v at2 (many + ((cells.drop q).filter fun c=>has (l.getD c.toNat 0) v).length) x19 x20 H∧(∀ c,many=0→(cells.drop q).filter (fun c=>has (l.getD c.toNat 0) v)=[c]→at2=c)∧((cells.drop q).filter (fun c=>has (l.getD c.toNat 0) v)=[]→at2=at'):=by
 have hml:=hm.len
 have hcs:=hc.len
 intro j
 induction j with
 | zero=>
  intro q fuel many at' hq hf h0 h1
  obtain ⟨fuel,rfl⟩:=Zs fuel (by omega)
  rw [List.drop_eq_nil_of_le (by omega)]
  refine ⟨at',?_,fun c _ h=>(by cases h),fun _=>rfl⟩
  simp (disch:=omega) only [impl_NarrowHidden.l3,dt,df,bt,bf,nt,nf,Za,Zy,Zx,Zt,Zf,Zn,Zz,Zi,Zo,wr,AV.toB,AV.toI,AV.toS,if_true,List.filter_nil,Zm,Int.natCast_zero,Int.add_zero]
 | succ j ih=>
  intro q fuel many at' hq hf h0 h1
  obtain ⟨fuel,rfl⟩:=Zs fuel (by omega)
  have hq2:q < cells.length:=by omega
  obtain ⟨c0,c1,c2⟩:=hin _ (mem_getD hq2)
  have hd:cells.drop q=cells.getD q 0 :: cells.drop (q + 1):=by
   rw [List.drop_eq_getElem_cons hq2,List.getD_eq_getElem?_getD,List.getElem?_eq_getElem hq2]; rfl
  rw [hd,List.filter_cons]
  have hb:=m_bit' (v:=(v:Int)) (hM.at (cells.getD q 0).toNat) (by omega) (by omega)
  rw [Int.toNat_natCast] at hb
  cases hh:has (l.getD (cells.getD q 0).toNat 0) v with
  | true=>
   rw [hh] at hb
   obtain ⟨at2,a1,a2,a3⟩:=ih (q + 1) fuel (many + 1) (cells.getD q 0) (by omega) (by omega) (by omega) (by omega)
   push_cast at a1
   rw [if_pos rfl,List.length_cons]
   refine ⟨at2,?_,fun c hm0 he=>?_,fun h=>by cases h⟩
   ·push_cast
    rw [show many + ((((cells.drop (q + 1)).filter fun c=>has (l.getD c.toNat 0) v).length:Int) + 1)=many + 1 + (((cells.drop (q + 1)).filter fun c=>has (l.getD c.toNat 0) v).length:Int) by omega,← a1]
    simp (disch:=omega) only [impl_NarrowHidden.l3,impl_NarrowHidden.j5,dt,df,Za,Zt,Zn,Zo,rdn hc,rdn hm,iN,hb,wr (n:=many + 1),wr (n:=(q:Int) + 1)]
   ·rw [List.cons.injEq] at he
    rw [a3 he.2]; exact he.1
  | false=>
   rw [hh] at hb
   obtain ⟨at2,a1,a2,a3⟩:=ih (q + 1) fuel many at' (by omega) (by omega) h0 (by omega)
   push_cast at a1
   rw [if_neg (by simp)]
   refine ⟨at2,?_,a2,a3⟩
   rw [← a1]
   simp (disch:=omega) only [impl_NarrowHidden.l3,impl_NarrowHidden.j5,dt,df,Za,Zt,Zf,Zn,Zo,rdn hc,rdn hm,iN,hb,wr (n:=(q:Int) + 1)]
theorem iHid_l1 {k:Nat} (hk:2000000 ≤ k) (L0:Sl→Int→Sl→Int→Int→Hp→An) {H0:Hp} {ms t:Sl} {l:List Int} {n x19:Int} {line:Nat} (hmk:masksOk n l=true) (hm:Reads .i64 H0 ms l) (hline:(line:Int) < 2 * n) :
  ∀ (j v fuel:Nat) (H:Hp) (a:List Int) (P:Nat→Nat→Prop),(v:Int) + j=n + 1→1 ≤ v→j < fuel→H0 <+: H→Own 1 H0 H t (a.map (.int .i64))→Sub l a P →
   ∃ H' a',impl_NarrowHidden.l1 (callF PP orc k) k L0 fuel ms n t line v x19 line H=L0 ms n t x19 ((line:Int) + 1) H'∧H0 <+: H'∧Own 1 H0 H' t (a'.map (.int .i64))∧Sub l a' (fun x w=>P x w ∨ ∃ u:Nat,v ≤ u∧(u:Int) ≤ n∧lineHas n l line u=[(x:Int)]∧w ≠ u):=by
 obtain ⟨l4,l16,lN,hN,n2,n4⟩:=masks_len hmk
 have hM:=masks_M hmk
 have hlc:=lineCells_len n line
 intro j
 induction j with
 | zero=>
  intro v fuel H a P hv hv1 hf hp ho hs
  obtain ⟨fuel,rfl⟩:=Zs fuel (by omega)
  refine ⟨H,a,?_,hp,ho,hs.congr fun x w hx=>⟨.inl,by rintro (h | ⟨u,h1,h2,_⟩); exact h; omega⟩⟩
  simp (disch:=omega) only [impl_NarrowHidden.l1,impl_NarrowHidden.j4,df,Zf,wr (n:=(line:Int) + 1)]
 | succ j ih=>
  intro v fuel H a P hv hv1 hf hp ho hs
  obtain ⟨fuel,rfl⟩:=Zs fuel (by omega)
  have hal:=hs.len
  have htl:t.len=a.length:=by have:=ho.len; simpa using this
  obtain ⟨cs,Hc,a1,a2,a3⟩:=implLineCells_own hk (n:=n) (line:=(line:Int)) ⟨by omega,by omega⟩ ⟨by omega,hline⟩ H
  have hpc:=hp.trans a2
  have hoc:=own_pf ho a2
  have hcl:=(own_reads a3).len
  obtain ⟨at2,b1,b2,b3⟩:=iHid_l3 (callF PP orc k) k L0 (impl_NarrowHidden.l1 (callF PP orc k) k L0 fuel) (t:=t) (n:=n) (line:=(line:Int)) (x19:=x19) (x20:=(line:Int)) (pf_reads hpc hm) (own_reads a3) (by omega) (fun c h=>line_in hmk h) hM (v:=v) ⟨hv1,by omega⟩ (lineCells n line).length 0 k 0 0 (by omega) (by omega) (by omega) (by omega)
  simp only [List.drop_zero,Int.natCast_zero,Int.zero_add] at b1 b2
  have hlh:(lineCells n line).filter (fun c=>has (l.getD c.toNat 0) v)=lineHas n l line v:=rfl
  rw [hlh] at b1 b2
  by_cases c:(lineHas n l line v).length=1
  ·obtain ⟨x0,hx0⟩:=List.length_eq_one_iff.1 c
   have hat:=b2 x0 (by first | rfl | trivial) hx0
   have hxm:x0 ∈ lineCells n line:=(List.mem_filter.1 (show x0 ∈ lineHas n l line v by rw [hx0]; simp)).1
   obtain ⟨q0,q1,q2⟩:=line_in hmk hxm
   have hpm:M (pw (v:Int)):=M.pw (by omega) (by omega)
   have h31:M (mSub 31 (pw (v:Int))):=M.sub ⟨by decide,by decide⟩ hpm
   obtain ⟨H1,d1,d2,d3,d4⟩:=own_set1 hoc hpc x0.toNat (by omega) (mAnd (a.getD x0.toNat 0) (pw (v:Int)))
   have hs1:=hs.step x0.toNat q1 h31
   rw [← and_sub (hs.ms.at _) hpm] at hs1
   obtain ⟨H',a',e1,e2,e3,e4⟩:=ih (v + 1) fuel H1 _ _ (by omega) (by omega) (by omega) d2 d3 hs1
   push_cast at e1
   refine ⟨H',a',?_,e2,e3,e4.congr5 hM fun x w hx hw=>?_⟩
   ·rw [c] at b1
    subst hat
    simp only [Int.natCast_one] at b1
    simp (disch:=omega) only [impl_NarrowHidden.l1,dt,Zt,a1,hcl,AV.toS,if_true,b1,impl_NarrowHidden.j6,bt,Za,Zo,rdn (own_reads hoc),iN,m_shl (v:=(v:Int)),m_and (hs.ms.at _) hpm,d1,impl_NarrowHidden.j7,wr (n:=(v:Int) + 1),e1]
   ·have hnot:Rp.has (mSub 31 (pw (v:Int))) w=true ↔ w ≠ v:=by
     rcases has_all w hw (pw (v:Int)) with e | e
     ·rw [e,has_pw (by omega)]
      simp only [Bool.not_eq_true',decide_eq_false_iff_not]
      constructor <;> (intro h e; apply h; omega)
     ·exact absurd hpm e
    constructor
    ·rintro ((h | ⟨h1,h2⟩) | ⟨u,h1,h2⟩)
     ·exact .inl h
     ·subst h1
      exact .inr ⟨v,Nat.le_refl _,by omega,by rw [hx0]; congr 1; omega,hnot.1 h2⟩
     ·exact .inr ⟨u,by omega,h2⟩
    ·rintro (h | ⟨u,h1,h2,h3,h4⟩)
     ·exact .inl (.inl h)
     ·by_cases e:u=v
      ·subst e
       rw [hx0,List.cons.injEq] at h3
       exact .inl (.inr ⟨by omega,hnot.2 h4⟩)
      ·exact .inr ⟨u,by omega,h2,h3,h4⟩
  ·obtain ⟨H',a',e1,e2,e3,e4⟩:=ih (v + 1) fuel Hc a P (by omega) (by omega) (by omega) hpc hoc hs
   push_cast at e1
   refine ⟨H',a',?_,e2,e3,e4.congr fun x w hx=>?_⟩
   ·simp (disch:=omega) only [impl_NarrowHidden.l1,dt,Zt,a1,hcl,AV.toS,if_true,Zo,b1,impl_NarrowHidden.j6,bf,Zf,impl_NarrowHidden.j7,wr (n:=(v:Int) + 1),e1]
   ·constructor
    ·rintro (h | ⟨u,h1,h2⟩)
     ·exact .inl h
     ·exact .inr ⟨u,by omega,h2⟩
    ·rintro (h | ⟨u,h1,h2,h3,h4⟩)
     ·exact .inl h
     ·refine .inr ⟨u,?_,h2,h3,h4⟩
      by_cases e:u=v
      ·subst e; rw [h3] at c; exact absurd rfl c
      ·omega
theorem iHid_l0 {k:Nat} (hk:2000000 ≤ k) {H0:Hp} {ms t:Sl} {l:List Int} {n:Int} (hmk:masksOk n l=true) (hm:Reads .i64 H0 ms l) :
  ∀ (j line fuel:Nat) (H:Hp) (a:List Int) (P:Nat→Nat→Prop),(line:Int) + j=2 * n→j < fuel→H0 <+: H→Own 1 H0 H t (a.map (.int .i64))→Sub l a P →
   ∃ H' a',impl_NarrowHidden.l0 (callF PP orc k) k fuel ms n t (2 * n) line H=some (.sl 1 t,H')∧H0 <+: H'∧Own 1 H0 H' t (a'.map (.int .i64))∧Sub l a' (fun x w=>P x w ∨ ∃ ln u:Nat,line ≤ ln∧(ln:Int) < 2 * n∧1 ≤ u∧(u:Int) ≤ n∧lineHas n l ln u=[(x:Int)]∧w ≠ u):=by
 obtain ⟨l4,l16,lN,hN,n2,n4⟩:=masks_len hmk
 intro j
 induction j with
 | zero=>
  intro line fuel H a P hl hf hp ho hs
  obtain ⟨fuel,rfl⟩:=Zs fuel (by omega)
  refine ⟨H,a,?_,hp,ho,hs.congr fun x w hx=>⟨.inl,by rintro (h | ⟨ln,u,h1,h2,_⟩); exact h; omega⟩⟩
  simp (disch:=omega) only [impl_NarrowHidden.l0,impl_NarrowHidden.j2,df,Zf]
 | succ j ih=>
  intro line fuel H a P hl hf hp ho hs
  obtain ⟨fuel,rfl⟩:=Zs fuel (by omega)
  obtain ⟨H2,a',b1,b2,b3,b4⟩:=iHid_l1 hk (impl_NarrowHidden.l0 (callF PP orc k) k fuel) (x19:=2 * n) hmk hm (line:=line) (by omega) n.toNat 1 k H a P (by omega) (by omega) (by omega) hp ho hs
  obtain ⟨H',a'',d1,d2,d3,d4⟩:=ih (line + 1) fuel H2 a' _ (by omega) (by omega) b2 b3 b4
  push_cast at d1
  refine ⟨H',a'',?_,d2,d3,d4.congr fun x w hx=>?_⟩
  ·simp only [Int.natCast_one] at b1
   simp (disch:=omega) only [impl_NarrowHidden.l0,dt,Zt,b1,d1]
  ·constructor
   ·rintro ((h | ⟨u,h1,h2,h3,h4⟩) | ⟨ln,u,h1,h2⟩)
    ·exact .inl h
    ·exact .inr ⟨line,u,Nat.le_refl _,by omega,h1,h2,h3,h4⟩
    ·exact .inr ⟨ln,u,by omega,h2⟩
   ·rintro (h | ⟨ln,u,h1,h2,h3,h4,h5,h6⟩)
    ·exact .inl (.inl h)
    ·by_cases e:ln=line
     ·subst e; exact .inl (.inr ⟨u,h3,h4,h5,h6⟩)
     ·exact .inr ⟨ln,u,by omega,h2,h3,h4,h5,h6⟩
theorem implNarrowHidden_ok {k:Nat} (hk:2000010 ≤ k) {H:Hp} {ms:Sl} {l:List Int} {n:Int} (hb:-1 ≤ n∧n ≤ 5) (hm:Reads .i64 H ms l) (hnn:ms.nil=false) (hl:l.length ≤ 1000) (hr:∀ m ∈ l,-2 ≤ m∧m ≤ 63) :
  ∃ t H',callF PP orc k impl_NarrowHidden.id [.sl 1 ms,.int .i64 n] H=some (.sl 1 t,H')∧H <+: H'∧NilOr H H' t (hiddenV n l):=by
 obtain ⟨k,rfl⟩:=Zs k (by omega)
 rw [impl_NarrowHidden.call]
 have h1:=implMasksValid_ok (show 2000000 ≤ k by omega) hb hm hl hr
 have hml:=hm.len
 unfold hiddenV
 cases hv:masksOk n l with
 | false=>
  rw [hv] at h1
  rw [iN (by simp)]
  exact ⟨Sl.none,H,by simp only [impl_NarrowHidden.f,dt,df,bt,bf,nt,nf,Za,Zy,Zx,Zt,Zf,Zn,Zz,Zi,Zo,wr,AV.toB,AV.toI,AV.toS,if_true,h1],(List.prefix_refl _),.inl ⟨rfl,rfl⟩⟩
 | true=>
  rw [hv] at h1
  rw [ip rfl]
  obtain ⟨l4,l16,lN,hN,n2,n4⟩:=masks_len hv
  have hM:=masks_M hv
  have h2:=Clone_own (show 1 ≤ k by omega) hm hnn hl
  have hnew:=own_new 1 H (l.map (.int .i64)) l.length (by simp)
  obtain ⟨H',a',b1,b2,b3,b4⟩:=iHid_l0 (show 2000000 ≤ k by omega) hv hm (2 * n).toNat 0 k (H ++ [some (Blk.mk false (l.map (.int .i64)))]) l _ (by omega) (by omega) (List.prefix_append _ _) hnew (Sub.refl hM)
  have e:a'=subAll l (PH n l):=(b4.congr fun x w hx=>(show _ ↔ PH n l x w from ⟨by rintro (h | ⟨ln,u,_,h⟩); exact h.elim; exact ⟨ln,u,h⟩,fun ⟨ln,u,h⟩=>.inr ⟨ln,u,by omega,h⟩⟩)).eq hM
  subst e
  refine ⟨_,H',?_,b2,.inr b3⟩
  simp only [Int.natCast_zero] at b1
  simp (disch:=omega) only [impl_NarrowHidden.f,dt,df,Zy,Zf,AV.toB,AV.toS,if_true,Zo,h1,h2,wr (n:=2 * n),b1]
def peerB (n line a b:Nat):Bool:=!(decide (2 ≤ n) && (decide (line < 2 * n) && (decide (a < n) && (decide (b < n) && !(a == b))))) || (!(lc n line a == lc n line b) && (lc n line a / n == lc n line b / n || lc n line a % n == lc n line b % n))
theorem tab_peer:∀ n:Nat,n < 5→∀ line:Nat,line < 8→∀ a:Nat,a < 4→∀ b:Nat,b < 4→peerB n line a b=true:=by decide +kernel
theorem lc_peer {n:Int} (hn:2 ≤ n∧n ≤ 4) {line a b:Nat} (hl:(line:Int) < 2 * n) (ha:(a:Int) < n) (hb:(b:Int) < n) (hab:a ≠ b):peer n.toNat (lc n line a) (lc n line b):=by
 have:=tab_peer n.toNat (by omega) line (by omega) a (by omega) b (by omega)
 unfold peerB at this
 rw [decide_eq_true (show 2 ≤ n.toNat by omega),decide_eq_true (show line < 2 * n.toNat by omega),decide_eq_true (show a < n.toNat by omega),decide_eq_true (show b < n.toNat by omega),show (a == b)=false by simpa using hab,show ((n.toNat:Nat):Int)=n by omega] at this
 simp only [Zx,Za,Zy,Bool.false_or,Bool.and_eq_true,Bool.not_eq_true',beq_eq_false_iff_ne,Bool.or_eq_true,beq_iff_eq] at this
 exact this
theorem PQ2_symm {n:Int} {l:List Int} {line i j x w:Nat} (h:PQ2 n l line i j x w):PQ2 n l line j i x w:=by
 obtain ⟨h1,h2,u,h3,h4,h5,h6,h7⟩:=h
 exact ⟨h1.symm,by rw [← h1]; exact h2,u,h3,h5,h4,h6,by rw [← h1]; exact h7⟩
theorem iPairs_l13 (rec:Rec) (k:Nat) (L0:Sl→Int→Sl→Int→Int→Hp→An) (L1:Sl→Int→Sl→Sl→Int→Int→Sl→Int→Int→Hp→An) (L5:Sl→Int→Sl→Sl→Int→Int→Int→Sl→Int→Int→Sl→Int→Int→Hp→An) {H0 Hb:Hp} {ms t cs x28 x38:Sl} {l:List Int} {n x21 x22 x29 x30 x39 x40:Int} {line i jj:Nat} (hmk:masksOk n l=true) (hm:Reads .i64 H0 ms l) (hline:(line:Int) < 2 * n) (htb:t.blk < Hb.length) (hi:(i:Int) < n) (hj:(jj:Int) < n) :
  ∀ (j q fuel:Nat) (H:Hp) (a:List Int) (P:Nat→Nat→Prop),(q:Int) + j=n→j < fuel→H0 <+: H→Own 1 Hb H cs ((lineCells n line).map (.int .i64))→Own 1 H0 H t (a.map (.int .i64))→Sub l a P →
   ∃ H' a',impl_NarrowPairs.l13 rec k L0 L1 L5 fuel ms n t cs (lc n line i:Int) (lc n line jj:Int) x21 x22 x28 x29 x30 x38 x39 x40 cs n q H=L5 ms n t cs (lc n line i:Int) x21 x22 x28 x29 x30 x38 x39 (IntKind.i64.wrap (x40 + 1)) H'∧H0 <+: H'∧Own 1 H0 H' t (a'.map (.int .i64))∧Adv t.blk H H'∧Sub l a' (fun x w=>P x w ∨ ∃ u:Nat,q ≤ u∧(u:Int) < n∧u ≠ i∧u ≠ jj∧x=lc n line u∧has (l.getD (lc n line i) 0) w=true):=by
 obtain ⟨l4,l16,lN,hN,n2,n4⟩:=masks_len hmk
 have hll:=line_len hmk hline
 have hn:2 ≤ n∧n ≤ 4:=(masksOk_iff.1 hmk).1
 have hsz:=(masksOk_iff.1 hmk).2.2
 have hM:=masks_M hmk
 have hml:=hm.len
 intro j
 induction j with
 | zero=>
  intro q fuel H a P hq hf hp hc ho hs
  obtain ⟨fuel,rfl⟩:=Zs fuel (by omega)
  refine ⟨H,a,?_,hp,ho,Adv.refl _ _,hs.congr fun x w hx=>⟨.inl,by rintro (h | ⟨u,h1,h2,_⟩); exact h; omega⟩⟩
  simp (disch:=omega) only [impl_NarrowPairs.l13,impl_NarrowPairs.j11,df,Zf]
 | succ j ih=>
  intro q fuel H a P hq hf hp hc ho hs
  obtain ⟨fuel,rfl⟩:=Zs fuel (by omega)
  have hal:=hs.len
  have htl:t.len=a.length:=by have:=ho.len; simpa using this
  have hcl:=(own_reads hc).len
  have cq:=lc_lt hn hline (show (q:Int) < n by omega)
  have ci:=lc_lt hn hline hi
  have hrq:=rdn (own_reads hc) (i:=q) (by omega)
  rw [← cq.2] at hrq
  have hrm:=pf_reads hp hm
  have inj:∀ u:Nat,(u:Int) < n→u ≠ q→lc n line q ≠ lc n line u:=fun u hu hne=>(lc_peer hn hline (show (q:Int) < n by omega) hu (fun e=>hne e.symm)).1
  by_cases c:q ≠ i∧q ≠ jj
  ·have n1:=inj i hi (fun e=>c.1 e.symm)
   have n2:=inj jj hj (fun e=>c.2 e.symm)
   obtain ⟨H1,d1,d2,d3,d4⟩:=own_set1 ho hp (lc n line q) (by omega) (mSub (a.getD (lc n line q) 0) (l.getD (lc n line i) 0))
   obtain ⟨H',a',e1,e2,e3,e4,e5⟩:=ih (q + 1) fuel H1 _ _ (by omega) (by omega) d2 (d4.own htb hc) d3 (hs.step _ (by omega) (hM.at (lc n line i)))
   push_cast at e1
   refine ⟨H',a',?_,e2,e3,d4.trans e4,e5.congr fun x w hx=>?_⟩
   ·simp (disch:=omega) only [impl_NarrowPairs.l13,impl_NarrowPairs.j14,impl_NarrowPairs.j15,impl_NarrowPairs.j16,impl_NarrowPairs.j18,impl_NarrowPairs.j19,dt,nt,Za,Zt,Zn,Zo,hrq,rdn (own_reads ho),rdn hrm,m_sub (hs.ms.at _) (hM.at _),d1,wr (n:=(q:Int) + 1),e1]
   ·constructor
    ·rintro ((h | ⟨h1,h2⟩) | ⟨u,h1,h2⟩)
     ·exact .inl h
     ·exact .inr ⟨q,Nat.le_refl _,by omega,c.1,c.2,h1,h2⟩
     ·exact .inr ⟨u,by omega,h2⟩
    ·rintro (h | ⟨u,h1,h2,h3,h4,h5,h6⟩)
     ·exact .inl (.inl h)
     ·by_cases e:u=q
      ·subst e; exact .inl (.inr ⟨h5,h6⟩)
      ·exact .inr ⟨u,by omega,h2,h3,h4,h5,h6⟩
  ·obtain ⟨H',a',e1,e2,e3,e4,e5⟩:=ih (q + 1) fuel H a P (by omega) (by omega) hp hc ho hs
   push_cast at e1
   refine ⟨H',a',?_,e2,e3,e4,e5.congr fun x w hx=>?_⟩
   ·by_cases c1':q=i
    ·subst c1'
     simp (disch:=omega) only [impl_NarrowPairs.l13,impl_NarrowPairs.j14,impl_NarrowPairs.j15,impl_NarrowPairs.j17,impl_NarrowPairs.j18,impl_NarrowPairs.j19,dt,nf,Za,Zt,Zf,Zn,Zo,hrq,wr (n:=(q:Int) + 1),e1]
    ·have hqj:q=jj:=by omega
     subst hqj
     have n1:=inj i hi (fun e=>c1' e.symm)
     simp (disch:=omega) only [impl_NarrowPairs.l13,impl_NarrowPairs.j14,impl_NarrowPairs.j15,impl_NarrowPairs.j16,impl_NarrowPairs.j18,impl_NarrowPairs.j19,dt,nt,nf,Za,Zt,Zf,Zn,Zo,hrq,wr (n:=(q:Int) + 1),e1]
   ·constructor
    ·rintro (h | ⟨u,h1,h2⟩)
     ·exact .inl h
     ·exact .inr ⟨u,by omega,h2⟩
    ·rintro (h | ⟨u,h1,h2,h3,h4,h5,h6⟩)
     ·exact .inl h
     ·refine .inr ⟨u,?_,h2,h3,h4,h5,h6⟩
      by_cases e:u=q
      ·subst e; exact absurd ⟨h3,h4⟩ c
      ·omega
theorem iPairs_l5 {k:Nat} (hk:2000000 ≤ k) (L0:Sl→Int→Sl→Int→Int→Hp→An) (L1:Sl→Int→Sl→Sl→Int→Int→Sl→Int→Int→Hp→An) {H0 Hb:Hp} {ms t cs x28:Sl} {l:List Int} {n x21 x22 x29 x30:Int} {line i:Nat} (hmk:masksOk n l=true) (hm:Reads .i64 H0 ms l) (hline:(line:Int) < 2 * n) (htb:t.blk < Hb.length) (hi:(i:Int) < n) :
  ∀ (j p fuel:Nat) (H:Hp) (a:List Int) (P:Nat→Nat→Prop),((i + 1 + p:Nat):Int) + j=n→j < fuel→H0 <+: H→Own 1 Hb H cs ((lineCells n line).map (.int .i64))→Own 1 H0 H t (a.map (.int .i64))→Sub l a P →
   ∃ H' a',impl_NarrowPairs.l5 (callF Ab.PP orc k) k L0 L1 fuel ms n t cs (lc n line i:Int) x21 x22 x28 x29 x30 (Sl.mk cs.nil cs.blk (cs.off + (i + 1)) (n.toNat - (i + 1))) ((n.toNat - (i + 1):Nat):Int) p H=L1 ms n t cs x21 x22 x28 x29 (IntKind.i64.wrap (x30 + 1)) H'∧H0 <+: H'∧Own 1 H0 H' t (a'.map (.int .i64))∧Own 1 Hb H' cs ((lineCells n line).map (.int .i64))∧Sub l a' (fun x w=>P x w ∨ ∃ u:Nat,i + 1 + p ≤ u∧(u:Int) < n∧PQ2 n l line i u x w):=by
 obtain ⟨l4,l16,lN,hN,n2,n4⟩:=masks_len hmk
 have hll:=line_len hmk hline
 have hn:2 ≤ n∧n ≤ 4:=(masksOk_iff.1 hmk).1
 have hsz:=(masksOk_iff.1 hmk).2.2
 have hml:=hm.len
 intro j
 induction j with
 | zero=>
  intro p fuel H a P hq hf hp hc ho hs
  obtain ⟨fuel,rfl⟩:=Zs fuel (by omega)
  refine ⟨H,a,?_,hp,ho,hc,hs.congr fun x w hx=>⟨.inl,by rintro (h | ⟨u,h1,h2,_⟩); exact h; omega⟩⟩
  simp (disch:=omega) only [impl_NarrowPairs.l5,impl_NarrowPairs.j7,df,Zf]
 | succ j ih=>
  intro p fuel H a P hq hf hp hc ho hs
  obtain ⟨fuel,rfl⟩:=Zs fuel (by omega)
  have hcl:=(own_reads hc).len
  have ci:=lc_lt hn hline hi
  have cb:=lc_lt hn hline (show ((i + 1 + p:Nat):Int) < n by omega)
  have hrs:=reads_from (own_reads hc) (i + 1) (by omega)
  rw [hll] at hrs
  have hrp:=rdn hrs (i:=p) (by simp; omega)
  have edr:((lineCells n line).drop (i + 1)).getD p 0=(lineCells n line).getD (i + 1 + p) 0:=by
   rw [List.getD_eq_getElem?_getD,List.getElem?_drop,← List.getD_eq_getElem?_getD]
  rw [edr,← cb.2] at hrp
  have hrm:=pf_reads hp hm
  have hi2:lc n line i < l.length:=by omega
  have hb2:lc n line (i + 1 + p) < l.length:=by omega
  have h1:=OnesCount_ok (show 2 ≤ k by omega) (masks_at hmk hi2) H
  by_cases ce:l.getD (lc n line i) 0=l.getD (lc n line (i + 1 + p)) 0
  ·by_cases c3:cntM (l.getD (lc n line i) 0)=2
   ·obtain ⟨H2,a',b1,b2,b3,b4,b5⟩:=iPairs_l13 (callF Ab.PP orc k) k L0 L1 (impl_NarrowPairs.l5 (callF Ab.PP orc k) k L0 L1 fuel) (x21:=x21) (x22:=x22) (x28:=x28) (x29:=x29) (x30:=x30) (x38:=Sl.mk cs.nil cs.blk (cs.off + (i + 1)) (n.toNat - (i + 1))) (x39:=((n.toNat - (i + 1):Nat):Int)) (x40:=(p:Int)) hmk hm hline htb hi (jj:=i + 1 + p) (by omega) n.toNat 0 k H a P (by omega) (by omega) hp hc ho hs
    have hc2:=b4.own htb hc
    obtain ⟨H',a'',d1,d2,d3,d4,d5⟩:=ih (p + 1) fuel H2 a' _ (by omega) (by omega) b2 hc2 b3 b5
    push_cast at d1
    refine ⟨H',a'',?_,d2,d3,d4,d5.congr fun x w hx=>?_⟩
    ·simp only [Int.natCast_zero] at b1
     rw [← hN] at *
     have hlen:(cs.len:Int)=n:=by omega
     have hc2':((cntM (l.getD (lc n line i) 0):Nat):Int)=2:=by omega
     simp (disch:=omega) only [impl_NarrowPairs.l5,impl_NarrowPairs.j6,impl_NarrowPairs.j9,impl_NarrowPairs.j10,impl_NarrowPairs.j12,dt,nf,Za,Zt,Zf,Zn,Zo,AV.toI,if_true,hrp,rdn hrm,h1,hc2',hlen,b1,wr (n:=(p:Int) + 1),d1]
    ·have ht:two (l.getD (lc n line i) 0)=true:=by unfold two; unfold cntM at c3; rw [c3]; rfl
     constructor
     ·rintro ((h | ⟨u,h1,h2,h3,h4,h5,h6⟩) | ⟨u,h1,h2⟩)
      ·exact .inl h
      ·exact .inr ⟨i + 1 + p,Nat.le_refl _,by omega,ce,ht,u,h2,h3,h4,h5,h6⟩
      ·exact .inr ⟨u,by omega,h2⟩
     ·rintro (h | ⟨u,h1,h2,h3,h4,z,h5,h6,h7,h8,h9⟩)
      ·exact .inl (.inl h)
      ·by_cases e:u=i + 1 + p
       ·subst e; exact .inl (.inr ⟨z,by omega,h5,h6,h7,h8,h9⟩)
       ·exact .inr ⟨u,by omega,h2,h3,h4,z,h5,h6,h7,h8,h9⟩
   ·obtain ⟨H',a'',d1,d2,d3,d4,d5⟩:=ih (p + 1) fuel H a P (by omega) (by omega) hp hc ho hs
    push_cast at d1
    refine ⟨H',a'',?_,d2,d3,d4,d5.congr fun x w hx=>?_⟩
    ·have hc2':((cntM (l.getD (lc n line i) 0):Nat):Int) ≠ 2:=by omega
     simp (disch:=omega) only [impl_NarrowPairs.l5,impl_NarrowPairs.j6,impl_NarrowPairs.j9,impl_NarrowPairs.j10,impl_NarrowPairs.j11,dt,nf,nt hc2',Za,Zt,Zf,Zn,Zo,AV.toI,if_true,hrp,rdn hrm,h1,wr (n:=(p:Int) + 1),d1]
    ·have ht:¬ two (l.getD (lc n line i) 0)=true:=by unfold two; rw [beq_iff_eq]; exact c3
     constructor
     ·rintro (h | ⟨u,h1,h2⟩)
      ·exact .inl h
      ·exact .inr ⟨u,by omega,h2⟩
     ·rintro (h | ⟨u,h1,h2,h3,h4,h5⟩)
      ·exact .inl h
      ·exact absurd h4 ht
  ·obtain ⟨H',a'',d1,d2,d3,d4,d5⟩:=ih (p + 1) fuel H a P (by omega) (by omega) hp hc ho hs
   push_cast at d1
   refine ⟨H',a'',?_,d2,d3,d4,d5.congr fun x w hx=>?_⟩
   ·simp (disch:=omega) only [impl_NarrowPairs.l5,impl_NarrowPairs.j6,impl_NarrowPairs.j8,impl_NarrowPairs.j10,impl_NarrowPairs.j11,dt,nt ce,Za,Zt,Zf,Zn,Zo,hrp,rdn hrm,wr (n:=(p:Int) + 1),d1]
   ·constructor
    ·rintro (h | ⟨u,h1,h2⟩)
     ·exact .inl h
     ·exact .inr ⟨u,by omega,h2⟩
    ·rintro (h | ⟨u,h1,h2,h3,h4⟩)
     ·exact .inl h
     ·refine .inr ⟨u,?_,h2,h3,h4⟩
      by_cases e:u=i + 1 + p
      ·subst e; exact absurd h3 ce
      ·omega
theorem iPairs_l1 {k:Nat} (hk:2000000 ≤ k) (L0:Sl→Int→Sl→Int→Int→Hp→An) {H0 Hb:Hp} {ms t cs:Sl} {l:List Int} {n x21 x22:Int} {line:Nat} (hmk:masksOk n l=true) (hm:Reads .i64 H0 ms l) (hline:(line:Int) < 2 * n) (htb:t.blk < Hb.length) :
  ∀ (j i fuel:Nat) (H:Hp) (a:List Int) (P:Nat→Nat→Prop),(i:Int) + j=n→j < fuel→H0 <+: H→Own 1 Hb H cs ((lineCells n line).map (.int .i64))→Own 1 H0 H t (a.map (.int .i64))→Sub l a P →
   ∃ H' a',impl_NarrowPairs.l1 (callF Ab.PP orc k) k L0 fuel ms n t cs x21 x22 cs n i H=L0 ms n t x21 (IntKind.i64.wrap (x22 + 1)) H'∧H0 <+: H'∧Own 1 H0 H' t (a'.map (.int .i64))∧Sub l a' (fun x w=>P x w ∨ ∃ z u:Nat,i ≤ z∧z < u∧(u:Int) < n∧PQ2 n l line z u x w):=by
 obtain ⟨l4,l16,lN,hN,n2,n4⟩:=masks_len hmk
 have hll:=line_len hmk hline
 have hn:2 ≤ n∧n ≤ 4:=(masksOk_iff.1 hmk).1
 intro j
 induction j with
 | zero=>
  intro i fuel H a P hq hf hp hc ho hs
  obtain ⟨fuel,rfl⟩:=Zs fuel (by omega)
  refine ⟨H,a,?_,hp,ho,hs.congr fun x w hx=>⟨.inl,by rintro (h | ⟨z,u,h1,h2,h3,_⟩); exact h; omega⟩⟩
  simp (disch:=omega) only [impl_NarrowPairs.l1,impl_NarrowPairs.j4,df,Zf]
 | succ j ih=>
  intro i fuel H a P hq hf hp hc ho hs
  obtain ⟨fuel,rfl⟩:=Zs fuel (by omega)
  have hi:(i:Int) < n:=by omega
  have hcl:=(own_reads hc).len
  have ci:=lc_lt hn hline hi
  have hrq:=rdn (own_reads hc) (i:=i) (by omega)
  rw [← ci.2] at hrq
  obtain ⟨H1,a',b1,b2,b3,b4,b5⟩:=iPairs_l5 hk L0 (impl_NarrowPairs.l1 (callF Ab.PP orc k) k L0 fuel) (x21:=x21) (x22:=x22) (x28:=cs) (x29:=n) (x30:=(i:Int)) hmk hm hline htb hi (n.toNat - (i + 1)) 0 k H a P (by omega) (by omega) hp hc ho hs
  obtain ⟨H',a'',d1,d2,d3,d4⟩:=ih (i + 1) fuel H1 a' _ (by omega) (by omega) b2 b4 b3 b5
  push_cast at d1
  refine ⟨H',a'',?_,d2,d3,d4.congr fun x w hx=>?_⟩
  ·have hlen:(cs.len:Int)=n:=by omega
   have w1:IntKind.i64.wrap ((i:Int) + 1)=(i:Int) + 1:=wr (by omega) (by omega)
   have esl:(Sl.mk cs.nil cs.blk (cs.off + ((i:Int) + 1).toNat * 1) (n - ((i:Int) + 1)).toNat)=Sl.mk cs.nil cs.blk (cs.off + (i + 1)) (n.toNat - (i + 1)):=by
    congr 1 <;> omega
   have hq:((0:Int) ≤ (i:Int) + 1∧(i:Int) + 1 ≤ n∧n ≤ n∧True)∧0 < 1∧True:=⟨⟨by omega,by omega,by omega,trivial⟩,by omega,trivial⟩
   simp only [Int.natCast_zero] at b1
   simp (disch:=omega) only [impl_NarrowPairs.l1,impl_NarrowPairs.j3,dt,Za,Zt,Zn,Zo,hrq,hlen,w1,esl,ip hq]
   rw [show (n - ((i:Int) + 1)).toNat=n.toNat - (i + 1) by omega,b1,w1,d1]
  ·constructor
   ·rintro ((h | ⟨u,h1,h2,h3⟩) | ⟨z,u,h1,h2⟩)
    ·exact .inl h
    ·exact .inr ⟨i,u,Nat.le_refl _,by omega,h2,h3⟩
    ·exact .inr ⟨z,u,by omega,h2⟩
   ·rintro (h | ⟨z,u,h1,h2,h3,h4⟩)
    ·exact .inl (.inl h)
    ·by_cases e:z=i
     ·subst e; exact .inl (.inr ⟨u,by omega,h3,h4⟩)
     ·exact .inr ⟨z,u,by omega,h2,h3,h4⟩
theorem iPairs_l0 {k:Nat} (hk:2000000 ≤ k) {H0:Hp} {ms t:Sl} {l:List Int} {n:Int} (hmk:masksOk n l=true) (hm:Reads .i64 H0 ms l) :
  ∀ (j line fuel:Nat) (H:Hp) (a:List Int) (P:Nat→Nat→Prop),(line:Int) + j=2 * n→j < fuel→H0 <+: H→Own 1 H0 H t (a.map (.int .i64))→Sub l a P →
   ∃ H' a',impl_NarrowPairs.l0 (callF Ab.PP orc k) k fuel ms n t (2 * n) line H=some (.sl 1 t,H')∧H0 <+: H'∧Own 1 H0 H' t (a'.map (.int .i64))∧Sub l a' (fun x w=>P x w ∨ ∃ ln z u:Nat,line ≤ ln∧(ln:Int) < 2 * n∧z < u∧(u:Int) < n∧PQ2 n l ln z u x w):=by
 obtain ⟨l4,l16,lN,hN,n2,n4⟩:=masks_len hmk
 have hn:2 ≤ n∧n ≤ 4:=(masksOk_iff.1 hmk).1
 intro j
 induction j with
 | zero=>
  intro line fuel H a P hl hf hp ho hs
  obtain ⟨fuel,rfl⟩:=Zs fuel (by omega)
  refine ⟨H,a,?_,hp,ho,hs.congr fun x w hx=>⟨.inl,by rintro (h | ⟨ln,z,u,h1,h2,_⟩); exact h; omega⟩⟩
  simp (disch:=omega) only [impl_NarrowPairs.l0,impl_NarrowPairs.j2,df,Zf]
 | succ j ih=>
  intro line fuel H a P hl hf hp ho hs
  obtain ⟨fuel,rfl⟩:=Zs fuel (by omega)
  have hline:(line:Int) < 2 * n:=by omega
  obtain ⟨cs,H1,a1,a2,a3⟩:=implLineCells_own hk hn (line:=(line:Int)) ⟨by omega,hline⟩ H
  have hcl:=(own_reads a3).len
  have hll:=line_len hmk hline
  obtain ⟨H2,a',b1,b2,b3,b4⟩:=iPairs_l1 hk (impl_NarrowPairs.l0 (callF Ab.PP orc k) k fuel) (x21:=2 * n) (x22:=(line:Int)) hmk hm hline (own_lt' ho) n.toNat 0 k H1 a P (by omega) (by omega) (hp.trans a2) a3 (own_pf ho a2) hs
  obtain ⟨H',a'',d1,d2,d3,d4⟩:=ih (line + 1) fuel H2 a' _ (by omega) (by omega) b2 b3 b4
  push_cast at d1
  refine ⟨H',a'',?_,d2,d3,d4.congr fun x w hx=>?_⟩
  ·simp only [Int.natCast_zero] at b1
   have hlen:(cs.len:Int)=n:=by omega
   simp (disch:=omega) only [impl_NarrowPairs.l0,dt,Zt,Zo,AV.toS,if_true,a1,hlen,b1,wr (n:=(line:Int) + 1),d1]
  ·constructor
   ·rintro ((h | ⟨z,u,h1,h2,h3,h4⟩) | ⟨ln,z,u,h1,h2⟩)
    ·exact .inl h
    ·exact .inr ⟨line,z,u,Nat.le_refl _,by omega,h2,h3,h4⟩
    ·exact .inr ⟨ln,z,u,by omega,h2⟩
   ·rintro (h | ⟨ln,z,u,h1,h2,h3,h4,h5⟩)
    ·exact .inl (.inl h)
    ·by_cases e:ln=line
     ·subst e; exact .inl (.inr ⟨z,u,by omega,h3,h4,h5⟩)
     ·exact .inr ⟨ln,z,u,by omega,h2,h3,h4,h5⟩
theorem implNarrowPairs_ok {k:Nat} (hk:2000010 ≤ k) {H:Hp} {ms:Sl} {l:List Int} {n:Int} (hb:-1 ≤ n∧n ≤ 5) (hm:Reads .i64 H ms l) (hnn:ms.nil=false) (hl:l.length ≤ 1000) (hr:∀ m ∈ l,-2 ≤ m∧m ≤ 63) :
  ∃ t H',callF Ab.PP orc k impl_NarrowPairs.id [.sl 1 ms,.int .i64 n] H=some (.sl 1 t,H')∧H <+: H'∧NilOr H H' t (pairsV n l):=by
 obtain ⟨k,rfl⟩:=Zs k (by omega)
 rw [impl_NarrowPairs.call]
 have h1:=implMasksValid_ok (show 2000000 ≤ k by omega) hb hm hl hr
 have hml:=hm.len
 unfold pairsV
 cases hv:masksOk n l with
 | false=>
  rw [hv] at h1
  rw [iN (by simp)]
  exact ⟨Sl.none,H,by simp only [impl_NarrowPairs.f,dt,df,bt,bf,nt,nf,Za,Zy,Zx,Zt,Zf,Zn,Zz,Zi,Zo,wr,AV.toB,AV.toI,AV.toS,if_true,h1],(List.prefix_refl _),.inl ⟨rfl,rfl⟩⟩
 | true=>
  rw [hv] at h1
  rw [ip rfl]
  obtain ⟨l4,l16,lN,hN,n2,n4⟩:=masks_len hv
  have hM:=masks_M hv
  have h2:=Clone_own (show 1 ≤ k by omega) hm hnn hl
  have hnew:=own_new 1 H (l.map (.int .i64)) l.length (by simp)
  obtain ⟨H',a',b1,b2,b3,b4⟩:=iPairs_l0 (show 2000000 ≤ k by omega) hv hm (2 * n).toNat 0 k (H ++ [some (Blk.mk false (l.map (.int .i64)))]) l _ (by omega) (by omega) (List.prefix_append _ _) hnew (Sub.refl hM)
  have e:a'=subAll l (PQ n l):=(b4.congr fun x w hx=>(show _ ↔ PQ n l x w from by
   rw [PQ_iff]
   constructor
   ·rintro (h | ⟨ln,z,u,_,h1,h2,h3,h4⟩)
    ·exact h.elim
    ·exact ⟨ln,u,z,h1,h3,h2,PQ2_symm h4⟩
   ·rintro ⟨ln,i,u,h1,h2,h3,h4⟩
    exact .inr ⟨ln,u,i,by omega,h1,h3,h2,PQ2_symm h4⟩)).eq hM
  subst e
  refine ⟨_,H',?_,b2,.inr b3⟩
  simp only [Int.natCast_zero] at b1
  simp (disch:=omega) only [impl_NarrowPairs.f,dt,df,Zy,Zf,AV.toB,AV.toS,if_true,Zo,h1,h2,wr (n:=2 * n),b1]
def seenC (seen:List Int):List AV:=(List.range 5).map fun (v:Nat)=>.bool (seen.contains (v:Int))
theorem seen_set (seen:List Int) (v:Nat) (hv:v < 5):(seenC seen).take v ++ [.bool true] ++ (seenC seen).drop (v + 1)=seenC ((v:Int) :: seen):=by
 apply List.ext_getElem?
 intro i
 have h0:(seenC seen).length=5:=by simp [seenC]
 have e:(seenC seen).take v ++ [.bool true] ++ (seenC seen).drop (v + 1)=(seenC seen).set v (.bool true):=by
  rw [List.set_eq_take_append_cons_drop,if_pos (by omega)]; simp
 rw [e]
 by_cases hi:i=v
 ·subst hi
  rw [List.getElem?_set_self (by omega)]
  simp [seenC,hv]
 ·rw [List.getElem?_set_ne (by omega)]
  by_cases h5:i < 5
  ·simp [seenC,h5,hi]
   intro e'; omega
  ·rw [List.getElem?_eq_none (by omega),List.getElem?_eq_none (by simp [seenC]; omega)]
theorem reads_ne {H:Hp} {s:Sl} {l:List Int} {k:IntKind} {b:Nat} {seen:List Int} (hr:Reads k H s l) (hl:l ≠ []) (hb:H[b]?=some (some ⟨false,seenC seen⟩)):s.blk ≠ b:=by
 intro e
 have h0:0 < l.length:=List.length_pos_iff.2 hl
 have:=hr.cell 0 h0
 unfold Hp.cell at this
 rw [e,hb] at this
 simp only at this
 have hm:=List.mem_of_getElem? this
 unfold seenC at hm
 obtain ⟨v,_,hv⟩:=List.mem_map.1 hm
 cases hv
theorem But.reads' {b:Nat} {H H':Hp} (h:But b H H') {k:IntKind} {s:Sl} {l:List Int} {seen:List Int} (hb:H[b]?=some (some ⟨false,seenC seen⟩)) (hr:Reads k H s l):Reads k H' s l:=by
 by_cases hl:l=[]
 ·subst hl; exact reads_nil hr.len
 ·exact h.reads (reads_ne hr hl hb) hr
theorem implSquareFits_l1 (rec:Rec) (k:Nat) (L0:Sl→Int→Int→Int→Hp→An) {H0:Hp} {s t:Sl} {g cells:List Int} {n top line:Int} {b:Nat} (hs:Reads .i64 H0 s g)
  (hc:∀ c ∈ cells,0 ≤ c∧c < (g.length:Int)) (hg:∀ v ∈ g,0 ≤ v∧v ≤ 4) (hl:cells.length ≤ 1000) (hline:IntKind.i64.wrap (line + 1)=line + 1) :
  ∀ (j i fuel:Nat) (H:Hp) (seen:List Int),i + j=cells.length→j < fuel→H0 <+: H→Own 1 H0 H (Sl.mk false b 0 5) (seenC seen)→Reads .i64 H t cells →
   ∃ H',H0 <+: H'∧impl_SquareFits.l1 rec k L0 fuel s n b 0 top line t cells.length i H=bif clashL g (cells.drop i) seen then some (.bool false,H') else L0 s n top (line + 1) H':=by
 intro j
 induction j with
 | zero=>
  intro i fuel H seen hi hf hp ho ht
  obtain ⟨fuel,rfl⟩:=Zs fuel (by omega)
  refine ⟨H,hp,?_⟩
  simp [impl_SquareFits.l1,impl_SquareFits.j3,show ¬ i < cells.length by omega,List.drop_eq_nil_of_le (show cells.length ≤ i by omega),clashL,hline]
 | succ j ih=>
  intro i fuel H seen hi hf hp ho ht
  obtain ⟨fuel,rfl⟩:=Zs fuel (by omega)
  have h1:=ht.len
  have h2:i < cells.length:=by omega
  have h3:=reads_at ht i h2
  have h4:=wrs (i:=i) (by omega)
  obtain ⟨c0,c1⟩:=hc _ (List.getElem_mem h2)
  have h5:=gv_at (pf_reads hp hs) c0 c1
  obtain ⟨v0,v1⟩:=hg _ (gv_mem c0 c1)
  rw [List.drop_eq_getElem_cons h2]
  simp only [clashL]
  obtain ⟨v,hv⟩:=Int.eq_ofNat_of_zero_le v0
  rw [hv] at h5 ⊢
  have hv5:v < 5:=by omega
  have hsl:=hs.len
  obtain ⟨H1,a1,a2,a3,a4,a5⟩:=own_sto ho hp v [.bool true] (by simp [seenC]; omega)
  rw [show v + [AV.bool true].length=v + 1 from rfl,seen_set seen v hv5] at a3
  simp only [Nat.zero_add] at a1
  obtain ⟨H',b1,b2⟩:=ih (i + 1) fuel H1 ((v:Int) :: seen) (by omega) (by omega) a2 a3 (a4.reads' ho.get ht)
  rw [show ((i + 1:Nat):Int)=(i:Int) + 1 by omega] at b2
  have q1:((i:Int) < (t.len:Int)):=by omega
  have q2:((i:Int) < (cells.length:Int)):=by omega
  have q0:(0:Int) ≤ (i:Int):=by omega
  have z0:(0:Int) ≤ (v:Int):=by omega
  have z3:(v:Int) < ((5:Nat):Int):=by omega
  have c1':cells[i] < (s.len:Int):=by omega
  have hld:ldB H b v=some (seen.contains (v:Int)):=by
   have:=own_cell ho v
   simp only [Nat.zero_add] at this
   unfold ldB
   rw [this]
   simp [seenC,hv5,AV.toB]
  by_cases hp':0 < v
  ·have z1:((v:Int) > 0):=by omega
   have z2:(0:Int) < (v:Int):=z1
   cases hse':seen.contains (v:Int) with
   | true=>
    rw [hse'] at hld
    refine ⟨H,hp,?_⟩
    simp only [impl_SquareFits.l1,impl_SquareFits.j2,impl_SquareFits.j4,impl_SquareFits.j5,q0,q1,q2,c0,c1',z0,z1,z2,z3,decide_true,Za,Zt,Zf,Zn,Nat.mul_one,Nat.zero_add,h3,h5,Zo,hld,Bool.true_or]
   | false=>
    rw [hse'] at hld
    refine ⟨H',b1,?_⟩
    simp only [impl_SquareFits.l1,impl_SquareFits.j2,impl_SquareFits.j4,impl_SquareFits.j5,q0,q1,q2,c0,c1',z0,z1,z2,z3,decide_true,Za,Bool.and_false,Zt,Zf,Zn,Nat.mul_one,Nat.zero_add,h3,h5,Zo,hld,Bool.false_or,a1,h4,b2]
  ·have z1:¬ ((v:Int) > 0):=by omega
   have z2:¬ (0:Int) < (v:Int):=z1
   refine ⟨H',b1,?_⟩
   simp only [impl_SquareFits.l1,impl_SquareFits.j2,impl_SquareFits.j4,impl_SquareFits.j5,q0,q1,q2,c0,c1',z0,z1,z2,z3,decide_true,decide_false,Za,Bool.false_and,Zt,Zf,Zn,Nat.mul_one,Nat.zero_add,h3,h5,Zo,Bool.false_or,a1,h4,b2]
theorem implSquareFits_l0 {k:Nat} (hk:2000000 ≤ k) {H0:Hp} {s:Sl} {g:List Int} {n:Int} (hs:Reads .i64 H0 s g) (hg:gridOk g n=true) :
  ∀ (j fuel line:Nat) (H:Hp),(line:Int) + j=2 * n→j < fuel→H0 <+: H →
   ∃ H',impl_SquareFits.l0 (callF PP orc k) k fuel s n (2 * n) line H=some (.bool (!clashFrom g n line j),H')∧H0 <+: H':=by
 obtain ⟨⟨n1,n2⟩,n3,n4⟩:=(gridOk_iff g n).1 hg
 intro j
 induction j with
 | zero=>
  intro fuel line H hl hf hp
  obtain ⟨fuel,rfl⟩:=Zs fuel (by omega)
  refine ⟨H,?_,hp⟩
  have:¬ ((line:Int) < 2 * n):=by omega
  simp only [impl_SquareFits.l0,this,decide_false,Zf,clashFrom,Zx]
 | succ j ih=>
  intro fuel line H hl hf hp
  obtain ⟨fuel,rfl⟩:=Zs fuel (by omega)
  have q1:((line:Int) < 2 * n):=by omega
  have hnew:=own_base (own_new 1 H [.bool false,.bool false,.bool false,.bool false,.bool false] 5 rfl) hp
  obtain ⟨H1,a1,a2,a3,a4,a5⟩:=own_sto hnew (hp.trans (List.prefix_append _ _)) 0 [.bool false,.bool false,.bool false,.bool false,.bool false] (by simp)
  obtain ⟨t,H2,e1,e2,e3⟩:=implLineCells_ok hk n line H1
  have hseen:Own 1 H0 H1 (Sl.mk false H.length 0 5) (seenC []):=a3
  obtain ⟨H3,b1,b2⟩:=implSquareFits_l1 (callF PP orc k) k (impl_SquareFits.l0 (callF PP orc k) k fuel) (line:=line) (n:=n) (top:=2 * n) hs (fun c hc=>by rw [n3]; exact lineCells_mem hc) (fun v hv=>⟨(n4 v hv).1,by have:=(n4 v hv).2; omega⟩)
   (by have:=lineCells_len n line; omega) (wr (by omega) (by omega)) (lineCells n line).length 0 k H2 [] (by omega) (by have:=lineCells_len n line; omega) (a2.trans e2) (own_pf hseen e2) e3
  simp only [List.drop_zero,Int.natCast_zero] at b2
  simp only [Nat.zero_add] at a1
  have hlen:=e3.len
  have a1':(H ++ [some (Blk.mk false [.bool false,.bool false,.bool false,.bool false,.bool false])]).sto H.length 0 [.bool false,.bool false,.bool false,.bool false,.bool false]=some H1:=a1
  cases hc:clashL g (lineCells n line) [] with
  | true=>
   refine ⟨H3,?_,b1⟩
   simp only [hc,Zt] at b2
   simp only [impl_SquareFits.l0,q1,decide_true,Zt,a1',e1,Zo,AV.toS,if_true,clashFrom,hc,Bool.true_or,Zy,hlen]
   exact b2
  | false=>
   obtain ⟨H',c1,c2⟩:=ih fuel (line + 1) H3 (by omega) (by omega) b1
   push_cast at c1
   refine ⟨H',?_,c2⟩
   simp only [hc,Zf] at b2
   simp only [impl_SquareFits.l0,q1,decide_true,Zt,a1',e1,Zo,AV.toS,if_true,clashFrom,hc,Bool.false_or,hlen]
   exact b2.trans c1
theorem implSquareFits_ok {k:Nat} (hk:2000001 ≤ k) {H:Hp} {s:Sl} {g:List Int} (n:Int) (hs:Reads .i64 H s g) (hl:g.length ≤ 1048576) :
  ∃ H',callF PP orc k impl_SquareFits.id [.sl 1 s,.int .i64 n] H=some (.bool (squareFits g n),H')∧H <+: H':=by
 obtain ⟨k,rfl⟩:=Zs k (by omega)
 rw [impl_SquareFits.call]
 have h1:=implGridValid_ok (show 2000000 ≤ k by omega) hs hl n
 cases hg:gridOk g n with
 | true=>
  obtain ⟨⟨n1,n2⟩,n3,n4⟩:=(gridOk_iff g n).1 hg
  have hw:IntKind.i64.wrap (2 * n)=2 * n:=wr (by omega) (by omega)
  obtain ⟨H',a1,a2⟩:=implSquareFits_l0 (show 2000000 ≤ k by omega) hs hg (2 * n).toNat k 0 H (by omega) (by omega) (List.prefix_refl _)
  refine ⟨H',?_,a2⟩
  simp only [impl_SquareFits.f,h1,hg,Zo,AV.toB,Zy,Zf,hw,squareFits,Bool.true_and]
  exact a1
 | false=>exact ⟨H,by simp only [impl_SquareFits.f,h1,hg,Zo,AV.toB,Zx,Zt,squareFits,Bool.false_and],List.prefix_refl _⟩
end Go.Proofs.Ytchliocobgkmbaa.Rp
