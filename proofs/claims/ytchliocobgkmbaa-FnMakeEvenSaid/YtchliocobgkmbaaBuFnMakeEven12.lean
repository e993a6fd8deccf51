/- Texts for the row of the law FnMakeEven, part 12: the plain machine, the program's functions on it, what they come to. No conditions. -/
import Derived.Test.YtchliocobgkmbaaBuFnMakeEven10
import Derived.Test.YtchliocobgkmbaaBuFnMakeEven11
import Derived.Test.YtchliocobgkmbaaBuFnMakeEven5
set_option linter.unusedVariables false
set_option linter.unusedSimpArgs false
namespace Go.Proofs.Ytchliocobgkmbaa.Rp
open Go Go.RowKit Go.Proofs.Ytchliocobgkmbaa.Ab
def cntV (f:Int→Nat):Nat→Int→Nat
 | 0,_=>0
 | j + 1,v=>f v + cntV f j (v + 1)
def cnt (n:Int):Nat→List Int→Nat
 | 0,_=>1
 | rem + 1,g=>cntV (fun v=>if clash (g.set ((n * n).toNat - (rem + 1)) v) n=true then 0 else cnt n rem (g.set ((n * n).toNat - (rem + 1)) v)) n.toNat 1
def NumAt (b:Nat) (H:Hp) (x:Int):Prop:=H[b]?=some (some ⟨false,[.int .i64 x]⟩)
theorem grid_set {g:List Int} {n:Int} (h:gridOk g n=true) (i:Nat) (v:Int) (hv:0 ≤ v∧v ≤ n):gridOk (g.set i v) n=true:=by
 obtain ⟨h1,h2,h3⟩:=(gridOk_iff g n).1 h
 refine (gridOk_iff _ n).2 ⟨h1,by simpa using h2,fun x hx=>?_⟩
 rcases List.mem_or_eq_of_mem_set hx with hx | hx
 ·exact h3 x hx
 ·rw [hx]; exact hv
def Found (n:Int) (b:Nat) (H0 H':Hp) (a:AV):Prop:=∃ t g',a=.sl 1 t∧Reads .i64 H' t g'∧g'.length=(n * n).toNat∧(∀ v ∈ g',1 ≤ v∧v ≤ n)∧t.blk ≠ b
theorem l2Search_ok {n:Int} (hn:2 ≤ n∧n ≤ 4) {b:Nat}:∀ (rem:Nat) {k:Nat},2000002 + rem ≤ k→∀ {H:Hp} {s:Sl} {g:List Int} {left:Nat},rem ≤ (n * n).toNat→Reads .i64 H s g→s.blk ≠ b→gridOk g n=true→(∀ i,i + rem < (n * n).toNat→∀ v,g[i]?=some v→1 ≤ v)→NumAt b H left→left < 1000000→
  ∃ a H',callF PP orc k spec_l2Search.id [.sl 1 s,.int .i64 n,.int .i64 (((n * n).toNat - rem:Nat):Int),.ptr b 0] H=some (a,H')∧Adv b H H'∧(left < cnt n rem g→Found n b H H' a)∧(cnt n rem g ≤ left→(∃ t,a=.sl 1 t∧t.len=0)∧NumAt b H' ((left - cnt n rem g:Nat):Int)):=by
 have hnn:0 ≤ n * n∧n * n ≤ 16:=by
  have:n=2 ∨ n=3 ∨ n=4:=by omega
  rcases this with rfl | rfl | rfl <;> decide
 intro rem
 induction rem with
 | zero=>
  intro k hk H s g left hrem hs hsb hg hgv hnum hleft
  obtain ⟨k,rfl⟩:=Zs k (by omega)
  rw [spec_l2Search.call]
  obtain ⟨_,h2,h3⟩:=(gridOk_iff g n).1 hg
  have hsl:=hs.len
  have e1:((((n * n).toNat - 0:Nat):Int) == (s.len:Int))=true:=by simp; omega
  have hl:ldI .i64 H b 0=some (left:Int):=by unfold ldI Hp.cell; rw [hnum]; simp [AV.toI]
  have hb:=(List.getElem?_eq_some_iff.1 hnum).1
  by_cases c:left=0
  ·subst c
   refine ⟨.sl 1 s,H,?_,Adv.refl b H,fun _=>⟨s,g,rfl,hs,by omega,fun v hv=>?_,hsb⟩,fun h=>by simp [cnt] at h⟩
   ·have e2:(((0:Nat):Int) == 0)=true:=rfl
    simp only [spec_l2Search.f,e1,Zt,hl,Zo,e2]
   ·obtain ⟨i,hi,rfl⟩:=List.getElem_of_mem hv
    exact ⟨hgv i (by omega) _ (List.getElem?_eq_getElem hi),(h3 _ hv).2⟩
  ·have w:IntKind.i64.wrap ((left:Int) - 1)=((left - 1:Nat):Int):=by rw [wr (by omega) (by omega)]; omega
   obtain ⟨H',a1,a2,a3,a4⟩:=sto1' hnum (.int .i64 ((left - 1:Nat):Int))
   refine ⟨.sl 1 Sl.none,H',?_,⟨a3,by omega⟩,fun h=>by simp [cnt] at h; omega,fun _=>⟨⟨_,rfl,rfl⟩,by simpa [cnt,NumAt] using a2⟩⟩
   have e2:((left:Int) == 0)=false:=by simp; omega
   simp only [spec_l2Search.f,e1,Zt,Zf,hl,Zo,e2,w,a1]
 | succ rem ih=>
  intro k hk H s g left hrem hs hsb hg hgv hnum hleft
  obtain ⟨k,rfl⟩:=Zs k (by omega)
  rw [spec_l2Search.call]
  obtain ⟨_,h2,h3⟩:=(gridOk_iff g n).1 hg
  have hsl:=hs.len
  have e1:((((n * n).toNat - (rem + 1):Nat):Int) == (s.len:Int))=false:=by simp; omega
  generalize hat:(n * n).toNat - (rem + 1)=at' at *
  have hw:IntKind.i64.wrap ((at':Int) + 1)=(((n * n).toNat - rem:Nat):Int):=by rw [wr (by omega) (by omega)]; omega
  -- the loop
  have loop:∀ (j fuel:Nat) (v:Int) (H1:Hp) (left:Nat),v + j=n + 1→1 ≤ v→j < fuel→Adv b H H1→NumAt b H1 left→left < 1000000 →
    ∃ a H',spec_l2Search.l0 (callF PP orc k) k fuel s n at' b 0 v H1=some (a,H')∧Adv b H H'∧(left < cntV (fun v=>if clash (g.set at' v) n=true then 0 else cnt n rem (g.set at' v)) j v→Found n b H H' a)∧(cntV (fun v=>if clash (g.set at' v) n=true then 0 else cnt n rem (g.set at' v)) j v ≤ left→(∃ t,a=.sl 1 t∧t.len=0)∧NumAt b H' ((left - cntV (fun v=>if clash (g.set at' v) n=true then 0 else cnt n rem (g.set at' v)) j v:Nat):Int)):=by
   intro j
   induction j with
   | zero=>
    intro fuel v H1 left hv hv1 hf hadv hnum hleft
    obtain ⟨fuel,rfl⟩:=Zs fuel (by omega)
    have:¬ (v ≤ n):=by omega
    refine ⟨.sl 1 Sl.none,H1,?_,hadv,fun h=>by simp [cntV] at h,fun _=>⟨⟨_,rfl,rfl⟩,by simpa [cntV] using hnum⟩⟩
    simp only [spec_l2Search.l0,this,decide_false,Zf]
   | succ j ihj=>
    intro fuel v H1 left hv hv1 hf hadv hnum hleft
    obtain ⟨fuel,rfl⟩:=Zs fuel (by omega)
    have hvn:v ≤ n:=by omega
    have hs1:=hadv.reads hsb hs
    have c1:=read_ok hs1
    have c2:=appl_ok H1 g .i64 (by omega)
    have hnew:=own_new 1 H1 (g.map (.int .i64)) g.length (by simp)
    obtain ⟨H6,d1,d2,d3,d4,d5⟩:=own_set hnew (List.prefix_append _ _) at' (by omega) v
    have hb1:b < H1.length:=(List.getElem?_eq_some_iff.1 hnum).1
    have hg6:=grid_set hg at' v ⟨by omega,hvn⟩
    obtain ⟨H7,f1,f2⟩:=specl2Clash_ok (show 2000001 ≤ k by omega) (own_reads d3) hg6
    have adv6:Adv b H1 H6:=pf_adv d2
    have num7:NumAt b H7 left:=pf_get (d2.trans f2) hnum
    have adv7:Adv b H H7:=hadv.trans (pf_adv (d2.trans f2))
    have q0:(0:Int) ≤ (at':Int):=by omega
    have q1:(at':Int) < ((Sl.mk false H1.length 0 g.length).len:Int):=by show (at':Int) < (g.length:Int); omega
    have w1:IntKind.i64.wrap (v + 1)=v + 1:=wr (by omega) (by omega)
    have gl:s.len=g.length:=hsl
    simp only [Sl.mk.injEq] at d1
    have d1':(H1 ++ [some (Blk.mk false (g.map (.int .i64)))]).sto H1.length (0 + at') [.int .i64 v]=some H6:=d1
    cases hc:clash (g.set at' v) n with
    | true=>
     obtain ⟨a,H',i1,i2,i3,i4⟩:=ihj fuel (v + 1) H7 left (by omega) (by omega) (by omega) adv7 num7 hleft
     refine ⟨a,H',?_,i2,?_,?_⟩
     ·simp only [spec_l2Search.l0,spec_l2Search.j1,hvn,decide_true,Zt,c1,gl,c2,Zo,cells_ok,Za,q0,q1,Zn,Nat.mul_one,d1',f1,AV.toB,hc,w1,i1]
     ·simpa [cntV,hc] using i3
     ·simpa [cntV,hc] using i4
    | false=>
     have hs6:=pf_reads f2 (own_reads d3)
     obtain ⟨a,H8,r1,r2,r3,r4⟩:=ih (k:=k) (by omega) (H:=H7) (s:=Sl.mk false H1.length 0 g.length) (g:=g.set at' v) (left:=left) (by omega) hs6 (by simp only; omega) hg6 (fun i hi x hx=>by
      by_cases e:i=at'
      ·subst e
       rw [List.getElem?_set_self (by omega)] at hx
       simp at hx; omega
      ·rw [List.getElem?_set_ne (Ne.symm e)] at hx
       exact hgv i (by omega) x hx) num7 hleft
     by_cases hlt:left < cnt n rem (g.set at' v)
     ·obtain ⟨t,g',rfl,t1,t2,t3,t4⟩:=r3 hlt
      have hpos:(t.len:Int) > 0:=by rw [t1.len]; omega
      refine ⟨.sl 1 t,H8,?_,adv7.trans r2,fun _=>⟨t,g',rfl,t1,t2,t3,t4⟩,fun h=>by simp only [cntV,hc] at h; simp at h; omega⟩
      simp only [spec_l2Search.l0,spec_l2Search.j1,hvn,decide_true,Zt,c1,gl,c2,Zo,cells_ok,Za,q0,q1,Zn,Nat.mul_one,d1',f1,AV.toB,hc,Zf,hw,r1,AV.toS,if_true,hpos]
     ·obtain ⟨⟨t,rfl,t1⟩,t2⟩:=r4 (by omega)
      have hneg:¬ ((t.len:Int) > 0):=by omega
      obtain ⟨a,H',i1,i2,i3,i4⟩:=ihj fuel (v + 1) H8 _ (by omega) (by omega) (by omega) (adv7.trans r2) t2 (by omega)
      refine ⟨a,H',?_,i2,?_,?_⟩
      ·simp only [spec_l2Search.l0,spec_l2Search.j1,hvn,decide_true,Zt,c1,gl,c2,Zo,cells_ok,Za,q0,q1,Zn,Nat.mul_one,d1',f1,AV.toB,hc,Zf,hw,r1,AV.toS,if_true,hneg,decide_false,w1,i1]
      ·intro h
       simp only [cntV,hc] at h
       simp at h
       exact i3 (by omega)
      ·intro h
       simp only [cntV,hc] at h ⊢
       simp at h ⊢
       have:=i4 (by omega)
       rw [Nat.sub_sub] at this
       exact this
  obtain ⟨a,H',i1,i2,i3,i4⟩:=loop n.toNat k 1 H left (by omega) (by omega) (by omega) (Adv.refl b H) hnum hleft
  refine ⟨a,H',?_,i2,?_,?_⟩
  ·simp only [spec_l2Search.f,e1,Zf]; exact i1
  ·simpa [cnt,hat] using i3
  ·simpa [cnt,hat] using i4
structure WR (H0 H:Hp) (s:Sl) (rs:List R):Prop where
 own:Own 3 H0 H s (rs.flatMap R.av)
 rd:∀ i,(h:i < rs.length)→Reads .i64 H rs[i].sl rs[i].cells
 ne:∀ i,(h:i < rs.length)→rs[i].sl.blk ≠ s.blk
 lt:∀ i,(h:i < rs.length)→rs[i].sl.blk < H.length
 lo:∀ i,(h:i < rs.length)→H0.length ≤ rs[i].sl.blk
 nn:∀ i,(h:i < rs.length)→rs[i].sl.nil=false
structure WO (H0 H:Hp) (s:Sl) (rs:List R):Prop where
 own:Own 3 H0 H s (rs.flatMap R.av)
 oc:∀ i,(h:i < rs.length)→Own 1 H0 H rs[i].sl (rs[i].cells.map (.int .i64))
 ne:∀ i,(h:i < rs.length)→rs[i].sl.blk ≠ s.blk
 inj:∀ i j,(hi:i < rs.length)→(hj:j < rs.length)→i ≠ j→rs[i].sl.blk ≠ rs[j].sl.blk
theorem own_lt {sz:Nat} {H0 H:Hp} {s:Sl} {c:List AV} (h:Own sz H0 H s c):s.blk < H.length:=(List.getElem?_eq_some_iff.1 h.get).1
theorem cell_lt {H:Hp} {b o:Nat} {v:AV} (h:H.cell b o=some v):b < H.length:=by
 unfold Hp.cell at h
 split at h
 ·rename_i x hx; exact (List.getElem?_eq_some_iff.1 hx).1
 ·simp at h
theorem own_readsR {H0 H:Hp} {s:Sl} {rs:List R} (h:Own 3 H0 H s (rs.flatMap R.av)) (hr:∀ i,(h:i < rs.length)→Reads .i64 H rs[i].sl rs[i].cells):ReadsR H s rs:=
 ⟨by have:=h.len; rw [flat_length] at this; omega,fun i hi=>by rw [own_cell h,(flat0 rs i hi).1],fun i hi=>by rw [Nat.add_assoc,own_cell h,(flat0 rs i hi).2.1],fun i hi=>by rw [Nat.add_assoc,own_cell h,(flat0 rs i hi).2.2],hr⟩
theorem WR.reads {H0 H:Hp} {s:Sl} {rs:List R} (h:WR H0 H s rs):ReadsR H s rs:=own_readsR h.own h.rd
theorem WR.pf {H0 H H':Hp} {s:Sl} {rs:List R} (h:WR H0 H s rs) (g:H <+: H'):WR H0 H' s rs:=
 ⟨own_pf h.own g,fun i hi=>pf_reads g (h.rd i hi),h.ne,fun i hi=>Nat.lt_of_lt_of_le (h.lt i hi) g.length_le,h.lo,h.nn⟩
theorem WO.pf {H0 H H':Hp} {s:Sl} {rs:List R} (h:WO H0 H s rs) (g:H <+: H'):WO H0 H' s rs:=
 ⟨own_pf h.own g,fun i hi=>own_pf (h.oc i hi) g,h.ne,h.inj⟩
theorem own_len3 {H0 H:Hp} {s:Sl} {rs:List R} (h:Own 3 H0 H s (rs.flatMap R.av)):s.len=rs.length:=by
 have:=h.len; rw [flat_length] at this; omega
theorem wr_app {H0 H:Hp} {s:Sl} {rs:List R} (h:WR H0 H s rs) (g:H0 <+: H) (hl:rs.length ≤ 1000000) (r:R) (hr:Reads .i64 H r.sl r.cells) (hn:r.sl.blk ≠ s.blk) (hlt:r.sl.blk < H.length) (hlo:H0.length ≤ r.sl.blk) (hnn:r.sl.nil=false) :
  ∃ t' H',H.app 3 s 1 r.av=some (t',H')∧H0 <+: H'∧WR H0 H' t' (rs ++ [r])∧But s.blk H H'∧t'.blk=H.length∧H'.length=H.length + 1:=by
 have hlen:=own_len3 h.own
 obtain ⟨H',a1,a2,a3,a4,a5⟩:=own_app h.own g 1 r.av (by omega) (by omega) (by omega) (by omega) rfl
 refine ⟨_,H',a1,a2,⟨by simpa using a3,fun i hi=>?_,fun i hi=>?_,fun i hi=>?_,fun i hi=>?_,fun i hi=>?_⟩,a4,rfl,a5⟩
 ·by_cases e:i < rs.length
  ·simp only [List.getElem_append_left e]; exact a4.reads (h.ne i e) (h.rd i e)
  ·have ei:i=rs.length:=by simp at hi; omega
   subst ei
   simp only [List.getElem_concat_length]; exact a4.reads hn hr
 ·by_cases e:i < rs.length
  ·simp only [List.getElem_append_left e]; have:=h.lt i e; omega
  ·have ei:i=rs.length:=by simp at hi; omega
   subst ei
   simp only [List.getElem_concat_length]; omega
 ·by_cases e:i < rs.length
  ·simp only [List.getElem_append_left e]; have:=h.lt i e; omega
  ·have ei:i=rs.length:=by simp at hi; omega
   subst ei
   simp only [List.getElem_concat_length]; omega
 ·by_cases e:i < rs.length
  ·simp only [List.getElem_append_left e]; exact h.lo i e
  ·have ei:i=rs.length:=by simp at hi; omega
   subst ei
   simp only [List.getElem_concat_length]; exact hlo
 ·by_cases e:i < rs.length
  ·simp only [List.getElem_append_left e]; exact h.nn i e
  ·have ei:i=rs.length:=by simp at hi; omega
   subst ei
   simp only [List.getElem_concat_length]; exact hnn
theorem take_app {α:Type} (A B:List α) (m:Nat):((A.take m) ++ B).take m=(A ++ B).take m:=by
 rw [List.take_append,List.take_append,List.take_take,Nat.min_self,List.length_take]
 congr 1
 by_cases h:m ≤ A.length
 ·rw [show min m A.length=m by omega,show m - A.length=0 by omega,Nat.sub_self]
 ·rw [show min m A.length=A.length by omega]
def SearchTo (B:Hp) (b:Nat) (H:Hp) (s:Sl) (ls:List (List Int)) (most:Nat) (r:An):Prop:=
 ∃ H' s' ,r=some (.tup [],H')∧B <+: H'∧Outs B b H' s' (ls.take most)∧Adv2 b s.blk H H'∧(s'.blk=s.blk ∨ H.length ≤ s'.blk)
theorem l5Search_l0 {B:Hp} {b:Nat} {n:Int} {gs s:Sl} {given:List Int} {rs:List R} (hz:PuzAt B n gs s given rs) (hro:∀ r ∈ rs,R.ok n r=true) (hgg:gridOk given n=true) {most:Nat} (hmost:most ≤ 1000) :
  ∀ (rem k fuel:Nat),2000100 + rem ≤ k→rem < fuel→∀ (H:Hp) (xs o:Sl) (g:List Int) (ls:List (List Int)),rem ≤ g.length→B <+: H→Outs B b H o ls→ls.length < most→Reads .i64 H xs g→xs.blk ≠ b→xs.blk ≠ o.blk→gridOk g n=true →
   SearchTo B b H o (ls ++ sols (fitsV n given (rs.map R.val)) n.toNat rem g) most (spec_l5Search.l0 (callF PP orc k) k fuel xs ((g.length - rem:Nat):Int) (most:Int) b 0 n gs s H):=by
 have hn:=hz.n4
 intro rem
 induction rem with
 | zero=>
  intro k fuel hk hf H xs o g ls hrem hB ho hlm hx hxb hxo hg
  obtain ⟨fuel,rfl⟩:=Zs fuel (by omega)
  have h16:=gridOk_len hg
  have hxl:=hx.len
  have hol:=ho.len
  have hcell:ldS 1 H b 0=some o:=by unfold ldS Hp.cell; rw [ho.cell]; simp [AV.toS]
  have hbl:=(List.getElem?_eq_some_iff.1 ho.cell).1
  have g1:H <+: H ++ [some (Blk.mk false (g.map (.int .i64)))]:=List.prefix_append _ _
  have hnew:=own_new 1 H (g.map (.int .i64)) g.length (by simp)
  have hst:stableB H (H ++ [some (Blk.mk false (g.map (.int .i64)))]) b 0 1=true:=by
   have e1:H.cell b 0=some (.sl 1 o):=by unfold Hp.cell; rw [ho.cell]; rfl
   have e2:=pf_cell g1 e1
   unfold stableB
   simp [e1,e2,AV.same]
  have hob:o.blk < H.length:=by obtain ⟨ss,h1,_⟩:=ho.ex; exact own_lt' h1
  obtain ⟨H1,H2,a1,a2,a3,a4,a5⟩:=outs_app (ho.pf g1) (hB.trans g1) (by omega) (own_base hnew hB) (by first | omega | (simp only; omega) | (simp; omega)) (by first | omega | (simp only; omega) | (simp; omega)) (by simp) hB.length_le
  refine ⟨H2,Sl.mk false (H ++ [some (Blk.mk false (g.map (.int .i64)))]).length 0 (ls.length + 1),?_,a5,?_,(pf_adv2 g1).trans a4 (.inl rfl),.inr (by simp)⟩
  ·simp (disch:=omega) only [spec_l5Search.l0,spec_l5Search.j1,spec_l5Search.j3,dt,df,bt,bf,nt,nf,Za,Zy,Zx,Zt,Zf,Zn,Zz,Zi,Zo,wr,AV.toB,AV.toI,AV.toS,if_true,hcell,read_ok hx,hxl,appl_ok,cells_ok,hst,a1,a2]
  ·rw [sols,List.take_of_length_le (by simp; omega)]
   exact a3
 | succ rem ih=>
  intro k fuel hk hf H xs o g ls hrem hB ho hlm hx hxb hxo hg
  obtain ⟨fuel,rfl⟩:=Zs fuel (by omega)
  have h16:=gridOk_len hg
  have hxl:=hx.len
  have hol:=ho.len
  obtain ⟨_,g2,g3⟩:=(gridOk_iff g n).1 hg
  have hcell:∀ {H':Hp} {o':Sl} {ls':List (List Int)},Outs B b H' o' ls'→ldS 1 H' b 0=some o':=fun ho=>by unfold ldS Hp.cell; rw [ho.cell]; simp [AV.toS]
  have hat:g.length - (rem + 1) < g.length:=by omega
  generalize hA:g.length - (rem + 1)=at' at hat ⊢
  have hnext:IntKind.i64.wrap ((at':Int) + 1)=((g.length - rem:Nat):Int):=by rw [wr (by omega) (by omega)]; omega
  rw [sols,hA]
  by_cases c:0 < g.getD at' 0
  ·rw [ip c]
   have h1:=ih k fuel (by omega) (by omega) H xs o g ls (by omega) hB ho hlm hx hxb hxo hg
   rw [← hnext] at h1
   simp (disch:=omega) only [spec_l5Search.l0,spec_l5Search.j1,spec_l5Search.j2,dt,df,bf,Za,Zt,Zf,Zn,Zo,rdn hx]
   exact h1
  ·rw [iN c]
   have hbound:∀ {o':Sl} {H':Hp} {ls':List (List Int)},Outs B b H' o' ls'→o'.blk < H'.length:=fun ho=>by obtain ⟨ss,h1,_⟩:=ho.ex; exact own_lt' h1
   have loop:∀ (j fuel:Nat) (v:Int) (Hc:Hp) (oc:Sl) (lc:List (List Int)),v + j=n + 1→1 ≤ v→j < fuel→B <+: Hc→Outs B b Hc oc lc→lc.length ≤ most→Adv2 b o.blk H Hc→(oc.blk=o.blk ∨ H.length ≤ oc.blk) →
     SearchTo B b H o (lc ++ (upto j v).flatMap fun v=>if fitsV n given (rs.map R.val) (g.set at' v)=true then sols (fitsV n given (rs.map R.val)) n.toNat rem (g.set at' v) else []) most (spec_l5Search.l4 (callF PP orc k) k fuel xs at' (most:Int) b 0 v n gs s Hc):=by
    intro j
    induction j with
    | zero=>
     intro fuel v Hc oc lc hv hv1 hf hBc hoc hlc hadv hocb
     obtain ⟨fuel,rfl⟩:=Zs fuel (by omega)
     refine ⟨Hc,oc,?_,hBc,?_,hadv,hocb⟩
     ·simp (disch:=omega) only [spec_l5Search.l4,spec_l5Search.j5,dt,df,bt,bf,nt,nf,Za,Zy,Zx,Zt,Zf,Zn,Zz,Zi,Zo,wr,AV.toB,AV.toI,AV.toS,if_true]
     ·rw [upto,List.flatMap_nil,List.append_nil,List.take_of_length_le hlc]; exact hoc
    | succ j ihj=>
     intro fuel v Hc oc lc hv hv1 hf hBc hoc hlc hadv hocb
     obtain ⟨fuel,rfl⟩:=Zs fuel (by omega)
     have hcl:=hcell hoc
     have hol:=hoc.len
     by_cases cm:lc.length < most
     ·have hxc:=hadv.reads hxb hxo hx
      have hle:=hadv.le
      have hbl:=(List.getElem?_eq_some_iff.1 hoc.cell).1
      have hobl:=hbound hoc
      have g1:Hc <+: Hc ++ [some (Blk.mk false (g.map (.int .i64)))]:=List.prefix_append _ _
      have hnew:=own_new 1 Hc (g.map (.int .i64)) g.length (by simp)
      obtain ⟨H1,a1,a2,a3,a4⟩:=own_set1 hnew g1 at' hat v
      simp only at a1
      have hg1:=grid_set hg at' v ⟨by omega,by omega⟩
      obtain ⟨H2,b1,b2⟩:=specl5Fits_ok (show 2000041 ≤ k by omega) (hz.pf (hBc.trans a2)) hro (own_reads a3) hg1 (by rw [List.length_set]; exact grid_len_eq hgg hg)
      have p2:Hc <+: H2:=a2.trans b2
      have hr2:=pf_reads b2 (own_reads a3)
      rw [upto,List.flatMap_cons,← List.append_assoc]
      cases cf:fitsV n given (rs.map R.val) (g.set at' v) with
      | true=>
       rw [cf] at b1
       rw [ip rfl]
       obtain ⟨k',rfl⟩:∃ q,k=q + 1:=⟨k - 1,by omega⟩
       obtain ⟨H3,o3,d1,d2,d3,d4,d5⟩:=ih k' k' (by omega) (by omega) H2 (Sl.mk false Hc.length 0 g.length) oc (g.set at' v) lc (by simp; omega) (hBc.trans p2) (hoc.pf p2) cm hr2 (by first | omega | (simp only; omega) | (simp; omega)) (by first | omega | (simp only; omega) | (simp; omega)) hg1
       rw [List.length_set,← hnext] at d1
       have adv3:Adv2 b o.blk H H3:=(hadv.trans (pf_adv2 (b:=b) (c:=o.blk) p2) (.inl rfl)).trans d4 hocb
       have hb3:o3.blk=o.blk ∨ H.length ≤ o3.blk:=by
        have:=p2.length_le
        rcases d5 with e | e
        ·rw [e]; exact hocb
        ·right; omega
       have h2:=ihj fuel (v + 1) H3 o3 _ (by omega) (by omega) (by omega) d2 d3 (by simp; omega) adv3 hb3
       have e:SearchTo B b H o ((lc ++ sols (fitsV n given (rs.map R.val)) n.toNat rem (g.set at' v)) ++ (upto j (v + 1)).flatMap fun v=>if fitsV n given (rs.map R.val) (g.set at' v)=true then sols (fitsV n given (rs.map R.val)) n.toNat rem (g.set at' v) else []) most (spec_l5Search.l4 (callF PP orc (k' + 1)) (k' + 1) fuel xs at' (most:Int) b 0 (v + 1) n gs s H3):=by
        obtain ⟨H',s',q1,q2,q3,q4,q5⟩:=h2
        rw [take_app] at q3
        exact ⟨H',s',q1,q2,q3,q4,q5⟩
       have hcall:callF PP orc (k' + 1) spec_l5Search.id [.agg [.int .i64 n,.sl 1 gs,.sl 3 s],.sl 1 (Sl.mk false Hc.length 0 g.length),.int .i64 (IntKind.i64.wrap ((at':Int) + 1)),.int .i64 (most:Int),.ptr b 0] H2=some (.tup [],H3):=by
        rw [spec_l5Search.call]; exact d1
       simp (disch:=omega) only [spec_l5Search.l4,spec_l5Search.j5,spec_l5Search.j6,spec_l5Search.j7,dt,Za,Zt,Zn,Zo,hcl,read_ok hxc,hxl,appl_ok,cells_ok,a1,b1,AV.toB,hcall,wr (n:=v + 1)]
       exact e
      | false=>
       rw [cf] at b1
       rw [iN (by simp),List.append_nil]
       have h2:=ihj fuel (v + 1) H2 oc lc (by omega) (by omega) (by omega) (hBc.trans p2) (hoc.pf p2) hlc (hadv.trans (pf_adv2 (b:=b) (c:=o.blk) p2) (.inl rfl)) hocb
       simp (disch:=omega) only [spec_l5Search.l4,spec_l5Search.j5,spec_l5Search.j6,spec_l5Search.j7,dt,Za,Zt,Zf,Zn,Zo,hcl,read_ok hxc,hxl,appl_ok,cells_ok,a1,b1,AV.toB,wr (n:=v + 1)]
       exact h2
     ·refine ⟨Hc,oc,?_,hBc,?_,hadv,hocb⟩
      ·simp (disch:=omega) only [spec_l5Search.l4,spec_l5Search.j5,dt,df,bt,bf,nt,nf,Za,Zy,Zx,Zt,Zf,Zn,Zz,Zi,Zo,wr,AV.toB,AV.toI,AV.toS,if_true,hcl]
      ·rw [List.take_append_of_le_length (by omega),List.take_of_length_le hlc]; exact hoc
   have h1:=loop n.toNat k 1 H o ls (by omega) (by omega) (by omega) hB ho (by omega) (Adv2.refl _ _ _) (.inl rfl)
   simp (disch:=omega) only [spec_l5Search.l0,spec_l5Search.j1,spec_l5Search.j3,dt,df,bf,Za,Zt,Zf,Zn,Zo,rdn hx]
   exact h1
/-! ### spec.l5All -/
structure ReadsL (B H:Hp) (s:Sl) (ls:List (List Int)):Prop where
 len:s.len=ls.length
 at':∀ i,(h:i < ls.length)→∃ t,H.cell s.blk (s.off + i)=some (.sl 1 t)∧Own 1 B H t (ls[i].map (.int .i64))
theorem Outs.reads {B H:Hp} {b:Nat} {s:Sl} {ls:List (List Int)} (h:Outs B b H s ls):ReadsL B H s ls:=by
 obtain ⟨ss,h1,h2,h3⟩:=h.ex
 refine ⟨h.len,fun i hi=>⟨ss[i]'(by omega),?_,(h3 i (by omega) hi).1⟩⟩
 rw [own_cell h1]
 simp [show i < ss.length by omega]
theorem specl5All_ok {k:Nat} (hk:2000200 ≤ k) {H:Hp} {n:Int} {gs s:Sl} {given:List Int} {rs:List R} (hz:PuzAt H n gs s given rs) {most:Nat} (h0:1 ≤ most) (hmost:most ≤ 1000) :
  ∃ t H',callF PP orc k spec_l5All.id [.agg [.int .i64 n,.sl 1 gs,.sl 3 s],.int .i64 (most:Int)] H=some (.sl 1 t,H')∧H <+: H'∧ReadsL H H' t ((allSols n given (rs.map R.val)).take most):=by
 obtain ⟨k,rfl⟩:=Zs k (by omega)
 rw [spec_l5All.call]
 obtain ⟨H1,a1,a2,a3,a4⟩:=sto1' (H:=H ++ [some (Blk.mk false [])] ++ [some (Blk.mk false [.sl 1 Sl.none])]) (b:=(H ++ [some (Blk.mk false [])]).length) (x:=.sl 1 Sl.none) (by simp) (.sl 1 (Sl.mk false H.length 0 0))
 have hb:(H ++ [some (Blk.mk false ([]:List AV))]).length=H.length + 1:=by simp
 have p1:H <+: H1:=a3.pf (H0:=H) (by simp) ((List.prefix_append _ _).trans (List.prefix_append _ _)) (by omega)
 have ho1:Outs H (H ++ [some (Blk.mk false ([]:List AV))]).length H1 (Sl.mk false H.length 0 0) []:=by
  refine ⟨a2,by simp,by simp,[],?_,rfl,fun i hi=>by simp at hi⟩
  exact ⟨rfl,rfl,Nat.le_refl _,a3 _ _ (by simp) (by simp),rfl⟩
 obtain ⟨H2,b1,b2⟩:=specPuzzleFits_ok (show 2000042 ≤ k by omega) (hz.pf p1) (pf_reads p1 hz.rg) hz.gl
 have ho2:=ho1.pf b2
 unfold allSols
 cases c:puzzleFitsV n given (rs.map R.val) given with
 | false=>
  rw [c] at b1
  have hl:ldS 1 H2 (H ++ [some (Blk.mk false ([]:List AV))]).length 0=some (Sl.mk false H.length 0 0):=by unfold ldS Hp.cell; rw [ho2.cell]; simp [AV.toS]
  refine ⟨Sl.mk false H.length 0 0,H2,by simp only [spec_l5All.f,spec_l5All.j0,dt,df,bt,bf,nt,nf,Za,Zy,Zx,Zt,Zf,Zn,Zz,Zi,Zo,wr,AV.toB,AV.toI,AV.toS,if_true,a1,b1,hl],p1.trans b2,?_⟩
  rw [iN (by simp),List.take_nil]
  exact ho2.reads
 | true=>
  rw [c] at b1
  obtain ⟨k,rfl⟩:=Zs k (by omega)
  unfold puzzleFitsV at c
  simp only [Bool.and_eq_true] at c
  obtain ⟨q1,q2,q3⟩:=puzzleV_iff c.1
  have h16:=gridOk_len q1
  have hne:gs.blk ≠ (H ++ [some (Blk.mk false ([]:List AV))]).length∧gs.blk ≠ H.length:=by
   have hlt:0 < given.length:=by
    have:=((gridOk_iff given n).1 q1).2.1
    have hn:=hz.n4
    have:n=2 ∨ n=3 ∨ n=4:=by omega
    rcases this with rfl | rfl | rfl <;> omega
   have:=cell_lt (hz.rg.cell 0 hlt)
   omega
  obtain ⟨H3,o3,d1,d2,d3,d4,d5⟩:=l5Search_l0 hz q3 q1 hmost given.length k k (by omega) (by omega) H2 gs _ given [] (Nat.le_refl _) (p1.trans b2) ho2 (by simp; omega) (pf_reads (p1.trans b2) hz.rg) hne.1 hne.2 q1
  have hl:ldS 1 H3 (H ++ [some (Blk.mk false ([]:List AV))]).length 0=some o3:=by unfold ldS Hp.cell; rw [d3.cell]; simp [AV.toS]
  have hcall:callF PP orc (k + 1) spec_l5Search.id [.agg [.int .i64 n,.sl 1 gs,.sl 3 s],.sl 1 gs,.int .i64 0,.int .i64 (most:Int),.ptr (H ++ [some (Blk.mk false ([]:List AV))]).length 0] H2=some (.tup [],H3):=by
   rw [spec_l5Search.call]
   rw [Nat.sub_self] at d1; exact d1
  refine ⟨o3,H3,by simp only [spec_l5All.f,spec_l5All.j0,dt,df,bt,bf,nt,nf,Za,Zy,Zx,Zt,Zf,Zn,Zz,Zi,Zo,wr,AV.toB,AV.toI,AV.toS,if_true,a1,b1,hl,hcall],d2,?_⟩
  rw [ip rfl]
  exact d3.reads
def runL {σ:Type} (step:σ→List Int→σ × Bool):σ→List (List Int)→σ × Bool
 | st,[]=>(st,true)
 | st,x :: L=>if (step st x).2=true then runL step (step st x).1 L else ((step st x).1,false)
theorem runL_app {σ:Type} (step:σ→List Int→σ × Bool):∀ (A L:List (List Int)) (st:σ),runL step st (A ++ L)=if (runL step st A).2=true then runL step (runL step st A).1 L else runL step st A
 | [],L,st=>by simp [runL]
 | x :: A,L,st=>by
  rw [List.cons_append,runL,runL]
  by_cases h:(step st x).2=true
  ·rw [if_pos h,if_pos h,runL_app step A L]
  ·rw [if_neg h,if_neg h]; simp
theorem runL_one {σ:Type} (step:σ→List Int→σ × Bool) (st:σ) (x:List Int):runL step st [x]=step st x:=by
 rw [runL]
 by_cases h:(step st x).2=true
 ·rw [if_pos h,runL,← h]
 ·rw [if_neg h]
  rw [Bool.not_eq_true] at h
  rw [← h]
structure Tell (B:Hp) (f:FuncId) (caps:List AV) (b d:Nat) {σ:Type} (step:σ→List Int→σ × Bool) (T:Nat→σ × Bool→Hp→Prop) (K:Nat):Prop where
 ok:okF PP f=true
 gl:caps.all AV.glob=true
 bB:B.length ≤ b
 bd:b ≠ d
 pf:∀ c st H H',T c st H→H <+: H'→T c st H'
 wr:∀ c st H H',T c st H→But d H H'→H'.length=H.length→T c st H'
 go:∀ k,K ≤ k→∀ c st H t g,T c (st,true) H→B <+: H→Reads .i64 H t g→g.length ≤ 16→t.blk=d→t.nil=false→c ≠ d→B.length ≤ c→∃ H' c',callF PP orc k f ([.sl 1 t] ++ caps) H=some (.bool (step st g).2,H')∧T c' (step st g) H'∧Adv2 b c H H'∧(c'=c ∨ H.length ≤ c')
structure Adv3 (d b c:Nat) (H H':Hp):Prop where
 but:∀ (e:Nat) (x:Option Blk),e ≠ d→e ≠ b→e ≠ c→H[e]?=some x→H'[e]?=some x
 le:H.length ≤ H'.length
theorem Adv3.refl (d b c:Nat) (H:Hp):Adv3 d b c H H:=⟨fun _ _ _ _ _ h=>h,Nat.le_refl _⟩
theorem Adv3.trans {d b c c':Nat} {H H1 H2:Hp} (h:Adv3 d b c H H1) (h':Adv3 d b c' H1 H2) (hc:c'=c ∨ H.length ≤ c'):Adv3 d b c H H2:=
 ⟨fun e x h1 h2 h3 hx=>by
  have hd:=(List.getElem?_eq_some_iff.1 hx).1
  exact h'.but e x h1 h2 (by omega) (h.but e x h1 h2 h3 hx),Nat.le_trans h.le h'.le⟩
theorem pf_adv3 {d b c:Nat} {H H':Hp} (g:H <+: H'):Adv3 d b c H H':=⟨fun e x _ _ _ hx=>pf_get g hx,g.length_le⟩
theorem adv_adv3 {d b c:Nat} {H H':Hp} (g:Adv d H H'):Adv3 d b c H H':=⟨fun e x h1 _ _ hx=>g.but e x h1 hx,g.le⟩
theorem adv2_adv3 {d b c:Nat} {H H':Hp} (g:Adv2 b c H H'):Adv3 d b c H H':=⟨fun e x _ h2 h3 hx=>g.but e x h2 h3 hx,g.le⟩
theorem Adv3.pf {d b c:Nat} {H H' B:Hp} (h:Adv3 d b c H H') (hd:B.length ≤ d) (hb:B.length ≤ b) (hc:B.length ≤ c) (g:B <+: H):B <+: H':=by
 have hl0:=g.length_le
 have hle:=h.le
 rw [List.prefix_iff_eq_take]
 apply List.ext_getElem?
 intro i
 by_cases hi:i < B.length
 ·rw [List.getElem?_take,if_pos hi]
  have e:=List.getElem?_eq_getElem hi
  rw [e,h.but i _ (by omega) (by omega) (by omega) (pf_get g e)]
 ·rw [List.getElem?_eq_none (by omega),List.getElem?_eq_none (by simp; omega)]
structure Bx (H:Hp) (gb tb yb nb pb:Nat) (n:Int) (gs ps ss:Sl) (f:FuncId) (caps:List AV):Prop where
 bg:H[gb]?=some (some ⟨false,[.sl 1 gs]⟩)
 bt:H[tb]?=some (some ⟨false,[.fn f caps]⟩)
 bo:H[yb]?=some (some ⟨false,[.fn impl_solutions_1.id [.ptr gb 0,.ptr tb 0,.ptr yb 0,.ptr nb 0,.ptr pb 0]]⟩)
 bn:H[nb]?=some (some ⟨false,[.int .i64 n]⟩)
 bp:H[pb]?=some (some ⟨false,[.int .i64 n,.sl 1 ps,.sl 3 ss]⟩)
def Five (x gb tb yb nb pb:Nat):Prop:=gb ≠ x∧tb ≠ x∧yb ≠ x∧nb ≠ x∧pb ≠ x
theorem Bx.adv {H H':Hp} {gb tb yb nb pb:Nat} {n:Int} {gs ps ss:Sl} {f:FuncId} {caps:List AV} (h:Bx H gb tb yb nb pb n gs ps ss f caps) {d b c:Nat} (a:Adv3 d b c H H') (hd:Five d gb tb yb nb pb) (hb:Five b gb tb yb nb pb) (hc:Five c gb tb yb nb pb):Bx H' gb tb yb nb pb n gs ps ss f caps:=by
 obtain ⟨d1,d2,d3,d4,d5⟩:=hd
 obtain ⟨b1,b2,b3,b4,b5⟩:=hb
 obtain ⟨c1,c2,c3,c4,c5⟩:=hc
 exact ⟨a.but _ _ d1 b1 c1 h.bg,a.but _ _ d2 b2 c2 h.bt,a.but _ _ d3 b3 c3 h.bo,a.but _ _ d4 b4 c4 h.bn,a.but _ _ d5 b5 c5 h.bp⟩
theorem Bx.five {H:Hp} {gb tb yb nb pb:Nat} {n:Int} {gs ps ss:Sl} {f:FuncId} {caps:List AV} (h:Bx H gb tb yb nb pb n gs ps ss f caps) {c:Nat} (hc:H.length ≤ c):Five c gb tb yb nb pb:=by
 have h1:=(List.getElem?_eq_some_iff.1 h.bg).1
 have h2:=(List.getElem?_eq_some_iff.1 h.bt).1
 have h3:=(List.getElem?_eq_some_iff.1 h.bo).1
 have h4:=(List.getElem?_eq_some_iff.1 h.bn).1
 have h5:=(List.getElem?_eq_some_iff.1 h.bp).1
 exact ⟨by omega,by omega,by omega,by omega,by omega⟩
theorem okSol:okF PP impl_solutions_1.id=true:=by kernel_rfl
theorem box_fn {H:Hp} {b:Nat} {f:FuncId} {cs:List AV} (h:H[b]?=some (some ⟨false,[.fn f cs]⟩)):ldF H b 0=some (f,cs):=by unfold ldF Hp.cell; rw [h]; simp [AV.toF]
theorem set_set (l:List Int) (i:Nat) (a b:Int):(l.set i a).set i b=l.set i b:=by
 apply List.ext_getElem?
 intro j
 by_cases e:i=j
 ·subst e
  by_cases h:i < l.length
  ·rw [List.getElem?_set_self (by simpa using h),List.getElem?_set_self h]
  ·rw [List.getElem?_eq_none (by simp; omega),List.getElem?_eq_none (by simp; omega)]
 ·rw [List.getElem?_set_ne e,List.getElem?_set_ne e,List.getElem?_set_ne e]
theorem set_same (l:List Int) (i:Nat) (h:l.getD i 0=0):l.set i 0=l:=by
 apply List.ext_getElem?
 intro j
 by_cases e:i=j
 ·subst e
  by_cases hi:i < l.length
  ·rw [List.getElem?_set_self hi,List.getElem?_eq_getElem hi]
   rw [List.getD_eq_getElem?_getD,List.getElem?_eq_getElem hi] at h
   simp at h; rw [h]
  ·rw [List.getElem?_eq_none (by simp; omega),List.getElem?_eq_none (by omega)]
 ·rw [List.getElem?_set_ne e]
def SolTo {σ:Type} (B:Hp) (b:Nat) (gs:Sl) (T:Nat→σ × Bool→Hp→Prop) (c:Nat) (H:Hp) (g:List Int) (R:σ × Bool) (r:An):Prop:=
 ∃ H' c' g',r=some (.bool R.2,H')∧B <+: H'∧Adv3 gs.blk b c H H'∧Own 1 B H' gs (g'.map (.int .i64))∧g'.length=g.length∧(R.2=true→g'=g)∧T c' R H'∧(c'=c ∨ H.length ≤ c')
theorem fr_step {b c0 c d:Nat} {H0 H H1:Hp} (hf:Adv2 b c0 H0 H) (ha:Adv3 d b c H H1) (hd:H0.length ≤ d) (hc:c=c0 ∨ H0.length ≤ c):Adv2 b c0 H0 H1:=
 ⟨fun e x h1 h2 hx=>by
  have he:=(List.getElem?_eq_some_iff.1 hx).1
  exact ha.but e x (by omega) h1 (by omega) (hf.but e x h1 h2 hx),Nat.le_trans hf.le ha.le⟩
theorem Sol_ok {B:Hp} {f:FuncId} {caps:List AV} {b:Nat} {gs ps ss:Sl} {σ:Type} {step:σ→List Int→σ × Bool} {T:Nat→σ × Bool→Hp→Prop} {K:Nat} (tell:Tell B f caps b gs.blk step T K) {gb tb yb nb pb:Nat} {n:Int} {given:List Int} {rs:List R} {H0:Hp} {c0:Nat} (hn:2 ≤ n∧n ≤ 4) (hzk:∀ H,Adv2 b c0 H0 H→PuzAt H n ps ss given rs) (hd0:H0.length ≤ gs.blk) (hro:∀ r ∈ rs,R.ok n r=true) (hgg:gridOk given n=true) (hd5:Five gs.blk gb tb yb nb pb) (hb5:Five b gb tb yb nb pb) :
  ∀ (rem k:Nat),K + 2000200 + rem ≤ k→∀ (H:Hp) (g:List Int) (c:Nat) (st:σ),rem ≤ g.length→B <+: H→Bx H gb tb yb nb pb n gs ps ss f caps→Five c gb tb yb nb pb→c ≠ gs.blk→B.length ≤ c→Own 1 B H gs (g.map (.int .i64))→gridOk g n=true→Le given g→fitsV n given (rs.map R.val) g=true→T c (st,true) H→Adv2 b c0 H0 H→(c=c0 ∨ H0.length ≤ c) →
   SolTo B b gs T c H g (runL step st (sols (fitsV n given (rs.map R.val)) n.toNat rem g)) (callF PP orc k impl_solutions_1.id [.int .i64 ((g.length - rem:Nat):Int),.ptr gb 0,.ptr tb 0,.ptr yb 0,.ptr nb 0,.ptr pb 0] H):=by
 have hrv:∀ r ∈ rs.map R.val,ruleOkV n r=true:=by
  intro r hr
  obtain ⟨q,hq,e⟩:=List.mem_map.1 hr
  rw [← e]; exact hro q hq
 have hgiv:∀ x,0 ≤ given.getD x 0:=fun x=>by
  have hgb:=((gridOk_iff given n).1 hgg).2.2
  by_cases h:x < given.length
  ·exact (hgb _ (mem_getD h)).1
  ·rw [List.getD_eq_getElem?_getD,List.getElem?_eq_none (by omega)]; simp
 intro rem
 induction rem with
 | zero=>
  intro k hk H g c st hrem hB hbx hc5 hcd hcB ho hg hle hf hT hfr hc0
  obtain ⟨k,rfl⟩:=Zs k (by omega)
  rw [impl_solutions_1.call]
  have rg:=own_reads ho
  have hgl:=rg.len
  have h16:=gridOk_len hg
  obtain ⟨H',c',a1,a2,a3,a4⟩:=tell.go k (by omega) c st H gs g hT hB rg h16 rfl ho.nn hcd hcB
  rw [sols,runL_one]
  have adv:Adv3 gs.blk b c H H':=adv2_adv3 a3
  refine ⟨H',c',g,?_,adv.pf ho.blk tell.bB hcB hB,adv,a3.own (Ne.symm tell.bd) (Ne.symm hcd) ho,rfl,fun _=>rfl,a2,a4⟩
  have hcg:([.sl 1 gs] ++ caps:List AV).all AV.glob=true:=by rw [List.all_append,tell.gl]; rfl
  simp (disch:=omega) only [impl_solutions_1.f,dt,df,bt,bf,nt,nf,Za,Zy,Zx,Zt,Zf,Zn,Zz,Zi,Zo,wr,AV.toB,AV.toI,AV.toS,if_true,box_sl hbx.bg,box_fn hbx.bt,tell.ok,hcg,a1]
 | succ rem ih=>
  intro k hk H g c st hrem hB hbx hc5 hcd hcB ho hg hle hf hT hfr hc0
  obtain ⟨k,rfl⟩:=Zs k (by omega)
  rw [impl_solutions_1.call]
  have rg:=own_reads ho
  have hgl:=rg.len
  have h16:=gridOk_len hg
  have hat:g.length - (rem + 1) < g.length:=by omega
  rw [sols]
  generalize hA:g.length - (rem + 1)=at' at hat ⊢
  have hnext:IntKind.i64.wrap ((at':Int) + 1)=((g.length - rem:Nat):Int):=by rw [wr (by omega) (by omega)]; omega
  have hfy:=box_fn hbx.bo
  have hcg:∀ z:Int,([.int .i64 z,.ptr gb 0,.ptr tb 0,.ptr yb 0,.ptr nb 0,.ptr pb 0]:List AV).all AV.glob=true:=fun z=>rfl
  by_cases c0:0 < g.getD at' 0
  ·rw [ip c0]
   have h1:=ih k (by omega) H g c st (by omega) hB hbx hc5 hcd hcB ho hg hle hf hT hfr hc0
   rw [← hnext] at h1
   obtain ⟨H',c',g',e1,e2⟩:=h1
   refine ⟨H',c',g',?_,e2⟩
   simp only [impl_solutions_1.f,box_sl hbx.bg,Zo,bf (show (at':Int) ≠ (gs.len:Int) by omega),Zf,Zt,dt (show (0:Int) ≤ (at':Int) by omega),dt (show (at':Int) < (gs.len:Int) by omega),Za,Zn,rdn rg hat,dt (show g.getD at' 0 > 0 from c0),hfy,okSol,hcg,List.cons_append,List.nil_append,e1,AV.toB]
  ·rw [iN c0]
   have hv0:=((gridOk_iff g n).1 hg).2.2 _ (mem_getD hat)
   have h0:g.getD at' 0=0:=by omega
   have loop:∀ (j fuel:Nat) (v x:Int) (Hc:Hp) (cc:Nat) (sc:σ),v + j=n + 1→1 ≤ v→j < fuel→B <+: Hc→Bx Hc gb tb yb nb pb n gs ps ss f caps→Five cc gb tb yb nb pb→cc ≠ gs.blk→B.length ≤ cc→Own 1 B Hc gs ((g.set at' x).map (.int .i64))→T cc (sc,true) Hc→Adv3 gs.blk b c H Hc→(cc=c ∨ H.length ≤ cc) →
     SolTo B b gs T c H g (runL step sc ((upto j v).flatMap fun v=>if fitsV n given (rs.map R.val) (g.set at' v)=true then sols (fitsV n given (rs.map R.val)) n.toNat rem (g.set at' v) else [])) (impl_solutions_1.l0 (callF PP orc k) k fuel at' gb 0 yb 0 nb 0 pb 0 v Hc):=by
    intro j
    induction j with
    | zero=>
     intro fuel v x Hc cc sc hv hv1 hfu hBc hbc hcc5 hccd hccB hoc hTc hadv hcc
     obtain ⟨fuel,rfl⟩:=Zs fuel (by omega)
     obtain ⟨H1,a1,a2,a3,a4⟩:=own_set1 hoc hBc at' (by simpa using hat) 0
     have hgl1:=(own_reads hoc).len
     simp only [List.length_set] at hgl1
     rw [set_set,set_same g at' h0] at a3
     have hld:ldI .i64 Hc nb 0=some n:=by unfold ldI Hp.cell; rw [hbc.bn]; simp [AV.toI]
     have hl1:H1.length=Hc.length:=by
      have:=own_sto hoc hBc at' [.int .i64 0] (by simp; omega)
      obtain ⟨H2,q1,q2,q3,q4,q5⟩:=this
      rw [Nat.mul_one] at a1
      rw [a1] at q1
      simp only [Option.some.injEq] at q1
      rw [q1]; exact q5
     refine ⟨H1,cc,g,?_,a2,hadv.trans (adv_adv3 a4) (.inl rfl),a3,rfl,fun _=>rfl,tell.wr _ _ _ _ hTc a4.but hl1,hcc⟩
     simp only [upto,List.flatMap_nil,runL]
     simp (disch:=omega) only [impl_solutions_1.l0,impl_solutions_1.j2,dt,df,bt,bf,nt,nf,Za,Zy,Zx,Zt,Zf,Zn,Zz,Zi,Zo,wr,AV.toB,AV.toI,AV.toS,if_true,hld,box_sl hbc.bg,a1]
    | succ j ihj=>
     intro fuel v x Hc cc sc hv hv1 hfu hBc hbc hcc5 hccd hccB hoc hTc hadv hcc
     obtain ⟨fuel,rfl⟩:=Zs fuel (by omega)
     have hld:ldI .i64 Hc nb 0=some n:=by unfold ldI Hp.cell; rw [hbc.bn]; simp [AV.toI]
     have hgl1:=(own_reads hoc).len
     simp only [List.length_set] at hgl1
     obtain ⟨H1,a1,a2,a3,a4⟩:=own_set1 hoc hBc at' (by simpa using hat) v
     rw [set_set] at a3
     have hl1:H1.length=Hc.length:=by
      have:=own_sto hoc hBc at' [.int .i64 v] (by simp; omega)
      obtain ⟨H2,q1,q2,q3,q4,q5⟩:=this
      rw [Nat.mul_one] at a1
      rw [a1] at q1
      simp only [Option.some.injEq] at q1
      rw [q1]; exact q5
     have hT1:=tell.wr _ _ _ _ hTc a4.but hl1
     have hb1:=hbc.adv (adv_adv3 (b:=b) (c:=cc) a4) hd5 hb5 hcc5
     have hg1:=grid_set hg at' v ⟨by omega,by omega⟩
     have r1:ldI .i64 H1 pb 0=some n:=by unfold ldI Hp.cell; rw [hb1.bp]; simp [AV.toI]
     have r2:ldS 1 H1 pb (0 + 1)=some ps:=by unfold ldS Hp.cell; rw [hb1.bp]; simp [AV.toS]
     have r3:ldS 3 H1 pb (0 + 1 + 1)=some ss:=by unfold ldS Hp.cell; rw [hb1.bp]; simp [AV.toS]
     obtain ⟨H2,d1,d2⟩:=cellFits_ok (show 2000042 ≤ k by omega) (hzk H1 (fr_step hfr (hadv.trans (adv_adv3 (b:=b) (c:=cc) a4) hcc) hd0 hc0)) hro (own_reads a3) hg1 (at':=at') (by simpa using hat)
     rw [← fits_step hf hg hle hgiv hat h0 ⟨hv1,by omega⟩ hrv] at d1
     have hT2:=tell.pf _ _ _ _ hT1 d2
     have hb2:=hb1.adv (pf_adv3 (d:=gs.blk) (b:=b) (c:=cc) d2) hd5 hb5 hcc5
     have hB2:=a2.trans d2
     have adv2:Adv3 gs.blk b c H H2:=(hadv.trans (adv_adv3 (b:=b) (c:=cc) a4) hcc).trans (pf_adv3 (b:=b) (c:=cc) d2) hcc
     rw [upto,List.flatMap_cons,runL_app]
     cases cf:fitsV n given (rs.map R.val) (g.set at' v) with
     | true=>
      rw [cf] at d1
      rw [ip rfl]
      obtain ⟨H3,c3,g3,e1,e2,e3,e4,e5,e6,e7,e8⟩:=ih k (by omega) H2 (g.set at' v) cc sc (by simp; omega) hB2 hb2 hcc5 hccd hccB (own_pf a3 d2) hg1 (hle.trans (by
       refine ⟨by simp,fun i=>?_⟩
       rw [getD_set]
       by_cases e:at'=i
       ·subst e; exact .inl h0
       ·rw [if_neg (by omega)]; exact .inr rfl)) cf hT2 (fr_step hfr adv2 hd0 hc0) (by have:=hfr.le; omega)
      rw [List.length_set,← hnext] at e1
      have hc3:c3=c ∨ H.length ≤ c3:=by
       have:=adv2.le
       rcases e8 with h | h
       ·rw [h]; exact hcc
       ·right; omega
      have adv3:=adv2.trans e3 hcc
      have hfy2:=box_fn hb2.bo
      cases hr:(runL step sc (sols (fitsV n given (rs.map R.val)) n.toNat rem (g.set at' v))).2 with
      | true=>
       rw [hr] at e1
       rw [ip rfl]
       have hg3:=e6 hr
       subst hg3
       have hc35:Five c3 gb tb yb nb pb:=by
        rcases e8 with h | h
        ·rw [h]; exact hcc5
        ·exact hb2.five h
       have hd3:=own_lt' (own_pf a3 d2)
       have hc3d:c3 ≠ gs.blk:=by rcases e8 with h | h; rw [h]; exact hccd; omega
       have hc3B:B.length ≤ c3:=by have:=hB2.length_le; rcases e8 with h | h; rw [h]; exact hccB; omega
       obtain ⟨H4,c4,g4,f1,f2⟩:=ihj fuel (v + 1) v H3 c3 _ (by omega) (by omega) (by omega) e2 (hb2.adv e3 hd5 hb5 hcc5) hc35 hc3d hc3B e4 (by have e7':=e7; rw [← hr]; exact e7') adv3 hc3
       refine ⟨H4,c4,g4,?_,f2⟩
       simp (disch:=omega) only [impl_solutions_1.l0,impl_solutions_1.j1,impl_solutions_1.j3,dt,Za,Zy,Zt,Zf,Zn,Zo,hld,box_sl hbc.bg,a1,r1,r2,r3,box_sl hb1.bg,d1,AV.toB,hfy2,okSol,hcg,List.cons_append,List.nil_append,e1,wr (n:=v + 1),f1]
      | false=>
       rw [hr] at e1
       rw [iN (by simp)]
       refine ⟨H3,c3,g3,?_,e2,adv3,e4,by simpa using e5,(fun h=>by rw [hr] at h; cases h),e7,hc3⟩
       rw [hr]
       simp (disch:=omega) only [impl_solutions_1.l0,impl_solutions_1.j1,impl_solutions_1.j3,dt,Za,Zx,Zt,Zf,Zn,Zo,hld,box_sl hbc.bg,a1,r1,r2,r3,box_sl hb1.bg,d1,AV.toB,hfy2,okSol,hcg,List.cons_append,List.nil_append,e1]
     | false=>
      rw [cf] at d1
      simp only [Bool.false_eq_true,if_false,runL,if_true]
      obtain ⟨H4,c4,g4,f1,f2⟩:=ihj fuel (v + 1) v H2 cc sc (by omega) (by omega) (by omega) hB2 hb2 hcc5 hccd hccB (own_pf a3 d2) hT2 adv2 hcc
      refine ⟨H4,c4,g4,?_,f2⟩
      simp (disch:=omega) only [impl_solutions_1.l0,impl_solutions_1.j1,impl_solutions_1.j3,dt,Za,Zt,Zf,Zn,Zo,hld,box_sl hbc.bg,a1,r1,r2,r3,box_sl hb1.bg,d1,AV.toB,wr (n:=v + 1),f1]
   have hset:g.set at' 0=g:=set_same g at' h0
   obtain ⟨H4,c4,g4,f1,f2⟩:=loop n.toNat k 1 0 H c st (by omega) (by omega) (by omega) hB hbx hc5 hcd hcB (by rw [hset]; exact ho) hT (Adv3.refl _ _ _ _) (.inl rfl)
   refine ⟨H4,c4,g4,?_,f2⟩
   simp only [impl_solutions_1.f,box_sl hbx.bg,Zo,bf (show (at':Int) ≠ (gs.len:Int) by omega),Zf,Zt,dt (show (0:Int) ≤ (at':Int) by omega),dt (show (at':Int) < (gs.len:Int) by omega),Za,Zn,rdn rg hat,df (show ¬ g.getD at' 0 > 0 from c0),f1]
theorem readsL0 {B H:Hp} {t:Sl} {ls:List (List Int)} (h:ReadsL B H t ls) (hl:0 < ls.length):∃ u,ldS 1 H t.blk (t.off + 0 * 1)=some u∧Own 1 B H u (ls[0].map (.int .i64)):=by
 obtain ⟨u,a,b⟩:=h.at' 0 hl
 refine ⟨u,?_,b⟩
 unfold ldS
 rw [Nat.zero_mul,a]; simp [AV.toS]
def firstV (n:Int) (given:List Int) (vs:List V):Option (List Int):=(allSols n given vs).head?
theorem specSolveFirst_ok {k:Nat} (hk:2000201 ≤ k) {H:Hp} {n:Int} {gs s:Sl} {given:List Int} {rs:List R} (hz:PuzAt H n gs s given rs) :
  ∃ t H',H <+: H'∧((firstV n given (rs.map R.val)=none∧callF PP orc k spec_SolveFirst.id [.agg [.int .i64 n,.sl 1 gs,.sl 3 s]] H=some (.tup [.sl 1 t,.bool false],H')∧Own 1 H H' t (([]:List Int).map (.int .i64))) ∨
   (∃ x,firstV n given (rs.map R.val)=some x∧callF PP orc k spec_SolveFirst.id [.agg [.int .i64 n,.sl 1 gs,.sl 3 s]] H=some (.tup [.sl 1 t,.bool true],H')∧Own 1 H H' t (x.map (.int .i64)))):=by
 obtain ⟨k,rfl⟩:=Zs k (by omega)
 rw [spec_SolveFirst.call]
 obtain ⟨t,H1,a1,a2,a3⟩:=specl5All_ok (show 2000200 ≤ k by omega) hz (most:=1) (by omega) (by omega)
 have a1':callF PP orc k spec_l5All.id [.agg [.int .i64 n,.sl 1 gs,.sl 3 s],.int .i64 1] H=some (.sl 1 t,H1):=a1
 have hl:=a3.len
 unfold firstV
 generalize allSols n given (rs.map R.val)=L at *
 cases L with
 | nil=>
  simp at hl
  refine ⟨Sl.mk false H1.length 0 0,H1 ++ [some (Blk.mk false [])],a2.trans (List.prefix_append _ _),.inl ⟨rfl,?_,own_base (own_new 1 H1 [] 0 rfl) a2⟩⟩
  simp (disch:=omega) only [spec_SolveFirst.f,dt,df,bt,bf,nt,nf,Za,Zy,Zx,Zt,Zf,Zn,Zz,Zi,Zo,wr,AV.toB,AV.toI,AV.toS,if_true,a1']
 | cons x L=>
  simp at hl
  obtain ⟨u,b1,b2⟩:=readsL0 a3 (by simp)
  refine ⟨u,H1,a2,.inr ⟨x,rfl,?_,b2⟩⟩
  simp (disch:=omega) only [spec_SolveFirst.f,dt,df,bt,bf,nt,nf,Za,Zy,Zx,Zt,Zf,Zn,Zz,Zi,Zo,wr,AV.toB,AV.toI,AV.toS,if_true,a1',b1]
theorem sols_grid {f:List Int→Bool} {n:Int}:∀ (rem:Nat) (g:List Int),gridOk g n=true→rem ≤ g.length→∀ x ∈ sols f n.toNat rem g,gridOk x n=true∧x.length=g.length
 | 0,g,hg,_,x,hx=>by rw [sols] at hx; simp at hx; subst hx; exact ⟨hg,rfl⟩
 | rem + 1,g,hg,hr,x,hx=>by
  rw [sols] at hx
  split at hx
  ·exact sols_grid rem g hg (by omega) x hx
  ·obtain ⟨v,hv,hx⟩:=List.mem_flatMap.1 hx
   split at hx
   ·have hn:=((gridOk_iff g n).1 hg).1
    have hv':∀ (j:Nat) (w v:Int),v ∈ upto j w→w ≤ v∧v < w + j:=by
     intro j
     induction j with
     | zero=>intro w v h; cases h
     | succ j ih=>
      intro w v h
      rcases List.mem_cons.1 h with e | e
      ·omega
      ·have:=ih _ _ e; omega
    have:=hv' _ _ _ hv
    have h1:=sols_grid rem _ (grid_set hg _ v ⟨by omega,by omega⟩) (by simp; omega) x hx
    exact ⟨h1.1,h1.2.trans (by simp)⟩
   ·cases hx
theorem first_grid {n:Int} {given:List Int} {vs:List V} {x:List Int} (h:firstV n given vs=some x):gridOk x n=true∧x.length=given.length∧puzzleFitsV n given vs given=true:=by
 unfold firstV allSols at h
 split at h
 ·rename_i hf
  have hm:=List.mem_of_mem_head? h
  have hf':=hf
  unfold puzzleFitsV at hf'
  simp only [Bool.and_eq_true] at hf'
  have:=sols_grid _ _ hf'.2.1 (Nat.le_refl _) x hm
  exact ⟨this.1,this.2,hf⟩
 ·cases h
structure OutD (B:Hp) (b d:Nat) (H:Hp) (s:Sl) (ls:List (List Int)):Prop where
 cell:H[b]?=some (some ⟨false,[.sl 1 s]⟩)
 bB:B.length ≤ b
 bs:s.blk ≠ b
 bd:b ≠ d
 sd:s.blk ≠ d
 ex:∃ ss:List Sl,Own 1 B H s (ss.map (.sl 1))∧ss.length=ls.length∧∀ i,(h:i < ss.length)→(h':i < ls.length)→Own 1 B H ss[i] (ls[i].map (.int .i64))∧ss[i].blk ≠ b∧ss[i].blk ≠ s.blk∧ss[i].blk < H.length∧B.length ≤ ss[i].blk∧ss[i].blk ≠ d
theorem OutD.reads {B H:Hp} {b d:Nat} {s:Sl} {ls:List (List Int)} (h:OutD B b d H s ls):ReadsL B H s ls:=by
 obtain ⟨ss,h1,h2,h3⟩:=h.ex
 have:Outs B b H s ls:=⟨h.cell,h.bB,h.bs,ss,h1,h2,fun i hi hi'=>by
  obtain ⟨a,b,c,d,e,f⟩:=h3 i hi hi'
  exact ⟨a,b,c,d,e⟩⟩
 exact this.reads
theorem OutD.len {B H:Hp} {b d:Nat} {s:Sl} {ls:List (List Int)} (h:OutD B b d H s ls):s.len=ls.length:=h.reads.len
theorem OutD.pf {B H H':Hp} {b d:Nat} {s:Sl} {ls:List (List Int)} (h:OutD B b d H s ls) (g:H <+: H'):OutD B b d H' s ls:=by
 obtain ⟨ss,h1,h2,h3⟩:=h.ex
 exact ⟨pf_get g h.cell,h.bB,h.bs,h.bd,h.sd,ss,own_pf h1 g,h2,fun i hi hi'=>by
  obtain ⟨a,b,c,d,e,f⟩:=h3 i hi hi'
  exact ⟨own_pf a g,b,c,Nat.lt_of_lt_of_le d g.length_le,e,f⟩⟩
theorem OutD.wr {B H H':Hp} {b d:Nat} {s:Sl} {ls:List (List Int)} (h:OutD B b d H s ls) (g:But d H H') (hl:H'.length=H.length):OutD B b d H' s ls:=by
 obtain ⟨ss,h1,h2,h3⟩:=h.ex
 exact ⟨g _ _ h.bd h.cell,h.bB,h.bs,h.bd,h.sd,ss,g.own h.sd h1,h2,fun i hi hi'=>by
  obtain ⟨a,b,c,d,e,f⟩:=h3 i hi hi'
  exact ⟨g.own f a,b,c,by omega,e,f⟩⟩
theorem outD_app {B H:Hp} {b d:Nat} {s:Sl} {ls:List (List Int)} (h:OutD B b d H s ls) (hB:B <+: H) (hl:ls.length ≤ 100000) {t:Sl} {g:List Int} (ht:Own 1 B H t (g.map (.int .i64))) (t1:t.blk ≠ b) (t2:t.blk ≠ s.blk) (t3:t.blk < H.length) (t4:B.length ≤ t.blk) (t5:t.blk ≠ d) (hd:d < H.length) :
  ∃ H1 H2,H.app 1 s 1 [.sl 1 t]=some (Sl.mk false H.length 0 (ls.length + 1),H1)∧H1.sto b 0 [.sl 1 (Sl.mk false H.length 0 (ls.length + 1))]=some H2∧OutD B b d H2 (Sl.mk false H.length 0 (ls.length + 1)) (ls ++ [g])∧Adv2 b s.blk H H2∧B <+: H2:=by
 obtain ⟨ss,h1,h2,h3⟩:=h.ex
 have hsl:=h.len
 obtain ⟨H1,a1,a2,a3,a4,a5⟩:=own_app h1 hB 1 [.sl 1 t] (by omega) (by omega) (by omega) (by omega) rfl
 rw [hsl] at a1 a3
 have hb1:=a4 b _ (Ne.symm h.bs) h.cell
 obtain ⟨H2,c1,c2,c3,c4⟩:=sto1' hb1 (.sl 1 (Sl.mk false H.length 0 (ls.length + 1)))
 have hbl:=(List.getElem?_eq_some_iff.1 h.cell).1
 have adv:Adv2 b s.blk H H2:=⟨fun d x d1 d2 hx=>c3 d x d1 (a4 d x d2 hx),by omega⟩
 refine ⟨H1,H2,a1,c1,⟨c2,h.bB,by simp only; omega,h.bd,by simp only; omega,ss ++ [t],?_,by simp [h2],fun i hi hi'=>?_⟩,adv,adv.pf h.bB h1.blk hB⟩
 ·have:=c3.own (by simp only; omega) a3
  simpa using this
 ·by_cases e:i < ss.length
  ·obtain ⟨q1,q2,q3,q4,q5,q6⟩:=h3 i e (by omega)
   rw [List.getElem_append_left e,List.getElem_append_left (by omega)]
   exact ⟨adv.own q2 q3 q1,q2,by simp only; omega,by omega,q5,q6⟩
  ·have ei:i=ss.length:=by simp at hi; omega
   subst ei
   have e1:(ss ++ [t])[ss.length]=t:=by simp
   have e2:(ls ++ [g])[ss.length]=g:=by simp [h2]
   rw [e1,e2]
   exact ⟨adv.own t1 t2 ht,t1,by simp only; omega,by omega,t4,t5⟩
structure TF (B:Hp) (b mb:Nat) (most:Int) (d c:Nat) (st:List (List Int) × Bool) (H:Hp):Prop where
 ex:∃ s:Sl,s.blk=c∧OutD B b d H s st.1
 m:H[mb]?=some (some ⟨false,[.int .i64 most]⟩)
 m1:mb ≠ b
 m2:mb ≠ c
 m3:mb ≠ d
 hd:d < H.length
 lt:st.2=true→(st.1.length:Int) < most
def stepF (most:Int) (ls:List (List Int)) (x:List Int):List (List Int) × Bool:=(ls ++ [x],decide (((ls.length + 1:Nat):Int) < most))
theorem tell_first {B:Hp} {b d mb:Nat} {most:Int} (hbd:b ≠ d) (hbB:B.length ≤ b) (hm:most ≤ 1000):Tell B impl_firstSolutions_1.id [.ptr b 0,.ptr mb 0] b d (stepF most) (TF B b mb most d) 10:=by
 refine ⟨by kernel_rfl,rfl,hbB,hbd,?_,?_,?_⟩
 ·rintro c st H H' ⟨⟨s,hc,ho⟩,m,m1,m2,m3,hd,hlt⟩ g
  exact ⟨⟨s,hc,ho.pf g⟩,pf_get g m,m1,m2,m3,Nat.lt_of_lt_of_le hd g.length_le,hlt⟩
 ·rintro c st H H' ⟨⟨s,hc,ho⟩,m,m1,m2,m3,hd,hlt⟩ g hl
  exact ⟨⟨s,hc,ho.wr g hl⟩,g _ _ m3 m,m1,m2,m3,by omega,hlt⟩
 ·rintro k hk c st H t g ⟨⟨s,hc,ho⟩,m,m1,m2,m3,hd,hlt⟩ hB hr h16 htd htn hcd hcB
  subst hc
  have hlt':=hlt rfl
  simp only at hlt' ho
  obtain ⟨k,rfl⟩:=Zs k (by omega)
  have hcell:ldS 1 H b 0=some s:=by unfold ldS Hp.cell; rw [ho.cell]; simp [AV.toS]
  have hbl:=(List.getElem?_eq_some_iff.1 ho.cell).1
  have hml:=(List.getElem?_eq_some_iff.1 m).1
  have g1:H <+: H ++ [some (Blk.mk false (g.map (.int .i64)))]:=List.prefix_append _ _
  have hnew:=own_new 1 H (g.map (.int .i64)) g.length (by simp)
  have hst:stableB H (H ++ [some (Blk.mk false (g.map (.int .i64)))]) b 0 1=true:=by
   have e1:H.cell b 0=some (.sl 1 s):=by unfold Hp.cell; rw [ho.cell]; rfl
   have e2:=pf_cell g1 e1
   unfold stableB
   simp [e1,e2,AV.same]
  have hob:s.blk < H.length:=by obtain ⟨ss,h1,_⟩:=ho.ex; exact own_lt' h1
  have hcl:=Clone_own (show 1 ≤ k by omega) hr htn (by omega)
  obtain ⟨H1,H2,a1,a2,a3,a4,a5⟩:=outD_app (ho.pf g1) (hB.trans g1) (by omega) (own_base hnew hB) (by first | omega | (simp only; omega) | (simp; omega)) (by first | omega | (simp only; omega) | (simp; omega)) (by simp) hB.length_le (by first | omega | (simp only; omega) | (simp; omega)) (by simp; omega)
  have adv:Adv2 b s.blk H H2:=(pf_adv2 g1).trans a4 (.inl rfl)
  have hm2:=adv.but _ _ m1 m2 m
  have hl2:ldS 1 H2 b 0=some (Sl.mk false (H ++ [some (Blk.mk false (g.map (.int .i64)))]).length 0 (st.length + 1)):=by unfold ldS Hp.cell; rw [a3.cell]; simp [AV.toS]
  have hm3:ldI .i64 H2 mb 0=some most:=by unfold ldI Hp.cell; rw [hm2]; simp [AV.toI]
  refine ⟨H2,(H ++ [some (Blk.mk false (g.map (.int .i64)))]).length,?_,⟨⟨_,rfl,a3⟩,hm2,m1,(by first | omega | (simp only; omega) | (simp; omega)),m3,by have:=adv.le; omega,?_⟩,adv,.inr (by simp)⟩
  ·show callF PP orc (k + 1) impl_firstSolutions_1.id [.sl 1 t,.ptr b 0,.ptr mb 0] H=some (.bool (decide (((st.length + 1:Nat):Int) < most)),H2)
   rw [impl_firstSolutions_1.call]
   simp (disch:=omega) only [impl_firstSolutions_1.f,dt,df,bt,bf,nt,nf,Za,Zy,Zx,Zt,Zf,Zn,Zz,Zi,Zo,wr,AV.toB,AV.toI,AV.toS,if_true,hcell,hcl,hst,a1,a2,hl2,hm3]
  ·intro h
   have h':decide (((st.length + 1:Nat):Int) < most)=true:=h
   have h2:=of_decide_eq_true h'
   show (((st ++ [g]).length:Nat):Int) < most
   rw [List.length_append]; exact h2
theorem runL_first (most:Nat):∀ (L ls:List (List Int)),ls.length < most→(runL (stepF most) ls L).1=ls ++ L.take (most - ls.length)
 | [],ls,h=>by simp [runL]
 | x :: L,ls,h=>by
  rw [runL]
  have e:most - ls.length=(most - (ls.length + 1)) + 1:=by omega
  by_cases c:((ls.length + 1:Nat):Int) < (most:Int)
  ·rw [if_pos (show (stepF most ls x).2=true from decide_eq_true c)]
   show (runL (stepF most) (ls ++ [x]) L).1=_
   rw [runL_first most L (ls ++ [x]) (by simp; omega),e]
   simp
  ·rw [if_neg (by show ¬ decide (((ls.length + 1:Nat):Int) < (most:Int))=true; simp; omega)]
   show ls ++ [x]=_
   have:most - ls.length=1:=by omega
   rw [this]; simp
theorem sto_end {H:Hp} {x:AV} (v:AV):∃ H',(H ++ [some (Blk.mk false [x])]).sto H.length 0 [v]=some H'∧H <+: H'∧H'[H.length]?=some (some ⟨false,[v]⟩)∧H'.length=H.length + 1:=by
 obtain ⟨H',a,b,c,d⟩:=sto1' (H:=H ++ [some (Blk.mk false [x])]) (b:=H.length) (x:=x) (by simp) v
 exact ⟨H',a,c.pf (H0:=H) (Nat.le_refl _) (List.prefix_append _ _) (by omega),b,by rw [d]; simp⟩
theorem solutions_gen {B H:Hp} (hB:B <+: H) {n:Int} {gs ss:Sl} {given:List Int} {rs:List R} {b c:Nat} (hzk:∀ H',Adv2 b c H H'→PuzAt H' n gs ss given rs) (hnil:gs.nil=false) {σ:Type} {step:σ→List Int→σ × Bool} {T:Nat→Nat→σ × Bool→Hp→Prop} {K:Nat} {f:FuncId} {caps:List AV} (hbl:b < H.length) (hcl:c < H.length) (hcB:B.length ≤ c)
  (tell:∀ d,H.length ≤ d→Tell B f caps b d step (T d) K) (st:σ) (hT:∀ d H1,H.length ≤ d→d < H1.length→H <+: H1→T d c (st,true) H1) {k:Nat} (hk:K + 2000400 ≤ k) :
  ∃ H' c' d,callF PP orc k impl_solutions.id [.agg [.int .i64 n,.sl 1 gs,.sl 3 ss],.sl 1 gs,.fn f caps] H=some (.tup [],H')∧B <+: H'∧Adv2 b c H H'∧T d c' (runL step st (allSols n given (rs.map R.val))) H':=by
 obtain ⟨k,rfl⟩:=Zs k (by omega)
 rw [impl_solutions.call]
 have hz:=hzk H (pf_adv2 (List.prefix_refl _))
 have hgl:=hz.gl
 obtain ⟨Ha,hHa⟩:∃ X,H ++ [some (Blk.mk false [.int .i64 n,.sl 1 gs,.sl 3 ss])]=X:=⟨_,rfl⟩
 obtain ⟨Hb,hHb⟩:∃ X,Ha ++ [some (Blk.mk false [.fn f caps])]=X:=⟨_,rfl⟩
 have la:Ha.length=H.length + 1:=by rw [← hHa]; simp
 have lb:Hb.length=H.length + 2:=by rw [← hHb]; simp; omega
 have pa:H <+: Ha:=by rw [← hHa]; exact List.prefix_append _ _
 have pb:Ha <+: Hb:=by rw [← hHb]; exact List.prefix_append _ _
 have ba:Ha[H.length]?=some (some ⟨false,[.int .i64 n,.sl 1 gs,.sl 3 ss]⟩):=by rw [← hHa]; simp
 have bb:Hb[Ha.length]?=some (some ⟨false,[.fn f caps]⟩):=by rw [← hHb]; simp
 have pBb:=(hB.trans pa).trans pb
 have c1:=Clone_own (show 1 ≤ k by omega) (pf_reads (pa.trans pb) hz.rg) hnil (by omega)
 obtain ⟨Hc,hHc⟩:∃ X,Hb ++ [some (Blk.mk false (given.map (.int .i64)))]=X:=⟨_,rfl⟩
 rw [hHc] at c1
 have lc:Hc.length=H.length + 3:=by rw [← hHc]; simp; omega
 have pc:Hb <+: Hc:=by rw [← hHc]; exact List.prefix_append _ _
 have hown:Own 1 Hb Hc (Sl.mk false Hb.length 0 given.length) (given.map (.int .i64)):=by rw [← hHc]; exact own_new 1 Hb _ _ (by simp)
 obtain ⟨Hd,d1,d2,d3,d4⟩:=sto_end (H:=Hc) (x:=.sl 1 Sl.none) (.sl 1 (Sl.mk false Hb.length 0 given.length))
 have qa:=pf_get ((pb.trans pc).trans d2) ba
 have qb:=pf_get (pc.trans d2) bb
 have pBd:=(pBb.trans pc).trans d2
 have ho:=own_pf hown d2
 have r1:ldI .i64 Hd H.length 0=some n:=by unfold ldI Hp.cell; rw [qa]; simp [AV.toI]
 have r2:ldS 1 Hd H.length (0 + 1)=some gs:=by unfold ldS Hp.cell; rw [qa]; simp [AV.toS]
 have r3:ldS 3 Hd H.length (0 + 1 + 1)=some ss:=by unfold ldS Hp.cell; rw [qa]; simp [AV.toS]
 have r4:=box_sl d3
 obtain ⟨He,e1,e2⟩:=implPuzzleFits_ok (show 2000042 ≤ k by omega) (hz.pf (((pa.trans pb).trans pc).trans d2)) (own_reads ho) hgl
 have pHe:H <+: He:=(((pa.trans pb).trans pc).trans d2).trans e2
 have hle:=e2.length_le
 unfold allSols
 cases cf:puzzleFitsV n given (rs.map R.val) given with
 | false=>
  rw [cf] at e1
  rw [iN (by simp)]
  refine ⟨He,c,Hb.length,?_,pBd.trans e2,pf_adv2 pHe,by rw [runL]; exact hT _ _ (by omega) (by omega) pHe⟩
  simp (disch:=omega) only [impl_solutions.f,dt,df,bt,bf,nt,nf,Za,Zy,Zx,Zt,Zf,Zn,Zz,Zi,Zo,wr,AV.toB,AV.toI,AV.toS,if_true,hHa,hHb,c1,d1,r1,r2,r3,r4,e1]
 | true=>
  rw [cf] at e1
  rw [ip rfl]
  unfold puzzleFitsV at cf
  simp only [Bool.and_eq_true] at cf
  obtain ⟨q1,q2,q3⟩:=puzzleV_iff cf.1
  have h16:=gridOk_len q1
  have ra:=pf_get e2 qa
  have s1:ldI .i64 He H.length (0 + 0)=some n:=by unfold ldI Hp.cell; rw [ra]; simp [AV.toI]
  obtain ⟨Hf,f1,f2,f3,f4⟩:=sto_end (H:=He) (x:=.int .i64 0) (.int .i64 n)
  obtain ⟨Hg,g1,g2,g3,g4⟩:=sto_end (H:=Hf) (x:=.nilf) (.fn impl_solutions_1.id [.ptr Hc.length 0,.ptr Ha.length 0,.ptr Hf.length 0,.ptr He.length 0,.ptr H.length 0])
  have s2:=box_fn g3
  have pBg:=((pBd.trans e2).trans f2).trans g2
  have pHg:=(pHe.trans f2).trans g2
  have hBH:=hB.length_le
  have hog:Own 1 B Hg (Sl.mk false Hb.length 0 given.length) (given.map (.int .i64)):=own_base (own_pf ho ((e2.trans f2).trans g2)) pBb
  have hbx:Bx Hg Hc.length Ha.length Hf.length He.length H.length n (Sl.mk false Hb.length 0 given.length) gs ss f caps:=
   ⟨pf_get ((e2.trans f2).trans g2) d3,pf_get ((e2.trans f2).trans g2) qb,g3,pf_get g2 f3,pf_get (f2.trans g2) ra⟩
  obtain ⟨H',c',g',w1,w2,w3,w4,w5,w6,w7,w8⟩:=Sol_ok (tell Hb.length (by omega)) (gs:=Sl.mk false Hb.length 0 given.length) (H0:=H) (c0:=c) hz.n4 hzk (by simp only; omega) q3 q1 (gb:=Hc.length) (tb:=Ha.length) (yb:=Hf.length) (nb:=He.length) (pb:=H.length) ⟨(by first | omega | (simp only; omega) | (simp; omega)),(by first | omega | (simp only; omega) | (simp; omega)),(by first | omega | (simp only; omega) | (simp; omega)),(by first | omega | (simp only; omega) | (simp; omega)),(by first | omega | (simp only; omega) | (simp; omega))⟩ ⟨(by first | omega | (simp only; omega) | (simp; omega)),(by first | omega | (simp only; omega) | (simp; omega)),(by first | omega | (simp only; omega) | (simp; omega)),(by first | omega | (simp only; omega) | (simp; omega)),(by first | omega | (simp only; omega) | (simp; omega))⟩ given.length k (by omega) Hg given c st (Nat.le_refl _) pBg hbx ⟨(by first | omega | (simp only; omega) | (simp; omega)),(by first | omega | (simp only; omega) | (simp; omega)),(by first | omega | (simp only; omega) | (simp; omega)),(by first | omega | (simp only; omega) | (simp; omega)),(by first | omega | (simp only; omega) | (simp; omega))⟩ (by simp only; omega) hcB hog q1 (Le.refl given) cf.2.2 (hT _ _ (by omega) (by omega) pHg) (pf_adv2 pHg) (.inl rfl)
  rw [Nat.sub_self] at w1
  have w1':callF PP orc k impl_solutions_1.id ([.int .i64 0] ++ [.ptr Hc.length 0,.ptr Ha.length 0,.ptr Hf.length 0,.ptr He.length 0,.ptr H.length 0]) Hg=_:=w1
  refine ⟨H',c',Hb.length,?_,w2,?_,w7⟩
  ·have hcg:([.int .i64 0] ++ [.ptr Hc.length 0,.ptr Ha.length 0,.ptr Hf.length 0,.ptr He.length 0,.ptr H.length 0]:List AV).all AV.glob=true:=rfl
   simp (disch:=omega) only [impl_solutions.f,dt,df,bt,bf,nt,nf,Za,Zy,Zx,Zt,Zf,Zn,Zz,Zi,Zo,wr,AV.toB,AV.toI,AV.toS,if_true,hHa,hHb,c1,d1,r1,r2,r3,r4,e1,s1,f1,g1,s2,okSol,hcg,w1']
  ·refine ⟨fun e x h1 h2 hx=>?_,by have:=w3.le; have:=pHg.length_le; omega⟩
   have hel:=(List.getElem?_eq_some_iff.1 hx).1
   exact w3.but e x (by simp only; omega) h1 h2 (pf_get pHg hx)
theorem solutions_ok {B H:Hp} (hB:B <+: H) {n:Int} {gs ss:Sl} {given:List Int} {rs:List R} (hz:PuzAt B n gs ss given rs) (hnil:gs.nil=false) {σ:Type} {step:σ→List Int→σ × Bool} {T:Nat→Nat→σ × Bool→Hp→Prop} {K b c:Nat} {f:FuncId} {caps:List AV} (hbl:b < H.length) (hcl:c < H.length) (hbB:B.length ≤ b) (hcB:B.length ≤ c)
  (tell:∀ d,H.length ≤ d→Tell B f caps b d step (T d) K) (st:σ) (hT:∀ d H1,H.length ≤ d→d < H1.length→H <+: H1→T d c (st,true) H1) {k:Nat} (hk:K + 2000400 ≤ k) :
  ∃ H' c' d,callF PP orc k impl_solutions.id [.agg [.int .i64 n,.sl 1 gs,.sl 3 ss],.sl 1 gs,.fn f caps] H=some (.tup [],H')∧B <+: H'∧Adv2 b c H H'∧T d c' (runL step st (allSols n given (rs.map R.val))) H':=
 solutions_gen hB (fun H' a=>hz.pf (a.pf hbB hcB hB)) hnil hbl hcl hcB tell st hT hk
theorem firstSolutions_ok {k:Nat} (hk:2000500 ≤ k) {H:Hp} {n:Int} {gs s:Sl} {given:List Int} {rs:List R} (hz:PuzAt H n gs s given rs) (hnil:gs.nil=false) {most:Nat} (h0:1 ≤ most) (hmost:most ≤ 1000) :
  ∃ t H',callF PP orc k impl_firstSolutions.id [.agg [.int .i64 n,.sl 1 gs,.sl 3 s],.sl 1 gs,.int .i64 (most:Int)] H=some (.sl 1 t,H')∧H <+: H'∧ReadsL H H' t ((allSols n given (rs.map R.val)).take most):=by
 obtain ⟨k,rfl⟩:=Zs k (by omega)
 rw [impl_firstSolutions.call]
 obtain ⟨Ha,hHa⟩:∃ X,H ++ [some (Blk.mk false [.int .i64 (most:Int)])]=X:=⟨_,rfl⟩
 obtain ⟨Hb,hHb⟩:∃ X,Ha ++ [some (Blk.mk false ([]:List AV))]=X:=⟨_,rfl⟩
 have la:Ha.length=H.length + 1:=by rw [← hHa]; simp
 have lb:Hb.length=H.length + 2:=by rw [← hHb]; simp; omega
 have pa:H <+: Ha:=by rw [← hHa]; exact List.prefix_append _ _
 have pb:Ha <+: Hb:=by rw [← hHb]; exact List.prefix_append _ _
 have ba:Ha[H.length]?=some (some ⟨false,[.int .i64 (most:Int)]⟩):=by rw [← hHa]; simp
 have bb:Hb[Ha.length]?=some (some ⟨false,[]⟩):=by rw [← hHb]; simp
 obtain ⟨Hc,c1,c2,c3,c4⟩:=sto_end (H:=Hb) (x:=.sl 1 Sl.none) (.sl 1 (Sl.mk false Ha.length 0 0))
 have pHc:=(pa.trans pb).trans c2
 have ho1:∀ d,Hc.length ≤ d→OutD H Hb.length d Hc (Sl.mk false Ha.length 0 0) []:=fun d hd=>
  ⟨c3,by omega,by simp only; omega,by omega,by simp only; omega,[],⟨rfl,rfl,by simp only; omega,pf_get c2 bb,rfl⟩,rfl,fun i hi=>by simp at hi⟩
 obtain ⟨H',c',d,w1,w2,w3,⟨⟨o,w4,w5⟩,w6,w7,w8,w9,w10,w11⟩⟩:=solutions_ok (B:=H) (H:=Hc) pHc hz hnil (b:=Hb.length) (c:=Ha.length) (K:=10) (T:=TF H Hb.length H.length most) (step:=stepF most) (f:=impl_firstSolutions_1.id) (caps:=[.ptr Hb.length 0,.ptr H.length 0]) (by omega) (by omega) (by omega) (by omega)
  (fun d hd=>tell_first (by omega) (by omega) (by omega)) [] (fun d H1 h1 h2 h3=>⟨⟨_,rfl,(ho1 d h1).pf h3⟩,pf_get (((pb.trans c2)).trans h3) ba,by omega,by omega,by omega,h2,fun _=>by simp; omega⟩) (show 10 + 2000400 ≤ k by omega)
 rw [runL_first most _ [] (by simp; omega)] at w5
 simp only [List.nil_append,Zm,Nat.sub_zero] at w5
 have hl:ldS 1 H' Hb.length 0=some o:=box_sl w5.cell
 refine ⟨o,H',?_,w2,w5.reads⟩
 simp (disch:=omega) only [impl_firstSolutions.f,dt,df,bt,bf,nt,nf,Za,Zy,Zx,Zt,Zf,Zn,Zz,Zi,Zo,wr,AV.toB,AV.toI,AV.toS,if_true,hHa,hHb,c1,w1,hl]
theorem OwnRule_ok {k:Nat} (hk:1 ≤ k) {H:Hp} {kind value:Int} {cs:Sl} {cells:List Int} (hs:Reads .i64 H cs cells) (hl:cells.length ≤ 1000) :
  callF PP orc k spec_l1OwnRule.id [.agg [.int .i64 kind,.sl 1 cs,.int .i64 value]] H=some (.agg [.int .i64 kind,.sl 1 (Sl.mk false H.length 0 cells.length),.int .i64 value],H ++ [some (Blk.mk false (cells.map (.int .i64)))]):=by
 obtain ⟨k,rfl⟩:=Zs k (by omega)
 rw [spec_l1OwnRule.call]
 simp only [spec_l1OwnRule.f,read_ok hs,hs.len,appl_ok H cells .i64 (by omega),Zo,cells_ok,Za,Zt]
theorem OwnRuleList_l0 {k:Nat} (hk:1 ≤ k) {H0:Hp} {s:Sl} {rs:List R} (hs:ReadsR H0 s rs) (hl:rs.length ≤ 1000) (hc:∀ r ∈ rs,r.cells.length ≤ 1000) :
  ∀ (j i fuel:Nat) (H:Hp) (out:Sl) (qs:List R),i + j=rs.length→j < fuel→H0 <+: H→WR H0 H out qs→qs.map R.val=(rs.take i).map R.val →
   ∃ out' qs' H',spec_l1OwnRuleList.l0 (callF PP orc k) k fuel s out i H=some (.sl 3 out',H')∧H0 <+: H'∧WR H0 H' out' qs'∧qs'.map R.val=rs.map R.val:=by
 intro j
 induction j with
 | zero=>
  intro i fuel H out qs hi hf hp ho hv
  obtain ⟨fuel,rfl⟩:=Zs fuel (by omega)
  have:¬ ((i:Int) < (s.len:Int)):=by rw [hs.len]; omega
  refine ⟨out,qs,H,?_,hp,ho,by rw [hv,List.take_of_length_le (by omega)]⟩
  simp only [spec_l1OwnRuleList.l0,spec_l1OwnRuleList.j1,this,decide_false,Zf]
 | succ j ih=>
  intro i fuel H out qs hi hf hp ho hv
  obtain ⟨fuel,rfl⟩:=Zs fuel (by omega)
  have h2:i < rs.length:=by omega
  have hsH:=pf_readsR hp hs
  have l0:ldI .i64 H s.blk (s.off + i * 3)=some rs[i].kind:=by unfold ldI; rw [hsH.c0 i h2]; simp [AV.toI]
  have l1:ldS 1 H s.blk (s.off + i * 3 + 1)=some rs[i].sl:=by unfold ldS; rw [hsH.c1 i h2]; simp [AV.toS]
  have l2:ldI .i64 H s.blk (s.off + i * 3 + 1 + 1)=some rs[i].value:=by unfold ldI; rw [show s.off + i * 3 + 1 + 1=s.off + i * 3 + 2 from rfl,hsH.c2 i h2]; simp [AV.toI]
  have h4:=wrs (i:=i) (by omega)
  have q0:(0:Int) ≤ (i:Int):=by omega
  have q2:(i:Int) < (s.len:Int):=by rw [hs.len]; omega
  have hql:qs.length=i:=by have:=congrArg List.length hv; simp at this; omega
  have a1:=OwnRule_ok hk (kind:=rs[i].kind) (value:=rs[i].value) (hsH.cs i h2) (hc _ (List.getElem_mem h2))
  have g1:H <+: H ++ [some (Blk.mk false (rs[i].cells.map (.int .i64)))]:=List.prefix_append _ _
  have hnew:=own_new 1 H (rs[i].cells.map (.int .i64)) rs[i].cells.length (by simp)
  have hout:=own_lt ho.own
  obtain ⟨out1,H2,b1,b2,b3,b4,b5,b6⟩:=wr_app (ho.pf g1) (hp.trans g1) (by omega) { kind:=rs[i].kind,sl:=Sl.mk false H.length 0 rs[i].cells.length,cells:=rs[i].cells,value:=rs[i].value } (own_reads hnew) (by simp only; omega) (by simp) hp.length_le rfl
  obtain ⟨out',qs',H',d1,d2,d3,d4⟩:=ih (i + 1) fuel H2 out1 _ (by omega) (by omega) b2 b3 (by
   rw [List.take_succ_eq_append_getElem h2,List.map_append,List.map_append,hv]; rfl)
  push_cast at d1
  refine ⟨out',qs',H',?_,d2,d3,d4⟩
  simp only [R.av] at b1
  simp only [spec_l1OwnRuleList.l0,q0,q2,decide_true,Za,Zt,Zn,l0,l1,l2,Zo,a1,AV.isAgg,AV.cel,Zl,Zm,Zc,Zd,AV.toI,AV.toS,if_true,b1,h4,d1]
  try rfl
theorem OwnRuleList_ok {k:Nat} (hk:2000001 ≤ k) {H:Hp} {s:Sl} {rs:List R} (hs:ReadsR H s rs) (hl:rs.length ≤ 1000) (hc:∀ r ∈ rs,r.cells.length ≤ 1000) :
  ∃ t qs H',callF PP orc k spec_l1OwnRuleList.id [.sl 3 s] H=some (.sl 3 t,H')∧H <+: H'∧WR H H' t qs∧qs.map R.val=rs.map R.val:=by
 obtain ⟨k,rfl⟩:=Zs k (by omega)
 rw [spec_l1OwnRuleList.call]
 exact OwnRuleList_l0 (show 1 ≤ k by omega) hs hl hc rs.length 0 k (H ++ [some (Blk.mk false [])]) (Sl.mk false H.length 0 0) [] (by omega) (by omega) (List.prefix_append _ _)
  ⟨own_new 3 H [] 0 rfl,fun i hi=>absurd hi (Nat.not_lt_zero _),fun i hi=>absurd hi (Nat.not_lt_zero _),fun i hi=>absurd hi (Nat.not_lt_zero _),fun i hi=>absurd hi (Nat.not_lt_zero _),fun i hi=>absurd hi (Nat.not_lt_zero _)⟩ (by simp)
theorem OwnPuzzle_ok {k:Nat} (hk:2000002 ≤ k) {H:Hp} {n:Int} {gs s:Sl} {g:List Int} {rs:List R} (hg:Reads .i64 H gs g) (hgl:g.length ≤ 1000) (hs:ReadsR H s rs) (hl:rs.length ≤ 1000) (hc:∀ r ∈ rs,r.cells.length ≤ 1000) :
  ∃ gt t qs H',callF PP orc k spec_l1OwnPuzzle.id [.agg [.int .i64 n,.sl 1 gs,.sl 3 s]] H=some (.agg [.int .i64 n,.sl 1 gt,.sl 3 t],H')∧H <+: H'∧Own 1 H H' gt (g.map (.int .i64))∧WR H H' t qs∧qs.map R.val=rs.map R.val:=by
 obtain ⟨k,rfl⟩:=Zs k (by omega)
 rw [spec_l1OwnPuzzle.call]
 have g1:H <+: H ++ [some (Blk.mk false (g.map (.int .i64)))]:=List.prefix_append _ _
 have hnew:=own_new 1 H (g.map (.int .i64)) g.length (by simp)
 obtain ⟨t,qs,H',a1,a2,a3,a4⟩:=OwnRuleList_ok (show 2000001 ≤ k by omega) (pf_readsR g1 hs) hl hc
 refine ⟨_,t,qs,H',?_,g1.trans a2,own_pf hnew a2,⟨own_base a3.own g1,a3.rd,a3.ne,a3.lt,fun i hi=>Nat.le_trans g1.length_le (a3.lo i hi),a3.nn⟩,a4⟩
 simp only [spec_l1OwnPuzzle.f,read_ok hg,hg.len,appl_ok H g .i64 (by omega),Zo,cells_ok,Za,Zt,a1,AV.toS,if_true]
theorem Without_ok {k:Nat} (hk:1 ≤ k) {H:Hp} {n:Int} {gs s:Sl} {g:List Int} (hg:Reads .i64 H gs g) (hgl:g.length ≤ 1000) (i:Nat) (hi:i < g.length) :
  ∃ H',callF PP orc k spec_l10Without.id [.agg [.int .i64 n,.sl 1 gs,.sl 3 s],.int .i64 i] H=some (.agg [.int .i64 n,.sl 1 (Sl.mk false H.length 0 g.length),.sl 3 s],H')∧H <+: H'∧Own 1 H H' (Sl.mk false H.length 0 g.length) ((g.set i 0).map (.int .i64)):=by
 obtain ⟨k,rfl⟩:=Zs k (by omega)
 rw [spec_l10Without.call]
 have hnew:=own_new 1 H (g.map (.int .i64)) g.length (by simp)
 obtain ⟨H',a1,a2,a3,a4⟩:=own_set hnew (List.prefix_append _ _) i hi 0
 have q0:(0:Int) ≤ (i:Int):=by omega
 have q1:(i:Int) < (g.length:Int):=by omega
 have a1':(H ++ [some (Blk.mk false (g.map (.int .i64)))]).sto H.length (0 + i) [.int .i64 0]=some H':=a1
 refine ⟨H',?_,a2,a3⟩
 simp only [spec_l10Without.f,read_ok hg,hg.len,appl_ok H g .i64 (by omega),Zo,cells_ok,Za,Zt,q0,q1,decide_true,Zn,Nat.mul_one,a1']
def oneV (n:Int) (given:List Int) (vs:List V):Bool:=decide (((allSols n given vs).take 2).length=1)
def redundantV (n:Int) (given:List Int) (vs:List V) (c:Int):Bool:=
 puzzleV n given vs && (decide (0 ≤ c∧c ≤ (given.length:Int) - 1) && (decide (given.getD c.toNat 0 > 0) && (oneV n given vs && oneV n (given.set c.toNat 0) vs)))
def minFrom (n:Int) (vs:List V):List Int→Nat→Nat→List Int
 | g,_,0=>g
 | g,i,j + 1=>minFrom n vs (if redundantV n g vs i=true then g.set i 0 else g) (i + 1) j
def minimalOk (n:Int) (given:List Int) (vs:List V):Bool:=puzzleV n given vs && oneV n given vs
def minimalV (n:Int) (given:List Int) (vs:List V):List Int:=minFrom n vs given 0 given.length
theorem specOne_ok {k:Nat} (hk:2000201 ≤ k) {H:Hp} {n:Int} {gs s:Sl} {given:List Int} {rs:List R} (hz:PuzAt H n gs s given rs) :
  ∃ H',callF PP orc k spec_l10One.id [.agg [.int .i64 n,.sl 1 gs,.sl 3 s]] H=some (.bool (oneV n given (rs.map R.val)),H')∧H <+: H':=by
 obtain ⟨k,rfl⟩:=Zs k (by omega)
 rw [spec_l10One.call]
 obtain ⟨t,H1,a1,a2,a3⟩:=specl5All_ok (show 2000200 ≤ k by omega) hz (most:=2) (by omega) (by omega)
 have e:((t.len:Int) == 1)=oneV n given (rs.map R.val):=by
  unfold oneV
  rw [a3.len,Bool.eq_iff_iff]; simp; omega
 refine ⟨H1,?_,a2⟩
 have a1':callF PP orc k spec_l5All.id [.agg [.int .i64 n,.sl 1 gs,.sl 3 s],.int .i64 2] H=some (.sl 1 t,H1):=a1
 simp only [spec_l10One.f,dt,df,bt,bf,nt,nf,Za,Zy,Zx,Zt,Zf,Zn,Zz,Zi,Zo,wr,AV.toB,AV.toI,AV.toS,if_true,a1',e]
theorem PuzAt.set {H H':Hp} {n:Int} {gs gt s:Sl} {given g:List Int} {rs:List R} (h:PuzAt H n gs s given rs) (p:H <+: H') (hr:Reads .i64 H' gt g) (hl:g.length=given.length):PuzAt H' n gt s g rs:=
 ⟨hr,pf_readsR p h.rr,h.n4,by rw [hl]; exact h.gl,h.rl,h.rc⟩
theorem specIsRedundant_ok {k:Nat} (hk:2000202 ≤ k) {H:Hp} {n:Int} {gs s:Sl} {given:List Int} {rs:List R} (hz:PuzAt H n gs s given rs) (c:Int) :
  ∃ H',callF PP orc k spec_IsRedundant.id [.agg [.int .i64 n,.sl 1 gs,.sl 3 s],.int .i64 c] H=some (.bool (redundantV n given (rs.map R.val) c),H')∧H <+: H':=by
 obtain ⟨k,rfl⟩:=Zs k (by omega)
 rw [spec_IsRedundant.call]
 have h1:=specPuzzleValid_ok (show 2000003 ≤ k by omega) hz.n4 hz.rg hz.gl hz.rr hz.rl hz.rc
 rw [puzzle_map] at h1
 have hgl:=hz.rg.len
 have hgl2:=hz.gl
 have hl1:=fun n a b H=>l1In_ok (show 1 ≤ k by omega) n a b H
 unfold redundantV
 cases c1:puzzleV n given (rs.map R.val) with
 | false=>
  rw [c1] at h1
  exact ⟨H,by simp only [spec_IsRedundant.f,dt,df,bt,bf,nt,nf,Za,Zy,Zx,Zt,Zf,Zn,Zz,Zi,Zo,wr,AV.toB,AV.toI,AV.toS,if_true,h1,Bool.false_and],(List.prefix_refl _)⟩
 | true=>
  rw [c1] at h1
  by_cases c2:0 ≤ c∧c ≤ (given.length:Int) - 1
  ·by_cases c3:given.getD c.toNat 0 > 0
   ·obtain ⟨H1,a1,a2⟩:=specOne_ok (show 2000201 ≤ k by omega) hz
    cases c4:oneV n given (rs.map R.val) with
    | true=>
     rw [c4] at a1
     obtain ⟨H2,b1,b2,b3⟩:=Without_ok (show 1 ≤ k by omega) (n:=n) (s:=s) (pf_reads a2 hz.rg) hz.gl c.toNat (by omega)
     rw [show ((c.toNat:Nat):Int)=c by omega] at b1
     obtain ⟨H3,d1,d2⟩:=specOne_ok (show 2000201 ≤ k by omega) (hz.set (a2.trans b2) (own_reads b3) (by simp))
     refine ⟨H3,?_,a2.trans (b2.trans d2)⟩
     simp (disch:=omega) only [spec_IsRedundant.f,dt,df,bt,bf,nt,nf,Za,Zy,Zx,Zt,Zf,Zn,Zz,Zi,Zo,wr,AV.toB,AV.toI,AV.toS,if_true,h1,hl1,hgl,rdn hz.rg,a1,b1,d1,AV.isAgg,AV.cel,Zl,Zm,Zc,Zd,Bool.true_and]
     rfl
    | false=>
     rw [c4] at a1
     refine ⟨H1,?_,a2⟩
     simp (disch:=omega) only [spec_IsRedundant.f,dt,df,bt,bf,nt,nf,Za,Zy,Zx,Zt,Zf,Zn,Zz,Zi,Zo,wr,AV.toB,AV.toI,AV.toS,if_true,h1,hl1,hgl,rdn hz.rg,a1,Bool.true_and,Bool.false_and]
   ·refine ⟨H,?_,(List.prefix_refl _)⟩
    simp (disch:=omega) only [spec_IsRedundant.f,dt,df,bt,bf,nt,nf,Za,Zy,Zx,Zt,Zf,Zn,Zz,Zi,Zo,wr,AV.toB,AV.toI,AV.toS,if_true,h1,hl1,hgl,rdn hz.rg,Bool.true_and,Bool.false_and]
  ·refine ⟨H,?_,(List.prefix_refl _)⟩
   simp (disch:=omega) only [spec_IsRedundant.f,dt,df,bt,bf,nt,nf,Za,Zy,Zx,Zt,Zf,Zn,Zz,Zi,Zo,wr,AV.toB,AV.toI,AV.toS,if_true,h1,hl1,hgl,df c2,Bool.true_and,Bool.false_and]
theorem read3_ok {H0 H:Hp} {s:Sl} {c:List AV} (h:Own 3 H0 H s c):H.read 3 s=some c:=by
 unfold Hp.read
 have hl:=h.len
 by_cases h0:s.len=0
 ·rw [if_pos h0]
  have:c=[]:=List.length_eq_zero_iff.1 (by omega)
  subst this; rfl
 ·rw [if_neg h0,h.get]
  simp only [h.off]
  rw [if_pos (by omega),List.drop_zero,List.take_of_length_le (by omega)]
theorem appl3_ok (H:Hp) (c:List AV) (n:Nat) (hn:n ≤ 1000000) (hc:c.length=n * 3):H.appl 3 [] 0 n c=some (Sl.mk false H.length 0 n,H ++ [some (Blk.mk false c)]):=by
 unfold Hp.appl
 rw [if_pos (by simp; omega)]
 simp
theorem cells3_ok (rs:List R):(rs.flatMap R.av).all AV.cell=true:=by
 rw [List.all_eq_true]
 intro x hx
 obtain ⟨r,_,hr⟩:=List.mem_flatMap.1 hx
 simp [R.av] at hr
 rcases hr with rfl | rfl | rfl <;> rfl
theorem val_cells {rs qs:List R} (h:qs.map R.val=rs.map R.val) (m:Nat) (hc:∀ r ∈ rs,r.cells.length ≤ m):∀ r ∈ qs,r.cells.length ≤ m:=fun q hq=>by
 have:q.val ∈ rs.map R.val:=h ▸ List.mem_map_of_mem hq
 obtain ⟨r,hr,e⟩:=List.mem_map.1 this
 have e2:r.cells=q.cells:=congrArg (·.2.1) e
 rw [← e2]; exact hc r hr
theorem Minimal_l2 {k:Nat} (hk:2000202 ≤ k) {B0 B:Hp} (h0:B0 <+: B) {n n0:Int} {gs s g0 s0:Sl} {given:List Int} {rs:List R} (hz:PuzAt B n gs s given rs) :
  ∀ (j i fuel:Nat) (H:Hp) (gt:Sl) (g:List Int),i + j=given.length→j < fuel→B <+: H→g.length=given.length→Own 1 B0 H gt (g.map (.int .i64)) →
   ∃ gt' H',spec_MakeMinimal.l2 (callF PP orc k) k fuel i n0 g0 s0 n gt s H=some (.tup [.agg [.int .i64 n,.sl 1 gt',.sl 3 s],.bool true],H')∧B <+: H'∧Own 1 B0 H' gt' ((minFrom n (rs.map R.val) g i j).map (.int .i64)):=by
 have hgl:=hz.gl
 intro j
 induction j with
 | zero=>
  intro i fuel H gt g hi hf hp hl ho
  obtain ⟨fuel,rfl⟩:=Zs fuel (by omega)
  have hgt:=(own_reads ho).len
  refine ⟨gt,H,?_,hp,ho⟩
  simp (disch:=omega) only [spec_MakeMinimal.l2,spec_MakeMinimal.j4,dt,df,bt,bf,nt,nf,Za,Zy,Zx,Zt,Zf,Zn,Zz,Zi,Zo,wr,AV.toB,AV.toI,AV.toS,if_true]
 | succ j ih=>
  intro i fuel H gt g hi hf hp hl ho
  obtain ⟨fuel,rfl⟩:=Zs fuel (by omega)
  have hgt:=(own_reads ho).len
  obtain ⟨H1,a1,a2⟩:=specIsRedundant_ok hk (hz.set hp (own_reads ho) hl) (i:Int)
  rw [minFrom]
  cases c:redundantV n g (rs.map R.val) i with
  | true=>
   rw [c] at a1
   rw [ip rfl]
   obtain ⟨H2,b1,b2,b3⟩:=Without_ok (show 1 ≤ k by omega) (n:=n) (s:=s) (pf_reads a2 (own_reads ho)) (by omega) i (by omega)
   obtain ⟨gt',H',d1,d2,d3⟩:=ih (i + 1) fuel H2 _ (g.set i 0) (by omega) (by omega) (hp.trans (a2.trans b2)) (by simpa using hl) (own_base b3 (h0.trans (hp.trans a2)))
   push_cast at d1
   refine ⟨gt',H',?_,d2,d3⟩
   simp (disch:=omega) only [spec_MakeMinimal.l2,spec_MakeMinimal.j3,dt,df,bt,bf,nt,nf,Za,Zy,Zx,Zt,Zf,Zn,Zz,Zi,Zo,wr,AV.toB,AV.toI,AV.toS,if_true,a1,b1,AV.isAgg,AV.cel,Zl,Zm,Zc,Zd,d1]
   rfl
  | false=>
   rw [c] at a1
   rw [iN (by simp)]
   obtain ⟨gt',H',d1,d2,d3⟩:=ih (i + 1) fuel H1 gt g (by omega) (by omega) (hp.trans a2) hl (own_pf ho a2)
   push_cast at d1
   refine ⟨gt',H',?_,d2,d3⟩
   simp (disch:=omega) only [spec_MakeMinimal.l2,spec_MakeMinimal.j3,dt,df,bt,bf,nt,nf,Za,Zy,Zx,Zt,Zf,Zn,Zz,Zi,Zo,wr,AV.toB,AV.toI,AV.toS,if_true,a1,d1]
theorem specMakeMinimal_ok {k:Nat} (hk:2000300 ≤ k) {H:Hp} {n:Int} {gs s:Sl} {given:List Int} {rs:List R} (hz:PuzAt H n gs s given rs) :
  ∃ H',H <+: H'∧((minimalOk n given (rs.map R.val)=false∧callF PP orc k spec_MakeMinimal.id [.agg [.int .i64 n,.sl 1 gs,.sl 3 s]] H=some (.tup [.agg [.int .i64 0,.sl 1 Sl.none,.sl 3 Sl.none],.bool false],H')) ∨
   (minimalOk n given (rs.map R.val)=true∧∃ gt st qs,callF PP orc k spec_MakeMinimal.id [.agg [.int .i64 n,.sl 1 gs,.sl 3 s]] H=some (.tup [.agg [.int .i64 n,.sl 1 gt,.sl 3 st],.bool true],H')∧Own 1 H H' gt ((minimalV n given (rs.map R.val)).map (.int .i64))∧WR H H' st qs∧qs.map R.val=rs.map R.val∧∀ i,(h:i < qs.length)→qs[i].sl.blk ≠ gt.blk)):=by
 obtain ⟨k,rfl⟩:=Zs k (by omega)
 rw [spec_MakeMinimal.call]
 obtain ⟨gt,t,qs,H1,a1,a2,a3,a4,a5⟩:=OwnPuzzle_ok (show 2000002 ≤ k by omega) (n:=n) hz.rg hz.gl hz.rr hz.rl hz.rc
 have hql:qs.length=rs.length:=by have:=congrArg List.length a5; simpa using this
 have hzl:=hz.rl
 have hz1:PuzAt H1 n gt t given qs:=⟨own_reads a3,a4.reads,hz.n4,hz.gl,by rw [hql]; exact hz.rl,val_cells a5 1000 hz.rc⟩
 have h1:=specPuzzleValid_ok (show 2000003 ≤ k by omega) hz1.n4 hz1.rg hz1.gl hz1.rr hz1.rl hz1.rc
 rw [puzzle_map,a5] at h1
 unfold minimalOk
 cases c1:puzzleV n given (rs.map R.val) with
 | false=>
  rw [c1] at h1
  refine ⟨H1,a2,.inl ⟨rfl,?_⟩⟩
  simp only [spec_MakeMinimal.f,spec_MakeMinimal.j0,dt,df,bt,bf,nt,nf,Za,Zy,Zx,Zt,Zf,Zn,Zz,Zi,Zo,wr,AV.toB,AV.toI,AV.toS,if_true,a1,h1,AV.isAgg,AV.cel,Zl,Zm,Zc,Zd]
  rfl
 | true=>
  rw [c1] at h1
  obtain ⟨H2,b1,b2⟩:=specOne_ok (show 2000201 ≤ k by omega) hz1
  rw [a5] at b1
  cases c2:oneV n given (rs.map R.val) with
  | false=>
   rw [c2] at b1
   refine ⟨H2,a2.trans b2,.inl ⟨rfl,?_⟩⟩
   simp only [spec_MakeMinimal.f,spec_MakeMinimal.j0,dt,df,bt,bf,nt,nf,Za,Zy,Zx,Zt,Zf,Zn,Zz,Zi,Zo,wr,AV.toB,AV.toI,AV.toS,if_true,a1,h1,b1,AV.isAgg,AV.cel,Zl,Zm,Zc,Zd]
   rfl
  | true=>
   rw [c2] at b1
   have r1:=own_pf a3 b2
   have r2:=a4.pf b2
   have rgl:=(own_reads r1).len
   have rsl:=r2.reads.len
   have hgz:=hz.gl
   have p1:H <+: H2:=a2.trans b2
   have g1:H2 <+: H2 ++ [some (Blk.mk false (given.map (.int .i64)))]:=List.prefix_append _ _
   have g2:H2 ++ [some (Blk.mk false (given.map (.int .i64)))] <+: H2 ++ [some (Blk.mk false (given.map (.int .i64)))] ++ [some (Blk.mk false (qs.flatMap R.av))]:=List.prefix_append _ _
   have o1:=own_new 1 H2 (given.map (.int .i64)) given.length (by simp)
   have o2:=own_new 3 (H2 ++ [some (Blk.mk false (given.map (.int .i64)))]) (qs.flatMap R.av) qs.length (by rw [flat_length])
   have w2:WR H (H2 ++ [some (Blk.mk false (given.map (.int .i64)))] ++ [some (Blk.mk false (qs.flatMap R.av))]) (Sl.mk false (H2 ++ [some (Blk.mk false (given.map (.int .i64)))]).length 0 qs.length) qs:=
    ⟨own_base o2 (p1.trans g1),fun i hi=>pf_reads (g1.trans g2) (r2.rd i hi),fun i hi=>by have:=r2.lt i hi; simp; omega,fun i hi=>by have:=r2.lt i hi; simp; omega,r2.lo,r2.nn⟩
   have hz2:PuzAt (H2 ++ [some (Blk.mk false (given.map (.int .i64)))] ++ [some (Blk.mk false (qs.flatMap R.av))]) n (Sl.mk false H2.length 0 given.length) (Sl.mk false (H2 ++ [some (Blk.mk false (given.map (.int .i64)))]).length 0 qs.length) given qs:=
    ⟨pf_reads g2 (own_reads o1),w2.reads,hz.n4,hz.gl,by omega,hz1.rc⟩
   obtain ⟨gt',H',d1,d2,d3⟩:=Minimal_l2 (show 2000202 ≤ k by omega) (n0:=0) (g0:=Sl.none) (s0:=Sl.none) (g1.trans g2) hz2 given.length 0 k (H2 ++ [some (Blk.mk false (given.map (.int .i64)))] ++ [some (Blk.mk false (qs.flatMap R.av))]) (Sl.mk false H2.length 0 given.length) given (by omega) (by omega) (List.prefix_refl _) rfl (own_pf o1 g2)
   rw [a5] at d3
   refine ⟨H',p1.trans (g1.trans (g2.trans d2)),.inr ⟨rfl,gt',_,qs,?_,own_base d3 p1,w2.pf d2,a5,fun i hi=>by have:=r2.lt i hi; have:=d3.blk; omega⟩⟩
   simp only [Int.natCast_zero] at d1
   simp (disch:=omega) only [spec_MakeMinimal.f,spec_MakeMinimal.j0,spec_MakeMinimal.j1,dt,df,bt,bf,nt,nf,Za,Zy,Zx,Zt,Zf,Zn,Zz,Zi,Zo,wr,AV.toB,AV.toI,AV.toS,if_true,a1,h1,b1,AV.isAgg,AV.cel,Zl,Zm,Zc,Zd,read_ok (own_reads r1),rgl,appl_ok,cells_ok]
   rw [show H2 ++ [some (Blk.mk false (given.map (AV.int .i64)))]=(H2 ++ [some (Blk.mk false (given.map (AV.int .i64)))]) from rfl,read3_ok (own_pf r2.own g1),Option.bind_some,rsl,appl3_ok _ _ _ (by omega) (flat_length qs)]
   simp only [Zo,cells3_ok,Za,Zt,d1]
   rfl
def countV (n:Int) (given:List Int) (vs:List V) (m:Int):Int:=if puzzleV n given vs=true∧1 ≤ m∧m ≤ 600 then (((allSols n given vs).take m.toNat).length:Int) else -1
theorem implCount_ok {k:Nat} (hk:2000510 ≤ k) {H:Hp} {n:Int} {gs s:Sl} {given:List Int} {rs:List R} (hz:PuzAt H n gs s given rs) (hnil:gs.nil=false) (m:Int) :
  ∃ H',callF PP orc k impl_CountSolutions.id [.agg [.int .i64 n,.sl 1 gs,.sl 3 s],.int .i64 m] H=some (.int .i64 (countV n given (rs.map R.val) m),H')∧H <+: H':=by
 obtain ⟨k,rfl⟩:=Zs k (by omega)
 rw [impl_CountSolutions.call]
 have h1:=implPuzzleValid_ok (show 2000003 ≤ k by omega) hz.n4 hz.rg hz.gl hz.rr hz.rl hz.rc
 rw [puzzle_map] at h1
 unfold countV
 cases c1:puzzleV n given (rs.map R.val) with
 | false=>
  rw [c1] at h1
  rw [iN (by simp)]
  exact ⟨H,by simp only [impl_CountSolutions.f,impl_CountSolutions.j0,dt,df,bt,bf,nt,nf,Za,Zy,Zx,Zt,Zf,Zn,Zz,Zi,Zo,wr,AV.toB,AV.toI,AV.toS,if_true,h1],(List.prefix_refl _)⟩
 | true=>
  rw [c1] at h1
  by_cases c2:m < 1
  ·rw [iN (by omega)]
   exact ⟨H,by simp (disch:=omega) only [impl_CountSolutions.f,impl_CountSolutions.j0,dt,df,bt,bf,nt,nf,Za,Zy,Zx,Zt,Zf,Zn,Zz,Zi,Zo,wr,AV.toB,AV.toI,AV.toS,if_true,h1],(List.prefix_refl _)⟩
  ·by_cases c3:m > 600
   ·rw [iN (by omega)]
    exact ⟨H,by simp (disch:=omega) only [impl_CountSolutions.f,impl_CountSolutions.j0,dt,df,bt,bf,nt,nf,Za,Zy,Zx,Zt,Zf,Zn,Zz,Zi,Zo,wr,AV.toB,AV.toI,AV.toS,if_true,h1],(List.prefix_refl _)⟩
   ·obtain ⟨q,rfl⟩:∃ q:Nat,m=q:=⟨m.toNat,by omega⟩
    rw [ip ⟨rfl,by omega,by omega⟩]
    obtain ⟨t,H',a1,a2,a3⟩:=firstSolutions_ok (show 2000500 ≤ k by omega) hz hnil (most:=q) (by omega) (by omega)
    have hl:=a3.len
    refine ⟨H',?_,a2⟩
    simp (disch:=omega) only [impl_CountSolutions.f,impl_CountSolutions.j0,impl_CountSolutions.j1,dt,df,bt,bf,nt,nf,Za,Zy,Zx,Zt,Zf,Zn,Zz,Zi,Zo,wr,AV.toB,AV.toI,AV.toS,if_true,h1,a1,hl,Zn]
theorem onlyOne_ok {k:Nat} (hk:2000511 ≤ k) {H:Hp} {n:Int} {gs s:Sl} {given:List Int} {rs:List R} (hz:PuzAt H n gs s given rs) (hnil:gs.nil=false) :
  ∃ H',callF PP orc k impl_onlyOne.id [.agg [.int .i64 n,.sl 1 gs,.sl 3 s]] H=some (.bool (minimalOk n given (rs.map R.val)),H')∧H <+: H':=by
 obtain ⟨k,rfl⟩:=Zs k (by omega)
 rw [impl_onlyOne.call]
 obtain ⟨H1,a1,a2⟩:=implCount_ok (show 2000510 ≤ k by omega) hz hnil 2
 have e:(countV n given (rs.map R.val) 2 == 1)=minimalOk n given (rs.map R.val):=by
  unfold countV minimalOk oneV
  cases c1:puzzleV n given (rs.map R.val) with
  | false=>rfl
  | true=>
   rw [ip ⟨rfl,by omega,by omega⟩,Bool.eq_iff_iff]
   simp; omega
 exact ⟨H1,by simp only [impl_onlyOne.f,dt,df,bt,bf,nt,nf,Za,Zy,Zx,Zt,Zf,Zn,Zz,Zi,Zo,wr,AV.toB,AV.toI,AV.toS,if_true,a1,e],a2⟩
theorem implSolveFirst_ok {k:Nat} (hk:2000510 ≤ k) {H:Hp} {n:Int} {gs s:Sl} {given:List Int} {rs:List R} (hz:PuzAt H n gs s given rs) (hnil:gs.nil=false) :
  ∃ t H',H <+: H'∧((firstV n given (rs.map R.val)=none∧callF PP orc k impl_SolveFirst.id [.agg [.int .i64 n,.sl 1 gs,.sl 3 s]] H=some (.tup [.sl 1 t,.bool false],H')∧Reads .i64 H' t []) ∨
   (∃ x,firstV n given (rs.map R.val)=some x∧callF PP orc k impl_SolveFirst.id [.agg [.int .i64 n,.sl 1 gs,.sl 3 s]] H=some (.tup [.sl 1 t,.bool true],H')∧Reads .i64 H' t x)):=by
 obtain ⟨k,rfl⟩:=Zs k (by omega)
 rw [impl_SolveFirst.call]
 have h1:=implPuzzleValid_ok (show 2000003 ≤ k by omega) hz.n4 hz.rg hz.gl hz.rr hz.rl hz.rc
 rw [puzzle_map] at h1
 cases c1:puzzleV n given (rs.map R.val) with
 | false=>
  rw [c1] at h1
  have e:firstV n given (rs.map R.val)=none:=by
   unfold firstV allSols puzzleFitsV; rw [c1]; rfl
  exact ⟨Sl.none,H,(List.prefix_refl _),.inl ⟨e,by simp only [impl_SolveFirst.f,dt,df,bt,bf,nt,nf,Za,Zy,Zx,Zt,Zf,Zn,Zz,Zi,Zo,wr,AV.toB,AV.toI,AV.toS,if_true,h1],reads_nil rfl⟩⟩
 | true=>
  rw [c1] at h1
  obtain ⟨t,H1,a1,a2,a3⟩:=firstSolutions_ok (show 2000500 ≤ k by omega) hz hnil (most:=1) (by omega) (by omega)
  have a1':callF PP orc k impl_firstSolutions.id [.agg [.int .i64 n,.sl 1 gs,.sl 3 s],.sl 1 gs,.int .i64 1] H=some (.sl 1 t,H1):=a1
  have hl:=a3.len
  unfold firstV
  generalize allSols n given (rs.map R.val)=L at *
  cases L with
  | nil=>
   simp at hl
   refine ⟨Sl.none,H1,a2,.inl ⟨rfl,?_,reads_nil rfl⟩⟩
   simp (disch:=omega) only [impl_SolveFirst.f,dt,df,bt,bf,nt,nf,Za,Zy,Zx,Zt,Zf,Zn,Zz,Zi,Zo,wr,AV.toB,AV.toI,AV.toS,if_true,h1,a1']
  | cons x L=>
   simp at hl
   obtain ⟨u,b1,b2⟩:=readsL0 a3 (by simp)
   refine ⟨u,H1,a2,.inr ⟨x,rfl,?_,own_reads b2⟩⟩
   simp (disch:=omega) only [impl_SolveFirst.f,dt,df,bt,bf,nt,nf,Za,Zy,Zx,Zt,Zf,Zn,Zz,Zi,Zo,wr,AV.toB,AV.toI,AV.toS,if_true,h1,a1',b1]
structure WN (H0 H:Hp) (s:Sl) (qs:List R):Prop where
 sh:(qs=[]∧s=Sl.none) ∨ Own 3 H0 H s (qs.flatMap R.av)
 rd:∀ q ∈ qs,Reads .i64 H q.sl q.cells
 cb:∀ q ∈ qs,q.cells ≠ []→H0.length ≤ q.sl.blk∧q.sl.blk < H.length∧q.sl.blk ≠ s.blk
 cn:∀ q ∈ qs,q.sl.nil=false ∨ q.cells=[]
theorem reads_or {H H':Hp} {s:Sl} {l:List Int} {b:Nat} (h:Reads .i64 H s l) (g:But b H H') (hb:l ≠ []→s.blk ≠ b):Reads .i64 H' s l:=by
 cases l with
 | nil=>exact reads_nil h.len
 | cons x l=>exact g.reads (hb (by simp)) h
theorem WN.pf {H0 H H':Hp} {s:Sl} {qs:List R} (h:WN H0 H s qs) (g:H <+: H'):WN H0 H' s qs:=
 ⟨h.sh.imp id fun ho=>own_pf ho g,fun q hq=>pf_reads g (h.rd q hq),fun q hq hc=>by
  obtain ⟨a,b,c⟩:=h.cb q hq hc
  exact ⟨a,Nat.lt_of_lt_of_le b g.length_le,c⟩,h.cn⟩
theorem WN.reads {H0 H:Hp} {s:Sl} {qs:List R} (h:WN H0 H s qs):ReadsR H s qs:=by
 rcases h.sh with ⟨e1,e2⟩ | ho
 ·subst e1 e2
  exact ⟨rfl,fun i hi=>absurd hi (Nat.not_lt_zero _),fun i hi=>absurd hi (Nat.not_lt_zero _),fun i hi=>absurd hi (Nat.not_lt_zero _),fun i hi=>absurd hi (Nat.not_lt_zero _)⟩
 ·exact own_readsR ho fun i hi=>h.rd _ (List.getElem_mem hi)
theorem WN.wr {H0 H H':Hp} {s:Sl} {qs:List R} {b:Nat} (h:WN H0 H s qs) (g:But b H H') (hl:H'.length=H.length) (hb:b < H0.length):WN H0 H' s qs:=
 ⟨h.sh.imp id fun ho=>g.own (by have:=ho.blk; omega) ho,fun q hq=>reads_or (h.rd q hq) g fun hc=>by have:=(h.cb q hq hc).1; omega,fun q hq hc=>by
  obtain ⟨a,b,c⟩:=h.cb q hq hc
  exact ⟨a,by omega,c⟩,h.cn⟩
theorem wn_app {H0 H:Hp} {s:Sl} {qs:List R} (h:WN H0 H s qs) (g:H0 <+: H) (hl:qs.length ≤ 1000000) (r:R) (hr:Reads .i64 H r.sl r.cells) (hb:r.cells ≠ []→H0.length ≤ r.sl.blk∧r.sl.blk < H.length∧(qs ≠ []→r.sl.blk ≠ s.blk)) (hn:r.sl.nil=false ∨ r.cells=[]) :
  ∃ t' H',H.app 3 s 1 r.av=some (t',H')∧H0 <+: H'∧WN H0 H' t' (qs ++ [r]):=by
 have hlow:=g.length_le
 rcases h.sh with ⟨e1,e2⟩ | ho
 ·subst e1 e2
  refine ⟨Sl.mk false H.length 0 1,H ++ [some ⟨false,r.av⟩],?_,g.trans (List.prefix_append _ _),.inr ?_,?_,?_,?_⟩
  ·unfold Hp.app
   rw [if_pos (by refine ⟨?_,?_,?_,?_⟩ <;> simp [Sl.none,R.av]),if_neg (by omega),if_pos (show Sl.none.nil=true from rfl)]
  ·refine ⟨rfl,rfl,hlow,by simp,?_⟩
   simp [R.av]
  ·intro q hq
   simp at hq; subst hq
   exact pf_reads (List.prefix_append _ _) hr
  ·intro q hq hc
   simp at hq; subst hq
   obtain ⟨a,b,_⟩:=hb hc
   exact ⟨a,by simp; omega,by simp only; omega⟩
  ·intro q hq
   simp at hq; subst hq
   exact hn
 ·have hlen:=own_len3 ho
  obtain ⟨H',a1,a2,a3,a4,a5⟩:=own_app ho g 1 r.av (by omega) (by omega) (by omega) (by omega) rfl
  refine ⟨_,H',a1,a2,.inr (by simpa using a3),?_,?_,?_⟩
  ·intro q hq
   rcases List.mem_append.1 hq with hq | hq
   ·exact reads_or (h.rd q hq) a4 fun hc=>(h.cb q hq hc).2.2
   ·simp at hq; subst hq
    by_cases e:qs=[]
    ·subst e
     have hb0:s.len=0:=hlen
     by_cases e2:q.sl.blk=s.blk
     ·cases hc:q.cells with
      | nil=>rw [hc] at hr; exact reads_nil hr.len
      | cons x l=>
       exfalso
       have:=hr.cell 0 (by rw [hc]; simp)
       unfold Hp.cell at this
       rw [e2,ho.get] at this
       simp at this
     ·exact a4.reads e2 hr
    ·exact reads_or hr a4 fun hc=>(hb hc).2.2 e
  ·intro q hq hc
   rcases List.mem_append.1 hq with hq | hq
   ·obtain ⟨a,b,c⟩:=h.cb q hq hc
    exact ⟨a,by omega,by simp only; omega⟩
   ·simp at hq; subst hq
    obtain ⟨a,b,_⟩:=hb hc
    exact ⟨a,by omega,by simp only; omega⟩
  ·intro q hq
   rcases List.mem_append.1 hq with hq | hq
   ·exact h.cn q hq
   ·simp at hq; subst hq; exact hn
theorem Clone_any {k:Nat} (hk:1 ≤ k) {H:Hp} {s:Sl} {l:List Int} (hs:Reads .i64 H s l) (hn:s.nil=false ∨ l=[]) (hl:l.length ≤ 1000) :
  ∃ t H',callF PP orc k slices_Clone_int.id [.sl 1 s] H=some (.sl 1 t,H')∧H <+: H'∧Reads .i64 H' t l∧(l ≠ []→t.blk=H.length∧H.length < H'.length)∧(t.nil=false ∨ l=[]):=by
 cases c:s.nil with
 | false=>
  exact ⟨_,_,Clone_own hk hs c hl,List.prefix_append _ _,own_reads (own_new 1 H _ _ (by simp)),fun _=>⟨rfl,by simp⟩,.inl rfl⟩
 | true=>
  have e:l=[]:=by rcases hn with h | h; rw [c] at h; cases h; exact h
  subst e
  refine ⟨Sl.none,H,?_,(List.prefix_refl _),reads_nil rfl,fun h=>absurd rfl h,.inr rfl⟩
  obtain ⟨k,rfl⟩:=Zs k (by omega)
  rw [slices_Clone_int.call]
  simp only [slices_Clone_int.f,c,Zt]
theorem copy_l0 {k:Nat} (hk:1 ≤ k) {H0:Hp} {s:Sl} {rs:List R} (hs:ReadsR H0 s rs) (hl:rs.length ≤ 1000) (hc:∀ r ∈ rs,r.cells.length ≤ 1000) (hcn:∀ r ∈ rs,r.sl.nil=false ∨ r.cells=[]) {n y0:Int} {y1 y2 gt:Sl} :
  ∀ (j i fuel:Nat) (H:Hp) (out:Sl) (qs:List R),i + j=rs.length→j < fuel→H0 <+: H→WN H0 H out qs→qs.map R.val=(rs.take i).map R.val →
   ∃ out' qs' H',impl_copyPuzzle.l0 (callF PP orc k) k fuel s (rs.length:Int) i y0 y1 y2 n gt out H=some (.agg [.int .i64 n,.sl 1 gt,.sl 3 out'],H')∧H0 <+: H'∧WN H0 H' out' qs'∧qs'.map R.val=rs.map R.val:=by
 have hsl:=hs.len
 intro j
 induction j with
 | zero=>
  intro i fuel H out qs hi hf hp ho hv
  obtain ⟨fuel,rfl⟩:=Zs fuel (by omega)
  refine ⟨out,qs,H,?_,hp,ho,by rw [hv,List.take_of_length_le (by omega)]⟩
  simp (disch:=omega) only [impl_copyPuzzle.l0,impl_copyPuzzle.j1,dt,df,bt,bf,nt,nf,Za,Zy,Zx,Zt,Zf,Zn,Zz,Zi,Zo,wr,AV.toB,AV.toI,AV.toS,if_true]
 | succ j ih=>
  intro i fuel H out qs hi hf hp ho hv
  obtain ⟨fuel,rfl⟩:=Zs fuel (by omega)
  have h2:i < rs.length:=by omega
  obtain ⟨l0,l1,l2⟩:=rules_at1 (pf_readsR hp hs) i h2
  have hmem:=List.getElem_mem h2
  have hql:qs.length=i:=by have:=congrArg List.length hv; simp at this; omega
  obtain ⟨t,H1,a1,a2,a3,a4,a5⟩:=Clone_any hk ((pf_readsR hp hs).cs i h2) (hcn _ hmem) (hc _ hmem)
  have hle:=hp.length_le
  have hout:qs ≠ []→out.blk < H.length:=fun hq=>by
   rcases ho.sh with ⟨e,_⟩ | h
   ·exact absurd e hq
   ·exact own_lt h
  obtain ⟨out1,H2,b1,b2,b3⟩:=wn_app (ho.pf a2) (hp.trans a2) (by omega) { kind:=rs[i].kind,sl:=t,cells:=rs[i].cells,value:=rs[i].value } a3 (fun hcc=>by
   obtain ⟨q1,q2⟩:=a4 hcc
   exact ⟨by simp only; omega,by simp only; omega,fun hq=>by have:=hout hq; simp only; omega⟩) a5
  obtain ⟨out',qs',H',d1,d2,d3,d4⟩:=ih (i + 1) fuel H2 out1 _ (by omega) (by omega) b2 b3 (by
   rw [List.take_succ_eq_append_getElem h2,List.map_append,List.map_append,hv]; rfl)
  push_cast at d1
  refine ⟨out',qs',H',?_,d2,d3,d4⟩
  simp only [R.av] at b1
  simp (disch:=omega) only [impl_copyPuzzle.l0,dt,df,bt,bf,nt,nf,Za,Zy,Zx,Zt,Zf,Zn,Zz,Zi,Zo,wr,AV.toB,AV.toI,AV.toS,if_true,l0,l1,l2,a1,b1,d1]
theorem copyPuzzle_ok {k:Nat} (hk:2000002 ≤ k) {H:Hp} {n:Int} {gs s:Sl} {given:List Int} {rs:List R} (hz:PuzAt H n gs s given rs) (hnil:gs.nil=false) (hcn:∀ r ∈ rs,r.sl.nil=false ∨ r.cells=[]) :
  ∃ st qs H',callF PP orc k impl_copyPuzzle.id [.agg [.int .i64 n,.sl 1 gs,.sl 3 s]] H=some (.agg [.int .i64 n,.sl 1 (Sl.mk false H.length 0 given.length),.sl 3 st],H')∧H <+: H'∧Own 1 H H' (Sl.mk false H.length 0 given.length) (given.map (.int .i64))∧WN (H ++ [some (Blk.mk false (given.map (.int .i64)))]) H' st qs∧qs.map R.val=rs.map R.val:=by
 obtain ⟨k,rfl⟩:=Zs k (by omega)
 rw [impl_copyPuzzle.call]
 have hgl:=hz.gl
 have c1:=Clone_own (show 1 ≤ k by omega) hz.rg hnil (by omega)
 have g1:H <+: H ++ [some (Blk.mk false (given.map (.int .i64)))]:=List.prefix_append _ _
 have hnew:=own_new 1 H (given.map (.int .i64)) given.length (by simp)
 have hsl:=hz.rr.len
 have hzl:=hz.rl
 obtain ⟨st,qs,H',a1,a2,a3,a4⟩:=copy_l0 (show 1 ≤ k by omega) (pf_readsR g1 hz.rr) hz.rl hz.rc hcn (n:=n) (y0:=0) (y1:=Sl.none) (y2:=Sl.none) (gt:=Sl.mk false H.length 0 given.length) rs.length 0 k (H ++ [some (Blk.mk false (given.map (.int .i64)))]) Sl.none [] (by omega) (by omega) (List.prefix_refl _) ⟨.inl ⟨rfl,rfl⟩,(fun q hq=>by cases hq),(fun q hq=>by cases hq),(fun q hq=>by cases hq)⟩ (by simp)
 refine ⟨st,qs,H',?_,g1.trans a2,own_pf hnew a2,a3,a4⟩
 have a1':=a1
 simp only [Int.natCast_zero] at a1'
 simp only [impl_copyPuzzle.f,dt,df,bt,bf,nt,nf,Za,Zy,Zx,Zt,Zf,Zn,Zz,Zi,Zo,wr,AV.toB,AV.toI,AV.toS,if_true,c1,hsl,a1']
def clear (cs:List Int) (g:List Int):List Int:=cs.foldl (fun g c=>g.set c.toNat 0) g
theorem clear_len:∀ (cs g:List Int),(clear cs g).length=g.length
 | [],g=>rfl
 | c :: cs,g=>by
  show (clear cs (g.set c.toNat 0)).length=_
  rw [clear_len cs]; simp
theorem without_l0 (rec:Rec) (k:Nat) {H0:Hp} {cs gt st:Sl} {c:List Int} {n y0:Int} {y1 y2:Sl} (hc:∀ x ∈ c,0 ≤ x∧x < (gt.len:Int)) (hcl:c.length ≤ 1000) :
  ∀ (j i fuel:Nat) (H:Hp) (g:List Int),i + j=c.length→j < fuel→H0 <+: H→Own 1 H0 H gt (g.map (.int .i64))→cs.blk < H0.length→Reads .i64 H cs c →
   ∃ H',impl_without.l0 rec k fuel cs (c.length:Int) i y0 y1 y2 n gt st H=some (.agg [.int .i64 n,.sl 1 gt,.sl 3 st],H')∧H0 <+: H'∧Own 1 H0 H' gt ((clear (c.drop i) g).map (.int .i64))∧But gt.blk H H'∧H'.length=H.length:=by
 intro j
 induction j with
 | zero=>
  intro i fuel H g hi hf hp ho hcs hr
  obtain ⟨fuel,rfl⟩:=Zs fuel (by omega)
  have hlen:=hr.len
  rw [show c.drop i=[] from List.drop_eq_nil_of_le (by omega)]
  refine ⟨H,?_,hp,ho,fun e x _ hx=>hx,rfl⟩
  simp (disch:=omega) only [impl_without.l0,impl_without.j1,dt,df,bt,bf,nt,nf,Za,Zy,Zx,Zt,Zf,Zn,Zz,Zi,Zo,wr,AV.toB,AV.toI,AV.toS,if_true]
 | succ j ih=>
  intro i fuel H g hi hf hp ho hcs hr
  obtain ⟨fuel,rfl⟩:=Zs fuel (by omega)
  have hlen:=hr.len
  have hi2:i < c.length:=by omega
  have hgt:=(own_reads ho).len
  have hblk:=ho.blk
  have hx:=hc _ (mem_getD hi2)
  obtain ⟨H1,a1,a2,a3,a4⟩:=own_set1 ho hp (c.getD i 0).toNat (by omega) 0
  have hl1:H1.length=H.length:=by
   have:=own_sto ho hp (c.getD i 0).toNat [.int .i64 0] (by rw [List.length_map]; show _ + 1 ≤ _; omega)
   obtain ⟨H2,q1,q2,q3,q4,q5⟩:=this
   rw [Nat.mul_one] at a1
   rw [a1] at q1
   simp only [Option.some.injEq] at q1
   rw [q1]; exact q5
  obtain ⟨H',d1,d2,d3,d4,d5⟩:=ih (i + 1) fuel H1 (g.set (c.getD i 0).toNat 0) (by omega) (by omega) a2 a3 hcs (a4.but.reads (by omega) hr)
  rw [List.drop_eq_getElem_cons hi2]
  have e:c[i]=c.getD i 0:=by rw [List.getD_eq_getElem?_getD,List.getElem?_eq_getElem hi2]; rfl
  push_cast at d1
  refine ⟨H',?_,d2,by rw [e]; exact d3,fun e x h1 h2=>d4 e x h1 (a4.but e x h1 h2),by omega⟩
  simp (disch:=omega) only [impl_without.l0,dt,df,bt,bf,nt,nf,Za,Zy,Zx,Zt,Zf,Zn,Zz,Zi,Zo,wr,AV.toB,AV.toI,AV.toS,if_true,rdn hr,a1,d1]
theorem without_ok {k:Nat} (hk:2000003 ≤ k) {H:Hp} {n:Int} {gs s cs:Sl} {given c:List Int} {rs:List R} (hz:PuzAt H n gs s given rs) (hnil:gs.nil=false) (hcn:∀ r ∈ rs,r.sl.nil=false ∨ r.cells=[]) (hr:Reads .i64 H cs c) (hcs:cs.blk < H.length) (hc:∀ x ∈ c,0 ≤ x∧x < (given.length:Int)) (hcl:c.length ≤ 1000) :
  ∃ gt st qs H',callF PP orc k impl_without.id [.agg [.int .i64 n,.sl 1 gs,.sl 3 s],.sl 1 cs] H=some (.agg [.int .i64 n,.sl 1 gt,.sl 3 st],H')∧H <+: H'∧PuzAt H' n gt st (clear c given) qs∧qs.map R.val=rs.map R.val∧gt.nil=false∧(∀ r ∈ qs,r.sl.nil=false ∨ r.cells=[]):=by
 obtain ⟨k,rfl⟩:=Zs k (by omega)
 rw [impl_without.call]
 obtain ⟨st,qs,H1,a1,a2,a3,a4,a5⟩:=copyPuzzle_ok (show 2000002 ≤ k by omega) hz hnil hcn
 have hrl:=hr.len
 obtain ⟨H',d1,d2,d3,d4,d5⟩:=without_l0 (callF PP orc k) k (H0:=H) (cs:=cs) (gt:=Sl.mk false H.length 0 given.length) (st:=st) (n:=n) (y0:=0) (y1:=Sl.none) (y2:=Sl.none) hc hcl c.length 0 k H1 given (by omega) (by omega) a2 a3 hcs (pf_reads a2 hr)
 have hw:=a4.wr d4 d5 (by simp)
 have hql:qs.length=rs.length:=by have:=congrArg List.length a5; simpa using this
 refine ⟨_,st,qs,H',?_,d2,⟨own_reads (by simpa using d3),hw.reads,hz.n4,by rw [clear_len]; exact hz.gl,by rw [hql]; exact hz.rl,val_cells a5 1000 hz.rc⟩,a5,rfl,hw.cn⟩
 have d1':=d1
 simp only [Int.natCast_zero] at d1'
 simp only [impl_without.f,dt,df,bt,bf,nt,nf,Za,Zy,Zx,Zt,Zf,Zn,Zz,Zi,Zo,wr,AV.toB,AV.toI,AV.toS,if_true,a1,AV.isAgg,AV.cel,Zl,Zm,Zc,Zd,hrl,d1']
 rfl
theorem sameInts_l0 (rec:Rec) (k:Nat) {H:Hp} {s t:Sl} {x y:List Int} (hs:Reads .i64 H s x) (ht:Reads .i64 H t y) (hl:x.length=y.length) (h1:x.length ≤ 1000) :
  ∀ (j i fuel:Nat),i + j=x.length→j < fuel→laws_sameInts.l0 rec k fuel s t i H=some (.bool (decide (x.drop i=y.drop i)),H):=by
 have hsl:=hs.len
 have htl:=ht.len
 intro j
 induction j with
 | zero=>
  intro i fuel hi hf
  obtain ⟨fuel,rfl⟩:=Zs fuel (by omega)
  rw [List.drop_eq_nil_of_le (show x.length ≤ i by omega),List.drop_eq_nil_of_le (show y.length ≤ i by omega)]
  simp (disch:=omega) only [laws_sameInts.l0,dt,df,bt,bf,nt,nf,Za,Zy,Zx,Zt,Zf,Zn,Zz,Zi,Zo,wr,AV.toB,AV.toI,AV.toS,if_true]
  rfl
 | succ j ih=>
  intro i fuel hi hf
  obtain ⟨fuel,rfl⟩:=Zs fuel (by omega)
  have hx:i < x.length:=by omega
  have hy:i < y.length:=by omega
  have ex:x.drop i=x.getD i 0 :: x.drop (i + 1):=by
   rw [List.drop_eq_getElem_cons hx,List.getD_eq_getElem?_getD,List.getElem?_eq_getElem hx]; rfl
  have ey:y.drop i=y.getD i 0 :: y.drop (i + 1):=by
   rw [List.drop_eq_getElem_cons hy,List.getD_eq_getElem?_getD,List.getElem?_eq_getElem hy]; rfl
  rw [ex,ey]
  by_cases c:x.getD i 0=y.getD i 0
  ·have d1:=ih (i + 1) fuel (by omega) (by omega)
   push_cast at d1
   rw [show decide (x.getD i 0 :: x.drop (i + 1)=y.getD i 0 :: y.drop (i + 1))=decide (x.drop (i + 1)=y.drop (i + 1)) by rw [c]; simp,← d1]
   simp (disch:=omega) only [laws_sameInts.l0,dt,df,bt,bf,nt,nf,Za,Zy,Zx,Zt,Zf,Zn,Zz,Zi,Zo,wr,AV.toB,AV.toI,AV.toS,if_true,rdn hs,rdn ht,nf]
  ·rw [show decide (x.getD i 0 :: x.drop (i + 1)=y.getD i 0 :: y.drop (i + 1))=false from decide_eq_false fun h=>c (List.cons.inj h).1]
   simp (disch:=omega) only [laws_sameInts.l0,dt,df,bt,bf,nt,nf,Za,Zy,Zx,Zt,Zf,Zn,Zz,Zi,Zo,wr,AV.toB,AV.toI,AV.toS,if_true,rdn hs,rdn ht,nt]
theorem sameInts_ok {k:Nat} (hk:2000000 ≤ k) {H:Hp} {s t:Sl} {x y:List Int} (hs:Reads .i64 H s x) (ht:Reads .i64 H t y) (h1:x.length ≤ 1000) (h2:y.length ≤ 1000) :
  callF PP orc k laws_sameInts.id [.sl 1 s,.sl 1 t] H=some (.bool (decide (x=y)),H):=by
 obtain ⟨k,rfl⟩:=Zs k (by omega)
 rw [laws_sameInts.call]
 have hsl:=hs.len
 have htl:=ht.len
 by_cases c:x.length=y.length
 ·have d1:=sameInts_l0 (callF PP orc k) k hs ht c h1 x.length 0 k (by omega) (by omega)
  simp only [Int.natCast_zero,List.drop_zero] at d1
  rw [← d1]
  simp (disch:=omega) only [laws_sameInts.f,dt,df,bt,bf,nt,nf,Za,Zy,Zx,Zt,Zf,Zn,Zz,Zi,Zo,wr,AV.toB,AV.toI,AV.toS,if_true]
 ·rw [decide_eq_false (fun h=>c (congrArg List.length h))]
  simp (disch:=omega) only [laws_sameInts.f,dt,df,bt,bf,nt,nf,Za,Zy,Zx,Zt,Zf,Zn,Zz,Zi,Zo,wr,AV.toB,AV.toI,AV.toS,if_true]
theorem same_ok {k:Nat} (hk:2000000 ≤ k) {H:Hp} {s t:Sl} {x:List Int} (hs:Reads .i64 H s x) (ht:Reads .i64 H t x) (h1:x.length ≤ 1000) :
  callF PP orc k laws_sameInts.id [.sl 1 s,.sl 1 t] H=some (.bool true,H):=by
 rw [sameInts_ok hk hs ht h1 h1,decide_eq_true rfl]
theorem val_at {rs qs:List R} (h:qs.map R.val=rs.map R.val) (i:Nat) (h1:i < rs.length) (h2:i < qs.length):qs[i].kind=rs[i].kind∧qs[i].cells=rs[i].cells∧qs[i].value=rs[i].value:=by
 have e:(qs.map R.val)[i]'(by simpa using h2)=(rs.map R.val)[i]'(by simpa using h1):=by simp only [h]
 simp only [List.getElem_map] at e
 exact ⟨congrArg (·.1) e,congrArg (·.2.1) e,congrArg (·.2.2) e⟩
theorem samePuzzle_l2 {k:Nat} (hk:2000000 ≤ k) {H:Hp} {a0 b0:Int} {a1 b1 s t:Sl} {rs qs:List R} (hs:ReadsR H s rs) (ht:ReadsR H t qs) (hv:qs.map R.val=rs.map R.val) (hl:rs.length ≤ 1000) (hc:∀ r ∈ rs,r.cells.length ≤ 1000) :
  ∀ (j i fuel:Nat),i + j=rs.length→j < fuel→laws_samePuzzle.l2 (callF PP orc k) k fuel i a0 a1 s b0 b1 t H=some (.bool true,H):=by
 have hql:qs.length=rs.length:=by have:=congrArg List.length hv; simpa using this
 have hsl:=hs.len
 have htl:=ht.len
 intro j
 induction j with
 | zero=>
  intro i fuel hi hf
  obtain ⟨fuel,rfl⟩:=Zs fuel (by omega)
  simp (disch:=omega) only [laws_samePuzzle.l2,dt,df,bt,bf,nt,nf,Za,Zy,Zx,Zt,Zf,Zn,Zz,Zi,Zo,wr,AV.toB,AV.toI,AV.toS,if_true]
 | succ j ih=>
  intro i fuel hi hf
  obtain ⟨fuel,rfl⟩:=Zs fuel (by omega)
  have h1:i < rs.length:=by omega
  have h2:i < qs.length:=by omega
  obtain ⟨v1,v2,v3⟩:=val_at hv i h1 h2
  obtain ⟨l0,l1,l2⟩:=rules_at1 hs i h1
  obtain ⟨m0,m1,m2⟩:=rules_at1 ht i h2
  rw [v1] at m0
  rw [v3] at m2
  have l0':ldI .i64 H s.blk (s.off + i * 3 + 0)=some rs[i].kind:=l0
  have l2':ldI .i64 H s.blk (s.off + i * 3 + 2)=some rs[i].value:=l2
  have m0':ldI .i64 H t.blk (t.off + i * 3 + 0)=some rs[i].kind:=m0
  have m2':ldI .i64 H t.blk (t.off + i * 3 + 2)=some rs[i].value:=m2
  have r1:=hs.cs i h1
  have r2:=ht.cs i h2
  rw [v2] at r2
  have sm:=same_ok hk r1 r2 (hc _ (List.getElem_mem h1))
  have d1:=ih (i + 1) fuel (by omega) (by omega)
  push_cast at d1
  have e1:(rs[i].kind != rs[i].kind)=false:=by simp
  have e2:(rs[i].value != rs[i].value)=false:=by simp
  simp (disch:=omega) only [laws_samePuzzle.l2,laws_samePuzzle.j3,laws_samePuzzle.j4,dt,df,bt,bf,nt,nf,Za,Zy,Zx,Zt,Zf,Zn,Zz,Zi,Zo,wr,AV.toB,AV.toI,AV.toS,if_true,l0',l1,l2',m0',m1,m2',e1,e2,sm,d1]
theorem samePuzzle_ok {k:Nat} (hk:2000001 ≤ k) {H:Hp} {n:Int} {a1 b1 s t:Sl} {g:List Int} {rs qs:List R} (ha:Reads .i64 H a1 g) (hb:Reads .i64 H b1 g) (hgl:g.length ≤ 1000) (hs:ReadsR H s rs) (ht:ReadsR H t qs) (hv:qs.map R.val=rs.map R.val) (hl:rs.length ≤ 1000) (hc:∀ r ∈ rs,r.cells.length ≤ 1000) :
  callF PP orc k laws_samePuzzle.id [.agg [.int .i64 n,.sl 1 a1,.sl 3 s],.agg [.int .i64 n,.sl 1 b1,.sl 3 t]] H=some (.bool true,H):=by
 obtain ⟨k,rfl⟩:=Zs k (by omega)
 rw [laws_samePuzzle.call]
 have hql:qs.length=rs.length:=by have:=congrArg List.length hv; simpa using this
 have hsl:=hs.len
 have htl:=ht.len
 have sm:=same_ok (show 2000000 ≤ k by omega) ha hb hgl
 have d1:=samePuzzle_l2 (show 2000000 ≤ k by omega) (a0:=n) (b0:=n) (a1:=a1) (b1:=b1) hs ht hv hl hc rs.length 0 k (by omega) (by omega)
 simp only [Int.natCast_zero] at d1
 have e1:(n != n)=false:=by simp
 simp (disch:=omega) only [laws_samePuzzle.f,laws_samePuzzle.j0,laws_samePuzzle.j1,dt,df,bt,bf,nt,nf,Za,Zy,Zx,Zt,Zf,Zn,Zz,Zi,Zo,wr,AV.toB,AV.toI,AV.toS,if_true,e1,sm,nf (show (s.len:Int)=(t.len:Int) by omega),d1]
theorem readsR_nil {H:Hp}:ReadsR H Sl.none []:=⟨rfl,fun i hi=>absurd hi (Nat.not_lt_zero _),fun i hi=>absurd hi (Nat.not_lt_zero _),fun i hi=>absurd hi (Nat.not_lt_zero _),fun i hi=>absurd hi (Nat.not_lt_zero _)⟩
end Go.Proofs.Ytchliocobgkmbaa.Rp
