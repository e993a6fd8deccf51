/- Texts for the row of the law FnMasksGrid, part 13: the plain machine, the program's functions on it, what they come to. No conditions. -/
import Derived.Test.YtjojhbdghhmeeaaBuFnMasksGrid12
import Derived.Test.YtjojhbdghhmeeaaBuFnMasksGrid8
set_option linter.unusedVariables false
set_option linter.unusedSimpArgs false
namespace Go.Proofs.Ytjojhbdghhmeeaa.Rp
open Go Go.RowKit Go.Proofs.Ytjojhbdghhmeeaa.Ab
theorem DrawMasksGrid_ok {k:Nat} (hk:2000602 ≤ k) {H:Hp} {s:Sl} {l:List Int} (hs:Reads .u8 H s l) (hb:∀ x ∈ l,0 ≤ x∧x ≤ 255):DrawnM H (callF PP orc k spec_DrawMasksGrid.id [.sl 1 s] H):=by
 obtain ⟨k,rfl⟩:=Zs k (by omega)
 rw [spec_DrawMasksGrid.call]
 obtain ⟨H1,n,t,c,l',p',H',a1,a2,a3,a3',a4,a5,a6,a7⟩:=open_masks (show 2000601 ≤ k by omega) hs hb (x1:=9) (by omega)
 have:=a4.drawn a3 a6 a7
 simp only [spec_DrawMasksGrid.f,dt,df,bt,bf,nt,nf,Za,Zy,Zx,Zt,Zf,Zn,Zz,Zi,Zo,wr,AV.toB,AV.toI,AV.toS,if_true,AV.toP,a1,a2,AV.isTup,AV.nth,Zl,Zm,Zc,Zd,beq_self_eq_true]
 exact this
theorem MasksGrid_l0 {k:Nat} (hk:2000010 ≤ k) {H0:Hp} {ms xs:Sl} {l:List Int} {n:Int} (hm:Reads .i64 H0 ms l) (hx:Reads .i64 H0 xs (gridM n l)) (hv:masksOk n l=true) :
  ∀ (j i fuel:Nat) (H:Hp),i + j=l.length→j < fuel→H0 <+: H→∃ H',laws_FnMasksGrid.l0 (callF PP orc k) k fuel ms n xs i H=some (.bool true,H'):=by
 have hml:=hm.len
 have hxl:=hx.len
 obtain ⟨g1,g2⟩:=gridM_ok hv
 have h16:=gridOk_len g1
 intro j
 induction j with
 | zero=>
  intro i fuel H hi hf hp
  obtain ⟨fuel,rfl⟩:=Zs fuel (by omega)
  have h1:=implGridValid_ok (show 2000000 ≤ k by omega) (pf_reads hp hx) (by omega) n
  rw [g1] at h1
  refine ⟨H,?_⟩
  simp (disch:=omega) only [laws_FnMasksGrid.l0,laws_FnMasksGrid.j2,df,Zt,Zf,h1,Zo,AV.toB,bt]
 | succ j ih=>
  intro i fuel H hi hf hp
  obtain ⟨fuel,rfl⟩:=Zs fuel (by omega)
  have hi2:i < l.length:=by omega
  have hok:=masks_at hv hi2
  have ex:=gridM_at hv hi2
  have hrx:=rdn (pf_reads hp hx) (i:=i) (by omega)
  rw [ex] at hrx
  have hrm:=rdn (pf_reads hp hm) hi2
  obtain ⟨o1,o2⟩:=oneOf_single hok
  cases es:single (l.getD i 0) with
  | true=>
   obtain ⟨q1,q2,q3⟩:=one_pw hok es
   obtain ⟨H',b1⟩:=ih (i + 1) fuel H (by omega) (by omega) hp
   push_cast at b1
   refine ⟨H',?_⟩
   have e1:(l.getD i 0 != pw (oneOf (l.getD i 0)))=false:=nf q1
   simp (disch:=omega) only [laws_FnMasksGrid.l0,laws_FnMasksGrid.j1,laws_FnMasksGrid.j3,dt,bf,Za,Zt,Zf,Zn,Zo,hrx,hrm,iN,m_shl (v:=oneOf (l.getD i 0)),e1,wr (n:=(i:Int) + 1),b1]
  | false=>
   have q0:=o1.2 es
   rw [q0] at hrx
   obtain ⟨u,H1,a1,a2,a3⟩:=implMaskValues_ok (show 2000000 ≤ k by omega) hok H
   have hul:=(own_reads a3).len
   obtain ⟨H',b1⟩:=ih (i + 1) fuel H1 (by omega) (by omega) (hp.trans a2)
   push_cast at b1
   refine ⟨H',?_⟩
   have e1:((u.len:Int) == 1)=false:=by
    refine bf fun h=>?_
    unfold single at es
    rw [beq_eq_false_iff_ne] at es
    omega
   simp (disch:=omega) only [laws_FnMasksGrid.l0,laws_FnMasksGrid.j1,laws_FnMasksGrid.j3,dt,df,bt,Za,Zt,Zf,Zn,Zo,hrx,hrm,a1,AV.toS,if_true,e1,wr (n:=(i:Int) + 1),b1]
theorem MasksGrid_law {k:Nat} (hk:2000800 ≤ k) {H:Hp} {s:Sl} {l:List Int} (hs:Reads .u8 H s l) (hb:∀ x ∈ l,0 ≤ x∧x ≤ 255) :
  ∃ H',callF PP orc k laws_FnMasksGrid.id [.sl 1 s] H=some (.bool true,H'):=by
 obtain ⟨k,rfl⟩:=Zs k (by omega)
 rw [laws_FnMasksGrid.call]
 by_cases hbig:(s.len:Int) > 1048576
 ·exact ⟨H,by simp only [laws_FnMasksGrid.f,dt hbig,Zt]⟩
 ·obtain ⟨n,t,v,H1,a1,a2,a3,a4,a5,a6,a7,a8⟩:=DrawMasksGrid_ok (show 2000602 ≤ k by omega) hs hb
  obtain ⟨x,H2,b1,b2,b3⟩:=implMasksGrid_ok (show 2000010 ≤ k by omega) (n:=n) ⟨a7,a8⟩ a3 (by omega) a6
  obtain ⟨y,H3,c1,c2,c3⟩:=specMasksGrid_ok (show 2000010 ≤ k by omega) (n:=n) ⟨a7,a8⟩ (pf_reads b2 a3) (by omega)
  have hx16:(gridM n v).length ≤ 1000:=by
   cases e:masksOk n v with
   | true=>have:=(gridM_ok e).2; omega
   | false=>unfold gridM; rw [e]; simp
  have hx3:=pf_reads c2 b3.reads
  have sm:=same_ok (show 2000000 ≤ k by omega) hx3 (own_reads c3) hx16
  have hxl:=b3.reads.len
  unfold laws_FnMasksGrid.f
  rw [df hbig,cond_false,a1,Option.bind_some]
  simp only [AV.isTup,AV.nth,AV.toI,AV.toS,Zl,Zm,Zc,Zd,if_true,beq_self_eq_true,Zt,Zo]
  rw [b1,Option.bind_some]
  simp only [AV.toS,if_true,Zo]
  rw [c1,Option.bind_some]
  simp only [AV.toS,if_true,Zo]
  rw [sm,Option.bind_some]
  simp only [AV.toB,Zo,Zy,Zf]
  cases e:masksOk n v with
  | false=>
   obtain ⟨H4,d1,d2⟩:=alive_ok (show 2000002 ≤ k by omega) H3
   have hz:(x.len:Int)=0:=by
    rw [hxl]; unfold gridM; rw [e]; rfl
   refine ⟨H4,?_⟩
   simp only [AV.toB,Zo,Zt,bt hz,d1]
  | true=>
   have hl:=masks_len e
   have hg:=gridM_ok e
   obtain ⟨H',d1⟩:=MasksGrid_l0 (show 2000010 ≤ k by omega) (pf_reads (b2.trans c2) a3) hx3 e v.length 0 k H3 (by omega) (by omega) (List.prefix_refl _)
   refine ⟨H',?_⟩
   simp only [Int.natCast_zero] at d1
   rw [bf (show (x.len:Int) ≠ 0 by omega),cond_false]
   exact d1
end Go.Proofs.Ytjojhbdghhmeeaa.Rp
