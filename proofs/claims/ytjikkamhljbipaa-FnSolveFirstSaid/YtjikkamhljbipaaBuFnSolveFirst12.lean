/- Texts for the row of the law FnSolveFirst, part 12: the plain machine, the program's functions on it, what they come to. No conditions. -/
import Derived.Test.YtjikkamhljbipaaBuFnSolveFirst9
import Derived.Test.YtjikkamhljbipaaBuFnSolveFirst10
import Derived.Test.YtjikkamhljbipaaBuFnSolveFirst11
import Derived.Test.YtjikkamhljbipaaBuFnSolveFirst7
set_option linter.unusedVariables false
set_option linter.unusedSimpArgs false
namespace Go.Proofs.Ytjikkamhljbipaa.Rp
open Go Go.RowKit Go.Proofs.Ytjikkamhljbipaa.Ab
theorem DrawSolveFirst_ok {k:Nat} (hk:2000501 ≤ k) {H:Hp} {s:Sl} {l:List Int} (hs:Reads .u8 H s l) (hb:∀ x ∈ l,0 ≤ x∧x ≤ 255):DrawnP H (callF PP orc k spec_DrawSolveFirst.id [.sl 1 s] H):=by
 obtain ⟨k,rfl⟩:=Zs k (by omega)
 rw [spec_DrawSolveFirst.call]
 obtain ⟨H1,n,gs,ss,given,rs,l',p',H',a1,a2,a3,a4,a5,a6,a7,a8,a9⟩:=open_puzzle (show 2000500 ≤ k by omega) hs hb (x1:=12) (by omega)
 refine ⟨n,gs,ss,given,rs,H',?_,a3,a8.base (by omega)⟩
 simp only [spec_DrawSolveFirst.f,dt,df,bt,bf,nt,nf,Za,Zy,Zx,Zt,Zf,Zn,Zz,Zi,Zo,wr,AV.toB,AV.toI,AV.toS,if_true,AV.toP,a1,a2,AV.isAgg,AV.cel,Zl,Zm,Zc,Zd]
 rfl
theorem filter_first {α:Type} (p:α→Bool):∀ (L:List α) (i:Nat) (y:α),L[i]?=some y→p y=true→(∀ j,j < i→∀ z,L[j]?=some z→p z=false)→(L.filter p).head?=some y
 | [],i,y,h,_,_=>by simp at h
 | x :: L,0,y,h,hp,_=>by
  have:x=y:=by simpa using h
  subst this
  simp [List.filter,hp]
 | x :: L,i + 1,y,h,hp,hn=>by
  have h0:=hn 0 (by omega) x rfl
  rw [List.filter_cons_of_neg (by rw [h0]; simp)]
  exact filter_first p L i y (by simpa using h) hp fun j hj z hz=>hn (j + 1) (by omega) z (by simpa using hz)
theorem squareV_at {n:Int} (hn:2 ≤ n∧n ≤ 4) (i:Nat):squareV n (i:Int)=((squares n)[i]?).getD []:=by
 unfold squareV; rw [if_pos ⟨hn,by omega⟩,Int.toNat_natCast]
def Fnd (n:Int) (given:List Int) (vs:List V) (b:Bool) (x:List Int):Prop:=(b=true∧firstV n given vs=some x) ∨ (b=false∧firstV n given vs=none∧x=[])
theorem SF_j4 {k:Nat} (hk:2000600 ≤ k) {H:Hp} {n:Int} {gs ss xs:Sl} {given x:List Int} {rs:List R} {b:Bool} (hz:PuzAt H n gs ss given rs) (hgn:gs.nil=false) (hp:puzzleV n given (rs.map R.val)=true) (hf:Fnd n given (rs.map R.val) b x) (hx:Reads .i64 H xs x) :
  ∃ H',laws_FnSolveFirst.j4 (callF PP orc k) k xs b n gs ss H=some (.bool true,H'):=by
 obtain ⟨H1,a1,a2⟩:=implCount_ok (show 2000510 ≤ k by omega) hz hgn 1
 have ec:countV n given (rs.map R.val) 1=(((allSols n given (rs.map R.val)).take 1).length:Int):=by unfold countV; rw [if_pos ⟨hp,by omega,by omega⟩]; rfl
 rw [ec] at a1
 unfold laws_FnSolveFirst.j4
 rw [a1,Option.bind_some]
 rcases hf with ⟨rfl,hf⟩ | ⟨rfl,hf,rfl⟩
 ·have hmem:x ∈ allSols n given (rs.map R.val):=List.mem_of_mem_head? hf
  have hl:((allSols n given (rs.map R.val)).take 1).length=1:=by
   cases e:allSols n given (rs.map R.val) with
   | nil=>rw [e] at hmem; simp at hmem
   | cons y L=>simp
  have h16:=gridOk_len ((mem_allSols hp x).1 hmem).1
  obtain ⟨H2,b1,b2⟩:=implPuzzleSolved_ok (show 2000043 ≤ k by omega) (hz.pf a2) (pf_reads a2 hx) (by omega)
  rw [(solved_iff hp x).2 hmem] at b1
  refine ⟨H2,?_⟩
  rw [hl]
  simp only [AV.isTup,AV.nth,AV.isAgg,AV.cel,AV.toI,AV.toS,AV.toB,Zl,Zm,Zc,Zd,if_true,decide_true,beq_self_eq_true,Zt,Zf,Zy,Zx,Zo]
  rw [bt (show ((1:Nat):Int)=1 from rfl)]
  simp only [AV.isTup,AV.nth,AV.isAgg,AV.cel,AV.toI,AV.toS,AV.toB,Zl,Zm,Zc,Zd,if_true,decide_true,beq_self_eq_true,Zt,Zf,Zy,Zx,Zo]
  rw [b1,Option.bind_some]
  simp only [AV.isTup,AV.nth,AV.isAgg,AV.cel,AV.toI,AV.toS,AV.toB,Zl,Zm,Zc,Zd,if_true,decide_true,beq_self_eq_true,Zt,Zf,Zy,Zx,Zo]
 ·have hl:((allSols n given (rs.map R.val)).take 1).length=0:=by
   unfold firstV at hf
   rw [List.head?_eq_none_iff] at hf
   rw [hf]; rfl
  refine ⟨H1,?_⟩
  rw [hl]
  simp only [AV.isTup,AV.nth,AV.isAgg,AV.cel,AV.toI,AV.toS,AV.toB,Zl,Zm,Zc,Zd,if_true,decide_true,beq_self_eq_true,Zt,Zf,Zy,Zx,Zo]
  rw [bf (show ((0:Nat):Int) ≠ 1 by omega)]
  simp only [AV.isTup,AV.nth,AV.isAgg,AV.cel,AV.toI,AV.toS,AV.toB,Zl,Zm,Zc,Zd,if_true,decide_true,beq_self_eq_true,Zt,Zf,Zy,Zx,Zo]
theorem SF_l2 {k:Nat} (hk:2000600 ≤ k) {H0:Hp} {n:Int} {gs ss xs:Sl} {given x:List Int} {rs:List R} {b:Bool} (hz:PuzAt H0 n gs ss given rs) (hgn:gs.nil=false) (hp:puzzleV n given (rs.map R.val)=true) (hf:Fnd n given (rs.map R.val) b x) (hx:Reads .i64 H0 xs x) (hxl:x.length ≤ 16) :
  ∀ (j i fuel:Nat) (H:Hp),i + j=14→j < fuel→H0 <+: H→(∀ q,q < i→∀ y,(squares n)[q]?=some y→puzzleSolvedV n given (rs.map R.val) y=false)→∃ H',laws_FnSolveFirst.l2 (callF PP orc k) k fuel xs b (i:Int) n gs ss H=some (.bool true,H'):=by
 have hn:=hz.n4
 intro j
 induction j with
 | zero=>
  intro i fuel H hi hfu hpf hno
  obtain ⟨fuel,rfl⟩:=Zs fuel (by omega)
  obtain ⟨H',a1⟩:=SF_j4 hk (hz.pf hpf) hgn hp hf (pf_reads hpf hx)
  refine ⟨H',?_⟩
  simp (disch:=omega) only [laws_FnSolveFirst.l2,df,Zf,a1]
 | succ j ih=>
  intro i fuel H hi hfu hpf hno
  obtain ⟨fuel,rfl⟩:=Zs fuel (by omega)
  obtain ⟨t,H1,a1,a2,a3⟩:=implSquareNumber_ok (show 2000500 ≤ k by omega) (H:=H) (n:=n) (m:=(i:Int)) (by omega)
  have htl:=a3.len
  rw [squareV_at hn] at a3 htl
  have hz1:=hz.pf (hpf.trans a2)
  have hx1:=pf_reads (hpf.trans a2) hx
  cases e:(squares n)[i]? with
  | none=>
   rw [e] at htl
   obtain ⟨H',b1⟩:=SF_j4 hk hz1 hgn hp hf hx1
   refine ⟨H',?_⟩
   simp (disch:=omega) only [laws_FnSolveFirst.l2,laws_FnSolveFirst.j3,dt,Zt,a1,Zo,AV.toS,if_true,bt (show (t.len:Int)=0 by rw [htl]; rfl),b1]
  | some y=>
   rw [e] at htl a3
   simp only [Option.getD_some] at htl a3
   have hy:y ∈ squares n:=List.mem_of_getElem? e
   have hsq:=squares_pos hn hy
   have hyl:(t.len:Int) ≠ 0:=by
    have:=((gridOk_iff y n).1 hsq.2.1).2.1
    have h4:4 ≤ n * n:=by
     have:n=2 ∨ n=3 ∨ n=4:=by omega
     rcases this with rfl | rfl | rfl <;> decide
    omega
   have hsolved:puzzleSolvedV n given (rs.map R.val) y=true→firstV n given (rs.map R.val)=some y:=fun hs=>by
    unfold firstV
    rw [sols_filter hp]
    exact filter_first _ _ i y e hs hno
   have next:puzzleSolvedV n given (rs.map R.val) y=false→∀ q,q < i + 1→∀ w,(squares n)[q]?=some w→puzzleSolvedV n given (rs.map R.val) w=false:=fun hs q hq w hw=>by
    by_cases eq:q=i
    ·subst eq; rw [e] at hw; cases hw; exact hs
    ·exact hno q (by omega) w hw
   obtain ⟨H2,c1,c2⟩:=implPuzzleSolved_ok (show 2000043 ≤ k by omega) hz1 a3 (by omega)
   cases b with
   | false=>
    have hs:puzzleSolvedV n given (rs.map R.val) y=false:=by
     rw [Bool.eq_false_iff]; intro hs
     rcases hf with ⟨h,_⟩ | ⟨_,h,_⟩
     ·cases h
     ·rw [hsolved hs] at h; cases h
    rw [hs] at c1
    obtain ⟨H',d1⟩:=ih (i + 1) fuel H2 (by omega) (by omega) (hpf.trans (a2.trans c2)) (next hs)
    push_cast at d1
    refine ⟨H',?_⟩
    simp (disch:=omega) only [laws_FnSolveFirst.l2,laws_FnSolveFirst.j3,laws_FnSolveFirst.j5,laws_FnSolveFirst.j6,dt,Zt,Zf,a1,Zo,AV.toS,AV.toB,if_true,bf hyl,c1,wr (n:=(i:Int) + 1),d1]
   | true=>
    have sm:=sameInts_ok (show 2000000 ≤ k by omega) a3 hx1 (by omega) (by omega)
    by_cases ex:y=x
    ·rw [decide_eq_true ex] at sm
     obtain ⟨H',b1⟩:=SF_j4 hk hz1 hgn hp hf hx1
     refine ⟨H',?_⟩
     simp (disch:=omega) only [laws_FnSolveFirst.l2,laws_FnSolveFirst.j3,dt,Zt,Zf,a1,Zo,AV.toS,AV.toB,if_true,bf hyl,sm,b1]
    ·rw [decide_eq_false ex] at sm
     have hs:puzzleSolvedV n given (rs.map R.val) y=false:=by
      rw [Bool.eq_false_iff]; intro hs
      rcases hf with ⟨_,h⟩ | ⟨h,_,_⟩
      ·rw [hsolved hs] at h; exact ex (Option.some.inj h)
      ·cases h
     rw [hs] at c1
     obtain ⟨H',d1⟩:=ih (i + 1) fuel H2 (by omega) (by omega) (hpf.trans (a2.trans c2)) (next hs)
     push_cast at d1
     refine ⟨H',?_⟩
     simp (disch:=omega) only [laws_FnSolveFirst.l2,laws_FnSolveFirst.j3,laws_FnSolveFirst.j5,laws_FnSolveFirst.j6,dt,Zt,Zf,a1,Zo,AV.toS,AV.toB,if_true,bf hyl,sm,c1,wr (n:=(i:Int) + 1),d1]
theorem SolveFirst_law {k:Nat} (hk:2000800 ≤ k) {H:Hp} {s:Sl} {l:List Int} (hs:Reads .u8 H s l) (hb:∀ x ∈ l,0 ≤ x∧x ≤ 255) :
  ∃ H',callF PP orc k laws_FnSolveFirst.id [.sl 1 s] H=some (.bool true,H'):=by
 obtain ⟨k,rfl⟩:=Zs k (by omega)
 rw [laws_FnSolveFirst.call]
 by_cases hbig:(s.len:Int) > 1048576
 ·exact ⟨H,by simp only [laws_FnSolveFirst.f,dt hbig,Zt]⟩
 ·obtain ⟨n,gs,ss,given,rs,H1,a1,a2,a3⟩:=DrawSolveFirst_ok (show 2000501 ≤ k by omega) hs hb
  have hz:=a3.at'
  obtain ⟨t,H2,b1,b2⟩:=implSolveFirst_ok (show 2000510 ≤ k by omega) hz a3.gn
  obtain ⟨u,H3,c1,c2⟩:=specSolveFirst_ok (show 2000201 ≤ k by omega) (hz.pf b1)
  obtain ⟨b,x,hf,d1,d2,d3,d4,d5⟩:∃ b x,Fnd n given (rs.map R.val) b x∧callF PP orc k impl_SolveFirst.id [.agg [.int .i64 n,.sl 1 gs,.sl 3 ss]] H1=some (.tup [.sl 1 t,.bool b],H2)∧callF PP orc k spec_SolveFirst.id [.agg [.int .i64 n,.sl 1 gs,.sl 3 ss]] H2=some (.tup [.sl 1 u,.bool b],H3)∧Reads .i64 H2 t x∧Reads .i64 H3 u x∧x.length ≤ 16:=by
   rcases b2 with ⟨e1,e2,e3⟩ | ⟨x,e1,e2,e3⟩
   ·rcases c2 with ⟨f1,f2,f3⟩ | ⟨y,f1,f2,f3⟩
    ·exact ⟨false,[],.inr ⟨rfl,e1,rfl⟩,e2,f2,e3,own_reads f3,by simp⟩
    ·rw [e1] at f1; cases f1
   ·rcases c2 with ⟨f1,f2,f3⟩ | ⟨y,f1,f2,f3⟩
    ·rw [e1] at f1; cases f1
    ·have exy:x=y:=by rw [e1] at f1; exact Option.some.inj f1
     subst exy
     refine ⟨true,x,.inl ⟨rfl,e1⟩,e2,f2,e3,own_reads f3,?_⟩
     have hm:x ∈ allSols n given (rs.map R.val):=List.mem_of_mem_head? e1
     have hp:puzzleV n given (rs.map R.val)=true:=by
      cases e:puzzleV n given (rs.map R.val) with
      | true=>rfl
      | false=>unfold allSols puzzleFitsV at hm; rw [e] at hm; simp at hm
     exact gridOk_len ((mem_allSols hp x).1 hm).1
  have ht3:=pf_reads c1 d3
  have sm:=same_ok (show 2000000 ≤ k by omega) ht3 d4 (by omega)
  have hz3:=hz.pf (b1.trans c1)
  have hv:=specPuzzleValid_ok (show 2000003 ≤ k by omega) hz3.n4 hz3.rg hz3.gl hz3.rr hz3.rl hz3.rc
  rw [puzzle_map] at hv
  have htl:=ht3.len
  have hbb:(b == b)=true:=by cases b <;> rfl
  unfold laws_FnSolveFirst.f
  rw [df hbig,cond_false,a1,Option.bind_some]
  simp only [AV.isTup,AV.nth,AV.isAgg,AV.cel,AV.toI,AV.toS,AV.toB,Zl,Zm,Zc,Zd,if_true,decide_true,beq_self_eq_true,Zt,Zf,Zy,Zx,Zo]
  rw [d1,Option.bind_some]
  simp only [AV.isTup,AV.nth,AV.isAgg,AV.cel,AV.toI,AV.toS,AV.toB,Zl,Zm,Zc,Zd,if_true,decide_true,beq_self_eq_true,Zt,Zf,Zy,Zx,Zo]
  rw [d2,Option.bind_some]
  simp only [AV.isTup,AV.nth,AV.isAgg,AV.cel,AV.toI,AV.toS,AV.toB,Zl,Zm,Zc,Zd,if_true,decide_true,beq_self_eq_true,Zt,Zf,Zy,Zx,Zo]
  rw [sm,Option.bind_some]
  simp only [AV.isTup,AV.nth,AV.isAgg,AV.cel,AV.toI,AV.toS,AV.toB,Zl,Zm,Zc,Zd,if_true,decide_true,beq_self_eq_true,Zt,Zf,Zy,Zx,Zo]
  unfold laws_FnSolveFirst.j0
  try rw [hbb]
  simp only [AV.isTup,AV.nth,AV.isAgg,AV.cel,AV.toI,AV.toS,AV.toB,Zl,Zm,Zc,Zd,if_true,decide_true,beq_self_eq_true,Zt,Zf,Zy,Zx,Zo]
  unfold laws_FnSolveFirst.j1
  rw [hv,Option.bind_some]
  cases e1:puzzleV n given (rs.map R.val) with
  | false=>
   have e2:b=false∧x=[]:=by
    rcases hf with ⟨_,h⟩ | ⟨h,_,h2⟩
    ·exfalso
     have hm:x ∈ allSols n given (rs.map R.val):=List.mem_of_mem_head? h
     unfold allSols puzzleFitsV at hm; rw [e1] at hm; simp at hm
    ·exact ⟨h,h2⟩
   obtain ⟨e2,e3⟩:=e2
   rw [e3] at htl
   obtain ⟨H4,f1,f2⟩:=alive_ok (show 2000002 ≤ k by omega) H3
   refine ⟨H4,?_⟩
   rw [e2]
   simp only [AV.isTup,AV.nth,AV.isAgg,AV.cel,AV.toI,AV.toS,AV.toB,Zl,Zm,Zc,Zd,if_true,decide_true,beq_self_eq_true,Zt,Zf,Zy,Zx,Zo]
   rw [bt (show (t.len:Int)=0 by rw [htl]; rfl),cond_true,f1,Option.bind_some]
   simp only [AV.isTup,AV.nth,AV.isAgg,AV.cel,AV.toI,AV.toS,AV.toB,Zl,Zm,Zc,Zd,if_true,decide_true,beq_self_eq_true,Zt,Zf,Zy,Zx,Zo]
  | true=>
   obtain ⟨H',f1⟩:=SF_l2 (show 2000600 ≤ k by omega) hz3 a3.gn e1 hf ht3 (by omega) 14 0 k H3 (by omega) (by omega) (List.prefix_refl _) (fun q hq=>by omega)
   refine ⟨H',?_⟩
   simp only [Int.natCast_zero] at f1
   simp only [AV.isTup,AV.nth,AV.isAgg,AV.cel,AV.toI,AV.toS,AV.toB,Zl,Zm,Zc,Zd,if_true,decide_true,beq_self_eq_true,Zt,Zf,Zy,Zx,Zo]
   exact f1
end Go.Proofs.Ytjikkamhljbipaa.Rp
