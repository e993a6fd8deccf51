/- Texts for the row of the law FnMasksHave, part 13: the plain machine, the program's functions on it, what they come to. No conditions. -/
import Derived.Test.YtjojhbdghhmeeaaBuFnMasksHave12
import Derived.Test.YtjojhbdghhmeeaaBuFnMasksHave8
set_option linter.unusedVariables false
set_option linter.unusedSimpArgs false
namespace Go.Proofs.Ytjojhbdghhmeeaa.Rp
open Go Go.RowKit Go.Proofs.Ytjojhbdghhmeeaa.Ab
def ownM (g:List Int):List Int:=g.map fun v=>mSub (pw v) 1
def moreM (l:List Int):List Int:=l.map fun m=>mOr m 2
theorem M1:M 1:=⟨by decide,by decide⟩
theorem M2:M 2:=⟨by decide,by decide⟩
theorem tab_ownm:∀ n:Nat,n < 5→∀ v:Nat,v < 5→(2 ≤ n∧v ≤ n)→maskOk n (mSub (pw v) 1)=true:=by decide +kernel
theorem tab_morem:∀ n:Nat,n < 5→∀ m:Nat,m < 32→(2 ≤ n∧maskOk n m=true)→maskOk n (mOr m 2)=true:=by decide +kernel
theorem own_ok {n:Int} {g:List Int} (hg:gridOk g n=true):masksOk n (ownM g)=true:=by
 obtain ⟨hn,h2,h3⟩:=(gridOk_iff g n).1 hg
 refine masksOk_iff.2 ⟨hn,fun m hm=>?_,by simp [ownM]; exact h2⟩
 obtain ⟨v,hv,rfl⟩:=List.mem_map.1 hm
 have:=h3 v hv
 have t:=tab_ownm n.toNat (by omega) v.toNat (by omega) (by omega)
 rw [show ((n.toNat:Nat):Int)=n by omega,show ((v.toNat:Nat):Int)=v by omega] at t
 exact t
theorem more_ok {n:Int} {l:List Int} (hl:masksOk n l=true):masksOk n (moreM l)=true:=by
 obtain ⟨hn,h2,h3⟩:=masksOk_iff.1 hl
 refine masksOk_iff.2 ⟨hn,fun m hm=>?_,by simp [moreM]; exact h3⟩
 obtain ⟨v,hv,rfl⟩:=List.mem_map.1 hm
 obtain ⟨a,rfl,ha⟩:=(maskOk_M (h2 v hv)).nat
 have t:=tab_morem n.toNat (by omega) a ha ⟨by omega,by rw [show ((n.toNat:Nat):Int)=n by omega]; exact h2 _ hv⟩
 rw [show ((n.toNat:Nat):Int)=n by omega] at t
 exact t
theorem mapD {l:List Int} {f:Int→Int} {i:Nat} (hi:i < l.length):(l.map f).getD i 0=f (l.getD i 0):=by
 rw [List.getD_eq_getElem?_getD,List.getElem?_map,List.getElem?_eq_getElem hi,List.getD_eq_getElem?_getD (l:=l),List.getElem?_eq_getElem hi]; rfl
theorem own_have {n:Int} {g:List Int} (hg:gridOk g n=true):haveV n (ownM g) g=true ↔ filled g=g.length:=by
 obtain ⟨hn,h2,h3⟩:=(gridOk_iff g n).1 hg
 rw [haveV_iff,filled_eq]
 have key:∀ i,i < g.length→(has ((ownM g).getD i 0) (g.getD i 0).toNat=true ↔ 0 < g.getD i 0):=fun i hi=>by
  have hv:=h3 _ (mem_getD hi)
  unfold ownM
  rw [mapD hi,has_sub (M.pw (by omega) (by omega)) M1,has_pw (by omega),Bool.and_eq_true,decide_eq_true_eq]
  have e1:∀ v:Nat,v < 5→has 1 v=decide (v=0):=by decide +kernel
  rw [e1 _ (by omega),Bool.not_eq_true',decide_eq_false_iff_not]
  omega
 constructor
 ·rintro ⟨_,_,h⟩ i hi; exact (key i hi).1 (h i hi)
 ·intro h; exact ⟨own_ok hg,hg,fun i hi=>(key i hi).2 (h i hi)⟩
theorem more_have {n:Int} {l g:List Int} (h:haveV n l g=true):haveV n (moreM l) g=true:=by
 obtain ⟨h1,h2,h3⟩:=haveV_iff.1 h
 refine haveV_iff.2 ⟨more_ok h1,h2,fun i hi=>?_⟩
 have hlen:=square_len h1 h2
 unfold moreM
 rw [mapD (by omega),has_or,h3 i hi,Bool.true_or]
theorem Have_l2 {k:Nat} (hk:100 ≤ k) {H0:Hp} {ms xs:Sl} {n:Int} {b6:Bool} {l g:List Int} (hl:masksOk n l=true) (hg:gridOk g n=true) (hm:Reads .i64 H0 ms l) (hx:Reads .i64 H0 xs g) :
  ∀ (j i fuel:Nat) (H:Hp) (u w:Sl),i + j=g.length→j < fuel→H0 <+: H→Own 1 H0 H u ((ownM (g.take i)).map (.int .i64))→Own 1 H0 H w ((moreM (l.take i)).map (.int .i64))→u.blk ≠ w.blk →
   ∃ u' w' H',laws_FnMasksHave.l2 (callF PP orc k) k fuel ms n xs b6 u w (i:Int) H=laws_FnMasksHave.j3 (callF PP orc k) k n xs b6 u' w' H'∧H0 <+: H'∧Own 1 H0 H' u' ((ownM g).map (.int .i64))∧Own 1 H0 H' w' ((moreM l).map (.int .i64)):=by
 have hml:=hm.len
 have hxl:=hx.len
 have hlen:=square_len hl hg
 have h16:=gridOk_len hg
 have hM:=masks_M hl
 obtain ⟨hn,_,h3⟩:=(gridOk_iff g n).1 hg
 intro j
 induction j with
 | zero=>
  intro i fuel H u w hi hf hp hu hw hne
  obtain ⟨fuel,rfl⟩:=Zs fuel (by omega)
  rw [List.take_of_length_le (by omega)] at hu hw
  exact ⟨u,w,H,by simp (disch:=omega) only [laws_FnMasksHave.l2,df,Zf],hp,hu,hw⟩
 | succ j ih=>
  intro i fuel H u w hi hf hp hu hw hne
  obtain ⟨fuel,rfl⟩:=Zs fuel (by omega)
  have hi2:i < g.length:=by omega
  have hv:=h3 _ (mem_getD hi2)
  have hul:=(own_reads hu).len
  have hwl:=(own_reads hw).len
  have hu2:=own_lt' hu
  have hw2:=own_lt' hw
  simp [ownM] at hul
  simp [moreM] at hwl
  obtain ⟨H1,a1,a2,a3,a4,a5⟩:=own_app1 hu hp (mSub (pw (g.getD i 0)) 1) (by omega)
  have hw1:=a4.own (Ne.symm hne) hw
  obtain ⟨H2,c1,c2,c3,c4,c5⟩:=own_app1 hw1 a2 (mOr (l.getD i 0) 2) (by omega)
  have a3':=c4.own (by simp only; omega) a3
  have e1:ownM (g.take i) ++ [mSub (pw (g.getD i 0)) 1]=ownM (g.take (i + 1)):=by
   unfold ownM
   rw [List.take_succ_eq_append_getElem hi2,List.map_append,List.getD_eq_getElem?_getD,List.getElem?_eq_getElem hi2]; rfl
  have e2:moreM (l.take i) ++ [mOr (l.getD i 0) 2]=moreM (l.take (i + 1)):=by
   unfold moreM
   rw [List.take_succ_eq_append_getElem (show i < l.length by omega),List.map_append,List.getD_eq_getElem?_getD,List.getElem?_eq_getElem (show i < l.length by omega)]; rfl
  rw [e1] at a3'
  rw [e2] at c3
  obtain ⟨u',w',H',b1,b2,b3,b4⟩:=ih (i + 1) fuel H2 _ _ (by omega) (by omega) c2 a3' c3 (by simp only; omega)
  push_cast at b1
  refine ⟨u',w',H',?_,b2,b3,b4⟩
  have hs:=m_sub (M.pw (v:=g.getD i 0) (by omega) (by omega)) M1
  have ho:=m_or (hM.at i) M2
  simp (disch:=omega) only [laws_FnMasksHave.l2,dt,Za,Zt,iN,Zn,Zo,rdn (pf_reads hp hx),m_shl (v:=g.getD i 0),hs,a1,rdn (pf_reads a2 hm),ho,c1,wr (n:=(i:Int) + 1),b1]
theorem MasksHave_law {k:Nat} (hk:2000800 ≤ k) {H:Hp} {s:Sl} {l:List Int} (hs:Reads .u8 H s l) (hb:∀ x ∈ l,0 ≤ x∧x ≤ 255) :
  ∃ H',callF PP orc k laws_FnMasksHave.id [.sl 1 s] H=some (.bool true,H'):=by
 obtain ⟨k,rfl⟩:=Zs k (by omega)
 rw [laws_FnMasksHave.call]
 by_cases hbig:(s.len:Int) > 1048576
 ·exact ⟨H,by simp only [laws_FnMasksHave.f,dt hbig,Zt]⟩
 ·obtain ⟨n,t,v,xs,g,H1,a1,a2,a3,a5,a6,a7,a8,a9,a10⟩:=DrawMasksHave_ok (show 2000602 ≤ k by omega) hs hb
  have h1:=implMasksHave_ok (show 2000010 ≤ k by omega) (n:=n) ⟨a7,a8⟩ a3 a9 (by omega) a6 (by omega)
  have h2:=specMasksHave_ok (show 2000010 ≤ k by omega) (n:=n) ⟨a7,a8⟩ a3 a9 (by omega) (by omega)
  have h3:=specMasksValid_any (show 2000000 ≤ k by omega) (n:=n) ⟨a7,a8⟩ a3 (by omega)
  have h4:=specGridValid_ok (show 2000000 ≤ k by omega) a9 (by omega) n
  obtain ⟨H2,d1,d2⟩:=alive_ok (show 2000002 ≤ k by omega) H1
  have hbad:¬ (masksOk n v=true∧gridOk g n=true)→haveV n v g=false:=fun h=>by
   rw [Bool.eq_false_iff]; intro hh
   have:=haveV_iff.1 hh
   exact h ⟨this.1,this.2.1⟩
  unfold laws_FnMasksHave.f
  rw [df hbig,cond_false,a1,Option.bind_some]
  simp only [AV.isTup,AV.nth,AV.isAgg,AV.cel,AV.toI,AV.toS,AV.toB,Zl,Zm,Zc,Zd,if_true,decide_true,beq_self_eq_true,Zt,Zf,Zy,Zx,Zo]
  rw [h1,Option.bind_some]
  simp only [AV.isTup,AV.nth,AV.isAgg,AV.cel,AV.toI,AV.toS,AV.toB,Zl,Zm,Zc,Zd,if_true,decide_true,beq_self_eq_true,Zt,Zf,Zy,Zx,Zo]
  rw [h2,Option.bind_some]
  simp only [AV.isTup,AV.nth,AV.isAgg,AV.cel,AV.toI,AV.toS,AV.toB,Zl,Zm,Zc,Zd,if_true,decide_true,beq_self_eq_true,Zt,Zf,Zy,Zx,Zo]
  rw [h3,Option.bind_some]
  cases e1:masksOk n v with
  | false=>
   refine ⟨H2,?_⟩
   simp only [AV.isTup,AV.nth,AV.isAgg,AV.cel,AV.toI,AV.toS,AV.toB,Zl,Zm,Zc,Zd,if_true,decide_true,beq_self_eq_true,Zt,Zf,Zy,Zx,Zo]
   unfold laws_FnMasksHave.j0
   rw [hbad fun h=>by rw [e1] at h; cases h.1]
   simp only [AV.isTup,AV.nth,AV.isAgg,AV.cel,AV.toI,AV.toS,AV.toB,Zl,Zm,Zc,Zd,if_true,decide_true,beq_self_eq_true,Zt,Zf,Zy,Zx,Zo]
   rw [d1,Option.bind_some]
   simp only [AV.isTup,AV.nth,AV.isAgg,AV.cel,AV.toI,AV.toS,AV.toB,Zl,Zm,Zc,Zd,if_true,decide_true,beq_self_eq_true,Zt,Zf,Zy,Zx,Zo]
  | true=>
   simp only [AV.isTup,AV.nth,AV.isAgg,AV.cel,AV.toI,AV.toS,AV.toB,Zl,Zm,Zc,Zd,if_true,decide_true,beq_self_eq_true,Zt,Zf,Zy,Zx,Zo]
   rw [h4,Option.bind_some]
   cases e2:gridOk g n with
   | false=>
    refine ⟨H2,?_⟩
    simp only [AV.isTup,AV.nth,AV.isAgg,AV.cel,AV.toI,AV.toS,AV.toB,Zl,Zm,Zc,Zd,if_true,decide_true,beq_self_eq_true,Zt,Zf,Zy,Zx,Zo]
    unfold laws_FnMasksHave.j0
    rw [hbad fun h=>by rw [e2] at h; cases h.2]
    simp only [AV.isTup,AV.nth,AV.isAgg,AV.cel,AV.toI,AV.toS,AV.toB,Zl,Zm,Zc,Zd,if_true,decide_true,beq_self_eq_true,Zt,Zf,Zy,Zx,Zo]
    rw [d1,Option.bind_some]
    simp only [AV.isTup,AV.nth,AV.isAgg,AV.cel,AV.toI,AV.toS,AV.toB,Zl,Zm,Zc,Zd,if_true,decide_true,beq_self_eq_true,Zt,Zf,Zy,Zx,Zo]
   | true=>
    have p1:H1 <+: H1 ++ [some (Blk.mk false [])]:=(List.prefix_append _ _)
    have p2:H1 ++ [some (Blk.mk false [])] <+: H1 ++ [some (Blk.mk false [])] ++ [some (Blk.mk false [])]:=(List.prefix_append _ _)
    have n1:=own_pf (own_new 1 H1 (([]:List Int).map (.int .i64)) 0 rfl) p2
    have n2:=own_base (own_new 1 (H1 ++ [some (Blk.mk false [])]) (([]:List Int).map (.int .i64)) 0 rfl) p1
    obtain ⟨u',w',H',b1,b2,b3,b4⟩:=Have_l2 (show 100 ≤ k by omega) (b6:=haveV n v g) e1 e2 a3 a9 g.length 0 k (H1 ++ [some (Blk.mk false [])] ++ [some (Blk.mk false [])]) (Sl.mk false H1.length 0 0) (Sl.mk false (H1 ++ [some (Blk.mk false [])]).length 0 0) (by omega) (by omega) (p1.trans p2) n1 n2 (by simp)
    simp only [Int.natCast_zero] at b1
    have hn:=(masksOk_iff.1 e1).1
    have o16:=masks_len (own_ok e2)
    have m16:=masks_len (more_ok e1)
    have rgo:∀ m ∈ ownM g,-2 ≤ m∧m ≤ 63:=fun m hm=>by
     have h1:=(maskOk_iff.1 ((masksOk_iff.1 (own_ok e2)).2.1 m hm)).1
     have:=topMask_le n; omega
    have rgm:∀ m ∈ moreM v,-2 ≤ m∧m ≤ 63:=fun m hm=>by
     have h1:=(maskOk_iff.1 ((masksOk_iff.1 (more_ok e1)).2.1 m hm)).1
     have:=topMask_le n; omega
    have hx':=pf_reads b2 a9
    have f1:=implMasksHave_ok (show 2000010 ≤ k by omega) (n:=n) ⟨a7,a8⟩ (own_reads b3) hx' (by omega) rgo (by omega)
    have f2:=implMasksHave_ok (show 2000010 ≤ k by omega) (n:=n) ⟨a7,a8⟩ (own_reads b4) hx' (by omega) rgm (by omega)
    have f3:=implGridFilled_ok (show 2000001 ≤ k by omega) hx' (by omega) n
    rw [ip e2] at f3
    have hxl:=a9.len
    have ef:(haveV n (ownM g) g == ((filled g:Int) == (xs.len:Int)))=true:=by
     rw [beq_iff_eq,Bool.eq_iff_iff,own_have e2,beq_iff_eq]; omega
    refine ⟨H',?_⟩
    simp only [AV.isTup,AV.nth,AV.isAgg,AV.cel,AV.toI,AV.toS,AV.toB,Zl,Zm,Zc,Zd,if_true,decide_true,beq_self_eq_true,Zt,Zf,Zy,Zx,Zo]
    unfold laws_FnMasksHave.j0
    rw [cond_false]
    unfold laws_FnMasksHave.j1
    rw [b1]
    unfold laws_FnMasksHave.j3
    rw [f1,Option.bind_some]
    simp only [AV.isTup,AV.nth,AV.isAgg,AV.cel,AV.toI,AV.toS,AV.toB,Zl,Zm,Zc,Zd,if_true,decide_true,beq_self_eq_true,Zt,Zf,Zy,Zx,Zo]
    rw [f3,Option.bind_some]
    simp only [AV.isTup,AV.nth,AV.isAgg,AV.cel,AV.toI,AV.toS,AV.toB,Zl,Zm,Zc,Zd,if_true,decide_true,beq_self_eq_true,Zt,Zf,Zy,Zx,Zo]
    rw [ef,cond_true]
    cases e3:haveV n v g with
    | false=>simp only [AV.isTup,AV.nth,AV.isAgg,AV.cel,AV.toI,AV.toS,AV.toB,Zl,Zm,Zc,Zd,if_true,decide_true,beq_self_eq_true,Zt,Zf,Zy,Zx,Zo]
    | true=>
     rw [more_have e3] at f2
     simp only [AV.isTup,AV.nth,AV.isAgg,AV.cel,AV.toI,AV.toS,AV.toB,Zl,Zm,Zc,Zd,if_true,decide_true,beq_self_eq_true,Zt,Zf,Zy,Zx,Zo]
     rw [f2,Option.bind_some]
     simp only [AV.isTup,AV.nth,AV.isAgg,AV.cel,AV.toI,AV.toS,AV.toB,Zl,Zm,Zc,Zd,if_true,decide_true,beq_self_eq_true,Zt,Zf,Zy,Zx,Zo]
end Go.Proofs.Ytjojhbdghhmeeaa.Rp
