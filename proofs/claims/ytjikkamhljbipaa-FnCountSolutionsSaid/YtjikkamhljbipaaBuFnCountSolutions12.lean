/- Texts for the row of the law FnCountSolutions, part 12: the plain machine, the program's functions on it, what they come to. No conditions. -/
import Derived.Test.YtjikkamhljbipaaBuFnCountSolutions10
import Derived.Test.YtjikkamhljbipaaBuFnCountSolutions11
import Derived.Test.YtjikkamhljbipaaBuFnCountSolutions7
set_option linter.unusedVariables false
set_option linter.unusedSimpArgs false
namespace Go.Proofs.Ytjikkamhljbipaa.Rp
open Go Go.RowKit Go.Proofs.Ytjikkamhljbipaa.Ab
theorem l20Most_ok {k:Nat} (hk:10 ≤ k) {b:Nat} {H:Hp} {l:List Int} {p:Nat} (h:RD b H l p) (hp:p ≤ 1000000) :
  ∃ v H',callF PP orc k spec_l20Most.id [.ptr b 0] H=some (.int .i64 v,H')∧Adv b H H'∧0 ≤ v∧v ≤ 601:=by
 obtain ⟨k,rfl⟩:=Zs k (by omega)
 rw [spec_l20Most.call]
 have hbl:=h.lt
 obtain ⟨w,H1,a1,a2,a3,a4,a5⟩:=pick_adv (show 1 ≤ k by omega) h (by omega) 4
 have hw:=a5 (by omega)
 have w1:IntKind.i64.wrap (1 + w)=1 + w:=wr (by omega) (by omega)
 obtain ⟨Ha,hHa⟩:∃ X,H1 ++ [some (Blk.mk false [.int .i64 (1 + w),.int .i64 600,.int .i64 0,.int .i64 601])]=X:=⟨_,rfl⟩
 obtain ⟨Hb,hHb⟩:∃ X,Ha ++ [some (Blk.mk false [.int .i64 0,.int .i64 0,.int .i64 0,.int .i64 1,.int .i64 1,.int .i64 2,.int .i64 3])]=X:=⟨_,rfl⟩
 have la:Ha.length=H1.length + 1:=by rw [← hHa]; simp
 have pa:H1 <+: Ha:=by rw [← hHa]; exact List.prefix_append _ _
 have pb:Ha <+: Hb:=by rw [← hHb]; exact List.prefix_append _ _
 have ra:Reads .i64 Hb (Sl.mk false H1.length 0 4) [1 + w,600,0,601]:=pf_reads pb (by rw [← hHa]; exact own_reads (own_new 1 H1 (([1 + w,600,0,601]:List Int).map (.int .i64)) 4 rfl))
 have rb:Reads .i64 Hb (Sl.mk false Ha.length 0 7) [0,0,0,1,1,2,3]:=by rw [← hHb]; exact own_reads (own_new 1 Ha (([0,0,0,1,1,2,3]:List Int).map (.int .i64)) 7 rfl)
 have hle:=a3.le
 obtain ⟨q,H2,b1,b2,b3,b4,b5⟩:=pick_adv (show 1 ≤ k by omega) (a2.pf (pa.trans pb)) (by omega) 7
 have hq:=b5 (by omega)
 have ra2:=b3.reads (by simp only; omega) ra
 have rb2:=b3.reads (by simp only; omega) rb
 obtain ⟨Q,rfl⟩:=Int.eq_ofNat_of_zero_le b4
 have r1:=rdn rb2 (i:=Q) (by simp; omega)
 obtain ⟨Y,eY,hY⟩:∃ Y:Nat,([0,0,0,1,1,2,3]:List Int).getD Q 0=(Y:Int)∧Y < 4:=by
  have:Q=0 ∨ Q=1 ∨ Q=2 ∨ Q=3 ∨ Q=4 ∨ Q=5 ∨ Q=6:=by omega
  rcases this with rfl | rfl | rfl | rfl | rfl | rfl | rfl
  ·exact ⟨0,rfl,by omega⟩
  ·exact ⟨0,rfl,by omega⟩
  ·exact ⟨0,rfl,by omega⟩
  ·exact ⟨1,rfl,by omega⟩
  ·exact ⟨1,rfl,by omega⟩
  ·exact ⟨2,rfl,by omega⟩
  ·exact ⟨3,rfl,by omega⟩
 rw [eY] at r1
 have r2:=rdn ra2 (i:=Y) (by simp; omega)
 have hv:0 ≤ ([1 + w,600,0,601]:List Int).getD Y 0∧([1 + w,600,0,601]:List Int).getD Y 0 ≤ 601:=by
  have:Y=0 ∨ Y=1 ∨ Y=2 ∨ Y=3:=by omega
  rcases this with rfl | rfl | rfl | rfl
  ·show 0 ≤ 1 + w∧1 + w ≤ 601; omega
  ·show (0:Int) ≤ 600∧(600:Int) ≤ 601; omega
  ·show (0:Int) ≤ 0∧(0:Int) ≤ 601; omega
  ·show (0:Int) ≤ 601∧(601:Int) ≤ 601; omega
 refine ⟨_,H2,?_,(a3.trans (pf_adv (pa.trans pb))).trans b3,hv.1,hv.2⟩
 simp only at r1 r2
 unfold spec_l20Most.f
 rw [a1,Option.bind_some]
 simp only [AV.toI,if_true,Zo,w1,hHa,hHb]
 rw [b1,Option.bind_some]
 simp only [AV.toI,if_true,Zo]
 rw [dt (show (0:Int) ≤ (Q:Int) by omega),dt (show (Q:Int) < ((7:Nat):Int) by omega)]
 simp only [Za,Zt,Zn,r1,Zo]
 rw [dt (show (0:Int) ≤ (Y:Int) by omega),dt (show (Y:Int) < ((4:Nat):Int) by omega)]
 simp only [Za,Zt,Zn,r2,Zo]
theorem DrawCountSolutions_ok {k:Nat} (hk:2000501 ≤ k) {H:Hp} {s:Sl} {l:List Int} (hs:Reads .u8 H s l) (hb:∀ x ∈ l,0 ≤ x∧x ≤ 255) :
  ∃ n gs ss given rs z H',callF PP orc k spec_DrawCountSolutions.id [.sl 1 s] H=some (.tup [.agg [.int .i64 n,.sl 1 gs,.sl 3 ss],.int .i64 z],H')∧H <+: H'∧PuzB H H' n gs ss given rs∧0 ≤ z∧z ≤ 601:=by
 obtain ⟨k,rfl⟩:=Zs k (by omega)
 rw [spec_DrawCountSolutions.call]
 obtain ⟨H1,n,gs,ss,given,rs,l',p',H',a1,a2,a3,a4,a5,a6,a7,a8,a9⟩:=open_puzzle (show 2000500 ≤ k by omega) hs hb (x1:=12) (by omega)
 obtain ⟨z,H2,b1,b2,b3,b4⟩:=l20Most_ok (show 10 ≤ k by omega) a4 (by omega)
 refine ⟨n,gs,ss,given,rs,z,H2,?_,b2.but.pf (Nat.le_refl _) a3 b2.le,(a8.adv a6 b2).base (by omega),b3,b4⟩
 unfold spec_DrawCountSolutions.f
 rw [a1,Option.bind_some]
 simp only [AV.toP,Zo]
 rw [a2,Option.bind_some]
 simp only [AV.isTup,AV.nth,AV.isAgg,AV.cel,AV.toI,AV.toS,AV.toB,Zl,Zm,Zc,Zd,if_true,decide_true,beq_self_eq_true,Zt,Zf,Zy,Zx,Zo]
 rw [b1,Option.bind_some]
 simp only [AV.isTup,AV.nth,AV.isAgg,AV.cel,AV.toI,AV.toS,AV.toB,Zl,Zm,Zc,Zd,if_true,decide_true,beq_self_eq_true,Zt,Zf,Zy,Zx,Zo]
theorem specCount_ok {k:Nat} (hk:2000210 ≤ k) {H:Hp} {n:Int} {gs s:Sl} {given:List Int} {rs:List R} (hz:PuzAt H n gs s given rs) (m:Int) :
  ∃ H',callF PP orc k spec_CountSolutions.id [.agg [.int .i64 n,.sl 1 gs,.sl 3 s],.int .i64 m] H=some (.int .i64 (countV n given (rs.map R.val) m),H')∧H <+: H':=by
 obtain ⟨k,rfl⟩:=Zs k (by omega)
 rw [spec_CountSolutions.call]
 have h1:=specPuzzleValid_ok (show 2000003 ≤ k by omega) hz.n4 hz.rg hz.gl hz.rr hz.rl hz.rc
 rw [puzzle_map] at h1
 have h3:=l1In_ok (show 1 ≤ k by omega) m 1 600 H
 unfold countV
 cases c1:puzzleV n given (rs.map R.val) with
 | false=>
  rw [c1] at h1
  rw [iN (by simp)]
  exact ⟨H,by simp only [spec_CountSolutions.f,spec_CountSolutions.j0,dt,df,bt,bf,nt,nf,Za,Zy,Zx,Zt,Zf,Zn,Zz,Zi,Zo,wr,AV.toB,AV.toI,AV.toS,if_true,h1],(List.prefix_refl _)⟩
 | true=>
  rw [c1] at h1
  by_cases c:1 ≤ m∧m ≤ 600
  ·rw [decide_eq_true c] at h3
   rw [ip ⟨rfl,c⟩]
   obtain ⟨q,rfl⟩:=Int.eq_ofNat_of_zero_le (show 0 ≤ m by omega)
   obtain ⟨t,H',a1,a2,a3⟩:=specl5All_ok (show 2000200 ≤ k by omega) hz (most:=q) (by omega) (by omega)
   have hl:=a3.len
   refine ⟨H',?_,a2⟩
   simp only [spec_CountSolutions.f,spec_CountSolutions.j0,spec_CountSolutions.j1,h1,h3,a1,Zo,AV.toB,AV.toS,if_true,Zy,Zf,hl,Zn]
  ·rw [decide_eq_false c] at h3
   rw [iN (fun h=>c h.2)]
   exact ⟨H,by simp only [spec_CountSolutions.f,spec_CountSolutions.j0,h1,h3,Zo,AV.toB,Zy,Zx,Zf,Zt],(List.prefix_refl _)⟩
theorem squareV_at' {n:Int} (hn:2 ≤ n∧n ≤ 4) (i:Nat):squareV n (i:Int)=((squares n)[i]?).getD []:=by
 unfold squareV; rw [if_pos ⟨hn,by omega⟩,Int.toNat_natCast]
theorem solved_nil {n:Int} (hn:2 ≤ n∧n ≤ 4) (given:List Int) (vs:List V):puzzleSolvedV n given vs []=false:=by
 have:gridOk [] n=false:=by
  rw [Bool.eq_false_iff]; intro h
  have:=((gridOk_iff [] n).1 h).2.1
  have h3:n=2 ∨ n=3 ∨ n=4:=by omega
  rcases h3 with rfl | rfl | rfl <;> simp at this
 unfold puzzleSolvedV puzzleFitsV
 rw [this]; simp
theorem Count_l1 {k:Nat} (hk:2000600 ≤ k) {H0:Hp} {n:Int} {gs ss:Sl} {given:List Int} {rs:List R} (hz:PuzAt H0 n gs ss given rs) (h12:(squares n).length ≤ 12) {tot:Nat} (htot:tot ≤ 1000) :
  ∀ (j i fuel cnt:Nat) (H:Hp),i + j=12→j < fuel→H0 <+: H→cnt + (((squares n).drop i).filter (puzzleSolvedV n given (rs.map R.val))).length=tot→∃ H',laws_FnCountSolutions.l1 (callF PP orc k) k fuel (tot:Int) (cnt:Int) (i:Int) n gs ss H=some (.bool true,H'):=by
 have hn:=hz.n4
 intro j
 induction j with
 | zero=>
  intro i fuel cnt H hi hf hpf hc
  obtain ⟨fuel,rfl⟩:=Zs fuel (by omega)
  rw [List.drop_eq_nil_of_le (by omega)] at hc
  have:cnt=tot:=by simpa using hc
  subst this
  exact ⟨H,by simp (disch:=omega) only [laws_FnCountSolutions.l1,laws_FnCountSolutions.j4,df,Zf,bt (show (cnt:Int)=(cnt:Int) from rfl)]⟩
 | succ j ih=>
  intro i fuel cnt H hi hf hpf hc
  obtain ⟨fuel,rfl⟩:=Zs fuel (by omega)
  obtain ⟨t,H1,a1,a2,a3⟩:=implSquareNumber_ok (show 2000500 ≤ k by omega) (H:=H) (n:=n) (m:=(i:Int)) (by omega)
  rw [squareV_at' hn] at a3
  have hy16:(((squares n)[i]?).getD []).length ≤ 1000:=by
   cases e:(squares n)[i]? with
   | none=>simp
   | some y=>
    have:=(squares_pos hn (List.mem_of_getElem? e)).2.2.2.2
    simp only [Option.getD_some]; omega
  obtain ⟨H2,c1,c2⟩:=implPuzzleSolved_ok (show 2000043 ≤ k by omega) (hz.pf (hpf.trans a2)) a3 hy16
  have p2:=hpf.trans (a2.trans c2)
  have hcount:cnt + ((if puzzleSolvedV n given (rs.map R.val) (((squares n)[i]?).getD [])=true then 1 else 0) + (((squares n).drop (i + 1)).filter (puzzleSolvedV n given (rs.map R.val))).length)=tot:=by
   rw [← hc]
   by_cases e:i < (squares n).length
   ·rw [List.drop_eq_getElem_cons e,List.getElem?_eq_getElem e]
    simp only [Option.getD_some]
    by_cases es:puzzleSolvedV n given (rs.map R.val) (squares n)[i]=true
    ·rw [if_pos es,List.filter_cons_of_pos es,List.length_cons]; omega
    ·rw [if_neg es,List.filter_cons_of_neg es]; omega
   ·rw [List.drop_eq_nil_of_le (by omega),List.drop_eq_nil_of_le (by omega),List.getElem?_eq_none (by omega)]
    simp only [Option.getD_none]
    rw [if_neg (by rw [solved_nil hn]; simp)]; simp
  cases es:puzzleSolvedV n given (rs.map R.val) (((squares n)[i]?).getD []) with
  | true=>
   rw [es,if_pos rfl] at hcount
   rw [es] at c1
   obtain ⟨H',d1⟩:=ih (i + 1) fuel (cnt + 1) H2 (by omega) (by omega) p2 (by omega)
   push_cast at d1
   refine ⟨H',?_⟩
   simp (disch:=omega) only [laws_FnCountSolutions.l1,laws_FnCountSolutions.j3,dt,Zt,a1,c1,Zo,AV.toS,AV.toB,if_true,wr (n:=(cnt:Int) + 1),wr (n:=(i:Int) + 1),d1]
  | false=>
   rw [es,if_neg (by simp)] at hcount
   rw [es] at c1
   obtain ⟨H',d1⟩:=ih (i + 1) fuel cnt H2 (by omega) (by omega) p2 (by omega)
   push_cast at d1
   refine ⟨H',?_⟩
   simp (disch:=omega) only [laws_FnCountSolutions.l1,laws_FnCountSolutions.j3,dt,Zt,Zf,a1,c1,Zo,AV.toS,AV.toB,if_true,wr (n:=(i:Int) + 1),d1]
theorem CountSolutions_law {k:Nat} (hk:2000800 ≤ k) {H:Hp} {s:Sl} {l:List Int} (hs:Reads .u8 H s l) (hb:∀ x ∈ l,0 ≤ x∧x ≤ 255) :
  ∃ H',callF PP orc k laws_FnCountSolutions.id [.sl 1 s] H=some (.bool true,H'):=by
 obtain ⟨k,rfl⟩:=Zs k (by omega)
 rw [laws_FnCountSolutions.call]
 by_cases hbig:(s.len:Int) > 1048576
 ·exact ⟨H,by simp only [laws_FnCountSolutions.f,dt hbig,Zt]⟩
 ·obtain ⟨n,gs,ss,given,rs,z,H1,a1,a2,a3,z0,z6⟩:=DrawCountSolutions_ok (show 2000501 ≤ k by omega) hs hb
  have hz:=a3.at'
  have hn:=hz.n4
  obtain ⟨H2,b1,b2⟩:=implCount_ok (show 2000510 ≤ k by omega) hz a3.gn z
  obtain ⟨H3,c1,c2⟩:=specCount_ok (show 2000210 ≤ k by omega) (hz.pf b2) z
  have hz3:=hz.pf (b2.trans c2)
  unfold laws_FnCountSolutions.f
  rw [df hbig,cond_false,a1,Option.bind_some]
  simp only [AV.isTup,AV.nth,AV.isAgg,AV.cel,AV.toI,AV.toS,AV.toB,Zl,Zm,Zc,Zd,if_true,decide_true,beq_self_eq_true,Zt,Zf,Zy,Zx,Zo]
  rw [b1,Option.bind_some]
  simp only [AV.isTup,AV.nth,AV.isAgg,AV.cel,AV.toI,AV.toS,AV.toB,Zl,Zm,Zc,Zd,if_true,decide_true,beq_self_eq_true,Zt,Zf,Zy,Zx,Zo]
  rw [c1,Option.bind_some]
  simp only [AV.isTup,AV.nth,AV.isAgg,AV.cel,AV.toI,AV.toS,AV.toB,Zl,Zm,Zc,Zd,if_true,decide_true,beq_self_eq_true,Zt,Zf,Zy,Zx,Zo]
  rw [nf rfl,cond_false]
  by_cases c:puzzleV n given (rs.map R.val)=true∧1 ≤ z∧z ≤ 600
  ·obtain ⟨hp,z1,z2⟩:=c
   obtain ⟨Z,rfl⟩:=Int.eq_ofNat_of_zero_le z0
   have hsq:=squares_len hn
   have hall:(allSols n given (rs.map R.val)).length ≤ 576:=by
    rw [sols_filter hp]
    exact Nat.le_trans (List.length_filter_le _ _) hsq.1
   have ecount:∀ q:Nat,1 ≤ q→q ≤ 600→countV n given (rs.map R.val) (q:Int)=((min q (allSols n given (rs.map R.val)).length:Nat):Int):=fun q q1 q2=>by
    unfold countV
    rw [if_pos ⟨hp,by omega,by omega⟩,Int.toNat_natCast,List.length_take]
   rw [ecount Z (by omega) (by omega)]
   rw [df (show ¬ (((min Z (allSols n given (rs.map R.val)).length:Nat):Int) < 0) by omega),cond_false]
   have j2:∃ H',laws_FnCountSolutions.j2 (callF PP orc k) k (Z:Int) ((min Z (allSols n given (rs.map R.val)).length:Nat):Int) n gs ss H3=some (.bool true,H'):=by
    obtain ⟨H4,d1,d2⟩:=implCount_ok (show 2000510 ≤ k by omega) hz3 a3.gn 600
    have e6:=ecount 600 (by omega) (by omega)
    have e6':countV n given (rs.map R.val) 600=((min 600 (allSols n given (rs.map R.val)).length:Nat):Int):=e6
    rw [e6'] at d1
    have emn:((min Z (allSols n given (rs.map R.val)).length:Nat):Int)=mn (Z:Int) ((min 600 (allSols n given (rs.map R.val)).length:Nat):Int):=by
     unfold mn
     split <;> omega
    refine ⟨H4,?_⟩
    unfold laws_FnCountSolutions.j2
    rw [d1,Option.bind_some]
    simp only [AV.isTup,AV.nth,AV.isAgg,AV.cel,AV.toI,AV.toS,AV.toB,Zl,Zm,Zc,Zd,if_true,decide_true,beq_self_eq_true,Zt,Zf,Zy,Zx,Zo]
    rw [bt emn,cond_true,dt (show ((min Z (allSols n given (rs.map R.val)).length:Nat):Int) ≤ 576 by omega)]
   by_cases c6:Z=600
   ·subst c6
    rw [bt (show ((600:Nat):Int)=600 from rfl),cond_true]
    by_cases c4:n < 4
    ·obtain ⟨H',f1⟩:=Count_l1 (show 2000600 ≤ k by omega) hz3 (hsq.2 c4) (tot:=min 600 (allSols n given (rs.map R.val)).length) (by omega) 12 0 k 0 H3 (by omega) (by omega) (List.prefix_refl _) (by
      rw [List.drop_zero,← sols_filter hp]; omega)
     refine ⟨H',?_⟩
     rw [dt c4]
     unfold laws_FnCountSolutions.j0
     rw [cond_true]
     exact f1
    ·obtain ⟨H',f1⟩:=j2
     refine ⟨H',?_⟩
     rw [df c4]
     unfold laws_FnCountSolutions.j0
     rw [cond_false]
     exact f1
   ·obtain ⟨H',f1⟩:=j2
    refine ⟨H',?_⟩
    rw [bf (show (Z:Int) ≠ 600 by omega),cond_false]
    unfold laws_FnCountSolutions.j0
    rw [cond_false]
    exact f1
  ·have e:countV n given (rs.map R.val) z=-1:=by unfold countV; rw [if_neg c]
   obtain ⟨H4,d1,d2⟩:=alive_ok (show 2000002 ≤ k by omega) H3
   refine ⟨H4,?_⟩
   rw [e,dt (show (-1:Int) < 0 by omega),cond_true,bt rfl,cond_true,d1,Option.bind_some]
   simp only [AV.isTup,AV.nth,AV.isAgg,AV.cel,AV.toI,AV.toS,AV.toB,Zl,Zm,Zc,Zd,if_true,decide_true,beq_self_eq_true,Zt,Zf,Zy,Zx,Zo]
end Go.Proofs.Ytjikkamhljbipaa.Rp
