/- Texts for the row of the law FnMakeEven, part 14: the plain machine, the program's functions on it, what they come to. No conditions. -/
import Derived.Test.YtchliocobgkmbaaBuFnMakeEven13
import Derived.Test.YtchliocobgkmbaaBuFnMakeEven9
set_option linter.unusedVariables false
set_option linter.unusedSimpArgs false
namespace Go.Proofs.Ytchliocobgkmbaa.Rp
open Go Go.RowKit Go.Proofs.Ytchliocobgkmbaa.Ab
theorem byte_wf {l:List Int} (h:∀ n ∈ l,(Lit.int .u8 n).wf=true):∀ x ∈ l,0 ≤ x∧x ≤ 255:=fun x hx=>by
 have:=h x hx
 simp only [Lit.wf,IntKind.min,IntKind.max,IntKind.signed,IntKind.bits,Bool.and_eq_true,decide_eq_true_eq,if_true,Bool.false_eq_true,if_false] at this
 omega
theorem alive_ok {k:Nat} (hk:2000002 ≤ k) (H:Hp):∃ H',callF PP orc k laws_alive.id [] H=some (.bool true,H')∧H <+: H':=by
 obtain ⟨k,rfl⟩:=Zs k (by omega)
 rw [laws_alive.call]
 have hnew:=own_new 1 H (([1,0,0,2]:List Int).map (.int .i64)) 4 rfl
 have h1:=implGridFilled_ok (show 2000001 ≤ k by omega) (own_reads hnew) (by simp) 2
 rw [ip (show gridOk [1,0,0,2] 2=true by decide),show filled [1,0,0,2]=2 by decide] at h1
 refine ⟨H ++ [some (Blk.mk false (([1,0,0,2]:List Int).map (.int .i64)))],?_,(List.prefix_append _ _)⟩
 simp only [List.map_cons,List.map_nil] at h1 ⊢
 simp only [laws_alive.f,dt,df,bt,bf,nt,nf,Za,Zy,Zx,Zt,Zf,Zn,Zz,Zi,Zo,wr,AV.toB,AV.toI,AV.toS,if_true,h1]
 rfl
def DrawnP (H:Hp) (r:An):Prop:=∃ n gs s given rs H',r=some (.agg [.int .i64 n,.sl 1 gs,.sl 3 s],H')∧H <+: H'∧PuzB H H' n gs s given rs
theorem PuzB.base {H0 H1 H:Hp} {n:Int} {gs s:Sl} {given:List Int} {rs:List R} (h:PuzB H1 H n gs s given rs) (g:H0.length ≤ H1.length):PuzB H0 H n gs s given rs:=
 ⟨h.at',h.g16,h.gv,h.r25,h.c5,fun e=>Nat.le_trans g (h.gb e),fun e=>Nat.le_trans g (h.rb e),fun i hi e=>Nat.le_trans g (h.cb i hi e),h.gn,h.cn⟩
theorem open_puzzle {k:Nat} (hk:2000500 ≤ k) {H:Hp} {s:Sl} {l:List Int} (hs:Reads .u8 H s l) (hb:∀ x ∈ l,0 ≤ x∧x ≤ 255) {x1:Int} (hx1:x1 < 1000000) :
  ∃ H1 n gs ss given rs l' p' H',callF PP orc k spec_l20Open.id [.sl 1 s] H=some (.ptr H.length 0,H1)∧callF PP orc k spec_l20Puzzle.id [.ptr H.length 0,.int .i64 x1] H1=some (.agg [.int .i64 n,.sl 1 gs,.sl 3 ss],H')∧H <+: H'∧RD H.length H' l' p'∧p' ≤ 500∧H.length < H1.length∧H1.length ≤ H'.length∧PuzB H1 H' n gs ss given rs∧(x1 ≤ 0→puzzleV n given (rs.map R.val)=true):=by
 obtain ⟨l',H1,a1,a2,a3,a4⟩:=l20Open_ok (show 1 ≤ k by omega) hs hb
 obtain ⟨n,gs,ss,given,rs,p',H',b1,b2,b3,b4,b5,b6⟩:=l20Puzzle_ok hk hx1 a3 (by omega)
 exact ⟨H1,n,gs,ss,given,rs,l',p',H',a1,b1,b4.but.pf (Nat.le_refl _) a2 b4.le,b2,by omega,by omega,b4.le,b5,b6⟩
theorem PuzB.adv {b:Nat} {H0 B H:Hp} {n:Int} {gs s:Sl} {given:List Int} {rs:List R} (h:PuzB H0 B n gs s given rs) (hb:b < H0.length) (g:Adv b B H):PuzB H0 H n gs s given rs:=by
 have rd:∀ {t:Sl} {l:List Int},(l ≠ []→H0.length ≤ t.blk)→Reads .i64 B t l→Reads .i64 H t l:=fun {t l} h1 h2=>by
  by_cases e:l=[]
  ·subst e; exact reads_nil h2.len
  ·exact g.reads (by have:=h1 e; omega) h2
 refine ⟨⟨rd h.gb h.at'.rg,?_,h.at'.n4,h.at'.gl,h.at'.rl,h.at'.rc⟩,h.g16,h.gv,h.r25,h.c5,h.gb,h.rb,h.cb,h.gn,h.cn⟩
 have hr:=h.at'.rr
 have cel:∀ {o:Nat} {v:AV},rs ≠ []→B.cell s.blk o=some v→H.cell s.blk o=some v:=fun e hv=>g.but.cell (by have:=h.rb e; omega) hv
 refine ⟨hr.len,fun i hi=>cel ?_ (hr.c0 i hi),fun i hi=>cel ?_ (hr.c1 i hi),fun i hi=>cel ?_ (hr.c2 i hi),fun i hi=>rd (h.cb i hi) (hr.cs i hi)⟩
 all_goals
  intro e; subst e; exact absurd hi (Nat.not_lt_zero _)
theorem PuzB.adv' {b:Nat} {H0 B H:Hp} {n:Int} {gs s:Sl} {given:List Int} {rs:List R} (h:PuzB H0 B n gs s given rs) (hb:b < H0.length) (g:Adv b B H):PuzB H0 H n gs s given rs:=by
 have rd:∀ {t:Sl} {l:List Int},(l ≠ []→H0.length ≤ t.blk)→Reads .i64 B t l→Reads .i64 H t l:=fun {t l} h1 h2=>by
  by_cases e:l=[]
  ·subst e; exact reads_nil h2.len
  ·exact g.reads (by have:=h1 e; omega) h2
 refine ⟨⟨rd h.gb h.at'.rg,?_,h.at'.n4,h.at'.gl,h.at'.rl,h.at'.rc⟩,h.g16,h.gv,h.r25,h.c5,h.gb,h.rb,h.cb,h.gn,h.cn⟩
 have hr:=h.at'.rr
 have cel:∀ {o:Nat} {v:AV},rs ≠ []→B.cell s.blk o=some v→H.cell s.blk o=some v:=fun e hv=>g.but.cell (by have:=h.rb e; omega) hv
 refine ⟨hr.len,fun i hi=>cel ?_ (hr.c0 i hi),fun i hi=>cel ?_ (hr.c1 i hi),fun i hi=>cel ?_ (hr.c2 i hi),fun i hi=>rd (h.cb i hi) (hr.cs i hi)⟩
 all_goals
  intro e; subst e; exact absurd hi (Nat.not_lt_zero _)
theorem DrawMakeEven_ok {k:Nat} (hk:2000501 ≤ k) {H:Hp} {s:Sl} {l:List Int} (hs:Reads .u8 H s l) (hb:∀ x ∈ l,0 ≤ x∧x ≤ 255):DrawnP H (callF PP orc k spec_DrawMakeEven.id [.sl 1 s] H):=by
 obtain ⟨k,rfl⟩:=Zs k (by omega)
 rw [spec_DrawMakeEven.call]
 obtain ⟨H1,n,gs,ss,given,rs,l',p',H',a1,a2,a3,a4,a5,a6,a7,a8,a9⟩:=open_puzzle (show 2000500 ≤ k by omega) hs hb (x1:=12) (by omega)
 obtain ⟨t,H3,c1,c2⟩:=specSolveFirst_ok (show 2000201 ≤ k by omega) a8.at'
 have z3:=a8.adv' a6 (pf_adv c1)
 rcases c2 with ⟨_,c2,_⟩ | ⟨x,c2,c3,c4⟩
 ·refine ⟨n,gs,ss,given,rs,H3,?_,a3.trans c1,z3.base (by omega)⟩
  simp only [spec_DrawMakeEven.f,spec_DrawMakeEven.j0,spec_DrawMakeEven.j1,dt,df,bt,bf,nt,nf,Za,Zy,Zx,Zt,Zf,Zn,Zz,Zi,Zo,wr,AV.toB,AV.toI,AV.toS,if_true,AV.toP,a1,a2,AV.isAgg,AV.isTup,AV.nth,AV.cel,Zl,Zm,Zc,Zd,c2]
  rfl
 ·obtain ⟨v,H4,d1,d2,d3,d4,d5⟩:=pick_adv (show 1 ≤ k by omega) (a4.pf c1) (by omega) 2
  obtain ⟨x1',x2',_⟩:=first_grid c2
  have z4:=z3.adv' a6 d3
  have p4:H <+: H4:=d3.but.pf (Nat.le_refl _) (a3.trans c1) d3.le
  have hle:=a3.length_le
  by_cases v0:v=0
  ·refine ⟨n,t,ss,x,rs,H4,?_,p4,⟨⟨d3.reads (by have:=c4.blk; omega) (own_reads c4),z4.at'.rr,z4.at'.n4,by have:=gridOk_len x1'; omega,z4.at'.rl,z4.at'.rc⟩,gridOk_len x1',((gridOk_iff x n).1 x1').2.2,z4.r25,z4.c5,fun _=>by have:=c4.blk; omega,fun e=>by have:=z4.rb e; omega,fun i hi e=>by have:=z4.cb i hi e; omega,c4.nn,z4.cn⟩⟩
   simp (disch:=omega) only [spec_DrawMakeEven.f,spec_DrawMakeEven.j0,spec_DrawMakeEven.j1,dt,df,bt,bf,nt,nf,Za,Zy,Zx,Zt,Zf,Zn,Zz,Zi,Zo,wr,AV.toB,AV.toI,AV.toS,if_true,AV.toP,a1,a2,AV.isAgg,AV.isTup,AV.nth,AV.cel,Zl,Zm,Zc,Zd,c3,d1]
   rfl
  ·refine ⟨n,gs,ss,given,rs,H4,?_,p4,z4.base (by omega)⟩
   simp (disch:=omega) only [spec_DrawMakeEven.f,spec_DrawMakeEven.j0,spec_DrawMakeEven.j1,dt,df,bt,bf,nt,nf,Za,Zy,Zx,Zt,Zf,Zn,Zz,Zi,Zo,wr,AV.toB,AV.toI,AV.toS,if_true,AV.toP,a1,a2,AV.isAgg,AV.isTup,AV.nth,AV.cel,Zl,Zm,Zc,Zd,c3,d1]
   rfl
theorem filled_eq {g:List Int}:filled g=g.length ↔ full g:=by
 unfold filled full
 rw [List.countP_eq_length]
 constructor
 ·intro h i hi; simpa using h _ (mem_getD hi)
 ·intro h v hv
  obtain ⟨i,hi,rfl⟩:=List.getElem_of_mem hv
  have:=h i hi
  rw [List.getD_eq_getElem?_getD,List.getElem?_eq_getElem hi] at this
  simpa using this
theorem PuzB.cnmE {H0 H:Hp} {n:Int} {gs s:Sl} {given:List Int} {rs:List R} (h:PuzB H0 H n gs s given rs):∀ r ∈ rs,r.sl.nil=false ∨ r.cells=[]:=fun r hr=>by
 obtain ⟨i,hi,e⟩:=List.mem_iff_getElem.1 hr
 rw [← e]; exact h.cn i hi
theorem Even_l2 {k:Nat} {H:Hp} {n m:Int} {gs ss gt st:Sl} {g:List Int} (ht:Reads .i64 H gt g) (hl:g.length ≤ 1000) {full':Bool} (hsym:full'=true→Sym g) {res:An}
  (hend:laws_FnMakeEven.j5 (callF PP orc k) k n gs ss m gt st H=res) :
  ∀ (j i fuel:Nat),i + j=g.length→j < fuel→laws_FnMakeEven.l2 (callF PP orc k) k fuel full' i n gs ss m gt st H=res:=by
 have hgl:=ht.len
 intro j
 induction j with
 | zero=>
  intro i fuel hi hf
  obtain ⟨fuel,rfl⟩:=Zs fuel (by omega)
  rw [← hend]
  simp (disch:=omega) only [laws_FnMakeEven.l2,laws_FnMakeEven.j3,df,Zf]
 | succ j ih=>
  intro i fuel hi hf
  obtain ⟨fuel,rfl⟩:=Zs fuel (by omega)
  cases full' with
  | false=>
   rw [← hend]
   simp (disch:=omega) only [laws_FnMakeEven.l2,laws_FnMakeEven.j3,dt,Zt,Zf]
  | true=>
   have d1:=ih (i + 1) fuel (by omega) (by omega)
   push_cast at d1
   rw [← d1]
   have hs:=hsym rfl i (by omega)
   have e:((g.getD i 0 == 0) == (g.getD (g.length - 1 - i) 0 == 0))=true:=by
    rw [beq_iff_eq,Bool.eq_iff_iff,beq_iff_eq,beq_iff_eq]; exact hs
   have ei:IntKind.i64.wrap (IntKind.i64.wrap ((gt.len:Int) - 1) - (i:Int))=((g.length - 1 - i:Nat):Int):=by
    rw [wr (n:=(gt.len:Int) - 1) (by omega) (by omega),wr (by omega) (by omega)]; omega
   simp (disch:=omega) only [laws_FnMakeEven.l2,laws_FnMakeEven.j3,laws_FnMakeEven.j4,dt,Za,Zy,Zt,Zf,Zn,Zo,ei,rdn ht,e,wr (n:=(i:Int) + 1)]
theorem MakeEven_law {k:Nat} (hk:2000800 ≤ k) {H:Hp} {s:Sl} {l:List Int} (hs:Reads .u8 H s l) (hb:∀ x ∈ l,0 ≤ x∧x ≤ 255) :
  ∃ H',callF PP orc k laws_FnMakeEven.id [.sl 1 s] H=some (.bool true,H'):=by
 obtain ⟨k,rfl⟩:=Zs k (by omega)
 rw [laws_FnMakeEven.call]
 by_cases hbig:(s.len:Int) > 1048576
 ·exact ⟨H,by simp only [laws_FnMakeEven.f,dt hbig,Zt]⟩
 ·obtain ⟨n,gs,ss,given,rs,H1,a1,a2,a3⟩:=DrawMakeEven_ok (show 2000501 ≤ k by omega) hs hb
  have hz:=a3.at'
  have hgl2:=hz.gl
  obtain ⟨H2,b1,b2⟩:=implMakeEven_ok (show 2000530 ≤ k by omega) hz a3.gn a3.cnmE
  obtain ⟨H3,c1,c2⟩:=specMakeEven_ok (show 2000300 ≤ k by omega) (hz.pf b1)
  rcases b2 with ⟨e1,b2⟩ | ⟨e1,gt,st,qs,b2,b3,b4,b5,b6⟩
  ·rcases c2 with ⟨_,c2⟩ | ⟨e2,_⟩
   ·obtain ⟨H4,d1,d2⟩:=alive_ok (show 2000002 ≤ k by omega) H3
    have sm:=samePuzzle_ok (show 2000001 ≤ k by omega) (H:=H3) (n:=0) (a1:=Sl.none) (b1:=Sl.none) (g:=[]) (reads_nil rfl) (reads_nil rfl) (by simp) readsR_nil readsR_nil rfl (by simp) (fun r hr=>by cases hr)
    refine ⟨H4,?_⟩
    unfold laws_FnMakeEven.f
    rw [df hbig,cond_false,a1,Option.bind_some]
    simp only [AV.isTup,AV.nth,AV.isAgg,AV.cel,AV.toI,AV.toS,AV.toB,Zl,Zm,Zc,Zd,if_true,decide_true,beq_self_eq_true,Zt,Zf,Zy,Zx,Zo]
    rw [b2,Option.bind_some]
    simp only [AV.isTup,AV.nth,AV.isAgg,AV.cel,AV.toI,AV.toS,AV.toB,Zl,Zm,Zc,Zd,if_true,decide_true,beq_self_eq_true,Zt,Zf,Zy,Zx,Zo]
    rw [c2,Option.bind_some]
    simp only [AV.isTup,AV.nth,AV.isAgg,AV.cel,AV.toI,AV.toS,AV.toB,Zl,Zm,Zc,Zd,if_true,decide_true,beq_self_eq_true,Zt,Zf,Zy,Zx,Zo]
    rw [sm,Option.bind_some]
    simp only [AV.isTup,AV.nth,AV.isAgg,AV.cel,AV.toI,AV.toS,AV.toB,Zl,Zm,Zc,Zd,if_true,decide_true,beq_self_eq_true,Zt,Zf,Zy,Zx,Zo]
    unfold laws_FnMakeEven.j0 laws_FnMakeEven.j1
    simp only [Zt,Zf,Zx,beq_self_eq_true]
    rw [d1,Option.bind_some]
    rfl
   ·rw [e1] at e2; cases e2
  ·rcases c2 with ⟨e2,_⟩ | ⟨_,gu,su,ps,c2,c3,c4,c5,c6⟩
   ·rw [e1] at e2; cases e2
   ·obtain ⟨m1,m2,m3,m4,m5,x,m6,m7⟩:=even_spec e1
    have hq3:=b3.pf c1
    have hz3:=hz.pf (b1.trans c1)
    have sm:=samePuzzle_ok (show 2000001 ≤ k by omega) (n:=n) hq3.rg (own_reads c3) hq3.gl hq3.rr c4.reads (by rw [c5,b4]) hq3.rl hq3.rc
    have f1:firstV n given (rs.map R.val)=some x:=by unfold firstV; rw [m7]; rfl
    have f2:firstV n (evenV n given (rs.map R.val)) (qs.map R.val)=some x:=by unfold firstV; rw [b4,m6]; rfl
    have gf:=implGridFilled_ok (show 2000001 ≤ k by omega) hz3.rg (by omega) n
    rw [ip (puzzleV_grid m1).1] at gf
    obtain ⟨t1,H5,y1,y2⟩:=implSolveFirst_ok (show 2000510 ≤ k by omega) hz3 a3.gn
    obtain ⟨t2,H6,z1,z2⟩:=implSolveFirst_ok (show 2000510 ≤ k by omega) (hq3.pf y1) b5
    obtain ⟨H7,v1,v2⟩:=implCount_ok (show 2000510 ≤ k by omega) (hq3.pf (y1.trans z1)) b5 2
    rcases y2 with ⟨e,_⟩ | ⟨x',e,y2,y3⟩
    ·rw [f1] at e; cases e
    rw [f1] at e; cases e
    rcases z2 with ⟨e,_⟩ | ⟨x',e,z2,z3⟩
    ·rw [f2] at e; cases e
    rw [f2] at e; cases e
    have hx16:x.length ≤ 16:=gridOk_len ((mem_allSols m1 x).1 (by rw [m7]; simp)).1
    have hsame:=same_ok (show 2000000 ≤ k by omega) (pf_reads (z1.trans v2) y3) (pf_reads v2 z3) (by omega)
    have hcnt:countV n (evenV n given (rs.map R.val)) (qs.map R.val) 2=1:=by
     unfold countV
     rw [b4,if_pos ⟨m2,by omega,by omega⟩,m6]; rfl
    rw [hcnt] at v1
    have hj5:laws_FnMakeEven.j5 (callF PP orc k) k n gs ss n gt st H3=some (.bool true,H7):=by
     unfold laws_FnMakeEven.j5
     rw [y2,Option.bind_some]
     simp only [AV.isTup,AV.nth,AV.isAgg,AV.cel,AV.toI,AV.toS,AV.toB,Zl,Zm,Zc,Zd,if_true,decide_true,beq_self_eq_true,Zt,Zf,Zy,Zx,Zo]
     rw [z2,Option.bind_some]
     simp only [AV.isTup,AV.nth,AV.isAgg,AV.cel,AV.toI,AV.toS,AV.toB,Zl,Zm,Zc,Zd,if_true,decide_true,beq_self_eq_true,Zt,Zf,Zy,Zx,Zo]
     rw [v1,Option.bind_some]
     simp only [AV.isTup,AV.nth,AV.isAgg,AV.cel,AV.toI,AV.toS,AV.toB,Zl,Zm,Zc,Zd,if_true,decide_true,beq_self_eq_true,Zt,Zf,Zy,Zx,Zo]
     rw [hsame,Option.bind_some]
     simp only [AV.isTup,AV.nth,AV.isAgg,AV.cel,AV.toI,AV.toS,AV.toB,Zl,Zm,Zc,Zd,if_true,decide_true,beq_self_eq_true,Zt,Zf,Zy,Zx,Zo]
    have hlen:=m3.1
    have hl2:=Even_l2 hq3.rg (by omega) (full':=((filled given:Nat):Int) == (gs.len:Int)) (fun h=>m5 (filled_eq.1 (by
     rw [beq_iff_eq,hz3.rg.len] at h; omega))) hj5 (evenV n given (rs.map R.val)).length 0 k (by omega) (by omega)
    simp only [Int.natCast_zero] at hl2
    refine ⟨H7,?_⟩
    unfold laws_FnMakeEven.f
    rw [df hbig,cond_false,a1,Option.bind_some]
    simp only [AV.isTup,AV.nth,AV.isAgg,AV.cel,AV.toI,AV.toS,AV.toB,Zl,Zm,Zc,Zd,if_true,decide_true,beq_self_eq_true,Zt,Zf,Zy,Zx,Zo]
    rw [b2,Option.bind_some]
    simp only [AV.isTup,AV.nth,AV.isAgg,AV.cel,AV.toI,AV.toS,AV.toB,Zl,Zm,Zc,Zd,if_true,decide_true,beq_self_eq_true,Zt,Zf,Zy,Zx,Zo]
    rw [c2,Option.bind_some]
    simp only [AV.isTup,AV.nth,AV.isAgg,AV.cel,AV.toI,AV.toS,AV.toB,Zl,Zm,Zc,Zd,if_true,decide_true,beq_self_eq_true,Zt,Zf,Zy,Zx,Zo]
    rw [sm,Option.bind_some]
    simp only [AV.isTup,AV.nth,AV.isAgg,AV.cel,AV.toI,AV.toS,AV.toB,Zl,Zm,Zc,Zd,if_true,decide_true,beq_self_eq_true,Zt,Zf,Zy,Zx,Zo]
    unfold laws_FnMakeEven.j0 laws_FnMakeEven.j1
    simp only [Zt,Zf,Zy]
    rw [gf,Option.bind_some]
    simp only [AV.isTup,AV.nth,AV.isAgg,AV.cel,AV.toI,AV.toS,AV.toB,Zl,Zm,Zc,Zd,if_true,decide_true,beq_self_eq_true,Zt,Zf,Zy,Zx,Zo]
    exact hl2
end Go.Proofs.Ytchliocobgkmbaa.Rp
