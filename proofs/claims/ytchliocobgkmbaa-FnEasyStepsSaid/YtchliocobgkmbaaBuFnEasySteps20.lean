/- Texts for the row of the law FnEasySteps, part 20: the plain machine, the program's functions on it, what they come to. No conditions. -/
import Derived.Test.YtchliocobgkmbaaBuFnEasySteps17
import Derived.Test.YtchliocobgkmbaaBuFnEasySteps19
import Derived.Test.YtchliocobgkmbaaBuFnEasySteps12
import Derived.Test.YtchliocobgkmbaaBuFnEasySteps18
import Derived.Test.YtchliocobgkmbaaBuFnEasySteps13
import Derived.Test.YtchliocobgkmbaaBuFnEasySteps16
set_option linter.unusedVariables false
set_option linter.unusedSimpArgs false
namespace Go.Proofs.Ytchliocobgkmbaa.Rp
open Go Go.RowKit Go.Proofs.Ytchliocobgkmbaa.Ab
theorem get_new (L:Hp) (x:Option Blk):(L ++ [x])[L.length]?=some x:=by simp
theorem implruleMasks_ok {k:Nat} (hk:2000030 ≤ k) {kind value:Int} {cs ws:Sl} {H:Hp} {own:List Int} (hw:Reads .i64 H ws own) (hol:own.length ≤ 4) (hom:∀ m ∈ own,(0 ≤ m∧m ≤ 30)∧m.tmod 2=0) (hk2:KindLen kind own.length) :
  ∃ t H',callF PP orc k impl_ruleMasks.id [.agg [.int .i64 kind,.sl 1 cs,.int .i64 value],.sl 1 ws] H=some (.sl 1 t,H')∧H <+: H'∧Own 1 H H' t ((ruleMasksV kind value own).map (.int .i64)):=by
 obtain ⟨k,rfl⟩:=Zs k (by omega)
 rw [impl_ruleMasks.call]
 have hwl:=hw.len
 obtain ⟨Ha,hHa⟩:∃ X,H ++ [some (Blk.mk false [.int .i64 kind,.sl 1 cs,.int .i64 value])]=X:=⟨_,rfl⟩
 obtain ⟨Hb,hHb⟩:∃ X,Ha ++ [some (Blk.mk false [.sl 1 ws])]=X:=⟨_,rfl⟩
 obtain ⟨Hc,hHc⟩:∃ X,Hb ++ [some (Blk.mk false ((List.replicate own.length (0:Int)).map (.int .i64)))]=X:=⟨_,rfl⟩
 obtain ⟨Hd,hHd⟩:∃ X,Hc ++ [some (Blk.mk false [.sl 1 Sl.none])]=X:=⟨_,rfl⟩
 have la:Ha.length=H.length + 1:=by rw [← hHa]; simp
 have lb:Hb.length=H.length + 2:=by rw [← hHb]; simp [la]
 have lc:Hc.length=H.length + 3:=by rw [← hHc]; simp [lb]
 have ld:Hd.length=H.length + 4:=by rw [← hHd]; simp [lc]
 have pa:H <+: Ha:=by rw [← hHa]; exact (List.prefix_append _ _)
 have pb:Ha <+: Hb:=by rw [← hHb]; exact (List.prefix_append _ _)
 have pc:Hb <+: Hc:=by rw [← hHc]; exact (List.prefix_append _ _)
 have pd:Hc <+: Hd:=by rw [← hHd]; exact (List.prefix_append _ _)
 have ga:Ha[H.length]?=some (some (Blk.mk false [.int .i64 kind,.sl 1 cs,.int .i64 value])):=by rw [← hHa]; exact get_new _ _
 have gb:Hb[Ha.length]?=some (some (Blk.mk false [.sl 1 ws])):=by rw [← hHb]; exact get_new _ _
 have gc:Hc[Hb.length]?=some (some (Blk.mk false ((List.replicate own.length (0:Int)).map (.int .i64)))):=by rw [← hHc]; exact get_new _ _
 have gd:Hd[Hc.length]?=some (some (Blk.mk false [.sl 1 Sl.none])):=by rw [← hHd]; exact get_new _ _
 obtain ⟨H2,a1,a2,a3,a4⟩:=sto1' gd (.sl 1 (Sl.mk false Hb.length 0 own.length))
 obtain ⟨He,hHe⟩:∃ X,H2 ++ [some (Blk.mk false ((List.replicate own.length (0:Int)).map (.int .i64)))]=X:=⟨_,rfl⟩
 obtain ⟨Hf,hHf⟩:∃ X,He ++ [some (Blk.mk false [.sl 1 Sl.none])]=X:=⟨_,rfl⟩
 have le:He.length=H.length + 5:=by rw [← hHe]; simp; omega
 have lf:Hf.length=H.length + 6:=by rw [← hHf]; simp [le]
 have pe:H2 <+: He:=by rw [← hHe]; exact (List.prefix_append _ _)
 have pf:He <+: Hf:=by rw [← hHf]; exact (List.prefix_append _ _)
 have ge:He[H2.length]?=some (some (Blk.mk false ((List.replicate own.length (0:Int)).map (.int .i64)))):=by rw [← hHe]; exact get_new _ _
 have gf:Hf[He.length]?=some (some (Blk.mk false [.sl 1 Sl.none])):=by rw [← hHf]; exact get_new _ _
 obtain ⟨H4,b1,b2,b3,b4⟩:=sto1' gf (.sl 1 (Sl.mk false H2.length 0 own.length))
 obtain ⟨Hg,hHg⟩:∃ X,H4 ++ [some (Blk.mk false [.nilf])]=X:=⟨_,rfl⟩
 have lg:Hg.length=H.length + 7:=by rw [← hHg]; simp; omega
 have pg:H4 <+: Hg:=by rw [← hHg]; exact (List.prefix_append _ _)
 have gg:Hg[H4.length]?=some (some (Blk.mk false [.nilf])):=by rw [← hHg]; exact get_new _ _
 obtain ⟨H5,c1,c2,c3,c4⟩:=sto1' gg (.fn impl_ruleMasks_1.id [.ptr Ha.length 0,.ptr H.length 0,.ptr He.length 0,.ptr Hc.length 0,.ptr H4.length 0])
 -- what lies where in the end
 have up:∀ {d:Nat} {x:Blk},d ≠ Hc.length→Hd[d]?=some (some x)→H2[d]?=some (some x):=fun h h'=>a3 _ _ h h'
 have up4:∀ {d:Nat} {x:Blk},d ≠ He.length→H2[d]?=some (some x)→H4[d]?=some (some x):=fun h h'=>b3 _ _ h (pf_get (pe.trans pf) h')
 have up5:∀ {d:Nat} {x:Blk},d ≠ H4.length→H4[d]?=some (some x)→H5[d]?=some (some x):=fun h h'=>c3 _ _ h (pf_get pg h')
 have hr5:=up5 (by omega) (up4 (by omega) (up (by omega) (pf_get (pb.trans (pc.trans pd)) ga)))
 have hb2:=up (by omega) (pf_get (pc.trans pd) gb)
 have hb5:=up5 (by omega) (up4 (by omega) hb2)
 have hc5:=up5 (by omega) (up4 (by omega) (up (by omega) (pf_get pd gc)))
 have ho5:=up5 (by omega) (up4 (by omega) a2)
 have hv5:=up5 (by omega) (b3 _ _ (by omega) (pf_get pf ge))
 have hvb5:=up5 (by omega) b2
 have p5:H <+: H5:=by
  have q2:H <+: H2:=a3.pf (by omega) (pa.trans (pb.trans (pc.trans pd))) (by omega)
  have q4:H <+: H4:=b3.pf (by omega) (q2.trans (pe.trans pf)) (by omega)
  exact c3.pf (by omega) (q4.trans pg) (by omega)
 have ht:Try H5 Ha.length H.length He.length Hc.length H4.length kind value cs ws (Sl.mk false H2.length 0 own.length) (Sl.mk false Hb.length 0 own.length):=
  ⟨hb5,hr5,hvb5,ho5,c2,by simp only; omega⟩
 obtain ⟨H',rest',d1,d2,d3,d4,d5,d6⟩:=Try_ok (B:=H) (value:=value) hw hol hom hk2 (vs:=Sl.mk false H2.length 0 own.length) (os:=Sl.mk false Hb.length 0 own.length) (by simp only; omega) own.length k (by omega) H5 [] (List.replicate own.length 0) (List.replicate own.length 0) (by simp) (by simp) p5 ht
  ⟨rfl,rfl,by simp only; omega,by simpa using hv5,by simp⟩ ⟨by simp,fun v hv=>by cases hv⟩ (by simp) (Ms.zeros _) ⟨rfl,rfl,by simp only; omega,hc5,by simp⟩
 have ht':=ht.adv d4
 refine ⟨Sl.mk false Hb.length 0 own.length,H',?_,d3,by simpa [ruleMasksV] using d6⟩
 have l1:ldS 1 Hb Ha.length 0=some ws:=box_sl gb
 have l2:ldS 1 H2 Ha.length 0=some ws:=box_sl hb2
 have l3:ldF H5 H4.length 0=some (impl_ruleMasks_1.id,[.ptr Ha.length 0,.ptr H.length 0,.ptr He.length 0,.ptr Hc.length 0,.ptr H4.length 0]):=by unfold ldF Hp.cell; rw [c2]; simp [AV.toF]
 have l4:=box_sl ht'.o
 simp only [Zm,Int.natCast_zero] at d1
 simp only [impl_ruleMasks.f,hHa,hHb,l1,Zo]
 rw [ip (by omega)]
 simp only [hwl,Zn,flat0s,hHc,hHd,a1,Zo,l2]
 rw [ip (by omega)]
 simp only [hwl,Zn,flat0s,hHe,hHf,b1,Zo,hHg,c1,l3,okTry,List.cons_append,List.nil_append,List.all_cons,List.all_nil,AV.glob,AV.cell,Za,Zt,d1,l4]
theorem kindLen_of {n kind value:Int} {m:Nat} (h:kindOk n kind value m=true):KindLen kind m:=by
 unfold kindOk at h
 unfold KindLen
 split at h
 ·omega
 ·split at h
  ·omega
  ·split at h
   ·simp only [decide_eq_true_eq] at h; omega
   ·split at h
    ·simp only [decide_eq_true_eq] at h; omega
    ·cases h
theorem ownOf_even {n:Int} {masks cells:List Int} (hm:masksOk n masks=true) (hc:∀ c ∈ cells,0 ≤ c∧c < (masks.length:Int)):∀ m ∈ ownOf masks cells,(0 ≤ m∧m ≤ 30)∧m.tmod 2=0:=fun m h=>by
 obtain ⟨c,hc',rfl⟩:=List.mem_map.1 h
 obtain ⟨c0,c1⟩:=hc c hc'
 have:=(masksOk_iff.1 hm).2.1 _ (gv_mem c0 c1)
 unfold maskOk at this
 simp only [Bool.and_eq_true,decide_eq_true_eq,beq_iff_eq] at this
 have ht:=topMask_le n
 omega
/-! ### impl.canHold -/
theorem canHold_l0 {k:Nat} (hk:2000040 ≤ k) {n kind value:Int} {cs xs:Sl} {H0:Hp} {cells g:List Int} (hc:Reads .i64 H0 cs cells) (hx:Reads .i64 H0 xs g) (hr:ruleOk n kind cells value=true) (hg:gridOk g n=true) :
  ∀ (j i fuel:Nat) (H:Hp) (t:Sl),i + j=cells.length→j < fuel→H0 <+: H→Own 1 H0 H t ((ownOf (openOf n g) (cells.take i)).map (.int .i64)) →
   ∃ H',impl_canHold.l0 (callF PP orc k) k fuel xs n t cs cells.length i kind cs value H=some (.bool (canHoldV n g (kind,cells,value)),H')∧H0 <+: H':=by
 obtain ⟨hn,g2,g3⟩:=(gridOk_iff g n).1 hg
 obtain ⟨c1,c2,c3,c4⟩:=ruleOk_cells hr
 have hcl:=hc.len
 have hxl:=hx.len
 have hop:(openOf n g).length=g.length:=by simp [openOf]
 intro j
 induction j with
 | zero=>
  intro i fuel H t hi hf hp ho
  obtain ⟨fuel,rfl⟩:=Zs fuel (by omega)
  rw [List.take_of_length_le (by omega)] at ho
  have hkl:KindLen kind (ownOf (openOf n g) cells).length:=by
   simp only [ownOf,List.length_map]
   unfold ruleOk at hr; rw [Bool.and_eq_true] at hr; exact kindLen_of hr.2
  obtain ⟨u,H1,a1,a2,a3⟩:=implruleMasks_ok (show 2000030 ≤ k by omega) (kind:=kind) (value:=value) (cs:=cs) (own_reads ho) (by simp [ownOf]; omega) (ownOf_even (openOf_ok hg) fun c h=>by have:=c1 c h; omega) hkl
  refine ⟨H1,?_,hp.trans a2⟩
  have hl:(ruleMasksV kind value (ownOf (openOf n g) cells)).length=cells.length:=by
   unfold ruleMasksV
   rw [(ways_ok _ _ [] _ ⟨by simp,fun v hv=>by cases hv⟩ (by simp [ownOf]; omega) (Ms.zeros _)).2]
   simp [ownOf]
  have hul:=(own_reads a3).len
  have hd:(ruleMasksV kind value (ownOf (openOf n g) cells)).getD 0 0=(ruleMasksV kind value (ownOf (openOf n g) cells)).headD 0:=by
   cases ruleMasksV kind value (ownOf (openOf n g) cells) <;> rfl
  simp (disch:=omega) only [impl_canHold.l0,impl_canHold.j2,dt,df,bt,bf,nt,nf,Za,Zy,Zx,Zt,Zf,Zn,Zz,Zi,Zo,wr,AV.toB,AV.toI,AV.toS,if_true,a1,rdn (own_reads a3),hd]
  rfl
 | succ j ih=>
  intro i fuel H t hi hf hp ho
  obtain ⟨fuel,rfl⟩:=Zs fuel (by omega)
  have hi2:i < cells.length:=by omega
  have hcc:=c1 _ (mem_getD hi2)
  have hlt:(cells.getD i 0).toNat < g.length:=by omega
  obtain ⟨v0,v1⟩:=g3 _ (mem_getD hlt)
  have htl:t.len=i:=by have:=ho.len; simp [ownOf] at this; omega
  have hval:gv (openOf n g) (cells.getD i 0)=if g.getD (cells.getD i 0).toNat 0 > 0 then pw (g.getD (cells.getD i 0).toNat 0) else topMask n:=by
   unfold gv openOf
   rw [List.getD_eq_getElem?_getD,List.getElem?_map,List.getElem?_eq_getElem hlt,List.getD_eq_getElem?_getD (l:=g),List.getElem?_eq_getElem hlt]; rfl
  have htk:ownOf (openOf n g) (cells.take (i + 1))=ownOf (openOf n g) (cells.take i) ++ [gv (openOf n g) (cells.getD i 0)]:=by
   rw [List.take_succ_eq_append_getElem hi2]; unfold ownOf
   rw [List.map_append,List.getD_eq_getElem?_getD,List.getElem?_eq_getElem hi2]; rfl
  obtain ⟨H1,a1,a2,a3,a4,a5⟩:=own_app1 ho hp (gv (openOf n g) (cells.getD i 0)) (by omega)
  rw [← htk] at a3
  obtain ⟨H',b1,b2⟩:=ih (i + 1) fuel H1 _ (by omega) (by omega) a2 a3
  push_cast at b1
  refine ⟨H',?_,b2⟩
  rw [hval] at a1
  by_cases c:g.getD (cells.getD i 0).toNat 0 > 0
  ·rw [ip c] at a1
   simp (disch:=omega) only [impl_canHold.l0,impl_canHold.j1,dt,df,bt,bf,nt,nf,Za,Zy,Zx,Zt,Zf,Zn,Zz,Zi,Zo,wr,AV.toB,AV.toI,AV.toS,if_true,rdn (pf_reads hp hc),rdn (pf_reads hp hx),iN,m_shl v0,a1,b1]
  ·rw [iN c] at a1
   simp (disch:=omega) only [impl_canHold.l0,impl_canHold.j1,dt,df,bt,bf,nt,nf,Za,Zy,Zx,Zt,Zf,Zn,Zz,Zi,Zo,wr,AV.toB,AV.toI,AV.toS,if_true,rdn (pf_reads hp hc),rdn (pf_reads hp hx),allValues_ok (show 1 ≤ k by omega) hn,a1,b1]
theorem canHold_ok {k:Nat} (hk:2000041 ≤ k) {n kind value:Int} {cs xs:Sl} {H:Hp} {cells g:List Int} (hc:Reads .i64 H cs cells) (hx:Reads .i64 H xs g) (hr:ruleOk n kind cells value=true) (hg:gridOk g n=true) :
  ∃ H',callF PP orc k impl_canHold.id [.agg [.int .i64 kind,.sl 1 cs,.int .i64 value],.sl 1 xs,.int .i64 n] H=some (.bool (canHoldV n g (kind,cells,value)),H')∧H <+: H':=by
 obtain ⟨k,rfl⟩:=Zs k (by omega)
 rw [impl_canHold.call]
 have hcl:=hc.len
 have:=(ruleOk_cells hr).2.1
 obtain ⟨H',a1,a2⟩:=canHold_l0 (show 2000040 ≤ k by omega) hc hx hr hg cells.length 0 k (H ++ [some (Blk.mk false [])]) (Sl.mk false H.length 0 0) (by omega) (by omega) (List.prefix_append _ _) (own_new 1 H [] 0 rfl)
 refine ⟨H',?_,a2⟩
 simp only [Int.natCast_zero] at a1
 simp only [impl_canHold.f,hcl,a1]
/-! ### impl.PuzzleFits, impl.PuzzleSolved -/
theorem implFits_l6 {k:Nat} (hk:2000041 ≤ k) {H0:Hp} {n:Int} {gs s xs:Sl} {given g:List Int} {rs:List R} (hz:PuzAt H0 n gs s given rs) (hro:∀ r ∈ rs,R.ok n r=true) (hx:Reads .i64 H0 xs g) (hg:gridOk g n=true) :
  ∀ (j i fuel:Nat) (H:Hp),i + j=rs.length→j < fuel→H0 <+: H→∃ H',impl_PuzzleFits.l6 (callF PP orc k) k fuel xs s rs.length i n gs s H=some (.bool (((rs.drop i).map R.val).all (canHoldV n g)),H')∧H0 <+: H':=by
 have hlen:=hz.rr.len
 have hrl:=hz.rl
 intro j
 induction j with
 | zero=>
  intro i fuel H hi hf hp
  obtain ⟨fuel,rfl⟩:=Zs fuel (by omega)
  refine ⟨H,?_,hp⟩
  rw [List.drop_eq_nil_of_le (by omega),List.map_nil,List.all_nil]
  simp (disch:=omega) only [impl_PuzzleFits.l6,dt,df,bt,bf,nt,nf,Za,Zy,Zx,Zt,Zf,Zn,Zz,Zi,Zo,wr,AV.toB,AV.toI,AV.toS,if_true]
 | succ j ih=>
  intro i fuel H hi hf hp
  obtain ⟨fuel,rfl⟩:=Zs fuel (by omega)
  have hi2:i < rs.length:=by omega
  obtain ⟨l0,l1,l2⟩:=rules_at1 (pf_readsR hp hz.rr) i hi2
  obtain ⟨H1,a1,a2⟩:=canHold_ok hk (pf_reads hp (hz.rr.cs i hi2)) (pf_reads hp hx) (hro _ (List.getElem_mem hi2)) hg
  obtain ⟨H',b1,b2⟩:=ih (i + 1) fuel H1 (by omega) (by omega) (hp.trans a2)
  push_cast at b1
  rw [List.drop_eq_getElem_cons hi2,List.map_cons,List.all_cons]
  have e:canHoldV n g rs[i].val=canHoldV n g (rs[i].kind,rs[i].cells,rs[i].value):=rfl
  rw [e]
  cases c:canHoldV n g (rs[i].kind,rs[i].cells,rs[i].value) with
  | true=>
   rw [c] at a1
   refine ⟨H',?_,b2⟩
   simp (disch:=omega) only [impl_PuzzleFits.l6,dt,df,bt,bf,nt,nf,Za,Zy,Zx,Zt,Zf,Zn,Zz,Zi,Zo,wr,AV.toB,AV.toI,AV.toS,if_true,l0,l1,l2,a1,b1,Bool.true_and]
  | false=>
   rw [c] at a1
   refine ⟨H1,?_,hp.trans a2⟩
   simp (disch:=omega) only [impl_PuzzleFits.l6,dt,df,bt,bf,nt,nf,Za,Zy,Zx,Zt,Zf,Zn,Zz,Zi,Zo,wr,AV.toB,AV.toI,AV.toS,if_true,l0,l1,l2,a1,Bool.false_and]
theorem implFits_l2 {k:Nat} (hk:2000041 ≤ k) {H:Hp} {n:Int} {gs s xs:Sl} {given g:List Int} {rs:List R} (hz:PuzAt H n gs s given rs) (hro:∀ r ∈ rs,R.ok n r=true) (hx:Reads .i64 H xs g) (hg:gridOk g n=true) (hl:given.length=g.length) :
  ∀ (j i fuel:Nat),i + j=g.length→j < fuel→∃ H',impl_PuzzleFits.l2 (callF PP orc k) k fuel xs xs g.length i n gs s H=some (.bool (compatFrom given g i j && (rs.map R.val).all (canHoldV n g)),H')∧H <+: H':=by
 have hgl:=hz.rg.len
 have hxl:=hx.len
 have hrl:=hz.rr.len
 have h16:=gridOk_len hg
 intro j
 induction j with
 | zero=>
  intro i fuel hi hf
  obtain ⟨fuel,rfl⟩:=Zs fuel (by omega)
  obtain ⟨H1,a1,a2⟩:=implFits_l6 hk hz hro hx hg rs.length 0 k H (by omega) (by have:=hz.rl; omega) (List.prefix_refl _)
  simp only [Int.natCast_zero,List.drop_zero] at a1
  refine ⟨H1,?_,a2⟩
  simp (disch:=omega) only [impl_PuzzleFits.l2,impl_PuzzleFits.j4,dt,df,bt,bf,nt,nf,Za,Zy,Zx,Zt,Zf,Zn,Zz,Zi,Zo,wr,AV.toB,AV.toI,AV.toS,if_true,hrl,a1,compatFrom,Bool.true_and]
 | succ j ih=>
  intro i fuel hi hf
  obtain ⟨fuel,rfl⟩:=Zs fuel (by omega)
  obtain ⟨H',b1,b2⟩:=ih (i + 1) fuel (by omega) (by omega)
  push_cast at b1
  rw [compatFrom]
  by_cases c2:g.getD i 0 > 0
  ·by_cases c1:given.getD i 0 > 0
   ·by_cases c3:g.getD i 0=given.getD i 0
    ·refine ⟨H',?_,b2⟩
     simp (disch:=omega) only [impl_PuzzleFits.l2,impl_PuzzleFits.j3,impl_PuzzleFits.j5,dt,df,bt,bf,nt,nf,Za,Zy,Zx,Zt,Zf,Zn,Zz,Zi,Zo,wr,AV.toB,AV.toI,AV.toS,if_true,rdn hz.rg,rdn hx,b1,Bool.and_false,Bool.true_and]
    ·refine ⟨H,?_,(List.prefix_refl _)⟩
     simp (disch:=omega) only [impl_PuzzleFits.l2,impl_PuzzleFits.j3,impl_PuzzleFits.j5,dt,df,bt,bf,nt,nf,Za,Zy,Zx,Zt,Zf,Zn,Zz,Zi,Zo,wr,AV.toB,AV.toI,AV.toS,if_true,rdn hz.rg,rdn hx,Bool.and_true,Bool.false_and]
   ·refine ⟨H',?_,b2⟩
    simp (disch:=omega) only [impl_PuzzleFits.l2,impl_PuzzleFits.j3,impl_PuzzleFits.j5,dt,df,bt,bf,nt,nf,Za,Zy,Zx,Zt,Zf,Zn,Zz,Zi,Zo,wr,AV.toB,AV.toI,AV.toS,if_true,rdn hz.rg,rdn hx,b1,Bool.and_false,Bool.false_and,Bool.true_and]
  ·refine ⟨H',?_,b2⟩
   simp (disch:=omega) only [impl_PuzzleFits.l2,impl_PuzzleFits.j3,impl_PuzzleFits.j5,dt,df,bt,bf,nt,nf,Za,Zy,Zx,Zt,Zf,Zn,Zz,Zi,Zo,wr,AV.toB,AV.toI,AV.toS,if_true,rdn hz.rg,rdn hx,b1,Bool.and_false,Bool.false_and,Bool.true_and]
theorem implPuzzleFits_ok {k:Nat} (hk:2000042 ≤ k) {H:Hp} {n:Int} {gs s xs:Sl} {given g:List Int} {rs:List R} (hz:PuzAt H n gs s given rs) (hx:Reads .i64 H xs g) (hl:g.length ≤ 1000) :
  ∃ H',callF PP orc k impl_PuzzleFits.id [.agg [.int .i64 n,.sl 1 gs,.sl 3 s],.sl 1 xs] H=some (.bool (puzzleFitsV n given (rs.map R.val) g),H')∧H <+: H':=by
 obtain ⟨k,rfl⟩:=Zs k (by omega)
 rw [impl_PuzzleFits.call]
 have h1:=implPuzzleValid_ok (show 2000003 ≤ k by omega) hz.n4 hz.rg hz.gl hz.rr hz.rl hz.rc
 rw [puzzle_map] at h1
 unfold puzzleFitsV
 cases c1:puzzleV n given (rs.map R.val) with
 | false=>
  rw [c1] at h1
  exact ⟨H,by simp only [impl_PuzzleFits.f,impl_PuzzleFits.j0,dt,df,bt,bf,nt,nf,Za,Zy,Zx,Zt,Zf,Zn,Zz,Zi,Zo,wr,AV.toB,AV.toI,AV.toS,if_true,h1,Bool.false_and],(List.prefix_refl _)⟩
 | true=>
  rw [c1] at h1
  obtain ⟨p1,p2,p3⟩:=puzzleV_iff c1
  obtain ⟨H1,a1,a2⟩:=implSquareFits_ok (show 2000001 ≤ k by omega) n hx (by omega)
  unfold squareFits at a1
  cases c2:gridOk g n with
  | false=>
   rw [c2] at a1
   exact ⟨H1,by simp only [impl_PuzzleFits.f,impl_PuzzleFits.j0,dt,df,bt,bf,nt,nf,Za,Zy,Zx,Zt,Zf,Zn,Zz,Zi,Zo,wr,AV.toB,AV.toI,AV.toS,if_true,h1,a1,Bool.false_and,Bool.true_and],a2⟩
  | true=>
   rw [c2,Bool.true_and] at a1
   cases c3:clash g n with
   | true=>
    rw [c3] at a1
    refine ⟨H1,?_,a2⟩
    unfold fitsV
    simp only [impl_PuzzleFits.f,impl_PuzzleFits.j0,dt,df,bt,bf,nt,nf,Za,Zy,Zx,Zt,Zf,Zn,Zz,Zi,Zo,wr,AV.toB,AV.toI,AV.toS,if_true,h1,a1,Bool.true_and,c3,Bool.and_false]
   | false=>
    rw [c3] at a1
    obtain ⟨H2,b1,b2⟩:=implFits_l2 (show 2000041 ≤ k by omega) (hz.pf a2) p3 (pf_reads a2 hx) c2 (grid_len_eq p1 c2) g.length 0 k (by omega) (by omega)
    have hxl:=hx.len
    refine ⟨H2,?_,a2.trans b2⟩
    simp only [Int.natCast_zero] at b1
    unfold fitsV compatB
    simp only [impl_PuzzleFits.f,impl_PuzzleFits.j0,impl_PuzzleFits.j1,dt,df,bt,bf,nt,nf,Za,Zy,Zx,Zt,Zf,Zn,Zz,Zi,Zo,wr,AV.toB,AV.toI,AV.toS,if_true,h1,a1,hxl,b1,Bool.true_and,c3,Bool.and_true]
theorem dm_of {n:Int} {l:List Int} (h:masksOk n l=true):l.length ≤ 16∧0 < l.length∧∀ m ∈ l,-2 ≤ m∧m ≤ 63:=by
 obtain ⟨h1,h2,h3⟩:=masksOk_iff.1 h
 have:=masks_len h
 refine ⟨by omega,by omega,fun m hm=>?_⟩
 have:=(maskOk_iff.1 (h2 m hm)).1
 have:=topMask_le n
 omega
theorem implRM_l2 {k:Nat} (hk:2000030 ≤ k) {n kind value:Int} {cs ms:Sl} {H0:Hp} {cells l:List Int} (hc:Reads .i64 H0 cs cells) (hm:Reads .i64 H0 ms l) (hr:ruleOk n kind cells value=true) (hl:masksOk n l=true) :
  ∀ (j i fuel:Nat) (H:Hp) (t:Sl),i + j=cells.length→j < fuel→H0 <+: H→Own 1 H0 H t ((ownOf l (cells.take i)).map (.int .i64)) →
   ∃ t' H',impl_RuleMasks.l2 (callF PP orc k) k fuel ms t cs cells.length i kind cs value H=some (.sl 1 t',H')∧H0 <+: H'∧Own 1 H0 H' t' ((ruleMasksV kind value (ownOf l cells)).map (.int .i64)):=by
 obtain ⟨c1,c2,c3,c4⟩:=ruleOk_cells hr
 have hcl:=hc.len
 have hml:=hm.len
 have hsz:=(masksOk_iff.1 hl).2.2
 have hk2:KindLen kind cells.length:=by
  have hr':=hr
  unfold ruleOk at hr'
  rw [Bool.and_eq_true] at hr'
  exact kindLen_of hr'.2
 intro j
 induction j with
 | zero=>
  intro i fuel H t hi hf hp ho
  obtain ⟨fuel,rfl⟩:=Zs fuel (by omega)
  rw [List.take_of_length_le (by omega)] at ho
  obtain ⟨t',H',a1,a2,a3⟩:=implruleMasks_ok hk (kind:=kind) (value:=value) (cs:=cs) (own_reads ho) (by rw [own_len]; omega) (ownOf_even hl fun c hcc=>by have:=c1 c hcc; omega) (by rw [own_len]; exact hk2)
  refine ⟨t',H',?_,hp.trans a2,own_base a3 hp⟩
  simp (disch:=omega) only [impl_RuleMasks.l2,impl_RuleMasks.j3,df,Zf,a1,Zo,AV.toS,if_true]
 | succ j ih=>
  intro i fuel H t hi hf hp ho
  obtain ⟨fuel,rfl⟩:=Zs fuel (by omega)
  have hi2:i < cells.length:=by omega
  have hcc:=c1 _ (mem_getD hi2)
  have htl:t.len=i:=by have:=ho.len; simp [ownOf] at this; omega
  have htk:ownOf l (cells.take (i + 1))=ownOf l (cells.take i) ++ [l.getD (cells.getD i 0).toNat 0]:=by
   rw [List.take_succ_eq_append_getElem hi2]; unfold ownOf
   rw [List.map_append,List.getD_eq_getElem?_getD (l:=cells),List.getElem?_eq_getElem hi2]; rfl
  obtain ⟨H1,a1,a2,a3,a4,a5⟩:=own_app1 ho hp (l.getD (cells.getD i 0).toNat 0) (by omega)
  rw [← htk] at a3
  obtain ⟨t',H',b1,b2,b3⟩:=ih (i + 1) fuel H1 _ (by omega) (by omega) a2 a3
  push_cast at b1
  refine ⟨t',H',?_,b2,b3⟩
  have hc0:(0:Int) ≤ cells.getD i 0:=hcc.1
  have hc3:cells.getD i 0 < (ms.len:Int):=by omega
  simp (disch:=omega) only [impl_RuleMasks.l2,dt,Za,Zt,Zn,Zo,rdn (pf_reads hp hc),rdn (pf_reads hp hm),a1,wr (n:=(i:Int) + 1),b1]
theorem implRuleMasks_ok {k:Nat} (hk:2000040 ≤ k) {n kind value:Int} (hn:2 ≤ n∧n ≤ 4) {cs ms:Sl} {H:Hp} {cells l:List Int} (hc:Reads .i64 H cs cells) (hm:Reads .i64 H ms l) (hcl:cells.length ≤ 1000) (hml:l.length ≤ 1000) (hr:∀ m ∈ l,-2 ≤ m∧m ≤ 63) :
  ∃ t H',callF PP orc k impl_RuleMasks.id [.agg [.int .i64 kind,.sl 1 cs,.int .i64 value],.sl 1 ms,.int .i64 n] H=some (.sl 1 t,H')∧H <+: H'∧NilOr H H' t (ruleMasksS n kind value cells l):=by
 obtain ⟨k,rfl⟩:=Zs k (by omega)
 rw [impl_RuleMasks.call]
 have h1:=implRuleValid_ok (show 2000002 ≤ k by omega) (kind:=kind) (value:=value) hn hc hcl
 have h2:=implMasksValid_ok (show 2000000 ≤ k by omega) (n:=n) (by omega) hm hml hr
 have hcs:=hc.len
 unfold ruleMasksS
 cases e1:ruleOk n kind cells value with
 | false=>
  rw [e1] at h1
  refine ⟨Sl.none,H,by simp only [impl_RuleMasks.f,impl_RuleMasks.j0,dt,df,bt,bf,nt,nf,Za,Zy,Zx,Zt,Zf,Zn,Zz,Zi,Zo,wr,AV.toB,AV.toI,AV.toS,if_true,h1],(List.prefix_refl _),.inl ⟨rfl,?_⟩⟩
  rw [iN (by simp)]
 | true=>
  rw [e1] at h1
  cases e2:masksOk n l with
  | false=>
   rw [e2] at h2
   refine ⟨Sl.none,H,by simp only [impl_RuleMasks.f,impl_RuleMasks.j0,dt,df,bt,bf,nt,nf,Za,Zy,Zx,Zt,Zf,Zn,Zz,Zi,Zo,wr,AV.toB,AV.toI,AV.toS,if_true,h1,h2],(List.prefix_refl _),.inl ⟨rfl,?_⟩⟩
   rw [iN (by simp)]
  | true=>
   rw [e2] at h2
   rw [ip ⟨by rw [decide_eq_true hn]; rfl,rfl⟩]
   have hcb:=(ruleOk_cells e1).2.1
   obtain ⟨t',H',b1,b2,b3⟩:=implRM_l2 (show 2000030 ≤ k by omega) hc hm e1 e2 cells.length 0 k (H ++ [some (Blk.mk false [])]) (Sl.mk false H.length 0 0) (by omega) (by omega) (List.prefix_append _ _) (own_new 1 H [] 0 rfl)
   refine ⟨t',H',?_,b2,.inr b3⟩
   simp only [Int.natCast_zero] at b1
   simp only [impl_RuleMasks.f,impl_RuleMasks.j0,impl_RuleMasks.j1,dt,df,bt,bf,nt,nf,Za,Zy,Zx,Zt,Zf,Zn,Zz,Zi,Zo,wr,AV.toB,AV.toI,AV.toS,if_true,h1,h2,hcs,b1]
theorem iRules_l3 (rec:Rec) (k:Nat) (L2:Sl→Sl→Int→Int→Int→Sl→Sl→Hp→An) {H0 Hb:Hp} {n kind value x24:Int} {gs s cs us t x23:Sl} {cells fl:List Int} {i m:Nat} (hc:Reads .i64 H0 cs cells) (hcl:cells.length ≤ 1000) (hfl:fl.length=cells.length) (hin:∀ c ∈ cells,0 ≤ c∧c < (m:Int)) (hm:m ≤ 1000) (htb:t.blk < Hb.length) :
  ∀ (j q fuel:Nat) (H:Hp) (a:List Int),q + j=cells.length→j < fuel→H0 <+: H→Own 1 Hb H us (fl.map (.int .i64))→Own 1 H0 H t (a.map (.int .i64))→a.length=m →
   ∃ H',impl_NarrowRules.l3 rec k L2 fuel t x23 x24 i us (cells.length:Int) q n gs s kind cs value H=L2 t x23 x24 (IntKind.i64.wrap ((i:Int) + 1)) n gs s H'∧H0 <+: H'∧Own 1 H0 H' t ((setAll cells a fl q j).map (.int .i64))∧Adv t.blk H H':=by
 have hcs:=hc.len
 intro j
 induction j with
 | zero=>
  intro q fuel H a hq hf hp hu ho ha
  obtain ⟨fuel,rfl⟩:=Zs fuel (by omega)
  refine ⟨H,?_,hp,ho,Adv.refl _ _⟩
  simp (disch:=omega) only [impl_NarrowRules.l3,impl_NarrowRules.j5,df,Zf]
 | succ j ih=>
  intro q fuel H a hq hf hp hu ho ha
  obtain ⟨fuel,rfl⟩:=Zs fuel (by omega)
  have hq2:q < cells.length:=by omega
  obtain ⟨c0,c1⟩:=hin _ (mem_getD hq2)
  have hus:=(own_reads hu).len
  have htl:=(own_reads ho).len
  have hrc:=pf_reads hp hc
  obtain ⟨H1,a1,a2,a3,a4⟩:=own_set1 ho hp (cells.getD q 0).toNat (by omega) (fl.getD q 0)
  obtain ⟨H',b1,b2,b3,b4⟩:=ih (q + 1) fuel H1 _ (by omega) (by omega) a2 (a4.own htb hu) a3 (by simpa using ha)
  push_cast at b1
  refine ⟨H',?_,b2,b3,a4.trans b4⟩
  simp (disch:=omega) only [impl_NarrowRules.l3,dt,Za,Zt,Zn,Zo,rdn hrc,rdn (own_reads hu),a1,wr (n:=(q:Int) + 1),b1]
theorem iRules_l2 {k:Nat} (hk:2000040 ≤ k) {H0:Hp} {n:Int} {gs s t:Sl} {given:List Int} {rs:List R} (hz:PuzAt H0 n gs s given rs) (hro:∀ r ∈ rs,R.ok n r=true) :
  ∀ (j i fuel:Nat) (H:Hp) (a:List Int),i + j=rs.length→j < fuel→H0 <+: H→Own 1 H0 H t (a.map (.int .i64))→masksOk n a=true →
   ∃ H',impl_NarrowRules.l2 (callF PP orc k) k fuel t s (rs.length:Int) i n gs s H=some (.sl 1 t,H')∧H0 <+: H'∧Own 1 H0 H' t ((((rs.drop i).map R.val).foldl (ruleStep n) a).map (.int .i64)):=by
 have hrl:=hz.rr.len
 have hrl2:=hz.rl
 have hn:=hz.n4
 intro j
 induction j with
 | zero=>
  intro i fuel H a hi hf hp ho ha
  obtain ⟨fuel,rfl⟩:=Zs fuel (by omega)
  rw [List.drop_eq_nil_of_le (by omega)]
  refine ⟨H,?_,hp,ho⟩
  simp (disch:=omega) only [impl_NarrowRules.l2,impl_NarrowRules.j4,df,Zf]
 | succ j ih=>
  intro i fuel H a hi hf hp ho ha
  obtain ⟨fuel,rfl⟩:=Zs fuel (by omega)
  have hi2:i < rs.length:=by omega
  obtain ⟨l0,l1,l2⟩:=rules_at1 (pf_readsR hp hz.rr) i hi2
  have hrc:=hz.rc _ (List.getElem_mem hi2)
  have hok:ruleOkV n rs[i].val=true:=hro _ (List.getElem_mem hi2)
  obtain ⟨c1,c2,c3,c4⟩:=ruleOk_cells hok
  obtain ⟨ml4,ml16,_⟩:=masks_len ha
  have hm2:=(masksOk_iff.1 ha).2.2
  obtain ⟨d1',d2',d3'⟩:=dm_of ha
  obtain ⟨u,H1,a1,a2,a3⟩:=implRuleMasks_ok hk (kind:=rs[i].kind) (value:=rs[i].value) hn (pf_reads hp (hz.rr.cs i hi2)) (own_reads ho) (by omega) (by omega) d3'
  have e:ruleMasksS n rs[i].kind rs[i].value rs[i].cells a=ruleMasksV rs[i].kind rs[i].value (ownOf a rs[i].cells):=ruleMasks_S hok ha
  have h4:rs[i].cells.length ≤ 4:=c2
  have h1':1 ≤ rs[i].cells.length:=c3
  have hfl:(ruleMasksS n rs[i].kind rs[i].value rs[i].cells a).length=rs[i].cells.length:=by
   rw [e,(ruleMasks_ok (by rw [own_len]; exact h4)).2,own_len]
  have a3':Own 1 H H1 u ((ruleMasksS n rs[i].kind rs[i].value rs[i].cells a).map (.int .i64)):=by
   rcases a3 with ⟨_,h⟩ | h
   ·rw [h] at hfl; simp at hfl; omega
   ·exact h
  have hul:=(own_reads a3').len
  obtain ⟨H2,b1,b2,b3,b4⟩:=iRules_l3 (callF PP orc k) k (impl_NarrowRules.l2 (callF PP orc k) k fuel) (n:=n) (kind:=rs[i].kind) (value:=rs[i].value) (gs:=gs) (s:=s) (x23:=s) (x24:=(rs.length:Int)) (i:=i) (m:=a.length) (hz.rr.cs i hi2) hrc hfl (fun c hc=>by have:=c1 c hc; omega) (by omega) (own_lt' ho) rs[i].cells.length 0 k H1 a (by omega) (by omega) (hp.trans a2) a3' (own_pf ho a2) rfl
  have hst:masksOk n (ruleStep n a rs[i].val)=true:=(ruleStep_sub hok ha).ok ha
  obtain ⟨H',d1,d2,d3⟩:=ih (i + 1) fuel H2 (ruleStep n a rs[i].val) (by omega) (by omega) b2 b3 hst
  push_cast at d1
  rw [val_drop rs i hi2,List.foldl_cons]
  refine ⟨H',?_,d2,d3⟩
  simp only [Int.natCast_zero] at b1
  have hul2:(u.len:Int)=(rs[i].cells.length:Int):=by omega
  simp (disch:=omega) only [impl_NarrowRules.l2,dt,Za,Zt,Zn,Zo,l0,l1,l2,a1,AV.toS,if_true,hul2,b1,wr (n:=(i:Int) + 1),d1]
theorem implNarrowRules_ok {k:Nat} (hk:2000050 ≤ k) {H:Hp} {n:Int} {gs s ms:Sl} {given l:List Int} {rs:List R} (hz:PuzAt H n gs s given rs) (hm:Reads .i64 H ms l) (hnn:ms.nil=false) (hl:l.length ≤ 1000) (hr:∀ m ∈ l,-2 ≤ m∧m ≤ 63) :
  ∃ t H',callF PP orc k impl_NarrowRules.id [.agg [.int .i64 n,.sl 1 gs,.sl 3 s],.sl 1 ms] H=some (.sl 1 t,H')∧H <+: H'∧NilOr H H' t (rulesV n given (rs.map R.val) l):=by
 obtain ⟨k,rfl⟩:=Zs k (by omega)
 rw [impl_NarrowRules.call]
 have hn:=hz.n4
 have h1:=implPuzzleValid_ok (show 2000003 ≤ k by omega) hz.n4 hz.rg hz.gl hz.rr hz.rl hz.rc
 rw [puzzle_map] at h1
 have h2:=implMasksValid_ok (show 2000000 ≤ k by omega) (n:=n) (by omega) hm hl hr
 unfold rulesV
 cases e1:puzzleV n given (rs.map R.val) with
 | false=>
  rw [e1] at h1
  rw [iN (by simp)]
  exact ⟨Sl.none,H,by simp only [impl_NarrowRules.f,impl_NarrowRules.j0,dt,df,bt,bf,nt,nf,Za,Zy,Zx,Zt,Zf,Zn,Zz,Zi,Zo,wr,AV.toB,AV.toI,AV.toS,if_true,h1],(List.prefix_refl _),.inl ⟨rfl,rfl⟩⟩
 | true=>
  rw [e1] at h1
  cases e2:masksOk n l with
  | false=>
   rw [e2] at h2
   rw [iN (by simp)]
   exact ⟨Sl.none,H,by simp only [impl_NarrowRules.f,impl_NarrowRules.j0,dt,df,bt,bf,nt,nf,Za,Zy,Zx,Zt,Zf,Zn,Zz,Zi,Zo,wr,AV.toB,AV.toI,AV.toS,if_true,h1,h2],(List.prefix_refl _),.inl ⟨rfl,rfl⟩⟩
  | true=>
   rw [e2] at h2
   rw [ip ⟨rfl,rfl⟩]
   have h3:=Clone_own (show 1 ≤ k by omega) hm hnn hl
   have hnew:=own_new 1 H (l.map (.int .i64)) l.length (by simp)
   obtain ⟨_,_,q3⟩:=puzzleV_iff e1
   have hrl:=hz.rl
   have hrs:=hz.rr.len
   obtain ⟨H',b1,b2,b3⟩:=iRules_l2 (show 2000040 ≤ k by omega) hz q3 rs.length 0 k (H ++ [some (Blk.mk false (l.map (.int .i64)))]) l (by omega) (by omega) (List.prefix_append _ _) hnew e2
   rw [List.drop_zero] at b3
   refine ⟨_,H',?_,b2,.inr b3⟩
   simp only [Int.natCast_zero] at b1
   simp only [impl_NarrowRules.f,impl_NarrowRules.j0,impl_NarrowRules.j1,dt,df,bt,bf,nt,nf,Za,Zy,Zx,Zt,Zf,Zn,Zz,Zi,Zo,wr,AV.toB,AV.toI,AV.toS,if_true,h1,h2,h3,hrs,b1]
theorem implNarrowBy_ok {k:Nat} (hk:2000060 ≤ k) {H:Hp} {n:Int} {gs s ms:Sl} {given l:List Int} {rs:List R} (hz:PuzAt H n gs s given rs) (hm:Reads .i64 H ms l) (hnn:ms.nil=false) (hl:l.length ≤ 1000) (hr:∀ m ∈ l,-2 ≤ m∧m ≤ 63) (t:Int) :
  ∃ u H',callF PP orc k impl_NarrowBy.id [.agg [.int .i64 n,.sl 1 gs,.sl 3 s],.sl 1 ms,.int .i64 t] H=some (.sl 1 u,H')∧H <+: H'∧NilOr H H' u (narrowV n given (rs.map R.val) l t):=by
 obtain ⟨k,rfl⟩:=Zs k (by omega)
 rw [impl_NarrowBy.call]
 have hn:=hz.n4
 have h1:=implPuzzleValid_ok (show 2000003 ≤ k by omega) hz.n4 hz.rg hz.gl hz.rr hz.rl hz.rc
 rw [puzzle_map] at h1
 cases e1:puzzleV n given (rs.map R.val) with
 | false=>
  rw [e1] at h1
  have e:narrowV n given (rs.map R.val) l t=[]:=by unfold narrowV; rw [if_neg (by rw [e1]; simp)]
  rw [e]
  exact ⟨Sl.none,H,by simp only [impl_NarrowBy.f,dt,df,bt,bf,nt,nf,Za,Zy,Zx,Zt,Zf,Zn,Zz,Zi,Zo,wr,AV.toB,AV.toI,AV.toS,if_true,h1],(List.prefix_refl _),.inl ⟨rfl,rfl⟩⟩
 | true=>
  rw [e1] at h1
  by_cases t1:t=1
  ·obtain ⟨u,H',a1,a2,a3⟩:=implNarrowSingles_ok (show 2000010 ≤ k by omega) (n:=n) (by omega) hm hnn hl hr
   have e:narrowV n given (rs.map R.val) l t=singlesV n l:=by
    unfold narrowV singlesV; rw [e1]
    by_cases c:masksOk n l=true
    ·simp [c,t1]
    ·simp [c]
   rw [e]
   exact ⟨u,H',by simp only [impl_NarrowBy.f,dt,df,bt,bf,nt,nf,Za,Zy,Zx,Zt,Zf,Zn,Zz,Zi,Zo,wr,AV.toB,AV.toI,AV.toS,if_true,h1,bt t1,a1],a2,a3⟩
  by_cases t2:t=2
  ·obtain ⟨u,H',a1,a2,a3⟩:=implNarrowHidden_ok (show 2000010 ≤ k by omega) (n:=n) (by omega) hm hnn hl hr
   have e:narrowV n given (rs.map R.val) l t=hiddenV n l:=by
    unfold narrowV hiddenV; rw [e1]
    by_cases c:masksOk n l=true
    ·simp [c,t2]
    ·simp [c]
   rw [e]
   exact ⟨u,H',by simp only [impl_NarrowBy.f,dt,df,bt,bf,nt,nf,Za,Zy,Zx,Zt,Zf,Zn,Zz,Zi,Zo,wr,AV.toB,AV.toI,AV.toS,if_true,h1,bf t1,bt t2,a1],a2,a3⟩
  by_cases t3:t=3
  ·obtain ⟨u,H',a1,a2,a3⟩:=implNarrowPairs_ok (show 2000010 ≤ k by omega) (n:=n) (by omega) hm hnn hl hr
   have e:narrowV n given (rs.map R.val) l t=pairsV n l:=by
    unfold narrowV pairsV; rw [e1]
    by_cases c:masksOk n l=true
    ·simp [c,t3]
    ·simp [c]
   rw [e]
   exact ⟨u,H',by simp only [impl_NarrowBy.f,dt,df,bt,bf,nt,nf,Za,Zy,Zx,Zt,Zf,Zn,Zz,Zi,Zo,wr,AV.toB,AV.toI,AV.toS,if_true,h1,bf t1,bf t2,bt t3,a1],a2,a3⟩
  by_cases t4:t=4
  ·obtain ⟨u,H',a1,a2,a3⟩:=implNarrowRules_ok (show 2000050 ≤ k by omega) hz hm hnn hl hr
   have e:narrowV n given (rs.map R.val) l t=rulesV n given (rs.map R.val) l:=by
    unfold narrowV rulesV; rw [e1]
    by_cases c:masksOk n l=true
    ·simp [c,t4]
    ·simp [c]
   rw [e]
   exact ⟨u,H',by simp only [impl_NarrowBy.f,dt,df,bt,bf,nt,nf,Za,Zy,Zx,Zt,Zf,Zn,Zz,Zi,Zo,wr,AV.toB,AV.toI,AV.toS,if_true,h1,bf t1,bf t2,bf t3,bt t4,a1],a2,a3⟩
  have e:narrowV n given (rs.map R.val) l t=[]:=by
   unfold narrowV
   simp [t1,t2,t3,t4]
  rw [e]
  exact ⟨Sl.none,H,by simp only [impl_NarrowBy.f,dt,df,bt,bf,nt,nf,Za,Zy,Zx,Zt,Zf,Zn,Zz,Zi,Zo,wr,AV.toB,AV.toI,AV.toS,if_true,h1,bf t1,bf t2,bf t3,bf t4],(List.prefix_refl _),.inl ⟨rfl,rfl⟩⟩
theorem next_at {N:List Int→Int→List Int} {l:List Int}:∀ (j:Nat) (s t:Int),s ≤ t→t < s + j→(∀ w,s ≤ w→w < t→N l w=l)→N l t ≠ l→nextFrom N l j s=some (t,N l t)
 | 0,s,t,h1,h2,_,_=>by omega
 | j + 1,s,t,h1,h2,h3,h4=>by
  rw [nextFrom]
  by_cases e:s=t
  ·subst e; rw [if_neg h4]
  ·rw [if_pos (h3 s (Int.le_refl _) (by omega))]
   exact next_at j (s + 1) t (by omega) (by omega) (fun w h5 h6=>h3 w (by omega) h6) h4
noncomputable def allV (n:Int) (given:List Int) (vs:List V) (l:List Int) (most:Int):List Int × Int:=
 if puzzleV n given vs=true∧masksOk n l=true∧1 ≤ most∧most ≤ 4 then (lastV (runS (narrowV n given vs) most.toNat l) l,((runS (narrowV n given vs) most.toNat l).length:Int)) else ([],-1)
theorem iStart_l0 {k:Nat} (hk:2000003 ≤ k) {H0:Hp} {n:Int} {gs s t:Sl} {given:List Int} (hg0:Reads .i64 H0 gs given) (hg:gridOk given n=true) :
  ∀ (j i fuel:Nat) (H:Hp),i + j=given.length→j < fuel→H0 <+: H→Own 1 H0 H t ((openOf n (given.take i) ++ List.replicate j 0).map (.int .i64)) →
   ∃ H',impl_StartMasks.l0 (callF PP orc k) k fuel t gs (given.length:Int) i n gs s H=some (.sl 1 t,H')∧H0 <+: H'∧Own 1 H0 H' t ((openOf n given).map (.int .i64)):=by
 obtain ⟨hn,g2,g3⟩:=(gridOk_iff given n).1 hg
 have h16:=gridOk_len hg
 have hgl:=hg0.len
 have hol:∀ l:List Int,(openOf n l).length=l.length:=fun l=>by simp [openOf]
 intro j
 induction j with
 | zero=>
  intro i fuel H hi hf hp ho
  obtain ⟨fuel,rfl⟩:=Zs fuel (by omega)
  refine ⟨H,?_,hp,?_⟩
  ·simp (disch:=omega) only [impl_StartMasks.l0,impl_StartMasks.j2,df,Zf]
  ·rw [List.take_of_length_le (by omega)] at ho
   simpa using ho
 | succ j ih=>
  intro i fuel H hi hf hp ho
  obtain ⟨fuel,rfl⟩:=Zs fuel (by omega)
  have hi2:i < given.length:=by omega
  obtain ⟨v0,v1⟩:=g3 _ (mem_getD hi2)
  have htl:t.len=given.length:=by have:=(own_reads ho).len; simp [hol] at this; omega
  have hse:∀ v:Int,v=(if given.getD i 0 > 0 then pw (given.getD i 0) else topMask n)→(openOf n (given.take i) ++ List.replicate (j + 1) 0).set i v=openOf n (given.take (i + 1)) ++ List.replicate j 0:=fun v hv=>by
   rw [List.set_append_right _ _ (by rw [hol]; simp; omega),List.take_succ_eq_append_getElem hi2]
   unfold openOf
   rw [List.map_append,List.append_assoc,hv,List.getD_eq_getElem?_getD,List.getElem?_eq_getElem hi2]
   simp [show min i given.length=i by omega,List.replicate_succ]
  have hav:=allValues_ok (show 1 ≤ k by omega) hn H
  obtain ⟨H1,a1,a2,a3,a4⟩:=own_set1 ho hp i (by simp [hol]; omega) (topMask n)
  by_cases c:given.getD i 0 > 0
  ·obtain ⟨H2,b1,b2,b3,b4⟩:=own_set1 a3 a2 i (by simp [hol]; omega) (pw (given.getD i 0))
   have e2:((openOf n (given.take i) ++ List.replicate (j + 1) 0).set i (topMask n)).set i (pw (given.getD i 0))=openOf n (given.take (i + 1)) ++ List.replicate j 0:=by
    rw [List.set_set]; exact hse _ (by rw [if_pos c])
   rw [e2] at b3
   obtain ⟨H',d1,d2,d3⟩:=ih (i + 1) fuel H2 (by omega) (by omega) b2 b3
   push_cast at d1
   refine ⟨H',?_,d2,d3⟩
   simp (disch:=omega) only [impl_StartMasks.l0,impl_StartMasks.j1,dt,Za,Zt,Zn,Zo,AV.toI,if_true,rdn (pf_reads hp hg0),hav,a1,iN,m_shl v0,b1,wr (n:=(i:Int) + 1),d1]
  ·rw [hse _ (by rw [if_neg c])] at a3
   obtain ⟨H',d1,d2,d3⟩:=ih (i + 1) fuel H1 (by omega) (by omega) a2 a3
   push_cast at d1
   refine ⟨H',?_,d2,d3⟩
   simp (disch:=omega) only [impl_StartMasks.l0,impl_StartMasks.j1,dt,df,Za,Zt,Zf,Zn,Zo,AV.toI,if_true,rdn (pf_reads hp hg0),hav,a1,wr (n:=(i:Int) + 1),d1]
theorem implStartMasks_ok {k:Nat} (hk:2000010 ≤ k) {H:Hp} {n:Int} {gs s:Sl} {given:List Int} {rs:List R} (hz:PuzAt H n gs s given rs) :
  ∃ t H',callF PP orc k impl_StartMasks.id [.agg [.int .i64 n,.sl 1 gs,.sl 3 s]] H=some (.sl 1 t,H')∧H <+: H'∧NilOr H H' t (startV n given (rs.map R.val)):=by
 obtain ⟨k,rfl⟩:=Zs k (by omega)
 rw [impl_StartMasks.call]
 have h1:=implPuzzleValid_ok (show 2000003 ≤ k by omega) hz.n4 hz.rg hz.gl hz.rr hz.rl hz.rc
 rw [puzzle_map] at h1
 have hgl:=hz.rg.len
 unfold startV
 cases e1:puzzleV n given (rs.map R.val) with
 | false=>
  rw [e1] at h1
  rw [iN (by simp)]
  exact ⟨Sl.none,H,by simp only [impl_StartMasks.f,dt,df,bt,bf,nt,nf,Za,Zy,Zx,Zt,Zf,Zn,Zz,Zi,Zo,wr,AV.toB,AV.toI,AV.toS,if_true,h1],(List.prefix_refl _),.inl ⟨rfl,rfl⟩⟩
 | true=>
  rw [e1] at h1
  rw [ip rfl]
  have hg:=(puzzleV_grid e1).1
  have h16:=gridOk_len hg
  have hnew:=own_new 1 H ((List.replicate given.length (0:Int)).map (.int .i64)) given.length (by simp)
  obtain ⟨H',b1,b2,b3⟩:=iStart_l0 (show 2000003 ≤ k by omega) (s:=s) hz.rg hg given.length 0 k (H ++ [some (Blk.mk false ((List.replicate given.length (0:Int)).map (.int .i64)))]) (by omega) (by omega) (List.prefix_append _ _) (by
   have e:openOf n (given.take 0)=[]:=rfl
   rw [e,List.nil_append]; exact hnew)
  refine ⟨_,H',?_,b2,.inr b3⟩
  simp only [Int.natCast_zero] at b1
  simp only [impl_StartMasks.f,dt,df,bt,bf,nt,nf,Za,Zy,Zx,Zt,Zf,Zn,Zz,Zi,Zo,wr,AV.toB,AV.toI,AV.toS,if_true,h1,hgl,flat0s]
  rw [ip (by omega),b1]
/-! ### Rounds -/
def RoundTo (H0:Hp) (N:List Int→Int→List Int) (most:Nat) (a:List Int) (r:An):Prop:=
 (nextFrom N a most 1=none∧∃ H',r=some (.tup [.sl 1 Sl.none,.int .i64 0],H')∧H0 <+: H') ∨ (∃ t u H',nextFrom N a most 1=some (t,N a t)∧1 ≤ t∧r=some (.tup [.sl 1 u,.int .i64 t],H')∧H0 <+: H'∧Own 1 H0 H' u ((N a t).map (.int .i64)))
theorem nextRound_l0 {k:Nat} (hk:2000060 ≤ k) {H0:Hp} {n:Int} {gs s us:Sl} {given a:List Int} {rs:List R} (hz:PuzAt H0 n gs s given rs) (hp:puzzleV n given (rs.map R.val)=true) {most:Nat} (hm:most ≤ 4) (hu:Reads .i64 H0 us a) (hun:us.nil=false) (ha:masksOk n a=true) :
  ∀ (j t fuel:Nat) (H:Hp),t + j=most + 1→1 ≤ t→j < fuel→H0 <+: H→(∀ w:Int,1 ≤ w→w < (t:Int)→narrowV n given (rs.map R.val) a w=a) →
   RoundTo H0 (narrowV n given (rs.map R.val)) most a (impl_nextRound.l0 (callF PP orc k) k fuel us (most:Int) (t:Int) n gs s H):=by
 have hgood:=narrow_good hp hm
 obtain ⟨q1,q2,q3⟩:=dm_of ha
 intro j
 induction j with
 | zero=>
  intro t fuel H ht ht1 hf hpf hw
  obtain ⟨fuel,rfl⟩:=Zs fuel (by omega)
  left
  refine ⟨(next_none most 1).2 fun w w1 w2=>hw w w1 (by omega),H,?_,hpf⟩
  simp (disch:=omega) only [impl_nextRound.l0,impl_nextRound.j1,df,Zf]
 | succ j ih=>
  intro t fuel H ht ht1 hf hpf hw
  obtain ⟨fuel,rfl⟩:=Zs fuel (by omega)
  obtain ⟨v,H1,a1,a2,a3⟩:=implNarrowBy_ok hk (hz.pf hpf) (pf_reads hpf hu) hun (by omega) q3 (t:Int)
  have hg:=hgood a t ha (by omega) (by omega)
  obtain ⟨r1,r2,r3⟩:=dm_of hg.1
  have h2:=Equal_ok (show 2000000 ≤ k by omega) a3.reads (pf_reads a2 (pf_reads hpf hu)) (by omega) (by omega)
  by_cases c:narrowV n given (rs.map R.val) a t=a
  ·rw [decide_eq_true c] at h2
   have:=ih (t + 1) fuel H1 (by omega) (by omega) (by omega) (hpf.trans a2) (fun w w1 w2=>by
    by_cases e:w=t
    ·rw [e]; exact c
    ·exact hw w w1 (by omega))
   push_cast at this
   simp (disch:=omega) only [impl_nextRound.l0,dt,Zt,Zf,Zy,a1,h2,Zo,AV.toS,AV.toB,if_true,wr (n:=(t:Int) + 1)]
   exact this
  ·rw [decide_eq_false c] at h2
   right
   have hne:narrowV n given (rs.map R.val) a t ≠ []:=fun e=>by rw [e] at r2; simp at r2
   have ho:Own 1 H H1 v ((narrowV n given (rs.map R.val) a t).map (.int .i64)):=by
    rcases a3 with ⟨_,h⟩ | h
    ·exact absurd h hne
    ·exact h
   refine ⟨t,v,H1,next_at most 1 t (by omega) (by omega) (fun w w1 w2=>hw w w1 (by omega)) c,by omega,?_,hpf.trans a2,own_base ho hpf⟩
   simp (disch:=omega) only [impl_nextRound.l0,dt,Zt,Zx,a1,h2,Zo,AV.toS,AV.toB,if_true]
theorem nextRound_ok {k:Nat} (hk:2000061 ≤ k) {H:Hp} {n:Int} {gs s us:Sl} {given a:List Int} {rs:List R} (hz:PuzAt H n gs s given rs) (hp:puzzleV n given (rs.map R.val)=true) {most:Nat} (hm:most ≤ 4) (hu:Reads .i64 H us a) (hun:us.nil=false) (ha:masksOk n a=true) :
  RoundTo H (narrowV n given (rs.map R.val)) most a (callF PP orc k impl_nextRound.id [.agg [.int .i64 n,.sl 1 gs,.sl 3 s],.sl 1 us,.int .i64 (most:Int)] H):=by
 obtain ⟨k,rfl⟩:=Zs k (by omega)
 rw [impl_nextRound.call]
 exact nextRound_l0 (by omega) hz hp hm hu hun ha most 1 k H (by omega) (by omega) (by omega) (List.prefix_refl _) (fun w w1 w2=>by omega)
theorem iAll_l2 {k:Nat} (hk:2000061 ≤ k) {H0:Hp} {n:Int} {gs s:Sl} {given:List Int} {rs:List R} (hz:PuzAt H0 n gs s given rs) (hp:puzzleV n given (rs.map R.val)=true) {most:Nat} (hm:most ≤ 4) :
  ∀ (m fuel:Nat) (H:Hp) (u:Sl) (a:List Int) (r:Nat),total a ≤ m→m < fuel→H0 <+: H→Own 1 H0 H u (a.map (.int .i64))→masksOk n a=true→r + total a ≤ 1000 →
   ∃ u' H',impl_NarrowAll.l2 (callF PP orc k) k fuel (most:Int) u (r:Int) n gs s H=some (.tup [.sl 1 u',.int .i64 ((r + (runS (narrowV n given (rs.map R.val)) most a).length:Nat):Int)],H')∧H0 <+: H'∧Own 1 H0 H' u' ((lastV (runS (narrowV n given (rs.map R.val)) most a) a).map (.int .i64)):=by
 have hgood:=narrow_good hp hm
 intro m
 induction m with
 | zero=>
  intro fuel H u a r h1 hf hpf ho ha hr
  obtain ⟨fuel,rfl⟩:=Zs fuel (by omega)
  rcases nextRound_ok hk (hz.pf hpf) hp hm (own_reads ho) ho.nn ha with ⟨hno,H',a1,a2⟩ | ⟨t,v,H1,hso,ht,a1,a2,a3⟩
  ·rw [runS_none hno]
   refine ⟨u,H',?_,hpf.trans a2,own_pf ho a2⟩
   simp only [impl_NarrowAll.l2,a1,Zo,AV.isTup,AV.nth,AV.toI,AV.toS,Zl,Zm,Zc,Zd,if_true,beq_self_eq_true,Zt,Nat.add_zero]
  ·have:=(next_good hgood ha hso).2.2
   omega
 | succ m ih=>
  intro fuel H u a r h1 hf hpf ho ha hr
  obtain ⟨fuel,rfl⟩:=Zs fuel (by omega)
  rcases nextRound_ok hk (hz.pf hpf) hp hm (own_reads ho) ho.nn ha with ⟨hno,H',a1,a2⟩ | ⟨t,v,H1,hso,ht,a1,a2,a3⟩
  ·rw [runS_none hno]
   refine ⟨u,H',?_,hpf.trans a2,own_pf ho a2⟩
   simp only [impl_NarrowAll.l2,a1,Zo,AV.isTup,AV.nth,AV.toI,AV.toS,Zl,Zm,Zc,Zd,if_true,beq_self_eq_true,Zt,Nat.add_zero]
  ·obtain ⟨g1,g2,g3⟩:=next_good hgood ha hso
   obtain ⟨u',H',b1,b2,b3⟩:=ih fuel H1 v _ (r + 1) (by omega) (by omega) (hpf.trans a2) (own_base a3 hpf) g1 (by omega)
   rw [runS_some hgood ha hso]
   push_cast at b1
   refine ⟨u',H',?_,b2,b3⟩
   simp (disch:=omega) only [impl_NarrowAll.l2,a1,Zo,AV.isTup,AV.nth,AV.toI,AV.toS,Zl,Zm,Zc,Zd,if_true,beq_self_eq_true,Zt,Zf,bf (show t ≠ 0 by omega),wr (n:=(r:Int) + 1),b1]
   congr 6
   push_cast; omega
theorem implNarrowAll_ok {k:Nat} (hk:2000070 ≤ k) {H:Hp} {n:Int} {gs s ms:Sl} {given l:List Int} {rs:List R} (hz:PuzAt H n gs s given rs) (hm:Reads .i64 H ms l) (hnn:ms.nil=false) (hl:l.length ≤ 1000) (hr:∀ m ∈ l,-2 ≤ m∧m ≤ 63) (most:Int) :
  ∃ u H',callF PP orc k impl_NarrowAll.id [.agg [.int .i64 n,.sl 1 gs,.sl 3 s],.sl 1 ms,.int .i64 most] H=some (.tup [.sl 1 u,.int .i64 (allV n given (rs.map R.val) l most).2],H')∧H <+: H'∧NilOr H H' u (allV n given (rs.map R.val) l most).1:=by
 obtain ⟨k,rfl⟩:=Zs k (by omega)
 rw [impl_NarrowAll.call]
 have hn:=hz.n4
 have h1:=implPuzzleValid_ok (show 2000003 ≤ k by omega) hz.n4 hz.rg hz.gl hz.rr hz.rl hz.rc
 rw [puzzle_map] at h1
 have h2:=implMasksValid_ok (show 2000000 ≤ k by omega) (n:=n) (by omega) hm hl hr
 unfold allV
 cases e1:puzzleV n given (rs.map R.val) with
 | false=>
  rw [e1] at h1
  rw [iN (by simp)]
  exact ⟨Sl.none,H,by simp only [impl_NarrowAll.f,impl_NarrowAll.j0,dt,df,bt,bf,nt,nf,Za,Zy,Zx,Zt,Zf,Zn,Zz,Zi,Zo,wr,AV.toB,AV.toI,AV.toS,if_true,h1],(List.prefix_refl _),.inl ⟨rfl,rfl⟩⟩
 | true=>
  rw [e1] at h1
  cases e2:masksOk n l with
  | false=>
   rw [e2] at h2
   rw [iN (by simp)]
   exact ⟨Sl.none,H,by simp only [impl_NarrowAll.f,impl_NarrowAll.j0,dt,df,bt,bf,nt,nf,Za,Zy,Zx,Zt,Zf,Zn,Zz,Zi,Zo,wr,AV.toB,AV.toI,AV.toS,if_true,h1,h2],(List.prefix_refl _),.inl ⟨rfl,rfl⟩⟩
  | true=>
   rw [e2] at h2
   by_cases c:1 ≤ most∧most ≤ 4
   ·rw [ip ⟨rfl,rfl,c⟩]
    obtain ⟨M,rfl⟩:=Int.eq_ofNat_of_zero_le (show 0 ≤ most by omega)
    have h4:=Clone_own (show 1 ≤ k by omega) hm hnn hl
    have hnew:=own_new 1 H (l.map (.int .i64)) l.length (by simp)
    have ht:=total_le e2
    obtain ⟨u',H',b1,b2,b3⟩:=iAll_l2 (show 2000061 ≤ k by omega) hz e1 (most:=M) (by omega) (total l) k (H ++ [some (Blk.mk false (l.map (.int .i64)))]) _ l 0 (by omega) (by omega) (List.prefix_append _ _) hnew e2 (by omega)
    rw [Int.toNat_natCast]
    refine ⟨u',H',?_,b2,.inr b3⟩
    rw [Nat.zero_add] at b1
    simp (disch:=omega) only [impl_NarrowAll.f,impl_NarrowAll.j0,impl_NarrowAll.j1,df,Zt,Zf,Zy,Zo,AV.toB,AV.toS,if_true,h1,h2,h4]
    exact b1
   ·rw [iN (fun h=>c ⟨h.2.2.1,h.2.2.2⟩)]
    refine ⟨Sl.none,H,?_,(List.prefix_refl _),.inl ⟨rfl,rfl⟩⟩
    by_cases c1:most < 1
    ·simp (disch:=omega) only [impl_NarrowAll.f,impl_NarrowAll.j0,dt,Zt,Zf,Zy,Zo,AV.toB,h1,h2]
    ·have c2:most > 4:=by omega
     simp (disch:=omega) only [impl_NarrowAll.f,impl_NarrowAll.j0,dt c2,df,Zt,Zf,Zy,Zo,AV.toB,h1,h2]
def pv (p:Int × Int):List AV:=[.int .i64 p.1,.int .i64 p.2]
def stepP (r:List (Int × List Int)):List (Int × Int):=r.map fun x=>(x.1,(total x.2:Int))
theorem pv_at:∀ (ps:List (Int × Int)) (i:Nat),(h:i < ps.length)→(ps.flatMap pv)[i * 2]?=some (.int .i64 ps[i].1)∧(ps.flatMap pv)[i * 2 + 1]?=some (.int .i64 ps[i].2)
 | p :: ps,0,h=>by simp [pv]
 | p :: ps,i + 1,h=>by
  have:=pv_at ps i (by simpa using h)
  rw [show (i + 1) * 2=i * 2 + 2 by omega]
  simpa [pv] using this
theorem pv_length (ps:List (Int × Int)):(ps.flatMap pv).length=ps.length * 2:=by
 induction ps with
 | nil=>rfl
 | cons r rs ih=>simp [ih,pv]; omega
theorem pv_len {H0 H:Hp} {s:Sl} {ps:List (Int × Int)} (h:Own 2 H0 H s (ps.flatMap pv)):s.len=ps.length:=by
 have:=h.len; rw [pv_length] at this; omega
theorem pv_rd {H0 H:Hp} {s:Sl} {ps:List (Int × Int)} (h:Own 2 H0 H s (ps.flatMap pv)) {i:Nat} (hi:i < ps.length):ldI .i64 H s.blk (s.off + i * 2)=some (ps.getD i (0,0)).1∧ldI .i64 H s.blk (s.off + i * 2 + 1)=some (ps.getD i (0,0)).2:=by
 have e:ps.getD i (0,0)=ps[i]:=by rw [List.getD_eq_getElem?_getD,List.getElem?_eq_getElem hi]; rfl
 rw [e]
 unfold ldI
 rw [Nat.add_assoc,own_cell h,own_cell h,(pv_at ps i hi).1,(pv_at ps i hi).2]
 exact ⟨rfl,rfl⟩
theorem pv_app {H0 H:Hp} {t:Sl} {ps:List (Int × Int)} (h:Own 2 H0 H t (ps.flatMap pv)) (g:H0 <+: H) (hl:ps.length ≤ 1000) (a b:Int) :
  ∃ t' H',H.app 2 t 1 [.int .i64 a,.int .i64 b]=some (t',H')∧H0 <+: H'∧Own 2 H0 H' t' ((ps ++ [(a,b)]).flatMap pv)∧But t.blk H H'∧t'.blk=H.length∧H'.length=H.length + 1:=by
 have hlen:=pv_len h
 obtain ⟨H',a1,a2,a3,a4,a5⟩:=own_app h g 1 [.int .i64 a,.int .i64 b] (by omega) (by omega) (by omega) (by omega) rfl
 exact ⟨_,H',a1,a2,by simpa [pv] using a3,a4,rfl,a5⟩
theorem massV_ok {n:Int} {l:List Int} (h:masksOk n l=true):massV n l=(total l:Int):=by unfold massV; rw [if_pos h]
noncomputable def stepsL (n:Int) (given:List Int) (vs:List V) (most:Int):List (Int × Int):=
 if puzzleV n given vs=true∧1 ≤ most∧most ≤ 4 then stepP (runS (narrowV n given vs) most.toNat (openOf n given)) else []
def NilP (H0 H:Hp) (t:Sl) (l:List (Int × Int)):Prop:=(t=Sl.none∧l=[]) ∨ Own 2 H0 H t (l.flatMap pv)
theorem iSteps_l2 {k:Nat} (hk:2000061 ≤ k) {H0:Hp} {n:Int} {gs s:Sl} {given:List Int} {rs:List R} (hz:PuzAt H0 n gs s given rs) (hp:puzzleV n given (rs.map R.val)=true) {most:Nat} (hm:most ≤ 4) :
  ∀ (m fuel:Nat) (H:Hp) (u t:Sl) (a:List Int) (ps:List (Int × Int)),total a ≤ m→m < fuel→H0 <+: H→Own 1 H0 H u (a.map (.int .i64))→Own 2 H0 H t (ps.flatMap pv)→u.blk ≠ t.blk→masksOk n a=true→ps.length + total a ≤ 1000 →
   ∃ t' H',impl_SolveSteps.l2 (callF PP orc k) k fuel (most:Int) t u n gs s H=some (.sl 2 t',H')∧H0 <+: H'∧Own 2 H0 H' t' ((ps ++ stepP (runS (narrowV n given (rs.map R.val)) most a)).flatMap pv):=by
 have hgood:=narrow_good hp hm
 have hn:=hz.n4
 intro m
 induction m with
 | zero=>
  intro fuel H u t a ps h1 hf hpf ho ht hne ha hr
  obtain ⟨fuel,rfl⟩:=Zs fuel (by omega)
  rcases nextRound_ok hk (hz.pf hpf) hp hm (own_reads ho) ho.nn ha with ⟨hno,H',a1,a2⟩ | ⟨w,v,H1,hso,hw,a1,a2,a3⟩
  ·rw [runS_none hno]
   refine ⟨t,H',?_,hpf.trans a2,?_⟩
   ·simp only [impl_SolveSteps.l2,a1,Zo,AV.isTup,AV.nth,AV.toI,AV.toS,Zl,Zm,Zc,Zd,if_true,beq_self_eq_true,Zt]
   ·simpa [stepP] using own_pf ht a2
  ·have:=(next_good hgood ha hso).2.2
   omega
 | succ m ih=>
  intro fuel H u t a ps h1 hf hpf ho ht hne ha hr
  obtain ⟨fuel,rfl⟩:=Zs fuel (by omega)
  rcases nextRound_ok hk (hz.pf hpf) hp hm (own_reads ho) ho.nn ha with ⟨hno,H',a1,a2⟩ | ⟨w,v,H1,hso,hw,a1,a2,a3⟩
  ·rw [runS_none hno]
   refine ⟨t,H',?_,hpf.trans a2,?_⟩
   ·simp only [impl_SolveSteps.l2,a1,Zo,AV.isTup,AV.nth,AV.toI,AV.toS,Zl,Zm,Zc,Zd,if_true,beq_self_eq_true,Zt]
   ·simpa [stepP] using own_pf ht a2
  ·obtain ⟨g1,g2,g3⟩:=next_good hgood ha hso
   obtain ⟨q1,q2,q3⟩:=dm_of g1
   have hc:=implMasksCount_ok (show 2000010 ≤ k by omega) (n:=n) (by omega) (own_reads a3) (by omega) q3
   rw [massV_ok g1] at hc
   have htl:=own_lt' ht
   have hvb:=a3.blk
   have hvl:=own_lt' a3
   obtain ⟨t',H2,c1,c2,c3,c4,c5,c6⟩:=pv_app (own_pf ht a2) (hpf.trans a2) (by omega) w (total (narrowV n given (rs.map R.val) a w):Int)
   obtain ⟨t'',H',b1,b2,b3⟩:=ih fuel H2 v t' _ _ (by omega) (by omega) c2 (own_base (c4.own (by omega) a3) hpf) c3 (by omega) g1 (by simp; omega)
   rw [runS_some hgood ha hso]
   refine ⟨t'',H',?_,b2,by simpa [stepP,List.append_assoc] using b3⟩
   simp (disch:=omega) only [impl_SolveSteps.l2,a1,Zo,AV.isTup,AV.nth,AV.toI,AV.toS,Zl,Zm,Zc,Zd,if_true,beq_self_eq_true,Zt,Zf,bf (show w ≠ 0 by omega),hc,c1,b1]
theorem start_ok {n:Int} {given:List Int} {vs:List V} (hp:puzzleV n given vs=true):startV n given vs=openOf n given∧masksOk n (openOf n given)=true:=by
 unfold startV
 rw [if_pos hp]
 exact ⟨rfl,openOf_ok (puzzleV_grid hp).1⟩
theorem nil_own {H0 H:Hp} {t:Sl} {l:List Int} (h:NilOr H0 H t l) (hl:l ≠ []):Own 1 H0 H t (l.map (.int .i64)):=by
 rcases h with ⟨_,h⟩ | h
 ·exact absurd h hl
 ·exact h
theorem ok_ne {n:Int} {l:List Int} (h:masksOk n l=true):l ≠ []:=fun e=>by
 have:=(dm_of h).2.1
 rw [e] at this; simp at this
theorem implSolveSteps_ok {k:Nat} (hk:2000070 ≤ k) {H:Hp} {n:Int} {gs s:Sl} {given:List Int} {rs:List R} (hz:PuzAt H n gs s given rs) (most:Int) :
  ∃ t H',callF PP orc k impl_SolveSteps.id [.agg [.int .i64 n,.sl 1 gs,.sl 3 s],.int .i64 most] H=some (.sl 2 t,H')∧H <+: H'∧NilP H H' t (stepsL n given (rs.map R.val) most):=by
 obtain ⟨k,rfl⟩:=Zs k (by omega)
 rw [impl_SolveSteps.call]
 have h1:=implPuzzleValid_ok (show 2000003 ≤ k by omega) hz.n4 hz.rg hz.gl hz.rr hz.rl hz.rc
 rw [puzzle_map] at h1
 unfold stepsL
 cases e1:puzzleV n given (rs.map R.val) with
 | false=>
  rw [e1] at h1
  rw [iN (by simp)]
  exact ⟨Sl.none,H,by simp only [impl_SolveSteps.f,impl_SolveSteps.j0,dt,df,bt,bf,nt,nf,Za,Zy,Zx,Zt,Zf,Zn,Zz,Zi,Zo,wr,AV.toB,AV.toI,AV.toS,if_true,h1],(List.prefix_refl _),.inl ⟨rfl,rfl⟩⟩
 | true=>
  rw [e1] at h1
  by_cases c:1 ≤ most∧most ≤ 4
  ·rw [ip ⟨rfl,c⟩]
   obtain ⟨M,rfl⟩:=Int.eq_ofNat_of_zero_le (show 0 ≤ most by omega)
   obtain ⟨s1,s2⟩:=start_ok e1
   have hnew:=own_new 2 H (([]:List (Int × Int)).flatMap pv) 0 rfl
   have p1:H <+: H ++ [some (Blk.mk false (([]:List (Int × Int)).flatMap pv))]:=(List.prefix_append _ _)
   obtain ⟨u,H1,a1,a2,a3⟩:=implStartMasks_ok (show 2000010 ≤ k by omega) (hz.pf p1)
   rw [s1] at a3
   have ho:=nil_own a3 (ok_ne s2)
   have hb:=ho.blk
   have ht:=total_le s2
   obtain ⟨t',H',b1,b2,b3⟩:=iSteps_l2 (show 2000061 ≤ k by omega) hz e1 (most:=M) (by omega) (total (openOf n given)) k H1 u (Sl.mk false H.length 0 0) (openOf n given) [] (by omega) (by omega) (p1.trans a2) (own_base ho p1) (own_pf hnew a2) (by simp at hb; simp only; omega) s2 (by simp; omega)
   rw [Int.toNat_natCast]
   rw [List.nil_append] at b3
   refine ⟨t',H',?_,b2,.inr b3⟩
   have a1':callF PP orc k impl_StartMasks.id [.agg [.int .i64 n,.sl 1 gs,.sl 3 s]] (H ++ [some (Blk.mk false [])])=some (.sl 1 u,H1):=a1
   simp (disch:=omega) only [impl_SolveSteps.f,impl_SolveSteps.j0,impl_SolveSteps.j1,df,Zt,Zf,Zy,Zo,AV.toB,AV.toS,if_true,h1,a1',b1]
  ·rw [iN (fun h=>c h.2)]
   refine ⟨Sl.none,H,?_,(List.prefix_refl _),.inl ⟨rfl,rfl⟩⟩
   by_cases c1:most < 1
   ·simp (disch:=omega) only [impl_SolveSteps.f,impl_SolveSteps.j0,dt,Zt,Zf,Zy,Zo,AV.toB,h1]
   ·have c2:most > 4:=by omega
    simp (disch:=omega) only [impl_SolveSteps.f,impl_SolveSteps.j0,dt c2,df,Zt,Zf,Zy,Zo,AV.toB,h1]
theorem sSteps_l2 {k:Nat} (hk:2000060 ≤ k) {H0:Hp} {n:Int} {gs s:Sl} {given:List Int} {rs:List R} (hz:PuzAt H0 n gs s given rs) (hp:puzzleV n given (rs.map R.val)=true) {most:Nat} (hm:most ≤ 4) :
  ∀ (m fuel:Nat) (H:Hp) (u x:Sl) (a:List Int) (ps:List (Int × Int)) (t:Nat),5 * total a + (most + 1 - t) ≤ m→m < fuel→H0 <+: H→Own 1 H0 H u (a.map (.int .i64))→Own 2 H0 H x (ps.flatMap pv)→u.blk ≠ x.blk→masksOk n a=true→1 ≤ t→t ≤ most + 1→(∀ w:Int,1 ≤ w→w < (t:Int)→narrowV n given (rs.map R.val) a w=a)→ps.length + total a ≤ 1000 →
   ∃ x' H',spec_SolveSteps.l2 (callF PP orc k) k fuel (most:Int) x u (t:Int) n gs s H=some (.sl 2 x',H')∧H0 <+: H'∧Own 2 H0 H' x' ((ps ++ stepP (runS (narrowV n given (rs.map R.val)) most a)).flatMap pv):=by
 have hgood:=narrow_good hp hm
 have hn:=hz.n4
 intro m
 induction m with
 | zero=>
  intro fuel H u x a ps t h1 hf hpf ho hx hne ha ht1 ht2 hw hr
  obtain ⟨fuel,rfl⟩:=Zs fuel (by omega)
  have hno:nextFrom (narrowV n given (rs.map R.val)) a most 1=none:=(next_none most 1).2 fun w w1 w2=>hw w w1 (by omega)
  rw [runS_none hno]
  refine ⟨x,H,?_,hpf,by simpa [stepP] using hx⟩
  simp (disch:=omega) only [spec_SolveSteps.l2,spec_SolveSteps.j3,df,Zf]
 | succ m ih=>
  intro fuel H u x a ps t h1 hf hpf ho hx hne ha ht1 ht2 hw hr
  obtain ⟨fuel,rfl⟩:=Zs fuel (by omega)
  by_cases ct:t ≤ most
  ·have hal:=masks_len ha
   obtain ⟨v,H1,a1,a2,a3⟩:=specNarrowBy_ok hk (hz.pf hpf) (own_reads ho) (by omega) (t:Int)
   have hg:=hgood a t ha (by omega) (by omega)
   have hgl:=masks_len hg.1
   have h2:=l8Same_ok (show 2000000 ≤ k by omega) (own_reads a3) (pf_reads a2 (own_reads ho)) (by omega) (by omega)
   by_cases c:narrowV n given (rs.map R.val) a t=a
   ·rw [decide_eq_true c] at h2
    obtain ⟨u',H',b1,b2,b3⟩:=ih fuel H1 u x a ps (t + 1) (by omega) (by omega) (hpf.trans a2) (own_pf ho a2) (own_pf hx a2) hne ha (by omega) (by omega) (fun w w1 w2=>by
     by_cases e:w=t
     ·rw [e]; exact c
     ·exact hw w w1 (by omega)) hr
    push_cast at b1
    refine ⟨u',H',?_,b2,b3⟩
    simp (disch:=omega) only [spec_SolveSteps.l2,dt,Zt,a1,h2,Zo,AV.toS,AV.toB,if_true,wr (n:=(t:Int) + 1),b1]
   ·rw [decide_eq_false c] at h2
    have hno:=next_at most 1 t (by omega) (by omega) (fun w w1 w2=>hw w w1 (by omega)) c
    obtain ⟨q1,q2,q3⟩:=next_good hgood ha hno
    obtain ⟨H2,d1,d2⟩:=specMasksCount_ok (show 2000010 ≤ k by omega) (n:=n) (by omega) (own_reads a3) (by omega)
    rw [massV_ok q1] at d1
    have hxl:=own_lt' hx
    have hvb:=a3.blk
    have hvl:=own_lt' (own_pf a3 d2)
    obtain ⟨x',H3,c1,c2,c3,c4,c5,c6⟩:=pv_app (own_pf hx (a2.trans d2)) ((hpf.trans a2).trans d2) (by omega) (t:Int) (total (narrowV n given (rs.map R.val) a t):Int)
    rw [runS_some hgood ha hno]
    obtain ⟨u',H',b1,b2,b3⟩:=ih fuel H3 v x' (narrowV n given (rs.map R.val) a t) (ps ++ [((t:Int),(total (narrowV n given (rs.map R.val) a t):Int))]) 1 (by omega) (by omega) c2 (own_base (c4.own (by omega) (own_pf a3 d2)) hpf) c3 (by omega) q1 (by omega) (by omega) (fun w w1 w2=>by omega) (by simp; omega)
    push_cast at b1
    refine ⟨u',H',?_,b2,by simpa [stepP,List.append_assoc] using b3⟩
    simp (disch:=omega) only [spec_SolveSteps.l2,dt,Zt,Zf,a1,h2,d1,c1,Zo,AV.toS,AV.toB,AV.toI,if_true,b1]
  ·have hno:nextFrom (narrowV n given (rs.map R.val)) a most 1=none:=(next_none most 1).2 fun w w1 w2=>hw w w1 (by omega)
   rw [runS_none hno]
   refine ⟨x,H,?_,hpf,by simpa [stepP] using hx⟩
   simp (disch:=omega) only [spec_SolveSteps.l2,spec_SolveSteps.j3,df,Zf]
theorem specSolveSteps_ok {k:Nat} (hk:2000070 ≤ k) {H:Hp} {n:Int} {gs s:Sl} {given:List Int} {rs:List R} (hz:PuzAt H n gs s given rs) (most:Int) :
  ∃ t H',callF PP orc k spec_SolveSteps.id [.agg [.int .i64 n,.sl 1 gs,.sl 3 s],.int .i64 most] H=some (.sl 2 t,H')∧H <+: H'∧Own 2 H H' t ((stepsL n given (rs.map R.val) most).flatMap pv):=by
 obtain ⟨k,rfl⟩:=Zs k (by omega)
 rw [spec_SolveSteps.call]
 have hnew:=own_new 2 H (([]:List (Int × Int)).flatMap pv) 0 rfl
 have p1:H <+: H ++ [some (Blk.mk false (([]:List (Int × Int)).flatMap pv))]:=(List.prefix_append _ _)
 have hz1:=hz.pf p1
 have h1:=specPuzzleValid_ok (show 2000003 ≤ k by omega) hz1.n4 hz1.rg hz1.gl hz1.rr hz1.rl hz1.rc
 rw [puzzle_map] at h1
 have h1':callF PP orc k spec_PuzzleValid.id [.agg [.int .i64 n,.sl 1 gs,.sl 3 s]] (H ++ [some (Blk.mk false [])])=some (.bool (puzzleV n given (rs.map R.val)),H ++ [some (Blk.mk false [])]):=h1
 have h3:=l1In_ok (show 1 ≤ k by omega) most 1 4 (H ++ [some (Blk.mk false [])])
 unfold stepsL
 cases e1:puzzleV n given (rs.map R.val) with
 | false=>
  rw [e1] at h1'
  rw [iN (by simp)]
  exact ⟨Sl.mk false H.length 0 0,H ++ [some (Blk.mk false [])],by simp only [spec_SolveSteps.f,spec_SolveSteps.j0,dt,df,bt,bf,nt,nf,Za,Zy,Zx,Zt,Zf,Zn,Zz,Zi,Zo,wr,AV.toB,AV.toI,AV.toS,if_true,h1'],(List.prefix_append _ _),hnew⟩
 | true=>
  rw [e1] at h1'
  by_cases c:1 ≤ most∧most ≤ 4
  ·rw [decide_eq_true c] at h3
   rw [ip ⟨rfl,c⟩]
   obtain ⟨M,rfl⟩:=Int.eq_ofNat_of_zero_le (show 0 ≤ most by omega)
   obtain ⟨s1,s2⟩:=start_ok e1
   obtain ⟨u,H1,a1,a2,a3⟩:=specStartMasks_ok (show 2000010 ≤ k by omega) hz1
   rw [s1] at a3
   have hb:=a3.blk
   have ht:=total_le s2
   obtain ⟨t',H',b1,b2,b3⟩:=sSteps_l2 (show 2000060 ≤ k by omega) hz e1 (most:=M) (by omega) (5 * total (openOf n given) + M) k H1 u (Sl.mk false H.length 0 0) (openOf n given) [] 1 (by omega) (by omega) (p1.trans a2) (own_base a3 p1) (own_pf hnew a2) (by simp at hb; simp only; omega) s2 (by omega) (by omega) (fun w w1 w2=>by omega) (by simp; omega)
   rw [Int.toNat_natCast]
   rw [List.nil_append] at b3
   refine ⟨t',H',?_,b2,b3⟩
   have a1':callF PP orc k spec_StartMasks.id [.agg [.int .i64 n,.sl 1 gs,.sl 3 s]] (H ++ [some (Blk.mk false [])])=some (.sl 1 u,H1):=a1
   simp only [Int.natCast_one] at b1
   simp only [spec_SolveSteps.f,spec_SolveSteps.j0,spec_SolveSteps.j1,Zt,Zf,Zy,Zo,AV.toB,AV.toS,if_true,h1',h3,a1',b1]
  ·rw [decide_eq_false c] at h3
   rw [iN (fun h=>c h.2)]
   exact ⟨Sl.mk false H.length 0 0,H ++ [some (Blk.mk false [])],by simp only [spec_SolveSteps.f,spec_SolveSteps.j0,dt,df,bt,bf,nt,nf,Za,Zy,Zx,Zt,Zf,Zn,Zz,Zi,Zo,wr,AV.toB,AV.toI,AV.toS,if_true,h1',h3],(List.prefix_append _ _),hnew⟩
def bump (c:List Int) (p:Int × Int):List Int:=c.set (p.1 - 1).toNat (c.getD (p.1 - 1).toNat 0 + 1)
noncomputable def techV (n:Int) (given:List Int) (vs:List V):List Int:=if puzzleV n given vs=true then (stepsL n given vs 4).foldl bump (List.replicate 4 0) else []
theorem run_tech {N:List Int→Int→List Int} {n:Int} {most:Nat} (hN:Good N n most) {l:List Int} (hl:masksOk n l=true):∀ p ∈ stepP (runS N most l),1 ≤ p.1∧p.1 ≤ (most:Int):=by
 refine runS_ind hN (C:=fun l r=>∀ p ∈ stepP r,1 ≤ p.1∧p.1 ≤ (most:Int)) ?_ ?_ (total l + 1) l hl (by omega)
 ·intro l hl e p hp; simp [stepP] at hp
 ·intro l t l' hl hl' hs ht e ih p hp
  obtain ⟨h1,_⟩:=next_some _ _ e
  simp only [stepP,List.map_cons,List.mem_cons] at hp
  rcases hp with rfl | hp
  ·exact ⟨h1.1,by simp only; omega⟩
  ·exact ih p hp
theorem stepP_len (r:List (Int × List Int)):(stepP r).length=r.length:=by simp [stepP]
theorem stepsL_rg {n:Int} {given:List Int} {vs:List V}:(stepsL n given vs 4).length ≤ 64∧∀ p ∈ stepsL n given vs 4,1 ≤ p.1∧p.1 ≤ 4:=by
 unfold stepsL
 split
 ·rename_i h
  have hg:=narrow_good h.1 (show (4:Int).toNat ≤ 4 by decide)
  have ho:=(start_ok h.1).2
  have h1:=(run_end hg ho).2.2.2
  have h2:=total_le ho
  refine ⟨by rw [stepP_len]; omega,fun p hp=>run_tech hg ho p hp⟩
 ·simp
theorem bump_len (c:List Int) (p:Int × Int):(bump c p).length=c.length:=by simp [bump]
theorem bump_sum:∀ (c:List Int) (i:Nat),i < c.length→(c.set i (c.getD i 0 + 1)).sum=c.sum + 1
 | x :: c,0,_=>by simp; omega
 | x :: c,i + 1,h=>by
  have:=bump_sum c i (by simpa using h)
  simp only [List.set_cons_succ,List.sum_cons,Zd]
  omega
theorem bumps:∀ (ps:List (Int × Int)) (c:List Int) (m:Nat),(∀ p ∈ ps,1 ≤ p.1∧p.1 ≤ 4)→c.length=4→(∀ x ∈ c,0 ≤ x∧x ≤ (m:Int)) →
  (ps.foldl bump c).length=4∧(∀ x ∈ ps.foldl bump c,0 ≤ x∧x ≤ ((m + ps.length:Nat):Int))∧(ps.foldl bump c).sum=c.sum + (ps.length:Int)
 | [],c,m,_,hc,hr=>⟨hc,by simpa using hr,by simp⟩
 | p :: ps,c,m,hp,hc,hr=>by
  have h1:=hp p (by simp)
  have hi:(p.1 - 1).toNat < c.length:=by omega
  obtain ⟨a,b,d⟩:=bumps ps (bump c p) (m + 1) (fun q hq=>hp q (List.mem_cons_of_mem _ hq)) (by rw [bump_len]; exact hc) (fun x hx=>by
   unfold bump at hx
   rcases List.mem_or_eq_of_mem_set hx with h | h
   ·have:=hr x h; push_cast; omega
   ·have:=hr _ (mem_getD hi); subst h; push_cast; omega)
  rw [List.foldl_cons]
  refine ⟨a,fun x hx=>by have:=b x hx; simp only [Zl]; push_cast at this ⊢; omega,?_⟩
  rw [d]
  unfold bump
  rw [bump_sum c _ hi]
  simp only [Zl]; push_cast; omega
theorem foldl_drop {c:List Int} {ps:List (Int × Int)} {i:Nat} (h:i < ps.length):(ps.drop i).foldl bump c=(ps.drop (i + 1)).foldl bump (bump c (ps.getD i (0,0))):=by
 rw [List.drop_eq_getElem_cons h,List.foldl_cons,List.getD_eq_getElem?_getD,List.getElem?_eq_getElem h]; rfl
theorem getP {ps:List (Int × Int)} {i:Nat} (h:i < ps.length):ps.getD i (0,0) ∈ ps:=by
 rw [List.getD_eq_getElem?_getD,List.getElem?_eq_getElem h]; exact List.getElem_mem h
theorem iTech_l0 (rec:Rec) (k:Nat) {H0 B:Hp} {x s:Sl} {ps:List (Int × Int)} (hl:ps.length ≤ 1000) (hp4:∀ p ∈ ps,1 ≤ p.1∧p.1 ≤ 4) (hne:s.blk ≠ x.blk) :
  ∀ (j i fuel:Nat) (H:Hp) (c:List Int),i + j=ps.length→j < fuel→H0 <+: H→Own 1 H0 H x (c.map (.int .i64))→Own 2 B H s (ps.flatMap pv)→c.length=4→(∀ y ∈ c,0 ≤ y∧y ≤ (i:Int)) →
   ∃ H',impl_TechniqueCounts.l0 rec k fuel x s (ps.length:Int) i H=some (.sl 1 x,H')∧H0 <+: H'∧Own 1 H0 H' x (((ps.drop i).foldl bump c).map (.int .i64)):=by
 intro j
 induction j with
 | zero=>
  intro i fuel H c hi hf hpf hx hs hc hr
  obtain ⟨fuel,rfl⟩:=Zs fuel (by omega)
  rw [List.drop_eq_nil_of_le (by omega)]
  refine ⟨H,?_,hpf,hx⟩
  simp (disch:=omega) only [impl_TechniqueCounts.l0,impl_TechniqueCounts.j1,df,Zf]
 | succ j ih=>
  intro i fuel H c hi hf hpf hx hs hc hr
  obtain ⟨fuel,rfl⟩:=Zs fuel (by omega)
  have hi2:i < ps.length:=by omega
  have hsl:=pv_len hs
  have hxl:=(own_reads hx).len
  obtain ⟨r1,r2⟩:=pv_rd hs hi2
  have ht:=hp4 _ (getP hi2)
  generalize ep:ps.getD i (0,0)=p at *
  obtain ⟨t,w⟩:=p
  simp only at ht r1 r2
  have hti:(t - 1).toNat < c.length:=by omega
  have hct:=hr _ (mem_getD hti)
  have hrd:=rdn (own_reads hx) hti
  obtain ⟨H1,a1,a2,a3,a4⟩:=own_set1 hx hpf (t - 1).toNat hti (c.getD (t - 1).toNat 0 + 1)
  obtain ⟨H',b1,b2,b3⟩:=ih (i + 1) fuel H1 (bump c (t,w)) (by omega) (by omega) a2 a3 (a4.but.own hne hs) (by rw [bump_len]; exact hc) (fun y hy=>by
   unfold bump at hy
   rcases List.mem_or_eq_of_mem_set hy with h | h
   ·have:=hr y h; push_cast; omega
   ·subst h; simp only; push_cast; omega)
  push_cast at b1
  rw [foldl_drop hi2,ep]
  refine ⟨H',?_,b2,b3⟩
  have w1:IntKind.i64.wrap (t - 1)=t - 1:=wr (by omega) (by omega)
  have w2:IntKind.i64.wrap (c.getD (t - 1).toNat 0 + 1)=c.getD (t - 1).toNat 0 + 1:=wr (by omega) (by omega)
  simp (disch:=omega) only [impl_TechniqueCounts.l0,dt,Za,Zt,Zn,Zo,r1,r2,w1,w2,hrd,a1,wr (n:=(i:Int) + 1),b1]
theorem sTech_l0 (rec:Rec) (k:Nat) {H0 B:Hp} {x s:Sl} {ps:List (Int × Int)} (hl:ps.length ≤ 1000) (hp4:∀ p ∈ ps,1 ≤ p.1∧p.1 ≤ 4) (hne:s.blk ≠ x.blk) :
  ∀ (j i fuel:Nat) (H:Hp) (c:List Int),i + j=ps.length→j < fuel→H0 <+: H→Own 1 H0 H x (c.map (.int .i64))→Own 2 B H s (ps.flatMap pv)→c.length=4→(∀ y ∈ c,0 ≤ y∧y ≤ (i:Int)) →
   ∃ H',spec_TechniqueCounts.l0 rec k fuel x s i H=some (.sl 1 x,H')∧H0 <+: H'∧Own 1 H0 H' x (((ps.drop i).foldl bump c).map (.int .i64)):=by
 intro j
 induction j with
 | zero=>
  intro i fuel H c hi hf hpf hx hs hc hr
  have hsl:=pv_len hs
  obtain ⟨fuel,rfl⟩:=Zs fuel (by omega)
  rw [List.drop_eq_nil_of_le (by omega)]
  refine ⟨H,?_,hpf,hx⟩
  simp (disch:=omega) only [spec_TechniqueCounts.l0,spec_TechniqueCounts.j1,df,Zf]
 | succ j ih=>
  intro i fuel H c hi hf hpf hx hs hc hr
  obtain ⟨fuel,rfl⟩:=Zs fuel (by omega)
  have hi2:i < ps.length:=by omega
  have hsl:=pv_len hs
  have hxl:=(own_reads hx).len
  obtain ⟨r1,r2⟩:=pv_rd hs hi2
  have ht:=hp4 _ (getP hi2)
  generalize ep:ps.getD i (0,0)=p at *
  obtain ⟨t,w⟩:=p
  simp only at ht r1 r2
  have hti:(t - 1).toNat < c.length:=by omega
  have hct:=hr _ (mem_getD hti)
  have hrd:=rdn (own_reads hx) hti
  obtain ⟨H1,a1,a2,a3,a4⟩:=own_set1 hx hpf (t - 1).toNat hti (c.getD (t - 1).toNat 0 + 1)
  obtain ⟨H',b1,b2,b3⟩:=ih (i + 1) fuel H1 (bump c (t,w)) (by omega) (by omega) a2 a3 (a4.but.own hne hs) (by rw [bump_len]; exact hc) (fun y hy=>by
   unfold bump at hy
   rcases List.mem_or_eq_of_mem_set hy with h | h
   ·have:=hr y h; push_cast; omega
   ·subst h; simp only; push_cast; omega)
  push_cast at b1
  rw [foldl_drop hi2,ep]
  refine ⟨H',?_,b2,b3⟩
  have w1:IntKind.i64.wrap (t - 1)=t - 1:=wr (by omega) (by omega)
  have w2:IntKind.i64.wrap (c.getD (t - 1).toNat 0 + 1)=c.getD (t - 1).toNat 0 + 1:=wr (by omega) (by omega)
  simp (disch:=omega) only [spec_TechniqueCounts.l0,dt,Za,Zt,Zn,Zo,Nat.add_zero,r1,r2,w1,w2,hrd,a1,wr (n:=(i:Int) + 1),b1]
theorem four0:(List.replicate (4:Int).toNat [AV.int .i64 0]).flatten=(List.replicate 4 (0:Int)).map (.int .i64):=rfl
theorem four_rg:(∀ y ∈ List.replicate 4 (0:Int),0 ≤ y∧y ≤ ((0:Nat):Int)):=by decide
theorem implTechniqueCounts_ok {k:Nat} (hk:2000080 ≤ k) {H:Hp} {n:Int} {gs s:Sl} {given:List Int} {rs:List R} (hz:PuzAt H n gs s given rs) :
  ∃ t H',callF PP orc k impl_TechniqueCounts.id [.agg [.int .i64 n,.sl 1 gs,.sl 3 s]] H=some (.sl 1 t,H')∧H <+: H'∧NilOr H H' t (techV n given (rs.map R.val)):=by
 obtain ⟨k,rfl⟩:=Zs k (by omega)
 rw [impl_TechniqueCounts.call]
 have h1:=implPuzzleValid_ok (show 2000003 ≤ k by omega) hz.n4 hz.rg hz.gl hz.rr hz.rl hz.rc
 rw [puzzle_map] at h1
 unfold techV
 cases e1:puzzleV n given (rs.map R.val) with
 | false=>
  rw [e1] at h1
  rw [iN (by simp)]
  exact ⟨Sl.none,H,by simp only [impl_TechniqueCounts.f,dt,df,bt,bf,nt,nf,Za,Zy,Zx,Zt,Zf,Zn,Zz,Zi,Zo,wr,AV.toB,AV.toI,AV.toS,if_true,h1],(List.prefix_refl _),.inl ⟨rfl,rfl⟩⟩
 | true=>
  rw [e1] at h1
  rw [ip rfl]
  have hnew:=own_new 1 H ((List.replicate 4 (0:Int)).map (.int .i64)) 4 rfl
  have p1:H <+: H ++ [some (Blk.mk false ((List.replicate 4 (0:Int)).map (.int .i64)))]:=(List.prefix_append _ _)
  obtain ⟨t,H1,a1,a2,a3⟩:=implSolveSteps_ok (show 2000070 ≤ k by omega) (hz.pf p1) 4
  obtain ⟨q1,q2⟩:=stepsL_rg (n:=n) (given:=given) (vs:=rs.map R.val)
  rcases a3 with ⟨rfl,e0⟩ | a3
  ·rw [e0]
   refine ⟨_,H1,?_,p1.trans a2,.inr (own_pf hnew a2)⟩
   obtain ⟨k',hk'⟩:∃ q,k=q + 1:=⟨k - 1,by omega⟩
   simp only [impl_TechniqueCounts.f,h1,Zo,AV.toB,Zy,Zf,four0]
   rw [ip (by omega),a1]
   generalize callF PP orc k=rc
   rw [hk']
   rfl
  ·have hb:=a3.blk
   have hl:=pv_len a3
   obtain ⟨H',b1,b2,b3⟩:=iTech_l0 (callF PP orc k) k (by omega) q2 (show t.blk ≠ H.length by simp at hb; omega) (x:=Sl.mk false H.length 0 4) _ 0 k H1 (List.replicate 4 0) (Nat.zero_add _) (by omega) (p1.trans a2) (own_pf hnew a2) a3 rfl four_rg
   refine ⟨_,H',?_,b2,.inr (by rw [List.drop_zero] at b3; exact b3)⟩
   simp only [Int.natCast_zero] at b1
   simp only [impl_TechniqueCounts.f,h1,Zo,AV.toB,Zy,Zf,four0]
   rw [ip (by omega),a1]
   simp only [Zo,AV.toS,if_true,hl]
   exact b1
theorem specTechniqueCounts_ok {k:Nat} (hk:2000080 ≤ k) {H:Hp} {n:Int} {gs s:Sl} {given:List Int} {rs:List R} (hz:PuzAt H n gs s given rs) :
  ∃ t H',callF PP orc k spec_TechniqueCounts.id [.agg [.int .i64 n,.sl 1 gs,.sl 3 s]] H=some (.sl 1 t,H')∧H <+: H'∧Own 1 H H' t ((techV n given (rs.map R.val)).map (.int .i64)):=by
 obtain ⟨k,rfl⟩:=Zs k (by omega)
 rw [spec_TechniqueCounts.call]
 have h1:=specPuzzleValid_ok (show 2000003 ≤ k by omega) hz.n4 hz.rg hz.gl hz.rr hz.rl hz.rc
 rw [puzzle_map] at h1
 unfold techV
 cases e1:puzzleV n given (rs.map R.val) with
 | false=>
  rw [e1] at h1
  rw [iN (by simp)]
  exact ⟨Sl.mk false H.length 0 0,H ++ [some (Blk.mk false [])],by simp only [spec_TechniqueCounts.f,dt,df,bt,bf,nt,nf,Za,Zy,Zx,Zt,Zf,Zn,Zz,Zi,Zo,wr,AV.toB,AV.toI,AV.toS,if_true,h1],(List.prefix_append _ _),own_new 1 H [] 0 rfl⟩
 | true=>
  rw [e1] at h1
  rw [ip rfl]
  have hnew:=own_new 1 H ((List.replicate 4 (0:Int)).map (.int .i64)) 4 rfl
  have p1:H <+: H ++ [some (Blk.mk false ((List.replicate 4 (0:Int)).map (.int .i64)))]:=(List.prefix_append _ _)
  obtain ⟨t,H1,a1,a2,a3⟩:=specSolveSteps_ok (show 2000070 ≤ k by omega) (hz.pf p1) 4
  obtain ⟨q1,q2⟩:=stepsL_rg (n:=n) (given:=given) (vs:=rs.map R.val)
  have hb:=a3.blk
  have hl:=pv_len a3
  obtain ⟨H',b1,b2,b3⟩:=sTech_l0 (callF PP orc k) k (by omega) q2 (show t.blk ≠ H.length by simp at hb; omega) (x:=Sl.mk false H.length 0 4) _ 0 k H1 (List.replicate 4 0) (Nat.zero_add _) (by omega) (p1.trans a2) (own_pf hnew a2) a3 rfl four_rg
  refine ⟨_,H',?_,b2,by rw [List.drop_zero] at b3; exact b3⟩
  simp only [Int.natCast_zero] at b1
  simp only [spec_TechniqueCounts.f,h1,Zo,AV.toB,Zy,Zf,four0]
  rw [ip (by omega),a1]
  simp only [Zo,AV.toS,if_true]
  exact b1
theorem oneOf_le {n m:Int} (hn:2 ≤ n∧n ≤ 4) (hm:maskOk n m=true):0 ≤ oneOf m∧oneOf m ≤ n:=by
 obtain ⟨o1,o2⟩:=oneOf_single hm
 cases e:single m with
 | true=>
  obtain ⟨e1,e2⟩:=o2 e
  have:=mv_top hn hm (w:=oneOf m) (by rw [e1]; simp)
  omega
 | false=>rw [o1.2 e]; omega
theorem gridM_ok {n:Int} {l:List Int} (hl:masksOk n l=true):gridOk (gridM n l) n=true∧(gridM n l).length=l.length:=by
 obtain ⟨hn,h2,h3⟩:=masksOk_iff.1 hl
 unfold gridM
 rw [if_pos hl]
 refine ⟨(gridOk_iff _ _).2 ⟨hn,by simpa using h3,fun v hv=>?_⟩,by simp⟩
 obtain ⟨m,hm,rfl⟩:=List.mem_map.1 hv
 exact oneOf_le hn (h2 m hm)
theorem gridM_at {n:Int} {l:List Int} (hl:masksOk n l=true) {i:Nat} (hi:i < l.length):(gridM n l).getD i 0=oneOf (l.getD i 0):=by
 unfold gridM
 rw [if_pos hl,List.getD_eq_getElem?_getD,List.getElem?_map,List.getElem?_eq_getElem hi,List.getD_eq_getElem?_getD (l:=l),List.getElem?_eq_getElem hi]; rfl
theorem wdivm {a u:Nat} (N:Nat) (hN:2 ≤ N∧N ≤ 4) (ha:a < N * N) (hu:u < N):IntKind.i64.wrap (IntKind.i64.wrap (IntKind.i64.wrap ((a:Int).tdiv (N:Int)) * (N:Int)) + (u:Int))=((a / N * N + u:Nat):Int)∧IntKind.i64.wrap (IntKind.i64.wrap ((u:Int) * (N:Int)) + (a:Int).tmod (N:Int))=((u * N + a % N:Nat):Int)∧a / N * N + u < N * N∧u * N + a % N < N * N:=by
 have e1:((a:Int)).tdiv (N:Int)=((a / N:Nat):Int):=rfl
 have e2:((a:Int)).tmod (N:Int)=((a % N:Nat):Int):=rfl
 rw [e1,e2]
 have:N=2 ∨ N=3 ∨ N=4:=by omega
 rcases this with rfl | rfl | rfl
 all_goals
  refine ⟨?_,?_,by omega,by omega⟩
  ·rw [wr (n:=((a / _:Nat):Int)) (by omega) (by omega),wr (n:=((a / _:Nat):Int) * _) (by omega) (by omega),wr (by omega) (by omega)]; omega
  ·rw [wr (n:=(u:Int) * _) (by omega) (by omega),wr (by omega) (by omega)]; omega
theorem cellFits_l5 {k:Nat} (hk:2000041 ≤ k) {H0:Hp} {n:Int} {gs s xs:Sl} {given g:List Int} {rs:List R} (hz:PuzAt H0 n gs s given rs) (hro:∀ r ∈ rs,R.ok n r=true) (hx:Reads .i64 H0 xs g) (hg:gridOk g n=true) {at':Nat} :
  ∀ (j i fuel:Nat) (H:Hp),i + j=rs.length→j < fuel→H0 <+: H→∃ H',impl_cellFits.l5 (callF PP orc k) k fuel xs at' n s rs.length i H=some (.bool (((rs.drop i).map R.val).all fun r=>!r.2.1.contains (at':Int) || canHoldV n g r),H')∧H0 <+: H':=by
 have hlen:=hz.rr.len
 have hrl:=hz.rl
 intro j
 induction j with
 | zero=>
  intro i fuel H hi hf hp
  obtain ⟨fuel,rfl⟩:=Zs fuel (by omega)
  refine ⟨H,?_,hp⟩
  rw [List.drop_eq_nil_of_le (by omega),List.map_nil,List.all_nil]
  simp (disch:=omega) only [impl_cellFits.l5,dt,df,bt,bf,nt,nf,Za,Zy,Zx,Zt,Zf,Zn,Zz,Zi,Zo,wr,AV.toB,AV.toI,AV.toS,if_true]
 | succ j ih=>
  intro i fuel H hi hf hp
  obtain ⟨fuel,rfl⟩:=Zs fuel (by omega)
  have hi2:i < rs.length:=by omega
  obtain ⟨l0,l1,l2⟩:=rules_at1 (pf_readsR hp hz.rr) i hi2
  have hmem:=List.getElem_mem hi2
  have hcs:=pf_reads hp (hz.rr.cs i hi2)
  have hct:=Contains_ok (show 2000001 ≤ k by omega) (at':Int) hcs (by have:=hz.rc _ hmem; omega)
  rw [List.drop_eq_getElem_cons hi2,List.map_cons,List.all_cons]
  have e2:rs[i].val.2.1=rs[i].cells:=rfl
  rw [e2]
  cases c1:rs[i].cells.contains (at':Int) with
  | false=>
   rw [c1] at hct
   obtain ⟨H',b1,b2⟩:=ih (i + 1) fuel H (by omega) (by omega) hp
   push_cast at b1
   refine ⟨H',?_,b2⟩
   simp (disch:=omega) only [impl_cellFits.l5,impl_cellFits.j7,impl_cellFits.j8,dt,df,bt,bf,nt,nf,Za,Zy,Zx,Zt,Zf,Zn,Zz,Zi,Zo,wr,AV.toB,AV.toI,AV.toS,if_true,l0,l1,l2,hct,b1,Bool.true_or,Bool.true_and]
  | true=>
   rw [c1] at hct
   obtain ⟨H1,a1,a2⟩:=canHold_ok hk hcs (pf_reads hp hx) (hro _ hmem) hg
   have e:canHoldV n g (rs[i].kind,rs[i].cells,rs[i].value)=canHoldV n g rs[i].val:=rfl
   rw [e] at a1
   cases c:canHoldV n g rs[i].val with
   | true=>
    rw [c] at a1
    obtain ⟨H',b1,b2⟩:=ih (i + 1) fuel H1 (by omega) (by omega) (hp.trans a2)
    push_cast at b1
    refine ⟨H',?_,b2⟩
    simp (disch:=omega) only [impl_cellFits.l5,impl_cellFits.j7,impl_cellFits.j8,dt,df,bt,bf,nt,nf,Za,Zy,Zx,Zt,Zf,Zn,Zz,Zi,Zo,wr,AV.toB,AV.toI,AV.toS,if_true,l0,l1,l2,hct,a1,b1,Bool.or_true,Bool.true_and]
   | false=>
    rw [c] at a1
    refine ⟨H1,?_,hp.trans a2⟩
    simp (disch:=omega) only [impl_cellFits.l5,impl_cellFits.j7,impl_cellFits.j8,dt,df,bt,bf,nt,nf,Za,Zy,Zx,Zt,Zf,Zn,Zz,Zi,Zo,wr,AV.toB,AV.toI,AV.toS,if_true,l0,l1,l2,hct,a1,Bool.or_false,Bool.false_and]
theorem cellFits_l1 (rec:Rec) (k:Nat) (L0:Sl→Int→Int→Int→Int→Int→Sl→Sl→Hp→An) {n y0 x15:Int} {gs s xs cs:Sl} {H:Hp} {g cells:List Int} {at' q:Nat} (hc:Reads .i64 H cs cells) (hx:Reads .i64 H xs g) (ha:at' < g.length) (hq:q < 1000) (hcl:cells.length ≤ 10) (hin:∀ c ∈ cells,0 ≤ c∧c.toNat < g.length∧c < (g.length:Int)) :
  ∀ (j i fuel:Nat),i + j=cells.length→j < fuel→impl_cellFits.l1 rec k L0 fuel xs at' n x15 q cs cells.length i y0 gs s H =
   bif (cells.drop i).any (fun c=>decide (c ≠ (at':Int)) && decide (g.getD c.toNat 0=g.getD at' 0)) then some (.bool false,H) else L0 xs at' n x15 ((q:Int) + 1) y0 gs s H:=by
 have hcs:=hc.len
 have hxl:=hx.len
 have eqd:∀ a b:Int,(a == b)=decide (a=b):=fun a b=>by rw [Bool.eq_iff_iff]; simp
 intro j
 induction j with
 | zero=>
  intro i fuel hi hf
  obtain ⟨fuel,rfl⟩:=Zs fuel (by omega)
  rw [List.drop_eq_nil_of_le (by omega)]
  simp (disch:=omega) only [impl_cellFits.l1,impl_cellFits.j4,df,Zf,wr,List.any_nil]
 | succ j ih=>
  intro i fuel hi hf
  obtain ⟨fuel,rfl⟩:=Zs fuel (by omega)
  have hi2:i < cells.length:=by omega
  obtain ⟨c0,c1,c2⟩:=hin _ (mem_getD hi2)
  have hd:cells.drop i=cells.getD i 0 :: cells.drop (i + 1):=by
   rw [List.drop_eq_getElem_cons hi2,List.getD_eq_getElem?_getD,List.getElem?_eq_getElem hi2]; rfl
  have h5:=ih (i + 1) fuel (by omega) (by omega)
  push_cast at h5
  rw [hd,List.any_cons]
  by_cases cA:cells.getD i 0=(at':Int)
  ·rw [df (show ¬ cells.getD i 0 ≠ (at':Int) from fun h=>h cA),Bool.false_and,Bool.false_or]
   simp (disch:=omega) only [impl_cellFits.l1,impl_cellFits.j3,impl_cellFits.j6,dt,nf,Za,Zt,Zf,Zn,Zo,wr,rdn hc,h5]
  ·rw [dt cA,Bool.true_and]
   by_cases eA:g.getD (cells.getD i 0).toNat 0=g.getD at' 0
   ·rw [dt eA]
    simp (disch:=omega) only [impl_cellFits.l1,impl_cellFits.j3,impl_cellFits.j6,dt,nt,bt,Za,Zt,Zf,Zn,Zo,wr,rdn hc,rdn hx,Bool.true_or]
   ·rw [df eA]
    simp (disch:=omega) only [impl_cellFits.l1,impl_cellFits.j3,impl_cellFits.j6,dt,nt,bf,Za,Zt,Zf,Zn,Zo,wr,rdn hc,rdn hx,Bool.false_or,h5]
theorem cellFits_l0 {k:Nat} (hk:2000041 ≤ k) {H0:Hp} {gs s xs:Sl} {given g:List Int} {rs:List R} {N:Nat} (hz:PuzAt H0 (N:Int) gs s given rs) (hro:∀ r ∈ rs,R.ok (N:Int) r=true) (hx:Reads .i64 H0 xs g) (hg:gridOk g (N:Int)=true) {at':Nat} (ha:at' < g.length) :
  ∀ (j q fuel:Nat) (H:Hp),q + j=N→j < fuel→H0 <+: H→∃ H',impl_cellFits.l0 (callF PP orc k) k fuel xs at' N N q N gs s H=some (.bool (!cellFrom N g at' q j && (rs.map R.val).all fun r=>!r.2.1.contains (at':Int) || canHoldV N g r),H')∧H0 <+: H':=by
 have hn:=hz.n4
 have hN:2 ≤ N∧N ≤ 4:=by omega
 have hgl:=((gridOk_iff g _).1 hg).2.1
 have hgl':g.length=N * N:=by
  have:N=2 ∨ N=3 ∨ N=4:=by omega
  rcases this with rfl | rfl | rfl <;> omega
 have hxl:=hx.len
 have hsl:=hz.rr.len
 have hrl:=hz.rl
 intro j
 induction j with
 | zero=>
  intro q fuel H hq hf hp
  obtain ⟨fuel,rfl⟩:=Zs fuel (by omega)
  obtain ⟨H',b1,b2⟩:=cellFits_l5 hk hz hro hx hg (at':=at') rs.length 0 k H (by omega) (by omega) hp
  simp only [Int.natCast_zero,List.drop_zero] at b1
  refine ⟨H',?_,b2⟩
  simp (disch:=omega) only [impl_cellFits.l0,impl_cellFits.j2,dt,df,bt,bf,nt,nf,Za,Zy,Zx,Zt,Zf,Zn,Zz,Zi,Zo,wr,AV.toB,AV.toI,AV.toS,if_true,hsl,b1,cellFrom,Bool.true_and]
 | succ j ih=>
  intro q fuel H hq hf hp
  obtain ⟨fuel,rfl⟩:=Zs fuel (by omega)
  obtain ⟨w1,w2,w3,w4⟩:=wdivm N hN (a:=at') (u:=q) (by omega) (by omega)
  have q1:H <+: H ++ [some (Blk.mk false (([((at' / N * N + q:Nat):Int),((q * N + at' % N:Nat):Int)]:List Int).map (.int .i64)))]:=List.prefix_append _ _
  have hnew:=own_reads (own_new 1 H (([((at' / N * N + q:Nat):Int),((q * N + at' % N:Nat):Int)]:List Int).map (.int .i64)) 2 rfl)
  have hx1:=pf_reads (hp.trans q1) hx
  obtain ⟨H',b1,b2⟩:=ih (q + 1) fuel _ (by omega) (by omega) (hp.trans q1)
  rw [show ((q + 1:Nat):Int)=(q:Int) + 1 from rfl] at b1
  rw [cellFrom]
  generalize hA:at' / N * N + q=A at *
  generalize hB:q * N + at' % N=B at *
  have h1:=cellFits_l1 (callF PP orc k) k (impl_cellFits.l0 (callF PP orc k) k fuel) (n:=(N:Int)) (y0:=(N:Int)) (x15:=(N:Int)) (gs:=gs) (s:=s) (at':=at') (q:=q) hnew hx1 ha (by omega) (by simp) (fun c hc=>by
   simp at hc
   rcases hc with rfl | rfl
   ·exact ⟨by omega,by rw [Int.toNat_natCast]; omega,by omega⟩
   ·exact ⟨by omega,by rw [Int.toNat_natCast]; omega,by omega⟩) 2 0 k (by simp) (by omega)
  have e:(([(A:Int),(B:Int)]:List Int).drop 0).any (fun c=>decide (c ≠ (at':Int)) && decide (g.getD c.toNat 0=g.getD at' 0))=((decide (A ≠ at') && decide (g.getD A 0=g.getD at' 0)) || (decide (B ≠ at') && decide (g.getD B 0=g.getD at' 0))):=by
   have eA:decide ((A:Int) ≠ (at':Int))=decide (A ≠ at'):=decide_eq_decide.2 (by omega)
   have eB:decide ((B:Int) ≠ (at':Int))=decide (B ≠ at'):=decide_eq_decide.2 (by omega)
   simp only [List.drop_zero,List.any_cons,List.any_nil,Zn,Bool.or_false,eA,eB]
  rw [e] at h1
  simp only [List.map_cons,List.map_nil,Zl,Zm,Int.natCast_zero] at h1 b1
  have z1:((N:Int)=0)=False:=by simp; omega
  cases hc:(decide (A ≠ at') && decide (g.getD A 0=g.getD at' 0)) || (decide (B ≠ at') && decide (g.getD B 0=g.getD at' 0)) with
  | true=>
   rw [hc] at h1
   refine ⟨_,?_,hp.trans q1⟩
   rw [← Bool.or_assoc,hc]
   simp only [impl_cellFits.l0,dt (show (q:Int) < (N:Int) by omega),Zt,z1,if_false,w1,w2,hA,hB,h1,List.map_cons,List.map_nil,Bool.true_or,Zy,Bool.false_and]
  | false=>
   rw [hc] at h1
   refine ⟨H',?_,b2⟩
   rw [← Bool.or_assoc,hc]
   simp only [impl_cellFits.l0,dt (show (q:Int) < (N:Int) by omega),Zt,Zf,z1,if_false,w1,w2,hA,hB,h1,Bool.false_or,b1]
theorem cellFits_ok {k:Nat} (hk:2000042 ≤ k) {H:Hp} {n:Int} {gs s xs:Sl} {given g:List Int} {rs:List R} (hz:PuzAt H n gs s given rs) (hro:∀ r ∈ rs,R.ok n r=true) (hx:Reads .i64 H xs g) (hg:gridOk g n=true) {at':Nat} (ha:at' < g.length) :
  ∃ H',callF PP orc k impl_cellFits.id [.agg [.int .i64 n,.sl 1 gs,.sl 3 s],.sl 1 xs,.int .i64 (at':Int)] H=some (.bool (cellFitsV n (rs.map R.val) g at'),H')∧H <+: H':=by
 obtain ⟨k,rfl⟩:=Zs k (by omega)
 rw [impl_cellFits.call]
 have hn:=hz.n4
 obtain ⟨N,rfl⟩:=Int.eq_ofNat_of_zero_le (show 0 ≤ n by omega)
 obtain ⟨H',a1,a2⟩:=cellFits_l0 (show 2000041 ≤ k by omega) hz hro hx hg ha N 0 k H (by omega) (by omega) (List.prefix_refl _)
 exact ⟨H',a1,a2⟩
def runL {σ:Type} (step:σ→List Int→σ × Bool):σ→List (List Int)→σ × Bool
 | st,[]=>(st,true)
 | st,x :: L=>if (step st x).2=true then runL step (step st x).1 L else ((step st x).1,false)
theorem runL_app {σ:Type} (step:σ→List Int→σ × Bool):∀ (A L:List (List Int)) (st:σ),runL step st (A ++ L)=if (runL step st A).2=true then runL step (runL step st A).1 L else runL step st A
 | [],L,st=>by simp [runL]
 | x :: A,L,st=>by
  rw [List.cons_append,runL,runL]
  by_cases h:(step st x).2=true
  ·rw [if_pos h,if_pos h,runL_app step A L]
  ·rw [if_neg h,if_neg h]; simp
theorem runL_one {σ:Type} (step:σ→List Int→σ × Bool) (st:σ) (x:List Int):runL step st [x]=step st x:=by
 rw [runL]
 by_cases h:(step st x).2=true
 ·rw [if_pos h,runL,← h]
 ·rw [if_neg h]
  rw [Bool.not_eq_true] at h
  rw [← h]
structure Tell (B:Hp) (f:FuncId) (caps:List AV) (b d:Nat) {σ:Type} (step:σ→List Int→σ × Bool) (T:Nat→σ × Bool→Hp→Prop) (K:Nat):Prop where
 ok:okF PP f=true
 gl:caps.all AV.glob=true
 bB:B.length ≤ b
 bd:b ≠ d
 pf:∀ c st H H',T c st H→H <+: H'→T c st H'
 wr:∀ c st H H',T c st H→But d H H'→H'.length=H.length→T c st H'
 go:∀ k,K ≤ k→∀ c st H t g,T c (st,true) H→B <+: H→Reads .i64 H t g→g.length ≤ 16→t.blk=d→t.nil=false→c ≠ d→B.length ≤ c→∃ H' c',callF PP orc k f ([.sl 1 t] ++ caps) H=some (.bool (step st g).2,H')∧T c' (step st g) H'∧Adv2 b c H H'∧(c'=c ∨ H.length ≤ c')
structure Adv3 (d b c:Nat) (H H':Hp):Prop where
 but:∀ (e:Nat) (x:Option Blk),e ≠ d→e ≠ b→e ≠ c→H[e]?=some x→H'[e]?=some x
 le:H.length ≤ H'.length
theorem Adv3.refl (d b c:Nat) (H:Hp):Adv3 d b c H H:=⟨fun _ _ _ _ _ h=>h,Nat.le_refl _⟩
theorem Adv3.trans {d b c c':Nat} {H H1 H2:Hp} (h:Adv3 d b c H H1) (h':Adv3 d b c' H1 H2) (hc:c'=c ∨ H.length ≤ c'):Adv3 d b c H H2:=
 ⟨fun e x h1 h2 h3 hx=>by
  have hd:=(List.getElem?_eq_some_iff.1 hx).1
  exact h'.but e x h1 h2 (by omega) (h.but e x h1 h2 h3 hx),Nat.le_trans h.le h'.le⟩
theorem pf_adv3 {d b c:Nat} {H H':Hp} (g:H <+: H'):Adv3 d b c H H':=⟨fun e x _ _ _ hx=>pf_get g hx,g.length_le⟩
theorem adv_adv3 {d b c:Nat} {H H':Hp} (g:Adv d H H'):Adv3 d b c H H':=⟨fun e x h1 _ _ hx=>g.but e x h1 hx,g.le⟩
theorem adv2_adv3 {d b c:Nat} {H H':Hp} (g:Adv2 b c H H'):Adv3 d b c H H':=⟨fun e x _ h2 h3 hx=>g.but e x h2 h3 hx,g.le⟩
theorem Adv3.pf {d b c:Nat} {H H' B:Hp} (h:Adv3 d b c H H') (hd:B.length ≤ d) (hb:B.length ≤ b) (hc:B.length ≤ c) (g:B <+: H):B <+: H':=by
 have hl0:=g.length_le
 have hle:=h.le
 rw [List.prefix_iff_eq_take]
 apply List.ext_getElem?
 intro i
 by_cases hi:i < B.length
 ·rw [List.getElem?_take,if_pos hi]
  have e:=List.getElem?_eq_getElem hi
  rw [e,h.but i _ (by omega) (by omega) (by omega) (pf_get g e)]
 ·rw [List.getElem?_eq_none (by omega),List.getElem?_eq_none (by simp; omega)]
structure Bx (H:Hp) (gb tb yb nb pb:Nat) (n:Int) (gs ps ss:Sl) (f:FuncId) (caps:List AV):Prop where
 bg:H[gb]?=some (some ⟨false,[.sl 1 gs]⟩)
 bt:H[tb]?=some (some ⟨false,[.fn f caps]⟩)
 bo:H[yb]?=some (some ⟨false,[.fn impl_solutions_1.id [.ptr gb 0,.ptr tb 0,.ptr yb 0,.ptr nb 0,.ptr pb 0]]⟩)
 bn:H[nb]?=some (some ⟨false,[.int .i64 n]⟩)
 bp:H[pb]?=some (some ⟨false,[.int .i64 n,.sl 1 ps,.sl 3 ss]⟩)
def Five (x gb tb yb nb pb:Nat):Prop:=gb ≠ x∧tb ≠ x∧yb ≠ x∧nb ≠ x∧pb ≠ x
theorem Bx.adv {H H':Hp} {gb tb yb nb pb:Nat} {n:Int} {gs ps ss:Sl} {f:FuncId} {caps:List AV} (h:Bx H gb tb yb nb pb n gs ps ss f caps) {d b c:Nat} (a:Adv3 d b c H H') (hd:Five d gb tb yb nb pb) (hb:Five b gb tb yb nb pb) (hc:Five c gb tb yb nb pb):Bx H' gb tb yb nb pb n gs ps ss f caps:=by
 obtain ⟨d1,d2,d3,d4,d5⟩:=hd
 obtain ⟨b1,b2,b3,b4,b5⟩:=hb
 obtain ⟨c1,c2,c3,c4,c5⟩:=hc
 exact ⟨a.but _ _ d1 b1 c1 h.bg,a.but _ _ d2 b2 c2 h.bt,a.but _ _ d3 b3 c3 h.bo,a.but _ _ d4 b4 c4 h.bn,a.but _ _ d5 b5 c5 h.bp⟩
theorem Bx.five {H:Hp} {gb tb yb nb pb:Nat} {n:Int} {gs ps ss:Sl} {f:FuncId} {caps:List AV} (h:Bx H gb tb yb nb pb n gs ps ss f caps) {c:Nat} (hc:H.length ≤ c):Five c gb tb yb nb pb:=by
 have h1:=(List.getElem?_eq_some_iff.1 h.bg).1
 have h2:=(List.getElem?_eq_some_iff.1 h.bt).1
 have h3:=(List.getElem?_eq_some_iff.1 h.bo).1
 have h4:=(List.getElem?_eq_some_iff.1 h.bn).1
 have h5:=(List.getElem?_eq_some_iff.1 h.bp).1
 exact ⟨by omega,by omega,by omega,by omega,by omega⟩
theorem okSol:okF PP impl_solutions_1.id=true:=by kernel_rfl
theorem box_fn {H:Hp} {b:Nat} {f:FuncId} {cs:List AV} (h:H[b]?=some (some ⟨false,[.fn f cs]⟩)):ldF H b 0=some (f,cs):=by unfold ldF Hp.cell; rw [h]; simp [AV.toF]
theorem set_set (l:List Int) (i:Nat) (a b:Int):(l.set i a).set i b=l.set i b:=by
 apply List.ext_getElem?
 intro j
 by_cases e:i=j
 ·subst e
  by_cases h:i < l.length
  ·rw [List.getElem?_set_self (by simpa using h),List.getElem?_set_self h]
  ·rw [List.getElem?_eq_none (by simp; omega),List.getElem?_eq_none (by simp; omega)]
 ·rw [List.getElem?_set_ne e,List.getElem?_set_ne e,List.getElem?_set_ne e]
theorem set_same (l:List Int) (i:Nat) (h:l.getD i 0=0):l.set i 0=l:=by
 apply List.ext_getElem?
 intro j
 by_cases e:i=j
 ·subst e
  by_cases hi:i < l.length
  ·rw [List.getElem?_set_self hi,List.getElem?_eq_getElem hi]
   rw [List.getD_eq_getElem?_getD,List.getElem?_eq_getElem hi] at h
   simp at h; rw [h]
  ·rw [List.getElem?_eq_none (by simp; omega),List.getElem?_eq_none (by omega)]
 ·rw [List.getElem?_set_ne e]
def SolTo {σ:Type} (B:Hp) (b:Nat) (gs:Sl) (T:Nat→σ × Bool→Hp→Prop) (c:Nat) (H:Hp) (g:List Int) (R:σ × Bool) (r:An):Prop:=
 ∃ H' c' g',r=some (.bool R.2,H')∧B <+: H'∧Adv3 gs.blk b c H H'∧Own 1 B H' gs (g'.map (.int .i64))∧g'.length=g.length∧(R.2=true→g'=g)∧T c' R H'∧(c'=c ∨ H.length ≤ c')
theorem fr_step {b c0 c d:Nat} {H0 H H1:Hp} (hf:Adv2 b c0 H0 H) (ha:Adv3 d b c H H1) (hd:H0.length ≤ d) (hc:c=c0 ∨ H0.length ≤ c):Adv2 b c0 H0 H1:=
 ⟨fun e x h1 h2 hx=>by
  have he:=(List.getElem?_eq_some_iff.1 hx).1
  exact ha.but e x (by omega) h1 (by omega) (hf.but e x h1 h2 hx),Nat.le_trans hf.le ha.le⟩
theorem Sol_ok {B:Hp} {f:FuncId} {caps:List AV} {b:Nat} {gs ps ss:Sl} {σ:Type} {step:σ→List Int→σ × Bool} {T:Nat→σ × Bool→Hp→Prop} {K:Nat} (tell:Tell B f caps b gs.blk step T K) {gb tb yb nb pb:Nat} {n:Int} {given:List Int} {rs:List R} {H0:Hp} {c0:Nat} (hn:2 ≤ n∧n ≤ 4) (hzk:∀ H,Adv2 b c0 H0 H→PuzAt H n ps ss given rs) (hd0:H0.length ≤ gs.blk) (hro:∀ r ∈ rs,R.ok n r=true) (hgg:gridOk given n=true) (hd5:Five gs.blk gb tb yb nb pb) (hb5:Five b gb tb yb nb pb) :
  ∀ (rem k:Nat),K + 2000200 + rem ≤ k→∀ (H:Hp) (g:List Int) (c:Nat) (st:σ),rem ≤ g.length→B <+: H→Bx H gb tb yb nb pb n gs ps ss f caps→Five c gb tb yb nb pb→c ≠ gs.blk→B.length ≤ c→Own 1 B H gs (g.map (.int .i64))→gridOk g n=true→Le given g→fitsV n given (rs.map R.val) g=true→T c (st,true) H→Adv2 b c0 H0 H→(c=c0 ∨ H0.length ≤ c) →
   SolTo B b gs T c H g (runL step st (sols (fitsV n given (rs.map R.val)) n.toNat rem g)) (callF PP orc k impl_solutions_1.id [.int .i64 ((g.length - rem:Nat):Int),.ptr gb 0,.ptr tb 0,.ptr yb 0,.ptr nb 0,.ptr pb 0] H):=by
 have hrv:∀ r ∈ rs.map R.val,ruleOkV n r=true:=by
  intro r hr
  obtain ⟨q,hq,e⟩:=List.mem_map.1 hr
  rw [← e]; exact hro q hq
 have hgiv:∀ x,0 ≤ given.getD x 0:=fun x=>by
  have hgb:=((gridOk_iff given n).1 hgg).2.2
  by_cases h:x < given.length
  ·exact (hgb _ (mem_getD h)).1
  ·rw [List.getD_eq_getElem?_getD,List.getElem?_eq_none (by omega)]; simp
 intro rem
 induction rem with
 | zero=>
  intro k hk H g c st hrem hB hbx hc5 hcd hcB ho hg hle hf hT hfr hc0
  obtain ⟨k,rfl⟩:=Zs k (by omega)
  rw [impl_solutions_1.call]
  have rg:=own_reads ho
  have hgl:=rg.len
  have h16:=gridOk_len hg
  obtain ⟨H',c',a1,a2,a3,a4⟩:=tell.go k (by omega) c st H gs g hT hB rg h16 rfl ho.nn hcd hcB
  rw [sols,runL_one]
  have adv:Adv3 gs.blk b c H H':=adv2_adv3 a3
  refine ⟨H',c',g,?_,adv.pf ho.blk tell.bB hcB hB,adv,a3.own (Ne.symm tell.bd) (Ne.symm hcd) ho,rfl,fun _=>rfl,a2,a4⟩
  have hcg:([.sl 1 gs] ++ caps:List AV).all AV.glob=true:=by rw [List.all_append,tell.gl]; rfl
  simp (disch:=omega) only [impl_solutions_1.f,dt,df,bt,bf,nt,nf,Za,Zy,Zx,Zt,Zf,Zn,Zz,Zi,Zo,wr,AV.toB,AV.toI,AV.toS,if_true,box_sl hbx.bg,box_fn hbx.bt,tell.ok,hcg,a1]
 | succ rem ih=>
  intro k hk H g c st hrem hB hbx hc5 hcd hcB ho hg hle hf hT hfr hc0
  obtain ⟨k,rfl⟩:=Zs k (by omega)
  rw [impl_solutions_1.call]
  have rg:=own_reads ho
  have hgl:=rg.len
  have h16:=gridOk_len hg
  have hat:g.length - (rem + 1) < g.length:=by omega
  rw [sols]
  generalize hA:g.length - (rem + 1)=at' at hat ⊢
  have hnext:IntKind.i64.wrap ((at':Int) + 1)=((g.length - rem:Nat):Int):=by rw [wr (by omega) (by omega)]; omega
  have hfy:=box_fn hbx.bo
  have hcg:∀ z:Int,([.int .i64 z,.ptr gb 0,.ptr tb 0,.ptr yb 0,.ptr nb 0,.ptr pb 0]:List AV).all AV.glob=true:=fun z=>rfl
  by_cases c0:0 < g.getD at' 0
  ·rw [ip c0]
   have h1:=ih k (by omega) H g c st (by omega) hB hbx hc5 hcd hcB ho hg hle hf hT hfr hc0
   rw [← hnext] at h1
   obtain ⟨H',c',g',e1,e2⟩:=h1
   refine ⟨H',c',g',?_,e2⟩
   simp only [impl_solutions_1.f,box_sl hbx.bg,Zo,bf (show (at':Int) ≠ (gs.len:Int) by omega),Zf,Zt,dt (show (0:Int) ≤ (at':Int) by omega),dt (show (at':Int) < (gs.len:Int) by omega),Za,Zn,rdn rg hat,dt (show g.getD at' 0 > 0 from c0),hfy,okSol,hcg,List.cons_append,List.nil_append,e1,AV.toB]
  ·rw [iN c0]
   have hv0:=((gridOk_iff g n).1 hg).2.2 _ (mem_getD hat)
   have h0:g.getD at' 0=0:=by omega
   have loop:∀ (j fuel:Nat) (v x:Int) (Hc:Hp) (cc:Nat) (sc:σ),v + j=n + 1→1 ≤ v→j < fuel→B <+: Hc→Bx Hc gb tb yb nb pb n gs ps ss f caps→Five cc gb tb yb nb pb→cc ≠ gs.blk→B.length ≤ cc→Own 1 B Hc gs ((g.set at' x).map (.int .i64))→T cc (sc,true) Hc→Adv3 gs.blk b c H Hc→(cc=c ∨ H.length ≤ cc) →
     SolTo B b gs T c H g (runL step sc ((upto j v).flatMap fun v=>if fitsV n given (rs.map R.val) (g.set at' v)=true then sols (fitsV n given (rs.map R.val)) n.toNat rem (g.set at' v) else [])) (impl_solutions_1.l0 (callF PP orc k) k fuel at' gb 0 yb 0 nb 0 pb 0 v Hc):=by
    intro j
    induction j with
    | zero=>
     intro fuel v x Hc cc sc hv hv1 hfu hBc hbc hcc5 hccd hccB hoc hTc hadv hcc
     obtain ⟨fuel,rfl⟩:=Zs fuel (by omega)
     obtain ⟨H1,a1,a2,a3,a4⟩:=own_set1 hoc hBc at' (by simpa using hat) 0
     have hgl1:=(own_reads hoc).len
     simp only [List.length_set] at hgl1
     rw [set_set,set_same g at' h0] at a3
     have hld:ldI .i64 Hc nb 0=some n:=by unfold ldI Hp.cell; rw [hbc.bn]; simp [AV.toI]
     have hl1:H1.length=Hc.length:=by
      have:=own_sto hoc hBc at' [.int .i64 0] (by simp; omega)
      obtain ⟨H2,q1,q2,q3,q4,q5⟩:=this
      rw [Nat.mul_one] at a1
      rw [a1] at q1
      simp only [Option.some.injEq] at q1
      rw [q1]; exact q5
     refine ⟨H1,cc,g,?_,a2,hadv.trans (adv_adv3 a4) (.inl rfl),a3,rfl,fun _=>rfl,tell.wr _ _ _ _ hTc a4.but hl1,hcc⟩
     simp only [upto,List.flatMap_nil,runL]
     simp (disch:=omega) only [impl_solutions_1.l0,impl_solutions_1.j2,dt,df,bt,bf,nt,nf,Za,Zy,Zx,Zt,Zf,Zn,Zz,Zi,Zo,wr,AV.toB,AV.toI,AV.toS,if_true,hld,box_sl hbc.bg,a1]
    | succ j ihj=>
     intro fuel v x Hc cc sc hv hv1 hfu hBc hbc hcc5 hccd hccB hoc hTc hadv hcc
     obtain ⟨fuel,rfl⟩:=Zs fuel (by omega)
     have hld:ldI .i64 Hc nb 0=some n:=by unfold ldI Hp.cell; rw [hbc.bn]; simp [AV.toI]
     have hgl1:=(own_reads hoc).len
     simp only [List.length_set] at hgl1
     obtain ⟨H1,a1,a2,a3,a4⟩:=own_set1 hoc hBc at' (by simpa using hat) v
     rw [set_set] at a3
     have hl1:H1.length=Hc.length:=by
      have:=own_sto hoc hBc at' [.int .i64 v] (by simp; omega)
      obtain ⟨H2,q1,q2,q3,q4,q5⟩:=this
      rw [Nat.mul_one] at a1
      rw [a1] at q1
      simp only [Option.some.injEq] at q1
      rw [q1]; exact q5
     have hT1:=tell.wr _ _ _ _ hTc a4.but hl1
     have hb1:=hbc.adv (adv_adv3 (b:=b) (c:=cc) a4) hd5 hb5 hcc5
     have hg1:=grid_set hg at' v ⟨by omega,by omega⟩
     have r1:ldI .i64 H1 pb 0=some n:=by unfold ldI Hp.cell; rw [hb1.bp]; simp [AV.toI]
     have r2:ldS 1 H1 pb (0 + 1)=some ps:=by unfold ldS Hp.cell; rw [hb1.bp]; simp [AV.toS]
     have r3:ldS 3 H1 pb (0 + 1 + 1)=some ss:=by unfold ldS Hp.cell; rw [hb1.bp]; simp [AV.toS]
     obtain ⟨H2,d1,d2⟩:=cellFits_ok (show 2000042 ≤ k by omega) (hzk H1 (fr_step hfr (hadv.trans (adv_adv3 (b:=b) (c:=cc) a4) hcc) hd0 hc0)) hro (own_reads a3) hg1 (at':=at') (by simpa using hat)
     rw [← fits_step hf hg hle hgiv hat h0 ⟨hv1,by omega⟩ hrv] at d1
     have hT2:=tell.pf _ _ _ _ hT1 d2
     have hb2:=hb1.adv (pf_adv3 (d:=gs.blk) (b:=b) (c:=cc) d2) hd5 hb5 hcc5
     have hB2:=a2.trans d2
     have adv2:Adv3 gs.blk b c H H2:=(hadv.trans (adv_adv3 (b:=b) (c:=cc) a4) hcc).trans (pf_adv3 (b:=b) (c:=cc) d2) hcc
     rw [upto,List.flatMap_cons,runL_app]
     cases cf:fitsV n given (rs.map R.val) (g.set at' v) with
     | true=>
      rw [cf] at d1
      rw [ip rfl]
      obtain ⟨H3,c3,g3,e1,e2,e3,e4,e5,e6,e7,e8⟩:=ih k (by omega) H2 (g.set at' v) cc sc (by simp; omega) hB2 hb2 hcc5 hccd hccB (own_pf a3 d2) hg1 (hle.trans (by
       refine ⟨by simp,fun i=>?_⟩
       rw [getD_set]
       by_cases e:at'=i
       ·subst e; exact .inl h0
       ·rw [if_neg (by omega)]; exact .inr rfl)) cf hT2 (fr_step hfr adv2 hd0 hc0) (by have:=hfr.le; omega)
      rw [List.length_set,← hnext] at e1
      have hc3:c3=c ∨ H.length ≤ c3:=by
       have:=adv2.le
       rcases e8 with h | h
       ·rw [h]; exact hcc
       ·right; omega
      have adv3:=adv2.trans e3 hcc
      have hfy2:=box_fn hb2.bo
      cases hr:(runL step sc (sols (fitsV n given (rs.map R.val)) n.toNat rem (g.set at' v))).2 with
      | true=>
       rw [hr] at e1
       rw [ip rfl]
       have hg3:=e6 hr
       subst hg3
       have hc35:Five c3 gb tb yb nb pb:=by
        rcases e8 with h | h
        ·rw [h]; exact hcc5
        ·exact hb2.five h
       have hd3:=own_lt' (own_pf a3 d2)
       have hc3d:c3 ≠ gs.blk:=by rcases e8 with h | h; rw [h]; exact hccd; omega
       have hc3B:B.length ≤ c3:=by have:=hB2.length_le; rcases e8 with h | h; rw [h]; exact hccB; omega
       obtain ⟨H4,c4,g4,f1,f2⟩:=ihj fuel (v + 1) v H3 c3 _ (by omega) (by omega) (by omega) e2 (hb2.adv e3 hd5 hb5 hcc5) hc35 hc3d hc3B e4 (by have e7':=e7; rw [← hr]; exact e7') adv3 hc3
       refine ⟨H4,c4,g4,?_,f2⟩
       simp (disch:=omega) only [impl_solutions_1.l0,impl_solutions_1.j1,impl_solutions_1.j3,dt,Za,Zy,Zt,Zf,Zn,Zo,hld,box_sl hbc.bg,a1,r1,r2,r3,box_sl hb1.bg,d1,AV.toB,hfy2,okSol,hcg,List.cons_append,List.nil_append,e1,wr (n:=v + 1),f1]
      | false=>
       rw [hr] at e1
       rw [iN (by simp)]
       refine ⟨H3,c3,g3,?_,e2,adv3,e4,by simpa using e5,(fun h=>by rw [hr] at h; cases h),e7,hc3⟩
       rw [hr]
       simp (disch:=omega) only [impl_solutions_1.l0,impl_solutions_1.j1,impl_solutions_1.j3,dt,Za,Zx,Zt,Zf,Zn,Zo,hld,box_sl hbc.bg,a1,r1,r2,r3,box_sl hb1.bg,d1,AV.toB,hfy2,okSol,hcg,List.cons_append,List.nil_append,e1]
     | false=>
      rw [cf] at d1
      simp only [Bool.false_eq_true,if_false,runL,if_true]
      obtain ⟨H4,c4,g4,f1,f2⟩:=ihj fuel (v + 1) v H2 cc sc (by omega) (by omega) (by omega) hB2 hb2 hcc5 hccd hccB (own_pf a3 d2) hT2 adv2 hcc
      refine ⟨H4,c4,g4,?_,f2⟩
      simp (disch:=omega) only [impl_solutions_1.l0,impl_solutions_1.j1,impl_solutions_1.j3,dt,Za,Zt,Zf,Zn,Zo,hld,box_sl hbc.bg,a1,r1,r2,r3,box_sl hb1.bg,d1,AV.toB,wr (n:=v + 1),f1]
   have hset:g.set at' 0=g:=set_same g at' h0
   obtain ⟨H4,c4,g4,f1,f2⟩:=loop n.toNat k 1 0 H c st (by omega) (by omega) (by omega) hB hbx hc5 hcd hcB (by rw [hset]; exact ho) hT (Adv3.refl _ _ _ _) (.inl rfl)
   refine ⟨H4,c4,g4,?_,f2⟩
   simp only [impl_solutions_1.f,box_sl hbx.bg,Zo,bf (show (at':Int) ≠ (gs.len:Int) by omega),Zf,Zt,dt (show (0:Int) ≤ (at':Int) by omega),dt (show (at':Int) < (gs.len:Int) by omega),Za,Zn,rdn rg hat,df (show ¬ g.getD at' 0 > 0 from c0),f1]
def firstV (n:Int) (given:List Int) (vs:List V):Option (List Int):=(allSols n given vs).head?
end Go.Proofs.Ytchliocobgkmbaa.Rp
