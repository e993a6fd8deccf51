/- Texts for the row of the law FnPuzzleOf, part 13: the plain machine, the program's functions on it, what they come to. No conditions. -/
import Derived.Test.YtjikkamhljbipaaBuFnPuzzleOf12
import Derived.Test.YtjikkamhljbipaaBuFnPuzzleOf10
import Derived.Test.YtjikkamhljbipaaBuFnPuzzleOf7
import Derived.Test.YtjikkamhljbipaaBuFnPuzzleOf8
import Derived.Test.YtjikkamhljbipaaBuFnPuzzleOf9
import Derived.Test.YtjikkamhljbipaaBuFnPuzzleOf11
set_option linter.unusedVariables false
set_option linter.unusedSimpArgs false
namespace Go.Proofs.Ytjikkamhljbipaa.Rp
open Go Go.RowKit Go.Proofs.Ytjikkamhljbipaa.Ab
def runL {σ:Type} (step:σ→List Int→σ × Bool):σ→List (List Int)→σ × Bool
 | st,[]=>(st,true)
 | st,x :: L=>if (step st x).2=true then runL step (step st x).1 L else ((step st x).1,false)
theorem runL_app {σ:Type} (step:σ→List Int→σ × Bool):∀ (A L:List (List Int)) (st:σ),runL step st (A ++ L)=if (runL step st A).2=true then runL step (runL step st A).1 L else runL step st A
 | [],L,st=>by simp [runL]
 | x :: A,L,st=>by
  rw [List.cons_append,runL,runL]
  by_cases h:(step st x).2=true
  ·rw [if_pos h,if_pos h,runL_app step A L]
  ·rw [if_neg h,if_neg h]; simp
theorem runL_one {σ:Type} (step:σ→List Int→σ × Bool) (st:σ) (x:List Int):runL step st [x]=step st x:=by
 rw [runL]
 by_cases h:(step st x).2=true
 ·rw [if_pos h,runL,← h]
 ·rw [if_neg h]
  rw [Bool.not_eq_true] at h
  rw [← h]
structure Tell (B:Hp) (f:FuncId) (caps:List AV) (b d:Nat) {σ:Type} (step:σ→List Int→σ × Bool) (T:Nat→σ × Bool→Hp→Prop) (K:Nat):Prop where
 ok:okF PP f=true
 gl:caps.all AV.glob=true
 bB:B.length ≤ b
 bd:b ≠ d
 pf:∀ c st H H',T c st H→H <+: H'→T c st H'
 wr:∀ c st H H',T c st H→But d H H'→H'.length=H.length→T c st H'
 go:∀ k,K ≤ k→∀ c st H t g,T c (st,true) H→B <+: H→Reads .i64 H t g→g.length ≤ 16→t.blk=d→t.nil=false→c ≠ d→B.length ≤ c→∃ H' c',callF PP orc k f ([.sl 1 t] ++ caps) H=some (.bool (step st g).2,H')∧T c' (step st g) H'∧Adv2 b c H H'∧(c'=c ∨ H.length ≤ c')
structure Adv3 (d b c:Nat) (H H':Hp):Prop where
 but:∀ (e:Nat) (x:Option Blk),e ≠ d→e ≠ b→e ≠ c→H[e]?=some x→H'[e]?=some x
 le:H.length ≤ H'.length
theorem Adv3.refl (d b c:Nat) (H:Hp):Adv3 d b c H H:=⟨fun _ _ _ _ _ h=>h,Nat.le_refl _⟩
theorem Adv3.trans {d b c c':Nat} {H H1 H2:Hp} (h:Adv3 d b c H H1) (h':Adv3 d b c' H1 H2) (hc:c'=c ∨ H.length ≤ c'):Adv3 d b c H H2:=
 ⟨fun e x h1 h2 h3 hx=>by
  have hd:=(List.getElem?_eq_some_iff.1 hx).1
  exact h'.but e x h1 h2 (by omega) (h.but e x h1 h2 h3 hx),Nat.le_trans h.le h'.le⟩
theorem pf_adv3 {d b c:Nat} {H H':Hp} (g:H <+: H'):Adv3 d b c H H':=⟨fun e x _ _ _ hx=>pf_get g hx,g.length_le⟩
theorem adv_adv3 {d b c:Nat} {H H':Hp} (g:Adv d H H'):Adv3 d b c H H':=⟨fun e x h1 _ _ hx=>g.but e x h1 hx,g.le⟩
theorem adv2_adv3 {d b c:Nat} {H H':Hp} (g:Adv2 b c H H'):Adv3 d b c H H':=⟨fun e x _ h2 h3 hx=>g.but e x h2 h3 hx,g.le⟩
theorem Adv3.pf {d b c:Nat} {H H' B:Hp} (h:Adv3 d b c H H') (hd:B.length ≤ d) (hb:B.length ≤ b) (hc:B.length ≤ c) (g:B <+: H):B <+: H':=by
 have hl0:=g.length_le
 have hle:=h.le
 rw [List.prefix_iff_eq_take]
 apply List.ext_getElem?
 intro i
 by_cases hi:i < B.length
 ·rw [List.getElem?_take,if_pos hi]
  have e:=List.getElem?_eq_getElem hi
  rw [e,h.but i _ (by omega) (by omega) (by omega) (pf_get g e)]
 ·rw [List.getElem?_eq_none (by omega),List.getElem?_eq_none (by simp; omega)]
structure Bx (H:Hp) (gb tb yb nb pb:Nat) (n:Int) (gs ps ss:Sl) (f:FuncId) (caps:List AV):Prop where
 bg:H[gb]?=some (some ⟨false,[.sl 1 gs]⟩)
 bt:H[tb]?=some (some ⟨false,[.fn f caps]⟩)
 bo:H[yb]?=some (some ⟨false,[.fn impl_solutions_1.id [.ptr gb 0,.ptr tb 0,.ptr yb 0,.ptr nb 0,.ptr pb 0]]⟩)
 bn:H[nb]?=some (some ⟨false,[.int .i64 n]⟩)
 bp:H[pb]?=some (some ⟨false,[.int .i64 n,.sl 1 ps,.sl 3 ss]⟩)
def Five (x gb tb yb nb pb:Nat):Prop:=gb ≠ x∧tb ≠ x∧yb ≠ x∧nb ≠ x∧pb ≠ x
theorem Bx.adv {H H':Hp} {gb tb yb nb pb:Nat} {n:Int} {gs ps ss:Sl} {f:FuncId} {caps:List AV} (h:Bx H gb tb yb nb pb n gs ps ss f caps) {d b c:Nat} (a:Adv3 d b c H H') (hd:Five d gb tb yb nb pb) (hb:Five b gb tb yb nb pb) (hc:Five c gb tb yb nb pb):Bx H' gb tb yb nb pb n gs ps ss f caps:=by
 obtain ⟨d1,d2,d3,d4,d5⟩:=hd
 obtain ⟨b1,b2,b3,b4,b5⟩:=hb
 obtain ⟨c1,c2,c3,c4,c5⟩:=hc
 exact ⟨a.but _ _ d1 b1 c1 h.bg,a.but _ _ d2 b2 c2 h.bt,a.but _ _ d3 b3 c3 h.bo,a.but _ _ d4 b4 c4 h.bn,a.but _ _ d5 b5 c5 h.bp⟩
theorem Bx.five {H:Hp} {gb tb yb nb pb:Nat} {n:Int} {gs ps ss:Sl} {f:FuncId} {caps:List AV} (h:Bx H gb tb yb nb pb n gs ps ss f caps) {c:Nat} (hc:H.length ≤ c):Five c gb tb yb nb pb:=by
 have h1:=(List.getElem?_eq_some_iff.1 h.bg).1
 have h2:=(List.getElem?_eq_some_iff.1 h.bt).1
 have h3:=(List.getElem?_eq_some_iff.1 h.bo).1
 have h4:=(List.getElem?_eq_some_iff.1 h.bn).1
 have h5:=(List.getElem?_eq_some_iff.1 h.bp).1
 exact ⟨by omega,by omega,by omega,by omega,by omega⟩
theorem okSol:okF PP impl_solutions_1.id=true:=by kernel_rfl
theorem box_fn {H:Hp} {b:Nat} {f:FuncId} {cs:List AV} (h:H[b]?=some (some ⟨false,[.fn f cs]⟩)):ldF H b 0=some (f,cs):=by unfold ldF Hp.cell; rw [h]; simp [AV.toF]
theorem set_set (l:List Int) (i:Nat) (a b:Int):(l.set i a).set i b=l.set i b:=by
 apply List.ext_getElem?
 intro j
 by_cases e:i=j
 ·subst e
  by_cases h:i < l.length
  ·rw [List.getElem?_set_self (by simpa using h),List.getElem?_set_self h]
  ·rw [List.getElem?_eq_none (by simp; omega),List.getElem?_eq_none (by simp; omega)]
 ·rw [List.getElem?_set_ne e,List.getElem?_set_ne e,List.getElem?_set_ne e]
theorem set_same (l:List Int) (i:Nat) (h:l.getD i 0=0):l.set i 0=l:=by
 apply List.ext_getElem?
 intro j
 by_cases e:i=j
 ·subst e
  by_cases hi:i < l.length
  ·rw [List.getElem?_set_self hi,List.getElem?_eq_getElem hi]
   rw [List.getD_eq_getElem?_getD,List.getElem?_eq_getElem hi] at h
   simp at h; rw [h]
  ·rw [List.getElem?_eq_none (by simp; omega),List.getElem?_eq_none (by omega)]
 ·rw [List.getElem?_set_ne e]
def SolTo {σ:Type} (B:Hp) (b:Nat) (gs:Sl) (T:Nat→σ × Bool→Hp→Prop) (c:Nat) (H:Hp) (g:List Int) (R:σ × Bool) (r:An):Prop:=
 ∃ H' c' g',r=some (.bool R.2,H')∧B <+: H'∧Adv3 gs.blk b c H H'∧Own 1 B H' gs (g'.map (.int .i64))∧g'.length=g.length∧(R.2=true→g'=g)∧T c' R H'∧(c'=c ∨ H.length ≤ c')
theorem fr_step {b c0 c d:Nat} {H0 H H1:Hp} (hf:Adv2 b c0 H0 H) (ha:Adv3 d b c H H1) (hd:H0.length ≤ d) (hc:c=c0 ∨ H0.length ≤ c):Adv2 b c0 H0 H1:=
 ⟨fun e x h1 h2 hx=>by
  have he:=(List.getElem?_eq_some_iff.1 hx).1
  exact ha.but e x (by omega) h1 (by omega) (hf.but e x h1 h2 hx),Nat.le_trans hf.le ha.le⟩
theorem Sol_ok {B:Hp} {f:FuncId} {caps:List AV} {b:Nat} {gs ps ss:Sl} {σ:Type} {step:σ→List Int→σ × Bool} {T:Nat→σ × Bool→Hp→Prop} {K:Nat} (tell:Tell B f caps b gs.blk step T K) {gb tb yb nb pb:Nat} {n:Int} {given:List Int} {rs:List R} {H0:Hp} {c0:Nat} (hn:2 ≤ n∧n ≤ 4) (hzk:∀ H,Adv2 b c0 H0 H→PuzAt H n ps ss given rs) (hd0:H0.length ≤ gs.blk) (hro:∀ r ∈ rs,R.ok n r=true) (hgg:gridOk given n=true) (hd5:Five gs.blk gb tb yb nb pb) (hb5:Five b gb tb yb nb pb) :
  ∀ (rem k:Nat),K + 2000200 + rem ≤ k→∀ (H:Hp) (g:List Int) (c:Nat) (st:σ),rem ≤ g.length→B <+: H→Bx H gb tb yb nb pb n gs ps ss f caps→Five c gb tb yb nb pb→c ≠ gs.blk→B.length ≤ c→Own 1 B H gs (g.map (.int .i64))→gridOk g n=true→Le given g→fitsV n given (rs.map R.val) g=true→T c (st,true) H→Adv2 b c0 H0 H→(c=c0 ∨ H0.length ≤ c) →
   SolTo B b gs T c H g (runL step st (sols (fitsV n given (rs.map R.val)) n.toNat rem g)) (callF PP orc k impl_solutions_1.id [.int .i64 ((g.length - rem:Nat):Int),.ptr gb 0,.ptr tb 0,.ptr yb 0,.ptr nb 0,.ptr pb 0] H):=by
 have hrv:∀ r ∈ rs.map R.val,ruleOkV n r=true:=by
  intro r hr
  obtain ⟨q,hq,e⟩:=List.mem_map.1 hr
  rw [← e]; exact hro q hq
 have hgiv:∀ x,0 ≤ given.getD x 0:=fun x=>by
  have hgb:=((gridOk_iff given n).1 hgg).2.2
  by_cases h:x < given.length
  ·exact (hgb _ (mem_getD h)).1
  ·rw [List.getD_eq_getElem?_getD,List.getElem?_eq_none (by omega)]; simp
 intro rem
 induction rem with
 | zero=>
  intro k hk H g c st hrem hB hbx hc5 hcd hcB ho hg hle hf hT hfr hc0
  obtain ⟨k,rfl⟩:=Zs k (by omega)
  rw [impl_solutions_1.call]
  have rg:=own_reads ho
  have hgl:=rg.len
  have h16:=gridOk_len hg
  obtain ⟨H',c',a1,a2,a3,a4⟩:=tell.go k (by omega) c st H gs g hT hB rg h16 rfl ho.nn hcd hcB
  rw [sols,runL_one]
  have adv:Adv3 gs.blk b c H H':=adv2_adv3 a3
  refine ⟨H',c',g,?_,adv.pf ho.blk tell.bB hcB hB,adv,a3.own (Ne.symm tell.bd) (Ne.symm hcd) ho,rfl,fun _=>rfl,a2,a4⟩
  have hcg:([.sl 1 gs] ++ caps:List AV).all AV.glob=true:=by rw [List.all_append,tell.gl]; rfl
  simp (disch:=omega) only [impl_solutions_1.f,dt,df,bt,bf,nt,nf,Za,Zy,Zx,Zt,Zf,Zn,Zz,Zi,Zo,wr,AV.toB,AV.toI,AV.toS,if_true,box_sl hbx.bg,box_fn hbx.bt,tell.ok,hcg,a1]
 | succ rem ih=>
  intro k hk H g c st hrem hB hbx hc5 hcd hcB ho hg hle hf hT hfr hc0
  obtain ⟨k,rfl⟩:=Zs k (by omega)
  rw [impl_solutions_1.call]
  have rg:=own_reads ho
  have hgl:=rg.len
  have h16:=gridOk_len hg
  have hat:g.length - (rem + 1) < g.length:=by omega
  rw [sols]
  generalize hA:g.length - (rem + 1)=at' at hat ⊢
  have hnext:IntKind.i64.wrap ((at':Int) + 1)=((g.length - rem:Nat):Int):=by rw [wr (by omega) (by omega)]; omega
  have hfy:=box_fn hbx.bo
  have hcg:∀ z:Int,([.int .i64 z,.ptr gb 0,.ptr tb 0,.ptr yb 0,.ptr nb 0,.ptr pb 0]:List AV).all AV.glob=true:=fun z=>rfl
  by_cases c0:0 < g.getD at' 0
  ·rw [ip c0]
   have h1:=ih k (by omega) H g c st (by omega) hB hbx hc5 hcd hcB ho hg hle hf hT hfr hc0
   rw [← hnext] at h1
   obtain ⟨H',c',g',e1,e2⟩:=h1
   refine ⟨H',c',g',?_,e2⟩
   simp only [impl_solutions_1.f,box_sl hbx.bg,Zo,bf (show (at':Int) ≠ (gs.len:Int) by omega),Zf,Zt,dt (show (0:Int) ≤ (at':Int) by omega),dt (show (at':Int) < (gs.len:Int) by omega),Za,Zn,rdn rg hat,dt (show g.getD at' 0 > 0 from c0),hfy,okSol,hcg,List.cons_append,List.nil_append,e1,AV.toB]
  ·rw [iN c0]
   have hv0:=((gridOk_iff g n).1 hg).2.2 _ (mem_getD hat)
   have h0:g.getD at' 0=0:=by omega
   have loop:∀ (j fuel:Nat) (v x:Int) (Hc:Hp) (cc:Nat) (sc:σ),v + j=n + 1→1 ≤ v→j < fuel→B <+: Hc→Bx Hc gb tb yb nb pb n gs ps ss f caps→Five cc gb tb yb nb pb→cc ≠ gs.blk→B.length ≤ cc→Own 1 B Hc gs ((g.set at' x).map (.int .i64))→T cc (sc,true) Hc→Adv3 gs.blk b c H Hc→(cc=c ∨ H.length ≤ cc) →
     SolTo B b gs T c H g (runL step sc ((upto j v).flatMap fun v=>if fitsV n given (rs.map R.val) (g.set at' v)=true then sols (fitsV n given (rs.map R.val)) n.toNat rem (g.set at' v) else [])) (impl_solutions_1.l0 (callF PP orc k) k fuel at' gb 0 yb 0 nb 0 pb 0 v Hc):=by
    intro j
    induction j with
    | zero=>
     intro fuel v x Hc cc sc hv hv1 hfu hBc hbc hcc5 hccd hccB hoc hTc hadv hcc
     obtain ⟨fuel,rfl⟩:=Zs fuel (by omega)
     obtain ⟨H1,a1,a2,a3,a4⟩:=own_set1 hoc hBc at' (by simpa using hat) 0
     have hgl1:=(own_reads hoc).len
     simp only [List.length_set] at hgl1
     rw [set_set,set_same g at' h0] at a3
     have hld:ldI .i64 Hc nb 0=some n:=by unfold ldI Hp.cell; rw [hbc.bn]; simp [AV.toI]
     have hl1:H1.length=Hc.length:=by
      have:=own_sto hoc hBc at' [.int .i64 0] (by simp; omega)
      obtain ⟨H2,q1,q2,q3,q4,q5⟩:=this
      rw [Nat.mul_one] at a1
      rw [a1] at q1
      simp only [Option.some.injEq] at q1
      rw [q1]; exact q5
     refine ⟨H1,cc,g,?_,a2,hadv.trans (adv_adv3 a4) (.inl rfl),a3,rfl,fun _=>rfl,tell.wr _ _ _ _ hTc a4.but hl1,hcc⟩
     simp only [upto,List.flatMap_nil,runL]
     simp (disch:=omega) only [impl_solutions_1.l0,impl_solutions_1.j2,dt,df,bt,bf,nt,nf,Za,Zy,Zx,Zt,Zf,Zn,Zz,Zi,Zo,wr,AV.toB,AV.toI,AV.toS,if_true,hld,box_sl hbc.bg,a1]
    | succ j ihj=>
     intro fuel v x Hc cc sc hv hv1 hfu hBc hbc hcc5 hccd hccB hoc hTc hadv hcc
     obtain ⟨fuel,rfl⟩:=Zs fuel (by omega)
     have hld:ldI .i64 Hc nb 0=some n:=by unfold ldI Hp.cell; rw [hbc.bn]; simp [AV.toI]
     have hgl1:=(own_reads hoc).len
     simp only [List.length_set] at hgl1
     obtain ⟨H1,a1,a2,a3,a4⟩:=own_set1 hoc hBc at' (by simpa using hat) v
     rw [set_set] at a3
     have hl1:H1.length=Hc.length:=by
      have:=own_sto hoc hBc at' [.int .i64 v] (by simp; omega)
      obtain ⟨H2,q1,q2,q3,q4,q5⟩:=this
      rw [Nat.mul_one] at a1
      rw [a1] at q1
      simp only [Option.some.injEq] at q1
      rw [q1]; exact q5
     have hT1:=tell.wr _ _ _ _ hTc a4.but hl1
     have hb1:=hbc.adv (adv_adv3 (b:=b) (c:=cc) a4) hd5 hb5 hcc5
     have hg1:=grid_set hg at' v ⟨by omega,by omega⟩
     have r1:ldI .i64 H1 pb 0=some n:=by unfold ldI Hp.cell; rw [hb1.bp]; simp [AV.toI]
     have r2:ldS 1 H1 pb (0 + 1)=some ps:=by unfold ldS Hp.cell; rw [hb1.bp]; simp [AV.toS]
     have r3:ldS 3 H1 pb (0 + 1 + 1)=some ss:=by unfold ldS Hp.cell; rw [hb1.bp]; simp [AV.toS]
     obtain ⟨H2,d1,d2⟩:=cellFits_ok (show 2000042 ≤ k by omega) (hzk H1 (fr_step hfr (hadv.trans (adv_adv3 (b:=b) (c:=cc) a4) hcc) hd0 hc0)) hro (own_reads a3) hg1 (at':=at') (by simpa using hat)
     rw [← fits_step hf hg hle hgiv hat h0 ⟨hv1,by omega⟩ hrv] at d1
     have hT2:=tell.pf _ _ _ _ hT1 d2
     have hb2:=hb1.adv (pf_adv3 (d:=gs.blk) (b:=b) (c:=cc) d2) hd5 hb5 hcc5
     have hB2:=a2.trans d2
     have adv2:Adv3 gs.blk b c H H2:=(hadv.trans (adv_adv3 (b:=b) (c:=cc) a4) hcc).trans (pf_adv3 (b:=b) (c:=cc) d2) hcc
     rw [upto,List.flatMap_cons,runL_app]
     cases cf:fitsV n given (rs.map R.val) (g.set at' v) with
     | true=>
      rw [cf] at d1
      rw [ip rfl]
      obtain ⟨H3,c3,g3,e1,e2,e3,e4,e5,e6,e7,e8⟩:=ih k (by omega) H2 (g.set at' v) cc sc (by simp; omega) hB2 hb2 hcc5 hccd hccB (own_pf a3 d2) hg1 (hle.trans (by
       refine ⟨by simp,fun i=>?_⟩
       rw [getD_set]
       by_cases e:at'=i
       ·subst e; exact .inl h0
       ·rw [if_neg (by omega)]; exact .inr rfl)) cf hT2 (fr_step hfr adv2 hd0 hc0) (by have:=hfr.le; omega)
      rw [List.length_set,← hnext] at e1
      have hc3:c3=c ∨ H.length ≤ c3:=by
       have:=adv2.le
       rcases e8 with h | h
       ·rw [h]; exact hcc
       ·right; omega
      have adv3:=adv2.trans e3 hcc
      have hfy2:=box_fn hb2.bo
      cases hr:(runL step sc (sols (fitsV n given (rs.map R.val)) n.toNat rem (g.set at' v))).2 with
      | true=>
       rw [hr] at e1
       rw [ip rfl]
       have hg3:=e6 hr
       subst hg3
       have hc35:Five c3 gb tb yb nb pb:=by
        rcases e8 with h | h
        ·rw [h]; exact hcc5
        ·exact hb2.five h
       have hd3:=own_lt' (own_pf a3 d2)
       have hc3d:c3 ≠ gs.blk:=by rcases e8 with h | h; rw [h]; exact hccd; omega
       have hc3B:B.length ≤ c3:=by have:=hB2.length_le; rcases e8 with h | h; rw [h]; exact hccB; omega
       obtain ⟨H4,c4,g4,f1,f2⟩:=ihj fuel (v + 1) v H3 c3 _ (by omega) (by omega) (by omega) e2 (hb2.adv e3 hd5 hb5 hcc5) hc35 hc3d hc3B e4 (by have e7':=e7; rw [← hr]; exact e7') adv3 hc3
       refine ⟨H4,c4,g4,?_,f2⟩
       simp (disch:=omega) only [impl_solutions_1.l0,impl_solutions_1.j1,impl_solutions_1.j3,dt,Za,Zy,Zt,Zf,Zn,Zo,hld,box_sl hbc.bg,a1,r1,r2,r3,box_sl hb1.bg,d1,AV.toB,hfy2,okSol,hcg,List.cons_append,List.nil_append,e1,wr (n:=v + 1),f1]
      | false=>
       rw [hr] at e1
       rw [iN (by simp)]
       refine ⟨H3,c3,g3,?_,e2,adv3,e4,by simpa using e5,(fun h=>by rw [hr] at h; cases h),e7,hc3⟩
       rw [hr]
       simp (disch:=omega) only [impl_solutions_1.l0,impl_solutions_1.j1,impl_solutions_1.j3,dt,Za,Zx,Zt,Zf,Zn,Zo,hld,box_sl hbc.bg,a1,r1,r2,r3,box_sl hb1.bg,d1,AV.toB,hfy2,okSol,hcg,List.cons_append,List.nil_append,e1]
     | false=>
      rw [cf] at d1
      simp only [Bool.false_eq_true,if_false,runL,if_true]
      obtain ⟨H4,c4,g4,f1,f2⟩:=ihj fuel (v + 1) v H2 cc sc (by omega) (by omega) (by omega) hB2 hb2 hcc5 hccd hccB (own_pf a3 d2) hT2 adv2 hcc
      refine ⟨H4,c4,g4,?_,f2⟩
      simp (disch:=omega) only [impl_solutions_1.l0,impl_solutions_1.j1,impl_solutions_1.j3,dt,Za,Zt,Zf,Zn,Zo,hld,box_sl hbc.bg,a1,r1,r2,r3,box_sl hb1.bg,d1,AV.toB,wr (n:=v + 1),f1]
   have hset:g.set at' 0=g:=set_same g at' h0
   obtain ⟨H4,c4,g4,f1,f2⟩:=loop n.toNat k 1 0 H c st (by omega) (by omega) (by omega) hB hbx hc5 hcd hcB (by rw [hset]; exact ho) hT (Adv3.refl _ _ _ _) (.inl rfl)
   refine ⟨H4,c4,g4,?_,f2⟩
   simp only [impl_solutions_1.f,box_sl hbx.bg,Zo,bf (show (at':Int) ≠ (gs.len:Int) by omega),Zf,Zt,dt (show (0:Int) ≤ (at':Int) by omega),dt (show (at':Int) < (gs.len:Int) by omega),Za,Zn,rdn rg hat,df (show ¬ g.getD at' 0 > 0 from c0),f1]
structure OutD (B:Hp) (b d:Nat) (H:Hp) (s:Sl) (ls:List (List Int)):Prop where
 cell:H[b]?=some (some ⟨false,[.sl 1 s]⟩)
 bB:B.length ≤ b
 bs:s.blk ≠ b
 bd:b ≠ d
 sd:s.blk ≠ d
 ex:∃ ss:List Sl,Own 1 B H s (ss.map (.sl 1))∧ss.length=ls.length∧∀ i,(h:i < ss.length)→(h':i < ls.length)→Own 1 B H ss[i] (ls[i].map (.int .i64))∧ss[i].blk ≠ b∧ss[i].blk ≠ s.blk∧ss[i].blk < H.length∧B.length ≤ ss[i].blk∧ss[i].blk ≠ d
theorem OutD.reads {B H:Hp} {b d:Nat} {s:Sl} {ls:List (List Int)} (h:OutD B b d H s ls):ReadsL B H s ls:=by
 obtain ⟨ss,h1,h2,h3⟩:=h.ex
 have:Outs B b H s ls:=⟨h.cell,h.bB,h.bs,ss,h1,h2,fun i hi hi'=>by
  obtain ⟨a,b,c,d,e,f⟩:=h3 i hi hi'
  exact ⟨a,b,c,d,e⟩⟩
 exact this.reads
theorem OutD.len {B H:Hp} {b d:Nat} {s:Sl} {ls:List (List Int)} (h:OutD B b d H s ls):s.len=ls.length:=h.reads.len
theorem OutD.pf {B H H':Hp} {b d:Nat} {s:Sl} {ls:List (List Int)} (h:OutD B b d H s ls) (g:H <+: H'):OutD B b d H' s ls:=by
 obtain ⟨ss,h1,h2,h3⟩:=h.ex
 exact ⟨pf_get g h.cell,h.bB,h.bs,h.bd,h.sd,ss,own_pf h1 g,h2,fun i hi hi'=>by
  obtain ⟨a,b,c,d,e,f⟩:=h3 i hi hi'
  exact ⟨own_pf a g,b,c,Nat.lt_of_lt_of_le d g.length_le,e,f⟩⟩
theorem OutD.wr {B H H':Hp} {b d:Nat} {s:Sl} {ls:List (List Int)} (h:OutD B b d H s ls) (g:But d H H') (hl:H'.length=H.length):OutD B b d H' s ls:=by
 obtain ⟨ss,h1,h2,h3⟩:=h.ex
 exact ⟨g _ _ h.bd h.cell,h.bB,h.bs,h.bd,h.sd,ss,g.own h.sd h1,h2,fun i hi hi'=>by
  obtain ⟨a,b,c,d,e,f⟩:=h3 i hi hi'
  exact ⟨g.own f a,b,c,by omega,e,f⟩⟩
theorem outD_app {B H:Hp} {b d:Nat} {s:Sl} {ls:List (List Int)} (h:OutD B b d H s ls) (hB:B <+: H) (hl:ls.length ≤ 100000) {t:Sl} {g:List Int} (ht:Own 1 B H t (g.map (.int .i64))) (t1:t.blk ≠ b) (t2:t.blk ≠ s.blk) (t3:t.blk < H.length) (t4:B.length ≤ t.blk) (t5:t.blk ≠ d) (hd:d < H.length) :
  ∃ H1 H2,H.app 1 s 1 [.sl 1 t]=some (Sl.mk false H.length 0 (ls.length + 1),H1)∧H1.sto b 0 [.sl 1 (Sl.mk false H.length 0 (ls.length + 1))]=some H2∧OutD B b d H2 (Sl.mk false H.length 0 (ls.length + 1)) (ls ++ [g])∧Adv2 b s.blk H H2∧B <+: H2:=by
 obtain ⟨ss,h1,h2,h3⟩:=h.ex
 have hsl:=h.len
 obtain ⟨H1,a1,a2,a3,a4,a5⟩:=own_app h1 hB 1 [.sl 1 t] (by omega) (by omega) (by omega) (by omega) rfl
 rw [hsl] at a1 a3
 have hb1:=a4 b _ (Ne.symm h.bs) h.cell
 obtain ⟨H2,c1,c2,c3,c4⟩:=sto1' hb1 (.sl 1 (Sl.mk false H.length 0 (ls.length + 1)))
 have hbl:=(List.getElem?_eq_some_iff.1 h.cell).1
 have adv:Adv2 b s.blk H H2:=⟨fun d x d1 d2 hx=>c3 d x d1 (a4 d x d2 hx),by omega⟩
 refine ⟨H1,H2,a1,c1,⟨c2,h.bB,by simp only; omega,h.bd,by simp only; omega,ss ++ [t],?_,by simp [h2],fun i hi hi'=>?_⟩,adv,adv.pf h.bB h1.blk hB⟩
 ·have:=c3.own (by simp only; omega) a3
  simpa using this
 ·by_cases e:i < ss.length
  ·obtain ⟨q1,q2,q3,q4,q5,q6⟩:=h3 i e (by omega)
   rw [List.getElem_append_left e,List.getElem_append_left (by omega)]
   exact ⟨adv.own q2 q3 q1,q2,by simp only; omega,by omega,q5,q6⟩
  ·have ei:i=ss.length:=by simp at hi; omega
   subst ei
   have e1:(ss ++ [t])[ss.length]=t:=by simp
   have e2:(ls ++ [g])[ss.length]=g:=by simp [h2]
   rw [e1,e2]
   exact ⟨adv.own t1 t2 ht,t1,by simp only; omega,by omega,t4,t5⟩
structure TF (B:Hp) (b mb:Nat) (most:Int) (d c:Nat) (st:List (List Int) × Bool) (H:Hp):Prop where
 ex:∃ s:Sl,s.blk=c∧OutD B b d H s st.1
 m:H[mb]?=some (some ⟨false,[.int .i64 most]⟩)
 m1:mb ≠ b
 m2:mb ≠ c
 m3:mb ≠ d
 hd:d < H.length
 lt:st.2=true→(st.1.length:Int) < most
def stepF (most:Int) (ls:List (List Int)) (x:List Int):List (List Int) × Bool:=(ls ++ [x],decide (((ls.length + 1:Nat):Int) < most))
theorem tell_first {B:Hp} {b d mb:Nat} {most:Int} (hbd:b ≠ d) (hbB:B.length ≤ b) (hm:most ≤ 1000):Tell B impl_firstSolutions_1.id [.ptr b 0,.ptr mb 0] b d (stepF most) (TF B b mb most d) 10:=by
 refine ⟨by kernel_rfl,rfl,hbB,hbd,?_,?_,?_⟩
 ·rintro c st H H' ⟨⟨s,hc,ho⟩,m,m1,m2,m3,hd,hlt⟩ g
  exact ⟨⟨s,hc,ho.pf g⟩,pf_get g m,m1,m2,m3,Nat.lt_of_lt_of_le hd g.length_le,hlt⟩
 ·rintro c st H H' ⟨⟨s,hc,ho⟩,m,m1,m2,m3,hd,hlt⟩ g hl
  exact ⟨⟨s,hc,ho.wr g hl⟩,g _ _ m3 m,m1,m2,m3,by omega,hlt⟩
 ·rintro k hk c st H t g ⟨⟨s,hc,ho⟩,m,m1,m2,m3,hd,hlt⟩ hB hr h16 htd htn hcd hcB
  subst hc
  have hlt':=hlt rfl
  simp only at hlt' ho
  obtain ⟨k,rfl⟩:=Zs k (by omega)
  have hcell:ldS 1 H b 0=some s:=by unfold ldS Hp.cell; rw [ho.cell]; simp [AV.toS]
  have hbl:=(List.getElem?_eq_some_iff.1 ho.cell).1
  have hml:=(List.getElem?_eq_some_iff.1 m).1
  have g1:H <+: H ++ [some (Blk.mk false (g.map (.int .i64)))]:=List.prefix_append _ _
  have hnew:=own_new 1 H (g.map (.int .i64)) g.length (by simp)
  have hst:stableB H (H ++ [some (Blk.mk false (g.map (.int .i64)))]) b 0 1=true:=by
   have e1:H.cell b 0=some (.sl 1 s):=by unfold Hp.cell; rw [ho.cell]; rfl
   have e2:=pf_cell g1 e1
   unfold stableB
   simp [e1,e2,AV.same]
  have hob:s.blk < H.length:=by obtain ⟨ss,h1,_⟩:=ho.ex; exact own_lt' h1
  have hcl:=Clone_own (show 1 ≤ k by omega) hr htn (by omega)
  obtain ⟨H1,H2,a1,a2,a3,a4,a5⟩:=outD_app (ho.pf g1) (hB.trans g1) (by omega) (own_base hnew hB) (by first | omega | (simp only; omega) | (simp; omega)) (by first | omega | (simp only; omega) | (simp; omega)) (by simp) hB.length_le (by first | omega | (simp only; omega) | (simp; omega)) (by simp; omega)
  have adv:Adv2 b s.blk H H2:=(pf_adv2 g1).trans a4 (.inl rfl)
  have hm2:=adv.but _ _ m1 m2 m
  have hl2:ldS 1 H2 b 0=some (Sl.mk false (H ++ [some (Blk.mk false (g.map (.int .i64)))]).length 0 (st.length + 1)):=by unfold ldS Hp.cell; rw [a3.cell]; simp [AV.toS]
  have hm3:ldI .i64 H2 mb 0=some most:=by unfold ldI Hp.cell; rw [hm2]; simp [AV.toI]
  refine ⟨H2,(H ++ [some (Blk.mk false (g.map (.int .i64)))]).length,?_,⟨⟨_,rfl,a3⟩,hm2,m1,(by first | omega | (simp only; omega) | (simp; omega)),m3,by have:=adv.le; omega,?_⟩,adv,.inr (by simp)⟩
  ·show callF PP orc (k + 1) impl_firstSolutions_1.id [.sl 1 t,.ptr b 0,.ptr mb 0] H=some (.bool (decide (((st.length + 1:Nat):Int) < most)),H2)
   rw [impl_firstSolutions_1.call]
   simp (disch:=omega) only [impl_firstSolutions_1.f,dt,df,bt,bf,nt,nf,Za,Zy,Zx,Zt,Zf,Zn,Zz,Zi,Zo,wr,AV.toB,AV.toI,AV.toS,if_true,hcell,hcl,hst,a1,a2,hl2,hm3]
  ·intro h
   have h':decide (((st.length + 1:Nat):Int) < most)=true:=h
   have h2:=of_decide_eq_true h'
   show (((st ++ [g]).length:Nat):Int) < most
   rw [List.length_append]; exact h2
theorem runL_first (most:Nat):∀ (L ls:List (List Int)),ls.length < most→(runL (stepF most) ls L).1=ls ++ L.take (most - ls.length)
 | [],ls,h=>by simp [runL]
 | x :: L,ls,h=>by
  rw [runL]
  have e:most - ls.length=(most - (ls.length + 1)) + 1:=by omega
  by_cases c:((ls.length + 1:Nat):Int) < (most:Int)
  ·rw [if_pos (show (stepF most ls x).2=true from decide_eq_true c)]
   show (runL (stepF most) (ls ++ [x]) L).1=_
   rw [runL_first most L (ls ++ [x]) (by simp; omega),e]
   simp
  ·rw [if_neg (by show ¬ decide (((ls.length + 1:Nat):Int) < (most:Int))=true; simp; omega)]
   show ls ++ [x]=_
   have:most - ls.length=1:=by omega
   rw [this]; simp
theorem sto_end {H:Hp} {x:AV} (v:AV):∃ H',(H ++ [some (Blk.mk false [x])]).sto H.length 0 [v]=some H'∧H <+: H'∧H'[H.length]?=some (some ⟨false,[v]⟩)∧H'.length=H.length + 1:=by
 obtain ⟨H',a,b,c,d⟩:=sto1' (H:=H ++ [some (Blk.mk false [x])]) (b:=H.length) (x:=x) (by simp) v
 exact ⟨H',a,c.pf (H0:=H) (Nat.le_refl _) (List.prefix_append _ _) (by omega),b,by rw [d]; simp⟩
theorem solutions_gen {B H:Hp} (hB:B <+: H) {n:Int} {gs ss:Sl} {given:List Int} {rs:List R} {b c:Nat} (hzk:∀ H',Adv2 b c H H'→PuzAt H' n gs ss given rs) (hnil:gs.nil=false) {σ:Type} {step:σ→List Int→σ × Bool} {T:Nat→Nat→σ × Bool→Hp→Prop} {K:Nat} {f:FuncId} {caps:List AV} (hbl:b < H.length) (hcl:c < H.length) (hcB:B.length ≤ c)
  (tell:∀ d,H.length ≤ d→Tell B f caps b d step (T d) K) (st:σ) (hT:∀ d H1,H.length ≤ d→d < H1.length→H <+: H1→T d c (st,true) H1) {k:Nat} (hk:K + 2000400 ≤ k) :
  ∃ H' c' d,callF PP orc k impl_solutions.id [.agg [.int .i64 n,.sl 1 gs,.sl 3 ss],.sl 1 gs,.fn f caps] H=some (.tup [],H')∧B <+: H'∧Adv2 b c H H'∧T d c' (runL step st (allSols n given (rs.map R.val))) H':=by
 obtain ⟨k,rfl⟩:=Zs k (by omega)
 rw [impl_solutions.call]
 have hz:=hzk H (pf_adv2 (List.prefix_refl _))
 have hgl:=hz.gl
 obtain ⟨Ha,hHa⟩:∃ X,H ++ [some (Blk.mk false [.int .i64 n,.sl 1 gs,.sl 3 ss])]=X:=⟨_,rfl⟩
 obtain ⟨Hb,hHb⟩:∃ X,Ha ++ [some (Blk.mk false [.fn f caps])]=X:=⟨_,rfl⟩
 have la:Ha.length=H.length + 1:=by rw [← hHa]; simp
 have lb:Hb.length=H.length + 2:=by rw [← hHb]; simp; omega
 have pa:H <+: Ha:=by rw [← hHa]; exact List.prefix_append _ _
 have pb:Ha <+: Hb:=by rw [← hHb]; exact List.prefix_append _ _
 have ba:Ha[H.length]?=some (some ⟨false,[.int .i64 n,.sl 1 gs,.sl 3 ss]⟩):=by rw [← hHa]; simp
 have bb:Hb[Ha.length]?=some (some ⟨false,[.fn f caps]⟩):=by rw [← hHb]; simp
 have pBb:=(hB.trans pa).trans pb
 have c1:=Clone_own (show 1 ≤ k by omega) (pf_reads (pa.trans pb) hz.rg) hnil (by omega)
 obtain ⟨Hc,hHc⟩:∃ X,Hb ++ [some (Blk.mk false (given.map (.int .i64)))]=X:=⟨_,rfl⟩
 rw [hHc] at c1
 have lc:Hc.length=H.length + 3:=by rw [← hHc]; simp; omega
 have pc:Hb <+: Hc:=by rw [← hHc]; exact List.prefix_append _ _
 have hown:Own 1 Hb Hc (Sl.mk false Hb.length 0 given.length) (given.map (.int .i64)):=by rw [← hHc]; exact own_new 1 Hb _ _ (by simp)
 obtain ⟨Hd,d1,d2,d3,d4⟩:=sto_end (H:=Hc) (x:=.sl 1 Sl.none) (.sl 1 (Sl.mk false Hb.length 0 given.length))
 have qa:=pf_get ((pb.trans pc).trans d2) ba
 have qb:=pf_get (pc.trans d2) bb
 have pBd:=(pBb.trans pc).trans d2
 have ho:=own_pf hown d2
 have r1:ldI .i64 Hd H.length 0=some n:=by unfold ldI Hp.cell; rw [qa]; simp [AV.toI]
 have r2:ldS 1 Hd H.length (0 + 1)=some gs:=by unfold ldS Hp.cell; rw [qa]; simp [AV.toS]
 have r3:ldS 3 Hd H.length (0 + 1 + 1)=some ss:=by unfold ldS Hp.cell; rw [qa]; simp [AV.toS]
 have r4:=box_sl d3
 obtain ⟨He,e1,e2⟩:=implPuzzleFits_ok (show 2000042 ≤ k by omega) (hz.pf (((pa.trans pb).trans pc).trans d2)) (own_reads ho) hgl
 have pHe:H <+: He:=(((pa.trans pb).trans pc).trans d2).trans e2
 have hle:=e2.length_le
 unfold allSols
 cases cf:puzzleFitsV n given (rs.map R.val) given with
 | false=>
  rw [cf] at e1
  rw [iN (by simp)]
  refine ⟨He,c,Hb.length,?_,pBd.trans e2,pf_adv2 pHe,by rw [runL]; exact hT _ _ (by omega) (by omega) pHe⟩
  simp (disch:=omega) only [impl_solutions.f,dt,df,bt,bf,nt,nf,Za,Zy,Zx,Zt,Zf,Zn,Zz,Zi,Zo,wr,AV.toB,AV.toI,AV.toS,if_true,hHa,hHb,c1,d1,r1,r2,r3,r4,e1]
 | true=>
  rw [cf] at e1
  rw [ip rfl]
  unfold puzzleFitsV at cf
  simp only [Bool.and_eq_true] at cf
  obtain ⟨q1,q2,q3⟩:=puzzleV_iff cf.1
  have h16:=gridOk_len q1
  have ra:=pf_get e2 qa
  have s1:ldI .i64 He H.length (0 + 0)=some n:=by unfold ldI Hp.cell; rw [ra]; simp [AV.toI]
  obtain ⟨Hf,f1,f2,f3,f4⟩:=sto_end (H:=He) (x:=.int .i64 0) (.int .i64 n)
  obtain ⟨Hg,g1,g2,g3,g4⟩:=sto_end (H:=Hf) (x:=.nilf) (.fn impl_solutions_1.id [.ptr Hc.length 0,.ptr Ha.length 0,.ptr Hf.length 0,.ptr He.length 0,.ptr H.length 0])
  have s2:=box_fn g3
  have pBg:=((pBd.trans e2).trans f2).trans g2
  have pHg:=(pHe.trans f2).trans g2
  have hBH:=hB.length_le
  have hog:Own 1 B Hg (Sl.mk false Hb.length 0 given.length) (given.map (.int .i64)):=own_base (own_pf ho ((e2.trans f2).trans g2)) pBb
  have hbx:Bx Hg Hc.length Ha.length Hf.length He.length H.length n (Sl.mk false Hb.length 0 given.length) gs ss f caps:=
   ⟨pf_get ((e2.trans f2).trans g2) d3,pf_get ((e2.trans f2).trans g2) qb,g3,pf_get g2 f3,pf_get (f2.trans g2) ra⟩
  obtain ⟨H',c',g',w1,w2,w3,w4,w5,w6,w7,w8⟩:=Sol_ok (tell Hb.length (by omega)) (gs:=Sl.mk false Hb.length 0 given.length) (H0:=H) (c0:=c) hz.n4 hzk (by simp only; omega) q3 q1 (gb:=Hc.length) (tb:=Ha.length) (yb:=Hf.length) (nb:=He.length) (pb:=H.length) ⟨(by first | omega | (simp only; omega) | (simp; omega)),(by first | omega | (simp only; omega) | (simp; omega)),(by first | omega | (simp only; omega) | (simp; omega)),(by first | omega | (simp only; omega) | (simp; omega)),(by first | omega | (simp only; omega) | (simp; omega))⟩ ⟨(by first | omega | (simp only; omega) | (simp; omega)),(by first | omega | (simp only; omega) | (simp; omega)),(by first | omega | (simp only; omega) | (simp; omega)),(by first | omega | (simp only; omega) | (simp; omega)),(by first | omega | (simp only; omega) | (simp; omega))⟩ given.length k (by omega) Hg given c st (Nat.le_refl _) pBg hbx ⟨(by first | omega | (simp only; omega) | (simp; omega)),(by first | omega | (simp only; omega) | (simp; omega)),(by first | omega | (simp only; omega) | (simp; omega)),(by first | omega | (simp only; omega) | (simp; omega)),(by first | omega | (simp only; omega) | (simp; omega))⟩ (by simp only; omega) hcB hog q1 (Le.refl given) cf.2.2 (hT _ _ (by omega) (by omega) pHg) (pf_adv2 pHg) (.inl rfl)
  rw [Nat.sub_self] at w1
  have w1':callF PP orc k impl_solutions_1.id ([.int .i64 0] ++ [.ptr Hc.length 0,.ptr Ha.length 0,.ptr Hf.length 0,.ptr He.length 0,.ptr H.length 0]) Hg=_:=w1
  refine ⟨H',c',Hb.length,?_,w2,?_,w7⟩
  ·have hcg:([.int .i64 0] ++ [.ptr Hc.length 0,.ptr Ha.length 0,.ptr Hf.length 0,.ptr He.length 0,.ptr H.length 0]:List AV).all AV.glob=true:=rfl
   simp (disch:=omega) only [impl_solutions.f,dt,df,bt,bf,nt,nf,Za,Zy,Zx,Zt,Zf,Zn,Zz,Zi,Zo,wr,AV.toB,AV.toI,AV.toS,if_true,hHa,hHb,c1,d1,r1,r2,r3,r4,e1,s1,f1,g1,s2,okSol,hcg,w1']
  ·refine ⟨fun e x h1 h2 hx=>?_,by have:=w3.le; have:=pHg.length_le; omega⟩
   have hel:=(List.getElem?_eq_some_iff.1 hx).1
   exact w3.but e x (by simp only; omega) h1 h2 (pf_get pHg hx)
theorem solutions_ok {B H:Hp} (hB:B <+: H) {n:Int} {gs ss:Sl} {given:List Int} {rs:List R} (hz:PuzAt B n gs ss given rs) (hnil:gs.nil=false) {σ:Type} {step:σ→List Int→σ × Bool} {T:Nat→Nat→σ × Bool→Hp→Prop} {K b c:Nat} {f:FuncId} {caps:List AV} (hbl:b < H.length) (hcl:c < H.length) (hbB:B.length ≤ b) (hcB:B.length ≤ c)
  (tell:∀ d,H.length ≤ d→Tell B f caps b d step (T d) K) (st:σ) (hT:∀ d H1,H.length ≤ d→d < H1.length→H <+: H1→T d c (st,true) H1) {k:Nat} (hk:K + 2000400 ≤ k) :
  ∃ H' c' d,callF PP orc k impl_solutions.id [.agg [.int .i64 n,.sl 1 gs,.sl 3 ss],.sl 1 gs,.fn f caps] H=some (.tup [],H')∧B <+: H'∧Adv2 b c H H'∧T d c' (runL step st (allSols n given (rs.map R.val))) H':=
 solutions_gen hB (fun H' a=>hz.pf (a.pf hbB hcB hB)) hnil hbl hcl hcB tell st hT hk
theorem firstSolutions_ok {k:Nat} (hk:2000500 ≤ k) {H:Hp} {n:Int} {gs s:Sl} {given:List Int} {rs:List R} (hz:PuzAt H n gs s given rs) (hnil:gs.nil=false) {most:Nat} (h0:1 ≤ most) (hmost:most ≤ 1000) :
  ∃ t H',callF PP orc k impl_firstSolutions.id [.agg [.int .i64 n,.sl 1 gs,.sl 3 s],.sl 1 gs,.int .i64 (most:Int)] H=some (.sl 1 t,H')∧H <+: H'∧ReadsL H H' t ((allSols n given (rs.map R.val)).take most):=by
 obtain ⟨k,rfl⟩:=Zs k (by omega)
 rw [impl_firstSolutions.call]
 obtain ⟨Ha,hHa⟩:∃ X,H ++ [some (Blk.mk false [.int .i64 (most:Int)])]=X:=⟨_,rfl⟩
 obtain ⟨Hb,hHb⟩:∃ X,Ha ++ [some (Blk.mk false ([]:List AV))]=X:=⟨_,rfl⟩
 have la:Ha.length=H.length + 1:=by rw [← hHa]; simp
 have lb:Hb.length=H.length + 2:=by rw [← hHb]; simp; omega
 have pa:H <+: Ha:=by rw [← hHa]; exact List.prefix_append _ _
 have pb:Ha <+: Hb:=by rw [← hHb]; exact List.prefix_append _ _
 have ba:Ha[H.length]?=some (some ⟨false,[.int .i64 (most:Int)]⟩):=by rw [← hHa]; simp
 have bb:Hb[Ha.length]?=some (some ⟨false,[]⟩):=by rw [← hHb]; simp
 obtain ⟨Hc,c1,c2,c3,c4⟩:=sto_end (H:=Hb) (x:=.sl 1 Sl.none) (.sl 1 (Sl.mk false Ha.length 0 0))
 have pHc:=(pa.trans pb).trans c2
 have ho1:∀ d,Hc.length ≤ d→OutD H Hb.length d Hc (Sl.mk false Ha.length 0 0) []:=fun d hd=>
  ⟨c3,by omega,by simp only; omega,by omega,by simp only; omega,[],⟨rfl,rfl,by simp only; omega,pf_get c2 bb,rfl⟩,rfl,fun i hi=>by simp at hi⟩
 obtain ⟨H',c',d,w1,w2,w3,⟨⟨o,w4,w5⟩,w6,w7,w8,w9,w10,w11⟩⟩:=solutions_ok (B:=H) (H:=Hc) pHc hz hnil (b:=Hb.length) (c:=Ha.length) (K:=10) (T:=TF H Hb.length H.length most) (step:=stepF most) (f:=impl_firstSolutions_1.id) (caps:=[.ptr Hb.length 0,.ptr H.length 0]) (by omega) (by omega) (by omega) (by omega)
  (fun d hd=>tell_first (by omega) (by omega) (by omega)) [] (fun d H1 h1 h2 h3=>⟨⟨_,rfl,(ho1 d h1).pf h3⟩,pf_get (((pb.trans c2)).trans h3) ba,by omega,by omega,by omega,h2,fun _=>by simp; omega⟩) (show 10 + 2000400 ≤ k by omega)
 rw [runL_first most _ [] (by simp; omega)] at w5
 simp only [List.nil_append,Zm,Nat.sub_zero] at w5
 have hl:ldS 1 H' Hb.length 0=some o:=box_sl w5.cell
 refine ⟨o,H',?_,w2,w5.reads⟩
 simp (disch:=omega) only [impl_firstSolutions.f,dt,df,bt,bf,nt,nf,Za,Zy,Zx,Zt,Zf,Zn,Zz,Zi,Zo,wr,AV.toB,AV.toI,AV.toS,if_true,hHa,hHb,c1,w1,hl]
def countV (n:Int) (given:List Int) (vs:List V) (m:Int):Int:=if puzzleV n given vs=true∧1 ≤ m∧m ≤ 600 then (((allSols n given vs).take m.toNat).length:Int) else -1
theorem implCount_ok {k:Nat} (hk:2000510 ≤ k) {H:Hp} {n:Int} {gs s:Sl} {given:List Int} {rs:List R} (hz:PuzAt H n gs s given rs) (hnil:gs.nil=false) (m:Int) :
  ∃ H',callF PP orc k impl_CountSolutions.id [.agg [.int .i64 n,.sl 1 gs,.sl 3 s],.int .i64 m] H=some (.int .i64 (countV n given (rs.map R.val) m),H')∧H <+: H':=by
 obtain ⟨k,rfl⟩:=Zs k (by omega)
 rw [impl_CountSolutions.call]
 have h1:=implPuzzleValid_ok (show 2000003 ≤ k by omega) hz.n4 hz.rg hz.gl hz.rr hz.rl hz.rc
 rw [puzzle_map] at h1
 unfold countV
 cases c1:puzzleV n given (rs.map R.val) with
 | false=>
  rw [c1] at h1
  rw [iN (by simp)]
  exact ⟨H,by simp only [impl_CountSolutions.f,impl_CountSolutions.j0,dt,df,bt,bf,nt,nf,Za,Zy,Zx,Zt,Zf,Zn,Zz,Zi,Zo,wr,AV.toB,AV.toI,AV.toS,if_true,h1],(List.prefix_refl _)⟩
 | true=>
  rw [c1] at h1
  by_cases c2:m < 1
  ·rw [iN (by omega)]
   exact ⟨H,by simp (disch:=omega) only [impl_CountSolutions.f,impl_CountSolutions.j0,dt,df,bt,bf,nt,nf,Za,Zy,Zx,Zt,Zf,Zn,Zz,Zi,Zo,wr,AV.toB,AV.toI,AV.toS,if_true,h1],(List.prefix_refl _)⟩
  ·by_cases c3:m > 600
   ·rw [iN (by omega)]
    exact ⟨H,by simp (disch:=omega) only [impl_CountSolutions.f,impl_CountSolutions.j0,dt,df,bt,bf,nt,nf,Za,Zy,Zx,Zt,Zf,Zn,Zz,Zi,Zo,wr,AV.toB,AV.toI,AV.toS,if_true,h1],(List.prefix_refl _)⟩
   ·obtain ⟨q,rfl⟩:∃ q:Nat,m=q:=⟨m.toNat,by omega⟩
    rw [ip ⟨rfl,by omega,by omega⟩]
    obtain ⟨t,H',a1,a2,a3⟩:=firstSolutions_ok (show 2000500 ≤ k by omega) hz hnil (most:=q) (by omega) (by omega)
    have hl:=a3.len
    refine ⟨H',?_,a2⟩
    simp (disch:=omega) only [impl_CountSolutions.f,impl_CountSolutions.j0,impl_CountSolutions.j1,dt,df,bt,bf,nt,nf,Za,Zy,Zx,Zt,Zf,Zn,Zz,Zi,Zo,wr,AV.toB,AV.toI,AV.toS,if_true,h1,a1,hl,Zn]
theorem onlyOne_ok {k:Nat} (hk:2000511 ≤ k) {H:Hp} {n:Int} {gs s:Sl} {given:List Int} {rs:List R} (hz:PuzAt H n gs s given rs) (hnil:gs.nil=false) :
  ∃ H',callF PP orc k impl_onlyOne.id [.agg [.int .i64 n,.sl 1 gs,.sl 3 s]] H=some (.bool (minimalOk n given (rs.map R.val)),H')∧H <+: H':=by
 obtain ⟨k,rfl⟩:=Zs k (by omega)
 rw [impl_onlyOne.call]
 obtain ⟨H1,a1,a2⟩:=implCount_ok (show 2000510 ≤ k by omega) hz hnil 2
 have e:(countV n given (rs.map R.val) 2 == 1)=minimalOk n given (rs.map R.val):=by
  unfold countV minimalOk oneV
  cases c1:puzzleV n given (rs.map R.val) with
  | false=>rfl
  | true=>
   rw [ip ⟨rfl,by omega,by omega⟩,Bool.eq_iff_iff]
   simp; omega
 exact ⟨H1,by simp only [impl_onlyOne.f,dt,df,bt,bf,nt,nf,Za,Zy,Zx,Zt,Zf,Zn,Zz,Zi,Zo,wr,AV.toB,AV.toI,AV.toS,if_true,a1,e],a2⟩
theorem implSolveFirst_ok {k:Nat} (hk:2000510 ≤ k) {H:Hp} {n:Int} {gs s:Sl} {given:List Int} {rs:List R} (hz:PuzAt H n gs s given rs) (hnil:gs.nil=false) :
  ∃ t H',H <+: H'∧((firstV n given (rs.map R.val)=none∧callF PP orc k impl_SolveFirst.id [.agg [.int .i64 n,.sl 1 gs,.sl 3 s]] H=some (.tup [.sl 1 t,.bool false],H')∧Reads .i64 H' t []) ∨
   (∃ x,firstV n given (rs.map R.val)=some x∧callF PP orc k impl_SolveFirst.id [.agg [.int .i64 n,.sl 1 gs,.sl 3 s]] H=some (.tup [.sl 1 t,.bool true],H')∧Reads .i64 H' t x)):=by
 obtain ⟨k,rfl⟩:=Zs k (by omega)
 rw [impl_SolveFirst.call]
 have h1:=implPuzzleValid_ok (show 2000003 ≤ k by omega) hz.n4 hz.rg hz.gl hz.rr hz.rl hz.rc
 rw [puzzle_map] at h1
 cases c1:puzzleV n given (rs.map R.val) with
 | false=>
  rw [c1] at h1
  have e:firstV n given (rs.map R.val)=none:=by
   unfold firstV allSols puzzleFitsV; rw [c1]; rfl
  exact ⟨Sl.none,H,(List.prefix_refl _),.inl ⟨e,by simp only [impl_SolveFirst.f,dt,df,bt,bf,nt,nf,Za,Zy,Zx,Zt,Zf,Zn,Zz,Zi,Zo,wr,AV.toB,AV.toI,AV.toS,if_true,h1],reads_nil rfl⟩⟩
 | true=>
  rw [c1] at h1
  obtain ⟨t,H1,a1,a2,a3⟩:=firstSolutions_ok (show 2000500 ≤ k by omega) hz hnil (most:=1) (by omega) (by omega)
  have a1':callF PP orc k impl_firstSolutions.id [.agg [.int .i64 n,.sl 1 gs,.sl 3 s],.sl 1 gs,.int .i64 1] H=some (.sl 1 t,H1):=a1
  have hl:=a3.len
  unfold firstV
  generalize allSols n given (rs.map R.val)=L at *
  cases L with
  | nil=>
   simp at hl
   refine ⟨Sl.none,H1,a2,.inl ⟨rfl,?_,reads_nil rfl⟩⟩
   simp (disch:=omega) only [impl_SolveFirst.f,dt,df,bt,bf,nt,nf,Za,Zy,Zx,Zt,Zf,Zn,Zz,Zi,Zo,wr,AV.toB,AV.toI,AV.toS,if_true,h1,a1']
  | cons x L=>
   simp at hl
   obtain ⟨u,b1,b2⟩:=readsL0 a3 (by simp)
   refine ⟨u,H1,a2,.inr ⟨x,rfl,?_,own_reads b2⟩⟩
   simp (disch:=omega) only [impl_SolveFirst.f,dt,df,bt,bf,nt,nf,Za,Zy,Zx,Zt,Zf,Zn,Zz,Zi,Zo,wr,AV.toB,AV.toI,AV.toS,if_true,h1,a1',b1]
structure WN (H0 H:Hp) (s:Sl) (qs:List R):Prop where
 sh:(qs=[]∧s=Sl.none) ∨ Own 3 H0 H s (qs.flatMap R.av)
 rd:∀ q ∈ qs,Reads .i64 H q.sl q.cells
 cb:∀ q ∈ qs,q.cells ≠ []→H0.length ≤ q.sl.blk∧q.sl.blk < H.length∧q.sl.blk ≠ s.blk
 cn:∀ q ∈ qs,q.sl.nil=false ∨ q.cells=[]
theorem reads_or {H H':Hp} {s:Sl} {l:List Int} {b:Nat} (h:Reads .i64 H s l) (g:But b H H') (hb:l ≠ []→s.blk ≠ b):Reads .i64 H' s l:=by
 cases l with
 | nil=>exact reads_nil h.len
 | cons x l=>exact g.reads (hb (by simp)) h
theorem WN.pf {H0 H H':Hp} {s:Sl} {qs:List R} (h:WN H0 H s qs) (g:H <+: H'):WN H0 H' s qs:=
 ⟨h.sh.imp id fun ho=>own_pf ho g,fun q hq=>pf_reads g (h.rd q hq),fun q hq hc=>by
  obtain ⟨a,b,c⟩:=h.cb q hq hc
  exact ⟨a,Nat.lt_of_lt_of_le b g.length_le,c⟩,h.cn⟩
theorem WN.reads {H0 H:Hp} {s:Sl} {qs:List R} (h:WN H0 H s qs):ReadsR H s qs:=by
 rcases h.sh with ⟨e1,e2⟩ | ho
 ·subst e1 e2
  exact ⟨rfl,fun i hi=>absurd hi (Nat.not_lt_zero _),fun i hi=>absurd hi (Nat.not_lt_zero _),fun i hi=>absurd hi (Nat.not_lt_zero _),fun i hi=>absurd hi (Nat.not_lt_zero _)⟩
 ·exact own_readsR ho fun i hi=>h.rd _ (List.getElem_mem hi)
theorem WN.wr {H0 H H':Hp} {s:Sl} {qs:List R} {b:Nat} (h:WN H0 H s qs) (g:But b H H') (hl:H'.length=H.length) (hb:b < H0.length):WN H0 H' s qs:=
 ⟨h.sh.imp id fun ho=>g.own (by have:=ho.blk; omega) ho,fun q hq=>reads_or (h.rd q hq) g fun hc=>by have:=(h.cb q hq hc).1; omega,fun q hq hc=>by
  obtain ⟨a,b,c⟩:=h.cb q hq hc
  exact ⟨a,by omega,c⟩,h.cn⟩
theorem wn_app {H0 H:Hp} {s:Sl} {qs:List R} (h:WN H0 H s qs) (g:H0 <+: H) (hl:qs.length ≤ 1000000) (r:R) (hr:Reads .i64 H r.sl r.cells) (hb:r.cells ≠ []→H0.length ≤ r.sl.blk∧r.sl.blk < H.length∧(qs ≠ []→r.sl.blk ≠ s.blk)) (hn:r.sl.nil=false ∨ r.cells=[]) :
  ∃ t' H',H.app 3 s 1 r.av=some (t',H')∧H0 <+: H'∧WN H0 H' t' (qs ++ [r]):=by
 have hlow:=g.length_le
 rcases h.sh with ⟨e1,e2⟩ | ho
 ·subst e1 e2
  refine ⟨Sl.mk false H.length 0 1,H ++ [some ⟨false,r.av⟩],?_,g.trans (List.prefix_append _ _),.inr ?_,?_,?_,?_⟩
  ·unfold Hp.app
   rw [if_pos (by refine ⟨?_,?_,?_,?_⟩ <;> simp [Sl.none,R.av]),if_neg (by omega),if_pos (show Sl.none.nil=true from rfl)]
  ·refine ⟨rfl,rfl,hlow,by simp,?_⟩
   simp [R.av]
  ·intro q hq
   simp at hq; subst hq
   exact pf_reads (List.prefix_append _ _) hr
  ·intro q hq hc
   simp at hq; subst hq
   obtain ⟨a,b,_⟩:=hb hc
   exact ⟨a,by simp; omega,by simp only; omega⟩
  ·intro q hq
   simp at hq; subst hq
   exact hn
 ·have hlen:=own_len3 ho
  obtain ⟨H',a1,a2,a3,a4,a5⟩:=own_app ho g 1 r.av (by omega) (by omega) (by omega) (by omega) rfl
  refine ⟨_,H',a1,a2,.inr (by simpa using a3),?_,?_,?_⟩
  ·intro q hq
   rcases List.mem_append.1 hq with hq | hq
   ·exact reads_or (h.rd q hq) a4 fun hc=>(h.cb q hq hc).2.2
   ·simp at hq; subst hq
    by_cases e:qs=[]
    ·subst e
     have hb0:s.len=0:=hlen
     by_cases e2:q.sl.blk=s.blk
     ·cases hc:q.cells with
      | nil=>rw [hc] at hr; exact reads_nil hr.len
      | cons x l=>
       exfalso
       have:=hr.cell 0 (by rw [hc]; simp)
       unfold Hp.cell at this
       rw [e2,ho.get] at this
       simp at this
     ·exact a4.reads e2 hr
    ·exact reads_or hr a4 fun hc=>(hb hc).2.2 e
  ·intro q hq hc
   rcases List.mem_append.1 hq with hq | hq
   ·obtain ⟨a,b,c⟩:=h.cb q hq hc
    exact ⟨a,by omega,by simp only; omega⟩
   ·simp at hq; subst hq
    obtain ⟨a,b,_⟩:=hb hc
    exact ⟨a,by omega,by simp only; omega⟩
  ·intro q hq
   rcases List.mem_append.1 hq with hq | hq
   ·exact h.cn q hq
   ·simp at hq; subst hq; exact hn
theorem Clone_any {k:Nat} (hk:1 ≤ k) {H:Hp} {s:Sl} {l:List Int} (hs:Reads .i64 H s l) (hn:s.nil=false ∨ l=[]) (hl:l.length ≤ 1000) :
  ∃ t H',callF PP orc k slices_Clone_int.id [.sl 1 s] H=some (.sl 1 t,H')∧H <+: H'∧Reads .i64 H' t l∧(l ≠ []→t.blk=H.length∧H.length < H'.length)∧(t.nil=false ∨ l=[]):=by
 cases c:s.nil with
 | false=>
  exact ⟨_,_,Clone_own hk hs c hl,List.prefix_append _ _,own_reads (own_new 1 H _ _ (by simp)),fun _=>⟨rfl,by simp⟩,.inl rfl⟩
 | true=>
  have e:l=[]:=by rcases hn with h | h; rw [c] at h; cases h; exact h
  subst e
  refine ⟨Sl.none,H,?_,(List.prefix_refl _),reads_nil rfl,fun h=>absurd rfl h,.inr rfl⟩
  obtain ⟨k,rfl⟩:=Zs k (by omega)
  rw [slices_Clone_int.call]
  simp only [slices_Clone_int.f,c,Zt]
theorem copy_l0 {k:Nat} (hk:1 ≤ k) {H0:Hp} {s:Sl} {rs:List R} (hs:ReadsR H0 s rs) (hl:rs.length ≤ 1000) (hc:∀ r ∈ rs,r.cells.length ≤ 1000) (hcn:∀ r ∈ rs,r.sl.nil=false ∨ r.cells=[]) {n y0:Int} {y1 y2 gt:Sl} :
  ∀ (j i fuel:Nat) (H:Hp) (out:Sl) (qs:List R),i + j=rs.length→j < fuel→H0 <+: H→WN H0 H out qs→qs.map R.val=(rs.take i).map R.val →
   ∃ out' qs' H',impl_copyPuzzle.l0 (callF PP orc k) k fuel s (rs.length:Int) i y0 y1 y2 n gt out H=some (.agg [.int .i64 n,.sl 1 gt,.sl 3 out'],H')∧H0 <+: H'∧WN H0 H' out' qs'∧qs'.map R.val=rs.map R.val:=by
 have hsl:=hs.len
 intro j
 induction j with
 | zero=>
  intro i fuel H out qs hi hf hp ho hv
  obtain ⟨fuel,rfl⟩:=Zs fuel (by omega)
  refine ⟨out,qs,H,?_,hp,ho,by rw [hv,List.take_of_length_le (by omega)]⟩
  simp (disch:=omega) only [impl_copyPuzzle.l0,impl_copyPuzzle.j1,dt,df,bt,bf,nt,nf,Za,Zy,Zx,Zt,Zf,Zn,Zz,Zi,Zo,wr,AV.toB,AV.toI,AV.toS,if_true]
 | succ j ih=>
  intro i fuel H out qs hi hf hp ho hv
  obtain ⟨fuel,rfl⟩:=Zs fuel (by omega)
  have h2:i < rs.length:=by omega
  obtain ⟨l0,l1,l2⟩:=rules_at1 (pf_readsR hp hs) i h2
  have hmem:=List.getElem_mem h2
  have hql:qs.length=i:=by have:=congrArg List.length hv; simp at this; omega
  obtain ⟨t,H1,a1,a2,a3,a4,a5⟩:=Clone_any hk ((pf_readsR hp hs).cs i h2) (hcn _ hmem) (hc _ hmem)
  have hle:=hp.length_le
  have hout:qs ≠ []→out.blk < H.length:=fun hq=>by
   rcases ho.sh with ⟨e,_⟩ | h
   ·exact absurd e hq
   ·exact own_lt h
  obtain ⟨out1,H2,b1,b2,b3⟩:=wn_app (ho.pf a2) (hp.trans a2) (by omega) { kind:=rs[i].kind,sl:=t,cells:=rs[i].cells,value:=rs[i].value } a3 (fun hcc=>by
   obtain ⟨q1,q2⟩:=a4 hcc
   exact ⟨by simp only; omega,by simp only; omega,fun hq=>by have:=hout hq; simp only; omega⟩) a5
  obtain ⟨out',qs',H',d1,d2,d3,d4⟩:=ih (i + 1) fuel H2 out1 _ (by omega) (by omega) b2 b3 (by
   rw [List.take_succ_eq_append_getElem h2,List.map_append,List.map_append,hv]; rfl)
  push_cast at d1
  refine ⟨out',qs',H',?_,d2,d3,d4⟩
  simp only [R.av] at b1
  simp (disch:=omega) only [impl_copyPuzzle.l0,dt,df,bt,bf,nt,nf,Za,Zy,Zx,Zt,Zf,Zn,Zz,Zi,Zo,wr,AV.toB,AV.toI,AV.toS,if_true,l0,l1,l2,a1,b1,d1]
theorem copyPuzzle_ok {k:Nat} (hk:2000002 ≤ k) {H:Hp} {n:Int} {gs s:Sl} {given:List Int} {rs:List R} (hz:PuzAt H n gs s given rs) (hnil:gs.nil=false) (hcn:∀ r ∈ rs,r.sl.nil=false ∨ r.cells=[]) :
  ∃ st qs H',callF PP orc k impl_copyPuzzle.id [.agg [.int .i64 n,.sl 1 gs,.sl 3 s]] H=some (.agg [.int .i64 n,.sl 1 (Sl.mk false H.length 0 given.length),.sl 3 st],H')∧H <+: H'∧Own 1 H H' (Sl.mk false H.length 0 given.length) (given.map (.int .i64))∧WN (H ++ [some (Blk.mk false (given.map (.int .i64)))]) H' st qs∧qs.map R.val=rs.map R.val:=by
 obtain ⟨k,rfl⟩:=Zs k (by omega)
 rw [impl_copyPuzzle.call]
 have hgl:=hz.gl
 have c1:=Clone_own (show 1 ≤ k by omega) hz.rg hnil (by omega)
 have g1:H <+: H ++ [some (Blk.mk false (given.map (.int .i64)))]:=List.prefix_append _ _
 have hnew:=own_new 1 H (given.map (.int .i64)) given.length (by simp)
 have hsl:=hz.rr.len
 have hzl:=hz.rl
 obtain ⟨st,qs,H',a1,a2,a3,a4⟩:=copy_l0 (show 1 ≤ k by omega) (pf_readsR g1 hz.rr) hz.rl hz.rc hcn (n:=n) (y0:=0) (y1:=Sl.none) (y2:=Sl.none) (gt:=Sl.mk false H.length 0 given.length) rs.length 0 k (H ++ [some (Blk.mk false (given.map (.int .i64)))]) Sl.none [] (by omega) (by omega) (List.prefix_refl _) ⟨.inl ⟨rfl,rfl⟩,(fun q hq=>by cases hq),(fun q hq=>by cases hq),(fun q hq=>by cases hq)⟩ (by simp)
 refine ⟨st,qs,H',?_,g1.trans a2,own_pf hnew a2,a3,a4⟩
 have a1':=a1
 simp only [Int.natCast_zero] at a1'
 simp only [impl_copyPuzzle.f,dt,df,bt,bf,nt,nf,Za,Zy,Zx,Zt,Zf,Zn,Zz,Zi,Zo,wr,AV.toB,AV.toI,AV.toS,if_true,c1,hsl,a1']
def clear (cs:List Int) (g:List Int):List Int:=cs.foldl (fun g c=>g.set c.toNat 0) g
theorem openOf_lenF (n:Int) (g:List Int):(openOf n g).length=g.length:=by simp [openOf]
theorem fullF_at {n:Int} {g:List Int} (hf:full g) {i:Nat} (hi:i < g.length):(openOf n g).getD i 0=pw (g.getD i 0):=by
 rw [openOf_at hi,if_pos (hf i hi)]
theorem singles_full {n:Int} {g:List Int} (hg:gridOk g n=true) (hf:full g) (hc:clash g n=false):singlesV n (openOf n g)=openOf n g:=by
 have hok:=openOf_ok hg
 obtain ⟨hn,h2,h3⟩:=(gridOk_iff g n).1 hg
 have hNN:g.length=n.toNat * n.toNat:=by
  have:=masks_len hok
  rw [openOf_lenF] at this; exact this.2.2.1
 unfold singlesV
 rw [if_pos hok]
 refine (((Sub.refl (masks_M hok)).congr fun j v hj=>(show False ↔ False from Iff.rfl)).unique ?_).symm
 refine ⟨(subAll_ok (masks_M hok) _).len,(subAll_ok (masks_M hok) _).ms,fun j v hj=>?_⟩
 rw [(subAll_ok (masks_M hok) (PS n.toNat (openOf n g))).has j v hj]
 have hjg:j < g.length:=by rw [← openOf_lenF n g]; exact hj
 constructor
 ·intro h; exact ⟨h.1,fun h=>h⟩
 ·rintro ⟨h,_⟩
  refine ⟨h,?_⟩
  rintro ⟨q,hq,hp,hs,hh⟩
  have hqg:q < g.length:=by rw [← openOf_lenF n g]; exact hq
  have vj:=h3 _ (mem_getD hjg)
  have vq:=h3 _ (mem_getD hqg)
  rw [fullF_at hf hjg,has_pw (by omega),decide_eq_true_eq] at h
  rw [fullF_at hf hqg,has_pw (by omega),decide_eq_true_eq] at hh
  have:=(clash_iff hn g).2 ⟨j,q,by omega,by omega,hp.1,hp.2,hf j hjg,by omega⟩
  rw [this] at hc; cases hc
theorem gridM_full {n:Int} {g:List Int} (hg:gridOk g n=true) (hf:full g):gridM n (openOf n g)=g:=by
 have hok:=openOf_ok hg
 obtain ⟨hn,h2,h3⟩:=(gridOk_iff g n).1 hg
 refine ext_getD (by rw [(gridM_ok hok).2,openOf_lenF]) fun i hi=>?_
 rw [(gridM_ok hok).2,openOf_lenF] at hi
 have hv:=h3 _ (mem_getD hi)
 have hp:=hf i hi
 rw [gridM_at hok (by rw [openOf_lenF]; exact hi),fullF_at hf hi]
 unfold oneOf
 rw [(tab_open n hn).1 _ ⟨by omega,by omega⟩]
 rfl
theorem dmF {n:Int} {l:List Int} (h:masksOk n l=true):l.length ≤ 16∧0 < l.length∧∀ m ∈ l,-2 ≤ m∧m ≤ 63:=by
 have hl:=masks_len h
 refine ⟨hl.2.1,by omega,fun m hm=>?_⟩
 have h1:=(maskOk_iff.1 ((masksOk_iff.1 h).2.1 m hm)).1
 have:=topMask_le n; omega
theorem By1_ok {k:Nat} (hk:2000060 ≤ k) {H:Hp} {n:Int} {gs s us:Sl} {given a:List Int} {rs:List R} (hz:PuzAt H n gs s given rs) (hp:puzzleV n given (rs.map R.val)=true) (hu:Reads .i64 H us a) (hun:us.nil=false) (ha:masksOk n a=true) :
  ∃ v H',callF PP orc k impl_NarrowBy.id [.agg [.int .i64 n,.sl 1 gs,.sl 3 s],.sl 1 us,.int .i64 1] H=some (.sl 1 v,H')∧H <+: H'∧NilOr H H' v (singlesV n a):=by
 obtain ⟨k,rfl⟩:=Zs k (by omega)
 rw [impl_NarrowBy.call]
 have hn:=hz.n4
 obtain ⟨q1,q2,q3⟩:=dmF ha
 have h1:=implPuzzleValid_ok (show 2000003 ≤ k by omega) hz.n4 hz.rg hz.gl hz.rr hz.rl hz.rc
 rw [puzzle_map,hp] at h1
 obtain ⟨v,H',a1,a2,a3⟩:=implNarrowSingles_ok (show 2000010 ≤ k by omega) (n:=n) (by omega) hu hun (by omega) q3
 refine ⟨v,H',?_,a2,a3⟩
 simp only [impl_NarrowBy.f,h1,a1,Zo,AV.toB,AV.toS,if_true,Zy,Zf,Zt,bt (show (1:Int)=1 from rfl)]
theorem Round1_ok {k:Nat} (hk:2000065 ≤ k) {H:Hp} {n:Int} {gs s us:Sl} {given:List Int} {rs:List R} (hz:PuzAt H n gs s given rs) (hp:puzzleV n given (rs.map R.val)=true) (hf:full given) (hc:clash given n=false) (hu:Reads .i64 H us (openOf n given)) (hun:us.nil=false) :
  ∃ H',callF PP orc k impl_nextRound.id [.agg [.int .i64 n,.sl 1 gs,.sl 3 s],.sl 1 us,.int .i64 1] H=some (.tup [.sl 1 Sl.none,.int .i64 0],H')∧H <+: H':=by
 have hg:=(puzzleV_grid hp).1
 have hok:=openOf_ok hg
 obtain ⟨q1,q2,q3⟩:=dmF hok
 obtain ⟨k,rfl⟩:=Zs k (by omega)
 rw [impl_nextRound.call]
 obtain ⟨v,H1,a1,a2,a3⟩:=By1_ok (show 2000060 ≤ k by omega) hz hp hu hun hok
 rw [singles_full hg hf hc] at a3
 have h2:=Equal_ok (show 2000000 ≤ k by omega) a3.reads (pf_reads a2 hu) (by omega) (by omega)
 rw [decide_eq_true rfl] at h2
 obtain ⟨k',hk'⟩:∃ q,k=q + 2:=⟨k - 2,by omega⟩
 refine ⟨H1,?_,a2⟩
 unfold impl_nextRound.f
 generalize callF PP orc k=rc at *
 rw [hk']
 simp (disch:=omega) only [impl_nextRound.l0,impl_nextRound.j1,dt,df,Zt,Zf,a1,h2,Zo,AV.toS,AV.toB,if_true,Zy,wr (n:=(1:Int) + 1)]
theorem All1_ok {k:Nat} (hk:2000070 ≤ k) {H:Hp} {n:Int} {gs s ms:Sl} {given:List Int} {rs:List R} (hz:PuzAt H n gs s given rs) (hp:puzzleV n given (rs.map R.val)=true) (hf:full given) (hc:clash given n=false) (hm:Reads .i64 H ms (openOf n given)) (hnn:ms.nil=false) :
  ∃ u H',callF PP orc k impl_NarrowAll.id [.agg [.int .i64 n,.sl 1 gs,.sl 3 s],.sl 1 ms,.int .i64 1] H=some (.tup [.sl 1 u,.int .i64 0],H')∧H <+: H'∧Own 1 H H' u ((openOf n given).map (.int .i64)):=by
 have hg:=(puzzleV_grid hp).1
 have hok:=openOf_ok hg
 obtain ⟨q1,q2,q3⟩:=dmF hok
 have hn:=hz.n4
 obtain ⟨k,rfl⟩:=Zs k (by omega)
 rw [impl_NarrowAll.call]
 have h1:=implPuzzleValid_ok (show 2000003 ≤ k by omega) hz.n4 hz.rg hz.gl hz.rr hz.rl hz.rc
 rw [puzzle_map,hp] at h1
 have h2:=implMasksValid_ok (show 2000000 ≤ k by omega) (n:=n) (by omega) hm (by omega) q3
 rw [hok] at h2
 have h4:=Clone_own (show 1 ≤ k by omega) hm hnn (by omega)
 have p1:H <+: H ++ [some (Blk.mk false ((openOf n given).map (.int .i64)))]:=(List.prefix_append _ _)
 have hnew:=own_new 1 H ((openOf n given).map (.int .i64)) (openOf n given).length (by simp)
 obtain ⟨H',b1,b2⟩:=Round1_ok (show 2000065 ≤ k by omega) (hz.pf p1) hp hf hc (own_reads hnew) rfl
 refine ⟨_,H',?_,p1.trans b2,own_pf hnew b2⟩
 obtain ⟨k',hk'⟩:∃ q,k=q + 1:=⟨k - 1,by omega⟩
 simp (disch:=omega) only [impl_NarrowAll.f,impl_NarrowAll.j0,impl_NarrowAll.j1,df,Zf,Zy,Zo,AV.toB,AV.toS,if_true,h1,h2,h4]
 generalize callF PP orc k=rc at *
 rw [hk']
 simp only [impl_NarrowAll.l2,b1,Zo,AV.isTup,AV.nth,AV.toI,AV.toS,Zl,Zm,Zc,Zd,if_true,beq_self_eq_true,Zt]
theorem fullGrade_ok {k:Nat} (hk:2000520 ≤ k) {H:Hp} {n:Int} {gs s:Sl} {given:List Int} {rs:List R} (hz:PuzAt H n gs s given rs) (hnil:gs.nil=false) (hp:puzzleV n given (rs.map R.val)=true) (ho:oneV n given (rs.map R.val)=true) (hf:full given) (hc:clash given n=false) :
  ∃ H',callF PP orc k impl_GradePuzzle.id [.agg [.int .i64 n,.sl 1 gs,.sl 3 s]] H=some (.int .i64 1,H')∧H <+: H':=by
 have hg:=(puzzleV_grid hp).1
 have hok:=openOf_ok hg
 obtain ⟨q1,q2,q3⟩:=dmF hok
 have hn:=hz.n4
 obtain ⟨k,rfl⟩:=Zs k (by omega)
 rw [impl_GradePuzzle.call]
 have h1:=implPuzzleValid_ok (show 2000003 ≤ k by omega) hz.n4 hz.rg hz.gl hz.rr hz.rl hz.rc
 rw [puzzle_map,hp] at h1
 obtain ⟨H1,a1,a2⟩:=onlyOne_ok (show 2000511 ≤ k by omega) hz hnil
 have em:minimalOk n given (rs.map R.val)=true:=by unfold minimalOk; rw [hp,ho]; rfl
 rw [em] at a1
 obtain ⟨u,H2,b1,b2,b3⟩:=implStartMasks_ok (show 2000010 ≤ k by omega) (hz.pf a2)
 have es:startV n given (rs.map R.val)=openOf n given:=by unfold startV; rw [if_pos hp]
 rw [es] at b3
 have hou:Own 1 H1 H2 u ((openOf n given).map (.int .i64)):=by
  rcases b3 with ⟨_,h⟩ | h
  ·rw [h] at q2; simp at q2
  ·exact h
 obtain ⟨v,H3,c1,c2,c3⟩:=All1_ok (show 2000070 ≤ k by omega) (hz.pf (a2.trans b2)) hp hf hc (own_reads hou) hou.nn
 obtain ⟨w,H4,d1,d2,d3⟩:=implMasksGrid_ok (show 2000010 ≤ k by omega) (n:=n) (by omega) (own_reads c3) (by omega) q3
 rw [gridM_full hg hf] at d3
 have hgl:=gridOk_len hg
 have h4:=implGridFilled_ok (show 2000001 ≤ k by omega) d3.reads (by omega) n
 rw [ip hg,filled_eq.2 hf] at h4
 have hvl:=(own_reads c3).len
 rw [openOf_lenF] at hvl
 refine ⟨H4,?_,(a2.trans b2).trans (c2.trans d2)⟩
 obtain ⟨k',hk'⟩:∃ q,k=q + 1:=⟨k - 1,by omega⟩
 unfold impl_GradePuzzle.f
 rw [h1]
 simp only [Zo,AV.toB,Zy,Zf]
 rw [a1]
 simp only [Zo,AV.toB,Zy,Zf]
 generalize callF PP orc k=rc at *
 rw [hk']
 simp (disch:=omega) only [impl_GradePuzzle.l0,dt,Zt,b1,c1,d1,h4,Zo,AV.isTup,AV.nth,AV.toI,AV.toS,Zl,Zm,Zc,Zd,if_true,decide_true,beq_self_eq_true,hvl,bt]
theorem sameInts_l0 (rec:Rec) (k:Nat) {H:Hp} {s t:Sl} {x y:List Int} (hs:Reads .i64 H s x) (ht:Reads .i64 H t y) (hl:x.length=y.length) (h1:x.length ≤ 1000) :
  ∀ (j i fuel:Nat),i + j=x.length→j < fuel→laws_sameInts.l0 rec k fuel s t i H=some (.bool (decide (x.drop i=y.drop i)),H):=by
 have hsl:=hs.len
 have htl:=ht.len
 intro j
 induction j with
 | zero=>
  intro i fuel hi hf
  obtain ⟨fuel,rfl⟩:=Zs fuel (by omega)
  rw [List.drop_eq_nil_of_le (show x.length ≤ i by omega),List.drop_eq_nil_of_le (show y.length ≤ i by omega)]
  simp (disch:=omega) only [laws_sameInts.l0,dt,df,bt,bf,nt,nf,Za,Zy,Zx,Zt,Zf,Zn,Zz,Zi,Zo,wr,AV.toB,AV.toI,AV.toS,if_true]
  rfl
 | succ j ih=>
  intro i fuel hi hf
  obtain ⟨fuel,rfl⟩:=Zs fuel (by omega)
  have hx:i < x.length:=by omega
  have hy:i < y.length:=by omega
  have ex:x.drop i=x.getD i 0 :: x.drop (i + 1):=by
   rw [List.drop_eq_getElem_cons hx,List.getD_eq_getElem?_getD,List.getElem?_eq_getElem hx]; rfl
  have ey:y.drop i=y.getD i 0 :: y.drop (i + 1):=by
   rw [List.drop_eq_getElem_cons hy,List.getD_eq_getElem?_getD,List.getElem?_eq_getElem hy]; rfl
  rw [ex,ey]
  by_cases c:x.getD i 0=y.getD i 0
  ·have d1:=ih (i + 1) fuel (by omega) (by omega)
   push_cast at d1
   rw [show decide (x.getD i 0 :: x.drop (i + 1)=y.getD i 0 :: y.drop (i + 1))=decide (x.drop (i + 1)=y.drop (i + 1)) by rw [c]; simp,← d1]
   simp (disch:=omega) only [laws_sameInts.l0,dt,df,bt,bf,nt,nf,Za,Zy,Zx,Zt,Zf,Zn,Zz,Zi,Zo,wr,AV.toB,AV.toI,AV.toS,if_true,rdn hs,rdn ht,nf]
  ·rw [show decide (x.getD i 0 :: x.drop (i + 1)=y.getD i 0 :: y.drop (i + 1))=false from decide_eq_false fun h=>c (List.cons.inj h).1]
   simp (disch:=omega) only [laws_sameInts.l0,dt,df,bt,bf,nt,nf,Za,Zy,Zx,Zt,Zf,Zn,Zz,Zi,Zo,wr,AV.toB,AV.toI,AV.toS,if_true,rdn hs,rdn ht,nt]
theorem sameInts_ok {k:Nat} (hk:2000000 ≤ k) {H:Hp} {s t:Sl} {x y:List Int} (hs:Reads .i64 H s x) (ht:Reads .i64 H t y) (h1:x.length ≤ 1000) (h2:y.length ≤ 1000) :
  callF PP orc k laws_sameInts.id [.sl 1 s,.sl 1 t] H=some (.bool (decide (x=y)),H):=by
 obtain ⟨k,rfl⟩:=Zs k (by omega)
 rw [laws_sameInts.call]
 have hsl:=hs.len
 have htl:=ht.len
 by_cases c:x.length=y.length
 ·have d1:=sameInts_l0 (callF PP orc k) k hs ht c h1 x.length 0 k (by omega) (by omega)
  simp only [Int.natCast_zero,List.drop_zero] at d1
  rw [← d1]
  simp (disch:=omega) only [laws_sameInts.f,dt,df,bt,bf,nt,nf,Za,Zy,Zx,Zt,Zf,Zn,Zz,Zi,Zo,wr,AV.toB,AV.toI,AV.toS,if_true]
 ·rw [decide_eq_false (fun h=>c (congrArg List.length h))]
  simp (disch:=omega) only [laws_sameInts.f,dt,df,bt,bf,nt,nf,Za,Zy,Zx,Zt,Zf,Zn,Zz,Zi,Zo,wr,AV.toB,AV.toI,AV.toS,if_true]
theorem same_ok {k:Nat} (hk:2000000 ≤ k) {H:Hp} {s t:Sl} {x:List Int} (hs:Reads .i64 H s x) (ht:Reads .i64 H t x) (h1:x.length ≤ 1000) :
  callF PP orc k laws_sameInts.id [.sl 1 s,.sl 1 t] H=some (.bool true,H):=by
 rw [sameInts_ok hk hs ht h1 h1,decide_eq_true rfl]
theorem val_at {rs qs:List R} (h:qs.map R.val=rs.map R.val) (i:Nat) (h1:i < rs.length) (h2:i < qs.length):qs[i].kind=rs[i].kind∧qs[i].cells=rs[i].cells∧qs[i].value=rs[i].value:=by
 have e:(qs.map R.val)[i]'(by simpa using h2)=(rs.map R.val)[i]'(by simpa using h1):=by simp only [h]
 simp only [List.getElem_map] at e
 exact ⟨congrArg (·.1) e,congrArg (·.2.1) e,congrArg (·.2.2) e⟩
theorem samePuzzle_l2 {k:Nat} (hk:2000000 ≤ k) {H:Hp} {a0 b0:Int} {a1 b1 s t:Sl} {rs qs:List R} (hs:ReadsR H s rs) (ht:ReadsR H t qs) (hv:qs.map R.val=rs.map R.val) (hl:rs.length ≤ 1000) (hc:∀ r ∈ rs,r.cells.length ≤ 1000) :
  ∀ (j i fuel:Nat),i + j=rs.length→j < fuel→laws_samePuzzle.l2 (callF PP orc k) k fuel i a0 a1 s b0 b1 t H=some (.bool true,H):=by
 have hql:qs.length=rs.length:=by have:=congrArg List.length hv; simpa using this
 have hsl:=hs.len
 have htl:=ht.len
 intro j
 induction j with
 | zero=>
  intro i fuel hi hf
  obtain ⟨fuel,rfl⟩:=Zs fuel (by omega)
  simp (disch:=omega) only [laws_samePuzzle.l2,dt,df,bt,bf,nt,nf,Za,Zy,Zx,Zt,Zf,Zn,Zz,Zi,Zo,wr,AV.toB,AV.toI,AV.toS,if_true]
 | succ j ih=>
  intro i fuel hi hf
  obtain ⟨fuel,rfl⟩:=Zs fuel (by omega)
  have h1:i < rs.length:=by omega
  have h2:i < qs.length:=by omega
  obtain ⟨v1,v2,v3⟩:=val_at hv i h1 h2
  obtain ⟨l0,l1,l2⟩:=rules_at1 hs i h1
  obtain ⟨m0,m1,m2⟩:=rules_at1 ht i h2
  rw [v1] at m0
  rw [v3] at m2
  have l0':ldI .i64 H s.blk (s.off + i * 3 + 0)=some rs[i].kind:=l0
  have l2':ldI .i64 H s.blk (s.off + i * 3 + 2)=some rs[i].value:=l2
  have m0':ldI .i64 H t.blk (t.off + i * 3 + 0)=some rs[i].kind:=m0
  have m2':ldI .i64 H t.blk (t.off + i * 3 + 2)=some rs[i].value:=m2
  have r1:=hs.cs i h1
  have r2:=ht.cs i h2
  rw [v2] at r2
  have sm:=same_ok hk r1 r2 (hc _ (List.getElem_mem h1))
  have d1:=ih (i + 1) fuel (by omega) (by omega)
  push_cast at d1
  have e1:(rs[i].kind != rs[i].kind)=false:=by simp
  have e2:(rs[i].value != rs[i].value)=false:=by simp
  simp (disch:=omega) only [laws_samePuzzle.l2,laws_samePuzzle.j3,laws_samePuzzle.j4,dt,df,bt,bf,nt,nf,Za,Zy,Zx,Zt,Zf,Zn,Zz,Zi,Zo,wr,AV.toB,AV.toI,AV.toS,if_true,l0',l1,l2',m0',m1,m2',e1,e2,sm,d1]
theorem samePuzzle_ok {k:Nat} (hk:2000001 ≤ k) {H:Hp} {n:Int} {a1 b1 s t:Sl} {g:List Int} {rs qs:List R} (ha:Reads .i64 H a1 g) (hb:Reads .i64 H b1 g) (hgl:g.length ≤ 1000) (hs:ReadsR H s rs) (ht:ReadsR H t qs) (hv:qs.map R.val=rs.map R.val) (hl:rs.length ≤ 1000) (hc:∀ r ∈ rs,r.cells.length ≤ 1000) :
  callF PP orc k laws_samePuzzle.id [.agg [.int .i64 n,.sl 1 a1,.sl 3 s],.agg [.int .i64 n,.sl 1 b1,.sl 3 t]] H=some (.bool true,H):=by
 obtain ⟨k,rfl⟩:=Zs k (by omega)
 rw [laws_samePuzzle.call]
 have hql:qs.length=rs.length:=by have:=congrArg List.length hv; simpa using this
 have hsl:=hs.len
 have htl:=ht.len
 have sm:=same_ok (show 2000000 ≤ k by omega) ha hb hgl
 have d1:=samePuzzle_l2 (show 2000000 ≤ k by omega) (a0:=n) (b0:=n) (a1:=a1) (b1:=b1) hs ht hv hl hc rs.length 0 k (by omega) (by omega)
 simp only [Int.natCast_zero] at d1
 have e1:(n != n)=false:=by simp
 simp (disch:=omega) only [laws_samePuzzle.f,laws_samePuzzle.j0,laws_samePuzzle.j1,dt,df,bt,bf,nt,nf,Za,Zy,Zx,Zt,Zf,Zn,Zz,Zi,Zo,wr,AV.toB,AV.toI,AV.toS,if_true,e1,sm,nf (show (s.len:Int)=(t.len:Int) by omega),d1]
theorem readsR_nil {H:Hp}:ReadsR H Sl.none []:=⟨rfl,fun i hi=>absurd hi (Nat.not_lt_zero _),fun i hi=>absurd hi (Nat.not_lt_zero _),fun i hi=>absurd hi (Nat.not_lt_zero _),fun i hi=>absurd hi (Nat.not_lt_zero _)⟩
def askV (n:Int) (g:List Int) (vs:List V):Bool:=squareSolved g n && (decide (vs.length ≤ 20) && vs.all fun r=>ruleOkV n r && (gridOk g n && ruleHoldsV g r))
theorem canHoldF {n:Int} {g:List Int} (hg:gridOk g n=true) (hf:full g) {r:V} (hr:ruleOkV n r=true):canHoldV n g r=true ↔ ruleHoldsV g r=true:=by
 obtain ⟨c1,c2,c3,c4⟩:=ruleOk_cells hr
 obtain ⟨hn,hl,h3⟩:=(gridOk_iff g n).1 hg
 unfold ruleHoldsV
 rw [Bool.and_eq_true]
 constructor
 ·intro h
  refine ⟨List.all_eq_true.2 fun c hc=>?_,rule_full hg hf hr h⟩
  have:=c1 c hc
  have hp:=hf c.toNat (by omega)
  rw [decide_eq_true_eq]
  unfold gv; omega
 ·rintro ⟨_,h⟩
  rw [canHold_iff c3 c2]
  refine ⟨r.2.1.map (gv g),?_,h⟩
  rw [AllIn_pt,own_len]
  refine ⟨by simp,fun i hi=>?_⟩
  have hc:=c1 _ (mem_getD hi)
  have hcl:(r.2.1.getD i 0).toNat < g.length:=by omega
  rw [map_at hi,own_at hi,open_vals hg hcl]
  have hv:=h3 _ (mem_getD hcl)
  have hp:=hf _ hcl
  exact ⟨by unfold gv; omega,fun _=>rfl⟩
theorem ask_iff {n:Int} {g:List Int} {vs:List V}:askV n g vs=puzzleSolvedV n g vs g:=by
 rw [Bool.eq_iff_iff]
 unfold askV squareSolved squareFits puzzleSolvedV puzzleFitsV puzzleV fitsV
 simp only [Bool.and_eq_true,decide_eq_true_eq,List.all_eq_true,Bool.not_eq_true']
 have hcomp:compatB g g=true:=(compatB_iff g g).2 fun _ _ _ _=>rfl
 constructor
 ·rintro ⟨⟨⟨h1,h2⟩,h3⟩,h4,h5⟩
  have hl:=((gridOk_iff g n).1 h1).2.1
  have hfl:filled g=g.length:=by omega
  have hf:=filled_eq.1 hfl
  exact ⟨⟨⟨h1,h4,fun r hr=>(h5 r hr).1⟩,h1,hcomp,fun r hr=>(canHoldF h1 hf (h5 r hr).1).2 (h5 r hr).2.2,h2⟩,hfl⟩
 ·rintro ⟨⟨⟨h1,h4,h5⟩,_,_,h6,h2⟩,hfl⟩
  have hl:=((gridOk_iff g n).1 h1).2.1
  have hf:=filled_eq.1 hfl
  exact ⟨⟨⟨h1,h2⟩,by omega⟩,h4,fun r hr=>⟨h5 r hr,h1,(canHoldF h1 hf (h5 r hr)).1 (h6 r hr)⟩⟩
def OfTo (n:Int) (g:List Int) (rs:List R) (H:Hp) (r:An):Prop:=
 (puzzleSolvedV n g (rs.map R.val) g=true∧∃ gt st qs H',r=some (.tup [.agg [.int .i64 n,.sl 1 gt,.sl 3 st],.bool true],H')∧H <+: H'∧Own 1 H H' gt (g.map (.int .i64))∧ReadsR H' st qs∧qs.map R.val=rs.map R.val) ∨
 (puzzleSolvedV n g (rs.map R.val) g=false∧∃ H',r=some (.tup [.agg [.int .i64 0,.sl 1 Sl.none,.sl 3 Sl.none],.bool false],H')∧H <+: H')
theorem implOf_l2 {k:Nat} (hk:2000020 ≤ k) {H0:Hp} {n:Int} {xs s:Sl} {g:List Int} {rs:List R} (hz:PuzAt H0 n xs s g rs) :
  ∀ (j i fuel:Nat) (H:Hp),i + j=rs.length→j < fuel→H0 <+: H →
   ∃ H',H0 <+: H'∧impl_PuzzleOf.l2 (callF PP orc k) k fuel xs n s s (rs.length:Int) (i:Int) 0 Sl.none Sl.none H=if (((rs.drop i).map R.val).all fun r=>ruleOkV n r && (gridOk g n && ruleHoldsV g r))=true then impl_PuzzleOf.j3 (callF PP orc k) k xs n s 0 Sl.none Sl.none H' else some (.tup [.agg [.int .i64 0,.sl 1 Sl.none,.sl 3 Sl.none],.bool false],H'):=by
 have hlen:=hz.rr.len
 have hrl:=hz.rl
 have hgl:=hz.gl
 intro j
 induction j with
 | zero=>
  intro i fuel H hi hf hp
  obtain ⟨fuel,rfl⟩:=Zs fuel (by omega)
  rw [List.drop_eq_nil_of_le (by omega)]
  refine ⟨H,hp,?_⟩
  simp (disch:=omega) only [impl_PuzzleOf.l2,df,Zf,List.map_nil,List.all_nil,if_true]
 | succ j ih=>
  intro i fuel H hi hf hp
  obtain ⟨fuel,rfl⟩:=Zs fuel (by omega)
  have hi2:i < rs.length:=by omega
  obtain ⟨l0,l1,l2⟩:=rules_at1 (pf_readsR hp hz.rr) i hi2
  obtain ⟨H1,a1,a2⟩:=implRuleHolds_ok (show 2000010 ≤ k by omega) hz.n4 (kind:=rs[i].kind) (value:=rs[i].value) (pf_reads hp (hz.rr.cs i hi2)) (hz.rc _ (List.getElem_mem hi2)) (pf_reads hp hz.rg) hgl
  rw [List.drop_eq_getElem_cons hi2,List.map_cons,List.all_cons]
  have e:(ruleOk n rs[i].kind rs[i].cells rs[i].value && (gridOk g n && ruleHoldsV g (rs[i].kind,rs[i].cells,rs[i].value)))=(ruleOkV n (R.val rs[i]) && (gridOk g n && ruleHoldsV g (R.val rs[i]))):=rfl
  rw [e] at a1
  cases eb:(ruleOkV n (R.val rs[i]) && (gridOk g n && ruleHoldsV g (R.val rs[i]))) with
  | false=>
   rw [eb] at a1
   refine ⟨H1,hp.trans a2,?_⟩
   rw [Bool.false_and,if_neg (by simp)]
   simp (disch:=omega) only [impl_PuzzleOf.l2,dt,Za,Zt,Zn,Zo,l0,l1,l2,a1,AV.toB,Zx]
  | true=>
   rw [eb] at a1
   obtain ⟨H',b1,b2⟩:=ih (i + 1) fuel H1 (by omega) (by omega) (hp.trans a2)
   push_cast at b2
   refine ⟨H',b1,?_⟩
   rw [Bool.true_and]
   simp (disch:=omega) only [impl_PuzzleOf.l2,dt,Za,Zt,Zf,Zn,Zo,l0,l1,l2,a1,AV.toB,Zy,wr (n:=(i:Int) + 1),b2]
theorem implPuzzleOf_ok {k:Nat} (hk:2000030 ≤ k) {H:Hp} {n:Int} {xs s:Sl} {g:List Int} {rs:List R} (hz:PuzAt H n xs s g rs) (hnil:xs.nil=false) (hcn:∀ r ∈ rs,r.sl.nil=false ∨ r.cells=[]) :
  OfTo n g rs H (callF PP orc k impl_PuzzleOf.id [.sl 1 xs,.int .i64 n,.sl 3 s] H):=by
 obtain ⟨k,rfl⟩:=Zs k (by omega)
 rw [impl_PuzzleOf.call]
 have hlen:=hz.rr.len
 have hrl:=hz.rl
 obtain ⟨H1,a1,a2⟩:=implSquareSolved_ok' (show 2000003 ≤ k by omega) hz.n4 hz.rg hz.gl
 unfold OfTo
 rw [← ask_iff]
 unfold askV
 cases e1:squareSolved g n with
 | false=>
  rw [e1] at a1
  right
  refine ⟨by rw [Bool.false_and],H1,?_,a2⟩
  simp only [impl_PuzzleOf.f,impl_PuzzleOf.j0,a1,Zo,AV.toB,Zx,Zt]
 | true=>
  rw [e1] at a1
  rw [Bool.true_and]
  by_cases c:rs.length ≤ 20
  ·have e2:decide ((rs.map R.val).length ≤ 20)=true:=decide_eq_true (by simpa using c)
   rw [e2,Bool.true_and]
   obtain ⟨H2,b1,b2⟩:=implOf_l2 (show 2000020 ≤ k by omega) hz rs.length 0 k H1 (by omega) (by omega) a2
   rw [List.drop_zero] at b2
   simp only [Int.natCast_zero] at b2
   cases e3:((rs.map R.val).all fun r=>ruleOkV n r && (gridOk g n && ruleHoldsV g r)) with
   | false=>
    rw [e3] at b2
    rw [if_neg (by simp)] at b2
    right
    refine ⟨rfl,H2,?_,b1⟩
    simp (disch:=omega) only [impl_PuzzleOf.f,impl_PuzzleOf.j0,impl_PuzzleOf.j1,a1,Zo,AV.toB,Zy,Zf,df,hlen,b2]
   | true=>
    rw [e3,if_pos rfl] at b2
    left
    obtain ⟨st,qs,H3,c1,c2,c3,c4,c5⟩:=copyPuzzle_ok (show 2000002 ≤ k by omega) (hz.pf b1) hnil hcn
    refine ⟨rfl,_,st,qs,H3,?_,b1.trans c2,own_base c3 b1,c4.reads,c5⟩
    simp (disch:=omega) only [impl_PuzzleOf.f,impl_PuzzleOf.j0,impl_PuzzleOf.j1,a1,Zo,AV.toB,Zy,Zf,df,hlen,b2]
    unfold impl_PuzzleOf.j3
    rw [c1,Option.bind_some]
    simp only [AV.isTup,AV.nth,AV.isAgg,AV.cel,AV.toI,AV.toS,AV.toB,Zl,Zm,Zc,Zd,if_true,decide_true,beq_self_eq_true,Zt,Zf,Zy,Zx,Zo]
  ·have e2:decide ((rs.map R.val).length ≤ 20)=false:=decide_eq_false (by simpa using c)
   rw [e2,Bool.false_and]
   right
   refine ⟨rfl,H1,?_,a2⟩
   simp (disch:=omega) only [impl_PuzzleOf.f,impl_PuzzleOf.j0,a1,Zo,AV.toB,Zy,Zf,Zt,dt,hlen]
theorem specPuzzleOf_ok {k:Nat} (hk:2000050 ≤ k) {H:Hp} {n:Int} {xs s:Sl} {g:List Int} {rs:List R} (hz:PuzAt H n xs s g rs) :
  OfTo n g rs H (callF PP orc k spec_PuzzleOf.id [.sl 1 xs,.int .i64 n,.sl 3 s] H):=by
 obtain ⟨k,rfl⟩:=Zs k (by omega)
 rw [spec_PuzzleOf.call]
 have hgl:=hz.gl
 obtain ⟨t,qs,H1,a1,a2,a3,a4⟩:=OwnRuleList_ok (show 2000001 ≤ k by omega) hz.rr hz.rl hz.rc
 have hql:qs.length=rs.length:=by have:=congrArg List.length a4; simpa using this
 have hrl:=hz.rl
 have hqc:∀ r ∈ qs,r.cells.length ≤ 1000:=fun r hr=>by
  have:r.val ∈ rs.map R.val:=by rw [← a4]; exact List.mem_map.2 ⟨r,hr,rfl⟩
  obtain ⟨q,hq,e⟩:=List.mem_map.1 this
  have e2:q.cells=r.cells:=congrArg (fun v:V=>v.2.1) e
  rw [← e2]; exact hz.rc q hq
 have hx1:=pf_reads a2 hz.rg
 have g1:H1 <+: H1 ++ [some (Blk.mk false (g.map (.int .i64)))]:=List.prefix_append _ _
 have o1:=own_new 1 H1 (g.map (.int .i64)) g.length (by simp)
 have r1:=pf_readsR g1 a3.reads
 obtain ⟨w1,w2⟩:=copy3_ok r1 (by omega)
 have g2:H1 ++ [some (Blk.mk false (g.map (.int .i64)))] <+: H1 ++ [some (Blk.mk false (g.map (.int .i64)))] ++ [some (Blk.mk false (qs.flatMap R.av))]:=List.prefix_append _ _
 have r2:=own_readsR w2 fun i hi=>pf_reads (g1.trans g2) (a3.rd i hi)
 have hz2:PuzAt (H1 ++ [some (Blk.mk false (g.map (.int .i64)))] ++ [some (Blk.mk false (qs.flatMap R.av))]) n (Sl.mk false H1.length 0 g.length) (Sl.mk false (H1 ++ [some (Blk.mk false (g.map (.int .i64)))]).length 0 qs.length) g qs:=⟨pf_reads g2 (own_reads o1),r2,hz.n4,hz.gl,by omega,hqc⟩
 obtain ⟨H2,b1,b2⟩:=specPuzzleSolved_ok (show 2000043 ≤ k by omega) hz2 (pf_reads (g1.trans g2) hx1) hgl
 rw [a4] at b1
 have p2:=(a2.trans g1).trans (g2.trans b2)
 have hxl:=hx1.len
 have hf:spec_PuzzleOf.f (callF PP orc k) k xs n s H=bif !(puzzleSolvedV n g (rs.map R.val) g) then some (.tup [.agg [.int .i64 0,.sl 1 Sl.none,.sl 3 Sl.none],.bool false],H2) else some (.tup [.agg [.int .i64 n,.sl 1 (Sl.mk false H1.length 0 g.length),.sl 3 (Sl.mk false (H1 ++ [some (Blk.mk false (g.map (.int .i64)))]).length 0 qs.length)],.bool true],H2):=by
  unfold spec_PuzzleOf.f
  rw [a1,Option.bind_some]
  simp only [AV.toS,if_true,Zo]
  rw [read_ok hx1,Option.bind_some,hxl,appl_ok H1 g .i64 (by omega),Option.bind_some,cells_ok]
  simp only [Za,Zt]
  rw [reads3_ok r1,Option.bind_some,w1,Option.bind_some,cells3_ok]
  simp only [Za,Zt]
  rw [b1,Option.bind_some]
  simp only [AV.toB,Zo]
 unfold OfTo
 rw [hf]
 cases e:puzzleSolvedV n g (rs.map R.val) g with
 | true=>exact .inl ⟨rfl,_,_,qs,H2,rfl,p2,own_base (own_pf o1 (g2.trans b2)) a2,pf_readsR b2 r2,a4⟩
 | false=>exact .inr ⟨rfl,H2,rfl,p2⟩
theorem DrawPuzzleOf_ok {k:Nat} (hk:2000501 ≤ k) {H:Hp} {s:Sl} {l:List Int} (hs:Reads .u8 H s l) (hb:∀ x ∈ l,0 ≤ x∧x ≤ 255) :
  ∃ xs n ss g rs H',callF PP orc k spec_DrawPuzzleOf.id [.sl 1 s] H=some (.tup [.sl 1 xs,.int .i64 n,.sl 3 ss],H')∧H <+: H'∧PuzAt H' n xs ss g rs∧xs.nil=false∧(∀ r ∈ rs,r.sl.nil=false ∨ r.cells=[]):=by
 obtain ⟨k,rfl⟩:=Zs k (by omega)
 rw [spec_DrawPuzzleOf.call]
 obtain ⟨H1,n,gs,ss,given,rs,l',p',H',a1,a2,a3,a4,a5,a6,a7,a8,a9⟩:=open_puzzle (show 2000500 ≤ k by omega) hs hb (x1:=9) (by omega)
 have hcn:∀ r ∈ rs,r.sl.nil=false ∨ r.cells=[]:=fun r hr=>by
  obtain ⟨i,hi,rfl⟩:=List.getElem_of_mem hr
  exact a8.cn i hi
 have hz:=a8.at'
 obtain ⟨t,H2,b1,b2⟩:=specSolveFirst_ok (show 2000201 ≤ k by omega) hz
 have hhb:H.length < H'.length:=by omega
 rcases b2 with ⟨e1,b2,b3⟩ | ⟨x,e1,b2,b3⟩
 ·refine ⟨gs,n,ss,given,rs,H2,?_,a3.trans b1,hz.pf b1,a8.gn,hcn⟩
  unfold spec_DrawPuzzleOf.f
  rw [a1,Option.bind_some]
  simp only [AV.toP,Zo]
  rw [a2,Option.bind_some]
  simp only [AV.isTup,AV.nth,AV.isAgg,AV.cel,AV.toI,AV.toS,AV.toB,Zl,Zm,Zc,Zd,if_true,decide_true,beq_self_eq_true,Zt,Zf,Zy,Zx,Zo]
  rw [b2,Option.bind_some]
  simp only [AV.isTup,AV.nth,AV.isAgg,AV.cel,AV.toI,AV.toS,AV.toB,Zl,Zm,Zc,Zd,if_true,decide_true,beq_self_eq_true,Zt,Zf,Zy,Zx,Zo]
  unfold spec_DrawPuzzleOf.j0
  rw [cond_false]
  rfl
 ·have hx:x ∈ allSols n given (rs.map R.val):=List.mem_of_mem_head? e1
  have hp:puzzleV n given (rs.map R.val)=true:=by
   cases e:puzzleV n given (rs.map R.val) with
   | true=>rfl
   | false=>unfold allSols puzzleFitsV at hx; rw [e] at hx; simp at hx
  have h16:=gridOk_len ((mem_allSols hp x).1 hx).1
  obtain ⟨v,H3,c1,c2,c3,c4,c5⟩:=pick_adv (show 1 ≤ k by omega) (a4.pf b1) (by omega) 4
  have hz3:=(a8.adv a6 (pf_adv (b:=H.length) b1)).adv a6 c3
  have p3:=c3.but.pf (Nat.le_refl _) (a3.trans b1) c3.le
  have hx3:=c3.own hhb b3
  unfold spec_DrawPuzzleOf.f
  rw [a1,Option.bind_some]
  simp only [AV.toP,Zo]
  rw [a2,Option.bind_some]
  simp only [AV.isTup,AV.nth,AV.isAgg,AV.cel,AV.toI,AV.toS,AV.toB,Zl,Zm,Zc,Zd,if_true,decide_true,beq_self_eq_true,Zt,Zf,Zy,Zx,Zo]
  rw [b2,Option.bind_some]
  simp only [AV.isTup,AV.nth,AV.isAgg,AV.cel,AV.toI,AV.toS,AV.toB,Zl,Zm,Zc,Zd,if_true,decide_true,beq_self_eq_true,Zt,Zf,Zy,Zx,Zo]
  rw [c1,Option.bind_some]
  simp only [AV.isTup,AV.nth,AV.isAgg,AV.cel,AV.toI,AV.toS,AV.toB,Zl,Zm,Zc,Zd,if_true,decide_true,beq_self_eq_true,Zt,Zf,Zy,Zx,Zo]
  unfold spec_DrawPuzzleOf.j0
  by_cases cv:v > 0
  ·rw [dt cv,cond_true]
   exact ⟨t,n,ss,x,rs,H3,rfl,p3,⟨own_reads hx3,hz3.at'.rr,hz3.at'.n4,by omega,hz3.at'.rl,hz3.at'.rc⟩,b3.nn,hcn⟩
  ·rw [df cv,cond_false]
   exact ⟨gs,n,ss,given,rs,H3,rfl,p3,hz3.at',a8.gn,hcn⟩
theorem self_sols {n:Int} {g:List Int} {vs:List V} (h:puzzleSolvedV n g vs g=true):puzzleV n g vs=true∧full g∧clash g n=false∧allSols n g vs=[g]:=by
 have hp:puzzleV n g vs=true:=by
  unfold puzzleSolvedV puzzleFitsV at h
  simp only [Bool.and_eq_true] at h
  exact h.1.1
 have hg:=(solved_iff hp g).1 h
 have hm:=(mem_allSols hp g).1 hg
 have hc:clash g n=false:=by
  have:=hm.2.2.2
  unfold fitsV at this
  simp only [Bool.and_eq_true,Bool.not_eq_true'] at this
  exact this.2.2
 refine ⟨hp,hm.2.2.1,hc,?_⟩
 have hall:∀ x ∈ allSols n g vs,x=g:=fun x hx=>by
  have hxm:=(mem_allSols hp x).1 hx
  refine ext_getD hxm.2.1.1.symm fun i hi=>?_
  have hi2:i < g.length:=by rw [hxm.2.1.1]; exact hi
  rcases hxm.2.1.2 i with e | e
  ·have:=hm.2.2.1 i hi2; omega
  ·exact e.symm
 have hnd:=allSols_lt (vs:=vs) hp
 cases e:allSols n g vs with
 | nil=>rw [e] at hg; simp at hg
 | cons x L=>
  rw [e] at hall hnd
  have hx:=hall x (by simp)
  subst hx
  cases L with
  | nil=>rfl
  | cons y L=>
   have hy:=hall y (by simp)
   subst hy
   have:=(List.pairwise_cons.1 hnd).1 y (by simp)
   exact absurd this (fun h=>h.asymm h)
theorem PuzzleOf_law {k:Nat} (hk:2000800 ≤ k) {H:Hp} {s:Sl} {l:List Int} (hs:Reads .u8 H s l) (hb:∀ x ∈ l,0 ≤ x∧x ≤ 255) :
  ∃ H',callF PP orc k laws_FnPuzzleOf.id [.sl 1 s] H=some (.bool true,H'):=by
 obtain ⟨k,rfl⟩:=Zs k (by omega)
 rw [laws_FnPuzzleOf.call]
 by_cases hbig:(s.len:Int) > 1048576
 ·exact ⟨H,by simp only [laws_FnPuzzleOf.f,dt hbig,Zt]⟩
 ·obtain ⟨xs,n,ss,g,rs,H1,a1,a2,hz,hnil,hcn⟩:=DrawPuzzleOf_ok (show 2000501 ≤ k by omega) hs hb
  have hgl:=hz.gl
  unfold laws_FnPuzzleOf.f
  rw [df hbig,cond_false,a1,Option.bind_some]
  simp only [AV.isTup,AV.nth,AV.isAgg,AV.cel,AV.toI,AV.toS,AV.toB,Zl,Zm,Zc,Zd,if_true,decide_true,beq_self_eq_true,Zt,Zf,Zy,Zx,Zo]
  rcases implPuzzleOf_ok (show 2000030 ≤ k by omega) hz hnil hcn with ⟨e1,gt,st,qs,H2,b1,b2,b3,b4,b5⟩ | ⟨e1,H2,b1,b2⟩
  ·rcases specPuzzleOf_ok (show 2000050 ≤ k by omega) (hz.pf b2) with ⟨f1,gu,su,ps,H3,c1,c2,c3,c4,c5⟩ | ⟨f1,_⟩
   ·obtain ⟨hp,hf,hc,hone⟩:=self_sols e1
    have hql:qs.length=rs.length:=by have:=congrArg List.length b5; simpa using this
    have hrl:=hz.rl
    have hqc:∀ r ∈ qs,r.cells.length ≤ 1000:=fun r hr=>by
     have:r.val ∈ rs.map R.val:=by rw [← b5]; exact List.mem_map.2 ⟨r,hr,rfl⟩
     obtain ⟨q,hq,e⟩:=List.mem_map.1 this
     have e2:q.cells=r.cells:=congrArg (fun v:V=>v.2.1) e
     rw [← e2]; exact hz.rc q hq
    have sm:=samePuzzle_ok (show 2000001 ≤ k by omega) (n:=n) (pf_reads c2 (own_reads b3)) (own_reads c3) hgl (pf_readsR c2 b4) c4 (by rw [c5,b5]) (by omega) hqc
    have hz3:PuzAt H3 n gt st g qs:=⟨pf_reads c2 (own_reads b3),pf_readsR c2 b4,hz.n4,hgl,by omega,hqc⟩
    have hgn:=b3.nn
    have hp':puzzleV n g (qs.map R.val)=true:=by rw [b5]; exact hp
    have hone':allSols n g (qs.map R.val)=[g]:=by rw [b5]; exact hone
    have hov:oneV n g (qs.map R.val)=true:=by unfold oneV; rw [hone']; rfl
    obtain ⟨t,H4,d1,d2⟩:=implSolveFirst_ok (show 2000510 ≤ k by omega) hz3 hgn
    have hfirst:firstV n g (qs.map R.val)=some g:=by unfold firstV; rw [hone']; rfl
    rcases d2 with ⟨h1,_⟩ | ⟨y,h1,d2,d3⟩
    ·rw [hfirst] at h1; cases h1
    ·have ey:g=y:=by rw [hfirst] at h1; exact Option.some.inj h1
     subst ey
     have sm2:=same_ok (show 2000000 ≤ k by omega) d3 (pf_reads (b2.trans (c2.trans d1)) hz.rg) (by omega)
     obtain ⟨H5,i1,i2⟩:=implCount_ok (show 2000510 ≤ k by omega) (hz3.pf d1) hgn 2
     have ec:countV n g (qs.map R.val) 2=1:=by
      unfold countV; rw [if_pos ⟨hp',by omega,by omega⟩,hone']; rfl
     rw [ec] at i1
     obtain ⟨H6,j1,j2⟩:=fullGrade_ok (show 2000520 ≤ k by omega) (hz3.pf (d1.trans i2)) hgn hp' hov hf hc
     refine ⟨H6,?_⟩
     rw [b1,Option.bind_some]
     simp only [AV.isTup,AV.nth,AV.isAgg,AV.cel,AV.toI,AV.toS,AV.toB,Zl,Zm,Zc,Zd,if_true,decide_true,beq_self_eq_true,Zt,Zf,Zy,Zx,Zo]
     rw [c1,Option.bind_some]
     simp only [AV.isTup,AV.nth,AV.isAgg,AV.cel,AV.toI,AV.toS,AV.toB,Zl,Zm,Zc,Zd,if_true,decide_true,beq_self_eq_true,Zt,Zf,Zy,Zx,Zo]
     rw [sm,Option.bind_some]
     simp only [AV.isTup,AV.nth,AV.isAgg,AV.cel,AV.toI,AV.toS,AV.toB,Zl,Zm,Zc,Zd,if_true,decide_true,beq_self_eq_true,Zt,Zf,Zy,Zx,Zo]
     unfold laws_FnPuzzleOf.j0
     try simp only [beq_self_eq_true,Zy,Zf]
     unfold laws_FnPuzzleOf.j1
     rw [Bool.not_true,cond_false,d2,Option.bind_some]
     simp only [AV.isTup,AV.nth,AV.isAgg,AV.cel,AV.toI,AV.toS,AV.toB,Zl,Zm,Zc,Zd,if_true,decide_true,beq_self_eq_true,Zt,Zf,Zy,Zx,Zo]
     rw [sm2,Option.bind_some]
     simp only [AV.isTup,AV.nth,AV.isAgg,AV.cel,AV.toI,AV.toS,AV.toB,Zl,Zm,Zc,Zd,if_true,decide_true,beq_self_eq_true,Zt,Zf,Zy,Zx,Zo]
     rw [i1,Option.bind_some]
     simp only [AV.isTup,AV.nth,AV.isAgg,AV.cel,AV.toI,AV.toS,AV.toB,Zl,Zm,Zc,Zd,if_true,decide_true,beq_self_eq_true,Zt,Zf,Zy,Zx,Zo]
     rw [j1,Option.bind_some]
     simp only [AV.isTup,AV.nth,AV.isAgg,AV.cel,AV.toI,AV.toS,AV.toB,Zl,Zm,Zc,Zd,if_true,decide_true,beq_self_eq_true,Zt,Zf,Zy,Zx,Zo]
   ·rw [e1] at f1; cases f1
  ·rcases specPuzzleOf_ok (show 2000050 ≤ k by omega) (hz.pf b2) with ⟨f1,_⟩ | ⟨f1,H3,c1,c2⟩
   ·rw [e1] at f1; cases f1
   ·have sm:=samePuzzle_ok (show 2000001 ≤ k by omega) (H:=H3) (n:=0) (a1:=Sl.none) (b1:=Sl.none) (g:=[]) (reads_nil rfl) (reads_nil rfl) (by simp) readsR_nil readsR_nil rfl (by simp) (fun r hr=>by cases hr)
    obtain ⟨H4,d1,d2⟩:=alive_ok (show 2000002 ≤ k by omega) H3
    refine ⟨H4,?_⟩
    rw [b1,Option.bind_some]
    simp only [AV.isTup,AV.nth,AV.isAgg,AV.cel,AV.toI,AV.toS,AV.toB,Zl,Zm,Zc,Zd,if_true,decide_true,beq_self_eq_true,Zt,Zf,Zy,Zx,Zo]
    rw [c1,Option.bind_some]
    simp only [AV.isTup,AV.nth,AV.isAgg,AV.cel,AV.toI,AV.toS,AV.toB,Zl,Zm,Zc,Zd,if_true,decide_true,beq_self_eq_true,Zt,Zf,Zy,Zx,Zo]
    rw [sm,Option.bind_some]
    simp only [AV.isTup,AV.nth,AV.isAgg,AV.cel,AV.toI,AV.toS,AV.toB,Zl,Zm,Zc,Zd,if_true,decide_true,beq_self_eq_true,Zt,Zf,Zy,Zx,Zo]
    unfold laws_FnPuzzleOf.j0
    try simp only [beq_self_eq_true,Zy,Zf]
    unfold laws_FnPuzzleOf.j1
    rw [Bool.not_false,cond_true,bt rfl,cond_true,d1,Option.bind_some]
    simp only [AV.isTup,AV.nth,AV.isAgg,AV.cel,AV.toI,AV.toS,AV.toB,Zl,Zm,Zc,Zd,if_true,decide_true,beq_self_eq_true,Zt,Zf,Zy,Zx,Zo]
end Go.Proofs.Ytjikkamhljbipaa.Rp
