/- Texts for the row of the law FnMakeEven, part 13: the plain machine, the program's functions on it, what they come to. No conditions. -/
import Derived.Test.YtchliocobgkmbaaBuFnMakeEven11
import Derived.Test.YtchliocobgkmbaaBuFnMakeEven12
import Derived.Test.YtchliocobgkmbaaBuFnMakeEven6
import Derived.Test.YtchliocobgkmbaaBuFnMakeEven7
import Derived.Test.YtchliocobgkmbaaBuFnMakeEven8
set_option linter.unusedVariables false
set_option linter.unusedSimpArgs false
namespace Go.Proofs.Ytchliocobgkmbaa.Rp
open Go Go.RowKit Go.Proofs.Ytchliocobgkmbaa.Ab
theorem ext_getD {a b:List Int} (hl:a.length=b.length) (h:∀ i,i < a.length→a.getD i 0=b.getD i 0):a=b:=by
 apply List.ext_getElem hl
 intro i h1 h2
 have:=h i h1
 rw [List.getD_eq_getElem?_getD,List.getElem?_eq_getElem h1,List.getD_eq_getElem?_getD,List.getElem?_eq_getElem h2] at this
 exact this
theorem grid_set'' {g:List Int} {n:Int} (h:gridOk g n=true) (i:Nat) (v:Int) (hv:0 ≤ v∧v ≤ n):gridOk (g.set i v) n=true:=by
 obtain ⟨h1,h2,h3⟩:=(gridOk_iff g n).1 h
 refine (gridOk_iff _ n).2 ⟨h1,by simpa using h2,fun x hx=>?_⟩
 rcases List.mem_or_eq_of_mem_set hx with h | h
 ·exact h3 x h
 ·subst h; exact hv
theorem Le.up {g x:List Int} (h:Le g x) {i:Nat} (hi:i < g.length):Le (g.set i (x.getD i 0)) x:=⟨by simpa using h.1,fun j=>by
 rw [getD_set]
 split
 ·rename_i e; right; rw [e.1]
 ·exact h.2 j⟩
theorem Le.set {g:List Int} {i:Nat} (h0:g.getD i 0=0) (v:Int):Le g (g.set i v):=⟨by simp,fun j=>by
 rw [getD_set]
 split
 ·rename_i e; left; rw [← e.1]; exact h0
 ·exact .inr rfl⟩
def full (x:List Int):Prop:=∀ i,i < x.length→0 < x.getD i 0
theorem mem_sols {n:Int} {f:List Int→Bool} (hf:∀ g' g,Le g' g→gridOk g n=true→f g=true→f g'=true):∀ (rem:Nat) (g:List Int),rem ≤ g.length→gridOk g n=true→(∀ i,i < g.length - rem→0 < g.getD i 0)→f g=true→∀ x,x ∈ sols f n.toNat rem g ↔ gridOk x n=true∧Le g x∧full x∧f x=true:=by
 intro rem
 induction rem with
 | zero=>
  intro g hr hg hfu hfg x
  rw [sols,List.mem_singleton]
  constructor
  ·rintro rfl
   exact ⟨hg,Le.refl _,fun i hi=>hfu i (by omega),hfg⟩
  ·rintro ⟨h1,h2,h3,h4⟩
   refine (ext_getD h2.1 fun i hi=>?_).symm
   have:=hfu i (by omega)
   rcases h2.2 i with e | e
   ·omega
   ·exact e
 | succ rem ih=>
  intro g hr hg hfu hfg x
  have hat:g.length - (rem + 1) < g.length:=by omega
  obtain ⟨hn,h2,h3⟩:=(gridOk_iff g n).1 hg
  by_cases c:0 < g.getD (g.length - (rem + 1)) 0
  ·rw [sols,if_pos c]
   refine ih g (by omega) hg (fun i hi=>?_) hfg x
   by_cases e:i=g.length - (rem + 1)
   ·rw [e]; exact c
   ·exact hfu i (by omega)
  ·rw [sols,if_neg c,List.mem_flatMap]
   have hv:=h3 _ (mem_getD hat)
   have h0:g.getD (g.length - (rem + 1)) 0=0:=by omega
   have go:∀ v,1 ≤ v∧v ≤ n→f (g.set (g.length - (rem + 1)) v)=true→(x ∈ sols f n.toNat rem (g.set (g.length - (rem + 1)) v) ↔ gridOk x n=true∧Le (g.set (g.length - (rem + 1)) v) x∧full x∧f x=true):=fun v hv1 hfv=>by
    refine ih _ (by simp; omega) (grid_set'' hg _ v ⟨by omega,by omega⟩) (fun i hi=>?_) hfv x
    rw [List.length_set] at hi
    rw [getD_set]
    split
    ·omega
    ·rename_i e
     exact hfu i (by omega)
   constructor
   ·rintro ⟨v,hv1,hx⟩
    rw [mem_upto] at hv1
    split at hx
    ·rename_i hfv
     obtain ⟨q1,q2,q3,q4⟩:=(go v (by omega) hfv).1 hx
     exact ⟨q1,(Le.set h0 v).trans q2,q3,q4⟩
    ·cases hx
   ·rintro ⟨q1,q2,q3,q4⟩
    obtain ⟨_,l2,l3⟩:=(gridOk_iff x n).1 q1
    have hlx:g.length - (rem + 1) < x.length:=by rw [← q2.1]; exact hat
    have hxv:=l3 _ (mem_getD hlx)
    have hxp:=q3 _ hlx
    have hup:=q2.up hat
    have hfv:=hf _ _ hup q1 q4
    refine ⟨x.getD (g.length - (rem + 1)) 0,(mem_upto _ _ _).2 (by omega),?_⟩
    rw [if_pos hfv]
    exact (go _ (by omega) hfv).2 ⟨q1,hup,q3,q4⟩
theorem puzzleV_grid {n:Int} {given:List Int} {vs:List V} (h:puzzleV n given vs=true):gridOk given n=true∧vs.all (ruleOkV n)=true:=by
 unfold puzzleV at h
 simp only [Bool.and_eq_true] at h
 exact ⟨h.1,h.2.2⟩
theorem mem_allSols {n:Int} {given:List Int} {vs:List V} (hp:puzzleV n given vs=true) (x:List Int):x ∈ allSols n given vs ↔ gridOk x n=true∧Le given x∧full x∧fitsV n given vs x=true:=by
 obtain ⟨hg,hv⟩:=puzzleV_grid hp
 have anti:∀ g' g,Le g' g→gridOk g n=true→fitsV n given vs g=true→fitsV n given vs g'=true:=fun g' g h1 h2 h3=>fits_anti h1 h2 hv h3
 unfold allSols
 by_cases c:puzzleFitsV n given vs given=true
 ·rw [if_pos c]
  have c':=c
  unfold puzzleFitsV at c'
  simp only [Bool.and_eq_true] at c'
  exact mem_sols anti _ _ (Nat.le_refl _) hg (fun i hi=>by omega) c'.2.2 x
 ·rw [if_neg c]
  constructor
  ·intro h; cases h
  ·rintro ⟨h1,h2,h3,h4⟩
   refine absurd ?_ c
   unfold puzzleFitsV
   rw [hp,hg,anti _ _ h2 h1 h4]; rfl
theorem fits_le {n:Int} {a b:List Int} {vs:List V} {g:List Int} (h:Le a b) (hc:fitsV n b vs g=true):fitsV n a vs g=true:=by
 unfold fitsV at hc ⊢
 simp only [Bool.and_eq_true] at hc ⊢
 refine ⟨?_,hc.2⟩
 have h1:=hc.1
 rw [compatB_iff] at h1 ⊢
 intro x hx ha hg1
 rcases h.2 x with e | e
 ·omega
 ·rw [e] at ha ⊢
  exact h1 x hx ha hg1
theorem sols_le {n:Int} {a b:List Int} {vs:List V} (h:Le a b) (ha:puzzleV n a vs=true) (hb:puzzleV n b vs=true) {x:List Int} (hx:x ∈ allSols n b vs):x ∈ allSols n a vs:=by
 rw [mem_allSols hb] at hx
 rw [mem_allSols ha]
 exact ⟨hx.1,h.trans hx.2.1,hx.2.2.1,fits_le h hx.2.2.2⟩
theorem take2_one {L:List (List Int)}:(L.take 2).length=1 ↔ ∃ x,L=[x]:=by
 match L with
 | []=>simp
 | [x]=>simp
 | x :: y :: L=>simp
theorem same_sol {n:Int} {a b:List Int} {vs:List V} (h:Le a b) (ha:puzzleV n a vs=true) (hb:puzzleV n b vs=true) (h1:((allSols n a vs).take 2).length=1) (h2:((allSols n b vs).take 2).length=1):∃ x,allSols n a vs=[x]∧allSols n b vs=[x]:=by
 obtain ⟨x,ex⟩:=take2_one.1 h1
 obtain ⟨y,ey⟩:=take2_one.1 h2
 have:y ∈ allSols n a vs:=sols_le h ha hb (by rw [ey]; simp)
 rw [ex] at this
 simp at this
 subst this
 exact ⟨y,ex,ey⟩
theorem puzzle_le {n:Int} {a b:List Int} {vs:List V} (h:Le a b) (hb:puzzleV n b vs=true):puzzleV n a vs=true:=by
 unfold puzzleV at hb ⊢
 simp only [Bool.and_eq_true] at hb ⊢
 exact ⟨grid_le h hb.1,hb.2⟩
def even2 (g:List Int) (i:Nat):List Int:=(g.set i 0).set (g.length - 1 - i) 0
def evenFrom (n:Int) (vs:List V):List Int→Nat→Nat→List Int
 | g,_,0=>g
 | g,i,j + 1=>evenFrom n vs (if (0 < g.getD i 0 ∨ 0 < g.getD (g.length - 1 - i) 0)∧oneV n (even2 g i) vs=true then even2 g i else g) (i + 1) j
def evenV (n:Int) (given:List Int) (vs:List V):List Int:=evenFrom n vs given 0 ((given.length + 1) / 2)
theorem even2_len (g:List Int) (i:Nat):(even2 g i).length=g.length:=by simp [even2]
theorem even2_le (g:List Int) (i:Nat):Le (even2 g i) g:=(Le.set0 (g.set i 0) (g.length - 1 - i)).trans (Le.set0 g i)
def Sym (g:List Int):Prop:=∀ x,x < g.length→(g.getD x 0=0 ↔ g.getD (g.length - 1 - x) 0=0)
theorem even2_sym {g:List Int} (h:Sym g) {i:Nat} (hi:i < g.length):Sym (even2 g i):=fun x hx=>by
 rw [even2_len] at hx ⊢
 have hs:=h x hx
 unfold even2
 simp only [getD_set,List.length_set]
 by_cases e1:g.length - 1 - i=x
 ·rw [if_pos ⟨e1,by omega⟩]
  by_cases e2:g.length - 1 - i=g.length - 1 - x
  ·rw [if_pos ⟨e2,by omega⟩]
  ·rw [if_neg (by omega),if_pos (by omega)]
 ·rw [if_neg (by omega)]
  by_cases e3:i=x
  ·rw [if_pos ⟨e3,hi⟩,if_pos (by omega)]
  ·rw [if_neg (by omega),if_neg (by omega),if_neg (by omega)]
   exact hs
theorem evenFrom_spec {n:Int} {vs:List V}:∀ (j i:Nat) (g:List Int),puzzleV n g vs=true→oneV n g vs=true→i + j ≤ g.length →
  Le (evenFrom n vs g i j) g∧oneV n (evenFrom n vs g i j) vs=true∧(Sym g→Sym (evenFrom n vs g i j))
 | 0,i,g,hp,ho,hl=>⟨Le.refl _,ho,id⟩
 | j + 1,i,g,hp,ho,hl=>by
  rw [evenFrom]
  by_cases c:(0 < g.getD i 0 ∨ 0 < g.getD (g.length - 1 - i) 0)∧oneV n (even2 g i) vs=true
  ·rw [if_pos c]
   obtain ⟨a,b,d⟩:=evenFrom_spec j (i + 1) (even2 g i) (puzzle_le (even2_le g i) hp) c.2 (by rw [even2_len]; omega)
   exact ⟨a.trans (even2_le g i),b,fun hs=>d (even2_sym hs (by omega))⟩
  ·rw [if_neg c]
   exact evenFrom_spec j (i + 1) g hp ho (by omega)
theorem full_sym {g:List Int} (h:full g):Sym g:=fun x hx=>by
 have h1:=h x hx
 have h2:=h (g.length - 1 - x) (by omega)
 omega
theorem even_spec {n:Int} {given:List Int} {vs:List V} (h:minimalOk n given vs=true):puzzleV n given vs=true∧puzzleV n (evenV n given vs) vs=true∧Le (evenV n given vs) given∧oneV n (evenV n given vs) vs=true∧(full given→Sym (evenV n given vs))∧∃ x,allSols n (evenV n given vs) vs=[x]∧allSols n given vs=[x]:=by
 unfold minimalOk at h
 simp only [Bool.and_eq_true] at h
 obtain ⟨h1,h2⟩:=h
 obtain ⟨a,b,c⟩:=evenFrom_spec ((given.length + 1) / 2) 0 given h1 h2 (by
  have:=((gridOk_iff given n).1 (puzzleV_grid h1).1).2.1
  have hn:=((gridOk_iff given n).1 (puzzleV_grid h1).1).1
  have:n=2 ∨ n=3 ∨ n=4:=by omega
  rcases this with rfl | rfl | rfl <;> omega)
 have hp:=puzzle_le a h1
 refine ⟨h1,hp,a,b,fun hf=>c (full_sym hf),?_⟩
 have b':=b
 unfold oneV at b' h2
 rw [decide_eq_true_eq] at b' h2
 exact same_sol a hp h1 b' h2
theorem sub_wrap {len i:Nat} (hl:len ≤ 1000) (hi:i < len):IntKind.i64.wrap (IntKind.i64.wrap ((len:Int) - 1) - (i:Int))=((len - 1 - i:Nat):Int):=by
 rw [wr (n:=(len:Int) - 1) (by omega) (by omega),wr (by omega) (by omega)]; omega
theorem implME_l0 {k:Nat} (hk:2000520 ≤ k) {B0:Hp} {n y0:Int} {y1 y2:Sl} {vs:List V} {len:Nat} (hlen:len ≤ 1000) :
  ∀ (j i fuel:Nat) (H:Hp) (gt st:Sl) (g:List Int) (qs:List R),i + j=(len + 1) / 2→j < fuel→B0 <+: H→g.length=len→PuzAt H n gt st g qs→qs.map R.val=vs→gt.nil=false→(∀ r ∈ qs,r.sl.nil=false ∨ r.cells=[])→puzzleV n g vs=true →
   ∃ gt' st' qs' H',impl_MakeEven.l0 (callF PP orc k) k fuel (len:Int) i y0 y1 y2 n gt st H=some (.tup [.agg [.int .i64 n,.sl 1 gt',.sl 3 st'],.bool true],H')∧B0 <+: H'∧PuzAt H' n gt' st' (evenFrom n vs g i j) qs'∧qs'.map R.val=vs∧gt'.nil=false∧(∀ r ∈ qs',r.sl.nil=false ∨ r.cells=[]):=by
 intro j
 induction j with
 | zero=>
  intro i fuel H gt st g qs hi hf hp hl hz hv hnil hcn hpv
  obtain ⟨fuel,rfl⟩:=Zs fuel (by omega)
  refine ⟨gt,st,qs,H,?_,hp,hz,hv,hnil,hcn⟩
  have hw:¬ ((i:Int) ≤ IntKind.i64.wrap (IntKind.i64.wrap ((len:Int) - 1) - (i:Int))):=by
   rw [wr (n:=(len:Int) - 1) (by omega) (by omega),wr (by omega) (by omega)]; omega
  simp only [impl_MakeEven.l0,impl_MakeEven.j2,df hw,Zf]
 | succ j ih=>
  intro i fuel H gt st g qs hi hf hp hl hz hv hnil hcn hpv
  obtain ⟨fuel,rfl⟩:=Zs fuel (by omega)
  have hgt:=hz.rg.len
  have hi2:i < len:=by omega
  have hw:=sub_wrap hlen hi2
  have hin:=((gridOk_iff g n).1 (puzzleV_grid hpv).1).2.2
  have n1:=hin _ (mem_getD (show i < g.length by omega))
  have n2:=hin _ (mem_getD (show len - 1 - i < g.length by omega))
  have hle:(i:Int) ≤ ((len - 1 - i:Nat):Int):=by omega
  rw [evenFrom,hl]
  by_cases c:0 < g.getD i 0 ∨ 0 < g.getD (len - 1 - i) 0
  ·have g1:H <+: H ++ [some (Blk.mk false [.int .i64 (i:Int),.int .i64 ((len - 1 - i:Nat):Int)])]:=List.prefix_append _ _
   have hr:Reads .i64 (H ++ [some (Blk.mk false [.int .i64 (i:Int),.int .i64 ((len - 1 - i:Nat):Int)])]) (Sl.mk false H.length 0 2) [(i:Int),((len - 1 - i:Nat):Int)]:=own_reads (own_new 1 H (([(i:Int),((len - 1 - i:Nat):Int)]:List Int).map (.int .i64)) 2 rfl)
   obtain ⟨gu,su,ps,H2,b1,b2,b3,b4,b5,b6⟩:=without_ok (show 2000003 ≤ k by omega) (hz.pf g1) hnil hcn hr (by simp) (fun x hx=>by simp at hx; rcases hx with rfl | rfl <;> omega) (by simp)
   have e2:clear [(i:Int),((len - 1 - i:Nat):Int)] g=even2 g i:=by unfold even2; rw [hl]; rfl
   rw [e2] at b3
   have hpe:=puzzle_le (even2_le g i) hpv
   obtain ⟨H3,d1,d2⟩:=onlyOne_ok (show 2000511 ≤ k by omega) b3 b5
   have e3:minimalOk n (even2 g i) (ps.map R.val)=oneV n (even2 g i) vs:=by unfold minimalOk; rw [b4,hv,hpe,Bool.true_and]
   rw [e3] at d1
   have p3:=hp.trans (g1.trans (b2.trans d2))
   have go:∀ x41,(x41=false)→impl_MakeEven.j1 (callF PP orc k) k (impl_MakeEven.l0 (callF PP orc k) k fuel) len i x41 y0 y1 y2 n gt st H=impl_MakeEven.l0 (callF PP orc k) k fuel (len:Int) ((i + 1:Nat):Int) y0 y1 y2 n (if oneV n (even2 g i) vs=true then gu else gt) (if oneV n (even2 g i) vs=true then su else st) H3:=by
    intro x41 e
    subst e
    have w1:IntKind.i64.wrap ((i:Int) + 1)=((i + 1:Nat):Int):=by rw [wr (by omega) (by omega)]; omega
    cases c3:oneV n (even2 g i) vs with
    | true=>
     rw [c3] at d1
     simp only [impl_MakeEven.j1,impl_MakeEven.j4,impl_MakeEven.j3,Zf,hw,b1,Zo,AV.isAgg,AV.cel,AV.toI,AV.toS,AV.toB,Zl,Zm,Zc,Zd,if_true,d1,Zt,w1]
     rfl
    | false=>
     rw [c3] at d1
     simp only [impl_MakeEven.j1,impl_MakeEven.j4,impl_MakeEven.j3,Zf,hw,b1,Zo,AV.isAgg,AV.cel,AV.toI,AV.toS,AV.toB,Zl,Zm,Zc,Zd,if_true,d1,Zt,w1]
     rfl
   have hstep:impl_MakeEven.l0 (callF PP orc k) k (fuel + 1) (len:Int) i y0 y1 y2 n gt st H=impl_MakeEven.l0 (callF PP orc k) k fuel (len:Int) ((i + 1:Nat):Int) y0 y1 y2 n (if oneV n (even2 g i) vs=true then gu else gt) (if oneV n (even2 g i) vs=true then su else st) H3:=by
    by_cases c4:g.getD i 0=0
    ·rw [← go (g.getD (len - 1 - i) 0 == 0) (bf (by omega))]
     simp (disch:=omega) only [impl_MakeEven.l0,hw,dt,bt,Za,Zt,Zn,Zo,rdn hz.rg]
    ·rw [← go false rfl]
     simp (disch:=omega) only [impl_MakeEven.l0,hw,dt,bf,Za,Zt,Zf,Zn,Zo,rdn hz.rg]
   rw [hstep]
   cases c3:oneV n (even2 g i) vs with
   | true=>
    rw [ip rfl,ip rfl,ip ⟨c,rfl⟩]
    exact ih (i + 1) fuel H3 gu su (even2 g i) ps (by omega) (by omega) p3 (by rw [even2_len]; exact hl) (b3.pf d2) (b4.trans hv) b5 b6 hpe
   | false=>
    rw [iN (by simp),iN (by simp),iN (fun h=>by have:=h.2; cases this)]
    exact ih (i + 1) fuel H3 gt st g qs (by omega) (by omega) p3 hl (hz.pf (g1.trans (b2.trans d2))) hv hnil hcn hpv
  ·rw [iN (fun h=>c h.1)]
   obtain ⟨gt',st',qs',H',d1,d2⟩:=ih (i + 1) fuel H gt st g qs (by omega) (by omega) hp hl hz hv hnil hcn hpv
   have w1:IntKind.i64.wrap ((i:Int) + 1)=((i + 1:Nat):Int):=by rw [wr (by omega) (by omega)]; omega
   refine ⟨gt',st',qs',H',?_,d2⟩
   simp (disch:=omega) only [impl_MakeEven.l0,impl_MakeEven.j1,impl_MakeEven.j3,hw,dt,bt,Za,Zt,Zn,Zo,rdn hz.rg,w1,d1]
theorem implMakeEven_ok {k:Nat} (hk:2000530 ≤ k) {H:Hp} {n:Int} {gs s:Sl} {given:List Int} {rs:List R} (hz:PuzAt H n gs s given rs) (hnil:gs.nil=false) (hcn:∀ r ∈ rs,r.sl.nil=false ∨ r.cells=[]) :
  ∃ H',H <+: H'∧((minimalOk n given (rs.map R.val)=false∧callF PP orc k impl_MakeEven.id [.agg [.int .i64 n,.sl 1 gs,.sl 3 s]] H=some (.tup [.agg [.int .i64 0,.sl 1 Sl.none,.sl 3 Sl.none],.bool false],H')) ∨
   (minimalOk n given (rs.map R.val)=true∧∃ gt st qs,callF PP orc k impl_MakeEven.id [.agg [.int .i64 n,.sl 1 gs,.sl 3 s]] H=some (.tup [.agg [.int .i64 n,.sl 1 gt,.sl 3 st],.bool true],H')∧PuzAt H' n gt st (evenV n given (rs.map R.val)) qs∧qs.map R.val=rs.map R.val∧gt.nil=false∧(∀ r ∈ qs,r.sl.nil=false ∨ r.cells=[]))):=by
 obtain ⟨k,rfl⟩:=Zs k (by omega)
 rw [impl_MakeEven.call]
 obtain ⟨H1,a1,a2⟩:=onlyOne_ok (show 2000511 ≤ k by omega) hz hnil
 cases c:minimalOk n given (rs.map R.val) with
 | false=>
  rw [c] at a1
  exact ⟨H1,a2,.inl ⟨rfl,by simp only [impl_MakeEven.f,dt,df,bt,bf,nt,nf,Za,Zy,Zx,Zt,Zf,Zn,Zz,Zi,Zo,wr,AV.toB,AV.toI,AV.toS,if_true,a1]⟩⟩
 | true=>
  rw [c] at a1
  have hpv:puzzleV n given (rs.map R.val)=true:=by
   unfold minimalOk at c
   rw [Bool.and_eq_true] at c
   exact c.1
  obtain ⟨st,qs,H2,b1,b2,b3,b4,b5⟩:=copyPuzzle_ok (show 2000002 ≤ k by omega) (hz.pf a2) hnil hcn
  have hql:qs.length=rs.length:=by have:=congrArg List.length b5; simpa using this
  have hzl:=hz.rl
  have hgl:=hz.gl
  have hqc:=val_cells b5 1000 hz.rc
  obtain ⟨gt',st',qs',H',d1,d2,d3,d4,d5,d6⟩:=implME_l0 (show 2000520 ≤ k by omega) (B0:=H1) (y0:=0) (y1:=Sl.none) (y2:=Sl.none) hgl ((given.length + 1) / 2) 0 k H2 (Sl.mk false H1.length 0 given.length) st given qs (by omega) (by omega) b2 rfl ⟨own_reads b3,b4.reads,hz.n4,hgl,by omega,hqc⟩ b5 rfl b4.cn hpv
  simp only [Int.natCast_zero] at d1
  refine ⟨H',a2.trans d2,.inr ⟨rfl,gt',st',qs',?_,d3,d4,d5,d6⟩⟩
  simp only [impl_MakeEven.f,dt,df,bt,bf,nt,nf,Za,Zy,Zx,Zt,Zf,Zn,Zz,Zi,Zo,wr,AV.toB,AV.toI,AV.toS,if_true,a1,b1,AV.isAgg,AV.cel,Zl,Zm,Zc,Zd,d1]
  rfl
theorem sub_wrap1 {len i:Nat} (hl:len ≤ 1000) (hi:i < len):IntKind.i64.wrap ((len:Int) - 1 - (i:Int))=((len - 1 - i:Nat):Int):=by
 rw [wr (by omega) (by omega)]; omega
theorem specME_l2 {k:Nat} (hk:2000202 ≤ k) {B0 B:Hp} (h0:B0 <+: B) {n n0:Int} {gs s g0 s0:Sl} {given:List Int} {rs:List R} (hz:PuzAt B n gs s given rs) :
  ∀ (j i fuel:Nat) (H:Hp) (gt:Sl) (g:List Int),i + j=(given.length + 1) / 2→j < fuel→B <+: H→g.length=given.length→Own 1 B0 H gt (g.map (.int .i64))→gridOk g n=true →
   ∃ gt' H',spec_MakeEven.l2 (callF PP orc k) k fuel ((given.length:Int) - 1) i n0 g0 s0 n gt s H=some (.tup [.agg [.int .i64 n,.sl 1 gt',.sl 3 s],.bool true],H')∧B <+: H'∧Own 1 B0 H' gt' ((evenFrom n (rs.map R.val) g i j).map (.int .i64)):=by
 have hgl:=hz.gl
 intro j
 induction j with
 | zero=>
  intro i fuel H gt g hi hf hp hl ho hg
  obtain ⟨fuel,rfl⟩:=Zs fuel (by omega)
  have hw:¬ ((i:Int) ≤ IntKind.i64.wrap ((given.length:Int) - 1 - (i:Int))):=by
   rw [wr (by omega) (by omega)]; omega
  refine ⟨gt,H,?_,hp,ho⟩
  simp only [spec_MakeEven.l2,spec_MakeEven.j4,df hw,Zf]
 | succ j ih=>
  intro i fuel H gt g hi hf hp hl ho hg
  obtain ⟨fuel,rfl⟩:=Zs fuel (by omega)
  have rg:=own_reads ho
  have hgt:=rg.len
  have hi2:i < given.length:=by omega
  have hw:=sub_wrap1 hgl hi2
  have hn4:=((gridOk_iff g n).1 hg).1
  have hin:=((gridOk_iff g n).1 hg).2.2
  have n1:=hin _ (mem_getD (show i < g.length by omega))
  have n2:=hin _ (mem_getD (show given.length - 1 - i < g.length by omega))
  have w1:IntKind.i64.wrap ((i:Int) + 1)=((i + 1:Nat):Int):=by rw [wr (by omega) (by omega)]; omega
  have w2:IntKind.i64.wrap (g.getD i 0 + g.getD (given.length - 1 - i) 0)=g.getD i 0 + g.getD (given.length - 1 - i) 0:=wr (by omega) (by omega)
  have hle:(i:Int) ≤ ((given.length - 1 - i:Nat):Int):=by omega
  obtain ⟨H1,a1,a2,a3⟩:=Without_ok (show 1 ≤ k by omega) (n:=n) (s:=s) rg (by omega) i (by omega)
  obtain ⟨H2,b1,b2,b3⟩:=Without_ok (show 1 ≤ k by omega) (n:=n) (s:=s) (own_reads a3) (by simp; omega) (given.length - 1 - i) (by simp; omega)
  have e2:(g.set i 0).set (given.length - 1 - i) 0=even2 g i:=by unfold even2; rw [hl]
  rw [e2] at b3
  rw [List.length_set] at b1 b3
  have rg2:=pf_reads (a2.trans b2) rg
  have p2:=hp.trans (a2.trans b2)
  have hge:gridOk (even2 g i) n=true:=grid_le (even2_le g i) hg
  rw [evenFrom,hl]
  by_cases c:0 < g.getD i 0 ∨ 0 < g.getD (given.length - 1 - i) 0
  ·obtain ⟨H3,d1,d2⟩:=specOne_ok (show 2000201 ≤ k by omega) (hz.set p2 (own_reads b3) (by rw [even2_len]; exact hl))
   have cgt:g.getD i 0 + g.getD (given.length - 1 - i) 0 > 0:=by omega
   cases c3:oneV n (even2 g i) (rs.map R.val) with
   | true=>
    rw [c3] at d1
    rw [ip ⟨c,rfl⟩]
    obtain ⟨gt',H',f1,f2,f3⟩:=ih (i + 1) fuel H3 _ (even2 g i) (by omega) (by omega) (p2.trans d2) (by rw [even2_len]; exact hl) (own_pf (own_base b3 (h0.trans (hp.trans a2))) d2) hge
    refine ⟨gt',H',?_,f2,f3⟩
    simp (disch:=omega) only [spec_MakeEven.l2,spec_MakeEven.j3,spec_MakeEven.j5,hw,dt,Za,Zt,Zf,Zn,Zo,a1,b1,d1,AV.isAgg,AV.cel,AV.toI,AV.toS,AV.toB,if_true,decide_true,beq_self_eq_true,Zl,Zm,Zc,Zd,rdn rg2,w2,dt cgt,w1,f1]
    try rfl
   | false=>
    rw [c3] at d1
    rw [iN (fun h=>by have:=h.2; cases this)]
    obtain ⟨gt',H',f1,f2,f3⟩:=ih (i + 1) fuel H3 gt g (by omega) (by omega) (p2.trans d2) hl (own_pf ho ((a2.trans b2).trans d2)) hg
    refine ⟨gt',H',?_,f2,f3⟩
    simp (disch:=omega) only [spec_MakeEven.l2,spec_MakeEven.j3,spec_MakeEven.j5,hw,dt,Za,Zt,Zf,Zn,Zo,a1,b1,d1,AV.isAgg,AV.cel,AV.toI,AV.toS,AV.toB,if_true,decide_true,beq_self_eq_true,Zl,Zm,Zc,Zd,rdn rg2,w2,dt cgt,w1,f1]
    try rfl
  ·rw [iN (fun h=>c h.1)]
   have cgt:¬ (g.getD i 0 + g.getD (given.length - 1 - i) 0 > 0):=by omega
   obtain ⟨gt',H',f1,f2,f3⟩:=ih (i + 1) fuel H2 gt g (by omega) (by omega) p2 hl (own_pf ho (a2.trans b2)) hg
   refine ⟨gt',H',?_,f2,f3⟩
   simp (disch:=omega) only [spec_MakeEven.l2,spec_MakeEven.j3,spec_MakeEven.j5,hw,dt,Za,Zt,Zf,Zn,Zo,a1,b1,AV.isAgg,AV.cel,AV.toI,AV.toS,AV.toB,if_true,decide_true,beq_self_eq_true,Zl,Zm,Zc,Zd,rdn rg2,w2,df cgt,w1,f1]
   try rfl
theorem specMakeEven_ok {k:Nat} (hk:2000300 ≤ k) {H:Hp} {n:Int} {gs s:Sl} {given:List Int} {rs:List R} (hz:PuzAt H n gs s given rs) :
  ∃ H',H <+: H'∧((minimalOk n given (rs.map R.val)=false∧callF PP orc k spec_MakeEven.id [.agg [.int .i64 n,.sl 1 gs,.sl 3 s]] H=some (.tup [.agg [.int .i64 0,.sl 1 Sl.none,.sl 3 Sl.none],.bool false],H')) ∨
   (minimalOk n given (rs.map R.val)=true∧∃ gt st qs,callF PP orc k spec_MakeEven.id [.agg [.int .i64 n,.sl 1 gs,.sl 3 s]] H=some (.tup [.agg [.int .i64 n,.sl 1 gt,.sl 3 st],.bool true],H')∧Own 1 H H' gt ((evenV n given (rs.map R.val)).map (.int .i64))∧WR H H' st qs∧qs.map R.val=rs.map R.val∧∀ i,(h:i < qs.length)→qs[i].sl.blk ≠ gt.blk)):=by
 obtain ⟨k,rfl⟩:=Zs k (by omega)
 rw [spec_MakeEven.call]
 obtain ⟨gt,t,qs,H1,a1,a2,a3,a4,a5⟩:=OwnPuzzle_ok (show 2000002 ≤ k by omega) (n:=n) hz.rg hz.gl hz.rr hz.rl hz.rc
 have hql:qs.length=rs.length:=by have:=congrArg List.length a5; simpa using this
 have hzl:=hz.rl
 have hz1:PuzAt H1 n gt t given qs:=⟨own_reads a3,a4.reads,hz.n4,hz.gl,by rw [hql]; exact hz.rl,val_cells a5 1000 hz.rc⟩
 have h1:=specPuzzleValid_ok (show 2000003 ≤ k by omega) hz1.n4 hz1.rg hz1.gl hz1.rr hz1.rl hz1.rc
 rw [puzzle_map,a5] at h1
 unfold minimalOk
 cases c1:puzzleV n given (rs.map R.val) with
 | false=>
  rw [c1] at h1
  refine ⟨H1,a2,.inl ⟨rfl,?_⟩⟩
  simp only [spec_MakeEven.f,spec_MakeEven.j0,dt,df,bt,bf,nt,nf,Za,Zy,Zx,Zt,Zf,Zn,Zz,Zi,Zo,wr,AV.toB,AV.toI,AV.toS,if_true,a1,h1,AV.isAgg,AV.cel,Zl,Zm,Zc,Zd]
  rfl
 | true=>
  rw [c1] at h1
  obtain ⟨H2,b1,b2⟩:=specOne_ok (show 2000201 ≤ k by omega) hz1
  rw [a5] at b1
  cases c2:oneV n given (rs.map R.val) with
  | false=>
   rw [c2] at b1
   refine ⟨H2,a2.trans b2,.inl ⟨rfl,?_⟩⟩
   simp only [spec_MakeEven.f,spec_MakeEven.j0,dt,df,bt,bf,nt,nf,Za,Zy,Zx,Zt,Zf,Zn,Zz,Zi,Zo,wr,AV.toB,AV.toI,AV.toS,if_true,a1,h1,b1,AV.isAgg,AV.cel,Zl,Zm,Zc,Zd]
   rfl
  | true=>
   rw [c2] at b1
   have r1:=own_pf a3 b2
   have r2:=a4.pf b2
   have rgl:=(own_reads r1).len
   have rsl:=r2.reads.len
   have hgz:=hz.gl
   have p1:H <+: H2:=a2.trans b2
   have g1:H2 <+: H2 ++ [some (Blk.mk false (given.map (.int .i64)))]:=List.prefix_append _ _
   have g2:H2 ++ [some (Blk.mk false (given.map (.int .i64)))] <+: H2 ++ [some (Blk.mk false (given.map (.int .i64)))] ++ [some (Blk.mk false (qs.flatMap R.av))]:=List.prefix_append _ _
   have o1:=own_new 1 H2 (given.map (.int .i64)) given.length (by simp)
   have o2:=own_new 3 (H2 ++ [some (Blk.mk false (given.map (.int .i64)))]) (qs.flatMap R.av) qs.length (by rw [flat_length])
   have w2:WR H (H2 ++ [some (Blk.mk false (given.map (.int .i64)))] ++ [some (Blk.mk false (qs.flatMap R.av))]) (Sl.mk false (H2 ++ [some (Blk.mk false (given.map (.int .i64)))]).length 0 qs.length) qs:=
    ⟨own_base o2 (p1.trans g1),fun i hi=>pf_reads (g1.trans g2) (r2.rd i hi),fun i hi=>by have:=r2.lt i hi; simp; omega,fun i hi=>by have:=r2.lt i hi; simp; omega,r2.lo,r2.nn⟩
   have hz2:PuzAt (H2 ++ [some (Blk.mk false (given.map (.int .i64)))] ++ [some (Blk.mk false (qs.flatMap R.av))]) n (Sl.mk false H2.length 0 given.length) (Sl.mk false (H2 ++ [some (Blk.mk false (given.map (.int .i64)))]).length 0 qs.length) given qs:=
    ⟨pf_reads g2 (own_reads o1),w2.reads,hz.n4,hz.gl,by omega,hz1.rc⟩
   obtain ⟨gt',H',d1,d2,d3⟩:=specME_l2 (show 2000202 ≤ k by omega) (n0:=0) (g0:=Sl.none) (s0:=Sl.none) (g1.trans g2) hz2 ((given.length + 1) / 2) 0 k (H2 ++ [some (Blk.mk false (given.map (.int .i64)))] ++ [some (Blk.mk false (qs.flatMap R.av))]) (Sl.mk false H2.length 0 given.length) given (by omega) (by omega) (List.prefix_refl _) rfl (own_pf o1 g2) (puzzleV_grid c1).1
   rw [a5] at d3
   have wl:IntKind.i64.wrap ((given.length:Int) - 1)=(given.length:Int) - 1:=wr (by omega) (by omega)
   refine ⟨H',p1.trans (g1.trans (g2.trans d2)),.inr ⟨rfl,gt',_,qs,?_,own_base d3 p1,w2.pf d2,a5,fun i hi=>by have:=r2.lt i hi; have:=d3.blk; omega⟩⟩
   simp only [Int.natCast_zero] at d1
   simp (disch:=omega) only [spec_MakeEven.f,spec_MakeEven.j0,spec_MakeEven.j1,dt,df,bt,bf,nt,nf,Za,Zy,Zx,Zt,Zf,Zn,Zz,Zi,Zo,wr,AV.toB,AV.toI,AV.toS,if_true,a1,h1,b1,AV.isAgg,AV.cel,Zl,Zm,Zc,Zd,read_ok (own_reads r1),rgl,appl_ok,cells_ok]
   rw [show H2 ++ [some (Blk.mk false (given.map (AV.int .i64)))]=(H2 ++ [some (Blk.mk false (given.map (AV.int .i64)))]) from rfl,read3_ok (own_pf r2.own g1),Option.bind_some,rsl,appl3_ok _ _ _ (by omega) (flat_length qs)]
   simp only [Zo,cells3_ok,Za,Zt,wl,d1]
   rfl
def qN (a b c d:Nat):Bool:=(!(Nat.beq b 0) && Nat.beq b a) || ((!(Nat.beq c 0) && (Nat.beq c b || Nat.beq c a)) || (!(Nat.beq d 0) && (Nat.beq d c || (Nat.beq d b || Nat.beq d a))))
def clashN:List Nat→Bool
 | [a,b,c,d,e,f,g,h,i,j,k,l,m,n,o,p]=>qN a b c d || (qN e f g h || (qN i j k l || (qN m n o p || (qN a e i m || (qN b f j n || (qN c g k o || qN d h l p))))))
 | l=>clash (l.map Int.ofNat) 4
theorem line_eq (g:List Int) (c1 c2 c3 c4:Int) (a b c d:Nat) (h1:gv g c1=a) (h2:gv g c2=b) (h3:gv g c3=c) (h4:gv g c4=d):clashL g [c1,c2,c3,c4] []=qN a b c d:=by
 rw [Bool.eq_iff_iff]
 have eb:∀ x y:Nat,(Nat.beq x y=true)=(x=y):=fun x y=>by simp [Nat.beq_eq]
 simp only [clashL,h1,h2,h3,h4,qN,List.contains_cons,List.contains_nil,Bool.or_eq_true,Bool.and_eq_true,Bool.not_eq_true',Bool.or_false,beq_iff_eq,decide_eq_true_eq,Bool.false_eq_true,and_false,false_or,or_false,eb,← Bool.not_eq_true]
 omega
theorem clash_eq (l:List Nat):clash (l.map Int.ofNat) 4=clashN l:=by
 unfold clashN
 split
 ·rename_i a b c d e f g h i j k l m n o p
  have key:∀ G:List Int,clash G 4=(clashL G [0,1,2,3] [] || (clashL G [4,5,6,7] [] || (clashL G [8,9,10,11] [] || (clashL G [12,13,14,15] [] || (clashL G [0,4,8,12] [] || (clashL G [1,5,9,13] [] || (clashL G [2,6,10,14] [] || clashL G [3,7,11,15] []))))))):=fun G=>by
   have e:clash G 4=(clashL G (lineCells 4 0) [] || (clashL G (lineCells 4 1) [] || (clashL G (lineCells 4 2) [] || (clashL G (lineCells 4 3) [] || (clashL G (lineCells 4 4) [] || (clashL G (lineCells 4 5) [] || (clashL G (lineCells 4 6) [] || (clashL G (lineCells 4 7) [] || false)))))))):=rfl
   rw [e,show lineCells 4 0=[0,1,2,3] by decide,show lineCells 4 1=[4,5,6,7] by decide,show lineCells 4 2=[8,9,10,11] by decide,show lineCells 4 3=[12,13,14,15] by decide,show lineCells 4 4=[0,4,8,12] by decide,show lineCells 4 5=[1,5,9,13] by decide,show lineCells 4 6=[2,6,10,14] by decide,show lineCells 4 7=[3,7,11,15] by decide,Bool.or_false]
  rw [key]
  rw [line_eq _ 0 1 2 3 a b c d rfl rfl rfl rfl,line_eq _ 4 5 6 7 e f g h rfl rfl rfl rfl,line_eq _ 8 9 10 11 i j k l rfl rfl rfl rfl,line_eq _ 12 13 14 15 m n o p rfl rfl rfl rfl,
   line_eq _ 0 4 8 12 a e i m rfl rfl rfl rfl,line_eq _ 1 5 9 13 b f j n rfl rfl rfl rfl,line_eq _ 2 6 10 14 c g k o rfl rfl rfl rfl,line_eq _ 3 7 11 15 d h l p rfl rfl rfl rfl]
 ·rfl
def cntN:Nat→List Nat→Nat
 | 0,_=>1
 | rem + 1,l=>
  (bif clashN (l.set (15 - rem) 1) then 0 else cntN rem (l.set (15 - rem) 1)) + ((bif clashN (l.set (15 - rem) 2) then 0 else cntN rem (l.set (15 - rem) 2)) +
  ((bif clashN (l.set (15 - rem) 3) then 0 else cntN rem (l.set (15 - rem) 3)) + ((bif clashN (l.set (15 - rem) 4) then 0 else cntN rem (l.set (15 - rem) 4)) + 0)))
theorem cnt_eq:∀ (rem:Nat) (l:List Nat),cnt 4 rem (l.map Int.ofNat)=cntN rem l
 | 0,l=>rfl
 | rem + 1,l=>by
  have hs:∀ (v:Nat) (w:Int),w=Int.ofNat v→(if clash ((l.map Int.ofNat).set (16 - (rem + 1)) w) 4=true then 0 else cnt 4 rem ((l.map Int.ofNat).set (16 - (rem + 1)) w))=(bif clashN (l.set (15 - rem) v) then 0 else cntN rem (l.set (15 - rem) v)):=by
   rintro v w rfl
   rw [show 16 - (rem + 1)=15 - rem by omega,← List.map_set,clash_eq,cnt_eq rem]
   cases clashN (l.set (15 - rem) v) <;> rfl
  show cntV _ 4 1=_
  simp only [cntV]
  rw [cntN]
  exact congr (congrArg _ (hs 1 1 rfl)) (congr (congrArg _ (hs 2 (1 + 1) rfl)) (congr (congrArg _ (hs 3 (1 + 1 + 1) rfl)) (congr (congrArg _ (hs 4 (1 + 1 + 1 + 1) rfl)) rfl)))
set_option maxRecDepth 100000 in
theorem cntN4:cntN 16 (List.replicate 16 0)=576:=by decide +kernel
theorem cnt4:cnt 4 16 (List.replicate 16 0)=576:=by
 have:=cnt_eq 16 (List.replicate 16 0)
 rw [cntN4] at this
 simpa using this
set_option maxRecDepth 100000 in
theorem cnt2:cnt 2 4 (List.replicate 4 0)=2:=by decide +kernel
set_option maxRecDepth 100000 in
theorem cnt3:cnt 3 9 (List.replicate 9 0)=12:=by decide +kernel
def many (n:Int):Nat:=if n=2 then 2 else if n=3 then 12 else 576
theorem many_le (n:Int):1 ≤ many n∧many n ≤ 576:=by
 unfold many
 split
 ·omega
 ·split <;> omega
theorem cnt_many {n:Int} (hn:2 ≤ n∧n ≤ 4):cnt n (n * n).toNat (List.replicate (n * n).toNat 0)=many n:=by
 have:n=2 ∨ n=3 ∨ n=4:=by omega
 rcases this with rfl | rfl | rfl
 ·exact cnt2
 ·exact cnt3
 ·exact cnt4
def fullG (g:List Int) (n:Int):Prop:=g.length=(n * n).toNat∧∀ v ∈ g,1 ≤ v∧v ≤ n
theorem SquareNumber_ok {k:Nat} (hk:2000100 ≤ k) {n x:Int} (hn:2 ≤ n∧n ≤ 4) (hx:0 ≤ x∧x < (many n:Int)) (H:Hp) :
  ∃ t g H',callF PP orc k spec_SquareNumber.id [.int .i64 n,.int .i64 x] H=some (.sl 1 t,H')∧H <+: H'∧Own 1 H H' t (g.map (.int .i64))∧fullG g n:=by
 obtain ⟨k,rfl⟩:=Zs k (by omega)
 rw [spec_SquareNumber.call]
 have hnn:0 ≤ n * n∧n * n ≤ 16:=by
  have:n=2 ∨ n=3 ∨ n=4:=by omega
  rcases this with rfl | rfl | rfl <;> decide
 obtain ⟨left,rfl⟩:=Int.eq_ofNat_of_zero_le hx.1
 have hmany:many n ≤ 576:=(many_le n).2
 have w:IntKind.i64.wrap (n * n)=n * n:=wr (by omega) (by omega)
 obtain ⟨H3,a1,a2,a3,a4⟩:=sto1' (H:=H ++ [some (Blk.mk false [.int .i64 0])]) (b:=H.length) (x:=.int .i64 0) (by simp) (.int .i64 (left:Int))
 have hp3:H <+: H3:=a3.pf (Nat.le_refl _) (List.prefix_append _ _) (by omega)
 have hl3:H3.length=H.length + 1:=by rw [a4]; simp
 have e0:∀ N:Nat,(List.replicate N [AV.int .i64 0]).flatten=(List.replicate N 0).map (.int .i64):=fun N=>by
  induction N with
  | zero=>rfl
  | succ N ih=>simp [List.replicate_succ,ih]
 have hnew:=own_new 1 H3 ((List.replicate (n * n).toNat 0).map (.int .i64)) (n * n).toNat (by simp)
 have hgz:gridOk (List.replicate (n * n).toNat 0) n=true:=(gridOk_iff _ _).2 ⟨hn,by simp; omega,fun v hv=>by have:=(List.mem_replicate.1 hv).2; omega⟩
 obtain ⟨a,H4,b1,b2,b3,b4⟩:=l2Search_ok (b:=H.length) hn (n * n).toNat (k:=k) (by omega) (H:=H3 ++ [some (Blk.mk false ((List.replicate (n * n).toNat 0).map (.int .i64)))]) (left:=left) (Nat.le_refl _) (own_reads hnew) (by simp only; omega) hgz (fun i hi=>by omega) (pf_get (List.prefix_append _ _) a2) (by omega)
 obtain ⟨t,g',rfl,c1,c2,c3,c4⟩:=b3 (by rw [cnt_many hn]; omega)
 have d1:=read_ok c1
 have d2:=appl_ok H4 g' .i64 (by omega)
 have hp4:H <+: H4:=b2.but.pf (Nat.le_refl _) (hp3.trans (List.prefix_append _ _)) b2.le
 refine ⟨_,g',_,?_,hp4.trans (List.prefix_append _ _),own_base (own_new 1 H4 (g'.map (.int .i64)) g'.length (by simp)) hp4,c2,c3⟩
 have hx0:¬ ((left:Int) < 0):=by omega
 simp only [Nat.sub_self] at b1
 have tl:=c1.len
 simp only [spec_SquareNumber.f,spec_SquareNumber.j0,spec_SquareNumber.j1,l1In_ok (show 1 ≤ k by omega),hn,and_self,decide_true,Zo,AV.toB,Zy,Zf,hx0,decide_false,a1,w,e0]
 rw [if_pos (by omega)]
 have b1':callF PP orc k spec_l2Search.id [.sl 1 (Sl.mk false H3.length 0 (n * n).toNat),.int .i64 n,.int .i64 0,.ptr H.length 0] (H3 ++ [some (Blk.mk false ((List.replicate (n * n).toNat 0).map (.int .i64)))])=some (.sl 1 t,H4):=b1
 simp only [b1',Zo,AV.toS,if_true,d1,tl,d2,cells_ok,Za,Zt]
theorem l20Solved_ok {k:Nat} (hk:2000101 ≤ k) {b:Nat} {H:Hp} {l:List Int} {p:Nat} (h:RD b H l p) (hp:p ≤ 999999990) {n:Int} (hn:2 ≤ n∧n ≤ 4) :
  ∃ t g p' H',callF PP orc k spec_l20Solved.id [.ptr b 0,.int .i64 n] H=some (.sl 1 t,H')∧RD b H' l p'∧p' ≤ p + 2∧Adv b H H'∧Own 1 H H' t (g.map (.int .i64))∧fullG g n:=by
 obtain ⟨k,rfl⟩:=Zs k (by omega)
 rw [spec_l20Solved.call]
 have w:IntKind.i64.wrap (n - 2)=n - 2:=wr (by omega) (by omega)
 have hnew:=own_new 1 H ([2,12,576].map (.int .i64)) 3 rfl
 have h0:RD b (H ++ [some (Blk.mk false ([2,12,576].map (.int .i64)))]) l p:=h.pf (List.prefix_append _ _)
 obtain ⟨v,H2,a1,a2,a3,a4,a5,a6,a7⟩:=pick_ok (show 1 ≤ k by omega) h0 (by omega) 256
 obtain ⟨u,H3,b1,b2,b3,b4,b5,b6,b7⟩:=pick_ok (show 1 ≤ k by omega) a2 (by omega) 3
 have hv:=a6 (by omega)
 have hu:=b6 (by omega)
 have hm:ldI .i64 (H ++ [some (Blk.mk false ([2,12,576].map (.int .i64)))]) H.length (0 + (n - 2).toNat)=some (many n:Int):=by
  have:n=2 ∨ n=3 ∨ n=4:=by omega
  rcases this with rfl | rfl | rfl
  ·exact reads_at (own_reads hnew) 0 (by simp)
  ·exact reads_at (own_reads hnew) 1 (by simp)
  ·exact reads_at (own_reads hnew) 2 (by simp)
 have hmp:1 ≤ many n:=(many_le n).1
 have hmp2:many n ≤ 576:=(many_le n).2
 have w1:IntKind.i64.wrap (v * 3)=v * 3:=wr (by omega) (by omega)
 have w2:IntKind.i64.wrap (v * 3 + u)=v * 3 + u:=wr (by omega) (by omega)
 have m0:0 ≤ (v * 3 + u).tmod (many n:Int):=Int.tmod_nonneg _ (by omega)
 have m1:(v * 3 + u).tmod (many n:Int) < (many n:Int):=Int.tmod_lt_of_pos _ (by omega)
 obtain ⟨t,g,H4,c1,c2,c3,c4⟩:=SquareNumber_ok (show 2000100 ≤ k by omega) hn ⟨m0,m1⟩ H3
 have adv:Adv b H H3:=⟨fun c x hc hx=>b3 c x hc (a3 c x hc (pf_get (List.prefix_append _ _) hx)),by rw [b4,a4]; simp⟩
 refine ⟨t,g,p + 1 + 1,H4,?_,b2.pf c2,by omega,adv.trans (pf_adv c2),⟨c3.nn,c3.off,Nat.le_trans adv.le c3.blk,c3.get,c3.len⟩,c4⟩
 have q0:(0:Int) ≤ n - 2:=by omega
 have q1:n - 2 < ((3:Nat):Int):=by omega
 have hz:¬ ((many n:Int)=0):=by omega
 simp only [List.map_cons,List.map_nil] at hm a1
 simp only [spec_l20Solved.f,w,q0,q1,decide_true,Za,Zt,Nat.mul_one,hm,Zo,a1,b1,AV.toI,if_true,hz,if_false,w1,w2,c1,AV.toS]
theorem pick_adv {k:Nat} (hk:1 ≤ k) {b:Nat} {H:Hp} {l:List Int} {p:Nat} (h:RD b H l p) (hp:p ≤ 1000000000) (n:Int) :
  ∃ v H',callF PP orc k spec_l20Rd_pick.id [.ptr b 0,.int .i64 n] H=some (.int .i64 v,H')∧RD b H' l (p + 1)∧Adv b H H'∧0 ≤ v∧(1 ≤ n→v < n):=by
 obtain ⟨v,H',a1,a2,a3,a4,a5,a6,a7⟩:=pick_ok hk h hp n
 exact ⟨v,H',a1,a2,⟨a3,by omega⟩,a5,a6⟩
theorem odd_adv {k:Nat} (hk:2 ≤ k) {b:Nat} {H:Hp} {l:List Int} {p:Nat} (h:RD b H l p) (hp:p ≤ 1000000000) {n:Int} (hn:n < 1000000) :
  ∃ v p' H',callF PP orc k spec_l20Rd_odd.id [.ptr b 0,.int .i64 n] H=some (.bool v,H')∧RD b H' l p'∧p' ≤ p + 1∧Adv b H H'∧(n ≤ 0→v=false):=by
 obtain ⟨v,p',H',a1,a2,a3,a4,a5,a6⟩:=odd_ok hk h hp hn
 exact ⟨v,p',H',a1,a2,a3,⟨a4,by omega⟩,a6⟩
theorem lit_pick {k:Nat} (hk:1 ≤ k) {b:Nat} {H:Hp} {l:List Int} {p:Nat} (h:RD b H l p) (hp:p ≤ 1000000000) (c:List Int) (hc:1 ≤ c.length) (n:Int) (hn:n=(c.length:Int)) :
  ∃ v x H',callF PP orc k spec_l20Rd_pick.id [.ptr b 0,.int .i64 n] (H ++ [some (Blk.mk false (c.map (.int .i64)))])=some (.int .i64 v,H')∧RD b H' l (p + 1)∧Adv b H H'∧0 ≤ v∧v < n∧ldI .i64 H' H.length (0 + v.toNat * 1)=some x∧x ∈ c:=by
 obtain ⟨v,H',a1,a2,a3,a4,a5,a6,a7⟩:=pick_ok hk (h.pf (List.prefix_append H [some (Blk.mk false (c.map (.int .i64)))])) hp n
 have h1:=a6 (by omega)
 obtain ⟨x,c1,c2⟩:=among a3 h.lt a5 (by omega)
 exact ⟨v,x,H',a1,a2,⟨fun c y hc hy=>a3 c y hc (pf_get (List.prefix_append _ _) hy),by rw [a4]; simp⟩,a5,h1,by rw [Nat.mul_one]; exact c1,c2⟩
def CellsIn (n:Int) (cells:List Int):Prop:=(∀ c ∈ cells,0 ≤ c∧c < n * n)∧cells.Nodup
theorem cellsOk_of {n:Int} {cells:List Int} (h:CellsIn n cells):∀ (j i:Nat),i + j=cells.length→cellsOk n cells i j=true
 | 0,_,_=>rfl
 | j + 1,i,hi=>by
  have h2:i < cells.length:=by omega
  rw [cellsOk,cellsOk_of h j (i + 1) (by omega),Bool.and_true,Bool.and_eq_true,decide_eq_true_eq,Bool.not_eq_true']
  have h3:=h.1 _ (mem_getD h2)
  refine ⟨by omega,?_⟩
  have e:cells.getD i 0=cells[i]:=by simp [List.getD_eq_getElem?_getD,h2]
  rw [e,← Bool.not_eq_true,List.contains_iff_mem]
  intro hm
  obtain ⟨m,hm1,hm2⟩:=List.getElem_of_mem hm
  simp only [List.length_take] at hm1
  simp only [List.getElem_take] at hm2
  exact List.pairwise_iff_getElem.1 h.2 m i (by omega) h2 (by omega) hm2
theorem CellsIn.take {n:Int} {cells:List Int} (h:CellsIn n cells) (m:Nat):CellsIn n (cells.take m):=⟨fun c hc=>h.1 c (List.mem_of_mem_take hc),h.2.sublist (List.take_sublist _ _)⟩
theorem CellsIn.two {n:Int} {cells:List Int} (h:CellsIn n cells) (h2:2 ≤ cells.length):CellsIn n [cells.getD 0 0,cells.getD 1 0]∧CellsIn n [cells.getD 1 0,cells.getD 0 0]:=by
 have a0:=h.1 _ (mem_getD (show 0 < cells.length by omega))
 have a1:=h.1 _ (mem_getD (show 1 < cells.length by omega))
 have e0:cells.getD 0 0=cells[0]:=by simp [List.getD_eq_getElem?_getD,show 0 < cells.length by omega]
 have e1:cells.getD 1 0=cells[1]:=by simp [List.getD_eq_getElem?_getD,show 1 < cells.length by omega]
 have hne:cells.getD 0 0 ≠ cells.getD 1 0:=by
  rw [e0,e1]; intro e
  exact List.pairwise_iff_getElem.1 h.2 0 1 (by omega) (by omega) (by omega) e
 generalize cells.getD 0 0=x at *
 generalize cells.getD 1 0=y at *
 exact ⟨⟨by simp; omega,by simpa using hne⟩,⟨by simp; omega,by simpa using Ne.symm hne⟩⟩
theorem ruleOk_of {n kind value:Int} {cells:List Int} (h:CellsIn n cells) (hk:kindOk n kind value cells.length=true):ruleOk n kind cells value=true:=by
 unfold ruleOk; rw [cellsOk_of h cells.length 0 (by omega),hk]; rfl
def RuleDraw (b:Nat) (l:List Int) (n x3:Int) (p0:Nat) (H0:Hp) (r:An):Prop:=
 ∃ kind cs value cells p' H',r=some (.agg [.int .i64 kind,.sl 1 cs,.int .i64 value],H')∧RD b H' l p'∧p' ≤ p0∧Adv b H0 H'∧Reads .i64 H' cs cells∧cs.blk ≠ b∧H0.length ≤ cs.blk∧cs.blk < H'.length∧cs.nil=false∧cells.length ≤ 5∧(x3 ≤ 0→ruleOk n kind cells value=true)
theorem Rule_j10 {k:Nat} (hk:10 ≤ k) {b:Nat} {l:List Int} {n x3:Int} (hn:2 ≤ n∧n ≤ 4) (hx3:x3 < 1000000) {p p0:Nat} (hp:p + 3 ≤ p0) (hp0:p0 ≤ 1000000000) {H0 H:Hp} (hadv:Adv b H0 H) (hb:b < H0.length) (hrd:RD b H l p) {kind value y0 y2:Int} {y1 cs:Sl} {cells:List Int} (hc:Reads .i64 H cs cells) (hcb:H0.length ≤ cs.blk) (hcl:cs.blk < H.length) (hcn:cs.nil=false) (h1:1 ≤ cells.length) (h4:cells.length ≤ 4) (hr:ruleOk n kind cells value=true) :
  RuleDraw b l n x3 p0 H0 (spec_l20Rule.j10 (callF PP orc k) k b 0 n x3 y0 y1 y2 kind cs value H):=by
 have h7:=n7 (n:=n) (by omega)
 obtain ⟨v,p1,H1,a1,a2,a3,a4,a5⟩:=odd_adv (show 2 ≤ k by omega) hrd (by omega) hx3
 have hcne:cs.blk ≠ b:=by omega
 have hle:=a4.le
 have hcs:=hc.len
 cases v with
 | false=>exact ⟨kind,cs,value,cells,p1,H1,by simp only [spec_l20Rule.j10,spec_l20Rule.j12,dt,df,bt,bf,nt,nf,Za,Zy,Zx,Zt,Zf,Zn,Zz,Zi,Zo,wr,AV.toB,AV.toI,AV.toS,if_true,a1],a2,by omega,hadv.trans a4,a4.reads hcne hc,hcne,hcb,by omega,hcn,by omega,fun _=>hr⟩
 | true=>
  have hx:¬ x3 ≤ 0:=fun h=>by have:=a5 h; cases this
  obtain ⟨v,H2,b1,b2,b3,b4,b5⟩:=pick_adv (show 1 ≤ k by omega) a2 (by omega) 4
  have adv2:=(hadv.trans a4).trans b3
  have hc2:=(a4.trans b3).reads hcne hc
  have hle2:=b3.le
  have hb2:b < H2.length:=b2.lt
  by_cases v0:v=0
  ·obtain ⟨w,x,H3,c1,c2,c3,c4,c5,c6,c7⟩:=lit_pick (show 1 ≤ k by omega) b2 (by omega) [0,6] (by simp) 2 rfl
   simp only [List.map_cons,List.map_nil] at c1
   have hle3:=c3.le
   refine ⟨x,cs,value,cells,_,H3,?_,c2,by omega,adv2.trans c3,c3.reads hcne hc2,hcne,hcb,by omega,hcn,by omega,fun h=>absurd h hx⟩
   simp (disch:=omega) only [spec_l20Rule.j10,spec_l20Rule.j12,dt,df,bt,bf,nt,nf,Za,Zy,Zx,Zt,Zf,Zn,Zz,Zi,Zo,wr,AV.toB,AV.toI,AV.toS,if_true,a1,b1,v0,c1,c6]
  ·by_cases v1:v=1
   ·obtain ⟨H3,c1,c2,c3⟩:=copy_app hc2 (by omega) (cells.getD 0 0)
    have hst:=stable_ok hc2 (pf_reads (List.prefix_append H2 [some (Blk.mk false (cells.map (.int .i64)))]) hc2) (show 0 < cells.length by omega)
    refine ⟨kind,_,value,cells ++ [cells.getD 0 0],_,H3,?_,b2.pf c2,by omega,adv2.trans (pf_adv c2),own_reads c3,by have:=adv2.le; simp only; omega,by have:=adv2.le; simp only; omega,own_lt' c3,rfl,by simp; omega,fun h=>absurd h hx⟩
    simp (disch:=omega) only [spec_l20Rule.j10,spec_l20Rule.j12,dt,df,bt,bf,nt,nf,Za,Zy,Zx,Zt,Zf,Zn,Zz,Zi,Zo,wr,AV.toB,AV.toI,AV.toS,if_true,a1,b1,v1,rdn hc2,read_ok hc2,hcs,appl_ok,cells_ok,hst,c1]
   ·by_cases v2:v=2
    ·have hnew:=own_new 1 H2 (([n * n,0]:List Int).map (.int .i64)) 2 rfl
     refine ⟨kind,_,value,[n * n,0],_,_,?_,b2.pf (List.prefix_append H2 [some (Blk.mk false (([n * n,0]:List Int).map (.int .i64)))]),by omega,adv2.trans (pf_adv (List.prefix_append _ _)),own_reads hnew,by have:=adv2.le; simp only; omega,by have:=adv2.le; simp only; omega,own_lt' hnew,rfl,by simp,fun h=>absurd h hx⟩
     simp (disch:=omega) only [spec_l20Rule.j10,spec_l20Rule.j12,dt,df,bt,bf,nt,nf,Za,Zy,Zx,Zt,Zf,Zn,Zz,Zi,Zo,wr,AV.toB,AV.toI,AV.toS,if_true,a1,b1,v2,List.map_cons,List.map_nil]
    ·obtain ⟨w,x,H3,c1,c2,c3,c4,c5,c6,c7⟩:=lit_pick (show 1 ≤ k by omega) b2 (by omega) [-1,257] (by simp) 2 rfl
     simp only [List.map_cons,List.map_nil] at c1
     have hle3:=c3.le
     refine ⟨kind,cs,x,cells,_,H3,?_,c2,by omega,adv2.trans c3,c3.reads hcne hc2,hcne,hcb,by omega,hcn,by omega,fun h=>absurd h hx⟩
     simp (disch:=omega) only [spec_l20Rule.j10,spec_l20Rule.j12,dt,df,bt,bf,nt,nf,Za,Zy,Zx,Zt,Zf,Zn,Zz,Zi,Zo,wr,AV.toB,AV.toI,AV.toS,if_true,a1,b1,c1,c6]
theorem kindOk_sum {n v:Int} {m:Nat} (hn:2 ≤ n∧n ≤ 4) (h1:1 ≤ m) (h4:m ≤ 4) (v1:1 ≤ v) (v2:v ≤ n * n * n * n) (kind:Int) (hk:kind=2 ∨ kind=3):kindOk n kind v m=true:=by
 unfold kindOk
 rcases hk with rfl | rfl <;> simp <;> omega
theorem kindOk5 {n v:Int} (h:0 ≤ v∧v < n):kindOk n 5 v 2=true:=by
 unfold kindOk; simp; exact h
theorem Rule_j7 {k:Nat} (hk:20 ≤ k) {b:Nat} {l:List Int} {n x3:Int} (hn:2 ≤ n∧n ≤ 4) (hx3:x3 < 1000000) {p p0:Nat} (hp:p + 4 ≤ p0) (hp0:p0 ≤ 1000000000) {H0 H:Hp} (hadv:Adv b H0 H) (hb:b < H0.length) (hrd:RD b H l p) {sum prod y0 y2:Int} {y1 xs cs:Sl} {g cells:List Int} (hx:Reads .i64 H xs g) (hxb:xs.blk ≠ b) (hg:fullG g n) (hc:Reads .i64 H cs cells) (hcb:H0.length ≤ cs.blk) (hcl:cs.blk < H.length) (hcn:cs.nil=false) (h1:1 ≤ cells.length) (h4:cells.length ≤ 4) (hin:CellsIn n cells) (hs1:1 ≤ sum) (hs2:sum ≤ n * n * n * n) (hq1:1 ≤ prod) (hq2:prod ≤ n * n * n * n) :
  RuleDraw b l n x3 p0 H0 (spec_l20Rule.j7 (callF PP orc k) k b 0 xs n x3 cs sum prod y0 y1 y2 H):=by
 obtain ⟨v,H2,b1,b2,b3,b4,b5⟩:=pick_adv (show 1 ≤ k by omega) hrd (by omega) 5
 have h7:=n7 (n:=n) (by omega)
 have hcne:cs.blk ≠ b:=by omega
 have adv2:=hadv.trans b3
 have hc2:=b3.reads hcne hc
 have hx2:=b3.reads hxb hx
 have hle2:=b3.le
 have hle0:=adv2.le
 have hcs:=hc.len
 have hxs:=hx.len
 have hgl:(g.length:Int)=n * n:=by have:=hg.1; omega
 have hm:mx 1 sum=sum:=by unfold mx; split <;> omega
 have hsum:=Rule_j10 (show 10 ≤ k by omega) hn hx3 (p:=p + 1) (p0:=p0) (by omega) hp0 adv2 hb b2 (y0:=y0) (y1:=y1) (y2:=y2) hc2 hcb (by omega) hcn h1 h4 (ruleOk_of hin (kindOk_sum hn h1 h4 hs1 hs2 2 (.inl rfl)))
 have gvs:∀ i,i < cells.length→(0 ≤ cells.getD i 0∧cells.getD i 0 < (g.length:Int))∧1 ≤ g.getD (cells.getD i 0).toNat 0∧g.getD (cells.getD i 0).toNat 0 ≤ n:=fun i hi=>by
  have a:=hin.1 _ (mem_getD hi)
  have hlt:(cells.getD i 0).toNat < g.length:=by omega
  exact ⟨by omega,hg.2 _ (mem_getD hlt)⟩
 by_cases v0:v=0
 ·have:=Rule_j10 (show 10 ≤ k by omega) hn hx3 (p:=p + 1) (p0:=p0) (by omega) hp0 adv2 hb b2 (y0:=y0) (y1:=y1) (y2:=y2) hc2 hcb (by omega) hcn h1 h4 (ruleOk_of hin (kindOk_sum hn h1 h4 hq1 hq2 3 (.inr rfl)))
  simp only [spec_l20Rule.j7,b1,Zo,AV.toI,if_true]
  rw [bt v0,cond_true]
  exact this
 by_cases c2:2 ≤ cells.length
 ·obtain ⟨⟨g00,g01⟩,g02,g03⟩:=gvs 0 (by omega)
  obtain ⟨⟨g10,g11⟩,g12,g13⟩:=gvs 1 (by omega)
  obtain ⟨two1,two2⟩:=hin.two c2
  have ht:=reads_take hc2 2 (by omega) cs.nil
  have hsl:Sl.mk cs.nil cs.blk (cs.off + 0 * 1) ((2:Int) - 0).toNat=Sl.mk cs.nil cs.blk cs.off 2:=rfl
  by_cases v1:v=1
  ·have q1:H2 <+: H2 ++ [some (Blk.mk false (([cells.getD 0 0,cells.getD 1 0]:List Int).map (.int .i64)))]:=List.prefix_append _ _
   have hnew:=own_new 1 H2 (([cells.getD 0 0,cells.getD 1 0]:List Int).map (.int .i64)) 2 rfl
   by_cases cg:g.getD (cells.getD 0 0).toNat 0 > g.getD (cells.getD 1 0).toNat 0
   ·have q2:H2 ++ [some (Blk.mk false (([cells.getD 0 0,cells.getD 1 0]:List Int).map (.int .i64)))] <+: H2 ++ [some (Blk.mk false (([cells.getD 0 0,cells.getD 1 0]:List Int).map (.int .i64)))] ++ [some (Blk.mk false (([cells.getD 1 0,cells.getD 0 0]:List Int).map (.int .i64)))]:=List.prefix_append _ _
    have hnew2:=own_new 1 (H2 ++ [some (Blk.mk false (([cells.getD 0 0,cells.getD 1 0]:List Int).map (.int .i64)))]) (([cells.getD 1 0,cells.getD 0 0]:List Int).map (.int .i64)) 2 rfl
    have:=Rule_j10 (show 10 ≤ k by omega) hn hx3 (p:=p + 1) (p0:=p0) (by omega) hp0 (adv2.trans (pf_adv (q1.trans q2))) hb (b2.pf (q1.trans q2)) (kind:=4) (value:=0) (y0:=y0) (y1:=y1) (y2:=y2) (own_reads hnew2) (by simp; omega) (own_lt' hnew2) rfl (by simp) (by simp) (ruleOk_of two2 (by simp [kindOk]))
    have r1:=rdn (pf_reads q1 hc2) (i:=0) (by omega)
    have r2:=rdn (pf_reads q1 hc2) (i:=1) (by omega)
    have r3:=rdn (pf_reads q1 hx2) (i:=(cells.getD 0 0).toNat) (by omega)
    have r4:=rdn (pf_reads q1 hx2) (i:=(cells.getD 1 0).toNat) (by omega)
    simp only [List.map_cons,List.map_nil] at this r1 r2 r3 r4
    simp only [spec_l20Rule.j7,b1,Zo,AV.toI,if_true]
    rw [bf v0,cond_false,bt v1,cond_true]
    simp (disch:=omega) only [dt,df,bt,bf,nt,nf,Za,Zy,Zx,Zt,Zf,Zn,Zz,Zi,Zo,wr,AV.toB,AV.toI,AV.toS,if_true,rdn hc2,r1,r2,r3,r4]
    exact this
   ·have:=Rule_j10 (show 10 ≤ k by omega) hn hx3 (p:=p + 1) (p0:=p0) (by omega) hp0 (adv2.trans (pf_adv q1)) hb (b2.pf q1) (kind:=4) (value:=0) (y0:=y0) (y1:=y1) (y2:=y2) (own_reads hnew) (by simp; omega) (own_lt' hnew) rfl (by simp) (by simp) (ruleOk_of two1 (by simp [kindOk]))
    have r1:=rdn (pf_reads q1 hc2) (i:=0) (by omega)
    have r2:=rdn (pf_reads q1 hc2) (i:=1) (by omega)
    have r3:=rdn (pf_reads q1 hx2) (i:=(cells.getD 0 0).toNat) (by omega)
    have r4:=rdn (pf_reads q1 hx2) (i:=(cells.getD 1 0).toNat) (by omega)
    simp only [List.map_cons,List.map_nil] at this r1 r2 r3 r4
    simp only [spec_l20Rule.j7,b1,Zo,AV.toI,if_true]
    rw [bf v0,cond_false,bt v1,cond_true]
    simp (disch:=omega) only [dt,df,bt,bf,nt,nf,Za,Zy,Zx,Zt,Zf,Zn,Zz,Zi,Zo,wr,AV.toB,AV.toI,AV.toS,if_true,rdn hc2,r1,r2,r3,r4]
    exact this
  by_cases v2:v=2
  ·have hd:=gvs 0 (by omega)
   have hval:0 ≤ mn (n - 1) (mx (g.getD (cells.getD 0 0).toNat 0 - g.getD (cells.getD 1 0).toNat 0) (0 - (g.getD (cells.getD 0 0).toNat 0 - g.getD (cells.getD 1 0).toNat 0)))∧mn (n - 1) (mx (g.getD (cells.getD 0 0).toNat 0 - g.getD (cells.getD 1 0).toNat 0) (0 - (g.getD (cells.getD 0 0).toNat 0 - g.getD (cells.getD 1 0).toNat 0))) < n:=by
    unfold mn mx; repeat' split
    all_goals omega
   have:=Rule_j10 (show 10 ≤ k by omega) hn hx3 (p:=p + 1) (p0:=p0) (by omega) hp0 adv2 hb b2 (kind:=5) (y0:=y0) (y1:=y1) (y2:=y2) ht hcb (by simp only; omega) hcn (by simp; omega) (by simp; omega) (ruleOk_of (hin.take 2) (show kindOk n 5 (mn (n - 1) (mx (g.getD (cells.getD 0 0).toNat 0 - g.getD (cells.getD 1 0).toNat 0) (0 - (g.getD (cells.getD 0 0).toNat 0 - g.getD (cells.getD 1 0).toNat 0)))) (cells.take 2).length=true by
    rw [List.length_take,show min 2 cells.length=2 by omega]; exact kindOk5 hval))
   simp only [spec_l20Rule.j7,b1,Zo,AV.toI,if_true]
   rw [bf v0,cond_false,bf v1,cond_false,bt v2,cond_true]
   simp (disch:=omega) only [dt,df,bt,bf,nt,nf,Za,Zy,Zx,Zt,Zf,Zn,Zz,Zi,Zo,wr,AV.toB,AV.toI,AV.toS,if_true,rdn hc2,rdn hx2]
   rw [ip (by simp; omega),hsl]
   exact this
  by_cases v3:v=3
  ·have:=Rule_j10 (show 10 ≤ k by omega) hn hx3 (p:=p + 1) (p0:=p0) (by omega) hp0 adv2 hb b2 (kind:=1) (value:=0) (y0:=y0) (y1:=y1) (y2:=y2) ht hcb (by simp only; omega) hcn (by simp; omega) (by simp; omega) (ruleOk_of (hin.take 2) (by
    rw [List.length_take,show min 2 cells.length=2 by omega]; unfold kindOk; simp))
   simp only [spec_l20Rule.j7,b1,Zo,AV.toI,if_true]
   rw [bf v0,cond_false,bf v1,cond_false,bf v2,cond_false,bt v3,cond_true]
   simp (disch:=omega) only [dt,df,bt,bf,nt,nf,Za,Zy,Zx,Zt,Zf,Zn,Zz,Zi,Zo,wr,AV.toB,AV.toI,AV.toS,if_true]
   rw [ip (by simp; omega),hsl]
   exact this
  ·simp only [spec_l20Rule.j7,b1,Zo,AV.toI,if_true]
   rw [bf v0,cond_false,bf v1,cond_false,bf v2,cond_false,bf v3,cond_false]
   simp (disch:=omega) only [dt,df,bt,bf,nt,nf,Za,Zy,Zx,Zt,Zf,Zn,Zz,Zi,Zo,wr,AV.toB,AV.toI,AV.toS,if_true,hm]
   exact hsum
 ·by_cases v1:v=1
  ·simp only [spec_l20Rule.j7,b1,Zo,AV.toI,if_true]
   rw [bf v0,cond_false,bt v1,cond_true]
   simp (disch:=omega) only [dt,df,bt,bf,nt,nf,Za,Zy,Zx,Zt,Zf,Zn,Zz,Zi,Zo,wr,AV.toB,AV.toI,AV.toS,if_true,hm]
   exact hsum
  by_cases v2:v=2
  ·simp only [spec_l20Rule.j7,b1,Zo,AV.toI,if_true]
   rw [bf v0,cond_false,bf v1,cond_false,bt v2,cond_true]
   simp (disch:=omega) only [dt,df,bt,bf,nt,nf,Za,Zy,Zx,Zt,Zf,Zn,Zz,Zi,Zo,wr,AV.toB,AV.toI,AV.toS,if_true,hm]
   exact hsum
  by_cases v3:v=3
  ·simp only [spec_l20Rule.j7,b1,Zo,AV.toI,if_true]
   rw [bf v0,cond_false,bf v1,cond_false,bf v2,cond_false,bt v3,cond_true]
   simp (disch:=omega) only [dt,df,bt,bf,nt,nf,Za,Zy,Zx,Zt,Zf,Zn,Zz,Zi,Zo,wr,AV.toB,AV.toI,AV.toS,if_true,hm]
   exact hsum
  ·simp only [spec_l20Rule.j7,b1,Zo,AV.toI,if_true]
   rw [bf v0,cond_false,bf v1,cond_false,bf v2,cond_false,bf v3,cond_false]
   simp (disch:=omega) only [dt,df,bt,bf,nt,nf,Za,Zy,Zx,Zt,Zf,Zn,Zz,Zi,Zo,wr,AV.toB,AV.toI,AV.toS,if_true,hm]
   exact hsum
theorem Rule_l6 (rec:Rec) (k:Nat) (L0:Nat→Nat→Sl→Int→Int→Sl→Int→Int→Int→Sl→Int→Hp→An) {b:Nat} {xs t:Sl} {n x3 many kk c y0 y2:Int} {y1:Sl} {H:Hp} {cells:List Int} (ht:Reads .i64 H t cells) (hl:cells.length ≤ 1000) :
  ∀ (j i fuel:Nat) (d:Bool),i + j=cells.length→j < fuel→spec_l20Rule.l6 rec k L0 fuel b 0 xs n x3 t many kk c d i y0 y1 y2 H=spec_l20Rule.j9 rec k L0 b 0 xs n x3 t many kk c (d && !(cells.drop i).contains c) y0 y1 y2 H:=by
 have hlen:=ht.len
 intro j
 induction j with
 | zero=>
  intro i fuel d hi hf
  obtain ⟨fuel,rfl⟩:=Zs fuel (by omega)
  rw [List.drop_eq_nil_of_le (by omega)]
  simp (disch:=omega) only [spec_l20Rule.l6,dt,df,bt,bf,nt,nf,Za,Zy,Zx,Zt,Zf,Zn,Zz,Zi,Zo,wr,AV.toB,AV.toI,AV.toS,if_true,List.contains_nil,Bool.and_true]
 | succ j ih=>
  intro i fuel d hi hf
  obtain ⟨fuel,rfl⟩:=Zs fuel (by omega)
  have h2:i < cells.length:=by omega
  have hd:cells.drop i=cells.getD i 0 :: cells.drop (i + 1):=by
   rw [List.drop_eq_getElem_cons h2,List.getD_eq_getElem?_getD,List.getElem?_eq_getElem h2]; rfl
  rw [hd,List.contains_cons]
  cases d with
  | true=>
   have h5:=ih (i + 1) fuel (cells.getD i 0 != c) (by omega) (by omega)
   push_cast at h5
   simp (disch:=omega) only [spec_l20Rule.l6,spec_l20Rule.j8,dt,df,Za,Zt,Zf,Zn,Zo,wr,rdn ht,h5]
   congr 1
   simp only [bne,Bool.true_and,Bool.not_or]
   congr 2
   rw [Bool.eq_iff_iff,beq_iff_eq,beq_iff_eq]; exact eq_comm
  | false=>
   have h5:=ih (i + 1) fuel false (by omega) (by omega)
   push_cast at h5
   simp (disch:=omega) only [spec_l20Rule.l6,spec_l20Rule.j8,dt,df,Za,Zt,Zf,Zn,Zo,wr,h5,Bool.false_and]
theorem Rule_l5 {k:Nat} (hk:20 ≤ k) {b:Nat} {l:List Int} {n x3:Int} (hn:2 ≤ n∧n ≤ 4) (hx3:x3 < 1000000) {p p0:Nat} (hp:p + 4 ≤ p0) (hp0:p0 ≤ 1000000000) {H0 H:Hp} (hadv:Adv b H0 H) (hb:b < H0.length) (hrd:RD b H l p) {y0 y2:Int} {y1 xs cs:Sl} {g cells:List Int} (hx:Reads .i64 H xs g) (hxb:xs.blk ≠ b) (hg:fullG g n) (hc:Reads .i64 H cs cells) (hcb:H0.length ≤ cs.blk) (hcl:cs.blk < H.length) (hcn:cs.nil=false) (h1:1 ≤ cells.length) (h4:cells.length ≤ 4) (hin:CellsIn n cells) :
  ∀ (j i fuel:Nat) (s q:Int),i + j=cells.length→j < fuel→(i:Int) ≤ s→s ≤ n * i→1 ≤ q→q ≤ n ^ i →
   RuleDraw b l n x3 p0 H0 (spec_l20Rule.l5 (callF PP orc k) k fuel b 0 xs n x3 cs s q i y0 y1 y2 H):=by
 have hlen:=hc.len
 have hxl:=hx.len
 have h7:=n7 (n:=n) (by omega)
 have hgl:(g.length:Int)=n * n:=by have:=hg.1; omega
 intro j
 induction j with
 | zero=>
  intro i fuel s q hi hf s1 s2 q1 q2
  obtain ⟨fuel,rfl⟩:=Zs fuel (by omega)
  have hi4:i=1 ∨ i=2 ∨ i=3 ∨ i=4:=by omega
  have e4:n ^ 4=n * n * n * n:=by simp [Int.pow_succ]
  have hb2:s ≤ n * n * n * n∧q ≤ n * n * n * n:=by
   have:n=2 ∨ n=3 ∨ n=4:=by omega
   rcases this with rfl | rfl | rfl <;> rcases hi4 with rfl | rfl | rfl | rfl <;> simp at s2 q2 <;> omega
  have:=Rule_j7 hk hn hx3 hp hp0 hadv hb hrd (y0:=y0) (y1:=y1) (y2:=y2) hx hxb hg hc hcb hcl hcn h1 h4 hin (by omega) hb2.1 q1 hb2.2
  simp (disch:=omega) only [spec_l20Rule.l5,dt,df,bt,bf,nt,nf,Za,Zy,Zx,Zt,Zf,Zn,Zz,Zi,Zo,wr,AV.toB,AV.toI,AV.toS,if_true]
  exact this
 | succ j ih=>
  intro i fuel s q hi hf s1 s2 q1 q2
  obtain ⟨fuel,rfl⟩:=Zs fuel (by omega)
  have h2:i < cells.length:=by omega
  have a:=hin.1 _ (mem_getD h2)
  have hlt:(cells.getD i 0).toNat < g.length:=by omega
  have v:=hg.2 _ (mem_getD hlt)
  have hm:mx 1 (g.getD (cells.getD i 0).toNat 0)=g.getD (cells.getD i 0).toNat 0:=by unfold mx; split <;> omega
  generalize hv:g.getD (cells.getD i 0).toNat 0=w at *
  have hni:n * (i:Int) ≤ 16:=by
   have:n=2 ∨ n=3 ∨ n=4:=by omega
   rcases this with rfl | rfl | rfl <;> omega
  have hns:n * ((i + 1:Nat):Int)=n * i + n:=by push_cast; rw [Int.mul_add,Int.mul_one]
  have hqw:q * w ≤ n ^ i * n:=Int.mul_le_mul q2 v.2 (by omega) (by omega)
  have hps:n ^ (i + 1)=n ^ i * n:=Int.pow_succ _ _
  have hq1:1 ≤ q * w:=by have:=Int.mul_le_mul q1 v.1 (by omega) (by omega); simpa using this
  have hpi:n ^ i * n ≤ 256:=by
   have hi3:i=0 ∨ i=1 ∨ i=2 ∨ i=3:=by omega
   have:n=2 ∨ n=3 ∨ n=4:=by omega
   rcases this with rfl | rfl | rfl <;> rcases hi3 with rfl | rfl | rfl | rfl <;> decide
  have h5:=ih (i + 1) fuel (s + w) (q * w) (by omega) (by omega) (by omega) (by omega) hq1 (by omega)
  push_cast at h5
  simp (disch:=omega) only [spec_l20Rule.l5,dt,df,bt,bf,nt,nf,Za,Zy,Zx,Zt,Zf,Zn,Zz,Zi,Zo,wr,AV.toB,AV.toI,AV.toS,if_true,rdn hc,rdn hx,hv,hm]
  exact h5
theorem step4 {n w:Int} (hn:2 ≤ n∧n ≤ 4) (h0:0 ≤ w) (h1:w < 4):∃ y,(([.int .i64 1,.int .i64 (-1),.int .i64 n,.int .i64 (0 - n)]:List AV)[w.toNat * 1]?)=some (.int .i64 y)∧-4 ≤ y∧y ≤ 4:=by
 have:w=0 ∨ w=1 ∨ w=2 ∨ w=3:=by omega
 rcases this with rfl | rfl | rfl | rfl
 ·exact ⟨1,rfl,by omega,by omega⟩
 ·exact ⟨-1,rfl,by omega,by omega⟩
 ·exact ⟨n,rfl,by omega,by omega⟩
 ·exact ⟨0 - n,rfl,by omega,by omega⟩
theorem Rule_l0 {k:Nat} (hk:100 ≤ k) {b:Nat} {l:List Int} {n x3:Int} (hn:2 ≤ n∧n ≤ 4) (hx3:x3 < 1000000) {p0:Nat} (hp0:p0 ≤ 1000000000) {H0:Hp} (hb:b < H0.length) {y0 y2 many:Int} {y1 xs:Sl} {g:List Int} (hx:Reads .i64 H0 xs g) (hxb:xs.blk ≠ b) (hg:fullG g n) (hm:2 ≤ many∧many ≤ 4) :
  ∀ (j kk fuel:Nat) (H:Hp) (t:Sl) (cells:List Int) (p:Nat),(kk:Int) + j=many * 4→j < fuel→Adv b H0 H→RD b H l p→p + 2 * j + 6 ≤ p0→Own 1 H0 H t (cells.map (.int .i64))→1 ≤ cells.length→(cells.length:Int) ≤ many→CellsIn n cells →
   RuleDraw b l n x3 p0 H0 (spec_l20Rule.l0 (callF PP orc k) k fuel b 0 xs n x3 t many kk y0 y1 y2 H):=by
 have h7:=n7 (n:=n) (by omega)
 have hgl:(g.length:Int)=n * n:=by have:=hg.1; omega
 intro j
 induction j with
 | zero=>
  intro kk fuel H t cells p hkk hf hadv hrd hp ho h1 hl hin
  obtain ⟨fuel,rfl⟩:=Zs fuel (by omega)
  have:=Rule_l5 (show 20 ≤ k by omega) hn hx3 (p:=p) (p0:=p0) (by omega) hp0 hadv hb hrd (y0:=y0) (y1:=y1) (y2:=y2) (hadv.reads hxb hx) hxb hg (own_reads ho) ho.blk (own_lt' ho) ho.nn h1 (by omega) hin cells.length 0 k 0 1 (by omega) (by omega) (by omega) (by omega) (by omega) (by simp)
  simp (disch:=omega) only [spec_l20Rule.l0,spec_l20Rule.j1,spec_l20Rule.j3,dt,df,bt,bf,nt,nf,Za,Zy,Zx,Zt,Zf,Zn,Zz,Zi,Zo,wr,AV.toB,AV.toI,AV.toS,if_true]
  exact this
 | succ j ih=>
  intro kk fuel H t cells p hkk hf hadv hrd hp ho h1 hl hin
  obtain ⟨fuel,rfl⟩:=Zs fuel (by omega)
  have htl:=(own_reads ho).len
  by_cases cm:(cells.length:Int) < many
  ·obtain ⟨v,H1,a1,a2,a3,a4,a5⟩:=pick_adv (show 1 ≤ k by omega) hrd (by omega) (t.len:Int)
   have hv:=a5 (by omega)
   have htb:t.blk ≠ b:=by have:=ho.blk; omega
   have r1:=a3.reads htb (own_reads ho)
   obtain ⟨w,H2,b1,b2,b3,b4,b5⟩:=pick_adv (show 1 ≤ k by omega) a2 (by omega) 4
   have hw:=b5 (by omega)
   have r2:=b3.reads htb r1
   have hst:=stable_ok r1 r2 (show v.toNat < cells.length by omega)
   obtain ⟨y,d1,d2,d3⟩:=step4 hn b4 hw
   have hcv:=hin.1 _ (mem_getD (show v.toNat < cells.length by omega))
   have adv2:=hadv.trans (a3.trans b3)
   have ho2:=(a3.trans b3).own hb ho
   generalize hc:cells.getD v.toNat 0 + y=c
   have hcont:∀ d:Bool,(d=true→0 ≤ c∧c < n * n)→RuleDraw b l n x3 p0 H0 (spec_l20Rule.j9 (callF PP orc k) k (spec_l20Rule.l0 (callF PP orc k) k fuel) b 0 xs n x3 t many kk c (d && !(cells.drop 0).contains c) y0 y1 y2 H2):=by
    intro d hd
    cases hf':(d && !(cells.drop 0).contains c) with
    | false=>
     have:=ih (kk + 1) fuel H2 t cells _ (by omega) (by omega) adv2 b2 (by omega) ho2 h1 hl hin
     push_cast at this
     simp (disch:=omega) only [spec_l20Rule.j9,spec_l20Rule.j11,dt,df,bt,bf,nt,nf,Za,Zy,Zx,Zt,Zf,Zn,Zz,Zi,Zo,wr,AV.toB,AV.toI,AV.toS,if_true]
     exact this
    | true=>
     rw [Bool.and_eq_true,List.drop_zero,Bool.not_eq_true',← Bool.not_eq_true,List.contains_iff_mem] at hf'
     have hd':=hd hf'.1
     have hB:(H0.take b) <+: H0:=List.take_prefix _ _
     obtain ⟨H3,e1,e2,e3,e4,e5⟩:=own_app1 (H0:=[]) ⟨ho2.nn,ho2.off,Nat.zero_le _,ho2.get,ho2.len⟩ (List.nil_prefix) c (by omega)
     have o3:Own 1 H0 H3 (Sl.mk false H2.length 0 (t.len + 1)) ((cells ++ [c]).map (.int .i64)):=⟨e3.nn,e3.off,by have:=adv2.le; simp only; omega,e3.get,e3.len⟩
     have adv3:Adv b H0 H3:=by
      refine ⟨fun d x hdb hdx=>e4 d x ?_ (adv2.but d x hdb hdx),by have:=adv2.le; omega⟩
      have:=(List.getElem?_eq_some_iff.1 hdx).1
      have:=ho.blk
      omega
     have rd3:RD b H3 l (p + 1 + 1):=by
      refine b2.but e4 (by have:=ho.blk; omega) fun s hs hl=>?_
      intro es
      obtain ⟨s',q1,q2,q3⟩:=b2.ex
      rw [q1] at hs
      simp only [Option.some.injEq,Blk.mk.injEq,List.cons.injEq,AV.sl.injEq,true_and,and_true] at hs
      subst hs
      have hc0:=q2.cell 0 (List.length_pos_iff.2 hl)
      unfold Hp.cell at hc0
      rw [es,ho2.get] at hc0
      simp only [ho2.off] at hc0
      have hmem:=List.mem_of_getElem? hc0
      obtain ⟨z,_,hz⟩:=List.mem_map.1 hmem
      cases hz
     have:=ih (kk + 1) fuel H3 _ (cells ++ [c]) _ (by omega) (by omega) adv3 rd3 (by omega) o3 (by simp) (by simp; omega) ⟨fun x hx=>by
      rcases List.mem_append.1 hx with hx | hx
      ·exact hin.1 x hx
      ·simp at hx; rw [hx]; exact hd',by
      rw [List.nodup_append]
      refine ⟨hin.2,by simp,fun x hx y hy=>?_⟩
      simp at hy; subst hy
      intro e; subst e; exact hf'.2 hx⟩
     push_cast at this
     simp (disch:=omega) only [spec_l20Rule.j9,spec_l20Rule.j11,dt,df,bt,bf,nt,nf,Za,Zy,Zx,Zt,Zf,Zn,Zz,Zi,Zo,wr,AV.toB,AV.toI,AV.toS,if_true,e1]
     exact this
   have hl6:=fun d=>Rule_l6 (callF PP orc k) k (spec_l20Rule.l0 (callF PP orc k) k fuel) (b:=b) (xs:=xs) (n:=n) (x3:=x3) (many:=many) (kk:=kk) (c:=c) (y0:=y0) (y1:=y1) (y2:=y2) r2 (by omega) cells.length 0 k d (by omega) (by omega)
   simp only [Int.natCast_zero] at hl6
   by_cases c0:c ≥ 0
   ·have h9:=hcont (decide (c < n * n)) (fun h=>⟨c0,by simpa using h⟩)
    rw [← hl6] at h9
    simp (disch:=omega) only [spec_l20Rule.l0,spec_l20Rule.j1,spec_l20Rule.j2,spec_l20Rule.j4,dt,df,Za,Zt,Zf,Zo,wr (n:=many * 4),wr (n:=0 - n),wr (n:=c),wr (n:=n * n),a1,b1,AV.toI,if_true,rdn r1,hst,d1,AV.cell,hc]
    exact h9
   ·have h9:=hcont false (fun h=>by cases h)
    rw [← hl6] at h9
    simp (disch:=omega) only [spec_l20Rule.l0,spec_l20Rule.j1,spec_l20Rule.j2,spec_l20Rule.j4,dt,df,Za,Zt,Zf,Zo,wr (n:=many * 4),wr (n:=0 - n),wr (n:=c),wr (n:=n * n),a1,b1,AV.toI,if_true,rdn r1,hst,d1,AV.cell,hc]
    exact h9
  ·have:=Rule_l5 (show 20 ≤ k by omega) hn hx3 (p:=p) (p0:=p0) (by omega) hp0 hadv hb hrd (y0:=y0) (y1:=y1) (y2:=y2) (hadv.reads hxb hx) hxb hg (own_reads ho) ho.blk (own_lt' ho) ho.nn h1 (by omega) hin cells.length 0 k 0 1 (by omega) (by omega) (by omega) (by omega) (by omega) (by simp)
   simp (disch:=omega) only [spec_l20Rule.l0,spec_l20Rule.j1,spec_l20Rule.j3,dt,df,bt,bf,nt,nf,Za,Zy,Zx,Zt,Zf,Zn,Zz,Zi,Zo,wr,AV.toB,AV.toI,AV.toS,if_true]
   exact this
theorem l20Rule_ok {k:Nat} (hk:200 ≤ k) {b:Nat} {l:List Int} {n x3:Int} (hn:2 ≤ n∧n ≤ 4) (hx3:x3 < 1000000) {p:Nat} {H:Hp} (hrd:RD b H l p) (hp:p ≤ 999990000) {xs:Sl} {g:List Int} (hx:Reads .i64 H xs g) (hxb:xs.blk ≠ b) (hg:fullG g n) :
  RuleDraw b l n x3 (p + 50) H (callF PP orc k spec_l20Rule.id [.ptr b 0,.sl 1 xs,.int .i64 n,.int .i64 x3] H):=by
 obtain ⟨k,rfl⟩:=Zs k (by omega)
 rw [spec_l20Rule.call]
 have h7:=n7 (n:=n) (by omega)
 have hnn:1 ≤ n * n:=by
  have:n=2 ∨ n=3 ∨ n=4:=by omega
  rcases this with rfl | rfl | rfl <;> decide
 obtain ⟨v,H1,a1,a2,a3,a4,a5⟩:=pick_adv (show 1 ≤ k by omega) hrd (by omega) (n * n)
 have hv:=a5 hnn
 have q1:H1 <+: H1 ++ [some (Blk.mk false (([v]:List Int).map (.int .i64)))]:=List.prefix_append _ _
 have hnew:=own_new 1 H1 (([v]:List Int).map (.int .i64)) 1 rfl
 obtain ⟨w,H2,b1,b2,b3,b4,b5⟩:=pick_adv (show 1 ≤ k by omega) (a2.pf q1) (by omega) 3
 have hw:=b5 (by omega)
 have adv2:Adv b H H2:=(a3.trans (pf_adv q1)).trans b3
 have hb1:b < H1.length:=a2.lt
 have o2:Own 1 H H2 (Sl.mk false H1.length 0 1) (([v]:List Int).map (.int .i64)):=by
  have:=b3.own (B:=H1) hb1 hnew
  exact ⟨this.nn,this.off,by have:=a3.le; simp only; omega,this.get,this.len⟩
 have:=Rule_l0 (show 100 ≤ k by omega) hn hx3 (p0:=p + 50) (by omega) hrd.lt (l:=l) (y0:=0) (y1:=Sl.none) (y2:=0) (many:=2 + w) hx hxb hg ⟨by omega,by omega⟩ ((2 + w) * 4).toNat 0 k H2 _ [v] _ (by omega) (by omega) adv2 b2 (by omega) o2 (by simp) (by simp; omega) ⟨by simp; omega,by simp⟩
 simp only [List.map_cons,List.map_nil] at b1
 simp (disch:=omega) only [spec_l20Rule.f,dt,df,bt,bf,nt,nf,Za,Zy,Zx,Zt,Zf,Zn,Zz,Zi,Zo,wr,AV.toB,AV.toI,AV.toS,if_true,a1,b1]
 exact this
def regsOk (l:List Int) (n:Int):Bool:=decide (2 ≤ n∧n ≤ 4) && decide ((l.length:Int)=n * n) && l.all fun v=>decide (0 ≤ v) && decide (v < n)
theorem regsOk_iff (l:List Int) (n:Int):regsOk l n=true ↔ (2 ≤ n∧n ≤ 4)∧(l.length:Int)=n * n∧∀ v ∈ l,0 ≤ v∧v < n:=by
 simp [regsOk,and_assoc]
theorem specRegionsValid_l0 {k:Nat} (hk:1 ≤ k) {H:Hp} {s:Sl} {l:List Int} {m:Int} (hr:Reads .i64 H s l) (hl:l.length ≤ 1048576) :
  ∀ (j i n:Nat),i + j=l.length→j < n→spec_RegionsValid.l0 (callF PP orc k) k n s m i H=some (.bool (decide (2 ≤ m∧m ≤ 4) && decide ((l.length:Int)=m * m) && (l.drop i).all fun v=>decide (0 ≤ v) && decide (v < m)),H):=by
 intro j
 induction j with
 | zero=>
  intro i n hi hn
  obtain ⟨n,rfl⟩:=Zs n (by omega)
  have h1:=hr.len
  by_cases c:2 ≤ m∧m ≤ 4
  ·have h2:IntKind.i64.wrap (m * m)=m * m:=by
    have:m=2 ∨ m=3 ∨ m=4:=by omega
    rcases this with rfl | rfl | rfl <;> exact wr (by decide) (by decide)
   simp only [spec_RegionsValid.l0,h1,show ¬ ((i:Int) < (l.length:Int)) by omega,decide_false,Zf,spec_RegionsValid.j1,l1In_ok hk,Zo,AV.toB,c,and_self,decide_true,Zt,h2,List.drop_eq_nil_of_le (show l.length ≤ i by omega),List.all_nil,Bool.and_true,Bool.true_and]
   by_cases c2:(l.length:Int)=m * m <;> simp [c2]
  ·simp [spec_RegionsValid.l0,h1,show ¬ i < l.length by omega,spec_RegionsValid.j1,l1In_ok hk,AV.toB,c]
 | succ j ih=>
  intro i n hi hn
  obtain ⟨n,rfl⟩:=Zs n (by omega)
  have h1:=hr.len
  have h2:i < l.length:=by omega
  have h3:=reads_at hr i h2
  have h4:=wrs (i:=i) (by omega)
  have h5:=ih (i + 1) n (by omega) (by omega)
  push_cast at h5
  rw [all_drop l i h2]
  by_cases c:2 ≤ m∧m ≤ 4
  ·have hw:IntKind.i64.wrap (m - 1)=m - 1:=wr (by omega) (by omega)
   by_cases c1:0 ≤ l[i]∧l[i] ≤ m - 1
   ·have e1:(decide (0 ≤ l[i]) && decide (l[i] < m))=true:=by simp; omega
    rw [e1,Bool.true_and]
    simp only [spec_RegionsValid.l0,h1,show ((i:Int) < (l.length:Int)) by omega,show (0:Int) ≤ (i:Int) by omega,decide_true,Za,Zt,Zn,Nat.mul_one,h3,Zo,hw,l1In_ok hk,AV.toB,c1,and_self,Zy,Zf,h4,h5]
   ·have e1:(decide (0 ≤ l[i]) && decide (l[i] < m))=false:=by
     cases d:(decide (0 ≤ l[i]) && decide (l[i] < m)) with
     | false=>rfl
     | true=>simp at d; omega
    rw [e1,Bool.false_and,Bool.and_false]
    simp only [spec_RegionsValid.l0,h1,show ((i:Int) < (l.length:Int)) by omega,show (0:Int) ≤ (i:Int) by omega,decide_true,Za,Zt,Zn,Nat.mul_one,h3,Zo,hw,l1In_ok hk,AV.toB,c1,decide_false,Zx]
  ·simp only [c,decide_false,Bool.false_and] at h5 ⊢
   by_cases c1:0 ≤ l[i]∧l[i] ≤ IntKind.i64.wrap (m - 1)
   ·simp only [spec_RegionsValid.l0,h1,show ((i:Int) < (l.length:Int)) by omega,show (0:Int) ≤ (i:Int) by omega,decide_true,Za,Zt,Zn,Nat.mul_one,h3,Zo,l1In_ok hk,AV.toB,c1,and_self,Zy,Zf,h4,h5]
   ·simp only [spec_RegionsValid.l0,h1,show ((i:Int) < (l.length:Int)) by omega,show (0:Int) ≤ (i:Int) by omega,decide_true,Za,Zt,Zn,Nat.mul_one,h3,Zo,l1In_ok hk,AV.toB,c1,decide_false,Zx]
theorem specRegionsValid_ok {k:Nat} (hk:2000000 ≤ k) {H:Hp} {s:Sl} {l:List Int} (hr:Reads .i64 H s l) (hl:l.length ≤ 1048576) (m:Int) :
  callF PP orc k spec_RegionsValid.id [.sl 1 s,.int .i64 m] H=some (.bool (regsOk l m),H):=by
 obtain ⟨k,rfl⟩:=Zs k (by omega)
 rw [spec_RegionsValid.call]
 have:=specRegionsValid_l0 (k:=k) (by omega) (m:=m) hr hl l.length 0 k (by omega) (by omega)
 simpa [spec_RegionsValid.f,regsOk] using this
def idxFrom (r:Int):List Int→Nat→List Int
 | [],_=>[]
 | v :: vs,i=>if v=r then (i:Int) :: idxFrom r vs (i + 1) else idxFrom r vs (i + 1)
def regCells (l:List Int) (r:Int):List Int:=idxFrom r l 0
theorem idx_drop (r:Int) (l:List Int) (i:Nat) (h:i < l.length):idxFrom r (l.drop i) i=if l[i]=r then (i:Int) :: idxFrom r (l.drop (i + 1)) (i + 1) else idxFrom r (l.drop (i + 1)) (i + 1):=by
 rw [List.drop_eq_getElem_cons h]; rfl
theorem specRegionCells_l0 {k:Nat} (hk:2000000 ≤ k) {H0:Hp} {s:Sl} {l:List Int} {n r:Int} (hs:Reads .i64 H0 s l) (hl:l.length ≤ 1000) (hv:regsOk l n=true) :
  ∀ (j i fuel:Nat) (H:Hp) (t:Sl) (a:List Int),i + j=l.length→j < fuel→H0 <+: H→a.length ≤ i→Own 1 H0 H t (a.map (.int .i64)) →
   ∃ t' H',spec_RegionCells.l0 (callF PP orc k) k fuel s n r t i H=some (.sl 1 t',H')∧H0 <+: H'∧Own 1 H0 H' t' ((a ++ idxFrom r (l.drop i) i).map (.int .i64)):=by
 intro j
 induction j with
 | zero=>
  intro i fuel H t a hi hf hp ha ho
  obtain ⟨fuel,rfl⟩:=Zs fuel (by omega)
  refine ⟨t,H,?_,hp,by rw [List.drop_eq_nil_of_le (by omega)]; simpa [idxFrom] using ho⟩
  simp [spec_RegionCells.l0,spec_RegionCells.j1,spec_RegionCells.j3,hs.len,show ¬ i < l.length by omega]
 | succ j ih=>
  intro i fuel H t a hi hf hp ha ho
  obtain ⟨fuel,rfl⟩:=Zs fuel (by omega)
  have h1:=hs.len
  have h2:i < l.length:=by omega
  have h3:=reads_at (pf_reads hp hs) i h2
  have h4:=wrs (i:=i) (by omega)
  have hlen:t.len=a.length:=by have:=ho.len; simpa using this
  have q0:(0:Int) ≤ (i:Int):=by omega
  have q1:(i:Int) < (l.length:Int):=by omega
  have hval:=specRegionsValid_ok hk (pf_reads hp hs) (by omega) n
  rw [idx_drop r l i h2]
  by_cases c:l[i]=r
  ·obtain ⟨H1,a1,a2,a3,_⟩:=own_app1 ho hp (i:Int) (by omega)
   obtain ⟨t',H',b1,b2,b3⟩:=ih (i + 1) fuel H1 _ (a ++ [(i:Int)]) (by omega) (by omega) a2 (by simp; omega) a3
   push_cast at b1
   have c':(l[i] == r)=true:=by simpa using c
   refine ⟨t',H',?_,b2,by rw [if_pos c]; simpa using b3⟩
   simp only [spec_RegionCells.l0,spec_RegionCells.j1,spec_RegionCells.j2,spec_RegionCells.j4,hval,hv,AV.toB,h1,q0,q1,decide_true,Za,Zt,Zn,Nat.mul_one,h3,Zo,c',a1,h4,b1]
  ·obtain ⟨t',H',b1,b2,b3⟩:=ih (i + 1) fuel H t a (by omega) (by omega) hp (by omega) ho
   push_cast at b1
   have c':(l[i] == r)=false:=by simpa using c
   refine ⟨t',H',?_,b2,by rw [if_neg c]; exact b3⟩
   simp only [spec_RegionCells.l0,spec_RegionCells.j1,spec_RegionCells.j2,spec_RegionCells.j4,hval,hv,AV.toB,h1,q0,q1,decide_true,Za,Zt,Zf,Zn,Nat.mul_one,h3,Zo,c',h4,b1]
theorem specRegionCells_ok {k:Nat} (hk:2000001 ≤ k) {H:Hp} {s:Sl} {l:List Int} {n r:Int} (hs:Reads .i64 H s l) (hv:regsOk l n=true) :
  ∃ t H',callF PP orc k spec_RegionCells.id [.sl 1 s,.int .i64 n,.int .i64 r] H=some (.sl 1 t,H')∧H <+: H'∧Own 1 H H' t ((regCells l r).map (.int .i64)):=by
 obtain ⟨k,rfl⟩:=Zs k (by omega)
 rw [spec_RegionCells.call]
 obtain ⟨⟨n1,n2⟩,n3,n4⟩:=(regsOk_iff l n).1 hv
 have hl:l.length ≤ 16:=by
  have:n=2 ∨ n=3 ∨ n=4:=by omega
  rcases this with rfl | rfl | rfl <;> omega
 obtain ⟨t,H',a1,a2,a3⟩:=specRegionCells_l0 (show 2000000 ≤ k by omega) (r:=r) hs (by omega) hv l.length 0 k (H ++ [some (Blk.mk false [])]) (Sl.mk false H.length 0 0) [] (by omega) (by omega) (List.prefix_append _ _) (by simp) (own_new 1 H [] 0 rfl)
 exact ⟨t,H',a1,a2,by simpa [regCells] using a3⟩
def boxes:List Int:=[0,0,1,1,0,0,1,1,2,2,3,3,2,2,3,3]
theorem boxes_ok:regsOk boxes 4=true:=by decide
def boxRules:List V:=[(1,[0,1,4,5],0),(1,[2,3,6,7],0),(1,[8,9,12,13],0),(1,[10,11,14,15],0)]
theorem box_at:∀ i,i < 16→IntKind.i64.wrap ((IntKind.i64.wrap ((IntKind.i64.wrap (((i:Nat):Int).tdiv 8)) * 2)) + (IntKind.i64.wrap ((((i:Nat):Int).tmod 4:Int).tdiv 2)))=boxes.getD i 0:=by decide +kernel
theorem boxRules_at:∀ r,r < 4→boxRules.take (r + 1)=boxRules.take r ++ [(1,regCells boxes ((r:Nat):Int),0)]∧(regCells boxes ((r:Nat):Int)).length=4:=by decide +kernel
theorem specBox_l0 (rec:Rec) (k:Nat) {H0:Hp}:∀ (j i fuel:Nat) (H:Hp) (t:Sl),i + j=16→j < fuel→H0 <+: H→Own 1 H0 H t ((boxes.take i).map (.int .i64)) →
   ∃ t' H',spec_BoxRegions.l0 rec k fuel t i H=some (.sl 1 t',H')∧H0 <+: H'∧Own 1 H0 H' t' (boxes.map (.int .i64)):=by
 intro j
 induction j with
 | zero=>
  intro i fuel H t hi hf hp ho
  obtain ⟨fuel,rfl⟩:=Zs fuel (by omega)
  refine ⟨t,H,?_,hp,by rw [show i=16 by omega] at ho; exact ho⟩
  simp (disch:=omega) only [spec_BoxRegions.l0,spec_BoxRegions.j1,dt,df,bt,bf,nt,nf,Za,Zy,Zx,Zt,Zf,Zn,Zz,Zi,Zo,wr,AV.toB,AV.toI,AV.toS,if_true]
 | succ j ih=>
  intro i fuel H t hi hf hp ho
  obtain ⟨fuel,rfl⟩:=Zs fuel (by omega)
  have htl:t.len=i:=by have:=ho.len; simp [boxes] at this; omega
  obtain ⟨H1,a1,a2,a3,a4,a5⟩:=own_app1 ho hp (boxes.getD i 0) (by omega)
  have e:boxes.take i ++ [boxes.getD i 0]=boxes.take (i + 1):=by
   rw [List.take_succ_eq_append_getElem (show i < boxes.length by simp [boxes]; omega),List.getD_eq_getElem?_getD,List.getElem?_eq_getElem (show i < boxes.length by simp [boxes]; omega)]; rfl
  rw [e] at a3
  obtain ⟨t',H',b1,b2,b3⟩:=ih (i + 1) fuel H1 _ (by omega) (by omega) a2 a3
  push_cast at b1
  refine ⟨t',H',?_,b2,b3⟩
  have h4:=wrs (i:=i) (by omega)
  simp only [spec_BoxRegions.l0,dt (show (i:Int) < 16 by omega),Zt,box_at i (by omega),a1,Zo,h4,b1]
theorem specBoxRegions_ok {k:Nat} (hk:100 ≤ k) (H:Hp):∃ t H',callF PP orc k spec_BoxRegions.id [] H=some (.sl 1 t,H')∧H <+: H'∧Own 1 H H' t (boxes.map (.int .i64)):=by
 obtain ⟨k,rfl⟩:=Zs k (by omega)
 rw [spec_BoxRegions.call]
 exact specBox_l0 (callF PP orc k) k 16 0 k (H ++ [some (Blk.mk false [])]) (Sl.mk false H.length 0 0) (by omega) (by omega) (List.prefix_append _ _) (own_new 1 H [] 0 rfl)
theorem specRR_l0 {k:Nat} (hk:2000001 ≤ k) {H0:Hp} {s:Sl} (hs:Reads .i64 H0 s boxes) :
  ∀ (j i fuel:Nat) (H:Hp) (t:Sl) (qs:List R),i + j=4→j < fuel→H0 <+: H→WR H0 H t qs→qs.map R.val=boxRules.take i →
   ∃ t' qs' H',spec_RegionRules.l0 (callF PP orc k) k fuel s 4 t i H=some (.tup [.sl 3 t',.bool true],H')∧H0 <+: H'∧WR H0 H' t' qs'∧qs'.map R.val=boxRules:=by
 intro j
 induction j with
 | zero=>
  intro i fuel H t qs hi hf hp ho hv
  obtain ⟨fuel,rfl⟩:=Zs fuel (by omega)
  refine ⟨t,qs,H,?_,hp,ho,by rw [hv,show i=4 by omega]; rfl⟩
  simp (disch:=omega) only [spec_RegionRules.l0,spec_RegionRules.j2,dt,df,bt,bf,nt,nf,Za,Zy,Zx,Zt,Zf,Zn,Zz,Zi,Zo,wr,AV.toB,AV.toI,AV.toS,if_true]
 | succ j ih=>
  intro i fuel H t qs hi hf hp ho hv
  obtain ⟨fuel,rfl⟩:=Zs fuel (by omega)
  obtain ⟨v1,v2⟩:=boxRules_at i (by omega)
  obtain ⟨u,H1,a1,a2,a3⟩:=specRegionCells_ok hk (r:=(i:Int)) (pf_reads hp hs) boxes_ok
  have ul:=(own_reads a3).len
  have hql:qs.length ≤ 4:=by have:=congrArg List.length hv; simp [boxRules] at this; omega
  have htb:=own_lt ho.own
  have hub:=a3.blk
  obtain ⟨t1,H2,b1,b2,b3,b4,b5,b6⟩:=wr_app (ho.pf a2) (hp.trans a2) (by omega) { kind:=1,sl:=u,cells:=regCells boxes (i:Int),value:=0 } (own_reads a3) (by simp only; omega) (own_lt a3) (Nat.le_trans hp.length_le a3.blk) a3.nn
  obtain ⟨t',qs',H',d1,d2,d3,d4⟩:=ih (i + 1) fuel H2 t1 _ (by omega) (by omega) b2 b3 (by rw [List.map_append,hv,v1]; rfl)
  push_cast at d1
  refine ⟨t',qs',H',?_,d2,d3,d4⟩
  simp only [R.av] at b1
  simp (disch:=omega) only [spec_RegionRules.l0,spec_RegionRules.j1,dt,df,bt,bf,nt,nf,Za,Zy,Zx,Zt,Zf,Zn,Zz,Zi,Zo,wr,AV.toB,AV.toI,AV.toS,if_true,a1,ul,b1,d1]
theorem specRegionRules_ok {k:Nat} (hk:2000010 ≤ k) {H:Hp} {s:Sl} (hs:Reads .i64 H s boxes) :
  ∃ t qs H',callF PP orc k spec_RegionRules.id [.sl 1 s,.int .i64 4] H=some (.tup [.sl 3 t,.bool true],H')∧H <+: H'∧WR H H' t qs∧qs.map R.val=boxRules:=by
 obtain ⟨k,rfl⟩:=Zs k (by omega)
 rw [spec_RegionRules.call]
 have g1:H <+: H ++ [some (Blk.mk false [])]:=List.prefix_append _ _
 have h1:=specRegionsValid_ok (show 2000000 ≤ k by omega) (pf_reads g1 hs) (by simp [boxes]) 4
 rw [boxes_ok] at h1
 obtain ⟨t',qs',H',d1,d2,d3,d4⟩:=specRR_l0 (show 2000001 ≤ k by omega) hs 4 0 k (H ++ [some (Blk.mk false [])]) (Sl.mk false H.length 0 0) [] (by omega) (by omega) g1
  ⟨own_new 3 H [] 0 rfl,fun i hi=>absurd hi (Nat.not_lt_zero _),fun i hi=>absurd hi (Nat.not_lt_zero _),fun i hi=>absurd hi (Nat.not_lt_zero _),fun i hi=>absurd hi (Nat.not_lt_zero _),fun i hi=>absurd hi (Nat.not_lt_zero _)⟩ rfl
 refine ⟨t',qs',H',?_,d2,d3,d4⟩
 simp only [Int.natCast_zero] at d1
 simp only [spec_RegionRules.f,dt,df,bt,bf,nt,nf,Za,Zy,Zx,Zt,Zf,Zn,Zz,Zi,Zo,wr,AV.toB,AV.toI,AV.toS,if_true,h1,d1]
theorem RD.but' {b c:Nat} {H H':Hp} {l:List Int} {p:Nat} (h:RD b H l p) (g:But c H H') (hc:b ≠ c) {ro:Bool} {cells:List AV} (hb:H[c]?=some (some ⟨ro,cells⟩)) (hk:∀ z ∈ cells,∀ n,z ≠ .int .u8 n):RD b H' l p:=by
 refine h.but g hc fun s hs hl es=>?_
 obtain ⟨s',q1,q2,q3⟩:=h.ex
 rw [q1] at hs
 simp only [Option.some.injEq,Blk.mk.injEq,List.cons.injEq,AV.sl.injEq,true_and,and_true] at hs
 subst hs
 have hc0:=q2.cell 0 (List.length_pos_iff.2 hl)
 unfold Hp.cell at hc0
 rw [es,hb] at hc0
 simp only at hc0
 exact hk _ (List.mem_of_getElem? hc0) _ rfl
theorem adv_but {b c:Nat} {B H H':Hp} (h:Adv b B H) (g:But c H H') (hc:B.length ≤ c) (hl:H.length ≤ H'.length):Adv b B H':=
 ⟨fun d x hdb hdx=>g d x (by have:=(List.getElem?_eq_some_iff.1 hdx).1; omega) (h.but d x hdb hdx),by have:=h.le; omega⟩
theorem av_no_u8 (rs:List R):∀ z ∈ rs.flatMap R.av,∀ n,z ≠ .int .u8 n:=fun z hz n e=>by
 obtain ⟨r,_,hr⟩:=List.mem_flatMap.1 hz
 subst e
 simp [R.av] at hr
theorem ints_no_u8 (l:List Int):∀ z ∈ l.map (AV.int .i64),∀ n,z ≠ .int .u8 n:=fun z hz n e=>by
 obtain ⟨x,_,hx⟩:=List.mem_map.1 hz
 subst e; cases hx
structure PZ (q:Bool) (B H:Hp) (n:Int) (gt s:Sl) (given:List Int) (rs:List R):Prop where
 og:Own 1 B H gt (given.map (.int .i64))
 rr:(s.nil=true∧s.len=0∧rs=[]) ∨ (WR B H s rs∧s.blk ≠ gt.blk)
 sg:∀ i,(h:i < rs.length)→rs[i].sl.blk ≠ gt.blk
 gg:gridOk given n=true
 ro:∀ r ∈ rs,(q=true→R.ok n r=true)∧r.cells.length ≤ 5
theorem PZ.adv {q:Bool} {b:Nat} {B H H':Hp} {n:Int} {gt s:Sl} {given:List Int} {rs:List R} (h:PZ q B H n gt s given rs) (hb:b < B.length) (g:Adv b H H'):PZ q B H' n gt s given rs:=by
 refine ⟨g.own hb h.og,?_,h.sg,h.gg,h.ro⟩
 rcases h.rr with h1 | ⟨h1,h2⟩
 ·exact .inl h1
 ·refine .inr ⟨⟨g.own hb h1.own,fun i hi=>g.reads ?_ (h1.rd i hi),h1.ne,fun i hi=>Nat.lt_of_lt_of_le (h1.lt i hi) g.le,h1.lo,h1.nn⟩,h2⟩
  have:=h1.lo i hi; omega
theorem PZ.readsR {q:Bool} {B H:Hp} {n:Int} {gt s:Sl} {given:List Int} {rs:List R} (h:PZ q B H n gt s given rs):ReadsR H s rs:=by
 rcases h.rr with ⟨_,h2,h3⟩ | ⟨h1,_⟩
 ·subst h3; exact ⟨h2,fun i hi=>absurd hi (Nat.not_lt_zero _),fun i hi=>absurd hi (Nat.not_lt_zero _),fun i hi=>absurd hi (Nat.not_lt_zero _),fun i hi=>absurd hi (Nat.not_lt_zero _)⟩
 ·exact h1.reads
theorem PZ.puz {q:Bool} {B H:Hp} {n:Int} {gt s:Sl} {given:List Int} {rs:List R} (h:PZ q B H n gt s given rs) (hl:rs.length ≤ 1000):PuzAt H n gt s given rs:=
 ⟨own_reads h.og,h.readsR,((gridOk_iff given n).1 h.gg).1,by have:=gridOk_len h.gg; omega,hl,fun r hr=>by have:=(h.ro r hr).2; omega⟩
theorem PZ.set {q:Bool} {b:Nat} {B H:Hp} {n:Int} {gt s:Sl} {given:List Int} {rs:List R} (h:PZ q B H n gt s given rs) (hb:b < B.length) (hadv:Adv b B H) {l:List Int} {p:Nat} (hrd:RD b H l p) (i:Nat) (hi:i < given.length) (v:Int) (hv:0 ≤ v∧v ≤ n) :
  ∃ H',H.sto gt.blk (gt.off + i * 1) [.int .i64 v]=some H'∧PZ q B H' n gt s (given.set i v) rs∧Adv b B H'∧RD b H' l p:=by
 have o':Own 1 [] H gt (given.map (.int .i64)):=⟨h.og.nn,h.og.off,Nat.zero_le _,h.og.get,h.og.len⟩
 obtain ⟨H',a1,a2,a3,a4⟩:=own_set1 o' List.nil_prefix i hi v
 have hgb:=h.og.blk
 refine ⟨H',a1,⟨⟨a3.nn,a3.off,hgb,a3.get,a3.len⟩,?_,h.sg,grid_set h.gg i v hv,h.ro⟩,adv_but hadv a4.but hgb a4.le,hrd.but' a4.but (by omega) h.og.get (ints_no_u8 _)⟩
 rcases h.rr with h1 | ⟨h1,h2⟩
 ·exact .inl h1
 ·exact .inr ⟨⟨a4.but.own h2 h1.own,fun i hi=>a4.but.reads (h.sg i hi) (h1.rd i hi),h1.ne,fun i hi=>Nat.lt_of_lt_of_le (h1.lt i hi) a4.le,h1.lo,h1.nn⟩,h2⟩
theorem PZ.apps {q:Bool} {b:Nat} {B H:Hp} {n:Int} {gt s:Sl} {given:List Int} {rs:List R} (h:PZ q B H n gt s given rs) (hB:B.length ≤ H.length) (hb:b < B.length) (hadv:Adv b B H) {l:List Int} {p:Nat} (hrd:RD b H l p) (hl:rs.length ≤ 1000) (qs:List R) (hq0:0 < qs.length) (hql:qs.length ≤ 1000)
  (hq:∀ i,(h:i < qs.length)→Reads .i64 H qs[i].sl qs[i].cells∧B.length ≤ qs[i].sl.blk∧qs[i].sl.blk < H.length∧qs[i].sl.blk ≠ gt.blk∧(s.nil=false→qs[i].sl.blk ≠ s.blk)∧qs[i].sl.nil=false) (hqo:∀ r ∈ qs,(q=true→R.ok n r=true)∧r.cells.length ≤ 5) :
  ∃ t' H',H.app 3 s qs.length (qs.flatMap R.av)=some (t',H')∧PZ q B H' n gt t' given (rs ++ qs)∧Adv b B H'∧RD b H' l p:=by
 have hgl:=own_lt' h.og
 have hro:∀ r ∈ rs ++ qs,(q=true→R.ok n r=true)∧r.cells.length ≤ 5:=fun r hr=>by
  rcases List.mem_append.1 hr with hr | hr
  ·exact h.ro r hr
  ·exact hqo r hr
 rcases h.rr with ⟨h1,h2,h3⟩ | ⟨h1,h2⟩
 ·subst h3
  have q1:H <+: H ++ [some (Blk.mk false (qs.flatMap R.av))]:=List.prefix_append _ _
  have hnew:=own_new 3 H (qs.flatMap R.av) qs.length (flat_length qs).symm
  refine ⟨Sl.mk false H.length 0 qs.length,H ++ [some (Blk.mk false (qs.flatMap R.av))],?_,⟨own_pf h.og q1,.inr ⟨⟨⟨rfl,rfl,hB,hnew.get,hnew.len⟩,fun i hi=>pf_reads q1 (hq i hi).1,fun i hi=>?_,fun i hi=>?_,fun i hi=>(hq i hi).2.1,fun i hi=>(hq i hi).2.2.2.2.2⟩,?_⟩,fun i hi=>(hq i hi).2.2.2.1,h.gg,hro⟩,hadv.trans (pf_adv q1),hrd.pf q1⟩
  ·unfold Hp.app
   rw [if_pos ⟨by omega,by omega,by omega,flat_length qs⟩,if_neg (by omega),if_pos h1]
  ·have:=(hq i hi).2.2.1; simp only [List.nil_append] at *; omega
  ·have:=(hq i hi).2.2.1; simp; simp only [List.nil_append] at *; omega
  ·simp only; omega
 ·have o':Own 3 [] H s (rs.flatMap R.av):=⟨h1.own.nn,h1.own.off,Nat.zero_le _,h1.own.get,h1.own.len⟩
  have hsl:=own_len3 h1.own
  obtain ⟨H',a1,a2,a3,a4,a5⟩:=own_app o' List.nil_prefix qs.length (qs.flatMap R.av) hq0 (by omega) (by omega) (by omega) (flat_length qs)
  have hsb:=h1.own.blk
  have hnn:=h1.own.nn
  have hsl':=own_lt' h1.own
  have key:∀ i,(hi:i < (rs ++ qs).length)→Reads .i64 H (rs ++ qs)[i].sl (rs ++ qs)[i].cells∧B.length ≤ (rs ++ qs)[i].sl.blk∧(rs ++ qs)[i].sl.blk < H.length∧(rs ++ qs)[i].sl.blk ≠ gt.blk∧(rs ++ qs)[i].sl.blk ≠ s.blk∧(rs ++ qs)[i].sl.nil=false:=by
   intro i hi
   by_cases e:i < rs.length
   ·simp only [List.getElem_append_left e]
    exact ⟨h1.rd i e,h1.lo i e,h1.lt i e,h.sg i e,h1.ne i e,h1.nn i e⟩
   ·simp only [List.length_append] at hi
    simp only [List.getElem_append_right (Nat.le_of_not_lt e)]
    obtain ⟨x1,x2,x3,x4,x5,x6⟩:=hq (i - rs.length) (by omega)
    exact ⟨x1,x2,x3,x4,x5 hnn,x6⟩
  refine ⟨Sl.mk false H.length 0 (s.len + qs.length),H',a1,⟨a4.own (Ne.symm h2) h.og,.inr ⟨⟨⟨rfl,rfl,hB,by rw [List.flatMap_append]; exact a3.get,by rw [List.flatMap_append]; exact a3.len⟩,fun i hi=>a4.reads (key i hi).2.2.2.2.1 (key i hi).1,fun i hi=>?_,fun i hi=>?_,fun i hi=>(key i hi).2.1,fun i hi=>(key i hi).2.2.2.2.2⟩,?_⟩,fun i hi=>(key i hi).2.2.2.1,h.gg,hro⟩,adv_but hadv a4 hsb (by omega),hrd.but' a4 (by omega) h1.own.get (av_no_u8 _)⟩
  ·have:=(key i hi).2.2.1; simp only; omega
  ·have:=(key i hi).2.2.1; omega
  ·simp only; omega
structure PuzB (H0 H:Hp) (n:Int) (gs s:Sl) (given:List Int) (rs:List R):Prop where
 at':PuzAt H n gs s given rs
 g16:given.length ≤ 16
 gv:∀ v ∈ given,0 ≤ v∧v ≤ n
 r25:rs.length ≤ 25
 c5:∀ r ∈ rs,r.cells.length ≤ 5
 gb:given ≠ []→H0.length ≤ gs.blk
 rb:rs ≠ []→H0.length ≤ s.blk
 cb:∀ i,(h:i < rs.length)→rs[i].cells ≠ []→H0.length ≤ rs[i].sl.blk
 gn:gs.nil=false
 cn:∀ i,(h:i < rs.length)→rs[i].sl.nil=false ∨ rs[i].cells=[]
def PuzDraw (b:Nat) (l:List Int) (x1:Int) (p0:Nat) (H0:Hp) (r:An):Prop:=
 ∃ n gs s given rs p' H',r=some (.agg [.int .i64 n,.sl 1 gs,.sl 3 s],H')∧RD b H' l p'∧p' ≤ p0∧Adv b H0 H'∧PuzB H0 H' n gs s given rs∧(x1 ≤ 0→puzzleV n given (rs.map R.val)=true)
theorem PZ.out {q:Bool} {B H0 H:Hp} {n:Int} {gt s:Sl} {given:List Int} {rs:List R} (h:PZ q B H n gt s given rs) (hB:H0.length ≤ B.length) (hl:rs.length ≤ 20):PuzB H0 H n gt s given rs∧(q=true→puzzleV n given (rs.map R.val)=true):=by
 have hg:=(gridOk_iff given n).1 h.gg
 refine ⟨⟨h.puz (by omega),gridOk_len h.gg,hg.2.2,by omega,fun r hr=>(h.ro r hr).2,fun _=>Nat.le_trans hB h.og.blk,fun hne=>?_,fun i hi _=>?_,h.og.nn,fun i hi=>?_⟩,fun hq=>?_⟩
 ·rcases h.rr with ⟨_,_,h3⟩ | ⟨h1,_⟩
  ·exact absurd h3 hne
  ·exact Nat.le_trans hB h1.own.blk
 ·rcases h.rr with ⟨_,_,h3⟩ | ⟨h1,_⟩
  ·subst h3; exact absurd hi (Nat.not_lt_zero _)
  ·exact Nat.le_trans hB (h1.lo i hi)
 ·rcases h.rr with ⟨_,_,h3⟩ | ⟨h1,_⟩
  ·subst h3; exact absurd hi (Nat.not_lt_zero _)
  ·exact .inl (h1.nn i hi)
 ·unfold puzzleV
  simp only [Bool.and_eq_true,decide_eq_true_eq,List.length_map,List.all_map,List.all_eq_true]
  exact ⟨h.gg,hl,fun r hr=>(h.ro r hr).1 hq⟩
theorem PZ.weak {q:Bool} {B H:Hp} {n:Int} {gt s:Sl} {given:List Int} {rs:List R} (h:PZ q B H n gt s given rs):PZ false B H n gt s given rs:=⟨h.og,h.rr,h.sg,h.gg,fun r hr=>⟨fun e=>(by cases e),(h.ro r hr).2⟩⟩
theorem zero21:((List.replicate (21:Int).toNat [AV.int .i64 0,AV.sl 1 Sl.none,AV.int .i64 0]).flatten)=(List.replicate 21 (R.mk 0 Sl.none [] 0)).flatMap R.av:=rfl
theorem own_readsR' {H0 H:Hp} {s:Sl} {rs:List R} (h:Own 3 H0 H s (rs.flatMap R.av)) (hc:∀ r ∈ rs,r.cells=[]∧r.sl.len=0):ReadsR H s rs:=
 own_readsR h fun i hi=>by
  obtain ⟨h1,h2⟩:=hc _ (List.getElem_mem hi)
  rw [h1]; exact reads_nil h2
theorem Puz_j6 {k:Nat} (hk:1000 ≤ k) {b:Nat} {l:List Int} {n x1 y0:Int} (hx1:x1 < 1000000) {p p0:Nat} (hp:p + 60 ≤ p0) (hp0:p0 ≤ 999990000) {H0 B H:Hp} (hB:Adv b H0 B) (hb0:b < H0.length) (hadv:Adv b B H) (hrd:RD b H l p) {y1 y2 xs gt s:Sl} {g given:List Int} {rs:List R} (hx:Reads .i64 B xs g) (hxb:xs.blk ≠ b) (hg:fullG g n) (hz:PZ true B H n gt s given rs) (hl:rs.length ≤ 12) :
  PuzDraw b l x1 p0 H0 (spec_l20Puzzle.j6 (callF PP orc k) k b 0 x1 n xs y0 y1 y2 n gt s H):=by
 obtain ⟨hn,_,_⟩:=(gridOk_iff given n).1 hz.gg
 have hBl:=hB.le
 have hb:b < B.length:=by omega
 obtain ⟨v,p1,H1,a1,a2,a3,a4,a5⟩:=odd_adv (show 2 ≤ k by omega) hrd (by omega) hx1
 have hz1:=hz.adv hb a4
 have adv1:=hadv.trans a4
 cases v with
 | false=>
  obtain ⟨o1,o2⟩:=hz1.out hBl (by omega)
  exact ⟨n,gt,s,given,rs,p1,H1,by simp only [spec_l20Puzzle.j6,spec_l20Puzzle.j8,dt,df,bt,bf,nt,nf,Za,Zy,Zx,Zt,Zf,Zn,Zz,Zi,Zo,wr,AV.toB,AV.toI,AV.toS,if_true,a1],a2,by omega,hB.trans adv1,o1,fun _=>o2 rfl⟩
 | true=>
  have hx0:¬ x1 ≤ 0:=fun h=>by have:=a5 h; cases this
  obtain ⟨v,H2,b1,b2,b3,b4,b5⟩:=pick_adv (show 1 ≤ k by omega) a2 (by omega) 3
  have hz2:=hz1.adv hb b3
  have adv2:=adv1.trans b3
  have hgl:=(own_reads hz2.og).len
  by_cases v0:v=0
  ·obtain ⟨kind,cs,value,cells,p',H3,c1,c2,c3,c4,c5,c6,c7,c8,c8n,c9,c10⟩:=l20Rule_ok (show 200 ≤ k by omega) hn (x3:=1) (by omega) b2 (by omega) (adv2.reads hxb hx) hxb hg
   have hz3:=hz2.adv hb c4
   have adv3:=adv2.trans c4
   have hgl2:=own_lt' hz2.og
   obtain ⟨t',H4,d1,d2,d3,d4⟩:=hz3.weak.apps (by have:=adv3.le; omega) hb adv3 c2 (by omega) [R.mk kind cs cells value] (by simp) (by simp) (fun i hi=>by
    have:i=0:=by simp at hi; omega
    subst this
    refine ⟨c5,by have:=adv2.le; simp only [List.getElem_cons_zero]; omega,by simp only [List.getElem_cons_zero]; omega,by simp only [List.getElem_cons_zero]; omega,fun hnn=>?_,c8n⟩
    rcases hz2.rr with ⟨h1,_,_⟩ | ⟨h1,_⟩
    ·rw [h1] at hnn; cases hnn
    ·have:=own_lt' h1.own; simp only [List.getElem_cons_zero]; omega) (fun r hr=>⟨fun e=>(by cases e),by simp at hr; subst hr; exact c9⟩)
   obtain ⟨o1,_⟩:=d2.out hBl (by simp; omega)
   refine ⟨n,gt,t',given,rs ++ [R.mk kind cs cells value],p',H4,?_,d4,by omega,hB.trans d3,o1,fun h=>absurd h hx0⟩
   have d1':H3.app 3 s 1 [.int .i64 kind,.sl 1 cs,.int .i64 value]=some (t',H4):=d1
   simp (disch:=omega) only [spec_l20Puzzle.j6,spec_l20Puzzle.j8,dt,df,bt,bf,nt,nf,Za,Zy,Zx,Zt,Zf,Zn,Zz,Zi,Zo,wr,AV.toB,AV.toI,AV.toS,if_true,a1,b1,v0,c1,AV.isAgg,AV.cel,Zl,Zm,Zc,Zd,d1']
   rfl
  ·by_cases v1:v=1
   ·have hlt:1 ≤ given.length:=by
     have:=((gridOk_iff given n).1 hz.gg).2.1
     have:n=2 ∨ n=3 ∨ n=4:=by omega
     rcases this with rfl | rfl | rfl <;> omega
    have h16:=gridOk_len hz.gg
    have hrd1:Reads .i64 H2 (Sl.mk gt.nil gt.blk (gt.off + 1) (given.length - 1)) (given.drop 1):=⟨by simp,fun i hi=>by
     have hi':1 + i < given.length:=by simp at hi; omega
     have:=(own_reads hz2.og).cell (1 + i) hi'
     simp only [List.getElem_drop]
     rw [← this,Nat.add_assoc]⟩
    obtain ⟨o1,o2⟩:=hz2.out hBl (by omega)
    refine ⟨n,Sl.mk gt.nil gt.blk (gt.off + 1) (given.length - 1),s,given.drop 1,rs,p1 + 1,H2,?_,b2,by omega,hB.trans adv2,⟨⟨hrd1,hz2.readsR,hn,by simp; omega,by omega,o1.at'.rc⟩,by simp; omega,fun v hv=>o1.gv v (List.mem_of_mem_drop hv),o1.r25,o1.c5,fun _=>Nat.le_trans hBl hz2.og.blk,o1.rb,o1.cb,hz2.og.nn,o1.cn⟩,fun h=>absurd h hx0⟩
    simp (disch:=omega) only [spec_l20Puzzle.j6,spec_l20Puzzle.j8,dt,df,bt,bf,nt,nf,Za,Zy,Zx,Zt,Zf,Zn,Zz,Zi,Zo,wr,AV.toB,AV.toI,AV.toS,if_true,a1,b1,v1]
    rw [ip (by simp; omega)]
    simp only [hgl,Nat.mul_one,show ((given.length:Int) - 1).toNat=given.length - 1 by omega]
   ·have q1:H2 <+: H2 ++ [some (Blk.mk false ((List.replicate 21 (R.mk 0 Sl.none [] 0)).flatMap R.av))]:=List.prefix_append _ _
    have hnew:=own_new 3 H2 ((List.replicate 21 (R.mk 0 Sl.none [] 0)).flatMap R.av) 21 (by rw [flat_length]; rfl)
    have hz0:∀ r ∈ List.replicate 21 (R.mk 0 Sl.none [] 0),r.cells=[]∧r.sl.len=0:=fun r hr=>by have:=(List.mem_replicate.1 hr).2; subst this; exact ⟨rfl,rfl⟩
    obtain ⟨o1,o2⟩:=hz2.out hBl (by omega)
    refine ⟨n,gt,Sl.mk false H2.length 0 21,given,List.replicate 21 (R.mk 0 Sl.none [] 0),p1 + 1,H2 ++ [some (Blk.mk false ((List.replicate 21 (R.mk 0 Sl.none [] 0)).flatMap R.av))],?_,b2.pf q1,by omega,hB.trans (adv2.trans (pf_adv q1)),⟨⟨pf_reads q1 (own_reads hz2.og),own_readsR' hnew hz0,hn,o1.at'.gl,by simp,fun r hr=>by rw [(hz0 r hr).1]; simp⟩,o1.g16,o1.gv,by simp,fun r hr=>by rw [(hz0 r hr).1]; simp,o1.gb,fun _=>by have:=adv2.le; simp only; omega,fun i hi hne=>absurd (hz0 _ (List.getElem_mem hi)).1 hne,o1.gn,fun i hi=>.inr (hz0 _ (List.getElem_mem hi)).1⟩,fun h=>absurd h hx0⟩
    simp (disch:=omega) only [spec_l20Puzzle.j6,spec_l20Puzzle.j8,dt,df,bt,bf,nt,nf,Za,Zy,Zx,Zt,Zf,Zn,Zz,Zi,Zo,wr,AV.toB,AV.toI,AV.toS,if_true,a1,b1,zero21]
    rw [ip (by simp)]
    rfl
theorem given_pos {n:Int} {g:List Int} (h:gridOk g n=true):4 ≤ g.length∧g.length ≤ 16:=by
 obtain ⟨hn,h2,_⟩:=(gridOk_iff g n).1 h
 have:n=2 ∨ n=3 ∨ n=4:=by omega
 rcases this with rfl | rfl | rfl <;> omega
theorem Puz_j4 {k:Nat} (hk:1000 ≤ k) {b:Nat} {l:List Int} {n x1 y0:Int} (hx1:x1 < 1000000) {p p0:Nat} (hp:p + 70 ≤ p0) (hp0:p0 ≤ 999990000) {H0 B H:Hp} (hB:Adv b H0 B) (hb0:b < H0.length) (hadv:Adv b B H) (hrd:RD b H l p) {y1 y2 xs gt s:Sl} {g given:List Int} {rs:List R} (hx:Reads .i64 B xs g) (hxb:xs.blk ≠ b) (hg:fullG g n) (hz:PZ true B H n gt s given rs) (hl:rs.length ≤ 12) :
  PuzDraw b l x1 p0 H0 (spec_l20Puzzle.j4 (callF PP orc k) k b 0 x1 n xs y0 y1 y2 n gt s H):=by
 obtain ⟨hn,_,_⟩:=(gridOk_iff given n).1 hz.gg
 have hBl:=hB.le
 have hb:b < B.length:=by omega
 obtain ⟨v,H1,a1,a2,a3,a4,a5⟩:=pick_adv (show 1 ≤ k by omega) hrd (by omega) 8
 have hz1:=hz.adv hb a3
 have hgl:=(own_reads hz1.og).len
 have h4:=given_pos hz1.gg
 by_cases v0:v=0
 ·obtain ⟨u,H2,b1,b2,b3,b4,b5⟩:=pick_adv (show 1 ≤ k by omega) a2 (by omega) (gt.len:Int)
  have hu:=b5 (by omega)
  obtain ⟨w,H3,c1,c2,c3,c4,c5⟩:=pick_adv (show 1 ≤ k by omega) b2 (by omega) n
  have hw:=c5 (by omega)
  have hz3:=(hz1.adv hb b3).adv hb c3
  obtain ⟨H4,d1,d2,d3,d4⟩:=hz3.set hb (((hadv.trans a3).trans b3).trans c3) c2 u.toNat (by omega) (1 + w) (by omega)
  have:=Puz_j6 hk hx1 (p0:=p0) (by omega) hp0 hB hb0 d3 d4 (y0:=y0) (y1:=y1) (y2:=y2) hx hxb hg d2 hl
  simp (disch:=omega) only [spec_l20Puzzle.j4,dt,df,bt,bf,nt,nf,Za,Zy,Zx,Zt,Zf,Zn,Zz,Zi,Zo,wr,AV.toB,AV.toI,AV.toS,if_true,a1,v0,b1,c1,d1]
  exact this
 ·have:=Puz_j6 hk hx1 (p0:=p0) (by omega) hp0 hB hb0 (hadv.trans a3) a2 (y0:=y0) (y1:=y1) (y2:=y2) hx hxb hg hz1 hl
  simp (disch:=omega) only [spec_l20Puzzle.j4,dt,df,bt,bf,nt,nf,Za,Zy,Zx,Zt,Zf,Zn,Zz,Zi,Zo,wr,AV.toB,AV.toI,AV.toS,if_true,a1]
  exact this
theorem Puz_l5 {k:Nat} (hk:1000 ≤ k) {b:Nat} {l:List Int} {n x1 y0 holes:Int} (hx1:x1 < 1000000) {p0:Nat} (hp0:p0 ≤ 999990000) {H0 B:Hp} (hB:Adv b H0 B) (hb0:b < H0.length) {y1 y2 xs gt s:Sl} {g:List Int} {rs:List R} (hx:Reads .i64 B xs g) (hxb:xs.blk ≠ b) (hg:fullG g n) (hl:rs.length ≤ 12) :
  ∀ (j i fuel:Nat) (H:Hp) (given:List Int) (p:Nat),i + j=given.length→j < fuel→p + 70 + j ≤ p0→Adv b B H→RD b H l p→PZ true B H n gt s given rs →
   PuzDraw b l x1 p0 H0 (spec_l20Puzzle.l5 (callF PP orc k) k fuel b 0 x1 n xs holes i y0 y1 y2 n gt s H):=by
 have hBl:=hB.le
 have hb:b < B.length:=by omega
 intro j
 induction j with
 | zero=>
  intro i fuel H given p hi hf hp hadv hrd hz
  obtain ⟨fuel,rfl⟩:=Zs fuel (by omega)
  have hgl:=(own_reads hz.og).len
  have:=Puz_j4 hk hx1 (p0:=p0) (by omega) hp0 hB hb0 hadv hrd (y0:=y0) (y1:=y1) (y2:=y2) hx hxb hg hz hl
  simp (disch:=omega) only [spec_l20Puzzle.l5,dt,df,bt,bf,nt,nf,Za,Zy,Zx,Zt,Zf,Zn,Zz,Zi,Zo,wr,AV.toB,AV.toI,AV.toS,if_true]
  exact this
 | succ j ih=>
  intro i fuel H given p hi hf hp hadv hrd hz
  obtain ⟨fuel,rfl⟩:=Zs fuel (by omega)
  obtain ⟨hn,_,_⟩:=(gridOk_iff given n).1 hz.gg
  have h4:=given_pos hz.gg
  have hgl:=(own_reads hz.og).len
  obtain ⟨v,H1,a1,a2,a3,a4,a5⟩:=pick_adv (show 1 ≤ k by omega) hrd (by omega) 4
  have hz1:=hz.adv hb a3
  by_cases c:v < holes
  ·obtain ⟨H4,d1,d2,d3,d4⟩:=hz1.set hb (hadv.trans a3) a2 i (by omega) 0 (by omega)
   have:=ih (i + 1) fuel H4 (given.set i 0) _ (by simp; omega) (by omega) (by omega) d3 d4 d2
   push_cast at this
   simp (disch:=omega) only [spec_l20Puzzle.l5,spec_l20Puzzle.j7,dt,df,bt,bf,nt,nf,Za,Zy,Zx,Zt,Zf,Zn,Zz,Zi,Zo,wr,AV.toB,AV.toI,AV.toS,if_true,a1,d1]
   exact this
  ·have:=ih (i + 1) fuel H1 given _ (by omega) (by omega) (by omega) (hadv.trans a3) a2 hz1
   push_cast at this
   simp (disch:=omega) only [spec_l20Puzzle.l5,spec_l20Puzzle.j7,dt,df,bt,bf,nt,nf,Za,Zy,Zx,Zt,Zf,Zn,Zz,Zi,Zo,wr,AV.toB,AV.toI,AV.toS,if_true,a1]
   exact this
theorem minFrom_grid {n:Int} (vs:List V) (hn:2 ≤ n∧n ≤ 4):∀ (j i:Nat) (g:List Int),gridOk g n=true→gridOk (minFrom n vs g i j) n=true
 | 0,_,_,h=>h
 | j + 1,i,g,h=>by
  rw [minFrom]
  refine minFrom_grid vs hn j (i + 1) _ ?_
  split
  ·exact grid_set h i 0 (by omega)
  ·exact h
theorem blk_ne {B B' H:Hp} {s t:Sl} {rs:List R} {l:List Int} (h:Own 3 B H s (rs.flatMap R.av)) (h':Own 1 B' H t (l.map (.int .i64))) (hl:2 ≤ l.length):s.blk ≠ t.blk:=by
 intro e
 have e1:=h.get
 rw [e,h'.get] at e1
 simp only [Option.some.injEq,Blk.mk.injEq,true_and] at e1
 have e2:=congrArg (fun x=>x[1]?) e1
 simp only [List.getElem?_map] at e2
 rw [List.getElem?_eq_getElem (show 1 < l.length by omega)] at e2
 cases rs with
 | nil=>simp at e2
 | cons r rs=>simp [R.av] at e2
theorem Puz_j3 {k:Nat} (hk:2000300 ≤ k) {b:Nat} {l:List Int} {n x1 y0:Int} (hx1:x1 < 1000000) {p p0:Nat} (hp:p + 100 ≤ p0) (hp0:p0 ≤ 999990000) {H0 B H:Hp} (hB:Adv b H0 B) (hb0:b < H0.length) (hadv:Adv b B H) (hrd:RD b H l p) {y1 y2 xs gt s:Sl} {g given:List Int} {rs:List R} (hx:Reads .i64 B xs g) (hxb:xs.blk ≠ b) (hg:fullG g n) (hz:PZ true B H n gt s given rs) (hl:rs.length ≤ 12) :
  PuzDraw b l x1 p0 H0 (spec_l20Puzzle.j3 (callF PP orc k) k b 0 x1 n xs y0 y1 y2 n gt s H):=by
 obtain ⟨hn,_,_⟩:=(gridOk_iff given n).1 hz.gg
 have hBl:=hB.le
 have hb:b < B.length:=by omega
 obtain ⟨v,H1,a1,a2,a3,a4,a5⟩:=pick_adv (show 1 ≤ k by omega) hrd (by omega) 3
 have hz1:=hz.adv hb a3
 have adv1:=hadv.trans a3
 have h4:=given_pos hz1.gg
 by_cases v0:v=0
 ·obtain ⟨H2,b1,b2⟩:=specMakeMinimal_ok hk (hz1.puz (by omega))
  have adv2:Adv b B H2:=adv1.trans (pf_adv b1)
  have rd2:=a2.pf b1
  rcases b2 with ⟨_,b2⟩ | ⟨_,gt',st,qs,b2,b3,b4,b5,b6⟩
  ·have:=Puz_j4 (show 1000 ≤ k by omega) hx1 (p0:=p0) (by omega) hp0 hB hb0 adv2 rd2 (y0:=y0) (y1:=y1) (y2:=y2) hx hxb hg (hz1.adv hb (pf_adv b1)) hl
   simp (disch:=omega) only [spec_l20Puzzle.j3,dt,df,bt,bf,nt,nf,Za,Zy,Zx,Zt,Zf,Zn,Zz,Zi,Zo,wr,AV.toB,AV.toI,AV.toS,if_true,a1,v0,b2,AV.isTup,AV.nth,AV.isAgg,AV.cel,Zl,Zm,Zc,Zd]
   exact this
  ·have hle:=adv1.le
   have hql:qs.length=rs.length:=by have:=congrArg List.length b5; simpa using this
   have hmm:gridOk (minimalV n given (rs.map R.val)) n=true:=minFrom_grid _ hn _ _ _ hz1.gg
   have h4':=given_pos hmm
   have hz2:PZ true B H2 n gt' st (minimalV n given (rs.map R.val)) qs:=by
    refine ⟨⟨b3.nn,b3.off,Nat.le_trans hle b3.blk,b3.get,b3.len⟩,.inr ⟨⟨⟨b4.own.nn,b4.own.off,Nat.le_trans hle b4.own.blk,b4.own.get,b4.own.len⟩,b4.rd,b4.ne,b4.lt,fun i hi=>Nat.le_trans hle (b4.lo i hi),b4.nn⟩,blk_ne b4.own b3 (by omega)⟩,b6,hmm,fun q hq=>?_⟩
    have hqv:q.val ∈ rs.map R.val:=b5 ▸ List.mem_map_of_mem hq
    obtain ⟨r,hr,e⟩:=List.mem_map.1 hqv
    obtain ⟨r1,r2⟩:=hz1.ro r hr
    have e1:R.ok n q=R.ok n r:=by
     show ruleOkV n q.val=ruleOkV n r.val
     rw [e]
    have e2:q.cells=r.cells:=congrArg (·.2.1) e.symm
    exact ⟨fun h=>e1 ▸ r1 h,e2 ▸ r2⟩
   have:=Puz_j4 (show 1000 ≤ k by omega) hx1 (p0:=p0) (by omega) hp0 hB hb0 adv2 rd2 (y0:=y0) (y1:=y1) (y2:=y2) hx hxb hg hz2 (by omega)
   simp (disch:=omega) only [spec_l20Puzzle.j3,dt,df,bt,bf,nt,nf,Za,Zy,Zx,Zt,Zf,Zn,Zz,Zi,Zo,wr,AV.toB,AV.toI,AV.toS,if_true,a1,v0,b2,AV.isTup,AV.nth,AV.isAgg,AV.cel,Zl,Zm,Zc,Zd]
   exact this
 ·obtain ⟨w,H2,b1,b2,b3,b4,b5⟩:=pick_adv (show 1 ≤ k by omega) a2 (by omega) 3
  have hw:=b5 (by omega)
  have:=Puz_l5 (show 1000 ≤ k by omega) (holes:=1 + w) hx1 hp0 hB hb0 (y0:=y0) (y1:=y1) (y2:=y2) hx hxb hg hl given.length 0 k H2 given _ (by omega) (by omega) (by omega) (adv1.trans b3) b2 (hz1.adv hb b3)
  simp (disch:=omega) only [spec_l20Puzzle.j3,dt,df,bt,bf,nt,nf,Za,Zy,Zx,Zt,Zf,Zn,Zz,Zi,Zo,wr,AV.toB,AV.toI,AV.toS,if_true,a1,b1]
  exact this
theorem box_valid:∀ r ∈ boxRules,ruleOkV 4 r=true∧r.2.1.length ≤ 5:=by decide
theorem Puz_j2 {k:Nat} (hk:2000400 ≤ k) {b:Nat} {l:List Int} {n x1 y0:Int} (hx1:x1 < 1000000) {p p0:Nat} (hp:p + 100 ≤ p0) (hp0:p0 ≤ 999990000) {H0 B H:Hp} (hB:Adv b H0 B) (hb0:b < H0.length) (hadv:Adv b B H) (hrd:RD b H l p) {y1 y2 xs gt s:Sl} {g given:List Int} {rs:List R} (hx:Reads .i64 B xs g) (hxb:xs.blk ≠ b) (hg:fullG g n) (hz:PZ true B H n gt s given rs) (hl:rs.length ≤ 8) {c:Bool} (hc:c=true→n=4) :
  PuzDraw b l x1 p0 H0 (spec_l20Puzzle.j2 (callF PP orc k) k b 0 x1 n xs c y0 y1 y2 n gt s H):=by
 have hBl:=hB.le
 have hb:b < B.length:=by omega
 cases c with
 | false=>
  have:=Puz_j3 (show 2000300 ≤ k by omega) hx1 (p0:=p0) (by omega) hp0 hB hb0 hadv hrd (y0:=y0) (y1:=y1) (y2:=y2) hx hxb hg hz (by omega)
  simp only [spec_l20Puzzle.j2,Zf]
  exact this
 | true=>
  have hn4:=hc rfl
  subst hn4
  obtain ⟨u,H1,a1,a2,a3⟩:=specBoxRegions_ok (show 100 ≤ k by omega) H
  obtain ⟨t,qs,H2,b1,b2,b3,b4⟩:=specRegionRules_ok (show 2000010 ≤ k by omega) (own_reads a3)
  have p2:H <+: H2:=a2.trans b2
  have hql:qs.length=4:=by have:=congrArg List.length b4; simp [boxRules] at this; exact this
  have hqo:∀ r ∈ qs,(true=true→R.ok 4 r=true)∧r.cells.length ≤ 5:=fun q hq=>by
   have:q.val ∈ boxRules:=b4 ▸ List.mem_map_of_mem hq
   obtain ⟨h1,h2⟩:=box_valid _ this
   exact ⟨fun _=>h1,h2⟩
  have hgl:g.length ≤ 16:=by have:=hg.1; rw [this]; decide
  have hxH:=(hadv.trans (pf_adv p2)).reads hxb hx
  have hz0:PuzAt H2 4 xs t g qs:=⟨hxH,b3.reads,by omega,by omega,by omega,fun r hr=>by have:=(hqo r hr).2; omega⟩
  obtain ⟨H3,c1,c2⟩:=specPuzzleSolved_ok (show 2000043 ≤ k by omega) hz0 hxH (by omega)
  have p3:=p2.trans c2
  have adv3:Adv b B H3:=hadv.trans (pf_adv p3)
  have hz3:=hz.adv hb (pf_adv (b:=b) p3)
  cases hs:puzzleSolvedV 4 g (qs.map R.val) g with
  | false=>
   rw [hs] at c1
   have:=Puz_j3 (show 2000300 ≤ k by omega) hx1 (p0:=p0) (by omega) hp0 hB hb0 adv3 (hrd.pf p3) (y0:=y0) (y1:=y1) (y2:=y2) hx hxb hg hz3 (by omega)
   simp (disch:=omega) only [spec_l20Puzzle.j2,dt,df,bt,bf,nt,nf,Za,Zy,Zx,Zt,Zf,Zn,Zz,Zi,Zo,wr,AV.toB,AV.toI,AV.toS,if_true,a1,b1,c1,AV.isTup,AV.nth,Zl,Zm,Zc,Zd]
   exact this
  | true=>
   rw [hs] at c1
   have hHl:=a2.length_le
   have hgt:=own_lt' hz.og
   have hb3':=b3.pf c2
   obtain ⟨t',H4,d1,d2,d3,d4⟩:=hz3.apps (by have:=adv3.le; omega) hb adv3 (hrd.pf p3) (by omega) qs (by omega) (by omega) (fun i hi=>by
    have h1:=b3.lo i hi
    have h2:=hb3'.lt i hi
    refine ⟨hb3'.rd i hi,by have:=hadv.le; omega,h2,by omega,fun hnn=>?_,hb3'.nn i hi⟩
    rcases hz.rr with ⟨h1',_,_⟩ | ⟨h1',_⟩
    ·rw [h1'] at hnn; cases hnn
    ·have:=own_lt' h1'.own; omega) hqo
   have hrd3:=read3_ok hb3'.own
   have hsl:=own_len3 hb3'.own
   have:=Puz_j3 (show 2000300 ≤ k by omega) hx1 (p0:=p0) (by omega) hp0 hB hb0 d3 d4 (y0:=y0) (y1:=y1) (y2:=y2) hx hxb hg d2 (by simp; omega)
   simp (disch:=omega) only [spec_l20Puzzle.j2,dt,df,bt,bf,nt,nf,Za,Zy,Zx,Zt,Zf,Zn,Zz,Zi,Zo,wr,AV.toB,AV.toI,AV.toS,if_true,a1,b1,c1,AV.isTup,AV.nth,Zl,Zm,Zc,Zd,hrd3,hsl,d1,cells3_ok]
   exact this
theorem Puz_j1 {k:Nat} (hk:2000400 ≤ k) {b:Nat} {l:List Int} {n x1 y0:Int} (hx1:x1 < 1000000) {p p0:Nat} (hp:p + 110 ≤ p0) (hp0:p0 ≤ 999990000) {H0 B H:Hp} (hB:Adv b H0 B) (hb0:b < H0.length) (hadv:Adv b B H) (hrd:RD b H l p) {y1 y2 xs gt s:Sl} {g given:List Int} {rs:List R} (hx:Reads .i64 B xs g) (hxb:xs.blk ≠ b) (hg:fullG g n) (hz:PZ true B H n gt s given rs) (hl:rs.length ≤ 8) :
  PuzDraw b l x1 p0 H0 (spec_l20Puzzle.j1 (callF PP orc k) k b 0 x1 n xs y0 y1 y2 n gt s H):=by
 have hBl:=hB.le
 have hb:b < B.length:=by omega
 by_cases c:n=4
 ·obtain ⟨v,H1,a1,a2,a3,a4,a5⟩:=pick_adv (show 1 ≤ k by omega) hrd (by omega) 3
  have:=Puz_j2 hk hx1 (p0:=p0) (by omega) hp0 hB hb0 (hadv.trans a3) a2 (y0:=y0) (y1:=y1) (y2:=y2) hx hxb hg (hz.adv hb a3) hl (c:=v == 0) (fun _=>c)
  simp only [spec_l20Puzzle.j1,bt c,Zt,a1,Zo,AV.toI,if_true]
  exact this
 ·have:=Puz_j2 hk hx1 (p0:=p0) (by omega) hp0 hB hb0 hadv hrd (y0:=y0) (y1:=y1) (y2:=y2) hx hxb hg hz hl (c:=false) (fun h=>by cases h)
  simp only [spec_l20Puzzle.j1,bf c,Zf]
  exact this
theorem Puz_l0 {k:Nat} (hk:2000400 ≤ k) {b:Nat} {l:List Int} {n x1 y0:Int} (hx1:x1 < 1000000) {p0:Nat} (hp0:p0 ≤ 999990000) {H0 B:Hp} (hB:Adv b H0 B) (hb0:b < H0.length) {y1 y2 xs gt:Sl} {g given:List Int} (hx:Reads .i64 B xs g) (hxb:xs.blk ≠ b) (hg:fullG g n) :
  ∀ (j fuel:Nat) (H:Hp) (s:Sl) (rs:List R) (p:Nat),j < fuel→rs.length + j ≤ 8→p + 110 + 50 * j ≤ p0→Adv b B H→RD b H l p→PZ true B H n gt s given rs →
   PuzDraw b l x1 p0 H0 (spec_l20Puzzle.l0 (callF PP orc k) k fuel b 0 x1 n xs (j:Int) y0 y1 y2 n gt s H):=by
 have hBl:=hB.le
 have hb:b < B.length:=by omega
 intro j
 induction j with
 | zero=>
  intro fuel H s rs p hf hl hp hadv hrd hz
  obtain ⟨fuel,rfl⟩:=Zs fuel (by omega)
  have:=Puz_j1 hk hx1 (p0:=p0) (by omega) hp0 hB hb0 hadv hrd (y0:=y0) (y1:=y1) (y2:=y2) hx hxb hg hz (by omega)
  simp (disch:=omega) only [spec_l20Puzzle.l0,dt,df,bt,bf,nt,nf,Za,Zy,Zx,Zt,Zf,Zn,Zz,Zi,Zo,wr,AV.toB,AV.toI,AV.toS,if_true]
  exact this
 | succ j ih=>
  intro fuel H s rs p hf hl hp hadv hrd hz
  obtain ⟨fuel,rfl⟩:=Zs fuel (by omega)
  obtain ⟨hn,_,_⟩:=(gridOk_iff given n).1 hz.gg
  obtain ⟨kind,cs,value,cells,p',H3,c1,c2,c3,c4,c5,c6,c7,c8,c8n,c9,c10⟩:=l20Rule_ok (show 200 ≤ k by omega) hn (x3:=0) (by omega) hrd (by omega) (hadv.reads hxb hx) hxb hg
  have hz3:=hz.adv hb c4
  have adv3:=hadv.trans c4
  have hgl2:=own_lt' hz.og
  obtain ⟨t',H4,d1,d2,d3,d4⟩:=hz3.apps (by have:=adv3.le; omega) hb adv3 c2 (by omega) [R.mk kind cs cells value] (by simp) (by simp) (fun i hi=>by
    have:i=0:=by simp at hi; omega
    subst this
    refine ⟨c5,by have:=hadv.le; simp only [List.getElem_cons_zero]; omega,by simp only [List.getElem_cons_zero]; omega,by simp only [List.getElem_cons_zero]; omega,fun hnn=>?_,c8n⟩
    rcases hz.rr with ⟨h1,_,_⟩ | ⟨h1,_⟩
    ·rw [h1] at hnn; cases hnn
    ·have:=own_lt' h1.own; simp only [List.getElem_cons_zero]; omega) (fun r hr=>⟨fun _=>by simp at hr; subst hr; exact c10 (by omega),by simp at hr; subst hr; exact c9⟩)
  have:=ih fuel H4 t' (rs ++ [R.mk kind cs cells value]) p' (by omega) (by simp; omega) (by omega) d3 d4 d2
  have d1':H3.app 3 s 1 [.int .i64 kind,.sl 1 cs,.int .i64 value]=some (t',H4):=d1
  have hj:((j + 1:Nat):Int) - 1=(j:Int):=by omega
  simp (disch:=omega) only [spec_l20Puzzle.l0,dt,Zt,Zo,c1,AV.toI,AV.toS,if_true,AV.isAgg,AV.cel,Zl,Zm,Zc,Zd,d1',wr,hj]
  exact this
theorem l20Puzzle_ok {k:Nat} (hk:2000500 ≤ k) {b:Nat} {l:List Int} {x1:Int} (hx1:x1 < 1000000) {p:Nat} {H:Hp} (hrd:RD b H l p) (hp:p ≤ 900000000) :
  PuzDraw b l x1 (p + 500) H (callF PP orc k spec_l20Puzzle.id [.ptr b 0,.int .i64 x1] H):=by
 obtain ⟨k,rfl⟩:=Zs k (by omega)
 rw [spec_l20Puzzle.call]
 obtain ⟨n,p1,H1,a1,a2,a3,a4,a5,a6,a7⟩:=l20Size_ok (show 3 ≤ k by omega) hrd (by omega) (n:=0) (by omega)
 have hn:=a7 (by omega)
 obtain ⟨t,g,p2,H2,b1,b2,b3,b4,b5,b6⟩:=l20Solved_ok (show 2000101 ≤ k by omega) a2 (by omega) hn
 have hgl:g.length ≤ 16:=by
  have:=b6.1
  have:n=2 ∨ n=3 ∨ n=4:=by omega
  rcases this with rfl | rfl | rfl <;> omega
 have hg:gridOk g n=true:=by
  refine (gridOk_iff g n).2 ⟨hn,?_,fun v hv=>by have:=b6.2 v hv; omega⟩
  have:=b6.1
  have:n=2 ∨ n=3 ∨ n=4:=by omega
  rcases this with rfl | rfl | rfl <;> omega
 have hb0:=hrd.lt
 have adv2:Adv b H H2:=a4.trans b4
 have q1:H2 <+: H2 ++ [some (Blk.mk false (g.map (.int .i64)))]:=List.prefix_append _ _
 have hnew:=own_new 1 H2 (g.map (.int .i64)) g.length (by simp)
 obtain ⟨v,H3,c1,c2,c3,c4,c5⟩:=pick_adv (show 1 ≤ k by omega) (b2.pf q1) (by omega) 5
 have hv:=c5 (by omega)
 have hz:PZ true H2 (H2 ++ [some (Blk.mk false (g.map (.int .i64)))]) n (Sl.mk false H2.length 0 g.length) Sl.none g []:=⟨hnew,.inl ⟨rfl,rfl,rfl⟩,fun i hi=>absurd hi (Nat.not_lt_zero _),hg,fun r hr=>by cases hr⟩
 have hb2:b < H2.length:=by have:=adv2.le; omega
 have htb:t.blk ≠ b:=by have:=b5.blk; have:=a4.le; omega
 have:=Puz_l0 (show 2000400 ≤ k by omega) hx1 (p0:=p + 500) (by omega) adv2 hb0 (l:=l) (y0:=0) (y1:=Sl.none) (y2:=Sl.none) (given:=g) (own_reads b5) htb b6 v.toNat k H3 Sl.none [] _ (by omega) (by simp; omega) (by omega) ((pf_adv q1).trans c3) c2 (hz.adv hb2 c3)
 rw [show ((v.toNat:Nat):Int)=v by omega] at this
 have tl:=(own_reads b5).len
 simp (disch:=omega) only [spec_l20Puzzle.f,Zo,a1,b1,AV.toI,AV.toS,if_true,read_ok (own_reads b5),tl,appl_ok,cells_ok,Za,Zt,c1]
 exact this
end Go.Proofs.Ytchliocobgkmbaa.Rp
