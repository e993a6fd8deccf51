/- Texts for the row of the law FnBoxSquare, part 7: the plain machine, the program's functions on it, what they come to. No conditions. -/
import Derived.Test.YtjikkamhljbipaaBuFnBoxSquare6
import Derived.Test.YtjikkamhljbipaaBuFnBoxSquare5
import Derived.Test.YtjikkamhljbipaaBuFnBoxSquare4
set_option linter.unusedVariables false
set_option linter.unusedSimpArgs false
namespace Go.Proofs.Ytjikkamhljbipaa.Rp
open Go Go.RowKit Go.Proofs.Ytjikkamhljbipaa.Ab

def LexLt (x y:List Int):Prop:=∃ i,(∀ j,j < i→x.getD j 0=y.getD j 0)∧x.getD i 0 < y.getD i 0
theorem LexLt.asymm {x y:List Int} (h:LexLt x y) (h':LexLt y x):False:=by
 obtain ⟨i,h1,h2⟩:=h
 obtain ⟨j,h3,h4⟩:=h'
 rcases Nat.lt_trichotomy i j with e | e | e
 ·have:=h3 i e; omega
 ·subst e; omega
 ·have:=h1 j e; omega
theorem sorted_ext:∀ (A B:List (List Int)),A.Pairwise LexLt→B.Pairwise LexLt→(∀ x,x ∈ A ↔ x ∈ B)→A=B
 | [],[],_,_,_=>rfl
 | [],b :: B,_,_,h=>by have:=(h b).2 (by simp); cases this
 | a :: A,[],_,_,h=>by have:=(h a).1 (by simp); cases this
 | a :: A,b :: B,hA,hB,h=>by
  have a1:=(List.pairwise_cons.1 hA).1
  have b1:=(List.pairwise_cons.1 hB).1
  have irr:∀ x:List Int,¬ LexLt x x:=fun x hx=>hx.asymm hx
  have e:a=b:=by
   rcases List.mem_cons.1 ((h a).1 (by simp)) with e | e
   ·exact e
   ·rcases List.mem_cons.1 ((h b).2 (by simp)) with e' | e'
    ·exact e'.symm
    ·exact ((b1 a e).asymm (a1 b e')).elim
  subst e
  congr 1
  refine sorted_ext A B (List.Pairwise.of_cons hA) (List.Pairwise.of_cons hB) fun x=>?_
  constructor
  ·intro hx
   rcases List.mem_cons.1 ((h x).1 (List.mem_cons_of_mem _ hx)) with e | e
   ·subst e; exact (irr _ (a1 _ hx)).elim
   ·exact e
  ·intro hx
   rcases List.mem_cons.1 ((h x).2 (List.mem_cons_of_mem _ hx)) with e | e
   ·subst e; exact (irr _ (b1 _ hx)).elim
   ·exact e
theorem upto_lt:∀ (j:Nat) (v:Int),(upto j v).Pairwise (fun a b=>a < b)
 | 0,v=>List.Pairwise.nil
 | j + 1,v=>by
  rw [upto]
  refine List.Pairwise.cons (fun w hw=>?_) (upto_lt j (v + 1))
  rw [mem_upto] at hw; omega
theorem sols_lt {n:Int} {f:List Int→Bool} (hf:∀ g' g,Le g' g→gridOk g n=true→f g=true→f g'=true):∀ (rem:Nat) (g:List Int),rem ≤ g.length→gridOk g n=true→(∀ i,i < g.length - rem→0 < g.getD i 0)→f g=true→(sols f n.toNat rem g).Pairwise LexLt:=by
 intro rem
 induction rem with
 | zero=>intro g hr hg hfu hfg; rw [sols]; simp
 | succ rem ih=>
  intro g hr hg hfu hfg
  have hat:g.length - (rem + 1) < g.length:=by omega
  obtain ⟨hn,h2,h3⟩:=(gridOk_iff g n).1 hg
  by_cases c:0 < g.getD (g.length - (rem + 1)) 0
  ·rw [sols,if_pos c]
   refine ih g (by omega) hg (fun i hi=>?_) hfg
   by_cases e:i=g.length - (rem + 1)
   ·rw [e]; exact c
   ·exact hfu i (by omega)
  ·rw [sols,if_neg c]
   have fill:∀ v,1 ≤ v∧v ≤ n→∀ i,i < (g.set (g.length - (rem + 1)) v).length - rem→0 < (g.set (g.length - (rem + 1)) v).getD i 0:=fun v hv1 i hi=>by
    rw [List.length_set] at hi
    rw [getD_set]
    split
    ·omega
    ·rename_i e
     exact hfu i (by omega)
   rw [List.pairwise_flatMap]
   constructor
   ·intro v hv1
    rw [mem_upto] at hv1
    split
    ·rename_i hfv
     exact ih _ (by simp; omega) (grid_set'' hg _ v ⟨by omega,by omega⟩) (fill v (by omega)) hfv
    ·exact List.Pairwise.nil
   ·refine List.Pairwise.imp_of_mem (fun {a b} ha hb hab x hx y hy=>?_) (upto_lt n.toNat 1)
    rw [mem_upto] at ha hb
    split at hx
    ·rename_i hfa
     split at hy
     ·rename_i hfb
      have m1:=((mem_sols hf rem _ (by simp; omega) (grid_set'' hg _ a ⟨by omega,by omega⟩) (fill a (by omega)) hfa x).1 hx).2.1
      have m2:=((mem_sols hf rem _ (by simp; omega) (grid_set'' hg _ b ⟨by omega,by omega⟩) (fill b (by omega)) hfb y).1 hy).2.1
      refine ⟨g.length - (rem + 1),fun j hj=>?_,?_⟩
      ·have p:=hfu j hj
       have e1:=m1.2 j
       have e2:=m2.2 j
       rw [getD_set,if_neg (by omega)] at e1 e2
       omega
      ·have e1:=m1.2 (g.length - (rem + 1))
       have e2:=m2.2 (g.length - (rem + 1))
       rw [getD_set,if_pos ⟨rfl,hat⟩] at e1 e2
       omega
     ·cases hy
    ·cases hx
theorem allSols_lt {n:Int} {given:List Int} {vs:List V} (hp:puzzleV n given vs=true):(allSols n given vs).Pairwise LexLt:=by
 obtain ⟨hg,hv⟩:=puzzleV_grid hp
 unfold allSols
 by_cases c:puzzleFitsV n given vs given=true
 ·rw [if_pos c]
  unfold puzzleFitsV at c
  simp only [Bool.and_eq_true] at c
  exact sols_lt (fun g' g h1 h2 h3=>fits_anti h1 h2 hv h3) _ _ (Nat.le_refl _) hg (fun i hi=>by omega) c.2.2
 ·rw [if_neg c]; exact List.Pairwise.nil
theorem zeros_len {n:Int} (hn:2 ≤ n∧n ≤ 4):((zeros n).length:Int)=n * n∧(zeros n).length=(n * n).toNat∧(n * n).toNat ≤ 16:=by
 have:n=2 ∨ n=3 ∨ n=4:=by omega
 rcases this with rfl | rfl | rfl <;> decide
theorem zeros_at (n:Int) (i:Nat):(zeros n).getD i 0=0:=by
 unfold zeros
 rw [List.getD_eq_getElem?_getD,List.getElem?_replicate]
 split <;> rfl
theorem zeros_grid {n:Int} (hn:2 ≤ n∧n ≤ 4):gridOk (zeros n) n=true:=(gridOk_iff _ _).2 ⟨hn,(zeros_len hn).1,fun v hv=>by
 have:=(List.mem_replicate.1 hv).2; omega⟩
theorem zeros_clash {n:Int} (hn:2 ≤ n∧n ≤ 4):clash (zeros n) n=false:=by
 have:n=2 ∨ n=3 ∨ n=4:=by omega
 rcases this with rfl | rfl | rfl <;> decide
theorem zeros_Le {n:Int} {x:List Int} (hx:gridOk x n=true):Le (zeros n) x:=by
 obtain ⟨hn,h2,_⟩:=(gridOk_iff x n).1 hx
 have:=zeros_len hn
 exact ⟨by omega,fun i=>.inl (zeros_at n i)⟩
theorem clash_antiB (n:Int):∀ g' g,Le g' g→gridOk g n=true→(!clash g n)=true→(!clash g' n)=true:=fun g' g h1 _ h3=>by
 rw [Bool.not_eq_true'] at h3 ⊢; exact clash_anti h1 n h3
theorem mem_squares {n:Int} (hn:2 ≤ n∧n ≤ 4) (x:List Int):x ∈ squares n ↔ gridOk x n=true∧full x∧clash x n=false:=by
 unfold squares
 rw [mem_sols (clash_antiB n) _ _ (by have:=zeros_len hn; omega) (zeros_grid hn) (fun i hi=>by have:=zeros_len hn; omega) (by rw [zeros_clash hn]; rfl) x]
 constructor
 ·rintro ⟨a,b,c,d⟩; exact ⟨a,c,by simpa using d⟩
 ·rintro ⟨a,c,d⟩; exact ⟨a,zeros_Le a,c,by simpa using d⟩
theorem squares_lt {n:Int} (hn:2 ≤ n∧n ≤ 4):(squares n).Pairwise LexLt:=by
 unfold squares
 exact sols_lt (clash_antiB n) _ _ (by have:=zeros_len hn; omega) (zeros_grid hn) (fun i hi=>by have:=zeros_len hn; omega) (by rw [zeros_clash hn]; rfl)
theorem filled_eq {g:List Int}:filled g=g.length ↔ full g:=by
 unfold filled full
 rw [List.countP_eq_length]
 constructor
 ·intro h i hi; simpa using h _ (mem_getD hi)
 ·intro h v hv
  obtain ⟨i,hi,rfl⟩:=List.getElem_of_mem hv
  have:=h i hi
  rw [List.getD_eq_getElem?_getD,List.getElem?_eq_getElem hi] at this
  simpa using this
theorem solved_iff {n:Int} {given:List Int} {vs:List V} (hp:puzzleV n given vs=true) (x:List Int):puzzleSolvedV n given vs x=true ↔ x ∈ allSols n given vs:=by
 rw [mem_allSols hp]
 obtain ⟨hg,_⟩:=puzzleV_grid hp
 unfold puzzleSolvedV puzzleFitsV
 simp only [Bool.and_eq_true,decide_eq_true_eq,hp,true_and,filled_eq]
 constructor
 ·rintro ⟨⟨a,b⟩,c⟩
  refine ⟨a,⟨by have:=grid_len_eq hg a; exact this,fun i=>?_⟩,c,b⟩
  unfold fitsV at b
  simp only [Bool.and_eq_true] at b
  have b1:=b.1
  rw [compatB_iff] at b1
  have hl:=grid_len_eq hg a
  by_cases hi:i < x.length
  ·by_cases h0:given.getD i 0=0
   ·exact .inl h0
   ·right
    have hv:=((gridOk_iff given n).1 hg).2.2 _ (mem_getD (show i < given.length by omega))
    exact (b1 i hi (by omega) (c i hi)).symm
  ·left
   rw [List.getD_eq_getElem?_getD,List.getElem?_eq_none (by omega)]; rfl
 ·rintro ⟨a,b,c,d⟩
  exact ⟨⟨a,d⟩,c⟩
theorem sol_square {n:Int} {given:List Int} {vs:List V} (hp:puzzleV n given vs=true) {x:List Int} (hx:x ∈ allSols n given vs):x ∈ squares n:=by
 rw [mem_allSols hp] at hx
 have hn:=((gridOk_iff x n).1 hx.1).1
 rw [mem_squares hn]
 refine ⟨hx.1,hx.2.2.1,?_⟩
 have:=hx.2.2.2
 unfold fitsV at this
 simp only [Bool.and_eq_true,Bool.not_eq_true'] at this
 exact this.2.2
theorem sols_filter {n:Int} {given:List Int} {vs:List V} (hp:puzzleV n given vs=true):allSols n given vs=(squares n).filter (puzzleSolvedV n given vs):=by
 have hn:=((gridOk_iff given n).1 (puzzleV_grid hp).1).1
 refine sorted_ext _ _ (allSols_lt hp) ((squares_lt hn).filter _) fun x=>?_
 rw [List.mem_filter,solved_iff hp]
 constructor
 ·intro h; exact ⟨sol_square hp h,h⟩
 ·intro h; exact h.2
theorem zeros_puzzle {n:Int} (hn:2 ≤ n∧n ≤ 4):puzzleV n (zeros n) []=true:=by
 unfold puzzleV; rw [zeros_grid hn]; rfl
theorem sols_zeros {n:Int} (hn:2 ≤ n∧n ≤ 4):allSols n (zeros n) []=squares n:=by
 rw [sols_filter (zeros_puzzle hn)]
 refine List.filter_eq_self.2 fun x hx=>?_
 rw [solved_iff (zeros_puzzle hn),mem_allSols (zeros_puzzle hn)]
 rw [mem_squares hn] at hx
 refine ⟨hx.1,zeros_Le hx.1,hx.2.1,?_⟩
 unfold fitsV
 rw [hx.2.2]
 simp only [List.all_nil,Zx,Za,Bool.and_true]
 rw [compatB_iff]
 intro i _ h; rw [zeros_at] at h; omega
theorem squares_pos {n:Int} (hn:2 ≤ n∧n ≤ 4) {x:List Int} (hx:x ∈ squares n):fullG x n∧gridOk x n=true∧full x∧clash x n=false∧x.length ≤ 16:=by
 rw [mem_squares hn] at hx
 obtain ⟨_,h2,h3⟩:=(gridOk_iff x n).1 hx.1
 have:=zeros_len hn
 refine ⟨⟨by omega,fun v hv=>?_⟩,hx.1,hx.2.1,hx.2.2,gridOk_len hx.1⟩
 obtain ⟨i,hi,rfl⟩:=List.getElem_of_mem hv
 have p:=hx.2.1 i hi
 rw [List.getD_eq_getElem?_getD,List.getElem?_eq_getElem hi] at p
 have p':0 < x[i]:=by simpa using p
 exact ⟨by omega,(h3 _ (List.getElem_mem hi)).2⟩
def sq (n:Int) (rem:Nat) (g:List Int):List (List Int):=sols (fun g=>!clash g n) n.toNat rem g
def sqFrom (n:Int) (rem:Nat) (g:List Int) (at':Nat) (j:Nat) (v:Int):List (List Int):=(upto j v).flatMap fun v=>if (!clash (g.set at' v) n)=true then sq n rem (g.set at' v) else []
theorem sqFrom_succ (n:Int) (rem:Nat) (g:List Int) (at':Nat) (j:Nat) (v:Int):sqFrom n rem g at' (j + 1) v=(if (!clash (g.set at' v) n)=true then sq n rem (g.set at' v) else []) ++ sqFrom n rem g at' j (v + 1):=by
 unfold sqFrom; rw [upto,List.flatMap_cons]
structure SqTo (b:Nat) (H':Hp) (L:List (List Int)) (left:Nat) (t:Sl):Prop where
 yes:∀ x,L[left]?=some x→Reads .i64 H' t x∧t.blk ≠ b∧0 < x.length
 no:L[left]?=none→t.len=0∧NumAt b H' ((left - L.length:Nat):Int)
theorem l2Find_ok {n:Int} (hn:2 ≤ n∧n ≤ 4) {b:Nat}:∀ (rem:Nat) {k:Nat},2000002 + rem ≤ k→∀ {H:Hp} {s:Sl} {g:List Int} {left:Nat},rem ≤ (n * n).toNat→Reads .i64 H s g→s.blk ≠ b→gridOk g n=true→(∀ i,g.length - rem ≤ i→g.getD i 0=0)→NumAt b H left→left < 9223372036854775808→
  ∃ t H',callF PP orc k spec_l2Search.id [.sl 1 s,.int .i64 n,.int .i64 (((n * n).toNat - rem:Nat):Int),.ptr b 0] H=some (.sl 1 t,H')∧Adv b H H'∧SqTo b H' (sq n rem g) left t:=by
 have hnn:4 ≤ n * n∧n * n ≤ 16:=by
  have:n=2 ∨ n=3 ∨ n=4:=by omega
  rcases this with rfl | rfl | rfl <;> decide
 intro rem
 induction rem with
 | zero=>
  intro k hk H s g left hrem hs hsb hg hgz hnum hleft
  obtain ⟨k,rfl⟩:=Zs k (by omega)
  rw [spec_l2Search.call]
  obtain ⟨_,h2,h3⟩:=(gridOk_iff g n).1 hg
  have hsl:=hs.len
  have e1:((((n * n).toNat - 0:Nat):Int) == (s.len:Int))=true:=by simp; omega
  have hl:ldI .i64 H b 0=some (left:Int):=by unfold ldI Hp.cell; rw [hnum]; simp [AV.toI]
  have hb:=(List.getElem?_eq_some_iff.1 hnum).1
  have eL:sq n 0 g=[g]:=rfl
  rw [eL]
  by_cases c:left=0
  ·subst c
   refine ⟨s,H,?_,Adv.refl b H,fun x hx=>?_,fun h=>by simp at h⟩
   ·have e2:(((0:Nat):Int) == 0)=true:=rfl
    simp only [spec_l2Search.f,e1,Zt,hl,Zo,e2]
   ·simp at hx; subst hx; exact ⟨hs,hsb,by omega⟩
  ·have w:IntKind.i64.wrap ((left:Int) - 1)=((left - 1:Nat):Int):=by rw [wr (by omega) (by omega)]; omega
   obtain ⟨H',a1,a2,a3,a4⟩:=sto1' hnum (.int .i64 ((left - 1:Nat):Int))
   refine ⟨Sl.none,H',?_,⟨a3,by omega⟩,fun x hx=>?_,fun _=>⟨rfl,by simpa [NumAt] using a2⟩⟩
   ·have e2:((left:Int) == 0)=false:=by simp; omega
    simp only [spec_l2Search.f,e1,Zt,Zf,hl,Zo,e2,w,a1]
   ·rw [List.getElem?_eq_none (by simp; omega)] at hx; cases hx
 | succ rem ih=>
  intro k hk H s g left hrem hs hsb hg hgz hnum hleft
  obtain ⟨k,rfl⟩:=Zs k (by omega)
  rw [spec_l2Search.call]
  obtain ⟨_,h2,h3⟩:=(gridOk_iff g n).1 hg
  have hsl:=hs.len
  have hgl:g.length=(n * n).toNat:=by omega
  have e1:((((n * n).toNat - (rem + 1):Nat):Int) == (s.len:Int))=false:=by simp; omega
  have eL:sq n (rem + 1) g=sqFrom n rem g (g.length - (rem + 1)) n.toNat 1:=by
   have h0:=hgz (g.length - (rem + 1)) (Nat.le_refl _)
   unfold sq sqFrom
   rw [sols,if_neg (by omega)]; rfl
  rw [eL,hgl]
  have hgz':∀ i,g.length - rem ≤ i→i ≠ (n * n).toNat - (rem + 1)→g.getD i 0=0:=fun i h _=>hgz i (by omega)
  generalize hat:(n * n).toNat - (rem + 1)=at' at *
  have hw:IntKind.i64.wrap ((at':Int) + 1)=(((n * n).toNat - rem:Nat):Int):=by rw [wr (by omega) (by omega)]; omega
  -- the loop
  have loop:∀ (j fuel:Nat) (v:Int) (H1:Hp) (left:Nat),v + j=n + 1→1 ≤ v→j < fuel→Adv b H H1→NumAt b H1 left→left < 9223372036854775808 →
    ∃ t H',spec_l2Search.l0 (callF PP orc k) k fuel s n at' b 0 v H1=some (.sl 1 t,H')∧Adv b H H'∧SqTo b H' (sqFrom n rem g at' j v) left t:=by
   intro j
   induction j with
   | zero=>
    intro fuel v H1 left hv hv1 hf hadv hnum hleft
    obtain ⟨fuel,rfl⟩:=Zs fuel (by omega)
    have:¬ (v ≤ n):=by omega
    refine ⟨Sl.none,H1,?_,hadv,fun x hx=>by simp [sqFrom,upto] at hx,fun _=>⟨rfl,by simpa [sqFrom,upto] using hnum⟩⟩
    simp only [spec_l2Search.l0,this,decide_false,Zf]
   | succ j ihj=>
    intro fuel v H1 left hv hv1 hf hadv hnum hleft
    obtain ⟨fuel,rfl⟩:=Zs fuel (by omega)
    have hvn:v ≤ n:=by omega
    have hs1:=hadv.reads hsb hs
    have c1:=read_ok hs1
    have c2:=appl_ok H1 g .i64 (by omega)
    have hnew:=own_new 1 H1 (g.map (.int .i64)) g.length (by simp)
    obtain ⟨H6,d1,d2,d3,d4,d5⟩:=own_set hnew (List.prefix_append _ _) at' (by omega) v
    have hb1:b < H1.length:=(List.getElem?_eq_some_iff.1 hnum).1
    have hg6:=grid_set hg at' v ⟨by omega,hvn⟩
    obtain ⟨H7,f1,f2⟩:=specl2Clash_ok (show 2000001 ≤ k by omega) (own_reads d3) hg6
    have adv6:Adv b H1 H6:=pf_adv d2
    have num7:NumAt b H7 left:=pf_get (d2.trans f2) hnum
    have adv7:Adv b H H7:=hadv.trans (pf_adv (d2.trans f2))
    have q0:(0:Int) ≤ (at':Int):=by omega
    have q1:(at':Int) < ((Sl.mk false H1.length 0 g.length).len:Int):=by show (at':Int) < (g.length:Int); omega
    have w1:IntKind.i64.wrap (v + 1)=v + 1:=wr (by omega) (by omega)
    have gl:s.len=g.length:=hsl
    have d1':(H1 ++ [some (Blk.mk false (g.map (.int .i64)))]).sto H1.length (0 + at') [.int .i64 v]=some H6:=d1
    rw [sqFrom_succ]
    cases hc:clash (g.set at' v) n with
    | true=>
     obtain ⟨t,H',i1,i2,i3⟩:=ihj fuel (v + 1) H7 left (by omega) (by omega) (by omega) adv7 num7 hleft
     rw [if_neg (by simp),List.nil_append]
     refine ⟨t,H',?_,i2,i3⟩
     simp only [spec_l2Search.l0,spec_l2Search.j1,hvn,decide_true,Zt,c1,gl,c2,Zo,cells_ok,Za,q0,q1,Zn,Nat.mul_one,d1',f1,AV.toB,hc,w1,i1]
    | false=>
     have hs6:=pf_reads f2 (own_reads d3)
     rw [if_pos (by simp)]
     obtain ⟨t,H8,r1,r2,r3⟩:=ih (k:=k) (by omega) (H:=H7) (s:=Sl.mk false H1.length 0 g.length) (g:=g.set at' v) (left:=left) (by omega) hs6 (by simp only; omega) hg6 (fun i hi=>by
      rw [List.length_set] at hi
      rw [getD_set,if_neg (by omega)]
      exact hgz' i hi (by omega)) num7 hleft
     by_cases hlt:left < (sq n rem (g.set at' v)).length
     ·obtain ⟨t1,t2,t3⟩:=r3.yes _ (List.getElem?_eq_getElem hlt)
      have hpos:(t.len:Int) > 0:=by rw [t1.len]; omega
      refine ⟨t,H8,?_,adv7.trans r2,fun x hx=>?_,fun h=>?_⟩
      ·simp only [spec_l2Search.l0,spec_l2Search.j1,hvn,decide_true,Zt,c1,gl,c2,Zo,cells_ok,Za,q0,q1,Zn,Nat.mul_one,d1',f1,AV.toB,hc,Zf,hw,r1,AV.toS,if_true,hpos]
      ·rw [List.getElem?_append_left hlt] at hx; exact r3.yes x hx
      ·rw [List.getElem?_append_left hlt] at h; rw [List.getElem?_eq_getElem hlt] at h; cases h
     ·obtain ⟨t1,t2⟩:=r3.no (List.getElem?_eq_none (by omega))
      have hneg:¬ ((t.len:Int) > 0):=by omega
      obtain ⟨u,H',i1,i2,i3⟩:=ihj fuel (v + 1) H8 _ (by omega) (by omega) (by omega) (adv7.trans r2) t2 (by omega)
      refine ⟨u,H',?_,i2,fun x hx=>?_,fun h=>?_⟩
      ·simp only [spec_l2Search.l0,spec_l2Search.j1,hvn,decide_true,Zt,c1,gl,c2,Zo,cells_ok,Za,q0,q1,Zn,Nat.mul_one,d1',f1,AV.toB,hc,Zf,hw,r1,AV.toS,if_true,hneg,decide_false,w1,i1]
      ·rw [List.getElem?_append_right (by omega)] at hx; exact i3.yes x hx
      ·rw [List.getElem?_append_right (by omega)] at h
       have:=i3.no h
       rw [Nat.sub_sub] at this
       rw [List.length_append]; exact this
  obtain ⟨t,H',i1,i2,i3⟩:=loop n.toNat k 1 H left (by omega) (by omega) (by omega) (Adv.refl b H) hnum hleft
  refine ⟨t,H',?_,i2,i3⟩
  simp only [spec_l2Search.f,e1,Zf]; exact i1
def squareV (n x:Int):List Int:=if (2 ≤ n∧n ≤ 4)∧0 ≤ x then ((squares n)[x.toNat]?).getD [] else []
theorem squareV_mem {n:Int} (hn:2 ≤ n∧n ≤ 4) {x:Int} (h:squareV n x ≠ []):squareV n x ∈ squares n:=by
 unfold squareV at h ⊢
 split at h
 ·rename_i c
  rw [if_pos c]
  cases e:(squares n)[x.toNat]? with
  | none=>rw [e] at h; simp at h
  | some y=>
   have:=List.mem_of_getElem? e
   exact this
 ·simp at h
theorem squareV_len (n x:Int):(squareV n x).length ≤ 16:=by
 by_cases c:2 ≤ n∧n ≤ 4
 ·by_cases h:squareV n x=[]
  ·rw [h]; simp
  ·exact (squares_pos c (squareV_mem c h)).2.2.2.2
 ·unfold squareV; rw [if_neg (by omega)]; simp
theorem specSquare_full {k:Nat} (hk:2000100 ≤ k) {n x:Int} (hx:x ≤ 9223372036854775807) (H:Hp) :
  ∃ t H',callF PP orc k spec_SquareNumber.id [.int .i64 n,.int .i64 x] H=some (.sl 1 t,H')∧H <+: H'∧Own 1 H H' t ((squareV n x).map (.int .i64)):=by
 obtain ⟨k,rfl⟩:=Zs k (by omega)
 rw [spec_SquareNumber.call]
 have hin:=l1In_ok (show 1 ≤ k by omega) n 2 4
 by_cases hn:2 ≤ n∧n ≤ 4
 ·by_cases h0:0 ≤ x
  ·have hz:=zeros_len hn
   have hnn:0 ≤ n * n∧n * n ≤ 16:=by omega
   obtain ⟨left,rfl⟩:=Int.eq_ofNat_of_zero_le h0
   have w:IntKind.i64.wrap (n * n)=n * n:=wr (by omega) (by omega)
   obtain ⟨H3,a1,a2,a3,a4⟩:=sto1' (H:=H ++ [some (Blk.mk false [.int .i64 0])]) (b:=H.length) (x:=.int .i64 0) (by simp) (.int .i64 (left:Int))
   have hp3:H <+: H3:=a3.pf (Nat.le_refl _) (List.prefix_append _ _) (by omega)
   have hl3:H3.length=H.length + 1:=by rw [a4]; simp
   have e0:∀ N:Nat,(List.replicate N [AV.int .i64 0]).flatten=(List.replicate N 0).map (.int .i64):=fun N=>by
    induction N with
    | zero=>rfl
    | succ N ih=>simp [List.replicate_succ,ih]
   have hnew:=own_new 1 H3 ((zeros n).map (.int .i64)) (n * n).toNat (by simp; exact hz.2.1.symm)
   obtain ⟨t,H4,b1,b2,b3⟩:=l2Find_ok (b:=H.length) hn (n * n).toNat (k:=k) (by omega) (H:=H3 ++ [some (Blk.mk false ((zeros n).map (.int .i64)))]) (left:=left) (Nat.le_refl _) (own_reads hnew) (by simp only; omega) (zeros_grid hn) (fun i _=>zeros_at n i) (pf_get (List.prefix_append _ _) a2) (by omega)
   have hp4:H <+: H4:=b2.but.pf (Nat.le_refl _) (hp3.trans (List.prefix_append _ _)) b2.le
   have esq:sq n (n * n).toNat (zeros n)=squares n:=rfl
   rw [esq] at b3
   have hrd:Reads .i64 H4 t (squareV n (left:Int)):=by
    unfold squareV
    rw [if_pos ⟨hn,h0⟩,Int.toNat_natCast]
    cases e:(squares n)[left]? with
    | none=>exact reads_nil (b3.no e).1
    | some y=>exact (b3.yes y e).1
   have hl16:=squareV_len n (left:Int)
   have d1:=read_ok hrd
   have d2:=appl_ok H4 (squareV n (left:Int)) .i64 (by omega)
   refine ⟨_,_,?_,hp4.trans (List.prefix_append _ _),own_base (own_new 1 H4 ((squareV n (left:Int)).map (.int .i64)) (squareV n (left:Int)).length (by simp)) hp4⟩
   have hx0:¬ ((left:Int) < 0):=by omega
   simp only [Nat.sub_self] at b1
   have tl:=hrd.len
   simp only [spec_SquareNumber.f,spec_SquareNumber.j0,spec_SquareNumber.j1,hin,hn,and_self,decide_true,Zo,AV.toB,Zy,Zf,hx0,decide_false,a1,w,e0]
   rw [if_pos (by omega)]
   have b1':callF PP orc k spec_l2Search.id [.sl 1 (Sl.mk false H3.length 0 (n * n).toNat),.int .i64 n,.int .i64 0,.ptr H.length 0] (H3 ++ [some (Blk.mk false ((List.replicate (n * n).toNat (0:Int)).map (.int .i64)))])=some (.sl 1 t,H4):=b1
   simp only [b1',Zo,AV.toS,if_true,d1,tl,d2,cells_ok,Za,Zt]
  ·refine ⟨Sl.mk false H.length 0 0,H ++ [some (Blk.mk false [])],?_,(List.prefix_append _ _),?_⟩
   ·have hx0:x < 0:=by omega
    simp only [spec_SquareNumber.f,spec_SquareNumber.j0,spec_SquareNumber.j1,hin,hn,and_self,decide_true,Zo,AV.toB,Zy,Zf,Zt,hx0]
   ·unfold squareV; rw [if_neg (by omega)]; exact own_new 1 H [] 0 rfl
 ·refine ⟨Sl.mk false H.length 0 0,H ++ [some (Blk.mk false [])],?_,(List.prefix_append _ _),?_⟩
  ·simp only [spec_SquareNumber.f,spec_SquareNumber.j0,spec_SquareNumber.j1,hin,hn,decide_false,Zo,AV.toB,Zx,Zt]
  ·unfold squareV; rw [if_neg (by omega)]; exact own_new 1 H [] 0 rfl
def stepN:Nat × Option (List Int)→List Int→(Nat × Option (List Int)) × Bool
 | (0,_),x=>((0,some x),false)
 | (m + 1,o),_=>((m,o),true)
theorem runL_nth:∀ (L:List (List Int)) (m:Nat),(runL stepN (m,none) L).1.2=L[m]?
 | [],m=>by simp [runL]
 | x :: L,0=>by simp [runL,stepN]
 | x :: L,m + 1=>by
  rw [runL]
  simp only [stepN,if_true]
  rw [runL_nth L m]
  simp
structure TN (B:Hp) (fb nb d c:Nat) (st:(Nat × Option (List Int)) × Bool) (H:Hp):Prop where
 hc:c=nb
 num:H[nb]?=some (some ⟨false,[.int .i64 (st.1.1:Int)]⟩)
 fnd:∃ s,H[fb]?=some (some ⟨false,[.sl 1 s]⟩)∧((st.1.2=none∧s=Sl.none) ∨ ∃ x,st.1.2=some x∧Own 1 B H s (x.map (.int .i64))∧s.blk ≠ d)
 nf:nb ≠ fb
 nd:nb ≠ d
 fd:fb ≠ d
 dl:d < H.length
 le:st.1.1 ≤ 9223372036854775807
 no:st.2=true→st.1.2=none
theorem box_int {H:Hp} {b:Nat} {n:Int} (h:H[b]?=some (some ⟨false,[.int .i64 n]⟩)):ldI .i64 H b 0=some n:=by unfold ldI Hp.cell; rw [h]; simp [AV.toI]
theorem tell_num {B:Hp} {fb nb d:Nat} (hnf:nb ≠ fb) (hfd:fb ≠ d) (hfB:B.length ≤ fb):Tell B impl_SquareNumber_1.id [.ptr nb 0,.ptr fb 0] fb d stepN (TN B fb nb d) 10:=by
 refine ⟨by kernel_rfl,rfl,hfB,hfd,?_,?_,?_⟩
 ·intro c st H H' h g
  obtain ⟨s,h1,h2⟩:=h.fnd
  refine ⟨h.hc,pf_get g h.num,⟨s,pf_get g h1,?_⟩,h.nf,h.nd,h.fd,Nat.lt_of_lt_of_le h.dl g.length_le,h.le,h.no⟩
  rcases h2 with h2 | ⟨x,h2,h3,h4⟩
  ·exact .inl h2
  ·exact .inr ⟨x,h2,own_pf h3 g,h4⟩
 ·intro c st H H' h g hl
  obtain ⟨s,h1,h2⟩:=h.fnd
  refine ⟨h.hc,g _ _ h.nd h.num,⟨s,g _ _ h.fd h1,?_⟩,h.nf,h.nd,h.fd,by have:=h.dl; omega,h.le,h.no⟩
  rcases h2 with h2 | ⟨x,h2,h3,h4⟩
  ·exact .inl h2
  ·exact .inr ⟨x,h2,g.own h4 h3,h4⟩
 ·intro k hk c st H t g h hB hr h16 htd htn hcd hcB
  obtain ⟨k,rfl⟩:=Zs k (by omega)
  obtain ⟨s,h1,h2⟩:=h.fnd
  have ho:=h.no rfl
  obtain ⟨m,o⟩:=st
  simp only at ho
  subst ho
  have hs:s=Sl.none:=by
   rcases h2 with ⟨_,h2⟩ | ⟨x,h2,_⟩
   ·exact h2
   ·cases h2
  subst hs
  have hdl:=h.dl
  have hfl:=(List.getElem?_eq_some_iff.1 h1).1
  have hnl:=(List.getElem?_eq_some_iff.1 h.num).1
  cases m with
  | zero=>
   have hn:=h.num
   simp only at hn
   have l0:=box_int hn
   have hcl:=Clone_own (show 1 ≤ k by omega) hr htn (by omega)
   have g1:H <+: H ++ [some (Blk.mk false (g.map (.int .i64)))]:=(List.prefix_append _ _)
   have hnew:=own_new 1 H (g.map (.int .i64)) g.length (by simp)
   obtain ⟨H4,a1,a2,a3,a4⟩:=sto1' (pf_get g1 h1) (.sl 1 (Sl.mk false H.length 0 g.length))
   have hlen:H4.length=H.length + 1:=by rw [a4]; simp
   refine ⟨H4,c,?_,⟨h.hc,a3 _ _ h.nf (pf_get g1 hn),⟨_,a2,.inr ⟨g,rfl,a3.own (by simp only; omega) (own_base hnew hB),by simp only; omega⟩⟩,h.nf,h.nd,h.fd,by omega,by simp [stepN],fun hh=>by simp [stepN] at hh⟩,⟨fun e x e1 e2 hx=>a3 e x e1 (pf_get g1 hx),by omega⟩,.inl rfl⟩
   show callF PP orc (k + 1) impl_SquareNumber_1.id [.sl 1 t,.ptr nb 0,.ptr fb 0] H=some (.bool false,H4)
   rw [impl_SquareNumber_1.call]
   simp only [impl_SquareNumber_1.f,l0,Zo,Int.natCast_zero,bt rfl,Zt,hcl,AV.toS,if_true,a1]
  | succ m=>
   have hn:=h.num
   have hle:=h.le
   simp only at hn hle
   have l0:=box_int hn
   obtain ⟨H4,a1,a2,a3,a4⟩:=sto1' hn (.int .i64 (m:Int))
   have w:IntKind.i64.wrap (((m + 1:Nat):Int) - 1)=(m:Int):=by rw [wr (by omega) (by omega)]; omega
   refine ⟨H4,c,?_,⟨h.hc,a2,⟨Sl.none,a3 _ _ (Ne.symm h.nf) h1,.inl ⟨rfl,rfl⟩⟩,h.nf,h.nd,h.fd,by omega,by simp only [stepN]; omega,fun _=>rfl⟩,⟨fun e x e1 e2 hx=>a3 e x (fun e3=>e2 (e3.trans h.hc.symm)) hx,by omega⟩,.inl rfl⟩
   show callF PP orc (k + 1) impl_SquareNumber_1.id [.sl 1 t,.ptr nb 0,.ptr fb 0] H=some (.bool true,H4)
   rw [impl_SquareNumber_1.call]
   simp only [impl_SquareNumber_1.f,l0,Zo,bf (show ((m + 1:Nat):Int) ≠ 0 by omega),Zf,w,a1]
theorem implSquareNumber_ok {k:Nat} (hk:2000500 ≤ k) {H:Hp} {n m:Int} (hm:m ≤ 9223372036854775807) :
  ∃ t H',callF PP orc k impl_SquareNumber.id [.int .i64 n,.int .i64 m] H=some (.sl 1 t,H')∧H <+: H'∧Reads .i64 H' t (squareV n m):=by
 obtain ⟨k,rfl⟩:=Zs k (by omega)
 rw [impl_SquareNumber.call]
 obtain ⟨Ha,hHa⟩:∃ X,H ++ [some (Blk.mk false [.int .i64 m])]=X:=⟨_,rfl⟩
 have la:Ha.length=H.length + 1:=by rw [← hHa]; simp
 have pa:H <+: Ha:=by rw [← hHa]; exact List.prefix_append _ _
 have ba:Ha[H.length]?=some (some ⟨false,[.int .i64 m]⟩):=by rw [← hHa]; simp
 have h1:=sizeOk_ok (show 1 ≤ k by omega) n Ha
 have l0:=box_int ba
 unfold squareV
 by_cases hn:2 ≤ n∧n ≤ 4
 ·rw [decide_eq_true hn] at h1
  by_cases c:0 ≤ m
  ·rw [ip ⟨hn,c⟩]
   obtain ⟨M,rfl⟩:=Int.eq_ofNat_of_zero_le c
   obtain ⟨z1,z2,z3⟩:=zeros_len hn
   have hnn:IntKind.i64.wrap (n * n)=n * n:=wr (by omega) (by omega)
   obtain ⟨Hb,b1,b2,b3,b4⟩:=sto_end (H:=Ha) (x:=.sl 1 Sl.none) (.sl 1 Sl.none)
   obtain ⟨Hc,hHc⟩:∃ X,Hb ++ [some (Blk.mk false ((zeros n).map (.int .i64)))]=X:=⟨_,rfl⟩
   have lc:Hc.length=Hb.length + 1:=by rw [← hHc]; simp
   have pc:Hb <+: Hc:=by rw [← hHc]; exact List.prefix_append _ _
   have pHc:=(pa.trans b2).trans pc
   have hown:Own 1 Hb Hc (Sl.mk false Hb.length 0 (n * n).toNat) ((zeros n).map (.int .i64)):=by rw [← hHc]; exact own_new 1 Hb _ _ (by simp [zeros])
   have hzk:∀ H',Adv2 Ha.length H.length Hc H'→PuzAt H' n (Sl.mk false Hb.length 0 (n * n).toNat) Sl.none (zeros n) []:=fun H' ha=>
    ⟨ha.reads (by simp only; omega) (by simp only; omega) (own_reads hown),⟨rfl,fun i hi=>by simp at hi,fun i hi=>by simp at hi,fun i hi=>by simp at hi,fun i hi=>by simp at hi⟩,hn,by omega,by simp,fun r hr=>by simp at hr⟩
   obtain ⟨H',c',d,w1,w2,w3,w4⟩:=solutions_gen (B:=H) (H:=Hc) pHc hzk rfl (b:=Ha.length) (c:=H.length) (K:=10) (T:=TN H Ha.length H.length) (step:=stepN) (f:=impl_SquareNumber_1.id) (caps:=[.ptr H.length 0,.ptr Ha.length 0]) (by omega) (by omega) (Nat.le_refl _)
    (fun d hd=>tell_num (by omega) (by omega) (by omega)) (M,none) (fun d H1 q1 q2 q3=>⟨rfl,pf_get ((b2.trans pc).trans q3) ba,⟨Sl.none,pf_get (pc.trans q3) b3,.inl ⟨rfl,rfl⟩⟩,by omega,by omega,by omega,q2,by simp only; omega,fun _=>rfl⟩) (show 10 + 2000400 ≤ k by omega)
   obtain ⟨s,f1,f2⟩:=w4.fnd
   have e:allSols n (zeros n) (([]:List R).map R.val)=squares n:=sols_zeros hn
   rw [e,runL_nth] at f2
   have hl:=box_sl f1
   refine ⟨s,H',?_,w2,?_⟩
   ·have hz0:(List.replicate (n * n).toNat [AV.int .i64 0]).flatten=(zeros n).map (.int .i64):=by unfold zeros; exact flat0s _
    simp only [impl_SquareNumber.f,impl_SquareNumber.j0,impl_SquareNumber.j1,hHa,h1,l0,Zo,AV.toB,Zy,Zf,df (show ¬ (M:Int) < 0 by omega),b1,hnn]
    rw [ip (by omega),hz0,hHc,w1]
    simp only [Zo,hl]
   ·rw [Int.toNat_natCast]
    rcases f2 with ⟨g1,g2⟩ | ⟨x,g1,g2,g3⟩
    ·rw [g1,g2]; exact reads_nil rfl
    ·rw [g1]; exact own_reads g2
  ·rw [iN (fun h=>c h.2)]
   exact ⟨Sl.none,Ha,by simp only [impl_SquareNumber.f,impl_SquareNumber.j0,hHa,h1,l0,Zo,AV.toB,Zy,Zf,Zt,dt (show m < 0 by omega)],pa,reads_nil rfl⟩
 ·rw [decide_eq_false hn] at h1
  rw [iN (fun h=>hn h.1)]
  exact ⟨Sl.none,Ha,by simp only [impl_SquareNumber.f,impl_SquareNumber.j0,hHa,h1,Zo,AV.toB,Zx,Zt],pa,reads_nil rfl⟩
theorem sameInts_l0 (rec:Rec) (k:Nat) {H:Hp} {s t:Sl} {x y:List Int} (hs:Reads .i64 H s x) (ht:Reads .i64 H t y) (hl:x.length=y.length) (h1:x.length ≤ 1000) :
  ∀ (j i fuel:Nat),i + j=x.length→j < fuel→laws_sameInts.l0 rec k fuel s t i H=some (.bool (decide (x.drop i=y.drop i)),H):=by
 have hsl:=hs.len
 have htl:=ht.len
 intro j
 induction j with
 | zero=>
  intro i fuel hi hf
  obtain ⟨fuel,rfl⟩:=Zs fuel (by omega)
  rw [List.drop_eq_nil_of_le (show x.length ≤ i by omega),List.drop_eq_nil_of_le (show y.length ≤ i by omega)]
  simp (disch:=omega) only [laws_sameInts.l0,dt,df,bt,bf,nt,nf,Za,Zy,Zx,Zt,Zf,Zn,Zz,Zi,Zo,wr,AV.toB,AV.toI,AV.toS,if_true]
  rfl
 | succ j ih=>
  intro i fuel hi hf
  obtain ⟨fuel,rfl⟩:=Zs fuel (by omega)
  have hx:i < x.length:=by omega
  have hy:i < y.length:=by omega
  have ex:x.drop i=x.getD i 0 :: x.drop (i + 1):=by
   rw [List.drop_eq_getElem_cons hx,List.getD_eq_getElem?_getD,List.getElem?_eq_getElem hx]; rfl
  have ey:y.drop i=y.getD i 0 :: y.drop (i + 1):=by
   rw [List.drop_eq_getElem_cons hy,List.getD_eq_getElem?_getD,List.getElem?_eq_getElem hy]; rfl
  rw [ex,ey]
  by_cases c:x.getD i 0=y.getD i 0
  ·have d1:=ih (i + 1) fuel (by omega) (by omega)
   push_cast at d1
   rw [show decide (x.getD i 0 :: x.drop (i + 1)=y.getD i 0 :: y.drop (i + 1))=decide (x.drop (i + 1)=y.drop (i + 1)) by rw [c]; simp,← d1]
   simp (disch:=omega) only [laws_sameInts.l0,dt,df,bt,bf,nt,nf,Za,Zy,Zx,Zt,Zf,Zn,Zz,Zi,Zo,wr,AV.toB,AV.toI,AV.toS,if_true,rdn hs,rdn ht,nf]
  ·rw [show decide (x.getD i 0 :: x.drop (i + 1)=y.getD i 0 :: y.drop (i + 1))=false from decide_eq_false fun h=>c (List.cons.inj h).1]
   simp (disch:=omega) only [laws_sameInts.l0,dt,df,bt,bf,nt,nf,Za,Zy,Zx,Zt,Zf,Zn,Zz,Zi,Zo,wr,AV.toB,AV.toI,AV.toS,if_true,rdn hs,rdn ht,nt]
theorem sameInts_ok {k:Nat} (hk:2000000 ≤ k) {H:Hp} {s t:Sl} {x y:List Int} (hs:Reads .i64 H s x) (ht:Reads .i64 H t y) (h1:x.length ≤ 1000) (h2:y.length ≤ 1000) :
  callF PP orc k laws_sameInts.id [.sl 1 s,.sl 1 t] H=some (.bool (decide (x=y)),H):=by
 obtain ⟨k,rfl⟩:=Zs k (by omega)
 rw [laws_sameInts.call]
 have hsl:=hs.len
 have htl:=ht.len
 by_cases c:x.length=y.length
 ·have d1:=sameInts_l0 (callF PP orc k) k hs ht c h1 x.length 0 k (by omega) (by omega)
  simp only [Int.natCast_zero,List.drop_zero] at d1
  rw [← d1]
  simp (disch:=omega) only [laws_sameInts.f,dt,df,bt,bf,nt,nf,Za,Zy,Zx,Zt,Zf,Zn,Zz,Zi,Zo,wr,AV.toB,AV.toI,AV.toS,if_true]
 ·rw [decide_eq_false (fun h=>c (congrArg List.length h))]
  simp (disch:=omega) only [laws_sameInts.f,dt,df,bt,bf,nt,nf,Za,Zy,Zx,Zt,Zf,Zn,Zz,Zi,Zo,wr,AV.toB,AV.toI,AV.toS,if_true]
theorem same_ok {k:Nat} (hk:2000000 ≤ k) {H:Hp} {s t:Sl} {x:List Int} (hs:Reads .i64 H s x) (ht:Reads .i64 H t x) (h1:x.length ≤ 1000) :
  callF PP orc k laws_sameInts.id [.sl 1 s,.sl 1 t] H=some (.bool true,H):=by
 rw [sameInts_ok hk hs ht h1 h1,decide_eq_true rfl]
theorem implPuzzleSolved_ok {k:Nat} (hk:2000043 ≤ k) {H:Hp} {n:Int} {gs s xs:Sl} {given g:List Int} {rs:List R} (hz:PuzAt H n gs s given rs) (hx:Reads .i64 H xs g) (hl:g.length ≤ 1000) :
  ∃ H',callF PP orc k impl_PuzzleSolved.id [.agg [.int .i64 n,.sl 1 gs,.sl 3 s],.sl 1 xs] H=some (.bool (puzzleSolvedV n given (rs.map R.val) g),H')∧H <+: H':=by
 obtain ⟨k,rfl⟩:=Zs k (by omega)
 rw [impl_PuzzleSolved.call]
 obtain ⟨H1,a1,a2⟩:=implPuzzleFits_ok (show 2000042 ≤ k by omega) hz hx hl
 have hxl:=hx.len
 unfold puzzleSolvedV
 cases c1:puzzleFitsV n given (rs.map R.val) g with
 | false=>
  rw [c1] at a1
  exact ⟨H1,by simp only [impl_PuzzleSolved.f,dt,df,bt,bf,nt,nf,Za,Zy,Zx,Zt,Zf,Zn,Zz,Zi,Zo,wr,AV.toB,AV.toI,AV.toS,if_true,a1,Bool.false_and],a2⟩
 | true=>
  rw [c1] at a1
  have hg:gridOk g n=true:=by
   unfold puzzleFitsV at c1
   simp only [Bool.and_eq_true] at c1; exact c1.2.1
  have h2:=implGridFilled_ok (show 2000001 ≤ k by omega) (pf_reads a2 hx) (by omega) n
  rw [hg,ip rfl] at h2
  refine ⟨H1,?_,a2⟩
  have e:(((filled g:Nat):Int) == (g.length:Int))=decide (filled g=g.length):=by rw [Bool.eq_iff_iff]; simp; omega
  simp only [impl_PuzzleSolved.f,dt,df,bt,bf,nt,nf,Za,Zy,Zx,Zt,Zf,Zn,Zz,Zi,Zo,wr,AV.toB,AV.toI,AV.toS,if_true,a1,h2,hxl,e,Bool.true_and]
theorem implRegionsValid_l2 (rec:Rec) (k:Nat) {H:Hp} {s:Sl} {l:List Int} {m:Int} (hr:Reads .i64 H s l) (hl:l.length ≤ 1048576) :
  ∀ (j i n:Nat),i + j=l.length→j < n→impl_RegionsValid.l2 rec k n m s l.length i H=some (.bool ((l.drop i).all fun v=>decide (0 ≤ v) && decide (v < m)),H):=by
 intro j
 induction j with
 | zero=>
  intro i n hi hn
  obtain ⟨n,rfl⟩:=Zs n (by omega)
  simp [impl_RegionsValid.l2,show ¬ i < l.length by omega,List.drop_eq_nil_of_le (show l.length ≤ i by omega)]
 | succ j ih=>
  intro i n hi hn
  obtain ⟨n,rfl⟩:=Zs n (by omega)
  have h1:=hr.len
  have h2:i < l.length:=by omega
  have h3:=reads_at hr i h2
  have h4:=wrs (i:=i) (by omega)
  have h5:=ih (i + 1) n (by omega) (by omega)
  push_cast at h5
  rw [all_drop l i h2]
  by_cases c1:l[i] < 0
  ·simp [impl_RegionsValid.l2,impl_RegionsValid.j3,impl_RegionsValid.j4,h1,h2,h3,c1,show ¬ 0 ≤ l[i] by omega]
  ·by_cases c2:l[i] ≥ m
   ·have c2':m ≤ l[i]:=c2
    simp [impl_RegionsValid.l2,impl_RegionsValid.j3,impl_RegionsValid.j4,h1,h2,h3,c1,c2',show ¬ l[i] < m by omega]
   ·have c2':¬ m ≤ l[i]:=c2
    simp [impl_RegionsValid.l2,impl_RegionsValid.j3,impl_RegionsValid.j4,h1,h2,h3,c1,c2',h4,h5,show 0 ≤ l[i] by omega,show l[i] < m by omega]
theorem implRegionsValid_ok {k:Nat} (hk:2000000 ≤ k) {H:Hp} {s:Sl} {l:List Int} (hr:Reads .i64 H s l) (hl:l.length ≤ 1048576) (m:Int) :
  callF PP orc k impl_RegionsValid.id [.sl 1 s,.int .i64 m] H=some (.bool (regsOk l m),H):=by
 obtain ⟨k,rfl⟩:=Zs k (by omega)
 rw [impl_RegionsValid.call]
 have h1:=hr.len
 by_cases c:2 ≤ m∧m ≤ 4
 ·have h2:IntKind.i64.wrap (m * m)=m * m:=by
   have:m=2 ∨ m=3 ∨ m=4:=by omega
   rcases this with rfl | rfl | rfl <;> exact wr (by decide) (by decide)
  have h3:=implRegionsValid_l2 (callF PP orc k) k (m:=m) hr hl l.length 0 k (by omega) (by omega)
  by_cases c2:(l.length:Int)=m * m
  ·have:((l.length:Int) != m * m)=false:=by simp [c2]
   simp only [impl_RegionsValid.f,sizeOk_ok (show 1 ≤ k by omega),c,Zo,AV.toB,h1,h2,this,impl_RegionsValid.j0,impl_RegionsValid.j1]
   simpa [regsOk,c,c2] using h3
  ·have:((l.length:Int) != m * m)=true:=by simp [c2]
   simp [impl_RegionsValid.f,sizeOk_ok (show 1 ≤ k by omega),c,AV.toB,h1,h2,this,impl_RegionsValid.j0,regsOk,c2]
 ·simp [impl_RegionsValid.f,sizeOk_ok (show 1 ≤ k by omega),c,AV.toB,impl_RegionsValid.j0,regsOk]
theorem implRegionCells_l2 (rec:Rec) (k:Nat) {H0:Hp} {s:Sl} {l:List Int} {r:Int} (hs:Reads .i64 H0 s l) (hl:l.length ≤ 1000) :
  ∀ (j i fuel:Nat) (H:Hp) (t:Sl) (a:List Int),i + j=l.length→j < fuel→H0 <+: H→a.length ≤ i→Own 1 H0 H t (a.map (.int .i64)) →
   ∃ t' H',impl_RegionCells.l2 rec k fuel r t s l.length i H=some (.sl 1 t',H')∧H0 <+: H'∧Own 1 H0 H' t' ((a ++ idxFrom r (l.drop i) i).map (.int .i64)):=by
 intro j
 induction j with
 | zero=>
  intro i fuel H t a hi hf hp ha ho
  obtain ⟨fuel,rfl⟩:=Zs fuel (by omega)
  refine ⟨t,H,?_,hp,by rw [List.drop_eq_nil_of_le (by omega)]; simpa [idxFrom] using ho⟩
  simp [impl_RegionCells.l2,impl_RegionCells.j4,show ¬ i < l.length by omega]
 | succ j ih=>
  intro i fuel H t a hi hf hp ha ho
  obtain ⟨fuel,rfl⟩:=Zs fuel (by omega)
  have h1:=hs.len
  have h2:i < l.length:=by omega
  have h3:=reads_at (pf_reads hp hs) i h2
  have h4:=wrs (i:=i) (by omega)
  have hlen:t.len=a.length:=by have:=ho.len; simpa using this
  have q0:(0:Int) ≤ (i:Int):=by omega
  have q1:(i:Int) < (l.length:Int):=by omega
  rw [idx_drop r l i h2]
  by_cases c:l[i]=r
  ·obtain ⟨H1,a1,a2,a3,_⟩:=own_app1 ho hp (i:Int) (by omega)
   obtain ⟨t',H',b1,b2,b3⟩:=ih (i + 1) fuel H1 _ (a ++ [(i:Int)]) (by omega) (by omega) a2 (by simp; omega) a3
   push_cast at b1
   have c':(l[i] == r)=true:=by simpa using c
   refine ⟨t',H',?_,b2,by rw [if_pos c]; simpa using b3⟩
   simp only [impl_RegionCells.l2,impl_RegionCells.j3,h1,q0,q1,decide_true,Za,Zt,Zn,Nat.mul_one,h3,Zo,c',a1,h4,b1]
  ·obtain ⟨t',H',b1,b2,b3⟩:=ih (i + 1) fuel H t a (by omega) (by omega) hp (by omega) ho
   push_cast at b1
   have c':(l[i] == r)=false:=by simpa using c
   refine ⟨t',H',?_,b2,by rw [if_neg c]; exact b3⟩
   simp only [impl_RegionCells.l2,impl_RegionCells.j3,h1,q0,q1,decide_true,Za,Zt,Zf,Zn,Nat.mul_one,h3,Zo,c',h4,b1]
theorem implRegionCells_ok {k:Nat} (hk:2000001 ≤ k) {H:Hp} {s:Sl} {l:List Int} {n r:Int} (hs:Reads .i64 H s l) (hv:regsOk l n=true) (hr:0 ≤ r∧r < n) :
  ∃ t H',callF PP orc k impl_RegionCells.id [.sl 1 s,.int .i64 n,.int .i64 r] H=some (.sl 1 t,H')∧H <+: H'∧Own 1 H H' t ((regCells l r).map (.int .i64)):=by
 obtain ⟨k,rfl⟩:=Zs k (by omega)
 rw [impl_RegionCells.call]
 obtain ⟨⟨n1,n2⟩,n3,n4⟩:=(regsOk_iff l n).1 hv
 have hl:l.length ≤ 16:=by
  have:n=2 ∨ n=3 ∨ n=4:=by omega
  rcases this with rfl | rfl | rfl <;> omega
 obtain ⟨t,H',a1,a2,a3⟩:=implRegionCells_l2 (callF PP orc k) k (r:=r) hs (by omega) l.length 0 k (H ++ [some (Blk.mk false [])]) (Sl.mk false H.length 0 0) [] (by omega) (by omega) (List.prefix_append _ _) (by simp) (own_new 1 H [] 0 rfl)
 have c1:¬ r < 0:=by omega
 have c2:¬ r ≥ n:=by omega
 refine ⟨t,H',?_,a2,by simpa [regCells] using a3⟩
 simp only [impl_RegionCells.f,impl_RegionCells.j0,impl_RegionCells.j1,implRegionsValid_ok (show 2000000 ≤ k by omega) hs (by omega),hv,Zo,AV.toB,Zy,Zf,c1,c2,decide_false,hs.len]
 exact a1
structure Sub (l l':List Int) (P:Nat→Nat→Prop):Prop where
 len:l'.length=l.length
 ms:Ms l'
 has:∀ j v:Nat,j < l.length→(has (l'.getD j 0) v=true ↔ has (l.getD j 0) v=true∧¬ P j v)
theorem Sub.refl {l:List Int} (h:Ms l):Sub l l (fun _ _=>False):=⟨rfl,h,fun j v _=>by simp⟩
theorem Sub.congr {l l':List Int} {P Q:Nat→Nat→Prop} (h:Sub l l' P) (hq:∀ j v,j < l.length→(P j v ↔ Q j v)):Sub l l' Q:=⟨h.len,h.ms,fun j v hj=>by rw [h.has j v hj,hq j v hj]⟩
theorem Sub.step {l a:List Int} {P:Nat→Nat→Prop} (h:Sub l a P) (i:Nat) (hi:i < l.length) {m:Int} (hm:M m):Sub l (a.set i (mSub (a.getD i 0) m)) (fun j v=>P j v ∨ (j=i∧Rp.has m v=true)):=by
 refine ⟨by simpa using h.len,h.ms.set i (M.sub (h.ms.at i) hm),fun j v hj=>?_⟩
 have ha:=h.len
 rw [getD_set']
 by_cases e:i=j
 ·subst e
  rw [if_pos ⟨rfl,by omega⟩,has_sub (h.ms.at i) hm,Bool.and_eq_true,h.has i v hj,Bool.not_eq_true']
  cases Rp.has m v <;> simp [not_or]
 ·rw [if_neg (by omega),h.has j v hj]
  constructor
  ·rintro ⟨x,y⟩; exact ⟨x,by rintro (z | z); exact y z; exact e z.1.symm⟩
  ·rintro ⟨x,y⟩; exact ⟨x,fun z=>y (.inl z)⟩
where
 getD_set' {l:List Int} {i j:Nat} {v:Int}:(l.set i v).getD j 0=if i=j∧i < l.length then v else l.getD j 0:=by
  rw [List.getD_eq_getElem?_getD,List.getElem?_set]
  by_cases e:i=j
  ·subst e
   by_cases h:i < l.length
   ·simp [h]
   ·simp [h,List.getD_eq_getElem?_getD,List.getElem?_eq_none (Nat.le_of_not_lt h)]
  ·simp [e]
def two (m:Int):Bool:=(maskVals m).length == 2
def lc (n:Int) (line i:Nat):Nat:=((lineCells n line).getD i 0).toNat
theorem maskOk_iff {n m:Int}:maskOk n m=true ↔ (0 ≤ m∧m ≤ topMask n)∧m.tmod 2=0:=by
 unfold maskOk
 simp
def InM (l g:List Int):Prop:=∀ i,i < g.length→has (l.getD i 0) (g.getD i 0).toNat=true
theorem masks_at {n:Int} {l:List Int} (h:masksOk n l=true) {i:Nat} (hi:i < l.length):maskOk n (l.getD i 0)=true:=(masksOk_iff.1 h).2.1 _ (mem_getD hi)
def SubM (a b:List Int):Prop:=a.length=b.length∧∀ i v:Nat,i < b.length→has (a.getD i 0) v=true→has (b.getD i 0) v=true
theorem SubM.refl (a:List Int):SubM a a:=⟨rfl,fun _ _ _ h=>h⟩
theorem SubM.trans {a b c:List Int} (h:SubM a b) (h':SubM b c):SubM a c:=⟨h.1.trans h'.1,fun i v hi hv=>h'.2 i v hi (h.2 i v (by rw [h'.1]; exact hi) hv)⟩
theorem InM.up {a b g:List Int} (h:InM a g) (hs:SubM a b) (hl:g.length=b.length):InM b g:=fun i hi=>hs.2 i _ (by omega) (h i hi)
theorem or_of_sub {a b:Nat} (h:∀ v:Nat,a.testBit v=true→b.testBit v=true):a ||| b=b:=by
 refine Nat.eq_of_testBit_eq fun v=>?_
 rw [Nat.testBit_or]
 cases e:a.testBit v with
 | false=>simp
 | true=>rw [h v e]; rfl
theorem tab_even:∀ a:Nat,a < 32→∀ b:Nat,b < 32→a ||| b=b→((b:Int)).tmod 2=0→((a:Int)).tmod 2=0:=by decide +kernel
theorem mask_sub {n a b:Int} (ha:M a) (hb:maskOk n b=true) (h:∀ v:Nat,has a v=true→has b v=true):maskOk n a=true:=by
 obtain ⟨h1,h2⟩:=maskOk_iff.1 hb
 have hM:=maskOk_M hb
 obtain ⟨x,rfl,hx⟩:=ha.nat
 obtain ⟨y,rfl,hy⟩:=hM.nat
 have e:x ||| y=y:=or_of_sub fun v hv=>h v (by unfold has; rw [Int.toNat_natCast]; exact hv)
 have hle:x ≤ y:=by rw [← e]; exact Nat.left_le_or
 exact maskOk_iff.2 ⟨⟨by omega,by omega⟩,tab_even x hx y hy e h2⟩
theorem Sub.subM {l l':List Int} {P:Nat→Nat→Prop} (h:Sub l l' P):SubM l' l:=⟨h.len,fun i v hi hv=>((h.has i v hi).1 hv).1⟩
theorem masks_subM {n:Int} {a b:List Int} (ha:Ms a) (hb:masksOk n b=true) (h:SubM a b):masksOk n a=true:=by
 obtain ⟨h1,h2,h3⟩:=masksOk_iff.1 hb
 refine masksOk_iff.2 ⟨h1,fun m hm=>?_,by rw [h.1]; exact h3⟩
 obtain ⟨i,hi,rfl⟩:=List.getElem_of_mem hm
 have e:a.getD i 0=a[i]:=by simp [List.getD_eq_getElem?_getD,hi]
 have hib:i < b.length:=by rw [← h.1]; exact hi
 rw [← e]
 exact mask_sub (ha.at i) (masks_at hb hib) fun v hv=>h.2 i v hib hv
theorem Sub.ok {n:Int} {l l':List Int} {P:Nat→Nat→Prop} (h:Sub l l' P) (hl:masksOk n l=true):masksOk n l'=true:=masks_subM h.ms hl h.subM
theorem AllIn_pt:∀ (ms ws:List Int),AllIn ms ws ↔ ws.length=ms.length∧∀ i,i < ms.length→ws.getD i 0 ∈ maskVals (ms.getD i 0)
 | [],[]=>by simp [AllIn]
 | [],w :: ws=>by simp [AllIn]
 | m :: ms,[]=>by simp [AllIn]
 | m :: ms,w :: ws=>by
  show (w ∈ maskVals m∧AllIn ms ws) ↔ _
  rw [AllIn_pt ms ws]
  constructor
  ·rintro ⟨h1,h2,h3⟩
   refine ⟨by simpa using h2,fun i hi=>?_⟩
   cases i with
   | zero=>simpa using h1
   | succ i=>simpa using h3 i (by simpa using hi)
  ·rintro ⟨h1,h2⟩
   refine ⟨by simpa using h2 0 (by simp),by simpa using h1,fun i hi=>?_⟩
   simpa using h2 (i + 1) (by simpa using hi)
theorem own_len (masks cells:List Int):(ownOf masks cells).length=cells.length:=by simp [ownOf]
theorem own_at {masks cells:List Int} {i:Nat} (hi:i < cells.length):(ownOf masks cells).getD i 0=masks.getD (cells.getD i 0).toNat 0:=by
 unfold ownOf
 rw [List.getD_eq_getElem?_getD,List.getElem?_map,List.getElem?_eq_getElem hi,List.getD_eq_getElem?_getD (l:=cells),List.getElem?_eq_getElem hi]; rfl
theorem map_at {cells:List Int} {f:Int→Int} {i:Nat} (hi:i < cells.length):(cells.map f).getD i 0=f (cells.getD i 0):=by
 rw [List.getD_eq_getElem?_getD,List.getElem?_map,List.getElem?_eq_getElem hi,List.getD_eq_getElem?_getD (l:=cells),List.getElem?_eq_getElem hi]; rfl
theorem rule_full {n:Int} {g:List Int} (hg:gridOk g n=true) (hf:full g) {r:V} (hr:ruleOkV n r=true) (h:canHoldV n g r=true):holdsV r.1 r.2.2 (r.2.1.map (gv g))=true:=by
 obtain ⟨c1,c2,c3,c4⟩:=ruleOk_cells hr
 have hl:=((gridOk_iff g n).1 hg).2.1
 rw [canHold_iff c3 c2] at h
 obtain ⟨ws,a,b⟩:=h
 rw [AllIn_pt,own_len] at a
 have:ws=r.2.1.map (gv g):=by
  refine ext_getD (by rw [a.1,List.length_map]) fun i hi=>?_
  have hi2:i < r.2.1.length:=by omega
  have h1:=a.2 i hi2
  have hc:=c1 _ (mem_getD hi2)
  rw [own_at hi2,open_vals hg (show (r.2.1.getD i 0).toNat < g.length by omega)] at h1
  rw [map_at hi2]
  exact h1.2 (hf _ (by omega))
 rw [← this]; exact b
theorem DrawSquareNumber_ok {k:Nat} (hk:2000501 ≤ k) {H:Hp} {s:Sl} {l:List Int} (hs:Reads .u8 H s l) (hb:∀ x ∈ l,0 ≤ x∧x ≤ 255) :
  ∃ n z H',callF PP orc k spec_DrawSquareNumber.id [.sl 1 s] H=some (.tup [.int .i64 n,.int .i64 z],H')∧H <+: H'∧z ≤ 9223372036854775807:=by
 obtain ⟨k,rfl⟩:=Zs k (by omega)
 rw [spec_DrawSquareNumber.call]
 obtain ⟨l',H1,a1,a2,a3,a4⟩:=l20Open_ok (show 1 ≤ k by omega) hs hb
 obtain ⟨n,p1,H2,b1,b2,b3,b4,b5⟩:=l20Size_ok (show 3 ≤ k by omega) a3 (by omega) (n:=9) (by omega)
 obtain ⟨c,H3,c1,c2,c3,c4,c5⟩:=pick_adv (show 1 ≤ k by omega) b2 (by omega) 14
 have hc:=c5 (by omega)
 obtain ⟨d,H4,d1,d2,d3,d4,d5⟩:=pick_adv (show 1 ≤ k by omega) c2 (by omega) 256
 have hd:=d5 (by omega)
 obtain ⟨q,H5,e1,e2,e3,e4,e5⟩:=pick_adv (show 1 ≤ k by omega) d2 (by omega) 9
 have hq:=e5 (by omega)
 have w1:IntKind.i64.wrap (d * 2)=d * 2:=wr (by omega) (by omega)
 obtain ⟨y,f1,y0,y3⟩:∃ y,(([.int .i64 0,.int .i64 0,.int .i64 0,.int .i64 1,.int .i64 1,.int .i64 2,.int .i64 3,.int .i64 4,.int .i64 5]:List AV)[q.toNat * 1]?)=some (.int .i64 y)∧0 ≤ y∧y < 6:=by
  have:q=0 ∨ q=1 ∨ q=2 ∨ q=3 ∨ q=4 ∨ q=5 ∨ q=6 ∨ q=7 ∨ q=8:=by omega
  rcases this with rfl | rfl | rfl | rfl | rfl | rfl | rfl | rfl | rfl
  ·exact ⟨0,rfl,by omega,by omega⟩
  ·exact ⟨0,rfl,by omega,by omega⟩
  ·exact ⟨0,rfl,by omega,by omega⟩
  ·exact ⟨1,rfl,by omega,by omega⟩
  ·exact ⟨1,rfl,by omega,by omega⟩
  ·exact ⟨2,rfl,by omega,by omega⟩
  ·exact ⟨3,rfl,by omega,by omega⟩
  ·exact ⟨4,rfl,by omega,by omega⟩
  ·exact ⟨5,rfl,by omega,by omega⟩
 obtain ⟨z,g1,z0⟩:∃ z,(([.int .i64 c,.int .i64 (d * 2),.int .i64 575,.int .i64 576,.int .i64 (-1),.int .i64 9223372036854775807]:List AV)[y.toNat * 1]?)=some (.int .i64 z)∧z ≤ 9223372036854775807:=by
  have:y=0 ∨ y=1 ∨ y=2 ∨ y=3 ∨ y=4 ∨ y=5:=by omega
  rcases this with rfl | rfl | rfl | rfl | rfl | rfl
  ·exact ⟨c,rfl,by omega⟩
  ·exact ⟨d * 2,rfl,by omega⟩
  ·exact ⟨575,rfl,by omega⟩
  ·exact ⟨576,rfl,by omega⟩
  ·exact ⟨-1,rfl,by omega⟩
  ·exact ⟨9223372036854775807,rfl,by omega⟩
 have hav:=b4.trans (c3.trans (d3.trans e3))
 refine ⟨n,z,H5,?_,hav.but.pf (Nat.le_refl _) a2 hav.le,z0⟩
 unfold spec_DrawSquareNumber.f
 rw [a1,Option.bind_some]
 simp only [AV.toP,Zo]
 rw [b1,Option.bind_some]
 simp only [AV.isTup,AV.nth,AV.isAgg,AV.cel,AV.toI,AV.toS,AV.toB,Zl,Zm,Zc,Zd,if_true,decide_true,beq_self_eq_true,Zt,Zf,Zy,Zx,Zo]
 rw [c1,Option.bind_some]
 simp only [AV.isTup,AV.nth,AV.isAgg,AV.cel,AV.toI,AV.toS,AV.toB,Zl,Zm,Zc,Zd,if_true,decide_true,beq_self_eq_true,Zt,Zf,Zy,Zx,Zo]
 rw [d1,Option.bind_some]
 simp only [AV.isTup,AV.nth,AV.isAgg,AV.cel,AV.toI,AV.toS,AV.toB,Zl,Zm,Zc,Zd,if_true,decide_true,beq_self_eq_true,Zt,Zf,Zy,Zx,Zo]
 rw [e1,Option.bind_some]
 simp only [AV.isTup,AV.nth,AV.isAgg,AV.cel,AV.toI,AV.toS,AV.toB,Zl,Zm,Zc,Zd,if_true,decide_true,beq_self_eq_true,Zt,Zf,Zy,Zx,Zo]
 rw [dt (show (0:Int) ≤ q by omega),dt (show q < ((9:Nat):Int) by omega),f1]
 simp only [Za,Zt,Zo,AV.cell,AV.toI,if_true]
 rw [dt (show (0:Int) ≤ y by omega),dt (show y < ((6:Nat):Int) by omega),w1,g1]
 simp only [Za,Zt,Zo,AV.cell,AV.toI,if_true]
theorem implBox_ok {k:Nat} (hk:1 ≤ k) (H:Hp):callF PP orc k impl_BoxRegions.id [] H=some (.sl 1 (Sl.mk false H.length 0 16),H ++ [some (Blk.mk false (boxes.map (.int .i64)))]):=by
 obtain ⟨k,rfl⟩:=Zs k (by omega)
 rw [impl_BoxRegions.call]
 rfl
theorem iRR_l0 {k:Nat} (hk:2000001 ≤ k) {H0:Hp} {s:Sl} (hs:Reads .i64 H0 s boxes) :
  ∀ (j i fuel:Nat) (H:Hp) (t:Sl) (qs:List R),i + j=4→j < fuel→H0 <+: H→WR H0 H t qs→qs.map R.val=boxRules.take i →
   ∃ t' qs' H',impl_RegionRules.l0 (callF PP orc k) k fuel s 4 t 4 i H=some (.tup [.sl 3 t',.bool true],H')∧H0 <+: H'∧WR H0 H' t' qs'∧qs'.map R.val=boxRules:=by
 intro j
 induction j with
 | zero=>
  intro i fuel H t qs hi hf hp ho hv
  obtain ⟨fuel,rfl⟩:=Zs fuel (by omega)
  refine ⟨t,qs,H,?_,hp,ho,by rw [hv,show i=4 by omega]; rfl⟩
  simp (disch:=omega) only [impl_RegionRules.l0,impl_RegionRules.j2,dt,df,bt,bf,nt,nf,Za,Zy,Zx,Zt,Zf,Zn,Zz,Zi,Zo,wr,AV.toB,AV.toI,AV.toS,if_true]
 | succ j ih=>
  intro i fuel H t qs hi hf hp ho hv
  obtain ⟨fuel,rfl⟩:=Zs fuel (by omega)
  obtain ⟨v1,v2⟩:=boxRules_at i (by omega)
  obtain ⟨u,H1,a1,a2,a3⟩:=implRegionCells_ok hk (r:=(i:Int)) (pf_reads hp hs) boxes_ok (by omega)
  have ul:=(own_reads a3).len
  have hql:qs.length ≤ 4:=by have:=congrArg List.length hv; simp [boxRules] at this; omega
  have htb:=own_lt ho.own
  have hub:=a3.blk
  obtain ⟨t1,H2,b1,b2,b3,b4,b5,b6⟩:=wr_app (ho.pf a2) (hp.trans a2) (by omega) { kind:=1,sl:=u,cells:=regCells boxes (i:Int),value:=0 } (own_reads a3) (by simp only; omega) (own_lt a3) (Nat.le_trans hp.length_le a3.blk) a3.nn
  obtain ⟨t',qs',H',d1,d2,d3,d4⟩:=ih (i + 1) fuel H2 t1 _ (by omega) (by omega) b2 b3 (by rw [List.map_append,hv,v1]; rfl)
  push_cast at d1
  refine ⟨t',qs',H',?_,d2,d3,d4⟩
  simp only [R.av] at b1
  simp (disch:=omega) only [impl_RegionRules.l0,impl_RegionRules.j1,dt,df,bt,bf,nt,nf,Za,Zy,Zx,Zt,Zf,Zn,Zz,Zi,Zo,wr,AV.toB,AV.toI,AV.toS,if_true,a1,ul,b1,d1]
theorem implRegionRules_ok {k:Nat} (hk:2000010 ≤ k) {H:Hp} {s:Sl} (hs:Reads .i64 H s boxes) :
  ∃ t qs H',callF PP orc k impl_RegionRules.id [.sl 1 s,.int .i64 4] H=some (.tup [.sl 3 t,.bool true],H')∧H <+: H'∧WR H H' t qs∧qs.map R.val=boxRules:=by
 obtain ⟨k,rfl⟩:=Zs k (by omega)
 rw [impl_RegionRules.call]
 have g1:H <+: H ++ [some (Blk.mk false [])]:=List.prefix_append _ _
 have h1:=implRegionsValid_ok (show 2000000 ≤ k by omega) hs (by simp [boxes]) 4
 rw [boxes_ok] at h1
 obtain ⟨t',qs',H',d1,d2,d3,d4⟩:=iRR_l0 (show 2000001 ≤ k by omega) hs 4 0 k (H ++ [some (Blk.mk false [])]) (Sl.mk false H.length 0 0) [] (by omega) (by omega) g1
  ⟨own_new 3 H [] 0 rfl,fun i hi=>absurd hi (Nat.not_lt_zero _),fun i hi=>absurd hi (Nat.not_lt_zero _),fun i hi=>absurd hi (Nat.not_lt_zero _),fun i hi=>absurd hi (Nat.not_lt_zero _),fun i hi=>absurd hi (Nat.not_lt_zero _)⟩ rfl
 refine ⟨t',qs',H',?_,d2,d3,d4⟩
 simp only [Int.natCast_zero] at d1
 simp only [impl_RegionRules.f,dt,df,bt,bf,nt,nf,Za,Zy,Zx,Zt,Zf,Zn,Zz,Zi,Zo,wr,AV.toB,AV.toI,AV.toS,if_true,h1,d1]
/-! ### What the boxes of a square come to -/
def orC (x:List Int):List Int→Int→Int
 | [],a=>a
 | c :: cs,a=>orC x cs (mOr a (pw (x.getD c.toNat 0)))
def boxT (a b c d:Nat):Bool:=holdsV 1 0 [((a:Nat):Int),((b:Nat):Int),((c:Nat):Int),((d:Nat):Int)] == (mOr (mOr (mOr (mOr 0 (pw ((a:Nat):Int))) (pw ((b:Nat):Int))) (pw ((c:Nat):Int))) (pw ((d:Nat):Int)) == 30)
theorem tab_box1:([1,2,3,4].all fun a=>[1,2,3,4].all fun b=>[1,2,3,4].all fun c=>[1,2,3,4].all fun d=>boxT a b c d)=true:=by decide +kernel
theorem m1234 {a:Nat} (h:1 ≤ a∧a < 5):a ∈ [1,2,3,4]:=by
 have:a=1 ∨ a=2 ∨ a=3 ∨ a=4:=by omega
 rcases this with rfl | rfl | rfl | rfl <;> simp
theorem tab_box (a:Nat) (ha:a < 5) (b:Nat) (hb:b < 5) (c:Nat) (hc:c < 5) (d:Nat) (hd:d < 5) (h:1 ≤ a∧1 ≤ b∧1 ≤ c∧1 ≤ d):holdsV 1 0 [((a:Nat):Int),((b:Nat):Int),((c:Nat):Int),((d:Nat):Int)]=(mOr (mOr (mOr (mOr 0 (pw ((a:Nat):Int))) (pw ((b:Nat):Int))) (pw ((c:Nat):Int))) (pw ((d:Nat):Int)) == 30):=by
 have:=List.all_eq_true.1 (List.all_eq_true.1 (List.all_eq_true.1 (List.all_eq_true.1 tab_box1 a (m1234 ⟨h.1,ha⟩)) b (m1234 ⟨h.2.1,hb⟩)) c (m1234 ⟨h.2.2.1,hc⟩)) d (m1234 ⟨h.2.2.2,hd⟩)
 exact eq_of_beq this
theorem holds_or {x:List Int} {c1 c2 c3 c4:Int} (h:∀ c ∈ [c1,c2,c3,c4],1 ≤ gv x c∧gv x c ≤ 4):holdsV 1 0 ([c1,c2,c3,c4].map (gv x))=(orC x [c1,c2,c3,c4] 0 == 30):=by
 have h1:=h c1 (by simp)
 have h2:=h c2 (by simp)
 have h3:=h c3 (by simp)
 have h4:=h c4 (by simp)
 have t:=tab_box (gv x c1).toNat (by omega) (gv x c2).toNat (by omega) (gv x c3).toNat (by omega) (gv x c4).toNat (by omega) (by omega)
 rw [show (((gv x c1).toNat:Nat):Int)=gv x c1 by omega,show (((gv x c2).toNat:Nat):Int)=gv x c2 by omega,show (((gv x c3).toNat:Nat):Int)=gv x c3 by omega,show (((gv x c4).toNat:Nat):Int)=gv x c4 by omega] at t
 exact t
theorem canHoldB {n:Int} {g:List Int} (hg:gridOk g n=true) (hf:full g) {r:V} (hr:ruleOkV n r=true):canHoldV n g r=holdsV r.1 r.2.2 (r.2.1.map (gv g)):=by
 obtain ⟨c1,c2,c3,c4⟩:=ruleOk_cells hr
 obtain ⟨hn,hl,h3⟩:=(gridOk_iff g n).1 hg
 rw [Bool.eq_iff_iff]
 constructor
 ·exact rule_full hg hf hr
 ·intro h
  rw [canHold_iff c3 c2]
  refine ⟨r.2.1.map (gv g),?_,h⟩
  rw [AllIn_pt,own_len]
  refine ⟨by simp,fun i hi=>?_⟩
  have hc:=c1 _ (mem_getD hi)
  have hcl:(r.2.1.getD i 0).toNat < g.length:=by omega
  rw [map_at hi,own_at hi,open_vals hg hcl]
  have hv:=h3 _ (mem_getD hcl)
  have hp:=hf _ hcl
  exact ⟨by unfold gv; omega,fun _=>rfl⟩
theorem regs_are:regCells boxes 0=[0,1,4,5]∧regCells boxes 1=[2,3,6,7]∧regCells boxes 2=[8,9,12,13]∧regCells boxes 3=[10,11,14,15]:=by decide
def boxB (x:List Int) (r:Nat):Bool:=orC x (regCells boxes (r:Int)) 0 == 30
theorem box_solved {x:List Int} (hx:x ∈ squares 4):puzzleSolvedV 4 (zeros 4) boxRules x=(boxB x 0 && (boxB x 1 && (boxB x 2 && boxB x 3))):=by
 obtain ⟨hfu,hg,hf,hc,_⟩:=squares_pos (by omega) hx
 obtain ⟨hn,hl,h3⟩:=(gridOk_iff x 4).1 hg
 have hp:puzzleV 4 (zeros 4) boxRules=true:=by decide +kernel
 have hro:∀ r ∈ boxRules,ruleOkV 4 r=true:=by decide +kernel
 have hcomp:compatB (zeros 4) x=true:=(compatB_iff _ _).2 fun i _ h=>by rw [zeros_at] at h; omega
 have hall:boxRules.all (canHoldV 4 x)=boxRules.all fun r=>holdsV r.1 r.2.2 (r.2.1.map (gv x)):=by
  rw [Bool.eq_iff_iff,List.all_eq_true,List.all_eq_true]
  exact ⟨fun h r hr=>by rw [← canHoldB hg hf (hro r hr)]; exact h r hr,fun h r hr=>by rw [canHoldB hg hf (hro r hr)]; exact h r hr⟩
 have gb:∀ c:Int,0 ≤ c→c < 16→1 ≤ gv x c∧gv x c ≤ 4:=fun c c0 c1=>by
  have hcl:c.toNat < x.length:=by omega
  have:=h3 _ (mem_getD hcl)
  have:=hf _ hcl
  unfold gv; omega
 have q:∀ c1 c2 c3 c4:Int,(0 ≤ c1∧c1 < 16)→(0 ≤ c2∧c2 < 16)→(0 ≤ c3∧c3 < 16)→(0 ≤ c4∧c4 < 16)→holdsV 1 0 ([c1,c2,c3,c4].map (gv x))=(orC x [c1,c2,c3,c4] 0 == 30):=fun c1 c2 c3 c4 h1 h2 h3 h4=>holds_or fun c hc=>by
  simp only [List.mem_cons,List.not_mem_nil,or_false] at hc
  rcases hc with rfl | rfl | rfl | rfl
  ·exact gb _ h1.1 h1.2
  ·exact gb _ h2.1 h2.2
  ·exact gb _ h3.1 h3.2
  ·exact gb _ h4.1 h4.2
 have e:puzzleSolvedV 4 (zeros 4) boxRules x=boxRules.all (canHoldV 4 x):=by
  unfold puzzleSolvedV puzzleFitsV fitsV
  rw [hp,hg,hcomp,hc,decide_eq_true (filled_eq.2 hf)]
  simp
 rw [e,hall]
 unfold boxB
 have r0:((0:Nat):Int)=0:=rfl
 have r1:((1:Nat):Int)=1:=rfl
 have r2:((2:Nat):Int)=2:=rfl
 have r3:((3:Nat):Int)=3:=rfl
 rw [r0,r1,r2,r3,regs_are.1,regs_are.2.1,regs_are.2.2.1,regs_are.2.2.2,← q 0 1 4 5 (by omega) (by omega) (by omega) (by omega),← q 2 3 6 7 (by omega) (by omega) (by omega) (by omega),← q 8 9 12 13 (by omega) (by omega) (by omega) (by omega),← q 10 11 14 15 (by omega) (by omega) (by omega) (by omega)]
 simp only [boxRules,List.all_cons,List.all_nil,Bool.and_true]
theorem Box_l3 (rec:Rec) (k:Nat) (L2:Sl→Bool→Bool→Int→Hp→An) {H:Hp} {xs cs:Sl} {x cells:List Int} {b8 b9:Bool} {x10:Int} (hx:Reads .i64 H xs x) (hc:Reads .i64 H cs cells) (hcl:cells.length=4) (hin:∀ c ∈ cells,0 ≤ c∧c < (x.length:Int)) (hv:∀ i,0 ≤ x.getD i 0∧x.getD i 0 ≤ 4) :
  ∀ (j i fuel:Nat) (acc:Int),i + j=4→j < fuel→M acc→laws_FnBoxSquare.l3 rec k L2 fuel xs b8 b9 x10 cs acc (i:Int) H=laws_FnBoxSquare.j5 rec k L2 xs b8 b9 x10 (orC x (cells.drop i) acc) H:=by
 have hxl:=hx.len
 have hcsl:=hc.len
 intro j
 induction j with
 | zero=>
  intro i fuel acc hi hf hm
  obtain ⟨fuel,rfl⟩:=Zs fuel (by omega)
  rw [List.drop_eq_nil_of_le (by omega)]
  simp (disch:=omega) only [laws_FnBoxSquare.l3,df,Zf,orC]
 | succ j ih=>
  intro i fuel acc hi hf hm
  obtain ⟨fuel,rfl⟩:=Zs fuel (by omega)
  have hi2:i < cells.length:=by omega
  have hcc:=hin _ (mem_getD hi2)
  have c0:(0:Int) ≤ cells.getD i 0:=hcc.1
  have c3:cells.getD i 0 < (xs.len:Int):=by omega
  have hvv:=hv (cells.getD i 0).toNat
  have mp:=M.pw hvv.1 hvv.2
  have ho:=m_or hm mp
  have rc:=rdn hc hi2
  have rx:=rdn hx (i:=(cells.getD i 0).toNat) (by omega)
  have e:orC x (cells.drop i) acc=orC x (cells.drop (i + 1)) (mOr acc (pw (x.getD (cells.getD i 0).toNat 0))):=by
   rw [List.drop_eq_getElem_cons hi2,orC,List.getD_eq_getElem?_getD (l:=cells),List.getElem?_eq_getElem hi2]; rfl
  rw [e,← ih (i + 1) fuel _ (by omega) (by omega) (hm.or mp)]
  push_cast
  simp (disch:=omega) only [laws_FnBoxSquare.l3,dt,Za,Zt,iN,Zn,Zo,rc,rx,m_shl (v:=x.getD (cells.getD i 0).toNat 0),ho,wr (n:=(i:Int) + 1)]
def restB (x:List Int):Nat→Nat→Bool
 | _,0=>true
 | i,j + 1=>boxB x i && restB x (i + 1) j
theorem reg_in:∀ r,r < 4→∀ c ∈ regCells boxes ((r:Nat):Int),0 ≤ c∧c < 16:=by decide
theorem Box_l2 {k:Nat} (hk:2000010 ≤ k) {H0:Hp} {xs:Sl} {x:List Int} {b8:Bool} (hx:Reads .i64 H0 xs x) (hxl:x.length=16) (hv:∀ i,0 ≤ x.getD i 0∧x.getD i 0 ≤ 4) :
  ∀ (j i fuel:Nat) (b9:Bool) (H:Hp),i + j=4→j < fuel→H0 <+: H→∃ H',laws_FnBoxSquare.l2 (callF PP orc k) k fuel xs b8 b9 (i:Int) H=some (.bool (b8 == (b9 && restB x i j)),H'):=by
 intro j
 induction j with
 | zero=>
  intro i fuel b9 H hi hf hp
  obtain ⟨fuel,rfl⟩:=Zs fuel (by omega)
  refine ⟨H,?_⟩
  simp (disch:=omega) only [laws_FnBoxSquare.l2,laws_FnBoxSquare.j4,df,Zf,restB,Bool.and_true]
 | succ j ih=>
  intro i fuel b9 H hi hf hp
  obtain ⟨fuel,rfl⟩:=Zs fuel (by omega)
  have hbx:=implBox_ok (show 1 ≤ k by omega) H
  have p1:H <+: H ++ [some (Blk.mk false (boxes.map (.int .i64)))]:=(List.prefix_append _ _)
  have hnew:=own_new 1 H (boxes.map (.int .i64)) 16 rfl
  obtain ⟨u,H1,a1,a2,a3⟩:=implRegionCells_ok (show 2000001 ≤ k by omega) (r:=(i:Int)) (own_reads hnew) boxes_ok (by omega)
  obtain ⟨v1,v2⟩:=boxRules_at i (by omega)
  have h3:=Box_l3 (callF PP orc k) k (laws_FnBoxSquare.l2 (callF PP orc k) k fuel) (b8:=b8) (b9:=b9) (x10:=(i:Int)) (pf_reads ((hp.trans p1).trans a2) hx) (own_reads a3) v2 (fun c hc=>by have:=reg_in i (by omega) c hc; omega) hv 4 0 k 0 (by omega) (by omega) ⟨by decide,by decide⟩
  simp only [Int.natCast_zero,List.drop_zero] at h3
  have e8:∀ c:Bool,(bif b9 then c else false)=(b9 && c):=fun c=>by cases b9 <;> rfl
  obtain ⟨H',d1⟩:=ih (i + 1) fuel (b9 && boxB x i) H1 (by omega) (by omega) ((hp.trans p1).trans a2)
  push_cast at d1
  refine ⟨H',?_⟩
  rw [restB,← Bool.and_assoc,← d1]
  simp (disch:=omega) only [laws_FnBoxSquare.l2,dt,Zt,hbx,a1,Zo,AV.toS,if_true]
  rw [h3]
  unfold laws_FnBoxSquare.j5 laws_FnBoxSquare.j6
  rw [wr (n:=(i:Int) + 1) (by omega) (by omega)]
  unfold boxB
  cases b9
  ·rw [cond_false,Bool.false_and]
  ·rw [cond_true,Bool.true_and]
theorem BoxSquare_law {k:Nat} (hk:2000800 ≤ k) {H:Hp} {s:Sl} {l:List Int} (hs:Reads .u8 H s l) (hb:∀ x ∈ l,0 ≤ x∧x ≤ 255) :
  ∃ H',callF PP orc k laws_FnBoxSquare.id [.sl 1 s] H=some (.bool true,H'):=by
 obtain ⟨k,rfl⟩:=Zs k (by omega)
 rw [laws_FnBoxSquare.call]
 by_cases hbig:(s.len:Int) > 1048576
 ·exact ⟨H,by simp only [laws_FnBoxSquare.f,dt hbig,Zt]⟩
 ·obtain ⟨n,z,H1,a1,a2,a3⟩:=DrawSquareNumber_ok (show 2000501 ≤ k by omega) hs hb
  obtain ⟨t,H2,b1,b2,b3⟩:=implSquareNumber_ok (show 2000500 ≤ k by omega) (H:=H1) (n:=n) a3
  obtain ⟨u,H3,c1,c2,c3⟩:=specSquare_full (show 2000100 ≤ k by omega) (n:=n) a3 H2
  have ht3:=pf_reads c2 b3
  have hl16:=squareV_len n z
  have sm:=same_ok (show 2000000 ≤ k by omega) ht3 (own_reads c3) (by omega)
  have htl:=ht3.len
  obtain ⟨H4,d1,d2⟩:=alive_ok (show 2000002 ≤ k by omega) H3
  have hj0:∃ H',laws_FnBoxSquare.j0 (callF PP orc k) k t true H3=some (.bool true,H'):=by
   refine ⟨H4,?_⟩
   unfold laws_FnBoxSquare.j0
   rw [cond_true,d1,Option.bind_some]
   simp only [AV.isTup,AV.nth,AV.isAgg,AV.cel,AV.toI,AV.toS,AV.toB,Zl,Zm,Zc,Zd,if_true,decide_true,beq_self_eq_true,Zt,Zf,Zy,Zx,Zo]
  unfold laws_FnBoxSquare.f
  rw [df hbig,cond_false,a1,Option.bind_some]
  simp only [AV.isTup,AV.nth,AV.isAgg,AV.cel,AV.toI,AV.toS,AV.toB,Zl,Zm,Zc,Zd,if_true,decide_true,beq_self_eq_true,Zt,Zf,Zy,Zx,Zo]
  rw [b1,Option.bind_some]
  simp only [AV.isTup,AV.nth,AV.isAgg,AV.cel,AV.toI,AV.toS,AV.toB,Zl,Zm,Zc,Zd,if_true,decide_true,beq_self_eq_true,Zt,Zf,Zy,Zx,Zo]
  rw [c1,Option.bind_some]
  simp only [AV.isTup,AV.nth,AV.isAgg,AV.cel,AV.toI,AV.toS,AV.toB,Zl,Zm,Zc,Zd,if_true,decide_true,beq_self_eq_true,Zt,Zf,Zy,Zx,Zo]
  rw [sm,Option.bind_some]
  simp only [AV.isTup,AV.nth,AV.isAgg,AV.cel,AV.toI,AV.toS,AV.toB,Zl,Zm,Zc,Zd,if_true,decide_true,beq_self_eq_true,Zt,Zf,Zy,Zx,Zo]
  by_cases cn:n=4
  ·subst cn
   rw [nf rfl,cond_false]
   by_cases ce:squareV 4 z=[]
   ·rw [bt (show (t.len:Int)=0 by rw [htl,ce]; rfl)]
    exact hj0
   ·have hne:(t.len:Int) ≠ 0:=by
     have:0 < (squareV 4 z).length:=List.length_pos_iff.2 ce
     omega
    have hmem:=squareV_mem (n:=4) (by omega) ce
    obtain ⟨hfu,hg,hf,hcl,_⟩:=squares_pos (by omega) hmem
    obtain ⟨_,hlen,hvv⟩:=(gridOk_iff _ _).1 hg
    generalize squareV 4 z=x at *
    have hx16:x.length=16:=by omega
    have hv:∀ i,0 ≤ x.getD i 0∧x.getD i 0 ≤ 4:=fun i=>by
     by_cases hi:i < x.length
     ·have:=hvv _ (mem_getD hi); omega
     ·rw [List.getD_eq_getElem?_getD,List.getElem?_eq_none (by omega)]; simp
    have hbx:=implBox_ok (show 1 ≤ k by omega) H3
    have p1:H3 <+: H3 ++ [some (Blk.mk false (boxes.map (.int .i64)))]:=(List.prefix_append _ _)
    have hnew:=own_new 1 H3 (boxes.map (.int .i64)) 16 rfl
    obtain ⟨rt,qs,H5,e1,e2,e3,e4⟩:=implRegionRules_ok (show 2000010 ≤ k by omega) (own_reads hnew)
    have hz0:(List.replicate (16:Int).toNat [AV.int .i64 0]).flatten=(zeros 4).map (.int .i64):=by unfold zeros; exact flat0s _
    have p5:H5 <+: H5 ++ [some (Blk.mk false ((zeros 4).map (.int .i64)))]:=(List.prefix_append _ _)
    have o5:=own_new 1 H5 ((zeros 4).map (.int .i64)) 16 rfl
    have hql:qs.length=4:=by have:=congrArg List.length e4; simpa [boxRules] using this
    have hqc:∀ r ∈ qs,r.cells.length ≤ 1000:=fun r hr=>by
     have:r.val ∈ boxRules:=by rw [← e4]; exact List.mem_map.2 ⟨r,hr,rfl⟩
     have h4:∀ v ∈ boxRules,v.2.1.length ≤ 1000:=by decide
     exact h4 _ this
    have hz:PuzAt (H5 ++ [some (Blk.mk false ((zeros 4).map (.int .i64)))]) 4 (Sl.mk false H5.length 0 16) rt (zeros 4) qs:=⟨own_reads o5,pf_readsR p5 e3.reads,by omega,by decide,by omega,hqc⟩
    have px:=p1.trans (e2.trans p5)
    obtain ⟨H6,f1,f2⟩:=implPuzzleSolved_ok (show 2000043 ≤ k by omega) hz (pf_reads px ht3) (by omega)
    rw [e4,box_solved hmem] at f1
    obtain ⟨H',g1⟩:=Box_l2 (show 2000010 ≤ k by omega) (b8:=boxB x 0 && (boxB x 1 && (boxB x 2 && boxB x 3))) (pf_reads (px.trans f2) ht3) hx16 hv 4 0 k true H6 (by omega) (by omega) (List.prefix_refl _)
    have er:((boxB x 0 && (boxB x 1 && (boxB x 2 && boxB x 3))) == (true && restB x 0 4))=true:=by
     unfold restB restB restB restB restB
     simp
    rw [er] at g1
    refine ⟨H',?_⟩
    simp only [Int.natCast_zero] at g1
    rw [bf hne]
    unfold laws_FnBoxSquare.j0
    rw [cond_false]
    unfold laws_FnBoxSquare.j1
    rw [hbx,Option.bind_some]
    simp only [AV.isTup,AV.nth,AV.isAgg,AV.cel,AV.toI,AV.toS,AV.toB,Zl,Zm,Zc,Zd,if_true,decide_true,beq_self_eq_true,Zt,Zf,Zy,Zx,Zo]
    rw [e1,Option.bind_some]
    simp only [AV.isTup,AV.nth,AV.isAgg,AV.cel,AV.toI,AV.toS,AV.toB,Zl,Zm,Zc,Zd,if_true,decide_true,beq_self_eq_true,Zt,Zf,Zy,Zx,Zo]
    rw [ip (by omega),hz0]
    have f1':callF PP orc k impl_PuzzleSolved.id [.agg [.int .i64 4,.sl 1 (Sl.mk false H5.length 0 (16:Int).toNat),.sl 3 rt],.sl 1 t] (H5 ++ [some (Blk.mk false ((zeros 4).map (.int .i64)))])=some (.bool (boxB x 0 && (boxB x 1 && (boxB x 2 && boxB x 3))),H6):=f1
    rw [f1',Option.bind_some]
    simp only [AV.isTup,AV.nth,AV.isAgg,AV.cel,AV.toI,AV.toS,AV.toB,Zl,Zm,Zc,Zd,if_true,decide_true,beq_self_eq_true,Zt,Zf,Zy,Zx,Zo]
    exact g1
  ·rw [nt cn,cond_true]
   exact hj0
end Go.Proofs.Ytjikkamhljbipaa.Rp
