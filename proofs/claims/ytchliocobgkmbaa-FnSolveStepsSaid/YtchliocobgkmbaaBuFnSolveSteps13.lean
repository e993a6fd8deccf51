/- Texts for the row of the law FnSolveSteps, part 13: the plain machine, the program's functions on it, what they come to. No conditions. -/
import Derived.Test.YtchliocobgkmbaaAy
import Derived.Test.YtchliocobgkmbaaBuFnSolveSteps0
import Derived.IntWalk
import Derived.Test.YtchliocobgkmbaaBuFnSolveSteps1
import Derived.Test.YtchliocobgkmbaaBuFnSolveSteps2
import Derived.Test.YtchliocobgkmbaaBuFnSolveSteps3
set_option linter.unusedVariables false
set_option linter.unusedSimpArgs false
namespace Go.Proofs.Ytchliocobgkmbaa.Rp
open Go Go.RowKit Go.Proofs.Ytchliocobgkmbaa.Ab
theorem Zo {A B:Type _} (a:A) (f:A→Option B):(some a).bind f=f a:=rfl
theorem Zn (n:Nat):(n:Int).toNat=n:=rfl
theorem Za (b:Bool):(b && b)=b:=Bool.and_self b
theorem Zf {A:Sort _} (a b:A):cond false a b=b:=rfl
theorem Zt {A:Sort _} (a b:A):cond true a b=a:=rfl
theorem Zx:(!false)=true:=rfl
theorem Zy:(!true)=false:=rfl
theorem Zz:(0:Int).toNat=0:=rfl
theorem Zi:(1:Int).toNat=1:=rfl
theorem Zl {A:Type _} {a:A} {l:List A}:(a :: l).length=l.length + 1:=rfl
theorem Zm {A:Type _}:([]:List A).length=0:=rfl
theorem Zc {A:Type _} {x d:A} {l:List A}:(x :: l).getD 0 d=x:=rfl
theorem Zd {A:Type _} {n:Nat} {x d:A} {l:List A}:(x :: l).getD (n + 1) d=l.getD n d:=List.getD_cons_succ
theorem Zs (n:Nat) (h:0 < n):∃ q,n=q + 1:=⟨n - 1,by omega⟩
theorem wr {n:Int} (h1:-9223372036854775808 ≤ n) (h2:n ≤ 9223372036854775807):IntKind.i64.wrap n=n:=by
 rw [IntWalk.i64_left]; exact IntWalk.wrap64_in n ⟨h1,h2⟩
theorem wrs {i:Nat} (h:i < 4611686018427387904):IntKind.i64.wrap ((i:Int) + 1)=(i:Int) + 1:=wr (by omega) (by omega)
theorem pf_get {H H':Hp} (g:H <+: H') {b:Nat} {x:Option Blk} (h:H[b]?=some x):H'[b]?=some x:=by
 obtain ⟨T,rfl⟩:=g
 have hb:=(List.getElem?_eq_some_iff.1 h).1
 rw [List.getElem?_append_left hb]; exact h
theorem pf_cell {H H':Hp} (g:H <+: H') {b o:Nat} {v:AV} (h:H.cell b o=some v):H'.cell b o=some v:=by
 unfold Hp.cell at h ⊢
 split at h
 ·rename_i x hx; rw [pf_get g hx]; exact h
 ·simp at h
theorem pf_reads {H H':Hp} (g:H <+: H') {k:IntKind} {s:Sl} {l:List Int} (h:Reads k H s l):Reads k H' s l:=⟨h.len,fun i hi=>pf_cell g (h.cell i hi)⟩
theorem reads_at {H:Hp} {k:IntKind} {s:Sl} {l:List Int} (h:Reads k H s l) (i:Nat) (hi:i < l.length):ldI k H s.blk (s.off + i)=some l[i]:=by
 unfold ldI
 rw [h.cell i hi]
 simp [AV.toI]
theorem reads_nil {H:Hp} {k:IntKind} {s:Sl} (h:s.len=0):Reads k H s []:=⟨h,fun i hi=>absurd hi (Nat.not_lt_zero _)⟩
structure Own (sz:Nat) (H0 H:Hp) (s:Sl) (c:List AV):Prop where
 nn:s.nil=false
 off:s.off=0
 blk:H0.length ≤ s.blk
 get:H[s.blk]?=some (some ⟨false,c⟩)
 len:s.len * sz=c.length
def But (b:Nat) (H H':Hp):Prop:=∀ (c:Nat) (x:Option Blk),c ≠ b→H[c]?=some x→H'[c]?=some x
theorem But.pf {b:Nat} {H H' H0:Hp} (h:But b H H') (hb:H0.length ≤ b) (g:H0 <+: H) (hl:H.length ≤ H'.length):H0 <+: H':=by
 have hl0:=g.length_le
 rw [List.prefix_iff_eq_take]
 apply List.ext_getElem?
 intro i
 by_cases hi:i < H0.length
 ·rw [List.getElem?_take,if_pos hi]
  have e:=List.getElem?_eq_getElem hi
  rw [e,h i _ (by omega) (pf_get g e)]
 ·rw [List.getElem?_eq_none (by omega),List.getElem?_eq_none (by simp; omega)]
theorem But.cell {b:Nat} {H H':Hp} (h:But b H H') {c o:Nat} (hc:c ≠ b) {v:AV} (hv:H.cell c o=some v):H'.cell c o=some v:=by
 unfold Hp.cell at hv ⊢
 split at hv
 ·rename_i x hx; rw [h c _ hc hx]; exact hv
 ·simp at hv
theorem But.reads {b:Nat} {H H':Hp} (h:But b H H') {k:IntKind} {s:Sl} {l:List Int} (hs:s.blk ≠ b) (hr:Reads k H s l):Reads k H' s l:=⟨hr.len,fun i hi=>h.cell hs (hr.cell i hi)⟩
theorem But.own {b:Nat} {H H' H0:Hp} (h:But b H H') {sz:Nat} {s:Sl} {c:List AV} (hs:s.blk ≠ b) (hr:Own sz H0 H s c):Own sz H0 H' s c:=⟨hr.nn,hr.off,hr.blk,h _ _ hs hr.get,hr.len⟩
theorem own_cell {sz:Nat} {H0 H:Hp} {s:Sl} {c:List AV} (h:Own sz H0 H s c) (i:Nat):H.cell s.blk (s.off + i)=c[i]?:=by
 unfold Hp.cell; rw [h.get,h.off]; simp
theorem own_reads {k:IntKind} {H0 H:Hp} {s:Sl} {l:List Int} (h:Own 1 H0 H s (l.map (.int k))):Reads k H s l:=
 ⟨by have:=h.len; simpa using this,fun i hi=>by rw [own_cell h]; simp [hi]⟩
theorem own_pf {sz:Nat} {H0 H H':Hp} {s:Sl} {c:List AV} (h:Own sz H0 H s c) (g:H <+: H'):Own sz H0 H' s c:=⟨h.nn,h.off,h.blk,pf_get g h.get,h.len⟩
theorem own_base {sz:Nat} {H0 H1 H:Hp} {s:Sl} {c:List AV} (h:Own sz H1 H s c) (g:H0 <+: H1):Own sz H0 H s c:=⟨h.nn,h.off,Nat.le_trans g.length_le h.blk,h.get,h.len⟩
theorem own_new (sz:Nat) (H:Hp) (c:List AV) (n:Nat) (hn:n * sz=c.length):Own sz H (H ++ [some ⟨false,c⟩]) (Sl.mk false H.length 0 n) c:=⟨rfl,rfl,Nat.le_refl _,by simp,hn⟩
theorem own_sto {sz:Nat} {H0 H:Hp} {s:Sl} {c:List AV} (h:Own sz H0 H s c) (g:H0 <+: H) (o:Nat) (vs:List AV) (ho:o + vs.length ≤ c.length) :
  ∃ H',H.sto s.blk (s.off + o) vs=some H'∧H0 <+: H'∧Own sz H0 H' s (c.take o ++ vs ++ c.drop (o + vs.length))∧But s.blk H H'∧H'.length=H.length:=by
 have hb:=(List.getElem?_eq_some_iff.1 h.get).1
 have hbut:But s.blk H (H.set s.blk (some ⟨false,c.take o ++ vs ++ c.drop (o + vs.length)⟩)):=fun d x hd hx=>by rw [List.getElem?_set_ne (Ne.symm hd)]; exact hx
 refine ⟨H.set s.blk (some ⟨false,c.take o ++ vs ++ c.drop (o + vs.length)⟩),?_,hbut.pf h.blk g (by simp),⟨h.nn,h.off,h.blk,?_,?_⟩,hbut,by simp⟩
 ·unfold Hp.sto
  rw [h.get,h.off]
  simp [ho]
 ·rw [List.getElem?_set_self hb]
 ·rw [h.len]; simp; omega
theorem own_app {sz:Nat} {H0 H:Hp} {s:Sl} {c:List AV} (h:Own sz H0 H s c) (g:H0 <+: H) (n:Nat) (vs:List AV) (hn:0 < n) (hl:s.len + n ≤ 1073741824) (h1:sz ≤ 1024) (h2:0 < sz) (hv:vs.length=n * sz) :
  ∃ H',H.app sz s n vs=some (Sl.mk false H.length 0 (s.len + n),H')∧H0 <+: H'∧Own sz H0 H' (Sl.mk false H.length 0 (s.len + n)) (c ++ vs)∧But s.blk H H'∧H'.length=H.length + 1:=by
 have hb:=(List.getElem?_eq_some_iff.1 h.get).1
 have hbut:But s.blk H (H.set s.blk none ++ [some ⟨false,c ++ vs⟩]):=fun d x hd hx=>by
  have hd':=(List.getElem?_eq_some_iff.1 hx).1
  rw [List.getElem?_append_left (by simpa using hd'),List.getElem?_set_ne (Ne.symm hd)]; exact hx
 refine ⟨H.set s.blk none ++ [some ⟨false,c ++ vs⟩],?_,hbut.pf h.blk g (by simp),⟨rfl,rfl,?_,by simp,?_⟩,hbut,by simp⟩
 ·unfold Hp.app
  rw [if_pos ⟨hl,h1,h2,hv⟩,if_neg (by omega),h.nn,h.get]
  simp only [Bool.false_eq_true,if_false]
  rw [if_pos ⟨trivial,h.off,h.len⟩]
 ·exact g.length_le
 ·simp only [List.length_append]; rw [Nat.add_mul,h.len,hv]
theorem own_app1 {H0 H:Hp} {s:Sl} {l:List Int} {k:IntKind} (h:Own 1 H0 H s (l.map (.int k))) (g:H0 <+: H) (n:Int) (hl:s.len < 1073741824) :
  ∃ H',H.app 1 s 1 [.int k n]=some (Sl.mk false H.length 0 (s.len + 1),H')∧H0 <+: H'∧Own 1 H0 H' (Sl.mk false H.length 0 (s.len + 1)) ((l ++ [n]).map (.int k))∧But s.blk H H'∧H'.length=H.length + 1:=by
 have:=own_app h g 1 [.int k n] (by omega) (by omega) (by omega) (by omega) rfl
 simpa using this
theorem own_set {H0 H:Hp} {s:Sl} {l:List Int} {k:IntKind} (h:Own 1 H0 H s (l.map (.int k))) (g:H0 <+: H) (i:Nat) (hi:i < l.length) (n:Int) :
  ∃ H',H.sto s.blk (s.off + i) [.int k n]=some H'∧H0 <+: H'∧Own 1 H0 H' s ((l.set i n).map (.int k))∧But s.blk H H'∧H'.length=H.length:=by
 obtain ⟨H',a1,a2,a3,a4⟩:=own_sto h g i [.int k n] (by simp; omega)
 refine ⟨H',a1,a2,?_,a4⟩
 have e:(l.set i n).map (AV.int k)=(l.map (.int k)).take i ++ [.int k n] ++ (l.map (.int k)).drop (i + 1):=by
  rw [List.set_eq_take_append_cons_drop,if_pos hi]; simp
 rw [e]; exact a3
theorem dand (H:Hp) (a b:Prop) [Decidable a] [Decidable b]:(bif decide a then some (AV.bool (decide b),H) else some (AV.bool false,H))=some (AV.bool (decide (a∧b)),H):=by
 by_cases a <;> by_cases b <;> simp [*]
theorem sizeOk_ok {k:Nat} (hk:1 ≤ k) (n:Int) (H:Hp):callF PP orc k impl_sizeOk.id [.int .i64 n] H=some (.bool (decide (2 ≤ n∧n ≤ 4)),H):=by
 obtain ⟨k,rfl⟩:=Zs k (by omega)
 rw [impl_sizeOk.call]
 exact dand H (n ≥ 2) (n ≤ 4)
theorem l1In_ok {k:Nat} (hk:1 ≤ k) (n a b:Int) (H:Hp):callF PP orc k spec_l1In.id [.int .i64 n,.int .i64 a,.int .i64 b] H=some (.bool (decide (a ≤ n∧n ≤ b)),H):=by
 obtain ⟨k,rfl⟩:=Zs k (by omega)
 rw [spec_l1In.call]
 exact dand H (n ≥ a) (n ≤ b)
def gridOk (l:List Int) (n:Int):Bool:=decide (2 ≤ n∧n ≤ 4) && decide ((l.length:Int)=n * n) && l.all fun v=>decide (0 ≤ v) && decide (v ≤ n)
theorem gridOk_iff (l:List Int) (n:Int):gridOk l n=true ↔ (2 ≤ n∧n ≤ 4)∧(l.length:Int)=n * n∧∀ v ∈ l,0 ≤ v∧v ≤ n:=by
 simp [gridOk,and_assoc]
theorem gridOk_len {l:List Int} {n:Int} (h:gridOk l n=true):l.length ≤ 16:=by
 obtain ⟨⟨h1,h2⟩,h3,_⟩:=(gridOk_iff l n).1 h
 have:n=2 ∨ n=3 ∨ n=4:=by omega
 rcases this with rfl | rfl | rfl <;> omega
theorem all_drop {p:Int→Bool} (l:List Int) (i:Nat) (h:i < l.length):(l.drop i).all p=(p l[i] && (l.drop (i + 1)).all p):=by
 rw [List.drop_eq_getElem_cons h]; rfl
theorem implGridValid_l2 (rec:Rec) (k:Nat) {H:Hp} {s:Sl} {l:List Int} {m:Int} (hr:Reads .i64 H s l) (hl:l.length ≤ 1048576) :
  ∀ (j i n:Nat),i + j=l.length→j < n→impl_GridValid.l2 rec k n m s l.length i H=some (.bool ((l.drop i).all fun v=>decide (0 ≤ v) && decide (v ≤ m)),H):=by
 intro j
 induction j with
 | zero=>
  intro i n hi hn
  obtain ⟨n,rfl⟩:=Zs n (by omega)
  simp [impl_GridValid.l2,show ¬ i < l.length by omega,List.drop_eq_nil_of_le (show l.length ≤ i by omega)]
 | succ j ih=>
  intro i n hi hn
  obtain ⟨n,rfl⟩:=Zs n (by omega)
  have h1:=hr.len
  have h2:i < l.length:=by omega
  have h3:=reads_at hr i h2
  have h4:=wrs (i:=i) (by omega)
  have h5:=ih (i + 1) n (by omega) (by omega)
  push_cast at h5
  rw [all_drop l i h2]
  by_cases c1:l[i] < 0
  ·simp [impl_GridValid.l2,impl_GridValid.j3,impl_GridValid.j4,h1,h2,h3,c1,show ¬ 0 ≤ l[i] by omega]
  ·by_cases c2:l[i] > m
   ·simp [impl_GridValid.l2,impl_GridValid.j3,impl_GridValid.j4,h1,h2,h3,c1,c2,show ¬ l[i] ≤ m by omega]
   ·simp [impl_GridValid.l2,impl_GridValid.j3,impl_GridValid.j4,h1,h2,h3,c1,c2,h4,h5,show 0 ≤ l[i] by omega,show l[i] ≤ m by omega]
theorem implGridValid_ok {k:Nat} (hk:2000000 ≤ k) {H:Hp} {s:Sl} {l:List Int} (hr:Reads .i64 H s l) (hl:l.length ≤ 1048576) (m:Int) :
  callF PP orc k impl_GridValid.id [.sl 1 s,.int .i64 m] H=some (.bool (gridOk l m),H):=by
 obtain ⟨k,rfl⟩:=Zs k (by omega)
 rw [impl_GridValid.call]
 have h1:=hr.len
 by_cases c:2 ≤ m∧m ≤ 4
 ·have h2:IntKind.i64.wrap (m * m)=m * m:=by
   have:m=2 ∨ m=3 ∨ m=4:=by omega
   rcases this with rfl | rfl | rfl <;> exact wr (by decide) (by decide)
  have h3:=implGridValid_l2 (callF PP orc k) k (m:=m) hr hl l.length 0 k (by omega) (by omega)
  by_cases c2:(l.length:Int)=m * m
  ·have:((l.length:Int) != m * m)=false:=by simp [c2]
   simp only [impl_GridValid.f,sizeOk_ok (show 1 ≤ k by omega),c,Zo,AV.toB,h1,h2,this,impl_GridValid.j0,impl_GridValid.j1]
   simpa [gridOk,c,c2] using h3
  ·have:((l.length:Int) != m * m)=true:=by simp [c2]
   simp [impl_GridValid.f,sizeOk_ok (show 1 ≤ k by omega),c,AV.toB,h1,h2,this,impl_GridValid.j0,gridOk,c2]
 ·simp [impl_GridValid.f,sizeOk_ok (show 1 ≤ k by omega),c,AV.toB,impl_GridValid.j0,gridOk]
theorem specGridValid_l0 {k:Nat} (hk:1 ≤ k) {H:Hp} {s:Sl} {l:List Int} {m:Int} (hr:Reads .i64 H s l) (hl:l.length ≤ 1048576) :
  ∀ (j i n:Nat),i + j=l.length→j < n→spec_GridValid.l0 (callF PP orc k) k n s m i H=some (.bool (decide (2 ≤ m∧m ≤ 4) && decide ((l.length:Int)=m * m) && (l.drop i).all fun v=>decide (0 ≤ v) && decide (v ≤ m)),H):=by
 intro j
 induction j with
 | zero=>
  intro i n hi hn
  obtain ⟨n,rfl⟩:=Zs n (by omega)
  have h1:=hr.len
  by_cases c:2 ≤ m∧m ≤ 4
  ·have h2:IntKind.i64.wrap (m * m)=m * m:=by
    have:m=2 ∨ m=3 ∨ m=4:=by omega
    rcases this with rfl | rfl | rfl <;> exact wr (by decide) (by decide)
   simp only [spec_GridValid.l0,h1,show ¬ ((i:Int) < (l.length:Int)) by omega,decide_false,Zf,spec_GridValid.j1,l1In_ok hk,Zo,AV.toB,c,and_self,decide_true,Zt,h2,List.drop_eq_nil_of_le (show l.length ≤ i by omega),List.all_nil,Bool.and_true,Bool.true_and]
   by_cases c2:(l.length:Int)=m * m <;> simp [c2]
  ·simp [spec_GridValid.l0,h1,show ¬ i < l.length by omega,spec_GridValid.j1,l1In_ok hk,AV.toB,c]
 | succ j ih=>
  intro i n hi hn
  obtain ⟨n,rfl⟩:=Zs n (by omega)
  have h1:=hr.len
  have h2:i < l.length:=by omega
  have h3:=reads_at hr i h2
  have h4:=wrs (i:=i) (by omega)
  have h5:=ih (i + 1) n (by omega) (by omega)
  push_cast at h5
  rw [all_drop l i h2]
  by_cases c1:0 ≤ l[i]∧l[i] ≤ m
  ·simp [spec_GridValid.l0,h1,h2,h3,l1In_ok hk,AV.toB,c1,h4,h5]
  ·have:(decide (0 ≤ l[i]) && decide (l[i] ≤ m))=false:=by
    cases d:(decide (0 ≤ l[i]) && decide (l[i] ≤ m)) with
    | false=>rfl
    | true=>exact absurd (by simpa using d) c1
   simp [spec_GridValid.l0,h1,h2,h3,l1In_ok hk,AV.toB,c1,this]
theorem specGridValid_ok {k:Nat} (hk:2000000 ≤ k) {H:Hp} {s:Sl} {l:List Int} (hr:Reads .i64 H s l) (hl:l.length ≤ 1048576) (m:Int) :
  callF PP orc k spec_GridValid.id [.sl 1 s,.int .i64 m] H=some (.bool (gridOk l m),H):=by
 obtain ⟨k,rfl⟩:=Zs k (by omega)
 rw [spec_GridValid.call]
 have:=specGridValid_l0 (k:=k) (by omega) (m:=m) hr hl l.length 0 k (by omega) (by omega)
 simpa [spec_GridValid.f,gridOk] using this
def filled (l:List Int):Nat:=l.countP fun v=>decide (v > 0)
theorem count_drop {p:Int→Bool} (l:List Int) (i:Nat) (h:i < l.length):(l.drop i).countP p=(l.drop (i + 1)).countP p + (if p l[i]=true then 1 else 0):=by
 rw [List.drop_eq_getElem_cons h,List.countP_cons]
theorem implGridFilled_l0 (rec:Rec) (k:Nat) {H:Hp} {s:Sl} {l:List Int} (hr:Reads .i64 H s l) (hl:l.length ≤ 1048576) :
  ∀ (j i n c:Nat),i + j=l.length→j < n→c ≤ i→impl_GridFilled.l0 rec k n c s l.length i H=some (.int .i64 ((c + (l.drop i).countP fun v=>decide (v > 0):Nat):Int),H):=by
 intro j
 induction j with
 | zero=>
  intro i n c hi hn hc
  obtain ⟨n,rfl⟩:=Zs n (by omega)
  simp [impl_GridFilled.l0,impl_GridFilled.j2,show ¬ i < l.length by omega,List.drop_eq_nil_of_le (show l.length ≤ i by omega)]
 | succ j ih=>
  intro i n c hi hn hc
  obtain ⟨n,rfl⟩:=Zs n (by omega)
  have h1:=hr.len
  have h2:i < l.length:=by omega
  have h3:=reads_at hr i h2
  have h4:=wrs (i:=i) (by omega)
  have h6:=wrs (i:=c) (by omega)
  rw [count_drop l i h2]
  by_cases c1:l[i] > 0
  ·have h5:=ih (i + 1) n (c + 1) (by omega) (by omega) (by omega)
   push_cast at h5
   simp [impl_GridFilled.l0,impl_GridFilled.j1,h1,h2,h3,c1,h4,h6,h5]
   omega
  ·have h5:=ih (i + 1) n c (by omega) (by omega) (by omega)
   push_cast at h5
   simp [impl_GridFilled.l0,impl_GridFilled.j1,h1,h2,h3,c1,h4,h5]
theorem implGridFilled_ok {k:Nat} (hk:2000001 ≤ k) {H:Hp} {s:Sl} {l:List Int} (hr:Reads .i64 H s l) (hl:l.length ≤ 1048576) (m:Int) :
  callF PP orc k impl_GridFilled.id [.sl 1 s,.int .i64 m] H=some (.int .i64 (if gridOk l m=true then (filled l:Int) else -1),H):=by
 obtain ⟨k,rfl⟩:=Zs k (by omega)
 rw [impl_GridFilled.call]
 have h1:=hr.len
 have:=implGridFilled_l0 (callF PP orc k) k hr hl l.length 0 k 0 (by omega) (by omega) (by omega)
 simp at this
 by_cases c:gridOk l m=true
 ·simpa [impl_GridFilled.f,implGridValid_ok (show 2000000 ≤ k by omega) hr hl,AV.toB,c,h1,filled] using this
 ·simp [impl_GridFilled.f,implGridValid_ok (show 2000000 ≤ k by omega) hr hl,AV.toB,c]
theorem specGridFilled_l0 (rec:Rec) (k:Nat) {H:Hp} {s:Sl} {l:List Int} (hr:Reads .i64 H s l) (hl:l.length ≤ 1048576) :
  ∀ (j i n c:Nat),i + j=l.length→j < n→c ≤ i→spec_GridFilled.l0 rec k n s c i H=some (.int .i64 ((c + (l.drop i).countP fun v=>decide (v > 0):Nat):Int),H):=by
 intro j
 induction j with
 | zero=>
  intro i n c hi hn hc
  obtain ⟨n,rfl⟩:=Zs n (by omega)
  simp [spec_GridFilled.l0,spec_GridFilled.j2,hr.len,show ¬ i < l.length by omega,List.drop_eq_nil_of_le (show l.length ≤ i by omega)]
 | succ j ih=>
  intro i n c hi hn hc
  obtain ⟨n,rfl⟩:=Zs n (by omega)
  have h1:=hr.len
  have h2:i < l.length:=by omega
  have h3:=reads_at hr i h2
  have h4:=wrs (i:=i) (by omega)
  have h6:=wrs (i:=c) (by omega)
  rw [count_drop l i h2]
  by_cases c1:l[i] > 0
  ·have h5:=ih (i + 1) n (c + 1) (by omega) (by omega) (by omega)
   push_cast at h5
   simp [spec_GridFilled.l0,spec_GridFilled.j1,h1,h2,h3,c1,h4,h6,h5]
   omega
  ·have h5:=ih (i + 1) n c (by omega) (by omega) (by omega)
   push_cast at h5
   simp [spec_GridFilled.l0,spec_GridFilled.j1,h1,h2,h3,c1,h4,h5]
theorem specGridFilled_ok {k:Nat} (hk:2000001 ≤ k) {H:Hp} {s:Sl} {l:List Int} (hr:Reads .i64 H s l) (hl:l.length ≤ 1048576) (m:Int) :
  callF PP orc k spec_GridFilled.id [.sl 1 s,.int .i64 m] H=some (.int .i64 (if gridOk l m=true then (filled l:Int) else -1),H):=by
 obtain ⟨k,rfl⟩:=Zs k (by omega)
 rw [spec_GridFilled.call]
 have h1:=hr.len
 have:=specGridFilled_l0 (callF PP orc k) k hr hl l.length 0 k 0 (by omega) (by omega) (by omega)
 simp at this
 by_cases c:gridOk l m=true
 ·simpa [spec_GridFilled.f,specGridValid_ok (show 2000000 ≤ k by omega) hr hl,AV.toB,c,h1,filled] using this
 ·simp [spec_GridFilled.f,specGridValid_ok (show 2000000 ≤ k by omega) hr hl,AV.toB,c]
theorem Index_l0 (rec:Rec) (k:Nat) {H:Hp} {s:Sl} {l:List Int} {v:Int} (hs:Reads .i64 H s l) (hl:l.length ≤ 1048576) :
  ∀ (j i fuel:Nat),i + j=l.length→j < fuel→∃ r,slices_Index_int.l0 rec k fuel s v l.length i H=some (.int .i64 r,H)∧decide (r ≥ 0)=(l.drop i).contains v:=by
 intro j
 induction j with
 | zero=>
  intro i fuel hi hf
  obtain ⟨fuel,rfl⟩:=Zs fuel (by omega)
  refine ⟨-1,?_,by rw [List.drop_eq_nil_of_le (by omega)]; rfl⟩
  have:¬ ((i:Int) < (l.length:Int)):=by omega
  simp only [slices_Index_int.l0,this,decide_false,Zf]
 | succ j ih=>
  intro i fuel hi hf
  obtain ⟨fuel,rfl⟩:=Zs fuel (by omega)
  have h2:i < l.length:=by omega
  have h3:=reads_at hs i h2
  have h4:=wrs (i:=i) (by omega)
  have q0:(0:Int) ≤ (i:Int):=by omega
  have q1:(i:Int) < (l.length:Int):=by omega
  have q2:(i:Int) < (s.len:Int):=by rw [hs.len]; omega
  rw [List.drop_eq_getElem_cons h2,List.contains_cons]
  cases c:(v == l[i]) with
  | true=>
   refine ⟨i,?_,by simp⟩
   simp only [slices_Index_int.l0,q0,q1,q2,decide_true,Za,Zt,Zn,Nat.mul_one,h3,Zo,c]
  | false=>
   obtain ⟨r,a1,a2⟩:=ih (i + 1) fuel (by omega) (by omega)
   push_cast at a1
   refine ⟨r,?_,by rw [a2,Bool.false_or]⟩
   simp only [slices_Index_int.l0,q0,q1,q2,decide_true,Za,Zt,Zf,Zn,Nat.mul_one,h3,Zo,c,h4,a1]
theorem Contains_ok {k:Nat} (hk:2000001 ≤ k) {H:Hp} {s:Sl} {l:List Int} (v:Int) (hs:Reads .i64 H s l) (hl:l.length ≤ 1048576) :
  callF PP orc k slices_Contains_int.id [.sl 1 s,.int .i64 v] H=some (.bool (l.contains v),H):=by
 obtain ⟨k,rfl⟩:=Zs k (by omega)
 rw [slices_Contains_int.call]
 obtain ⟨k,rfl⟩:=Zs k (by omega)
 obtain ⟨r,a1,a2⟩:=Index_l0 (callF PP orc k) k (v:=v) hs hl l.length 0 k (by omega) (by omega)
 have e:callF PP orc (k + 1) slices_Index_int.id [.sl 1 s,.int .i64 v] H=some (.int .i64 r,H):=by
  rw [slices_Index_int.call]
  simp only [slices_Index_int.f,hs.len]
  exact a1
 simp only [slices_Contains_int.f,e,Zo,AV.toI,if_true,a2,List.drop_zero]
def cellsOk (n:Int) (cells:List Int):Nat→Nat→Bool
 | _,0=>true
 | i,j + 1=>decide (0 ≤ cells.getD i 0∧cells.getD i 0 ≤ n * n - 1) && (!(cells.take i).contains (cells.getD i 0) && cellsOk n cells (i + 1) j)
def kindOk (n kind value:Int) (len:Nat):Bool:=
 if kind=1 then decide (2 ≤ len∧len ≤ 4∧value=0) else if kind=2 ∨ kind=3 then decide (1 ≤ len∧len ≤ 4∧1 ≤ value∧value ≤ n * n * n * n)
 else if kind=4 then decide (len=2∧value=0) else if kind=5 then decide (len=2∧0 ≤ value∧value < n) else false
def ruleOk (n kind:Int) (cells:List Int) (value:Int):Bool:=cellsOk n cells 0 cells.length && kindOk n kind value cells.length
theorem n4_wraps {n:Int} (hn:2 ≤ n∧n ≤ 4):IntKind.i64.wrap (n * n)=n * n∧IntKind.i64.wrap (n * n - 1)=n * n - 1∧IntKind.i64.wrap (n * n * n)=n * n * n∧IntKind.i64.wrap (n * n * n * n)=n * n * n * n:=by
 have:n=2 ∨ n=3 ∨ n=4:=by omega
 rcases this with rfl | rfl | rfl <;> exact ⟨wr (by decide) (by decide),wr (by decide) (by decide),wr (by decide) (by decide),wr (by decide) (by decide)⟩
theorem implRule_j2 (rec:Rec) (k:Nat) {n kind value:Int} {cs:Sl} {H:Hp} {len:Nat} (hn:2 ≤ n∧n ≤ 4) (hl:cs.len=len) :
  impl_RuleValid.j2 rec k n kind cs value H=some (.bool (kindOk n kind value len),H):=by
 obtain ⟨w1,_,w3,w4⟩:=n4_wraps hn
 subst hl
 unfold kindOk
 have b1:∀ x:Int,(kind == x)=decide (kind=x):=fun x=>by rw [Bool.eq_iff_iff]; simp
 have b2:(value == 0)=decide (value=0):=by rw [Bool.eq_iff_iff]; simp
 have b3:((cs.len:Int) == 2)=decide (cs.len=2):=by rw [Bool.eq_iff_iff]; simp; omega
 have b4:decide ((cs.len:Int) ≥ 2)=decide (2 ≤ cs.len):=decide_eq_decide.2 (by omega)
 have b5:decide ((cs.len:Int) ≥ 1)=decide (1 ≤ cs.len):=decide_eq_decide.2 (by omega)
 have b6:decide ((cs.len:Int) ≤ 4)=decide (cs.len ≤ 4):=decide_eq_decide.2 (by omega)
 simp only [impl_RuleValid.j2,impl_RuleValid.j4,w1,w3,w4,b1,b2,b3,b4,b5,b6]
 have two:∀ (p q:Prop) [Decidable p] [Decidable q],(bif decide p then some (AV.bool (decide q),H) else some (AV.bool false,H))=some (AV.bool (decide (p∧q)),H):=fun p q _ _=>by by_cases hp:p <;> simp [hp]
 by_cases k1:kind=1
 ·simp only [k1,decide_true,Zt,if_true,two]
 by_cases k2:kind=2
 ·simp only [k1,k2,decide_true,decide_false,Zt,Zf,if_true,if_false,two,true_or]
  simp
 by_cases k3:kind=3
 ·simp only [k1,k2,k3,decide_true,decide_false,Zt,Zf,if_true,if_false,two,or_true]
  simp
 by_cases k4:kind=4
 ·simp only [k1,k2,k3,k4,decide_true,decide_false,Zt,Zf,if_true,if_false,two]
  simp
 by_cases k5:kind=5
 ·simp only [k1,k2,k3,k4,k5,decide_true,decide_false,Zt,Zf,if_true,if_false,two]
  simp
 simp [k1,k2,k3,k4,k5]
theorem reads_pre {k:IntKind} {H:Hp} {s:Sl} {l:List Int} (h:Reads k H s l) (m:Nat) (hm:m ≤ l.length) (b:Bool):Reads k H (Sl.mk b s.blk s.off m) (l.take m):=
 ⟨by simp; omega,fun i hi=>by
  have hi':i < l.length:=by simp at hi; omega
  simpa using h.cell i hi'⟩
theorem implRule_l0 {k:Nat} (hk:2000001 ≤ k) {n kind value:Int} {cs:Sl} {H:Hp} {cells:List Int} (hn:2 ≤ n∧n ≤ 4) (hs:Reads .i64 H cs cells) (hl:cells.length ≤ 1000) :
  ∀ (j i fuel:Nat),i + j=cells.length→j < fuel→impl_RuleValid.l0 (callF PP orc k) k fuel n cs cells.length i kind cs value H=some (.bool (cellsOk n cells i j && kindOk n kind value cells.length),H):=by
 obtain ⟨w1,w2,_,_⟩:=n4_wraps hn
 intro j
 induction j with
 | zero=>
  intro i fuel hi hf
  obtain ⟨fuel,rfl⟩:=Zs fuel (by omega)
  have:¬ ((i:Int) < (cells.length:Int)):=by omega
  simp only [impl_RuleValid.l0,this,decide_false,Zf,cellsOk,Bool.true_and]
  exact implRule_j2 _ k hn hs.len
 | succ j ih=>
  intro i fuel hi hf
  obtain ⟨fuel,rfl⟩:=Zs fuel (by omega)
  have h2:i < cells.length:=by omega
  have h3:=reads_at hs i h2
  have h4:=wrs (i:=i) (by omega)
  have h5:=ih (i + 1) fuel (by omega) (by omega)
  push_cast at h5
  have q0:(0:Int) ≤ (i:Int):=by omega
  have q1:(i:Int) < (cells.length:Int):=by omega
  have q2:(i:Int) < (cs.len:Int):=by rw [hs.len]; omega
  have hg:cells.getD i 0=cells[i]:=by simp [List.getD_eq_getElem?_getD,h2]
  have hc:=Contains_ok hk cells[i] (reads_pre hs i (by omega) cs.nil) (by simp; omega)
  have e:Sl.mk cs.nil cs.blk (cs.off + (0:Int).toNat * 1) ((i:Int) - 0).toNat=Sl.mk cs.nil cs.blk cs.off i:=by simp
  rw [cellsOk,hg]
  by_cases c1:cells[i] < 0
  ·have d:decide (0 ≤ cells[i]∧cells[i] ≤ n * n - 1)=false:=decide_eq_false (by omega)
   simp only [impl_RuleValid.l0,impl_RuleValid.j1,q0,q1,q2,decide_true,Za,Zt,Zn,Nat.mul_one,h3,Zo,c1,d,Bool.false_and]
  ·by_cases c2:cells[i] ≥ n * n
   ·have d:decide (0 ≤ cells[i]∧cells[i] ≤ n * n - 1)=false:=decide_eq_false (by omega)
    simp only [impl_RuleValid.l0,impl_RuleValid.j1,q0,q1,q2,decide_true,decide_false,Za,Zt,Zf,Zn,Nat.mul_one,h3,Zo,c1,w1,c2,d,Bool.false_and]
   ·have d:decide (0 ≤ cells[i]∧cells[i] ≤ n * n - 1)=true:=decide_eq_true (by omega)
    have hcond:(0 ≤ (0:Int)∧(0:Int) ≤ (i:Int)∧(i:Int) ≤ cs.len∧(i:Int)=(i:Int))∧0 < 1∧true=true:=⟨⟨by omega,by omega,by omega,rfl⟩,by omega,rfl⟩
    cases hb:(cells.take i).contains cells[i] with
    | true=>
     rw [hb] at hc
     simp only [impl_RuleValid.l0,impl_RuleValid.j1,q0,q1,q2,decide_true,decide_false,Za,Zt,Zf,Zn,Nat.mul_one,h3,Zo,c1,w1,c2,d]
     rw [if_pos (by simp; omega)]
     have hc':callF PP orc k slices_Contains_int.id [.sl 1 (Sl.mk cs.nil cs.blk (cs.off + (0:Int).toNat) ((i:Int) - 0).toNat),.int .i64 cells[i]] H=some (.bool true,H):=by simpa using hc
     simp only [hc',Zo,AV.toB,Zt,Zy,Bool.false_and,Bool.true_and]
    | false=>
     rw [hb] at hc
     simp only [impl_RuleValid.l0,impl_RuleValid.j1,impl_RuleValid.j3,q0,q1,q2,decide_true,decide_false,Za,Zt,Zf,Zn,Nat.mul_one,h3,Zo,c1,w1,c2,d]
     rw [if_pos (by simp; omega)]
     have hc':callF PP orc k slices_Contains_int.id [.sl 1 (Sl.mk cs.nil cs.blk (cs.off + (0:Int).toNat) ((i:Int) - 0).toNat),.int .i64 cells[i]] H=some (.bool false,H):=by simpa using hc
     simp only [hc',Zo,AV.toB,Zf,Zx,Bool.true_and,h4,h5]
theorem implRuleValid_ok {k:Nat} (hk:2000002 ≤ k) {n kind value:Int} {cs:Sl} {H:Hp} {cells:List Int} (hn:2 ≤ n∧n ≤ 4) (hs:Reads .i64 H cs cells) (hl:cells.length ≤ 1000) :
  callF PP orc k impl_RuleValid.id [.agg [.int .i64 kind,.sl 1 cs,.int .i64 value],.int .i64 n] H=some (.bool (ruleOk n kind cells value),H):=by
 obtain ⟨k,rfl⟩:=Zs k (by omega)
 rw [impl_RuleValid.call]
 have:=implRule_l0 (show 2000001 ≤ k by omega) (kind:=kind) (value:=value) hn hs hl cells.length 0 k (by omega) (by omega)
 simp only [impl_RuleValid.f,sizeOk_ok (show 1 ≤ k by omega),hn,and_self,decide_true,Zo,AV.toB,Zy,Zf,hs.len]
 exact this
theorem specRule_l1 (rec:Rec) (k:Nat) (L0:Int→Int→Int→Sl→Int→Hp→An) {n kind value:Int} {cs:Sl} {H:Hp} {cells:List Int} (hs:Reads .i64 H cs cells) (hl:cells.length ≤ 1000) {i:Nat} (hi:i < cells.length) :
  ∀ (j m fuel:Nat),m + j=i→j < fuel→spec_RuleValid.l1 rec k L0 fuel n i m kind cs value H=bif ((cells.take i).drop m).contains cells[i] then some (.bool false,H) else L0 n ((i:Int) + 1) kind cs value H:=by
 intro j
 induction j with
 | zero=>
  intro m fuel hm hf
  obtain ⟨fuel,rfl⟩:=Zs fuel (by omega)
  have:¬ ((m:Int) < (i:Int)):=by omega
  have h4:=wrs (i:=i) (by omega)
  rw [List.drop_eq_nil_of_le (by simp; omega)]
  simp only [spec_RuleValid.l1,spec_RuleValid.j3,this,decide_false,Zf,h4,List.contains_nil]
 | succ j ih=>
  intro m fuel hm hf
  obtain ⟨fuel,rfl⟩:=Zs fuel (by omega)
  have h2:m < cells.length:=by omega
  have h3:=reads_at hs m h2
  have h3':=reads_at hs i hi
  have h4:=wrs (i:=m) (by omega)
  have h5:=ih (m + 1) fuel (by omega) (by omega)
  push_cast at h5
  have q0:(0:Int) ≤ (m:Int):=by omega
  have q1:(m:Int) < (i:Int):=by omega
  have q2:(m:Int) < (cs.len:Int):=by rw [hs.len]; omega
  have q3:(0:Int) ≤ (i:Int):=by omega
  have q4:(i:Int) < (cs.len:Int):=by rw [hs.len]; omega
  have ht:m < (cells.take i).length:=by simp; omega
  rw [List.drop_eq_getElem_cons ht,List.contains_cons]
  have e:(cells.take i)[m]=cells[m]:=by simp
  rw [e]
  have hb:(cells[i] == cells[m])=(cells[m] == cells[i]):=by rw [Bool.eq_iff_iff,beq_iff_eq,beq_iff_eq]; exact eq_comm
  rw [hb]
  cases c:(cells[m] == cells[i]) with
  | true=>simp only [spec_RuleValid.l1,q0,q1,q2,q3,q4,decide_true,Za,Zt,Zn,Nat.mul_one,h3,h3',Zo,c,Bool.true_or]
  | false=>simp only [spec_RuleValid.l1,q0,q1,q2,q3,q4,decide_true,Za,Zt,Zf,Zn,Nat.mul_one,h3,h3',Zo,c,Bool.false_or,h4,h5]
theorem specRule_j2 {k:Nat} (hk:1 ≤ k) {n kind value:Int} {cs:Sl} {H:Hp} {len:Nat} (hn:2 ≤ n∧n ≤ 4) (hl:cs.len=len) :
  spec_RuleValid.j2 (callF PP orc k) k n kind cs value H=some (.bool (kindOk n kind value len),H):=by
 obtain ⟨w1,_,w3,w4⟩:=n4_wraps hn
 have w5:IntKind.i64.wrap (n - 1)=n - 1:=wr (by omega) (by omega)
 subst hl
 unfold kindOk
 have b1:∀ x:Int,(kind == x)=decide (kind=x):=fun x=>by rw [Bool.eq_iff_iff]; simp
 have b2:(value == 0)=decide (value=0):=by rw [Bool.eq_iff_iff]; simp
 have b3:((cs.len:Int) == 2)=decide (cs.len=2):=by rw [Bool.eq_iff_iff]; simp; omega
 have b4:decide ((cs.len:Int) ≥ 2)=decide (2 ≤ cs.len):=decide_eq_decide.2 (by omega)
 have b5:decide ((cs.len:Int) ≥ 1)=decide (1 ≤ cs.len):=decide_eq_decide.2 (by omega)
 have b6:decide ((cs.len:Int) > 4)=decide (4 < cs.len):=decide_eq_decide.2 (by omega)
 simp only [spec_RuleValid.j2,spec_RuleValid.j4,spec_RuleValid.j5,spec_RuleValid.j6,l1In_ok hk,hn,and_self,decide_true,Zo,AV.toB,Zy,Zf,w1,w3,w4,w5,b1,b2,b3,b4,b5,b6]
 have two:∀ (p q:Prop) [Decidable p] [Decidable q],(bif decide p then some (AV.bool (decide q),H) else some (AV.bool false,H))=some (AV.bool (decide (p∧q)),H):=fun p q _ _=>by by_cases hp:p <;> simp [hp]
 by_cases c4:4 < cs.len
 ·have z:∀ q:Prop,(cs.len ≤ 4∧q)=False:=fun q=>by simp; omega
  have z2:∀ q:Prop,(cs.len=2∧q)=False:=fun q=>by simp; omega
  simp only [c4,decide_true,Zt]
  have e1:¬ (2 ≤ cs.len∧cs.len ≤ 4∧value=0):=by omega
  have e2:¬ (1 ≤ cs.len∧cs.len ≤ 4∧1 ≤ value∧value ≤ n * n * n * n):=by omega
  have e3:¬ (cs.len=2∧value=0):=by omega
  have e4:¬ (cs.len=2∧0 ≤ value∧value < n):=by omega
  simp only [e1,e2,e3,e4,decide_false]
  repeat' split
  all_goals rfl
 ·have f1:decide (2 ≤ cs.len∧cs.len ≤ 4∧value=0)=decide (2 ≤ cs.len∧value=0):=decide_eq_decide.2 (by omega)
  have f2:decide (1 ≤ cs.len∧cs.len ≤ 4∧1 ≤ value∧value ≤ n * n * n * n)=decide (1 ≤ cs.len∧1 ≤ value∧value ≤ n * n * n * n):=decide_eq_decide.2 (by omega)
  have f3:decide (cs.len=2∧0 ≤ value∧value < n)=decide (cs.len=2∧0 ≤ value∧value ≤ n - 1):=decide_eq_decide.2 (by omega)
  simp only [c4,decide_false,Zf,f1,f2,f3,two]
  by_cases k1:kind=1
  ·simp only [k1,decide_true,Zt,if_true]
  by_cases k2:kind=2
  ·subst k2; simp
  by_cases k3:kind=3
  ·subst k3; simp
  by_cases k4:kind=4
  ·subst k4; simp
  by_cases k5:kind=5
  ·subst k5; simp
  simp [k1,k2,k3,k4,k5]
theorem specRule_l0 {k:Nat} (hk:2000001 ≤ k) {n kind value:Int} {cs:Sl} {H:Hp} {cells:List Int} (hn:2 ≤ n∧n ≤ 4) (hs:Reads .i64 H cs cells) (hl:cells.length ≤ 1000) :
  ∀ (j i fuel:Nat),i + j=cells.length→j < fuel→spec_RuleValid.l0 (callF PP orc k) k fuel n i kind cs value H=some (.bool (cellsOk n cells i j && kindOk n kind value cells.length),H):=by
 obtain ⟨w1,w2,_,_⟩:=n4_wraps hn
 intro j
 induction j with
 | zero=>
  intro i fuel hi hf
  obtain ⟨fuel,rfl⟩:=Zs fuel (by omega)
  have:¬ ((i:Int) < (cs.len:Int)):=by rw [hs.len]; omega
  simp only [spec_RuleValid.l0,this,decide_false,Zf,cellsOk,Bool.true_and]
  exact specRule_j2 (by omega) hn hs.len
 | succ j ih=>
  intro i fuel hi hf
  obtain ⟨fuel,rfl⟩:=Zs fuel (by omega)
  have h2:i < cells.length:=by omega
  have h3:=reads_at hs i h2
  have h5:=ih (i + 1) fuel (by omega) (by omega)
  push_cast at h5
  have q0:(0:Int) ≤ (i:Int):=by omega
  have q2:(i:Int) < (cs.len:Int):=by rw [hs.len]; omega
  have hg:cells.getD i 0=cells[i]:=by simp [List.getD_eq_getElem?_getD,h2]
  have h6:=specRule_l1 (callF PP orc k) k (spec_RuleValid.l0 (callF PP orc k) k fuel) (n:=n) (kind:=kind) (value:=value) hs hl h2 i 0 k (by omega) (by omega)
  simp only [List.drop_zero,Int.natCast_zero] at h6
  rw [cellsOk,hg]
  by_cases c1:0 ≤ cells[i]∧cells[i] ≤ n * n - 1
  ·cases hb:(cells.take i).contains cells[i] with
   | true=>
    rw [hb] at h6
    simp only [spec_RuleValid.l0,q0,q2,decide_true,Za,Zt,Zf,Zn,Nat.mul_one,h3,Zo,w1,w2,l1In_ok (show 1 ≤ k by omega),AV.toB,c1,and_self,Zy,h6,Bool.true_and,Bool.false_and]
   | false=>
    rw [hb] at h6
    simp only [spec_RuleValid.l0,q0,q2,decide_true,Za,Zt,Zf,Zn,Nat.mul_one,h3,Zo,w1,w2,l1In_ok (show 1 ≤ k by omega),AV.toB,c1,and_self,Zy,Zx,h6,h5,Bool.true_and]
  ·simp only [spec_RuleValid.l0,q0,q2,decide_true,decide_false,Za,Zt,Zn,Nat.mul_one,h3,Zo,w1,w2,l1In_ok (show 1 ≤ k by omega),AV.toB,c1,Zx,Bool.false_and]
theorem specRuleValid_ok {k:Nat} (hk:2000002 ≤ k) {n kind value:Int} {cs:Sl} {H:Hp} {cells:List Int} (hn:2 ≤ n∧n ≤ 4) (hs:Reads .i64 H cs cells) (hl:cells.length ≤ 1000) :
  callF PP orc k spec_RuleValid.id [.agg [.int .i64 kind,.sl 1 cs,.int .i64 value],.int .i64 n] H=some (.bool (ruleOk n kind cells value),H):=by
 obtain ⟨k,rfl⟩:=Zs k (by omega)
 rw [spec_RuleValid.call]
 exact specRule_l0 (show 2000001 ≤ k by omega) hn hs hl cells.length 0 k (by omega) (by omega)
structure R where
 kind:Int
 sl:Sl
 cells:List Int
 value:Int
def R.val (r:R):Int × List Int × Int:=(r.kind,r.cells,r.value)
def R.av (r:R):List AV:=[.int .i64 r.kind,.sl 1 r.sl,.int .i64 r.value]
structure ReadsR (H:Hp) (s:Sl) (rs:List R):Prop where
 len:s.len=rs.length
 c0:∀ i,(h:i < rs.length)→H.cell s.blk (s.off + i * 3)=some (.int .i64 rs[i].kind)
 c1:∀ i,(h:i < rs.length)→H.cell s.blk (s.off + i * 3 + 1)=some (.sl 1 rs[i].sl)
 c2:∀ i,(h:i < rs.length)→H.cell s.blk (s.off + i * 3 + 2)=some (.int .i64 rs[i].value)
 cs:∀ i,(h:i < rs.length)→Reads .i64 H rs[i].sl rs[i].cells
theorem pf_readsR {H H':Hp} (g:H <+: H') {s:Sl} {rs:List R} (h:ReadsR H s rs):ReadsR H' s rs:=
 ⟨h.len,fun i hi=>pf_cell g (h.c0 i hi),fun i hi=>pf_cell g (h.c1 i hi),fun i hi=>pf_cell g (h.c2 i hi),fun i hi=>pf_reads g (h.cs i hi)⟩
theorem flat0:∀ (rs:List R) (i:Nat),(h:i < rs.length)→(rs.flatMap R.av)[i * 3]?=some (.int .i64 rs[i].kind)∧(rs.flatMap R.av)[i * 3 + 1]?=some (.sl 1 rs[i].sl)∧(rs.flatMap R.av)[i * 3 + 2]?=some (.int .i64 rs[i].value)
 | r :: rs,0,h=>by simp [R.av]
 | r :: rs,i + 1,h=>by
  have:=flat0 rs i (by simpa using h)
  have e:(i + 1) * 3=i * 3 + 3:=by omega
  rw [e]
  simpa [R.av] using this
theorem flat_length (rs:List R):(rs.flatMap R.av).length=rs.length * 3:=by
 induction rs with
 | nil=>rfl
 | cons r rs ih=>simp [ih,R.av]; omega
def R.ok (n:Int) (r:R):Bool:=ruleOk n r.kind r.cells r.value
def puzzleOk (n:Int) (g:List Int) (rs:List R):Bool:=gridOk g n && (decide (rs.length ≤ 20) && rs.all (R.ok n))
theorem rules_at {H:Hp} {s:Sl} {rs:List R} (h:ReadsR H s rs) (i:Nat) (hi:i < rs.length) :
  ldI .i64 H s.blk (s.off + i * 3)=some rs[i].kind∧ldS 1 H s.blk (s.off + i * 3 + 1)=some rs[i].sl∧ldI .i64 H s.blk (s.off + i * 3 + 1 + 1)=some rs[i].value:=by
 refine ⟨?_,?_,?_⟩
 ·unfold ldI; rw [h.c0 i hi]; simp [AV.toI]
 ·unfold ldS; rw [h.c1 i hi]; simp [AV.toS]
 ·unfold ldI; rw [show s.off + i * 3 + 1 + 1=s.off + i * 3 + 2 from rfl,h.c2 i hi]; simp [AV.toI]
theorem implPuzzle_l2 {k:Nat} (hk:2000002 ≤ k) {n:Int} {H:Hp} {gs s:Sl} {rs:List R} (hn:2 ≤ n∧n ≤ 4) (hs:ReadsR H s rs) (hl:rs.length ≤ 1000) (hc:∀ r ∈ rs,r.cells.length ≤ 1000) :
  ∀ (j i fuel:Nat),i + j=rs.length→j < fuel→impl_PuzzleValid.l2 (callF PP orc k) k fuel s rs.length i n gs s H=some (.bool ((rs.drop i).all (R.ok n)),H):=by
 intro j
 induction j with
 | zero=>
  intro i fuel hi hf
  obtain ⟨fuel,rfl⟩:=Zs fuel (by omega)
  have:¬ ((i:Int) < (rs.length:Int)):=by omega
  rw [List.drop_eq_nil_of_le (by omega)]
  simp only [impl_PuzzleValid.l2,this,decide_false,Zf,List.all_nil]
 | succ j ih=>
  intro i fuel hi hf
  obtain ⟨fuel,rfl⟩:=Zs fuel (by omega)
  have h2:i < rs.length:=by omega
  obtain ⟨l0,l1,l2⟩:=rules_at hs i h2
  have h4:=wrs (i:=i) (by omega)
  have h5:=ih (i + 1) fuel (by omega) (by omega)
  push_cast at h5
  have h6:=implRuleValid_ok hk (kind:=rs[i].kind) (value:=rs[i].value) hn (hs.cs i h2) (hc _ (List.getElem_mem h2))
  have q0:(0:Int) ≤ (i:Int):=by omega
  have q1:(i:Int) < (rs.length:Int):=by omega
  have q2:(i:Int) < (s.len:Int):=by rw [hs.len]; omega
  rw [List.drop_eq_getElem_cons h2,List.all_cons]
  have e:R.ok n rs[i]=ruleOk n rs[i].kind rs[i].cells rs[i].value:=rfl
  rw [e]
  cases c:ruleOk n rs[i].kind rs[i].cells rs[i].value with
  | true=>
   rw [c] at h6
   simp only [impl_PuzzleValid.l2,q0,q1,q2,decide_true,Za,Zt,Zn,l0,l1,l2,Zo,h6,AV.toB,Zy,Zf,h4,h5,Bool.true_and]
  | false=>
   rw [c] at h6
   simp only [impl_PuzzleValid.l2,q0,q1,q2,decide_true,Za,Zt,Zn,l0,l1,l2,Zo,h6,AV.toB,Zx,Bool.false_and]
theorem implPuzzleValid_ok {k:Nat} (hk:2000003 ≤ k) {n:Int} {H:Hp} {gs s:Sl} {g:List Int} {rs:List R} (hn:2 ≤ n∧n ≤ 4) (hg:Reads .i64 H gs g) (hgl:g.length ≤ 1000) (hs:ReadsR H s rs) (hl:rs.length ≤ 1000) (hc:∀ r ∈ rs,r.cells.length ≤ 1000) :
  callF PP orc k impl_PuzzleValid.id [.agg [.int .i64 n,.sl 1 gs,.sl 3 s]] H=some (.bool (puzzleOk n g rs),H):=by
 obtain ⟨k,rfl⟩:=Zs k (by omega)
 rw [impl_PuzzleValid.call]
 have h1:=implGridValid_ok (show 2000000 ≤ k by omega) hg (by omega) n
 have h2:=implPuzzle_l2 (show 2000002 ≤ k by omega) (gs:=gs) hn hs hl hc rs.length 0 k (by omega) (by omega)
 simp only [List.drop_zero,Int.natCast_zero] at h2
 unfold puzzleOk
 cases c:gridOk g n with
 | false=>simp only [impl_PuzzleValid.f,impl_PuzzleValid.j0,h1,c,Zo,AV.toB,Zx,Zt,Bool.false_and]
 | true=>
  by_cases c2:rs.length ≤ 20
  ·have:¬ ((rs.length:Int) > 20):=by omega
   simp only [impl_PuzzleValid.f,impl_PuzzleValid.j0,impl_PuzzleValid.j1,h1,c,Zo,AV.toB,Zy,Zf,hs.len,this,decide_false,c2,decide_true,Bool.true_and]
   exact h2
  ·have:((rs.length:Int) > 20):=by omega
   simp only [impl_PuzzleValid.f,impl_PuzzleValid.j0,h1,c,Zo,AV.toB,Zy,Zf,Zt,hs.len,this,decide_true,c2,decide_false,Bool.true_and,Bool.false_and]
theorem specPuzzle_l0 {k:Nat} (hk:2000002 ≤ k) {n:Int} {H:Hp} {gs s:Sl} {g:List Int} {rs:List R} (hn:2 ≤ n∧n ≤ 4) (hg:Reads .i64 H gs g) (hgl:g.length ≤ 1000) (hs:ReadsR H s rs) (hl:rs.length ≤ 1000) (hc:∀ r ∈ rs,r.cells.length ≤ 1000) :
  ∀ (j i fuel:Nat),i + j=rs.length→j < fuel→spec_PuzzleValid.l0 (callF PP orc k) k fuel i n gs s H=some (.bool ((rs.drop i).all (R.ok n) && (gridOk g n && decide (rs.length ≤ 20))),H):=by
 intro j
 induction j with
 | zero=>
  intro i fuel hi hf
  obtain ⟨fuel,rfl⟩:=Zs fuel (by omega)
  have:¬ ((i:Int) < (rs.length:Int)):=by omega
  have h1:=specGridValid_ok (show 2000000 ≤ k by omega) hg (by omega) n
  have e:decide ((rs.length:Int) ≤ 20)=decide (rs.length ≤ 20):=decide_eq_decide.2 (by omega)
  rw [List.drop_eq_nil_of_le (by omega)]
  simp only [spec_PuzzleValid.l0,spec_PuzzleValid.j1,hs.len,this,decide_false,Zf,List.all_nil,h1,Zo,AV.toB,e,Bool.true_and]
  cases gridOk g n <;> rfl
 | succ j ih=>
  intro i fuel hi hf
  obtain ⟨fuel,rfl⟩:=Zs fuel (by omega)
  have h2:i < rs.length:=by omega
  obtain ⟨l0,l1,l2⟩:=rules_at hs i h2
  have h4:=wrs (i:=i) (by omega)
  have h5:=ih (i + 1) fuel (by omega) (by omega)
  push_cast at h5
  have h6:=specRuleValid_ok hk (kind:=rs[i].kind) (value:=rs[i].value) hn (hs.cs i h2) (hc _ (List.getElem_mem h2))
  have q0:(0:Int) ≤ (i:Int):=by omega
  have q2:(i:Int) < (s.len:Int):=by rw [hs.len]; omega
  rw [List.drop_eq_getElem_cons h2,List.all_cons]
  have e:R.ok n rs[i]=ruleOk n rs[i].kind rs[i].cells rs[i].value:=rfl
  rw [e]
  cases c:ruleOk n rs[i].kind rs[i].cells rs[i].value with
  | true=>
   rw [c] at h6
   simp only [spec_PuzzleValid.l0,q0,q2,decide_true,Za,Zt,Zn,l0,l1,l2,Zo,h6,AV.toB,Zy,Zf,h4,h5,Bool.true_and]
  | false=>
   rw [c] at h6
   simp only [spec_PuzzleValid.l0,q0,q2,decide_true,Za,Zt,Zn,l0,l1,l2,Zo,h6,AV.toB,Zx,Bool.false_and]
theorem specPuzzleValid_ok {k:Nat} (hk:2000003 ≤ k) {n:Int} {H:Hp} {gs s:Sl} {g:List Int} {rs:List R} (hn:2 ≤ n∧n ≤ 4) (hg:Reads .i64 H gs g) (hgl:g.length ≤ 1000) (hs:ReadsR H s rs) (hl:rs.length ≤ 1000) (hc:∀ r ∈ rs,r.cells.length ≤ 1000) :
  callF PP orc k spec_PuzzleValid.id [.agg [.int .i64 n,.sl 1 gs,.sl 3 s]] H=some (.bool (puzzleOk n g rs),H):=by
 obtain ⟨k,rfl⟩:=Zs k (by omega)
 rw [spec_PuzzleValid.call]
 have h2:=specPuzzle_l0 (show 2000002 ≤ k by omega) hn hg hgl hs hl hc rs.length 0 k (by omega) (by omega)
 have e:puzzleOk n g rs=(rs.all (R.ok n) && (gridOk g n && decide (rs.length ≤ 20))):=by
  unfold puzzleOk
  cases gridOk g n <;> cases rs.all (R.ok n) <;> cases decide (rs.length ≤ 20) <;> rfl
 rw [e]
 exact h2
def mbit (m:Int) (v:Nat):Bool:=(((m:Int).fdiv (2 ^ (min v IntKind.i64.bits)):Int).tmod 2) == 1
def mvFrom (m:Int):Nat→Nat→List Int
 | _,0=>[]
 | v,j + 1=>(if mbit m v=true then [(v:Int)] else []) ++ mvFrom m (v + 1) j
def maskVals (m:Int):List Int:=if (0 ≤ m∧m ≤ 30)∧m.tmod 2=0 then mvFrom m 1 4 else []
theorem mvFrom_mem (m:Int):∀ (j v:Nat),∀ x ∈ mvFrom m v j,(v:Int) ≤ x∧x < (v:Int) + j
 | 0,v,x,h=>by simp [mvFrom] at h
 | j + 1,v,x,h=>by
  rw [mvFrom] at h
  rcases List.mem_append.1 h with h | h
  ·split at h
   ·simp at h; omega
   ·simp at h
  ·have:=mvFrom_mem m j (v + 1) x h; omega
theorem maskVals_mem {m x:Int} (h:x ∈ maskVals m):1 ≤ x∧x ≤ 4:=by
 unfold maskVals at h
 split at h
 ·have:=mvFrom_mem m 4 1 x h; omega
 ·simp at h
theorem MaskValues_l0 {k:Nat} (hk:1 ≤ k) {H0:Hp} {m:Int} (hm:(0 ≤ m∧m ≤ 30)∧m.tmod 2=0) :
  ∀ (j v fuel:Nat) (H:Hp) (t:Sl) (a:List Int),v + j=5→j < fuel→H0 <+: H→a.length ≤ 10 - j→j ≤ 5→Own 1 H0 H t (a.map (.int .i64)) →
   ∃ t' H',spec_MaskValues.l0 (callF PP orc k) k fuel m t v H=some (.sl 1 t',H')∧H0 <+: H'∧Own 1 H0 H' t' ((a ++ mvFrom m v j).map (.int .i64)):=by
 intro j
 induction j with
 | zero=>
  intro v fuel H t a hv hf hp ha hj ho
  obtain ⟨fuel,rfl⟩:=Zs fuel (by omega)
  have:¬ ((v:Int) ≤ 4):=by omega
  refine ⟨t,H,?_,hp,by simpa [mvFrom] using ho⟩
  simp only [spec_MaskValues.l0,spec_MaskValues.j1,spec_MaskValues.j3,this,decide_false,Zf]
 | succ j ih=>
  intro v fuel H t a hv hf hp ha hj ho
  obtain ⟨fuel,rfl⟩:=Zs fuel (by omega)
  have q1:(v:Int) ≤ 4:=by omega
  have h4:=wrs (i:=v) (by omega)
  have hlen:t.len=a.length:=by have:=ho.len; simpa using this
  have hz:¬ ((v:Int) < 0):=by omega
  have he:(m.tmod 2 == 0)=true:=by simpa using hm.2
  rw [mvFrom]
  cases hb:mbit m v with
  | true=>
   have hb':(((m:Int).fdiv (2 ^ (min v IntKind.i64.bits)):Int).tmod 2 == 1)=true:=hb
   obtain ⟨H1,a1,a2,a3,_⟩:=own_app1 ho hp (v:Int) (by omega)
   obtain ⟨t',H',b1,b2,b3⟩:=ih (v + 1) fuel H1 _ (a ++ [(v:Int)]) (by omega) (by omega) a2 (by simp; omega) (by omega) a3
   push_cast at b1
   refine ⟨t',H',?_,b2,by simpa using b3⟩
   simp only [spec_MaskValues.l0,spec_MaskValues.j1,spec_MaskValues.j2,spec_MaskValues.j4,q1,decide_true,Zt,l1In_ok hk,hm.1,and_self,Zo,AV.toB,he,hz,if_false,Zn,hb',a1,h4,b1]
  | false=>
   have hb':(((m:Int).fdiv (2 ^ (min v IntKind.i64.bits)):Int).tmod 2 == 1)=false:=hb
   obtain ⟨t',H',b1,b2,b3⟩:=ih (v + 1) fuel H t a (by omega) (by omega) hp (by omega) (by omega) ho
   push_cast at b1
   refine ⟨t',H',?_,b2,by simpa using b3⟩
   simp only [spec_MaskValues.l0,spec_MaskValues.j1,spec_MaskValues.j2,spec_MaskValues.j4,q1,decide_true,Zt,Zf,l1In_ok hk,hm.1,and_self,Zo,AV.toB,he,hz,if_false,Zn,hb',h4,b1]
theorem MaskValues_ok {k:Nat} (hk:2000000 ≤ k) (m:Int) (H:Hp) :
  ∃ t H',callF PP orc k spec_MaskValues.id [.int .i64 m] H=some (.sl 1 t,H')∧H <+: H'∧Own 1 H H' t ((maskVals m).map (.int .i64)):=by
 obtain ⟨k,rfl⟩:=Zs k (by omega)
 rw [spec_MaskValues.call]
 have hl1:=fun n a b H=>l1In_ok (show 1 ≤ k by omega) n a b H
 by_cases c:(0 ≤ m∧m ≤ 30)∧m.tmod 2=0
 ·obtain ⟨t,H',a1,a2,a3⟩:=MaskValues_l0 (k:=k) (by omega) c 4 1 k (H ++ [some (Blk.mk false [])]) (Sl.mk false H.length 0 0) [] (by omega) (by omega) (List.prefix_append _ _) (by simp) (by omega) (own_new 1 H [] 0 rfl)
  refine ⟨t,H',a1,a2,?_⟩
  unfold maskVals
  rw [if_pos c]
  simpa using a3
 ·refine ⟨Sl.mk false H.length 0 0,H ++ [some (Blk.mk false [])],?_,List.prefix_append _ _,by unfold maskVals; rw [if_neg c]; exact own_new 1 H [] 0 rfl⟩
  ·obtain ⟨q,hq⟩:∃ q,k=q + 1:=⟨k - 1,by omega⟩
   show spec_MaskValues.l0 (callF PP orc k) k k m (Sl.mk false H.length 0 0) 1 (H ++ [some (Blk.mk false [])])=_
   generalize callF PP orc k=rc at *
   rw [hq]
   have q1:(1:Int) ≤ 4:=by decide
   by_cases c1:0 ≤ m∧m ≤ 30
   ·have he:(m.tmod 2 == 0)=false:=by
     cases d:(m.tmod 2 == 0) with
     | false=>rfl
     | true=>exact absurd ⟨c1,by simpa using d⟩ c
    simp only [spec_MaskValues.l0,spec_MaskValues.j1,spec_MaskValues.j3,q1,decide_true,Zt,Zf,hl1,c1,and_self,Zo,AV.toB,he]
   ·simp only [spec_MaskValues.l0,spec_MaskValues.j1,spec_MaskValues.j3,q1,decide_true,decide_false,Zt,Zf,hl1,c1,Zo,AV.toB]
def topMask (n:Int):Int:=if n=2 then 6 else if n=3 then 14 else 30
def maskOk (n m:Int):Bool:=decide (0 ≤ m∧m ≤ topMask n) && (m.tmod 2 == 0)
theorem topMask_ok:∀ n:Int,2 ≤ n∧n ≤ 4→¬ (IntKind.i64.wrap ((IntKind.i64.wrap (((BitVec.ofInt IntKind.i64.bits n &&& BitVec.ofInt IntKind.i64.bits 7).toNat:Int))) + 1) < 0) ∧
  IntKind.i64.wrap ((IntKind.i64.wrap (1 * 2 ^ (min (IntKind.i64.wrap ((IntKind.i64.wrap (((BitVec.ofInt IntKind.i64.bits n &&& BitVec.ofInt IntKind.i64.bits 7).toNat:Int))) + 1):Int).toNat IntKind.i64.bits))) - 2)=topMask n:=by
 intro n hn
 have:n=2 ∨ n=3 ∨ n=4:=by omega
 rcases this with rfl | rfl | rfl <;> exact ⟨by decide +kernel,by decide +kernel⟩
theorem MasksValid_l0 {k:Nat} (hk:1 ≤ k) {n:Int} (hn:2 ≤ n∧n ≤ 4) {H:Hp} {s:Sl} {l:List Int} (hs:Reads .i64 H s l) (hl:l.length ≤ 1000) :
  ∀ (j i fuel:Nat),i + j=l.length→j < fuel→spec_MasksValid.l0 (callF PP orc k) k fuel s n i H=some (.bool ((l.drop i).all (maskOk n) && decide ((l.length:Int)=n * n)),H):=by
 obtain ⟨t1,t2⟩:=topMask_ok n hn
 have hw:IntKind.i64.wrap (n * n)=n * n:=by
  have:n=2 ∨ n=3 ∨ n=4:=by omega
  rcases this with rfl | rfl | rfl <;> exact wr (by decide) (by decide)
 intro j
 induction j with
 | zero=>
  intro i fuel hi hf
  obtain ⟨fuel,rfl⟩:=Zs fuel (by omega)
  have:¬ ((i:Int) < (l.length:Int)):=by omega
  have e:((l.length:Int) == n * n)=decide ((l.length:Int)=n * n):=by rw [Bool.eq_iff_iff]; simp
  rw [List.drop_eq_nil_of_le (by omega)]
  simp only [spec_MasksValid.l0,spec_MasksValid.j2,this,decide_false,Zf,List.all_nil,l1In_ok hk,hn,and_self,decide_true,Zo,AV.toB,Zt,hs.len,hw,e,Bool.true_and]
 | succ j ih=>
  intro i fuel hi hf
  obtain ⟨fuel,rfl⟩:=Zs fuel (by omega)
  have h2:i < l.length:=by omega
  have h3:=reads_at hs i h2
  have h4:=wrs (i:=i) (by omega)
  have h5:=ih (i + 1) fuel (by omega) (by omega)
  push_cast at h5
  have q0:(0:Int) ≤ (i:Int):=by omega
  have q2:(i:Int) < (s.len:Int):=by rw [hs.len]; omega
  rw [List.drop_eq_getElem_cons h2,List.all_cons]
  unfold maskOk at h5 ⊢
  by_cases c1:0 ≤ l[i]∧l[i] ≤ topMask n
  ·cases c2:(l[i].tmod 2 == 0) with
   | true=>
    have c3:(l[i].tmod 2 != 0)=false:=by simp [bne,c2]
    simp only [spec_MasksValid.l0,spec_MasksValid.j1,spec_MasksValid.j3,q0,q2,decide_true,Za,Zt,Zf,Zn,Nat.mul_one,h3,Zo,t1,if_false,t2,l1In_ok hk,AV.toB,c1,and_self,Zy,c3,h4,h5,c2,Bool.true_and]
   | false=>
    have c3:(l[i].tmod 2 != 0)=true:=by simp [bne,c2]
    simp only [spec_MasksValid.l0,spec_MasksValid.j1,spec_MasksValid.j3,q0,q2,decide_true,Za,Zt,Zf,Zn,Nat.mul_one,h3,Zo,t1,if_false,t2,l1In_ok hk,AV.toB,c1,and_self,Zy,c3,c2,Bool.true_and,Bool.false_and]
  ·simp only [spec_MasksValid.l0,spec_MasksValid.j1,spec_MasksValid.j3,q0,q2,decide_true,decide_false,Za,Zt,Zf,Zn,Nat.mul_one,h3,Zo,t1,if_false,t2,l1In_ok hk,AV.toB,c1,Zx,Bool.false_and]
theorem MasksValid_ok {k:Nat} (hk:2000000 ≤ k) {n:Int} (hn:2 ≤ n∧n ≤ 4) {H:Hp} {s:Sl} {l:List Int} (hs:Reads .i64 H s l) (hl:l.length ≤ 1000) :
  callF PP orc k spec_MasksValid.id [.sl 1 s,.int .i64 n] H=some (.bool (l.all (maskOk n) && decide ((l.length:Int)=n * n)),H):=by
 obtain ⟨k,rfl⟩:=Zs k (by omega)
 rw [spec_MasksValid.call]
 have:=MasksValid_l0 (show 1 ≤ k by omega) hn hs hl l.length 0 k (by omega) (by omega)
 simpa [spec_MasksValid.f] using this
def lineCell (n line:Int) (i:Nat):Int:=if line < n then line * n + (i:Int) else (i:Int) * n + line - n
def lineCells (n line:Int):List Int:=if (2 ≤ n∧n ≤ 4)∧0 ≤ line∧line < 2 * n then (List.range n.toNat).map (lineCell n line) else []
theorem line_wraps {n line:Int} (hn:2 ≤ n∧n ≤ 4) (hl:0 ≤ line∧line < 2 * n) (i:Nat) (hi:(i:Int) < n) :
  IntKind.i64.wrap (IntKind.i64.wrap (line * n) + (i:Int))=line * n + (i:Int)∧IntKind.i64.wrap (IntKind.i64.wrap (IntKind.i64.wrap ((i:Int) * n) + line) - n)=(i:Int) * n + line - n:=by
 have:n=2 ∨ n=3 ∨ n=4:=by omega
 rcases this with rfl | rfl | rfl
 all_goals
  constructor
  ·rw [wr (n:=line * _) (by omega) (by omega),wr (by omega) (by omega)]
  ·rw [wr (n:=(i:Int) * _) (by omega) (by omega),wr (n:=(i:Int) * _ + line) (by omega) (by omega),wr (by omega) (by omega)]
theorem range_map_succ (f:Nat→Int) (i:Nat):(List.range i).map f ++ [f i]=(List.range (i + 1)).map f:=by
 rw [List.range_succ,List.map_append]; rfl
theorem implLineCells_l2 (rec:Rec) (k:Nat) {H0:Hp} {n line:Int} {N:Nat} (hN:n=(N:Int)) (hn:2 ≤ n∧n ≤ 4) (hl:0 ≤ line∧line < 2 * n) :
  ∀ (j i m:Nat) (H:Hp) (t:Sl),i + j=N→j < m→H0 <+: H→Own 1 H0 H t (((List.range i).map (lineCell n line)).map (.int .i64)) →
   ∃ t' H',impl_LineCells.l2 rec k m n line t n i H=some (.sl 1 t',H')∧H0 <+: H'∧Own 1 H0 H' t' (((List.range N).map (lineCell n line)).map (.int .i64)):=by
 intro j
 induction j with
 | zero=>
  intro i m H t hi hm hp ho
  obtain ⟨m,rfl⟩:=Zs m (by omega)
  have:i=N:=by omega
  subst this
  exact ⟨t,H,by simp [impl_LineCells.l2,impl_LineCells.j4,hN],hp,ho⟩
 | succ j ih=>
  intro i m H t hi hm hp ho
  obtain ⟨m,rfl⟩:=Zs m (by omega)
  have hi2:(i:Int) < n:=by omega
  have hlen:t.len=i:=by have:=ho.len; simpa using this
  obtain ⟨w1,w2⟩:=line_wraps hn hl i hi2
  have h4:=wrs (i:=i) (by omega)
  obtain ⟨H',a1,a2,a3,a4,a5⟩:=own_app1 ho hp (lineCell n line i) (by omega)
  rw [range_map_succ] at a3
  obtain ⟨t',H2,b1,b2,b3⟩:=ih (i + 1) m H' _ (by omega) (by omega) a2 a3
  refine ⟨t',H2,?_,b2,b3⟩
  push_cast at b1
  unfold lineCell at a1
  by_cases c:line < n
  ·rw [if_pos c] at a1
   simp only [impl_LineCells.l2,impl_LineCells.j3,hi2,c,decide_true,Zt,w1,a1,Zo,h4,b1]
  ·rw [if_neg c] at a1
   simp only [impl_LineCells.l2,impl_LineCells.j3,hi2,c,decide_true,decide_false,Zt,Zf,w2,a1,Zo,h4,b1]
theorem implLineCells_own {k:Nat} (hk:2000000 ≤ k) {n line:Int} (c:2 ≤ n∧n ≤ 4) (cl:0 ≤ line∧line < 2 * n) (H:Hp) :
  ∃ t H',callF PP orc k impl_LineCells.id [.int .i64 n,.int .i64 line] H=some (.sl 1 t,H')∧H <+: H'∧Own 1 H H' t ((lineCells n line).map (.int .i64)):=by
 obtain ⟨k,rfl⟩:=Zs k (by omega)
 rw [impl_LineCells.call]
 unfold lineCells
 have hw:IntKind.i64.wrap (2 * n)=2 * n:=wr (by omega) (by omega)
 have c1:¬ line < 0:=by omega
 obtain ⟨N,hN⟩:=Int.eq_ofNat_of_zero_le (show 0 ≤ n by omega)
 obtain ⟨t',H2,b1,b2,b3⟩:=implLineCells_l2 (callF PP orc k) k hN c cl N 0 k (H ++ [some (Blk.mk false [])]) (Sl.mk false H.length 0 0) (by omega) (by omega) (List.prefix_append _ _) (own_new 1 H [] 0 rfl)
 refine ⟨t',H2,?_,b2,?_⟩
 ·simp only [impl_LineCells.f,sizeOk_ok (show 1 ≤ k by omega),c,AV.toB,c1,impl_LineCells.j0,impl_LineCells.j1,hw,Zo]
  rw [show decide (line ≥ 2 * n)=false by simp; omega]
  simp only [and_self,decide_true,Zy,Zf,decide_false]
  rw [if_pos (by omega)]
  simpa using b1
 ·rw [if_pos ⟨c,cl⟩,show n.toNat=N by omega]
  exact b3
theorem specLineCells_l0 {k:Nat} (hk:1 ≤ k) {H0:Hp} {n line:Int} {N:Nat} (hN:n=(N:Int)) (hn:2 ≤ n∧n ≤ 4) (hl:0 ≤ line∧line < 2 * n) :
  ∀ (j i m:Nat) (H:Hp) (t:Sl),i + j=N→j < m→H0 <+: H→Own 1 H0 H t (((List.range i).map (lineCell n line)).map (.int .i64)) →
   ∃ t' H',spec_LineCells.l0 (callF PP orc k) k m n line t i H=some (.sl 1 t',H')∧H0 <+: H'∧Own 1 H0 H' t' (((List.range N).map (lineCell n line)).map (.int .i64)):=by
 intro j
 induction j with
 | zero=>
  intro i m H t hi hm hp ho
  obtain ⟨m,rfl⟩:=Zs m (by omega)
  have:i=N:=by omega
  subst this
  exact ⟨t,H,by simp [spec_LineCells.l0,spec_LineCells.j1,spec_LineCells.j3,hN],hp,ho⟩
 | succ j ih=>
  intro i m H t hi hm hp ho
  obtain ⟨m,rfl⟩:=Zs m (by omega)
  have hi2:(i:Int) < n:=by omega
  have hlen:t.len=i:=by have:=ho.len; simpa using this
  obtain ⟨w1,w2⟩:=line_wraps hn hl i hi2
  have h4:=wrs (i:=i) (by omega)
  have hw:IntKind.i64.wrap (2 * n)=2 * n:=wr (by omega) (by omega)
  have hw2:IntKind.i64.wrap (2 * n - 1)=2 * n - 1:=wr (by omega) (by omega)
  have c3:0 ≤ line∧line ≤ 2 * n - 1:=by omega
  obtain ⟨H',a1,a2,a3,a4,a5⟩:=own_app1 ho hp (lineCell n line i) (by omega)
  rw [range_map_succ] at a3
  obtain ⟨t',H2,b1,b2,b3⟩:=ih (i + 1) m H' _ (by omega) (by omega) a2 a3
  refine ⟨t',H2,?_,b2,b3⟩
  push_cast at b1
  unfold lineCell at a1
  by_cases c:line < n
  ·rw [if_pos c] at a1
   simp only [spec_LineCells.l0,spec_LineCells.j1,spec_LineCells.j2,spec_LineCells.j4,l1In_ok hk,AV.toB,hn,hw,hw2,c3,and_self,hi2,c,decide_true,Zt,w1,a1,Zo,h4,b1]
  ·rw [if_neg c] at a1
   simp only [spec_LineCells.l0,spec_LineCells.j1,spec_LineCells.j2,spec_LineCells.j4,l1In_ok hk,AV.toB,hn,hw,hw2,c3,and_self,hi2,c,decide_true,decide_false,Zt,Zf,w2,a1,Zo,h4,b1]
theorem specLineCells_own {k:Nat} (hk:2000000 ≤ k) (n line:Int) (H:Hp) :
  ∃ t H',callF PP orc k spec_LineCells.id [.int .i64 n,.int .i64 line] H=some (.sl 1 t,H')∧H <+: H'∧Own 1 H H' t ((lineCells n line).map (.int .i64)):=by
 obtain ⟨k,rfl⟩:=Zs k (by omega)
 rw [spec_LineCells.call]
 have none':(∃ m,k=m + 1)→¬ ((2 ≤ n∧n ≤ 4)∧0 ≤ line∧line < 2 * n)→spec_LineCells.l0 (callF PP orc k) k k n line (Sl.mk false H.length 0 0) 0 (H ++ [some (Blk.mk false [])])=some (.sl 1 (Sl.mk false H.length 0 0),H ++ [some (Blk.mk false [])]):=by
  rintro ⟨m,hm⟩ hc
  have hl1:=fun n a b H=>l1In_ok (show 1 ≤ k by omega) n a b H
  by_cases c0:0 < n
  ·by_cases c:2 ≤ n∧n ≤ 4
   ·have hw:IntKind.i64.wrap (2 * n)=2 * n:=wr (by omega) (by omega)
    have hw2:IntKind.i64.wrap (2 * n - 1)=2 * n - 1:=wr (by omega) (by omega)
    have c3:decide (0 ≤ line∧line ≤ 2 * n - 1)=false:=by simp; omega
    generalize callF PP orc k=rc at *
    rw [hm]
    simp only [spec_LineCells.l0,spec_LineCells.j1,spec_LineCells.j3,hl1,AV.toB,c,hw,hw2,c3,c0,and_self,decide_true,Zt,Zo,Zf]
   ·generalize callF PP orc k=rc at *
    rw [hm]
    simp only [spec_LineCells.l0,spec_LineCells.j1,spec_LineCells.j3,hl1,AV.toB,c,c0,decide_true,decide_false,Zt,Zo,Zf]
  ·generalize callF PP orc k=rc at *
   rw [hm]
   simp only [spec_LineCells.l0,spec_LineCells.j1,spec_LineCells.j3,c0,decide_false,Zf]
 by_cases c:(2 ≤ n∧n ≤ 4)∧0 ≤ line∧line < 2 * n
 ·obtain ⟨N,hN⟩:=Int.eq_ofNat_of_zero_le (show 0 ≤ n by omega)
  obtain ⟨t',H2,b1,b2,b3⟩:=specLineCells_l0 (k:=k) (by omega) hN c.1 c.2 N 0 k (H ++ [some (Blk.mk false [])]) (Sl.mk false H.length 0 0) (by omega) (by omega) (List.prefix_append _ _) (own_new 1 H [] 0 rfl)
  refine ⟨t',H2,by simpa [spec_LineCells.f] using b1,b2,?_⟩
  unfold lineCells
  rw [if_pos c,show n.toNat=N by omega]
  exact b3
 ·refine ⟨_,_,(show spec_LineCells.f _ _ _ _ _=_ from none' ⟨k - 1,by omega⟩ c),List.prefix_append _ _,?_⟩
  unfold lineCells
  rw [if_neg c]
  exact own_new 1 H [] 0 rfl
theorem specLineCells_ok {k:Nat} (hk:2000000 ≤ k) (n line:Int) (H:Hp) :
  ∃ t H',callF PP orc k spec_LineCells.id [.int .i64 n,.int .i64 line] H=some (.sl 1 t,H')∧H <+: H'∧Reads .i64 H' t (lineCells n line):=by
 obtain ⟨t,H',a1,a2,a3⟩:=specLineCells_own hk n line H
 exact ⟨t,H',a1,a2,own_reads a3⟩
def gv (g:List Int) (c:Int):Int:=g.getD c.toNat 0
def clashL (g:List Int):List Int→List Int→Bool
 | [],_=>false
 | c :: cs,seen=>(decide (0 < gv g c) && seen.contains (gv g c)) || clashL g cs (gv g c :: seen)
def clashFrom (g:List Int) (n:Int):Nat→Nat→Bool
 | _,0=>false
 | line,j + 1=>clashL g (lineCells n line) [] || clashFrom g n (line + 1) j
def clash (g:List Int) (n:Int):Bool:=clashFrom g n 0 (2 * n).toNat
theorem lineCells_mem {n line c:Int} (h:c ∈ lineCells n line):0 ≤ c∧c < n * n:=by
 unfold lineCells at h
 split at h
 ·rename_i hc
  obtain ⟨i,hi,rfl⟩:=List.mem_map.1 h
  have hi':=List.mem_range.1 hi
  have:n=2 ∨ n=3 ∨ n=4:=by omega
  unfold lineCell
  rcases this with rfl | rfl | rfl <;> split <;> omega
 ·simp at h
theorem lineCells_len (n line:Int):(lineCells n line).length ≤ 4:=by
 unfold lineCells
 split
 ·simp; omega
 ·simp
theorem gv_at {H:Hp} {s:Sl} {g:List Int} (hr:Reads .i64 H s g) {c:Int} (h0:0 ≤ c) (h1:c < (g.length:Int)):ldI .i64 H s.blk (s.off + c.toNat)=some (gv g c):=by
 have h2:c.toNat < g.length:=by omega
 rw [reads_at hr c.toNat h2]
 simp [gv,List.getD_eq_getElem?_getD,h2]
theorem gv_mem {g:List Int} {c:Int} (h0:0 ≤ c) (h1:c < (g.length:Int)):gv g c ∈ g:=by
 have h2:c.toNat < g.length:=by omega
 unfold gv
 rw [List.getD_eq_getElem?_getD,List.getElem?_eq_getElem h2]
 exact List.getElem_mem h2
theorem mask_or:∀ m,m < 32→∀ v,v < 5→IntKind.i64.wrap (((BitVec.ofInt IntKind.i64.bits ((m:Nat):Int) ||| BitVec.ofInt IntKind.i64.bits (IntKind.i64.wrap (1 * 2 ^ (min v IntKind.i64.bits)))).toNat:Int))=((m ||| 2 ^ v:Nat):Int)∧m ||| 2 ^ v < 32:=by decide +kernel
theorem mask_bit:∀ m,m < 32→∀ v,v < 5→(((((m:Nat):Int).fdiv (2 ^ (min v IntKind.i64.bits)):Int).tmod 2) == 1)=m.testBit v:=by decide +kernel
theorem mask_test:∀ m,m < 32→∀ v,v < 5→∀ w,w < 5→(m ||| 2 ^ v).testBit w=(decide (w=v) || m.testBit w):=by decide +kernel
theorem specl2Clash_l1 (rec:Rec) (k:Nat) (L0:Sl→Int→Int→Hp→An) {H:Hp} {s t:Sl} {g cells:List Int} {n line:Int} (hs:Reads .i64 H s g) (ht:Reads .i64 H t cells)
  (hc:∀ c ∈ cells,0 ≤ c∧c < (g.length:Int)) (hg:∀ v ∈ g,0 ≤ v∧v ≤ 4) (hl:cells.length ≤ 1000) (hline:IntKind.i64.wrap (line + 1)=line + 1) :
  ∀ (j i fuel m:Nat) (seen:List Int),i + j=cells.length→j < fuel→m < 32→(∀ v:Nat,v < 5→m.testBit v=seen.contains (v:Int)) →
   spec_l2Clash.l1 rec k L0 fuel s n line t m i H=bif clashL g (cells.drop i) seen then some (.bool true,H) else L0 s n (line + 1) H:=by
 intro j
 induction j with
 | zero=>
  intro i fuel m seen hi hf hm hse
  obtain ⟨fuel,rfl⟩:=Zs fuel (by omega)
  simp [spec_l2Clash.l1,spec_l2Clash.j3,ht.len,show ¬ i < cells.length by omega,List.drop_eq_nil_of_le (show cells.length ≤ i by omega),clashL,hline]
 | succ j ih=>
  intro i fuel m seen hi hf hm hse
  obtain ⟨fuel,rfl⟩:=Zs fuel (by omega)
  have h1:=ht.len
  have h2:i < cells.length:=by omega
  have h3:=reads_at ht i h2
  have h4:=wrs (i:=i) (by omega)
  obtain ⟨c0,c1⟩:=hc _ (List.getElem_mem h2)
  have h5:=gv_at hs c0 c1
  obtain ⟨v0,v1⟩:=hg _ (gv_mem c0 c1)
  rw [List.drop_eq_getElem_cons h2]
  simp only [clashL]
  obtain ⟨v,hv⟩:=Int.eq_ofNat_of_zero_le v0
  rw [hv] at h5 ⊢
  have hv5:v < 5:=by omega
  obtain ⟨o1,o2⟩:=mask_or m hm v hv5
  have hb:=mask_bit m hm v hv5
  rw [hse v hv5] at hb
  have hsl:=hs.len
  have h6:=ih (i + 1) fuel (m ||| 2 ^ v) ((v:Int) :: seen) (by omega) (by omega) o2 (fun w hw=>by
   rw [mask_test m hm v hv5 w hw,hse w hw,List.contains_cons]
   congr 1
   simp only [Bool.beq_eq_decide_eq]
   exact decide_eq_decide.2 (by omega))
  have q1:((i:Int) < (t.len:Int)):=by omega
  have q0:(0:Int) ≤ (i:Int):=by omega
  have z0:¬ ((v:Int) < 0):=by omega
  have c1':cells[i] < (s.len:Int):=by omega
  rw [show ((i:Int) + 1)=((i + 1:Nat):Int) by omega] at h4
  by_cases hp:0 < v
  ·have z1:((v:Int) > 0):=by omega
   have z2:(0:Int) < (v:Int):=z1
   cases hse':seen.contains (v:Int) with
   | true=>
    rw [hse'] at hb
    simp only [spec_l2Clash.l1,spec_l2Clash.j2,spec_l2Clash.j4,spec_l2Clash.j5,q0,q1,c0,c1',z0,z1,z2,decide_true,Za,Zt,Zf,Zn,Nat.mul_one,h3,h5,Zo,hb,if_false,reduceIte,Bool.true_or]
   | false=>
    rw [hse'] at hb
    rw [show ((i + 1:Nat):Int)=(i:Int) + 1 by omega] at h4 h6
    simp only [spec_l2Clash.l1,spec_l2Clash.j2,spec_l2Clash.j4,spec_l2Clash.j5,q0,q1,c0,c1',z0,z1,z2,decide_true,Za,Bool.and_false,Zt,Zf,Zn,Nat.mul_one,h3,h5,Zo,hb,if_false,reduceIte,Bool.false_or,o1,h4,h6]
  ·have z1:¬ ((v:Int) > 0):=by omega
   have z2:¬ (0:Int) < (v:Int):=z1
   rw [show ((i + 1:Nat):Int)=(i:Int) + 1 by omega] at h4 h6
   simp only [spec_l2Clash.l1,spec_l2Clash.j2,spec_l2Clash.j4,spec_l2Clash.j5,q0,q1,c0,c1',z0,z1,z2,decide_true,decide_false,Za,Bool.false_and,Zt,Zf,Zn,Nat.mul_one,h3,h5,Zo,if_false,reduceIte,Bool.false_or,o1,h4,h6]
theorem specl2Clash_l0 {k:Nat} (hk:2000000 ≤ k) {H0:Hp} {s:Sl} {g:List Int} {n:Int} (hs:Reads .i64 H0 s g) (hg:gridOk g n=true) :
  ∀ (j fuel line:Nat) (H:Hp),(line:Int) + j=2 * n→j < fuel→H0 <+: H →
   ∃ H',spec_l2Clash.l0 (callF PP orc k) k fuel s n line H=some (.bool (clashFrom g n line j),H')∧H0 <+: H':=by
 obtain ⟨⟨n1,n2⟩,n3,n4⟩:=(gridOk_iff g n).1 hg
 have hw:IntKind.i64.wrap (2 * n)=2 * n:=wr (by omega) (by omega)
 intro j
 induction j with
 | zero=>
  intro fuel line H hl hf hp
  obtain ⟨fuel,rfl⟩:=Zs fuel (by omega)
  refine ⟨H,?_,hp⟩
  have:¬ ((line:Int) < 2 * n):=by omega
  simp only [spec_l2Clash.l0,hw,this,decide_false,Zf,clashFrom]
 | succ j ih=>
  intro fuel line H hl hf hp
  obtain ⟨fuel,rfl⟩:=Zs fuel (by omega)
  have q1:((line:Int) < 2 * n):=by omega
  obtain ⟨t,H1,a1,a2,a3⟩:=specLineCells_ok hk n line H
  have h1:=specl2Clash_l1 (callF PP orc k) k (spec_l2Clash.l0 (callF PP orc k) k fuel) (line:=line) (n:=n) (pf_reads (hp.trans a2) hs) a3 (fun c hc=>by rw [n3]; exact lineCells_mem hc) (fun v hv=>⟨(n4 v hv).1,by have:=(n4 v hv).2; omega⟩)
   (by have:=lineCells_len n line; omega) (wr (by omega) (by omega)) (lineCells n line).length 0 k 0 [] (by omega) (by have:=lineCells_len n line; omega) (by omega) (fun v hv=>by simp)
  obtain ⟨H',b1,b2⟩:=ih fuel (line + 1) H1 (by omega) (by omega) (hp.trans a2)
  push_cast at b1
  simp only [List.drop_zero] at h1
  cases hc:clashL g (lineCells n line) [] with
  | true=>
   refine ⟨H1,?_,hp.trans a2⟩
   simp only [hc,Zt] at h1
   simp only [spec_l2Clash.l0,hw,q1,decide_true,Zt,a1,Zo,AV.toS,if_true,clashFrom,hc,Bool.true_or]
   exact h1
  | false=>
   refine ⟨H',?_,b2⟩
   simp only [hc,Zf] at h1
   simp only [spec_l2Clash.l0,hw,q1,decide_true,Zt,a1,Zo,AV.toS,if_true,clashFrom,hc,Bool.false_or]
   exact h1.trans b1
theorem specl2Clash_ok {k:Nat} (hk:2000001 ≤ k) {H:Hp} {s:Sl} {g:List Int} {n:Int} (hs:Reads .i64 H s g) (hg:gridOk g n=true) :
  ∃ H',callF PP orc k spec_l2Clash.id [.sl 1 s,.int .i64 n] H=some (.bool (clash g n),H')∧H <+: H':=by
 obtain ⟨k,rfl⟩:=Zs k (by omega)
 rw [spec_l2Clash.call]
 obtain ⟨⟨n1,n2⟩,n3,n4⟩:=(gridOk_iff g n).1 hg
 exact specl2Clash_l0 (by omega) hs hg (2 * n).toNat k 0 H (by omega) (by omega) (List.prefix_refl _)
def has (m:Int) (v:Nat):Bool:=m.toNat.testBit v
def pw (v:Int):Int:=((2 ^ v.toNat:Nat):Int)
def mOr (a b:Int):Int:=((a.toNat ||| b.toNat:Nat):Int)
def mAnd (a b:Int):Int:=((a.toNat &&& b.toNat:Nat):Int)
def mSub (a b:Int):Int:=((a.toNat &&& (31 ^^^ b.toNat):Nat):Int)
theorem tab_or:∀ a,a < 32→∀ b,b < 32→IntKind.i64.wrap (((BitVec.ofInt IntKind.i64.bits ((a:Nat):Int) ||| BitVec.ofInt IntKind.i64.bits ((b:Nat):Int)).toNat:Int))=((a ||| b:Nat):Int)∧a ||| b < 32:=by decide +kernel
theorem tab_and:∀ a,a < 32→∀ b,b < 32→IntKind.i64.wrap (((BitVec.ofInt IntKind.i64.bits ((a:Nat):Int) &&& BitVec.ofInt IntKind.i64.bits ((b:Nat):Int)).toNat:Int))=((a &&& b:Nat):Int)∧a &&& b < 32:=by decide +kernel
theorem tab_sub:∀ a,a < 32→∀ b,b < 32→IntKind.i64.wrap (((BitVec.ofInt IntKind.i64.bits ((a:Nat):Int) &&& ~~~(BitVec.ofInt IntKind.i64.bits ((b:Nat):Int))).toNat:Int))=((a &&& (31 ^^^ b):Nat):Int)∧a &&& (31 ^^^ b) < 32:=by decide +kernel
theorem tab_bit:∀ m,m < 32→∀ v,v < 6→(((((m:Nat):Int).fdiv (2 ^ (min v IntKind.i64.bits)):Int).tmod 2) == 1)=m.testBit v:=by decide +kernel
theorem tab_bit':∀ m,m < 32→∀ v,v < 6→(IntKind.i64.wrap (((BitVec.ofInt IntKind.i64.bits (((m:Nat):Int).fdiv (2 ^ (min v IntKind.i64.bits)):Int) &&& BitVec.ofInt IntKind.i64.bits 1).toNat:Int)) == 1)=m.testBit v:=by decide +kernel
theorem tab_shl:∀ v,v < 7→IntKind.i64.wrap (1 * 2 ^ (min v IntKind.i64.bits))=((2 ^ v:Nat):Int):=by decide +kernel
def M (m:Int):Prop:=0 ≤ m∧m < 32
theorem M.nat {m:Int} (h:M m):∃ a:Nat,m=(a:Int)∧a < 32:=⟨m.toNat,by have:=h.1; omega,by have:=h.1; have:=h.2; omega⟩
theorem m_or {a b:Int} (ha:M a) (hb:M b):IntKind.i64.wrap (((BitVec.ofInt IntKind.i64.bits a ||| BitVec.ofInt IntKind.i64.bits b).toNat:Int))=mOr a b:=by
 obtain ⟨a,rfl,h1⟩:=ha.nat; obtain ⟨b,rfl,h2⟩:=hb.nat; exact (tab_or a h1 b h2).1
theorem m_and {a b:Int} (ha:M a) (hb:M b):IntKind.i64.wrap (((BitVec.ofInt IntKind.i64.bits a &&& BitVec.ofInt IntKind.i64.bits b).toNat:Int))=mAnd a b:=by
 obtain ⟨a,rfl,h1⟩:=ha.nat; obtain ⟨b,rfl,h2⟩:=hb.nat; exact (tab_and a h1 b h2).1
theorem m_sub {a b:Int} (ha:M a) (hb:M b):IntKind.i64.wrap (((BitVec.ofInt IntKind.i64.bits a &&& ~~~(BitVec.ofInt IntKind.i64.bits b)).toNat:Int))=mSub a b:=by
 obtain ⟨a,rfl,h1⟩:=ha.nat; obtain ⟨b,rfl,h2⟩:=hb.nat; exact (tab_sub a h1 b h2).1
theorem M.or {a b:Int} (ha:M a) (hb:M b):M (mOr a b):=by
 obtain ⟨a,rfl,h1⟩:=ha.nat; obtain ⟨b,rfl,h2⟩:=hb.nat; have:=(tab_or a h1 b h2).2; unfold M mOr; simp only [Zn]; omega
theorem M.and {a b:Int} (ha:M a) (hb:M b):M (mAnd a b):=by
 obtain ⟨a,rfl,h1⟩:=ha.nat; obtain ⟨b,rfl,h2⟩:=hb.nat; have:=(tab_and a h1 b h2).2; unfold M mAnd; simp only [Zn]; omega
theorem M.sub {a b:Int} (ha:M a) (hb:M b):M (mSub a b):=by
 obtain ⟨a,rfl,h1⟩:=ha.nat; obtain ⟨b,rfl,h2⟩:=hb.nat; have:=(tab_sub a h1 b h2).2; unfold M mSub; simp only [Zn]; omega
theorem m_bit {m v:Int} (hm:M m) (h0:0 ≤ v) (h1:v ≤ 5):((((m:Int).fdiv (2 ^ (min v.toNat IntKind.i64.bits)):Int).tmod 2) == 1)=has m v.toNat:=by
 obtain ⟨a,rfl,h2⟩:=hm.nat; exact tab_bit a h2 v.toNat (by omega)
theorem m_bit' {m v:Int} (hm:M m) (h0:0 ≤ v) (h1:v ≤ 5):(IntKind.i64.wrap (((BitVec.ofInt IntKind.i64.bits ((m:Int).fdiv (2 ^ (min v.toNat IntKind.i64.bits)):Int) &&& BitVec.ofInt IntKind.i64.bits 1).toNat:Int)) == 1)=has m v.toNat:=by
 obtain ⟨a,rfl,h2⟩:=hm.nat; exact tab_bit' a h2 v.toNat (by omega)
theorem m_shl {v:Int} (h0:0 ≤ v) (h1:v ≤ 6):IntKind.i64.wrap (1 * 2 ^ (min v.toNat IntKind.i64.bits))=pw v:=tab_shl v.toNat (by omega)
theorem M.pw {v:Int} (h0:0 ≤ v) (h1:v ≤ 4):M (pw v):=by
 have:v=0 ∨ v=1 ∨ v=2 ∨ v=3 ∨ v=4:=by omega
 rcases this with rfl | rfl | rfl | rfl | rfl <;> exact ⟨by decide,by decide⟩
theorem has_or {a b:Int} (v:Nat):has (mOr a b) v=(has a v || has b v):=by unfold has mOr; rw [Int.toNat_natCast,Nat.testBit_or]
theorem has_and {a b:Int} (v:Nat):has (mAnd a b) v=(has a v && has b v):=by unfold has mAnd; rw [Int.toNat_natCast,Nat.testBit_and]
theorem has_big {m:Int} (hm:M m) {v:Nat} (hv:5 ≤ v):has m v=false:=by
 obtain ⟨a,rfl,h2⟩:=hm.nat
 exact Nat.testBit_lt_two_pow (Nat.lt_of_lt_of_le h2 (Nat.pow_le_pow_right (n:=2) (by omega) hv))
theorem has_sub {a b:Int} (ha:M a) (hb:M b) (v:Nat):has (mSub a b) v=(has a v && !has b v):=by
 by_cases hv:5 ≤ v
 ·rw [has_big (M.sub ha hb) hv,has_big ha hv]; rfl
 ·obtain ⟨a,rfl,ha⟩:=ha.nat; obtain ⟨b,rfl,hb⟩:=hb.nat
  unfold has mSub
  simp only [Zn,Nat.testBit_and,Nat.testBit_xor]
  have:(31:Nat).testBit v=true:=by
   have:v=0 ∨ v=1 ∨ v=2 ∨ v=3 ∨ v=4:=by omega
   rcases this with rfl | rfl | rfl | rfl | rfl <;> decide
  rw [this]
  cases b.testBit v <;> rfl
theorem has_pw {v:Int} (h0:0 ≤ v) (w:Nat):has (pw v) w=decide ((w:Int)=v):=by
 unfold has pw
 rw [Int.toNat_natCast,Nat.testBit_two_pow]
 exact decide_eq_decide.2 (by omega)
theorem m_ext {a b:Int} (ha:M a) (hb:M b) (h:∀ v,v < 5→has a v=has b v):a=b:=by
 have h':∀ v,has a v=has b v:=fun v=>by
  by_cases hv:5 ≤ v
  ·rw [has_big ha hv,has_big hb hv]
  ·exact h v (by omega)
 obtain ⟨a,rfl,ha⟩:=ha.nat; obtain ⟨b,rfl,hb⟩:=hb.nat
 congr 1
 exact Nat.eq_of_testBit_eq h'
/-! ### Rules -/
abbrev V:=Int × List Int × Int
def distFrom (vals:List Int):Nat→Nat→Bool
 | _,0=>true
 | i,j + 1=>!(vals.take i).contains (vals.getD i 0) && distFrom vals (i + 1) j
def holdsV (kind value:Int) (vals:List Int):Bool:=
 if kind=1 then distFrom vals 0 vals.length else if kind=2 then decide (vals.foldl (· + ·) 0=value) else if kind=3 then decide (vals.foldl (· * ·) 1=value)
 else if kind=4 then decide (vals.getD 0 0 < vals.getD 1 0) else decide (mx (vals.getD 0 0 - vals.getD 1 0) (vals.getD 1 0 - vals.getD 0 0)=value)
def orFrom (vals:List Int):List Int→Nat→Nat→List Int
 | fl,_,0=>fl
 | fl,i,j + 1=>orFrom vals (fl.set i (mOr (fl.getD i 0) (pw (vals.getD i 0)))) (i + 1) j
def orAll (found vals:List Int):List Int:=orFrom vals found 0 vals.length
def ways (h:List Int→Bool):List Int→List Int→List Int→List Int
 | [],vals,found=>if h vals=true then orAll found vals else found
 | m :: ms,vals,found=>(maskVals m).foldl (fun f v=>ways h ms (vals ++ [v]) f) found
def ruleMasksV (kind value:Int) (own:List Int):List Int:=ways (holdsV kind value) own [] (List.replicate own.length 0)
def ownOf (masks cells:List Int):List Int:=cells.map (gv masks)
def openOf (n:Int) (g:List Int):List Int:=g.map fun v=>if v > 0 then pw v else topMask n
def canHoldV (n:Int) (g:List Int) (r:V):Bool:=(ruleMasksV r.1 r.2.2 (ownOf (openOf n g) r.2.1)).headD 0 != 0
def compatFrom (a g:List Int):Nat→Nat→Bool
 | _,0=>true
 | i,j + 1=>!(decide (a.getD i 0 > 0) && (decide (g.getD i 0 > 0) && (g.getD i 0 != a.getD i 0))) && compatFrom a g (i + 1) j
def compatB (given g:List Int):Bool:=compatFrom given g 0 g.length
def fitsV (n:Int) (given:List Int) (vs:List V) (g:List Int):Bool:=compatB given g && (vs.all (canHoldV n g) && !clash g n)
def ruleOkV (n:Int) (r:V):Bool:=ruleOk n r.1 r.2.1 r.2.2
def puzzleV (n:Int) (given:List Int) (vs:List V):Bool:=gridOk given n && (decide (vs.length ≤ 20) && vs.all (ruleOkV n))
def puzzleFitsV (n:Int) (given:List Int) (vs:List V) (g:List Int):Bool:=puzzleV n given vs && (gridOk g n && fitsV n given vs g)
def puzzleSolvedV (n:Int) (given:List Int) (vs:List V) (g:List Int):Bool:=puzzleFitsV n given vs g && decide (filled g=g.length)
def upto:Nat→Int→List Int
 | 0,_=>[]
 | j + 1,v=>v :: upto j (v + 1)
def sols (f:List Int→Bool) (n:Nat):Nat→List Int→List (List Int)
 | 0,g=>[g]
 | rem + 1,g=>if 0 < g.getD (g.length - (rem + 1)) 0 then sols f n rem g
  else (upto n 1).flatMap fun v=>if f (g.set (g.length - (rem + 1)) v)=true then sols f n rem (g.set (g.length - (rem + 1)) v) else []
def allSols (n:Int) (given:List Int) (vs:List V):List (List Int):=if puzzleFitsV n given vs given=true then sols (fitsV n given vs) n.toNat given.length given else []
def zeros (n:Int):List Int:=List.replicate (n * n).toNat 0
def squares (n:Int):List (List Int):=sols (fun g=>!clash g n) n.toNat (n * n).toNat (zeros n)
def masksOk (n:Int) (l:List Int):Bool:=decide (2 ≤ n∧n ≤ 4) && (l.all (maskOk n) && decide ((l.length:Int)=n * n))
theorem rdn {H:Hp} {k:IntKind} {s:Sl} {l:List Int} (h:Reads k H s l) {i:Nat} (h1:i < l.length):ldI k H s.blk (s.off + i * 1)=some (l.getD i 0):=by
 rw [Nat.mul_one,reads_at h i h1,List.getD_eq_getElem?_getD,List.getElem?_eq_getElem h1]; rfl
theorem dt {p:Prop} [Decidable p] (h:p):decide p=true:=decide_eq_true h
theorem df {p:Prop} [Decidable p] (h:¬ p):decide p=false:=decide_eq_false h
theorem bt {a b:Int} (h:a=b):(a == b)=true:=by simp [h]
theorem bf {a b:Int} (h:a ≠ b):(a == b)=false:=by simp [h]
theorem nt {a b:Int} (h:a ≠ b):(a != b)=true:=by simp [h]
theorem nf {a b:Int} (h:a=b):(a != b)=false:=by simp [h]
theorem ip {α:Type} {c:Prop} [Decidable c] {a b:α} (h:c):(if c then a else b)=a:=if_pos h
theorem iN {α:Type} {c:Prop} [Decidable c] {a b:α} (h:¬ c):(if c then a else b)=b:=if_neg h
theorem holds_l1 (rec:Rec) (k:Nat) (L0:Sl→Int→Int→Bool→Int→Int→Sl→Int→Hp→An) {kind value:Int} {cs vs:Sl} {H:Hp} {vals:List Int} (hs:Reads .i64 H vs vals) (hl:vals.length ≤ 1000) {i:Nat} (hi:i < vals.length) {x5 x6:Int} :
  ∀ (j m fuel:Nat) (d:Bool),m + j=i→j < fuel→spec_l4Holds.l1 rec k L0 fuel vs x5 x6 d i m kind cs value H=L0 vs x5 x6 (d && !((vals.take i).drop m).contains (vals.getD i 0)) ((i:Int) + 1) kind cs value H:=by
 have hv:=hs.len
 intro j
 induction j with
 | zero=>
  intro m fuel d hm hf
  obtain ⟨fuel,rfl⟩:=Zs fuel (by omega)
  rw [List.drop_eq_nil_of_le (by simp; omega)]
  simp (disch:=omega) only [spec_l4Holds.l1,spec_l4Holds.j4,df,Zf,wr,List.contains_nil,Zx,Bool.and_true]
 | succ j ih=>
  intro m fuel d hm hf
  obtain ⟨fuel,rfl⟩:=Zs fuel (by omega)
  have ht:m < (vals.take i).length:=by simp; omega
  have e:(vals.take i)[m]=vals.getD m 0:=by simp [List.getD_eq_getElem?_getD,show m < vals.length by omega]
  rw [List.drop_eq_getElem_cons ht,List.contains_cons,e]
  cases d with
  | true=>
   have h5:=ih (m + 1) fuel (vals.getD m 0 != vals.getD i 0) (by omega) (by omega)
   push_cast at h5
   simp (disch:=omega) only [spec_l4Holds.l1,spec_l4Holds.j3,dt,Za,Zt,rdn hs,Zn,Zo,wr,h5]
   congr 1
   simp only [bne,Bool.true_and,Bool.not_or]
   congr 2
   rw [Bool.eq_iff_iff,beq_iff_eq,beq_iff_eq]; exact eq_comm
  | false=>
   have h5:=ih (m + 1) fuel false (by omega) (by omega)
   push_cast at h5
   simp (disch:=omega) only [spec_l4Holds.l1,spec_l4Holds.j3,dt,Zt,Zf,wr,h5,Bool.false_and]
def Vals (l:List Int):Prop:=l.length ≤ 4∧∀ v ∈ l,0 ≤ v∧v ≤ 4
theorem Vals.at {l:List Int} (h:Vals l) (i:Nat):0 ≤ l.getD i 0∧l.getD i 0 ≤ 4:=by
 rw [List.getD_eq_getElem?_getD]
 by_cases hi:i < l.length
 ·rw [List.getElem?_eq_getElem hi]; exact h.2 _ (List.getElem_mem hi)
 ·rw [List.getElem?_eq_none (by omega)]; simp
theorem holds_l0 (rec:Rec) (k:Nat) (hk:1000 < k) {kind value:Int} {cs vs:Sl} {H:Hp} {vals:List Int} (hs:Reads .i64 H vs vals) (hl:Vals vals) (h2:(kind=1 ∨ kind=2 ∨ kind=3) ∨ 2 ≤ vals.length) :
  ∀ (j i fuel:Nat) (x5 x6:Int) (d:Bool),i + j=vals.length→j < fuel→0 ≤ x5→x5 ≤ 4 * i→0 ≤ x6→x6 ≤ 4 ^ i →
   spec_l4Holds.l0 rec k fuel vs x5 x6 d i kind cs value H=some (.bool (if kind=1 then d && distFrom vals i j else if kind=2 then decide ((vals.drop i).foldl (· + ·) x5=value) else if kind=3 then decide ((vals.drop i).foldl (· * ·) x6=value)
    else if kind=4 then decide (vals.getD 0 0 < vals.getD 1 0) else decide (mx (vals.getD 0 0 - vals.getD 1 0) (vals.getD 1 0 - vals.getD 0 0)=value)),H):=by
 have hv:=hs.len
 have hl4:=hl.1
 have eqd:∀ a b:Int,(a == b)=decide (a=b):=fun a b=>by rw [Bool.eq_iff_iff]; simp
 intro j
 induction j with
 | zero=>
  intro i fuel x5 x6 d hi hf h50 h51 h60 h61
  obtain ⟨fuel,rfl⟩:=Zs fuel (by omega)
  rw [List.drop_eq_nil_of_le (by omega)]
  simp (disch:=omega) only [spec_l4Holds.l0,spec_l4Holds.j2,df,Zf,distFrom,Bool.and_true,List.foldl_nil,eqd]
  by_cases k1:kind=1
  ·simp only [k1,decide_true,Zt,if_true]
  by_cases k2:kind=2
  ·subst k2; rfl
  by_cases k3:kind=3
  ·subst k3; rfl
  have hlen:2 ≤ vals.length:=by omega
  have a0:=hl.at 0
  have a1:=hl.at 1
  simp (disch:=omega) only [k1,k2,k3,decide_false,Zf,if_false,dt,Za,Zt,rdn hs,Zo,wr,Zz,Zi]
  by_cases k4:kind=4
  ·simp only [k4,decide_true,Zt,if_true]
  ·simp only [k4,decide_false,Zf,if_false]
   rw [show (0 - (vals.getD 0 0 - vals.getD 1 0))=vals.getD 1 0 - vals.getD 0 0 by omega]
 | succ j ih=>
  intro i fuel x5 x6 d hi hf h50 h51 h60 h61
  obtain ⟨fuel,rfl⟩:=Zs fuel (by omega)
  have h2:i < vals.length:=by omega
  obtain ⟨a0,a1⟩:=hl.at i
  have hd:(vals.drop i)=vals.getD i 0 :: vals.drop (i + 1):=by
   rw [List.drop_eq_getElem_cons h2,List.getD_eq_getElem?_getD,List.getElem?_eq_getElem h2]; rfl
  have h5:=holds_l1 rec k (spec_l4Holds.l0 rec k fuel) (kind:=kind) (value:=value) (cs:=cs) hs (by omega) h2 (x5:=x5 + vals.getD i 0) (x6:=x6 * vals.getD i 0) i 0 k d (by omega) (by omega)
  have hp:(4:Int) ^ i ≤ 64:=by
   have:i=0 ∨ i=1 ∨ i=2 ∨ i=3:=by omega
   rcases this with rfl | rfl | rfl | rfl <;> decide
  have hm:x6 * vals.getD i 0 ≤ x6 * 4:=Int.mul_le_mul_of_nonneg_left a1 h60
  have hm0:0 ≤ x6 * vals.getD i 0:=Int.mul_nonneg h60 a0
  have hq:(4:Int) ^ (i + 1)=4 ^ i * 4:=Int.pow_succ _ _
  have h6:=ih (i + 1) fuel (x5 + vals.getD i 0) (x6 * vals.getD i 0) (d && !(vals.take i).contains (vals.getD i 0)) (by omega) (by omega) (by omega) (by omega) (by omega) (by omega)
  push_cast at h6
  simp only [Int.natCast_zero,List.drop_zero] at h5
  rw [hd,List.foldl_cons,List.foldl_cons]
  simp (disch:=omega) only [spec_l4Holds.l0,dt,Za,Zt,Zn,rdn hs,Zo,wr,h5,h6,distFrom,Bool.and_assoc]
theorem l4Holds_full {k:Nat} (hk:2000 ≤ k) {kind value:Int} {cs vs:Sl} {H:Hp} {vals:List Int} (hs:Reads .i64 H vs vals) (hl:Vals vals) (h2:(kind=1 ∨ kind=2 ∨ kind=3) ∨ 2 ≤ vals.length) :
  callF PP orc k spec_l4Holds.id [.agg [.int .i64 kind,.sl 1 cs,.int .i64 value],.sl 1 vs] H=some (.bool (holdsV kind value vals),H):=by
 obtain ⟨k,rfl⟩:=Zs k (by omega)
 rw [spec_l4Holds.call]
 have h4:=hl.1
 have:=holds_l0 (callF PP orc k) k (by omega) (kind:=kind) (value:=value) (cs:=cs) hs hl h2 vals.length 0 k 0 1 true (by omega) (by omega) (by omega) (by omega) (by omega) (by omega)
 simp only [List.drop_zero,Bool.true_and] at this
 exact this
structure Adv (b:Nat) (H H':Hp):Prop where
 but:But b H H'
 le:H.length ≤ H'.length
theorem Adv.refl (b:Nat) (H:Hp):Adv b H H:=⟨fun _ _ _ h=>h,Nat.le_refl _⟩
theorem Adv.trans {b:Nat} {H H1 H2:Hp} (h:Adv b H H1) (h':Adv b H1 H2):Adv b H H2:=⟨fun c x hc hx=>h'.but c x hc (h.but c x hc hx),Nat.le_trans h.le h'.le⟩
theorem pf_adv {b:Nat} {H H':Hp} (g:H <+: H'):Adv b H H':=⟨fun c x _ hx=>pf_get g hx,g.length_le⟩
theorem Adv.own {b sz:Nat} {B H H':Hp} {s:Sl} {c:List AV} (h:Adv b H H') (hb:b < B.length) (ho:Own sz B H s c):Own sz B H' s c:=h.but.own (by have:=ho.blk; omega) ho
theorem Adv.reads {b:Nat} {H H':Hp} {k:IntKind} {s:Sl} {l:List Int} (h:Adv b H H') (hb:s.blk ≠ b) (hr:Reads k H s l):Reads k H' s l:=h.but.reads hb hr
structure RD (b:Nat) (H:Hp) (l:List Int) (p:Nat):Prop where
 ex:∃ s,H[b]?=some (some ⟨false,[.sl 1 s,.int .i64 p]⟩)∧Reads .u8 H s l∧(l ≠ []→s.blk ≠ b)
 len:l.length ≤ 2000
 byte:∀ x ∈ l,0 ≤ x∧x ≤ 255
theorem RD.lt {b:Nat} {H:Hp} {l:List Int} {p:Nat} (h:RD b H l p):b < H.length:=by
 obtain ⟨s,h1,_⟩:=h.ex
 exact (List.getElem?_eq_some_iff.1 h1).1
theorem RD.pf {b:Nat} {H H':Hp} {l:List Int} {p:Nat} (h:RD b H l p) (g:H <+: H'):RD b H' l p:=by
 obtain ⟨s,h1,h2,h3⟩:=h.ex
 exact ⟨⟨s,pf_get g h1,pf_reads g h2,h3⟩,h.len,h.byte⟩
theorem RD.but {b c:Nat} {H H':Hp} {l:List Int} {p:Nat} (h:RD b H l p) (g:But c H H') (hc:b ≠ c) (hs:∀ s,H[b]?=some (some ⟨false,[.sl 1 s,.int .i64 p]⟩)→l ≠ []→s.blk ≠ c):RD b H' l p:=by
 obtain ⟨s,h1,h2,h3⟩:=h.ex
 refine ⟨⟨s,g _ _ hc h1,?_,h3⟩,h.len,h.byte⟩
 by_cases hl:l=[]
 ·subst hl; exact reads_nil h2.len
 ·exact g.reads (hs s h1 hl) h2
theorem xor_nonneg {x y:Int} (hx:0 ≤ x∧x < 4611686018427387904) (hy:0 ≤ y∧y < 4611686018427387904) :
  0 ≤ IntKind.i64.wrap (((BitVec.ofInt IntKind.i64.bits x ^^^ BitVec.ofInt IntKind.i64.bits y).toNat:Int)):=by
 obtain ⟨a,rfl⟩:=Int.eq_ofNat_of_zero_le hx.1
 obtain ⟨c,rfl⟩:=Int.eq_ofNat_of_zero_le hy.1
 have ha:a < 2 ^ 62:=by have:=hx.2; omega
 have hc:c < 2 ^ 62:=by have:=hy.2; omega
 have hb:IntKind.i64.bits=64:=rfl
 rw [hb,BitVec.toNat_xor]
 have ea:(BitVec.ofInt 64 (a:Int)).toNat=a:=by rw [BitVec.toNat_ofInt]; omega
 have ec:(BitVec.ofInt 64 (c:Int)).toNat=c:=by rw [BitVec.toNat_ofInt]; omega
 rw [ea,ec]
 have:=Nat.xor_lt_two_pow ha hc
 rw [wr (by omega) (by omega)]
 omega
theorem pick_ok {k:Nat} (hk:1 ≤ k) {b:Nat} {H:Hp} {l:List Int} {p:Nat} (h:RD b H l p) (hp:p ≤ 1000000000) (n:Int) :
  ∃ v H',callF PP orc k spec_l20Rd_pick.id [.ptr b 0,.int .i64 n] H=some (.int .i64 v,H')∧RD b H' l (p + 1)∧But b H H'∧H'.length=H.length∧0 ≤ v∧(1 ≤ n→v < n)∧(n ≤ 1→v=0):=by
 obtain ⟨k,rfl⟩:=Zs k (by omega)
 rw [spec_l20Rd_pick.call]
 obtain ⟨s,h1,h2,h3⟩:=h.ex
 have hb:=(List.getElem?_eq_some_iff.1 h1).1
 have l1:ldI .i64 H b (0 + 1)=some (p:Int):=by unfold ldI Hp.cell; rw [h1]; simp [AV.toI]
 have w1:IntKind.i64.wrap ((p:Int) + 1)=((p + 1:Nat):Int):=by rw [wr (by omega) (by omega)]; rfl
 let H2:=H.set b (some ⟨false,[.sl 1 s,.int .i64 ((p + 1:Nat):Int)]⟩)
 have a1:H.sto b (0 + 1) [.int .i64 ((p + 1:Nat):Int)]=some H2:=by
  unfold Hp.sto; rw [h1]; simp [H2]
 have hbut:But b H H2:=fun c x hc hx=>by
  show (H.set b _)[c]?=some x
  rw [List.getElem?_set_ne (Ne.symm hc)]; exact hx
 have h2b:H2[b]?=some (some ⟨false,[.sl 1 s,.int .i64 ((p + 1:Nat):Int)]⟩):=by
  show (H.set b _)[b]?=_
  rw [List.getElem?_set_self hb]
 have hr2:Reads .u8 H2 s l:=by
  by_cases hl:l=[]
  ·subst hl; exact reads_nil h2.len
  ·exact hbut.reads (h3 hl) h2
 have rd2:RD b H2 l (p + 1):=⟨⟨s,h2b,hr2,h3⟩,h.len,h.byte⟩
 have hlen:H2.length=H.length:=by simp [H2]
 have s0:ldS 1 H2 b (0 + 0)=some s:=by unfold ldS Hp.cell; rw [h2b]; simp [AV.toS]
 have l4:ldI .i64 H2 b (0 + 1)=some ((p + 1:Nat):Int):=by unfold ldI Hp.cell; rw [h2b]; simp [AV.toI]
 have sl:s.len=l.length:=h2.len
 have hll:=h.len
 clear_value H2
 by_cases hn:n < 1
 ·exact ⟨0,H2,by simp only [spec_l20Rd_pick.f,spec_l20Rd_pick.j0,l1,Zo,w1,a1,hn,decide_true,Zt],rd2,hbut,hlen,by omega,by omega,fun _=>rfl⟩
 ·by_cases hl0:l.length=0
  ·have e:((s.len:Int) == 0)=true:=by simp; omega
   exact ⟨0,H2,by simp only [spec_l20Rd_pick.f,spec_l20Rd_pick.j0,l1,Zo,w1,a1,hn,decide_false,Zf,Zt,s0,e],rd2,hbut,hlen,by omega,by omega,fun _=>rfl⟩
  ·have e:((s.len:Int) == 0)=false:=by simp; omega
   have w2:IntKind.i64.wrap (((p + 1:Nat):Int) - 1)=(p:Int):=by rw [wr (by omega) (by omega)]; omega
   have byt:∀ i:Nat,(hi:i < l.length)→ldI .u8 H2 s.blk (s.off + i)=some l[i]∧0 ≤ l[i]∧l[i] ≤ 255:=fun i hi=>⟨reads_at hr2 i hi,h.byte _ (List.getElem_mem hi)⟩
   have hn0:¬ (n=0):=by omega
   by_cases c:(p:Int) < (s.len:Int)
   ·have hi:p < l.length:=by omega
    obtain ⟨b1,b2,b3⟩:=byt p hi
    have w3:IntKind.i64.wrap l[p]=l[p]:=wr (by omega) (by omega)
    have q0:(0:Int) ≤ (p:Int):=by omega
    refine ⟨(l[p]).tmod n,H2,?_,rd2,hbut,hlen,Int.tmod_nonneg _ b2,fun h1=>Int.tmod_lt_of_pos _ (by omega),fun h1=>?_⟩
    ·simp only [spec_l20Rd_pick.f,spec_l20Rd_pick.j0,spec_l20Rd_pick.j1,l1,l4,Zo,w1,w2,a1,hn,decide_false,decide_true,Za,Zf,Zt,s0,e,c,q0,Zn,Nat.mul_one,b1,hn0,if_false,w3]
    ·have:n=1:=by omega
     subst this; simp
   ·have hlpos:0 < l.length:=by omega
    have hsl0:¬ ((s.len:Int)=0):=by omega
    have q0:(0:Int) ≤ (p:Int):=by omega
    have m0:0 ≤ (p:Int).tmod (s.len:Int):=Int.tmod_nonneg _ q0
    have m1:(p:Int).tmod (s.len:Int) < (s.len:Int):=Int.tmod_lt_of_pos _ (by omega)
    have w4:IntKind.i64.wrap ((p:Int) * 7)=(p:Int) * 7:=wr (by omega) (by omega)
    have w5:IntKind.i64.wrap ((p:Int) * 7 + 3)=(p:Int) * 7 + 3:=wr (by omega) (by omega)
    have n0:0 ≤ ((p:Int) * 7 + 3).tmod (s.len:Int):=Int.tmod_nonneg _ (by omega)
    have n1:((p:Int) * 7 + 3).tmod (s.len:Int) < (s.len:Int):=Int.tmod_lt_of_pos _ (by omega)
    have w6:IntKind.i64.wrap ((p:Int) * 29)=(p:Int) * 29:=wr (by omega) (by omega)
    have d0:0 ≤ (p:Int).tdiv (s.len:Int):=Int.tdiv_nonneg q0 (by omega)
    have d1:(p:Int).tdiv (s.len:Int) ≤ (p:Int):=Int.tdiv_le_self _ q0
    generalize gdv:(p:Int).tdiv (s.len:Int)=dv at *
    generalize gi1:(p:Int).tmod (s.len:Int)=i1 at *
    generalize gi2:((p:Int) * 7 + 3).tmod (s.len:Int)=i2 at *
    obtain ⟨b1,b2,b3⟩:=byt i1.toNat (by omega)
    obtain ⟨c1,c2,c3⟩:=byt i2.toNat (by omega)
    generalize l[i1.toNat]=x1 at *
    generalize l[i2.toNat]=x2 at *
    have w7:IntKind.i64.wrap x1=x1:=wr (by omega) (by omega)
    have w8:IntKind.i64.wrap (x1 * 131)=x1 * 131:=wr (by omega) (by omega)
    have w9:IntKind.i64.wrap x2=x2:=wr (by omega) (by omega)
    have w10:IntKind.i64.wrap (x2 * 1117)=x2 * 1117:=wr (by omega) (by omega)
    have w11:IntKind.i64.wrap (x1 * 131 + x2 * 1117)=x1 * 131 + x2 * 1117:=wr (by omega) (by omega)
    have w12:IntKind.i64.wrap (x1 * 131 + x2 * 1117 + (p:Int) * 29)=x1 * 131 + x2 * 1117 + (p:Int) * 29:=wr (by omega) (by omega)
    have w13:IntKind.i64.wrap dv=dv:=wr (by omega) (by omega)
    have w14:IntKind.i64.wrap (dv * 53)=dv * 53:=wr (by omega) (by omega)
    have w15:IntKind.i64.wrap (x1 * 131 + x2 * 1117 + (p:Int) * 29 + dv * 53)=x1 * 131 + x2 * 1117 + (p:Int) * 29 + dv * 53:=wr (by omega) (by omega)
    have hX:0 ≤ x1 * 131 + x2 * 1117 + (p:Int) * 29 + dv * 53∧x1 * 131 + x2 * 1117 + (p:Int) * 29 + dv * 53 < 4611686018427387904:=by omega
    generalize gX:x1 * 131 + x2 * 1117 + (p:Int) * 29 + dv * 53=X at *
    have y0:0 ≤ X.tdiv 64:=Int.tdiv_nonneg hX.1 (by omega)
    have y1:X.tdiv 64 ≤ X:=Int.tdiv_le_self _ hX.1
    have w16:IntKind.i64.wrap (X.tdiv 64)=X.tdiv 64:=wr (by omega) (by omega)
    have hxor:=xor_nonneg hX (y:=X.tdiv 64) ⟨y0,by omega⟩
    refine ⟨(IntKind.i64.wrap (((BitVec.ofInt IntKind.i64.bits X ^^^ BitVec.ofInt IntKind.i64.bits (X.tdiv 64)).toNat:Int))).tmod n,H2,?_,rd2,hbut,hlen,Int.tmod_nonneg _ hxor,fun h1=>Int.tmod_lt_of_pos _ (by omega),fun h1=>?_⟩
    ·simp only [spec_l20Rd_pick.f,spec_l20Rd_pick.j0,spec_l20Rd_pick.j1,l1,l4,Zo,w1,w2,a1,hn,decide_false,decide_true,Za,Zf,Zt,s0,e,c,hsl0,if_false,m0,m1,n0,n1,Nat.mul_one,b1,c1,w4,w5,w6,w7,w8,w9,w10,w11,w12,w13,w14,w15,w16,hn0,gdv,gi1,gi2,gX]
    ·have:n=1:=by omega
     subst this; simp
theorem odd_ok {k:Nat} (hk:2 ≤ k) {b:Nat} {H:Hp} {l:List Int} {p:Nat} (h:RD b H l p) (hp:p ≤ 1000000000) {n:Int} (hn:n < 1000000) :
  ∃ v p' H',callF PP orc k spec_l20Rd_odd.id [.ptr b 0,.int .i64 n] H=some (.bool v,H')∧RD b H' l p'∧p' ≤ p + 1∧But b H H'∧H'.length=H.length∧(n ≤ 0→v=false):=by
 obtain ⟨k,rfl⟩:=Zs k (by omega)
 rw [spec_l20Rd_odd.call]
 by_cases c:n > 0
 ·obtain ⟨v,H',a1,a2,a3,a4,a5,a6,a7⟩:=pick_ok (show 1 ≤ k by omega) h hp n
  have w:IntKind.i64.wrap (n - 1)=n - 1:=wr (by omega) (by omega)
  exact ⟨v == n - 1,p + 1,H',by simp only [spec_l20Rd_odd.f,c,decide_true,Zt,a1,Zo,AV.toI,if_true,w],a2,by omega,a3,a4,by omega⟩
 ·exact ⟨false,p,H,by simp only [spec_l20Rd_odd.f,c,decide_false,Zf],h,by omega,fun _ _ _ h=>h,rfl,fun _=>rfl⟩
theorem reads_take {k:IntKind} {H:Hp} {s:Sl} {l:List Int} (h:Reads k H s l) (m:Nat) (hm:m ≤ l.length) (b:Bool):Reads k H (Sl.mk b s.blk s.off m) (l.take m):=
 ⟨by simp; omega,fun i hi=>by
  have hi':i < l.length:=by simp at hi; omega
  simpa using h.cell i hi'⟩
theorem l20Open_ok {k:Nat} (hk:1 ≤ k) {H:Hp} {s:Sl} {l:List Int} (hs:Reads .u8 H s l) (hb:∀ x ∈ l,0 ≤ x∧x ≤ 255) :
  ∃ l' H',callF PP orc k spec_l20Open.id [.sl 1 s] H=some (.ptr H.length 0,H')∧H <+: H'∧RD H.length H' l' 0∧H'.length=H.length + 1:=by
 obtain ⟨k,rfl⟩:=Zs k (by omega)
 rw [spec_l20Open.call]
 have hlen:=hs.len
 have lt:∀ {l:List Int} {s:Sl},Reads .u8 H s l→l ≠ []→s.blk ≠ H.length:=by
  intro l s h hl e
  have:=h.cell 0 (List.length_pos_iff.2 hl)
  unfold Hp.cell at this
  rw [e] at this
  simp at this
 have fin:∀ (s:Sl) (l:List Int),Reads .u8 H s l→l.length ≤ 2000→(∀ x ∈ l,0 ≤ x∧x ≤ 255)→RD H.length (H ++ [some (Blk.mk false [.sl 1 s,.int .i64 0])]) l 0:=fun s l h h1 h2=>
  ⟨⟨s,by simp,pf_reads (List.prefix_append _ _) h,lt h⟩,h1,h2⟩
 by_cases c:(s.len:Int) > 2000
 ·have ht:=reads_take hs 2000 (by omega) s.nil
  have e:Sl.mk s.nil s.blk (s.off + (0:Int).toNat * 1) ((2000:Int) - 0).toNat=Sl.mk s.nil s.blk s.off 2000:=rfl
  refine ⟨l.take 2000,_,?_,List.prefix_append _ _,fin _ _ ht (by simp; omega) (fun x hx=>hb x (List.mem_of_mem_take hx)),by simp⟩
  simp only [spec_l20Open.f,spec_l20Open.j0,c,decide_true,Zt,e]
  rw [if_pos ⟨⟨by omega,by omega,by omega,by trivial⟩,by omega,by trivial⟩]
 ·refine ⟨l,_,?_,List.prefix_append _ _,fin _ _ hs (by omega) hb,by simp⟩
  simp only [spec_l20Open.f,spec_l20Open.j0,c,decide_false,Zf]
theorem among {b:Nat} {H H':Hp} {c:List Int} {v:Int} (hbut:But b (H ++ [some (Blk.mk false (c.map (.int .i64)))]) H') (hb:b < H.length) (h0:0 ≤ v) (h1:v < (c.length:Int)):∃ x,ldI .i64 H' H.length (0 + v.toNat)=some x∧x ∈ c:=by
 obtain ⟨i,rfl⟩:=Int.eq_ofNat_of_zero_le h0
 have hi:i < c.length:=by omega
 have:=hbut _ _ (by omega:H.length ≠ b) (by simp:(H ++ [some (Blk.mk false (c.map (.int .i64)))])[H.length]?=some (some (Blk.mk false (c.map (.int .i64)))))
 refine ⟨c[i],?_,List.getElem_mem hi⟩
 unfold ldI Hp.cell
 rw [this]
 simp [hi,AV.toI]
theorem l20Size_ok {k:Nat} (hk:3 ≤ k) {b:Nat} {H:Hp} {l:List Int} {p:Nat} (h:RD b H l p) (hp:p ≤ 999999999) {n:Int} (hn:n < 1000000) :
  ∃ v p' H',callF PP orc k spec_l20Size.id [.ptr b 0,.int .i64 n] H=some (.int .i64 v,H')∧RD b H' l p'∧p' ≤ p + 2∧Adv b H H'∧-1 ≤ v∧v ≤ 5∧(n ≤ 0→2 ≤ v∧v ≤ 4):=by
 obtain ⟨k,rfl⟩:=Zs k (by omega)
 rw [spec_l20Size.call]
 obtain ⟨v,p1,H1,a1,a2,a3,a4,a5,a6⟩:=odd_ok (show 2 ≤ k by omega) h (by omega) hn
 have hb:=a2.lt
 cases v with
 | true=>
  have ho:∀ c:List AV,RD b (H1 ++ [some (Blk.mk false c)]) l p1:=fun c=>a2.pf (List.prefix_append _ _)
  obtain ⟨w,H2,b1,b2,b3,b4,b5,b6,b7⟩:=pick_ok (show 1 ≤ k by omega) (ho ([1,5,-1].map (.int .i64))) (by omega) 3
  obtain ⟨x,c1,c2⟩:=among b3 hb b5 (by have:=b6 (by omega); simpa using this)
  have c3:x=1 ∨ x=5 ∨ x=-1:=by simpa using c2
  have z:w < ((3:Nat):Int):=b6 (by omega)
  refine ⟨x,p1 + 1,H2,?_,b2,by omega,⟨fun c y hc hy=>b3 c y hc (pf_get (List.prefix_append _ _) (a4 c y hc hy)),by rw [b4]; simp; omega⟩,by omega,by omega,fun h=>by have:=a6 h; cases this⟩
  simp only [List.map_cons,List.map_nil] at b1
  simp only [spec_l20Size.f,a1,Zo,AV.toB,Zt,b1,AV.toI,if_true,b5,z,decide_true,Za,Nat.mul_one,c1]
 | false=>
  have ho:∀ c:List AV,RD b (H1 ++ [some (Blk.mk false c)]) l p1:=fun c=>a2.pf (List.prefix_append _ _)
  obtain ⟨w,H2,b1,b2,b3,b4,b5,b6,b7⟩:=pick_ok (show 1 ≤ k by omega) (ho ([2,3,3,4,4].map (.int .i64))) (by omega) 5
  obtain ⟨x,c1,c2⟩:=among b3 hb b5 (by have:=b6 (by omega); simpa using this)
  have c3:x=2 ∨ x=3 ∨ x=4:=by simpa using c2
  have z:w < ((5:Nat):Int):=b6 (by omega)
  refine ⟨x,p1 + 1,H2,?_,b2,by omega,⟨fun c y hc hy=>b3 c y hc (pf_get (List.prefix_append _ _) (a4 c y hc hy)),by rw [b4]; simp; omega⟩,by omega,by omega,fun h=>by omega⟩
  simp only [List.map_cons,List.map_nil] at b1
  simp only [spec_l20Size.f,a1,Zo,AV.toB,Zf,Zt,b1,AV.toI,if_true,b5,z,decide_true,Za,Nat.mul_one,c1]
theorem sto1' {H:Hp} {b:Nat} {x:AV} (hg:H[b]?=some (some ⟨false,[x]⟩)) (v:AV):∃ H',H.sto b 0 [v]=some H'∧H'[b]?=some (some ⟨false,[v]⟩)∧But b H H'∧H'.length=H.length:=by
 have hb:=(List.getElem?_eq_some_iff.1 hg).1
 refine ⟨H.set b (some ⟨false,[v]⟩),?_,by rw [List.getElem?_set_self hb],fun d x hd hx=>by rw [List.getElem?_set_ne (Ne.symm hd)]; exact hx,by simp⟩
 unfold Hp.sto
 rw [hg]
 simp
theorem read_ok {H:Hp} {s:Sl} {l:List Int} {k:IntKind} (h:Reads k H s l):H.read 1 s=some (l.map (.int k)):=by
 unfold Hp.read
 by_cases h0:s.len=0
 ·rw [if_pos h0]
  have:l=[]:=List.length_eq_zero_iff.1 (by rw [← h.len]; exact h0)
  subst this; rfl
 ·rw [if_neg h0]
  have hl:=h.len
  have hlast:=h.cell (l.length - 1) (by omega)
  unfold Hp.cell at hlast
  cases hx:H[s.blk]? with
  | none=>rw [hx] at hlast; simp at hlast
  | some x=>
   cases x with
   | none=>rw [hx] at hlast; simp at hlast
   | some x=>
    rw [hx] at hlast
    simp only at hlast
    have hb:=(List.getElem?_eq_some_iff.1 hlast).1
    simp only
    rw [if_pos (by omega)]
    congr 1
    apply List.ext_getElem?
    intro i
    by_cases hi:i < l.length
    ·have:=h.cell i hi
     unfold Hp.cell at this
     rw [hx] at this
     simp only at this
     rw [List.getElem?_take,if_pos (by omega),List.getElem?_drop,this]
     simp [hi]
    ·rw [List.getElem?_eq_none (by simp; omega),List.getElem?_eq_none (by simp; omega)]
theorem appl_ok (H:Hp) (l:List Int) (k:IntKind) (hl:l.length ≤ 1000000):H.appl 1 [] 0 l.length (l.map (.int k))=some (Sl.mk false H.length 0 l.length,H ++ [some (Blk.mk false (l.map (.int k)))]):=by
 unfold Hp.appl
 rw [if_pos (by simp; omega)]
 simp
theorem cells_ok (l:List Int) (k:IntKind):(l.map (AV.int k)).all AV.cell=true:=by
 simp [AV.cell]
/-! ### More of the kit -/
theorem mem_getD {l:List Int} {i:Nat} (h:i < l.length):l.getD i 0 ∈ l:=by
 rw [List.getD_eq_getElem?_getD,List.getElem?_eq_getElem h]; exact List.getElem_mem h
theorem own_set1 {H0 H:Hp} {s:Sl} {l:List Int} {k:IntKind} (h:Own 1 H0 H s (l.map (.int k))) (g:H0 <+: H) (i:Nat) (hi:i < l.length) (n:Int) :
  ∃ H',H.sto s.blk (s.off + i * 1) [.int k n]=some H'∧H0 <+: H'∧Own 1 H0 H' s ((l.set i n).map (.int k))∧Adv s.blk H H':=by
 obtain ⟨H',a1,a2,a3,a4,a5⟩:=own_set h g i hi n
 exact ⟨H',by rw [Nat.mul_one]; exact a1,a2,a3,⟨a4,by omega⟩⟩
theorem stable_ok {H H':Hp} {k:IntKind} {s:Sl} {l:List Int} (h:Reads k H s l) (h':Reads k H' s l) {i:Nat} (hi:i < l.length):stableB H H' s.blk (s.off + i * 1) 1=true:=by
 unfold stableB
 have e1:=h.cell i hi
 have e2:=h'.cell i hi
 simp [e1,e2,AV.same]
theorem own_lt' {sz:Nat} {H0 H:Hp} {s:Sl} {c:List AV} (h:Own sz H0 H s c):s.blk < H.length:=(List.getElem?_eq_some_iff.1 h.get).1
theorem copy_app {H:Hp} {s:Sl} {l:List Int} (hs:Reads .i64 H s l) (hl:l.length ≤ 1000) (v:Int) :
  ∃ H',(H ++ [some (Blk.mk false (l.map (.int .i64)))]).app 1 (Sl.mk false H.length 0 l.length) 1 [.int .i64 v]=some (Sl.mk false (H.length + 1) 0 (l.length + 1),H')∧H <+: H'∧Own 1 H H' (Sl.mk false (H.length + 1) 0 (l.length + 1)) ((l ++ [v]).map (.int .i64)):=by
 obtain ⟨H',a1,a2,a3,a4,a5⟩:=own_app1 (own_new 1 H (l.map (.int .i64)) l.length (by simp)) (List.prefix_append _ _) v (by simp only; omega)
 exact ⟨H',by simpa using a1,a2,by simpa using a3⟩
/-! ### Lengths and bounds of the model -/
def Ms (l:List Int):Prop:=∀ m ∈ l,M m
theorem Ms.at {l:List Int} (h:Ms l) (i:Nat):M (l.getD i 0):=by
 by_cases hi:i < l.length
 ·exact h _ (mem_getD hi)
 ·rw [List.getD_eq_getElem?_getD,List.getElem?_eq_none (by omega)]; exact ⟨by decide,by decide⟩
theorem Ms.set {l:List Int} (h:Ms l) (i:Nat) {v:Int} (hv:M v):Ms (l.set i v):=fun m hm=>by
 rcases List.mem_or_eq_of_mem_set hm with hm | hm
 ·exact h m hm
 ·rw [hm]; exact hv
theorem orFrom_ok {vals:List Int} (hv:Vals vals):∀ (j i:Nat) {fl:List Int},Ms fl→Ms (orFrom vals fl i j)∧(orFrom vals fl i j).length=fl.length
 | 0,i,fl,h=>⟨h,rfl⟩
 | j + 1,i,fl,h=>by
  have:=orFrom_ok hv j (i + 1) (fl:=fl.set i (mOr (fl.getD i 0) (pw (vals.getD i 0)))) (h.set i (M.or (h.at i) (M.pw (hv.at i).1 (hv.at i).2)))
  exact ⟨this.1,by rw [orFrom,this.2,List.length_set]⟩
theorem Vals.app {l:List Int} (h:Vals l) (hl:l.length < 4) {v:Int} (hv:0 ≤ v∧v ≤ 4):Vals (l ++ [v]):=
 ⟨by simp; omega,fun x hx=>by
  rcases List.mem_append.1 hx with hx | hx
  ·exact h.2 x hx
  ·simp at hx; rw [hx]; exact hv⟩
theorem ways_ok (h:List Int→Bool):∀ (ms vals fl:List Int),Vals vals→vals.length + ms.length ≤ 4→Ms fl→Ms (ways h ms vals fl)∧(ways h ms vals fl).length=fl.length
 | [],vals,fl,hv,_,hf=>by
  rw [ways]
  split
  ·exact orFrom_ok hv _ _ hf
  ·exact ⟨hf,rfl⟩
 | m :: ms,vals,fl,hv,hl,hf=>by
  rw [ways]
  have key:∀ (l:List Int) (fl:List Int),(∀ v ∈ l,1 ≤ v∧v ≤ 4)→Ms fl→Ms (l.foldl (fun f v=>ways h ms (vals ++ [v]) f) fl)∧(l.foldl (fun f v=>ways h ms (vals ++ [v]) f) fl).length=fl.length:=by
   intro l
   induction l with
   | nil=>intro fl _ hf; exact ⟨hf,rfl⟩
   | cons v l ih=>
    intro fl hl' hf
    have hv':=hl' v (by simp)
    simp only [Zl] at hl
    have:=ways_ok h ms (vals ++ [v]) fl (hv.app (by omega) ⟨by omega,hv'.2⟩) (by simp; omega) hf
    have h2:=ih _ (fun x hx=>hl' x (by simp [hx])) this.1
    exact ⟨h2.1,h2.2.trans this.2⟩
  exact key _ fl (fun v hv=>maskVals_mem hv) hf
/-! ### spec.l4Ways -/
theorem l4Ways_l0 (rec:Rec) (k:Nat) {H0:Hp} {vs fs:Sl} {vals:List Int} (hv:Vals vals) {n:Nat} (hn:n=vals.length) :
  ∀ (j i fuel:Nat) (H:Hp) (fl:List Int),i + j=n→j < fuel→H0 <+: H→Reads .i64 H vs vals→vs.blk ≠ fs.blk→Ms fl→n ≤ fl.length→Own 1 H0 H fs (fl.map (.int .i64)) →
   ∃ H',spec_l4Ways.l0 rec k fuel vs fs n i H=some (.tup [],H')∧H0 <+: H'∧Adv fs.blk H H'∧Own 1 H0 H' fs ((orFrom vals fl i j).map (.int .i64)):=by
 have hl:=hv.1
 intro j
 induction j with
 | zero=>
  intro i fuel H fl hi hf hp hs hne hm hfl ho
  obtain ⟨fuel,rfl⟩:=Zs fuel (by omega)
  exact ⟨H,by simp (disch:=omega) only [spec_l4Ways.l0,dt,df,bt,bf,nt,nf,Za,Zy,Zx,Zt,Zf,Zn,Zz,Zi,Zo,wr,AV.toB,AV.toI,AV.toS,if_true],hp,Adv.refl _ _,ho⟩
 | succ j ih=>
  intro i fuel H fl hi hf hp hs hne hm hfl ho
  obtain ⟨fuel,rfl⟩:=Zs fuel (by omega)
  have hfs:fs.len=fl.length:=by have:=ho.len; simpa using this
  have hvl:=hs.len
  obtain ⟨v0,v1⟩:=hv.at i
  obtain ⟨H1,a1,a2,a3,a4⟩:=own_set1 ho hp i (by omega) (mOr (fl.getD i 0) (pw (vals.getD i 0)))
  obtain ⟨H',b1,b2,b3,b4⟩:=ih (i + 1) fuel H1 _ (by omega) (by omega) a2 (a4.reads hne hs) hne (hm.set i (M.or (hm.at i) (M.pw v0 v1))) (by simpa using hfl) a3
  push_cast at b1
  refine ⟨H',?_,b2,a4.trans b3,b4⟩
  simp (disch:=omega) only [spec_l4Ways.l0,dt,df,bt,bf,nt,nf,Za,Zy,Zx,Zt,Zf,Zn,Zz,Zi,Zo,wr,AV.toB,AV.toI,AV.toS,if_true,rdn (own_reads ho),rdn hs,iN,m_shl v0,m_or (hm.at i) (M.pw v0 v1),a1,b1]
structure RuleAt (H:Hp) (cs ms:Sl) (kind:Int) (cells masks:List Int):Prop where
 rc:Reads .i64 H cs cells
 rm:Reads .i64 H ms masks
 cl:cells.length ≤ 4
 ci:∀ c ∈ cells,0 ≤ c∧c < (masks.length:Int)
 ml:masks.length ≤ 1000
 k2:(kind=1 ∨ kind=2 ∨ kind=3) ∨ 2 ≤ cells.length
theorem l4Ways_ok {kind value:Int} {cs ms fs:Sl} {H0:Hp} {cells masks:List Int} (hr:RuleAt H0 cs ms kind cells masks) :
  ∀ (rem k:Nat),2000010 + rem ≤ k→∀ (H:Hp) (vs:Sl) (vals fl:List Int),vals.length + rem=cells.length→H0 <+: H→Reads .i64 H vs vals→vs.blk ≠ fs.blk→Vals vals→fl.length=cells.length→Ms fl→Own 1 H0 H fs (fl.map (.int .i64)) →
   ∃ H',callF PP orc k spec_l4Ways.id [.agg [.int .i64 kind,.sl 1 cs,.int .i64 value],.sl 1 ms,.sl 1 vs,.sl 1 fs] H=some (.tup [],H')∧H0 <+: H'∧Adv fs.blk H H'∧Own 1 H0 H' fs ((ways (holdsV kind value) (ownOf masks (cells.drop vals.length)) vals fl).map (.int .i64)):=by
 have hcl:=hr.cl
 intro rem
 induction rem with
 | zero=>
  intro k hk H vs vals fl hl hp hs hne hv hfl hm ho
  obtain ⟨k,rfl⟩:=Zs k (by omega)
  rw [spec_l4Ways.call]
  have hc:=hr.rc.len
  have hvl:=hs.len
  have k2:=hr.k2
  have h1:=l4Holds_full (show 2000 ≤ k by omega) (kind:=kind) (value:=value) (cs:=cs) hs hv (by omega)
  have e:ownOf masks (cells.drop vals.length)=[]:=by rw [List.drop_eq_nil_of_le (by omega)]; rfl
  rw [e,ways]
  cases hh:holdsV kind value vals with
  | true=>
   rw [hh] at h1
   obtain ⟨H',b1,b2,b3,b4⟩:=l4Ways_l0 (callF PP orc k) k hv rfl vals.length 0 k H fl (by omega) (by omega) hp hs hne hm (by omega) ho
   refine ⟨H',?_,b2,b3,b4⟩
   simp only [Int.natCast_zero] at b1
   simp (disch:=omega) only [spec_l4Ways.f,dt,df,bt,bf,nt,nf,Za,Zy,Zx,Zt,Zf,Zn,Zz,Zi,Zo,wr,AV.toB,AV.toI,AV.toS,if_true,h1,hvl,b1]
  | false=>
   rw [hh] at h1
   refine ⟨H,?_,hp,Adv.refl _ _,by simpa using ho⟩
   simp (disch:=omega) only [spec_l4Ways.f,dt,df,bt,bf,nt,nf,Za,Zy,Zx,Zt,Zf,Zn,Zz,Zi,Zo,wr,AV.toB,AV.toI,AV.toS,if_true,h1]
 | succ rem ih=>
  intro k hk H vs vals fl hl hp hs hne hv hfl hm ho
  obtain ⟨k,rfl⟩:=Zs k (by omega)
  rw [spec_l4Ways.call]
  have hc:=hr.rc.len
  have hml:=hr.rm.len
  have hvl:=hs.len
  have hcv:vals.length < cells.length:=by omega
  obtain ⟨c0,c1⟩:=hr.ci _ (mem_getD hcv)
  have hfb:=own_lt' ho
  obtain ⟨ls,H1,a1,a2,a3⟩:=MaskValues_ok (show 2000000 ≤ k by omega) (masks.getD (cells.getD vals.length 0).toNat 0) H
  have hd:ownOf masks (cells.drop vals.length)=masks.getD (cells.getD vals.length 0).toNat 0 :: ownOf masks (cells.drop (vals.length + 1)):=by
   rw [List.drop_eq_getElem_cons hcv]
   have:cells.getD vals.length 0=cells[vals.length]:=by simp [List.getD_eq_getElem?_getD,hcv]
   rw [this]; rfl
  rw [hd,ways]
  generalize hmv:maskVals (masks.getD (cells.getD vals.length 0).toNat 0)=L at a3 ⊢
  have hL:∀ v ∈ L,1 ≤ v∧v ≤ 4:=fun v h=>maskVals_mem (hmv ▸ h)
  have hL4:L.length ≤ 4:=by
   rw [← hmv]; unfold maskVals; split
   ·simp only [mvFrom]; repeat' split
    all_goals simp
   ·simp
  have hlb:ls.blk ≠ fs.blk:=by have:=a3.blk; omega
  have loop:∀ (j i fuel:Nat) (Hc:Hp) (fl:List Int),i + j=L.length→j < fuel→H0 <+: Hc→Adv fs.blk H1 Hc→fl.length=cells.length→Ms fl→Own 1 H0 Hc fs (fl.map (.int .i64)) →
    ∃ H',spec_l4Ways.l1 (callF PP orc k) k fuel ms vs fs ls i kind cs value Hc=some (.tup [],H')∧H0 <+: H'∧Adv fs.blk Hc H'∧Own 1 H0 H' fs (((L.drop i).foldl (fun f v=>ways (holdsV kind value) (ownOf masks (cells.drop (vals.length + 1))) (vals ++ [v]) f) fl).map (.int .i64)):=by
   intro j
   induction j with
   | zero=>
    intro i fuel Hc fl hi hf hp' hadv hfl hm ho
    obtain ⟨fuel,rfl⟩:=Zs fuel (by omega)
    have hll:=(own_reads a3).len
    rw [show L.drop i=[] from List.drop_eq_nil_of_le (by omega)]
    exact ⟨Hc,by simp (disch:=omega) only [spec_l4Ways.l1,dt,df,bt,bf,nt,nf,Za,Zy,Zx,Zt,Zf,Zn,Zz,Zi,Zo,wr,AV.toB,AV.toI,AV.toS,if_true],hp',Adv.refl _ _,ho⟩
   | succ j ihj=>
    intro i fuel Hc fl hi hf hp' hadv hfl hm ho
    obtain ⟨fuel,rfl⟩:=Zs fuel (by omega)
    have hll:=(own_reads a3).len
    have hi2:i < L.length:=by omega
    have rl:=hadv.reads hlb (own_reads a3)
    have rv:=hadv.reads hne (pf_reads a2 hs)
    obtain ⟨w0,w1⟩:=hL _ (mem_getD hi2)
    obtain ⟨H2,d1,d2,d3⟩:=copy_app rv (by omega) (L.getD i 0)
    have hst:=stable_ok rl (pf_reads (List.prefix_append Hc [some (Blk.mk false (vals.map (.int .i64)))]) rl) hi2
    have hw:=ways_ok (holdsV kind value) (ownOf masks (cells.drop (vals.length + 1))) (vals ++ [L.getD i 0]) fl (hv.app (by omega) ⟨by omega,w1⟩) (by simp [ownOf]; omega) hm
    obtain ⟨H3,e1,e2,e3,e4⟩:=ih k (by omega) H2 (Sl.mk false (Hc.length + 1) 0 (vals.length + 1)) (vals ++ [L.getD i 0]) fl (by simp; omega) (hp'.trans d2) (own_reads d3) (by have:=own_lt' ho; simp only; omega) (hv.app (by omega) ⟨by omega,w1⟩) hfl hm (own_pf ho d2)
    rw [List.length_append,List.length_singleton] at e4
    have adv3:Adv fs.blk Hc H3:=(pf_adv d2).trans e3
    obtain ⟨H',f1,f2,f3,f4⟩:=ihj (i + 1) fuel H3 _ (by omega) (by omega) e2 (hadv.trans adv3) (by rw [hw.2]; exact hfl) hw.1 e4
    push_cast at f1
    have hdl:L.drop i=L.getD i 0 :: L.drop (i + 1):=by
     rw [List.drop_eq_getElem_cons hi2,List.getD_eq_getElem?_getD,List.getElem?_eq_getElem hi2]; rfl
    rw [hdl,List.foldl_cons]
    refine ⟨H',?_,f2,adv3.trans f3,f4⟩
    simp (disch:=omega) only [spec_l4Ways.l1,dt,df,bt,bf,nt,nf,Za,Zy,Zx,Zt,Zf,Zn,Zz,Zi,Zo,wr,AV.toB,AV.toI,AV.toS,if_true,rdn rl,read_ok rv,hvl,appl_ok,cells_ok,hst,d1,e1,f1]
  obtain ⟨H',f1,f2,f3,f4⟩:=loop L.length 0 k H1 fl (by omega) (by omega) (hp.trans a2) (Adv.refl _ _) hfl hm (own_pf ho a2)
  refine ⟨H',?_,f2,(pf_adv a2).trans f3,f4⟩
  simp only [Int.natCast_zero] at f1
  simp (disch:=omega) only [spec_l4Ways.f,dt,df,bt,bf,nt,nf,Za,Zy,Zx,Zt,Zf,Zn,Zz,Zi,Zo,wr,AV.toB,AV.toI,AV.toS,if_true,hvl,rdn (pf_reads hp hr.rc),rdn (pf_reads hp hr.rm),a1,f1]
end Go.Proofs.Ytchliocobgkmbaa.Rp
