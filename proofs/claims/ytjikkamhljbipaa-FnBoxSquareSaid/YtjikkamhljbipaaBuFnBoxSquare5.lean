/- Texts for the row of the law FnBoxSquare, part 5: the plain machine, the program's functions on it, what they come to. No conditions. -/
import Derived.Test.YtjikkamhljbipaaAy
import Derived.Test.YtjikkamhljbipaaBuFnBoxSquare0
import Derived.IntWalk
import Derived.Test.YtjikkamhljbipaaBuFnBoxSquare1
import Derived.Test.YtjikkamhljbipaaBuFnBoxSquare2
import Derived.Test.YtjikkamhljbipaaBuFnBoxSquare3
set_option linter.unusedVariables false
set_option linter.unusedSimpArgs false
namespace Go.Proofs.Ytjikkamhljbipaa.Rp
open Go Go.RowKit Go.Proofs.Ytjikkamhljbipaa.Ab
theorem Zo {A B:Type _} (a:A) (f:A→Option B):(some a).bind f=f a:=rfl
theorem Zn (n:Nat):(n:Int).toNat=n:=rfl
theorem Za (b:Bool):(b && b)=b:=Bool.and_self b
theorem Zf {A:Sort _} (a b:A):cond false a b=b:=rfl
theorem Zt {A:Sort _} (a b:A):cond true a b=a:=rfl
theorem Zx:(!false)=true:=rfl
theorem Zy:(!true)=false:=rfl
theorem Zz:(0:Int).toNat=0:=rfl
theorem Zi:(1:Int).toNat=1:=rfl
theorem Zl {A:Type _} {a:A} {l:List A}:(a :: l).length=l.length + 1:=rfl
theorem Zm {A:Type _}:([]:List A).length=0:=rfl
theorem Zc {A:Type _} {x d:A} {l:List A}:(x :: l).getD 0 d=x:=rfl
theorem Zd {A:Type _} {n:Nat} {x d:A} {l:List A}:(x :: l).getD (n + 1) d=l.getD n d:=List.getD_cons_succ
theorem Zs (n:Nat) (h:0 < n):∃ q,n=q + 1:=⟨n - 1,by omega⟩
theorem wr {n:Int} (h1:-9223372036854775808 ≤ n) (h2:n ≤ 9223372036854775807):IntKind.i64.wrap n=n:=by
 rw [IntWalk.i64_left]; exact IntWalk.wrap64_in n ⟨h1,h2⟩
theorem wrs {i:Nat} (h:i < 4611686018427387904):IntKind.i64.wrap ((i:Int) + 1)=(i:Int) + 1:=wr (by omega) (by omega)
theorem pf_get {H H':Hp} (g:H <+: H') {b:Nat} {x:Option Blk} (h:H[b]?=some x):H'[b]?=some x:=by
 obtain ⟨T,rfl⟩:=g
 have hb:=(List.getElem?_eq_some_iff.1 h).1
 rw [List.getElem?_append_left hb]; exact h
theorem pf_cell {H H':Hp} (g:H <+: H') {b o:Nat} {v:AV} (h:H.cell b o=some v):H'.cell b o=some v:=by
 unfold Hp.cell at h ⊢
 split at h
 ·rename_i x hx; rw [pf_get g hx]; exact h
 ·simp at h
theorem pf_reads {H H':Hp} (g:H <+: H') {k:IntKind} {s:Sl} {l:List Int} (h:Reads k H s l):Reads k H' s l:=⟨h.len,fun i hi=>pf_cell g (h.cell i hi)⟩
theorem reads_at {H:Hp} {k:IntKind} {s:Sl} {l:List Int} (h:Reads k H s l) (i:Nat) (hi:i < l.length):ldI k H s.blk (s.off + i)=some l[i]:=by
 unfold ldI
 rw [h.cell i hi]
 simp [AV.toI]
theorem reads_nil {H:Hp} {k:IntKind} {s:Sl} (h:s.len=0):Reads k H s []:=⟨h,fun i hi=>absurd hi (Nat.not_lt_zero _)⟩
structure Own (sz:Nat) (H0 H:Hp) (s:Sl) (c:List AV):Prop where
 nn:s.nil=false
 off:s.off=0
 blk:H0.length ≤ s.blk
 get:H[s.blk]?=some (some ⟨false,c⟩)
 len:s.len * sz=c.length
def But (b:Nat) (H H':Hp):Prop:=∀ (c:Nat) (x:Option Blk),c ≠ b→H[c]?=some x→H'[c]?=some x
theorem But.pf {b:Nat} {H H' H0:Hp} (h:But b H H') (hb:H0.length ≤ b) (g:H0 <+: H) (hl:H.length ≤ H'.length):H0 <+: H':=by
 have hl0:=g.length_le
 rw [List.prefix_iff_eq_take]
 apply List.ext_getElem?
 intro i
 by_cases hi:i < H0.length
 ·rw [List.getElem?_take,if_pos hi]
  have e:=List.getElem?_eq_getElem hi
  rw [e,h i _ (by omega) (pf_get g e)]
 ·rw [List.getElem?_eq_none (by omega),List.getElem?_eq_none (by simp; omega)]
theorem But.cell {b:Nat} {H H':Hp} (h:But b H H') {c o:Nat} (hc:c ≠ b) {v:AV} (hv:H.cell c o=some v):H'.cell c o=some v:=by
 unfold Hp.cell at hv ⊢
 split at hv
 ·rename_i x hx; rw [h c _ hc hx]; exact hv
 ·simp at hv
theorem But.reads {b:Nat} {H H':Hp} (h:But b H H') {k:IntKind} {s:Sl} {l:List Int} (hs:s.blk ≠ b) (hr:Reads k H s l):Reads k H' s l:=⟨hr.len,fun i hi=>h.cell hs (hr.cell i hi)⟩
theorem But.own {b:Nat} {H H' H0:Hp} (h:But b H H') {sz:Nat} {s:Sl} {c:List AV} (hs:s.blk ≠ b) (hr:Own sz H0 H s c):Own sz H0 H' s c:=⟨hr.nn,hr.off,hr.blk,h _ _ hs hr.get,hr.len⟩
theorem own_cell {sz:Nat} {H0 H:Hp} {s:Sl} {c:List AV} (h:Own sz H0 H s c) (i:Nat):H.cell s.blk (s.off + i)=c[i]?:=by
 unfold Hp.cell; rw [h.get,h.off]; simp
theorem own_reads {k:IntKind} {H0 H:Hp} {s:Sl} {l:List Int} (h:Own 1 H0 H s (l.map (.int k))):Reads k H s l:=
 ⟨by have:=h.len; simpa using this,fun i hi=>by rw [own_cell h]; simp [hi]⟩
theorem own_pf {sz:Nat} {H0 H H':Hp} {s:Sl} {c:List AV} (h:Own sz H0 H s c) (g:H <+: H'):Own sz H0 H' s c:=⟨h.nn,h.off,h.blk,pf_get g h.get,h.len⟩
theorem own_base {sz:Nat} {H0 H1 H:Hp} {s:Sl} {c:List AV} (h:Own sz H1 H s c) (g:H0 <+: H1):Own sz H0 H s c:=⟨h.nn,h.off,Nat.le_trans g.length_le h.blk,h.get,h.len⟩
theorem own_new (sz:Nat) (H:Hp) (c:List AV) (n:Nat) (hn:n * sz=c.length):Own sz H (H ++ [some ⟨false,c⟩]) (Sl.mk false H.length 0 n) c:=⟨rfl,rfl,Nat.le_refl _,by simp,hn⟩
theorem own_sto {sz:Nat} {H0 H:Hp} {s:Sl} {c:List AV} (h:Own sz H0 H s c) (g:H0 <+: H) (o:Nat) (vs:List AV) (ho:o + vs.length ≤ c.length) :
  ∃ H',H.sto s.blk (s.off + o) vs=some H'∧H0 <+: H'∧Own sz H0 H' s (c.take o ++ vs ++ c.drop (o + vs.length))∧But s.blk H H'∧H'.length=H.length:=by
 have hb:=(List.getElem?_eq_some_iff.1 h.get).1
 have hbut:But s.blk H (H.set s.blk (some ⟨false,c.take o ++ vs ++ c.drop (o + vs.length)⟩)):=fun d x hd hx=>by rw [List.getElem?_set_ne (Ne.symm hd)]; exact hx
 refine ⟨H.set s.blk (some ⟨false,c.take o ++ vs ++ c.drop (o + vs.length)⟩),?_,hbut.pf h.blk g (by simp),⟨h.nn,h.off,h.blk,?_,?_⟩,hbut,by simp⟩
 ·unfold Hp.sto
  rw [h.get,h.off]
  simp [ho]
 ·rw [List.getElem?_set_self hb]
 ·rw [h.len]; simp; omega
theorem own_app {sz:Nat} {H0 H:Hp} {s:Sl} {c:List AV} (h:Own sz H0 H s c) (g:H0 <+: H) (n:Nat) (vs:List AV) (hn:0 < n) (hl:s.len + n ≤ 1073741824) (h1:sz ≤ 1024) (h2:0 < sz) (hv:vs.length=n * sz) :
  ∃ H',H.app sz s n vs=some (Sl.mk false H.length 0 (s.len + n),H')∧H0 <+: H'∧Own sz H0 H' (Sl.mk false H.length 0 (s.len + n)) (c ++ vs)∧But s.blk H H'∧H'.length=H.length + 1:=by
 have hb:=(List.getElem?_eq_some_iff.1 h.get).1
 have hbut:But s.blk H (H.set s.blk none ++ [some ⟨false,c ++ vs⟩]):=fun d x hd hx=>by
  have hd':=(List.getElem?_eq_some_iff.1 hx).1
  rw [List.getElem?_append_left (by simpa using hd'),List.getElem?_set_ne (Ne.symm hd)]; exact hx
 refine ⟨H.set s.blk none ++ [some ⟨false,c ++ vs⟩],?_,hbut.pf h.blk g (by simp),⟨rfl,rfl,?_,by simp,?_⟩,hbut,by simp⟩
 ·unfold Hp.app
  rw [if_pos ⟨hl,h1,h2,hv⟩,if_neg (by omega),h.nn,h.get]
  simp only [Bool.false_eq_true,if_false]
  rw [if_pos ⟨trivial,h.off,h.len⟩]
 ·exact g.length_le
 ·simp only [List.length_append]; rw [Nat.add_mul,h.len,hv]
theorem own_app1 {H0 H:Hp} {s:Sl} {l:List Int} {k:IntKind} (h:Own 1 H0 H s (l.map (.int k))) (g:H0 <+: H) (n:Int) (hl:s.len < 1073741824) :
  ∃ H',H.app 1 s 1 [.int k n]=some (Sl.mk false H.length 0 (s.len + 1),H')∧H0 <+: H'∧Own 1 H0 H' (Sl.mk false H.length 0 (s.len + 1)) ((l ++ [n]).map (.int k))∧But s.blk H H'∧H'.length=H.length + 1:=by
 have:=own_app h g 1 [.int k n] (by omega) (by omega) (by omega) (by omega) rfl
 simpa using this
theorem own_set {H0 H:Hp} {s:Sl} {l:List Int} {k:IntKind} (h:Own 1 H0 H s (l.map (.int k))) (g:H0 <+: H) (i:Nat) (hi:i < l.length) (n:Int) :
  ∃ H',H.sto s.blk (s.off + i) [.int k n]=some H'∧H0 <+: H'∧Own 1 H0 H' s ((l.set i n).map (.int k))∧But s.blk H H'∧H'.length=H.length:=by
 obtain ⟨H',a1,a2,a3,a4⟩:=own_sto h g i [.int k n] (by simp; omega)
 refine ⟨H',a1,a2,?_,a4⟩
 have e:(l.set i n).map (AV.int k)=(l.map (.int k)).take i ++ [.int k n] ++ (l.map (.int k)).drop (i + 1):=by
  rw [List.set_eq_take_append_cons_drop,if_pos hi]; simp
 rw [e]; exact a3
theorem dand (H:Hp) (a b:Prop) [Decidable a] [Decidable b]:(bif decide a then some (AV.bool (decide b),H) else some (AV.bool false,H))=some (AV.bool (decide (a∧b)),H):=by
 by_cases a <;> by_cases b <;> simp [*]
theorem sizeOk_ok {k:Nat} (hk:1 ≤ k) (n:Int) (H:Hp):callF PP orc k impl_sizeOk.id [.int .i64 n] H=some (.bool (decide (2 ≤ n∧n ≤ 4)),H):=by
 obtain ⟨k,rfl⟩:=Zs k (by omega)
 rw [impl_sizeOk.call]
 exact dand H (n ≥ 2) (n ≤ 4)
theorem l1In_ok {k:Nat} (hk:1 ≤ k) (n a b:Int) (H:Hp):callF PP orc k spec_l1In.id [.int .i64 n,.int .i64 a,.int .i64 b] H=some (.bool (decide (a ≤ n∧n ≤ b)),H):=by
 obtain ⟨k,rfl⟩:=Zs k (by omega)
 rw [spec_l1In.call]
 exact dand H (n ≥ a) (n ≤ b)
def gridOk (l:List Int) (n:Int):Bool:=decide (2 ≤ n∧n ≤ 4) && decide ((l.length:Int)=n * n) && l.all fun v=>decide (0 ≤ v) && decide (v ≤ n)
theorem gridOk_iff (l:List Int) (n:Int):gridOk l n=true ↔ (2 ≤ n∧n ≤ 4)∧(l.length:Int)=n * n∧∀ v ∈ l,0 ≤ v∧v ≤ n:=by
 simp [gridOk,and_assoc]
theorem gridOk_len {l:List Int} {n:Int} (h:gridOk l n=true):l.length ≤ 16:=by
 obtain ⟨⟨h1,h2⟩,h3,_⟩:=(gridOk_iff l n).1 h
 have:n=2 ∨ n=3 ∨ n=4:=by omega
 rcases this with rfl | rfl | rfl <;> omega
theorem all_drop {p:Int→Bool} (l:List Int) (i:Nat) (h:i < l.length):(l.drop i).all p=(p l[i] && (l.drop (i + 1)).all p):=by
 rw [List.drop_eq_getElem_cons h]; rfl
theorem implGridValid_l2 (rec:Rec) (k:Nat) {H:Hp} {s:Sl} {l:List Int} {m:Int} (hr:Reads .i64 H s l) (hl:l.length ≤ 1048576) :
  ∀ (j i n:Nat),i + j=l.length→j < n→impl_GridValid.l2 rec k n m s l.length i H=some (.bool ((l.drop i).all fun v=>decide (0 ≤ v) && decide (v ≤ m)),H):=by
 intro j
 induction j with
 | zero=>
  intro i n hi hn
  obtain ⟨n,rfl⟩:=Zs n (by omega)
  simp [impl_GridValid.l2,show ¬ i < l.length by omega,List.drop_eq_nil_of_le (show l.length ≤ i by omega)]
 | succ j ih=>
  intro i n hi hn
  obtain ⟨n,rfl⟩:=Zs n (by omega)
  have h1:=hr.len
  have h2:i < l.length:=by omega
  have h3:=reads_at hr i h2
  have h4:=wrs (i:=i) (by omega)
  have h5:=ih (i + 1) n (by omega) (by omega)
  push_cast at h5
  rw [all_drop l i h2]
  by_cases c1:l[i] < 0
  ·simp [impl_GridValid.l2,impl_GridValid.j3,impl_GridValid.j4,h1,h2,h3,c1,show ¬ 0 ≤ l[i] by omega]
  ·by_cases c2:l[i] > m
   ·simp [impl_GridValid.l2,impl_GridValid.j3,impl_GridValid.j4,h1,h2,h3,c1,c2,show ¬ l[i] ≤ m by omega]
   ·simp [impl_GridValid.l2,impl_GridValid.j3,impl_GridValid.j4,h1,h2,h3,c1,c2,h4,h5,show 0 ≤ l[i] by omega,show l[i] ≤ m by omega]
theorem implGridValid_ok {k:Nat} (hk:2000000 ≤ k) {H:Hp} {s:Sl} {l:List Int} (hr:Reads .i64 H s l) (hl:l.length ≤ 1048576) (m:Int) :
  callF PP orc k impl_GridValid.id [.sl 1 s,.int .i64 m] H=some (.bool (gridOk l m),H):=by
 obtain ⟨k,rfl⟩:=Zs k (by omega)
 rw [impl_GridValid.call]
 have h1:=hr.len
 by_cases c:2 ≤ m∧m ≤ 4
 ·have h2:IntKind.i64.wrap (m * m)=m * m:=by
   have:m=2 ∨ m=3 ∨ m=4:=by omega
   rcases this with rfl | rfl | rfl <;> exact wr (by decide) (by decide)
  have h3:=implGridValid_l2 (callF PP orc k) k (m:=m) hr hl l.length 0 k (by omega) (by omega)
  by_cases c2:(l.length:Int)=m * m
  ·have:((l.length:Int) != m * m)=false:=by simp [c2]
   simp only [impl_GridValid.f,sizeOk_ok (show 1 ≤ k by omega),c,Zo,AV.toB,h1,h2,this,impl_GridValid.j0,impl_GridValid.j1]
   simpa [gridOk,c,c2] using h3
  ·have:((l.length:Int) != m * m)=true:=by simp [c2]
   simp [impl_GridValid.f,sizeOk_ok (show 1 ≤ k by omega),c,AV.toB,h1,h2,this,impl_GridValid.j0,gridOk,c2]
 ·simp [impl_GridValid.f,sizeOk_ok (show 1 ≤ k by omega),c,AV.toB,impl_GridValid.j0,gridOk]
def filled (l:List Int):Nat:=l.countP fun v=>decide (v > 0)
theorem count_drop {p:Int→Bool} (l:List Int) (i:Nat) (h:i < l.length):(l.drop i).countP p=(l.drop (i + 1)).countP p + (if p l[i]=true then 1 else 0):=by
 rw [List.drop_eq_getElem_cons h,List.countP_cons]
theorem implGridFilled_l0 (rec:Rec) (k:Nat) {H:Hp} {s:Sl} {l:List Int} (hr:Reads .i64 H s l) (hl:l.length ≤ 1048576) :
  ∀ (j i n c:Nat),i + j=l.length→j < n→c ≤ i→impl_GridFilled.l0 rec k n c s l.length i H=some (.int .i64 ((c + (l.drop i).countP fun v=>decide (v > 0):Nat):Int),H):=by
 intro j
 induction j with
 | zero=>
  intro i n c hi hn hc
  obtain ⟨n,rfl⟩:=Zs n (by omega)
  simp [impl_GridFilled.l0,impl_GridFilled.j2,show ¬ i < l.length by omega,List.drop_eq_nil_of_le (show l.length ≤ i by omega)]
 | succ j ih=>
  intro i n c hi hn hc
  obtain ⟨n,rfl⟩:=Zs n (by omega)
  have h1:=hr.len
  have h2:i < l.length:=by omega
  have h3:=reads_at hr i h2
  have h4:=wrs (i:=i) (by omega)
  have h6:=wrs (i:=c) (by omega)
  rw [count_drop l i h2]
  by_cases c1:l[i] > 0
  ·have h5:=ih (i + 1) n (c + 1) (by omega) (by omega) (by omega)
   push_cast at h5
   simp [impl_GridFilled.l0,impl_GridFilled.j1,h1,h2,h3,c1,h4,h6,h5]
   omega
  ·have h5:=ih (i + 1) n c (by omega) (by omega) (by omega)
   push_cast at h5
   simp [impl_GridFilled.l0,impl_GridFilled.j1,h1,h2,h3,c1,h4,h5]
theorem implGridFilled_ok {k:Nat} (hk:2000001 ≤ k) {H:Hp} {s:Sl} {l:List Int} (hr:Reads .i64 H s l) (hl:l.length ≤ 1048576) (m:Int) :
  callF PP orc k impl_GridFilled.id [.sl 1 s,.int .i64 m] H=some (.int .i64 (if gridOk l m=true then (filled l:Int) else -1),H):=by
 obtain ⟨k,rfl⟩:=Zs k (by omega)
 rw [impl_GridFilled.call]
 have h1:=hr.len
 have:=implGridFilled_l0 (callF PP orc k) k hr hl l.length 0 k 0 (by omega) (by omega) (by omega)
 simp at this
 by_cases c:gridOk l m=true
 ·simpa [impl_GridFilled.f,implGridValid_ok (show 2000000 ≤ k by omega) hr hl,AV.toB,c,h1,filled] using this
 ·simp [impl_GridFilled.f,implGridValid_ok (show 2000000 ≤ k by omega) hr hl,AV.toB,c]
theorem Index_l0 (rec:Rec) (k:Nat) {H:Hp} {s:Sl} {l:List Int} {v:Int} (hs:Reads .i64 H s l) (hl:l.length ≤ 1048576) :
  ∀ (j i fuel:Nat),i + j=l.length→j < fuel→∃ r,slices_Index_int.l0 rec k fuel s v l.length i H=some (.int .i64 r,H)∧decide (r ≥ 0)=(l.drop i).contains v:=by
 intro j
 induction j with
 | zero=>
  intro i fuel hi hf
  obtain ⟨fuel,rfl⟩:=Zs fuel (by omega)
  refine ⟨-1,?_,by rw [List.drop_eq_nil_of_le (by omega)]; rfl⟩
  have:¬ ((i:Int) < (l.length:Int)):=by omega
  simp only [slices_Index_int.l0,this,decide_false,Zf]
 | succ j ih=>
  intro i fuel hi hf
  obtain ⟨fuel,rfl⟩:=Zs fuel (by omega)
  have h2:i < l.length:=by omega
  have h3:=reads_at hs i h2
  have h4:=wrs (i:=i) (by omega)
  have q0:(0:Int) ≤ (i:Int):=by omega
  have q1:(i:Int) < (l.length:Int):=by omega
  have q2:(i:Int) < (s.len:Int):=by rw [hs.len]; omega
  rw [List.drop_eq_getElem_cons h2,List.contains_cons]
  cases c:(v == l[i]) with
  | true=>
   refine ⟨i,?_,by simp⟩
   simp only [slices_Index_int.l0,q0,q1,q2,decide_true,Za,Zt,Zn,Nat.mul_one,h3,Zo,c]
  | false=>
   obtain ⟨r,a1,a2⟩:=ih (i + 1) fuel (by omega) (by omega)
   push_cast at a1
   refine ⟨r,?_,by rw [a2,Bool.false_or]⟩
   simp only [slices_Index_int.l0,q0,q1,q2,decide_true,Za,Zt,Zf,Zn,Nat.mul_one,h3,Zo,c,h4,a1]
theorem Contains_ok {k:Nat} (hk:2000001 ≤ k) {H:Hp} {s:Sl} {l:List Int} (v:Int) (hs:Reads .i64 H s l) (hl:l.length ≤ 1048576) :
  callF PP orc k slices_Contains_int.id [.sl 1 s,.int .i64 v] H=some (.bool (l.contains v),H):=by
 obtain ⟨k,rfl⟩:=Zs k (by omega)
 rw [slices_Contains_int.call]
 obtain ⟨k,rfl⟩:=Zs k (by omega)
 obtain ⟨r,a1,a2⟩:=Index_l0 (callF PP orc k) k (v:=v) hs hl l.length 0 k (by omega) (by omega)
 have e:callF PP orc (k + 1) slices_Index_int.id [.sl 1 s,.int .i64 v] H=some (.int .i64 r,H):=by
  rw [slices_Index_int.call]
  simp only [slices_Index_int.f,hs.len]
  exact a1
 simp only [slices_Contains_int.f,e,Zo,AV.toI,if_true,a2,List.drop_zero]
def cellsOk (n:Int) (cells:List Int):Nat→Nat→Bool
 | _,0=>true
 | i,j + 1=>decide (0 ≤ cells.getD i 0∧cells.getD i 0 ≤ n * n - 1) && (!(cells.take i).contains (cells.getD i 0) && cellsOk n cells (i + 1) j)
def kindOk (n kind value:Int) (len:Nat):Bool:=
 if kind=1 then decide (2 ≤ len∧len ≤ 4∧value=0) else if kind=2 ∨ kind=3 then decide (1 ≤ len∧len ≤ 4∧1 ≤ value∧value ≤ n * n * n * n)
 else if kind=4 then decide (len=2∧value=0) else if kind=5 then decide (len=2∧0 ≤ value∧value < n) else false
def ruleOk (n kind:Int) (cells:List Int) (value:Int):Bool:=cellsOk n cells 0 cells.length && kindOk n kind value cells.length
theorem n4_wraps {n:Int} (hn:2 ≤ n∧n ≤ 4):IntKind.i64.wrap (n * n)=n * n∧IntKind.i64.wrap (n * n - 1)=n * n - 1∧IntKind.i64.wrap (n * n * n)=n * n * n∧IntKind.i64.wrap (n * n * n * n)=n * n * n * n:=by
 have:n=2 ∨ n=3 ∨ n=4:=by omega
 rcases this with rfl | rfl | rfl <;> exact ⟨wr (by decide) (by decide),wr (by decide) (by decide),wr (by decide) (by decide),wr (by decide) (by decide)⟩
theorem implRule_j2 (rec:Rec) (k:Nat) {n kind value:Int} {cs:Sl} {H:Hp} {len:Nat} (hn:2 ≤ n∧n ≤ 4) (hl:cs.len=len) :
  impl_RuleValid.j2 rec k n kind cs value H=some (.bool (kindOk n kind value len),H):=by
 obtain ⟨w1,_,w3,w4⟩:=n4_wraps hn
 subst hl
 unfold kindOk
 have b1:∀ x:Int,(kind == x)=decide (kind=x):=fun x=>by rw [Bool.eq_iff_iff]; simp
 have b2:(value == 0)=decide (value=0):=by rw [Bool.eq_iff_iff]; simp
 have b3:((cs.len:Int) == 2)=decide (cs.len=2):=by rw [Bool.eq_iff_iff]; simp; omega
 have b4:decide ((cs.len:Int) ≥ 2)=decide (2 ≤ cs.len):=decide_eq_decide.2 (by omega)
 have b5:decide ((cs.len:Int) ≥ 1)=decide (1 ≤ cs.len):=decide_eq_decide.2 (by omega)
 have b6:decide ((cs.len:Int) ≤ 4)=decide (cs.len ≤ 4):=decide_eq_decide.2 (by omega)
 simp only [impl_RuleValid.j2,impl_RuleValid.j4,w1,w3,w4,b1,b2,b3,b4,b5,b6]
 have two:∀ (p q:Prop) [Decidable p] [Decidable q],(bif decide p then some (AV.bool (decide q),H) else some (AV.bool false,H))=some (AV.bool (decide (p∧q)),H):=fun p q _ _=>by by_cases hp:p <;> simp [hp]
 by_cases k1:kind=1
 ·simp only [k1,decide_true,Zt,if_true,two]
 by_cases k2:kind=2
 ·simp only [k1,k2,decide_true,decide_false,Zt,Zf,if_true,if_false,two,true_or]
  simp
 by_cases k3:kind=3
 ·simp only [k1,k2,k3,decide_true,decide_false,Zt,Zf,if_true,if_false,two,or_true]
  simp
 by_cases k4:kind=4
 ·simp only [k1,k2,k3,k4,decide_true,decide_false,Zt,Zf,if_true,if_false,two]
  simp
 by_cases k5:kind=5
 ·simp only [k1,k2,k3,k4,k5,decide_true,decide_false,Zt,Zf,if_true,if_false,two]
  simp
 simp [k1,k2,k3,k4,k5]
theorem reads_pre {k:IntKind} {H:Hp} {s:Sl} {l:List Int} (h:Reads k H s l) (m:Nat) (hm:m ≤ l.length) (b:Bool):Reads k H (Sl.mk b s.blk s.off m) (l.take m):=
 ⟨by simp; omega,fun i hi=>by
  have hi':i < l.length:=by simp at hi; omega
  simpa using h.cell i hi'⟩
theorem implRule_l0 {k:Nat} (hk:2000001 ≤ k) {n kind value:Int} {cs:Sl} {H:Hp} {cells:List Int} (hn:2 ≤ n∧n ≤ 4) (hs:Reads .i64 H cs cells) (hl:cells.length ≤ 1000) :
  ∀ (j i fuel:Nat),i + j=cells.length→j < fuel→impl_RuleValid.l0 (callF PP orc k) k fuel n cs cells.length i kind cs value H=some (.bool (cellsOk n cells i j && kindOk n kind value cells.length),H):=by
 obtain ⟨w1,w2,_,_⟩:=n4_wraps hn
 intro j
 induction j with
 | zero=>
  intro i fuel hi hf
  obtain ⟨fuel,rfl⟩:=Zs fuel (by omega)
  have:¬ ((i:Int) < (cells.length:Int)):=by omega
  simp only [impl_RuleValid.l0,this,decide_false,Zf,cellsOk,Bool.true_and]
  exact implRule_j2 _ k hn hs.len
 | succ j ih=>
  intro i fuel hi hf
  obtain ⟨fuel,rfl⟩:=Zs fuel (by omega)
  have h2:i < cells.length:=by omega
  have h3:=reads_at hs i h2
  have h4:=wrs (i:=i) (by omega)
  have h5:=ih (i + 1) fuel (by omega) (by omega)
  push_cast at h5
  have q0:(0:Int) ≤ (i:Int):=by omega
  have q1:(i:Int) < (cells.length:Int):=by omega
  have q2:(i:Int) < (cs.len:Int):=by rw [hs.len]; omega
  have hg:cells.getD i 0=cells[i]:=by simp [List.getD_eq_getElem?_getD,h2]
  have hc:=Contains_ok hk cells[i] (reads_pre hs i (by omega) cs.nil) (by simp; omega)
  have e:Sl.mk cs.nil cs.blk (cs.off + (0:Int).toNat * 1) ((i:Int) - 0).toNat=Sl.mk cs.nil cs.blk cs.off i:=by simp
  rw [cellsOk,hg]
  by_cases c1:cells[i] < 0
  ·have d:decide (0 ≤ cells[i]∧cells[i] ≤ n * n - 1)=false:=decide_eq_false (by omega)
   simp only [impl_RuleValid.l0,impl_RuleValid.j1,q0,q1,q2,decide_true,Za,Zt,Zn,Nat.mul_one,h3,Zo,c1,d,Bool.false_and]
  ·by_cases c2:cells[i] ≥ n * n
   ·have d:decide (0 ≤ cells[i]∧cells[i] ≤ n * n - 1)=false:=decide_eq_false (by omega)
    simp only [impl_RuleValid.l0,impl_RuleValid.j1,q0,q1,q2,decide_true,decide_false,Za,Zt,Zf,Zn,Nat.mul_one,h3,Zo,c1,w1,c2,d,Bool.false_and]
   ·have d:decide (0 ≤ cells[i]∧cells[i] ≤ n * n - 1)=true:=decide_eq_true (by omega)
    have hcond:(0 ≤ (0:Int)∧(0:Int) ≤ (i:Int)∧(i:Int) ≤ cs.len∧(i:Int)=(i:Int))∧0 < 1∧true=true:=⟨⟨by omega,by omega,by omega,rfl⟩,by omega,rfl⟩
    cases hb:(cells.take i).contains cells[i] with
    | true=>
     rw [hb] at hc
     simp only [impl_RuleValid.l0,impl_RuleValid.j1,q0,q1,q2,decide_true,decide_false,Za,Zt,Zf,Zn,Nat.mul_one,h3,Zo,c1,w1,c2,d]
     rw [if_pos (by simp; omega)]
     have hc':callF PP orc k slices_Contains_int.id [.sl 1 (Sl.mk cs.nil cs.blk (cs.off + (0:Int).toNat) ((i:Int) - 0).toNat),.int .i64 cells[i]] H=some (.bool true,H):=by simpa using hc
     simp only [hc',Zo,AV.toB,Zt,Zy,Bool.false_and,Bool.true_and]
    | false=>
     rw [hb] at hc
     simp only [impl_RuleValid.l0,impl_RuleValid.j1,impl_RuleValid.j3,q0,q1,q2,decide_true,decide_false,Za,Zt,Zf,Zn,Nat.mul_one,h3,Zo,c1,w1,c2,d]
     rw [if_pos (by simp; omega)]
     have hc':callF PP orc k slices_Contains_int.id [.sl 1 (Sl.mk cs.nil cs.blk (cs.off + (0:Int).toNat) ((i:Int) - 0).toNat),.int .i64 cells[i]] H=some (.bool false,H):=by simpa using hc
     simp only [hc',Zo,AV.toB,Zf,Zx,Bool.true_and,h4,h5]
theorem implRuleValid_ok {k:Nat} (hk:2000002 ≤ k) {n kind value:Int} {cs:Sl} {H:Hp} {cells:List Int} (hn:2 ≤ n∧n ≤ 4) (hs:Reads .i64 H cs cells) (hl:cells.length ≤ 1000) :
  callF PP orc k impl_RuleValid.id [.agg [.int .i64 kind,.sl 1 cs,.int .i64 value],.int .i64 n] H=some (.bool (ruleOk n kind cells value),H):=by
 obtain ⟨k,rfl⟩:=Zs k (by omega)
 rw [impl_RuleValid.call]
 have:=implRule_l0 (show 2000001 ≤ k by omega) (kind:=kind) (value:=value) hn hs hl cells.length 0 k (by omega) (by omega)
 simp only [impl_RuleValid.f,sizeOk_ok (show 1 ≤ k by omega),hn,and_self,decide_true,Zo,AV.toB,Zy,Zf,hs.len]
 exact this

structure R where
 kind:Int
 sl:Sl
 cells:List Int
 value:Int
def R.val (r:R):Int × List Int × Int:=(r.kind,r.cells,r.value)
def R.av (r:R):List AV:=[.int .i64 r.kind,.sl 1 r.sl,.int .i64 r.value]
structure ReadsR (H:Hp) (s:Sl) (rs:List R):Prop where
 len:s.len=rs.length
 c0:∀ i,(h:i < rs.length)→H.cell s.blk (s.off + i * 3)=some (.int .i64 rs[i].kind)
 c1:∀ i,(h:i < rs.length)→H.cell s.blk (s.off + i * 3 + 1)=some (.sl 1 rs[i].sl)
 c2:∀ i,(h:i < rs.length)→H.cell s.blk (s.off + i * 3 + 2)=some (.int .i64 rs[i].value)
 cs:∀ i,(h:i < rs.length)→Reads .i64 H rs[i].sl rs[i].cells
theorem pf_readsR {H H':Hp} (g:H <+: H') {s:Sl} {rs:List R} (h:ReadsR H s rs):ReadsR H' s rs:=
 ⟨h.len,fun i hi=>pf_cell g (h.c0 i hi),fun i hi=>pf_cell g (h.c1 i hi),fun i hi=>pf_cell g (h.c2 i hi),fun i hi=>pf_reads g (h.cs i hi)⟩
theorem flat0:∀ (rs:List R) (i:Nat),(h:i < rs.length)→(rs.flatMap R.av)[i * 3]?=some (.int .i64 rs[i].kind)∧(rs.flatMap R.av)[i * 3 + 1]?=some (.sl 1 rs[i].sl)∧(rs.flatMap R.av)[i * 3 + 2]?=some (.int .i64 rs[i].value)
 | r :: rs,0,h=>by simp [R.av]
 | r :: rs,i + 1,h=>by
  have:=flat0 rs i (by simpa using h)
  have e:(i + 1) * 3=i * 3 + 3:=by omega
  rw [e]
  simpa [R.av] using this
theorem flat_length (rs:List R):(rs.flatMap R.av).length=rs.length * 3:=by
 induction rs with
 | nil=>rfl
 | cons r rs ih=>simp [ih,R.av]; omega
def R.ok (n:Int) (r:R):Bool:=ruleOk n r.kind r.cells r.value
def puzzleOk (n:Int) (g:List Int) (rs:List R):Bool:=gridOk g n && (decide (rs.length ≤ 20) && rs.all (R.ok n))
theorem rules_at {H:Hp} {s:Sl} {rs:List R} (h:ReadsR H s rs) (i:Nat) (hi:i < rs.length) :
  ldI .i64 H s.blk (s.off + i * 3)=some rs[i].kind∧ldS 1 H s.blk (s.off + i * 3 + 1)=some rs[i].sl∧ldI .i64 H s.blk (s.off + i * 3 + 1 + 1)=some rs[i].value:=by
 refine ⟨?_,?_,?_⟩
 ·unfold ldI; rw [h.c0 i hi]; simp [AV.toI]
 ·unfold ldS; rw [h.c1 i hi]; simp [AV.toS]
 ·unfold ldI; rw [show s.off + i * 3 + 1 + 1=s.off + i * 3 + 2 from rfl,h.c2 i hi]; simp [AV.toI]
theorem implPuzzle_l2 {k:Nat} (hk:2000002 ≤ k) {n:Int} {H:Hp} {gs s:Sl} {rs:List R} (hn:2 ≤ n∧n ≤ 4) (hs:ReadsR H s rs) (hl:rs.length ≤ 1000) (hc:∀ r ∈ rs,r.cells.length ≤ 1000) :
  ∀ (j i fuel:Nat),i + j=rs.length→j < fuel→impl_PuzzleValid.l2 (callF PP orc k) k fuel s rs.length i n gs s H=some (.bool ((rs.drop i).all (R.ok n)),H):=by
 intro j
 induction j with
 | zero=>
  intro i fuel hi hf
  obtain ⟨fuel,rfl⟩:=Zs fuel (by omega)
  have:¬ ((i:Int) < (rs.length:Int)):=by omega
  rw [List.drop_eq_nil_of_le (by omega)]
  simp only [impl_PuzzleValid.l2,this,decide_false,Zf,List.all_nil]
 | succ j ih=>
  intro i fuel hi hf
  obtain ⟨fuel,rfl⟩:=Zs fuel (by omega)
  have h2:i < rs.length:=by omega
  obtain ⟨l0,l1,l2⟩:=rules_at hs i h2
  have h4:=wrs (i:=i) (by omega)
  have h5:=ih (i + 1) fuel (by omega) (by omega)
  push_cast at h5
  have h6:=implRuleValid_ok hk (kind:=rs[i].kind) (value:=rs[i].value) hn (hs.cs i h2) (hc _ (List.getElem_mem h2))
  have q0:(0:Int) ≤ (i:Int):=by omega
  have q1:(i:Int) < (rs.length:Int):=by omega
  have q2:(i:Int) < (s.len:Int):=by rw [hs.len]; omega
  rw [List.drop_eq_getElem_cons h2,List.all_cons]
  have e:R.ok n rs[i]=ruleOk n rs[i].kind rs[i].cells rs[i].value:=rfl
  rw [e]
  cases c:ruleOk n rs[i].kind rs[i].cells rs[i].value with
  | true=>
   rw [c] at h6
   simp only [impl_PuzzleValid.l2,q0,q1,q2,decide_true,Za,Zt,Zn,l0,l1,l2,Zo,h6,AV.toB,Zy,Zf,h4,h5,Bool.true_and]
  | false=>
   rw [c] at h6
   simp only [impl_PuzzleValid.l2,q0,q1,q2,decide_true,Za,Zt,Zn,l0,l1,l2,Zo,h6,AV.toB,Zx,Bool.false_and]
theorem implPuzzleValid_ok {k:Nat} (hk:2000003 ≤ k) {n:Int} {H:Hp} {gs s:Sl} {g:List Int} {rs:List R} (hn:2 ≤ n∧n ≤ 4) (hg:Reads .i64 H gs g) (hgl:g.length ≤ 1000) (hs:ReadsR H s rs) (hl:rs.length ≤ 1000) (hc:∀ r ∈ rs,r.cells.length ≤ 1000) :
  callF PP orc k impl_PuzzleValid.id [.agg [.int .i64 n,.sl 1 gs,.sl 3 s]] H=some (.bool (puzzleOk n g rs),H):=by
 obtain ⟨k,rfl⟩:=Zs k (by omega)
 rw [impl_PuzzleValid.call]
 have h1:=implGridValid_ok (show 2000000 ≤ k by omega) hg (by omega) n
 have h2:=implPuzzle_l2 (show 2000002 ≤ k by omega) (gs:=gs) hn hs hl hc rs.length 0 k (by omega) (by omega)
 simp only [List.drop_zero,Int.natCast_zero] at h2
 unfold puzzleOk
 cases c:gridOk g n with
 | false=>simp only [impl_PuzzleValid.f,impl_PuzzleValid.j0,h1,c,Zo,AV.toB,Zx,Zt,Bool.false_and]
 | true=>
  by_cases c2:rs.length ≤ 20
  ·have:¬ ((rs.length:Int) > 20):=by omega
   simp only [impl_PuzzleValid.f,impl_PuzzleValid.j0,impl_PuzzleValid.j1,h1,c,Zo,AV.toB,Zy,Zf,hs.len,this,decide_false,c2,decide_true,Bool.true_and]
   exact h2
  ·have:((rs.length:Int) > 20):=by omega
   simp only [impl_PuzzleValid.f,impl_PuzzleValid.j0,h1,c,Zo,AV.toB,Zy,Zf,Zt,hs.len,this,decide_true,c2,decide_false,Bool.true_and,Bool.false_and]
def mbit (m:Int) (v:Nat):Bool:=(((m:Int).fdiv (2 ^ (min v IntKind.i64.bits)):Int).tmod 2) == 1
def mvFrom (m:Int):Nat→Nat→List Int
 | _,0=>[]
 | v,j + 1=>(if mbit m v=true then [(v:Int)] else []) ++ mvFrom m (v + 1) j
def maskVals (m:Int):List Int:=if (0 ≤ m∧m ≤ 30)∧m.tmod 2=0 then mvFrom m 1 4 else []
theorem mvFrom_mem (m:Int):∀ (j v:Nat),∀ x ∈ mvFrom m v j,(v:Int) ≤ x∧x < (v:Int) + j
 | 0,v,x,h=>by simp [mvFrom] at h
 | j + 1,v,x,h=>by
  rw [mvFrom] at h
  rcases List.mem_append.1 h with h | h
  ·split at h
   ·simp at h; omega
   ·simp at h
  ·have:=mvFrom_mem m j (v + 1) x h; omega
theorem maskVals_mem {m x:Int} (h:x ∈ maskVals m):1 ≤ x∧x ≤ 4:=by
 unfold maskVals at h
 split at h
 ·have:=mvFrom_mem m 4 1 x h; omega
 ·simp at h
def topMask (n:Int):Int:=if n=2 then 6 else if n=3 then 14 else 30
def maskOk (n m:Int):Bool:=decide (0 ≤ m∧m ≤ topMask n) && (m.tmod 2 == 0)
def lineCell (n line:Int) (i:Nat):Int:=if line < n then line * n + (i:Int) else (i:Int) * n + line - n
def lineCells (n line:Int):List Int:=if (2 ≤ n∧n ≤ 4)∧0 ≤ line∧line < 2 * n then (List.range n.toNat).map (lineCell n line) else []
theorem line_wraps {n line:Int} (hn:2 ≤ n∧n ≤ 4) (hl:0 ≤ line∧line < 2 * n) (i:Nat) (hi:(i:Int) < n) :
  IntKind.i64.wrap (IntKind.i64.wrap (line * n) + (i:Int))=line * n + (i:Int)∧IntKind.i64.wrap (IntKind.i64.wrap (IntKind.i64.wrap ((i:Int) * n) + line) - n)=(i:Int) * n + line - n:=by
 have:n=2 ∨ n=3 ∨ n=4:=by omega
 rcases this with rfl | rfl | rfl
 all_goals
  constructor
  ·rw [wr (n:=line * _) (by omega) (by omega),wr (by omega) (by omega)]
  ·rw [wr (n:=(i:Int) * _) (by omega) (by omega),wr (n:=(i:Int) * _ + line) (by omega) (by omega),wr (by omega) (by omega)]
theorem range_map_succ (f:Nat→Int) (i:Nat):(List.range i).map f ++ [f i]=(List.range (i + 1)).map f:=by
 rw [List.range_succ,List.map_append]; rfl
theorem implLineCells_l2 (rec:Rec) (k:Nat) {H0:Hp} {n line:Int} {N:Nat} (hN:n=(N:Int)) (hn:2 ≤ n∧n ≤ 4) (hl:0 ≤ line∧line < 2 * n) :
  ∀ (j i m:Nat) (H:Hp) (t:Sl),i + j=N→j < m→H0 <+: H→Own 1 H0 H t (((List.range i).map (lineCell n line)).map (.int .i64)) →
   ∃ t' H',impl_LineCells.l2 rec k m n line t n i H=some (.sl 1 t',H')∧H0 <+: H'∧Own 1 H0 H' t' (((List.range N).map (lineCell n line)).map (.int .i64)):=by
 intro j
 induction j with
 | zero=>
  intro i m H t hi hm hp ho
  obtain ⟨m,rfl⟩:=Zs m (by omega)
  have:i=N:=by omega
  subst this
  exact ⟨t,H,by simp [impl_LineCells.l2,impl_LineCells.j4,hN],hp,ho⟩
 | succ j ih=>
  intro i m H t hi hm hp ho
  obtain ⟨m,rfl⟩:=Zs m (by omega)
  have hi2:(i:Int) < n:=by omega
  have hlen:t.len=i:=by have:=ho.len; simpa using this
  obtain ⟨w1,w2⟩:=line_wraps hn hl i hi2
  have h4:=wrs (i:=i) (by omega)
  obtain ⟨H',a1,a2,a3,a4,a5⟩:=own_app1 ho hp (lineCell n line i) (by omega)
  rw [range_map_succ] at a3
  obtain ⟨t',H2,b1,b2,b3⟩:=ih (i + 1) m H' _ (by omega) (by omega) a2 a3
  refine ⟨t',H2,?_,b2,b3⟩
  push_cast at b1
  unfold lineCell at a1
  by_cases c:line < n
  ·rw [if_pos c] at a1
   simp only [impl_LineCells.l2,impl_LineCells.j3,hi2,c,decide_true,Zt,w1,a1,Zo,h4,b1]
  ·rw [if_neg c] at a1
   simp only [impl_LineCells.l2,impl_LineCells.j3,hi2,c,decide_true,decide_false,Zt,Zf,w2,a1,Zo,h4,b1]
theorem implLineCells_ok {k:Nat} (hk:2000000 ≤ k) (n line:Int) (H:Hp) :
  ∃ t H',callF PP orc k impl_LineCells.id [.int .i64 n,.int .i64 line] H=some (.sl 1 t,H')∧H <+: H'∧Reads .i64 H' t (lineCells n line):=by
 obtain ⟨k,rfl⟩:=Zs k (by omega)
 rw [impl_LineCells.call]
 unfold lineCells
 by_cases c:2 ≤ n∧n ≤ 4
 ·have hw:IntKind.i64.wrap (2 * n)=2 * n:=wr (by omega) (by omega)
  by_cases c1:line < 0
  ·exact ⟨Sl.none,H,by simp [impl_LineCells.f,sizeOk_ok (show 1 ≤ k by omega),c,AV.toB,c1,impl_LineCells.j0],List.prefix_refl _,by rw [if_neg (by omega)]; exact reads_nil rfl⟩
  ·by_cases c2:line < 2 * n
   ·obtain ⟨N,hN⟩:=Int.eq_ofNat_of_zero_le (show 0 ≤ n by omega)
    obtain ⟨t',H2,b1,b2,b3⟩:=implLineCells_l2 (callF PP orc k) k hN c ⟨by omega,c2⟩ N 0 k (H ++ [some (Blk.mk false [])]) (Sl.mk false H.length 0 0) (by omega) (by omega) (List.prefix_append _ _) (own_new 1 H [] 0 rfl)
    refine ⟨t',H2,?_,b2,?_⟩
    ·have c3:¬ 2 * n ≤ line:=by omega
     simp only [impl_LineCells.f,sizeOk_ok (show 1 ≤ k by omega),c,AV.toB,c1,impl_LineCells.j0,impl_LineCells.j1,hw,Zo]
     rw [show decide (line ≥ 2 * n)=false by simp; omega]
     simp only [and_self,decide_true,Zy,Zf,decide_false]
     rw [if_pos (by omega)]
     simpa using b1
    ·rw [if_pos ⟨c,by omega,c2⟩,show n.toNat=N by omega]
     exact own_reads b3
   ·refine ⟨Sl.none,H,?_,List.prefix_refl _,by rw [if_neg (by omega)]; exact reads_nil rfl⟩
    have:decide (line ≥ 2 * n)=true:=by simp; omega
    simp only [impl_LineCells.f,sizeOk_ok (show 1 ≤ k by omega),c,AV.toB,c1,impl_LineCells.j0,hw,this,Zo,and_self,decide_true,Zy,Zf,decide_false,Zt]
 ·exact ⟨Sl.none,H,by simp [impl_LineCells.f,sizeOk_ok (show 1 ≤ k by omega),c,AV.toB,impl_LineCells.j0],List.prefix_refl _,by rw [if_neg (by omega)]; exact reads_nil rfl⟩
theorem specLineCells_l0 {k:Nat} (hk:1 ≤ k) {H0:Hp} {n line:Int} {N:Nat} (hN:n=(N:Int)) (hn:2 ≤ n∧n ≤ 4) (hl:0 ≤ line∧line < 2 * n) :
  ∀ (j i m:Nat) (H:Hp) (t:Sl),i + j=N→j < m→H0 <+: H→Own 1 H0 H t (((List.range i).map (lineCell n line)).map (.int .i64)) →
   ∃ t' H',spec_LineCells.l0 (callF PP orc k) k m n line t i H=some (.sl 1 t',H')∧H0 <+: H'∧Own 1 H0 H' t' (((List.range N).map (lineCell n line)).map (.int .i64)):=by
 intro j
 induction j with
 | zero=>
  intro i m H t hi hm hp ho
  obtain ⟨m,rfl⟩:=Zs m (by omega)
  have:i=N:=by omega
  subst this
  exact ⟨t,H,by simp [spec_LineCells.l0,spec_LineCells.j1,spec_LineCells.j3,hN],hp,ho⟩
 | succ j ih=>
  intro i m H t hi hm hp ho
  obtain ⟨m,rfl⟩:=Zs m (by omega)
  have hi2:(i:Int) < n:=by omega
  have hlen:t.len=i:=by have:=ho.len; simpa using this
  obtain ⟨w1,w2⟩:=line_wraps hn hl i hi2
  have h4:=wrs (i:=i) (by omega)
  have hw:IntKind.i64.wrap (2 * n)=2 * n:=wr (by omega) (by omega)
  have hw2:IntKind.i64.wrap (2 * n - 1)=2 * n - 1:=wr (by omega) (by omega)
  have c3:0 ≤ line∧line ≤ 2 * n - 1:=by omega
  obtain ⟨H',a1,a2,a3,a4,a5⟩:=own_app1 ho hp (lineCell n line i) (by omega)
  rw [range_map_succ] at a3
  obtain ⟨t',H2,b1,b2,b3⟩:=ih (i + 1) m H' _ (by omega) (by omega) a2 a3
  refine ⟨t',H2,?_,b2,b3⟩
  push_cast at b1
  unfold lineCell at a1
  by_cases c:line < n
  ·rw [if_pos c] at a1
   simp only [spec_LineCells.l0,spec_LineCells.j1,spec_LineCells.j2,spec_LineCells.j4,l1In_ok hk,AV.toB,hn,hw,hw2,c3,and_self,hi2,c,decide_true,Zt,w1,a1,Zo,h4,b1]
  ·rw [if_neg c] at a1
   simp only [spec_LineCells.l0,spec_LineCells.j1,spec_LineCells.j2,spec_LineCells.j4,l1In_ok hk,AV.toB,hn,hw,hw2,c3,and_self,hi2,c,decide_true,decide_false,Zt,Zf,w2,a1,Zo,h4,b1]
theorem specLineCells_own {k:Nat} (hk:2000000 ≤ k) (n line:Int) (H:Hp) :
  ∃ t H',callF PP orc k spec_LineCells.id [.int .i64 n,.int .i64 line] H=some (.sl 1 t,H')∧H <+: H'∧Own 1 H H' t ((lineCells n line).map (.int .i64)):=by
 obtain ⟨k,rfl⟩:=Zs k (by omega)
 rw [spec_LineCells.call]
 have none':(∃ m,k=m + 1)→¬ ((2 ≤ n∧n ≤ 4)∧0 ≤ line∧line < 2 * n)→spec_LineCells.l0 (callF PP orc k) k k n line (Sl.mk false H.length 0 0) 0 (H ++ [some (Blk.mk false [])])=some (.sl 1 (Sl.mk false H.length 0 0),H ++ [some (Blk.mk false [])]):=by
  rintro ⟨m,hm⟩ hc
  have hl1:=fun n a b H=>l1In_ok (show 1 ≤ k by omega) n a b H
  by_cases c0:0 < n
  ·by_cases c:2 ≤ n∧n ≤ 4
   ·have hw:IntKind.i64.wrap (2 * n)=2 * n:=wr (by omega) (by omega)
    have hw2:IntKind.i64.wrap (2 * n - 1)=2 * n - 1:=wr (by omega) (by omega)
    have c3:decide (0 ≤ line∧line ≤ 2 * n - 1)=false:=by simp; omega
    generalize callF PP orc k=rc at *
    rw [hm]
    simp only [spec_LineCells.l0,spec_LineCells.j1,spec_LineCells.j3,hl1,AV.toB,c,hw,hw2,c3,c0,and_self,decide_true,Zt,Zo,Zf]
   ·generalize callF PP orc k=rc at *
    rw [hm]
    simp only [spec_LineCells.l0,spec_LineCells.j1,spec_LineCells.j3,hl1,AV.toB,c,c0,decide_true,decide_false,Zt,Zo,Zf]
  ·generalize callF PP orc k=rc at *
   rw [hm]
   simp only [spec_LineCells.l0,spec_LineCells.j1,spec_LineCells.j3,c0,decide_false,Zf]
 by_cases c:(2 ≤ n∧n ≤ 4)∧0 ≤ line∧line < 2 * n
 ·obtain ⟨N,hN⟩:=Int.eq_ofNat_of_zero_le (show 0 ≤ n by omega)
  obtain ⟨t',H2,b1,b2,b3⟩:=specLineCells_l0 (k:=k) (by omega) hN c.1 c.2 N 0 k (H ++ [some (Blk.mk false [])]) (Sl.mk false H.length 0 0) (by omega) (by omega) (List.prefix_append _ _) (own_new 1 H [] 0 rfl)
  refine ⟨t',H2,by simpa [spec_LineCells.f] using b1,b2,?_⟩
  unfold lineCells
  rw [if_pos c,show n.toNat=N by omega]
  exact b3
 ·refine ⟨_,_,(show spec_LineCells.f _ _ _ _ _=_ from none' ⟨k - 1,by omega⟩ c),List.prefix_append _ _,?_⟩
  unfold lineCells
  rw [if_neg c]
  exact own_new 1 H [] 0 rfl
theorem specLineCells_ok {k:Nat} (hk:2000000 ≤ k) (n line:Int) (H:Hp) :
  ∃ t H',callF PP orc k spec_LineCells.id [.int .i64 n,.int .i64 line] H=some (.sl 1 t,H')∧H <+: H'∧Reads .i64 H' t (lineCells n line):=by
 obtain ⟨t,H',a1,a2,a3⟩:=specLineCells_own hk n line H
 exact ⟨t,H',a1,a2,own_reads a3⟩
def gv (g:List Int) (c:Int):Int:=g.getD c.toNat 0
def clashL (g:List Int):List Int→List Int→Bool
 | [],_=>false
 | c :: cs,seen=>(decide (0 < gv g c) && seen.contains (gv g c)) || clashL g cs (gv g c :: seen)
def clashFrom (g:List Int) (n:Int):Nat→Nat→Bool
 | _,0=>false
 | line,j + 1=>clashL g (lineCells n line) [] || clashFrom g n (line + 1) j
def clash (g:List Int) (n:Int):Bool:=clashFrom g n 0 (2 * n).toNat
def squareFits (g:List Int) (n:Int):Bool:=gridOk g n && !clash g n
theorem lineCells_mem {n line c:Int} (h:c ∈ lineCells n line):0 ≤ c∧c < n * n:=by
 unfold lineCells at h
 split at h
 ·rename_i hc
  obtain ⟨i,hi,rfl⟩:=List.mem_map.1 h
  have hi':=List.mem_range.1 hi
  have:n=2 ∨ n=3 ∨ n=4:=by omega
  unfold lineCell
  rcases this with rfl | rfl | rfl <;> split <;> omega
 ·simp at h
theorem lineCells_len (n line:Int):(lineCells n line).length ≤ 4:=by
 unfold lineCells
 split
 ·simp; omega
 ·simp
theorem gv_at {H:Hp} {s:Sl} {g:List Int} (hr:Reads .i64 H s g) {c:Int} (h0:0 ≤ c) (h1:c < (g.length:Int)):ldI .i64 H s.blk (s.off + c.toNat)=some (gv g c):=by
 have h2:c.toNat < g.length:=by omega
 rw [reads_at hr c.toNat h2]
 simp [gv,List.getD_eq_getElem?_getD,h2]
theorem gv_mem {g:List Int} {c:Int} (h0:0 ≤ c) (h1:c < (g.length:Int)):gv g c ∈ g:=by
 have h2:c.toNat < g.length:=by omega
 unfold gv
 rw [List.getD_eq_getElem?_getD,List.getElem?_eq_getElem h2]
 exact List.getElem_mem h2
theorem mask_or:∀ m,m < 32→∀ v,v < 5→IntKind.i64.wrap (((BitVec.ofInt IntKind.i64.bits ((m:Nat):Int) ||| BitVec.ofInt IntKind.i64.bits (IntKind.i64.wrap (1 * 2 ^ (min v IntKind.i64.bits)))).toNat:Int))=((m ||| 2 ^ v:Nat):Int)∧m ||| 2 ^ v < 32:=by decide +kernel
theorem mask_bit:∀ m,m < 32→∀ v,v < 5→(((((m:Nat):Int).fdiv (2 ^ (min v IntKind.i64.bits)):Int).tmod 2) == 1)=m.testBit v:=by decide +kernel
theorem mask_test:∀ m,m < 32→∀ v,v < 5→∀ w,w < 5→(m ||| 2 ^ v).testBit w=(decide (w=v) || m.testBit w):=by decide +kernel
theorem specl2Clash_l1 (rec:Rec) (k:Nat) (L0:Sl→Int→Int→Hp→An) {H:Hp} {s t:Sl} {g cells:List Int} {n line:Int} (hs:Reads .i64 H s g) (ht:Reads .i64 H t cells)
  (hc:∀ c ∈ cells,0 ≤ c∧c < (g.length:Int)) (hg:∀ v ∈ g,0 ≤ v∧v ≤ 4) (hl:cells.length ≤ 1000) (hline:IntKind.i64.wrap (line + 1)=line + 1) :
  ∀ (j i fuel m:Nat) (seen:List Int),i + j=cells.length→j < fuel→m < 32→(∀ v:Nat,v < 5→m.testBit v=seen.contains (v:Int)) →
   spec_l2Clash.l1 rec k L0 fuel s n line t m i H=bif clashL g (cells.drop i) seen then some (.bool true,H) else L0 s n (line + 1) H:=by
 intro j
 induction j with
 | zero=>
  intro i fuel m seen hi hf hm hse
  obtain ⟨fuel,rfl⟩:=Zs fuel (by omega)
  simp [spec_l2Clash.l1,spec_l2Clash.j3,ht.len,show ¬ i < cells.length by omega,List.drop_eq_nil_of_le (show cells.length ≤ i by omega),clashL,hline]
 | succ j ih=>
  intro i fuel m seen hi hf hm hse
  obtain ⟨fuel,rfl⟩:=Zs fuel (by omega)
  have h1:=ht.len
  have h2:i < cells.length:=by omega
  have h3:=reads_at ht i h2
  have h4:=wrs (i:=i) (by omega)
  obtain ⟨c0,c1⟩:=hc _ (List.getElem_mem h2)
  have h5:=gv_at hs c0 c1
  obtain ⟨v0,v1⟩:=hg _ (gv_mem c0 c1)
  rw [List.drop_eq_getElem_cons h2]
  simp only [clashL]
  obtain ⟨v,hv⟩:=Int.eq_ofNat_of_zero_le v0
  rw [hv] at h5 ⊢
  have hv5:v < 5:=by omega
  obtain ⟨o1,o2⟩:=mask_or m hm v hv5
  have hb:=mask_bit m hm v hv5
  rw [hse v hv5] at hb
  have hsl:=hs.len
  have h6:=ih (i + 1) fuel (m ||| 2 ^ v) ((v:Int) :: seen) (by omega) (by omega) o2 (fun w hw=>by
   rw [mask_test m hm v hv5 w hw,hse w hw,List.contains_cons]
   congr 1
   simp only [Bool.beq_eq_decide_eq]
   exact decide_eq_decide.2 (by omega))
  have q1:((i:Int) < (t.len:Int)):=by omega
  have q0:(0:Int) ≤ (i:Int):=by omega
  have z0:¬ ((v:Int) < 0):=by omega
  have c1':cells[i] < (s.len:Int):=by omega
  rw [show ((i:Int) + 1)=((i + 1:Nat):Int) by omega] at h4
  by_cases hp:0 < v
  ·have z1:((v:Int) > 0):=by omega
   have z2:(0:Int) < (v:Int):=z1
   cases hse':seen.contains (v:Int) with
   | true=>
    rw [hse'] at hb
    simp only [spec_l2Clash.l1,spec_l2Clash.j2,spec_l2Clash.j4,spec_l2Clash.j5,q0,q1,c0,c1',z0,z1,z2,decide_true,Za,Zt,Zf,Zn,Nat.mul_one,h3,h5,Zo,hb,if_false,reduceIte,Bool.true_or]
   | false=>
    rw [hse'] at hb
    rw [show ((i + 1:Nat):Int)=(i:Int) + 1 by omega] at h4 h6
    simp only [spec_l2Clash.l1,spec_l2Clash.j2,spec_l2Clash.j4,spec_l2Clash.j5,q0,q1,c0,c1',z0,z1,z2,decide_true,Za,Bool.and_false,Zt,Zf,Zn,Nat.mul_one,h3,h5,Zo,hb,if_false,reduceIte,Bool.false_or,o1,h4,h6]
  ·have z1:¬ ((v:Int) > 0):=by omega
   have z2:¬ (0:Int) < (v:Int):=z1
   rw [show ((i + 1:Nat):Int)=(i:Int) + 1 by omega] at h4 h6
   simp only [spec_l2Clash.l1,spec_l2Clash.j2,spec_l2Clash.j4,spec_l2Clash.j5,q0,q1,c0,c1',z0,z1,z2,decide_true,decide_false,Za,Bool.false_and,Zt,Zf,Zn,Nat.mul_one,h3,h5,Zo,if_false,reduceIte,Bool.false_or,o1,h4,h6]
theorem specl2Clash_l0 {k:Nat} (hk:2000000 ≤ k) {H0:Hp} {s:Sl} {g:List Int} {n:Int} (hs:Reads .i64 H0 s g) (hg:gridOk g n=true) :
  ∀ (j fuel line:Nat) (H:Hp),(line:Int) + j=2 * n→j < fuel→H0 <+: H →
   ∃ H',spec_l2Clash.l0 (callF PP orc k) k fuel s n line H=some (.bool (clashFrom g n line j),H')∧H0 <+: H':=by
 obtain ⟨⟨n1,n2⟩,n3,n4⟩:=(gridOk_iff g n).1 hg
 have hw:IntKind.i64.wrap (2 * n)=2 * n:=wr (by omega) (by omega)
 intro j
 induction j with
 | zero=>
  intro fuel line H hl hf hp
  obtain ⟨fuel,rfl⟩:=Zs fuel (by omega)
  refine ⟨H,?_,hp⟩
  have:¬ ((line:Int) < 2 * n):=by omega
  simp only [spec_l2Clash.l0,hw,this,decide_false,Zf,clashFrom]
 | succ j ih=>
  intro fuel line H hl hf hp
  obtain ⟨fuel,rfl⟩:=Zs fuel (by omega)
  have q1:((line:Int) < 2 * n):=by omega
  obtain ⟨t,H1,a1,a2,a3⟩:=specLineCells_ok hk n line H
  have h1:=specl2Clash_l1 (callF PP orc k) k (spec_l2Clash.l0 (callF PP orc k) k fuel) (line:=line) (n:=n) (pf_reads (hp.trans a2) hs) a3 (fun c hc=>by rw [n3]; exact lineCells_mem hc) (fun v hv=>⟨(n4 v hv).1,by have:=(n4 v hv).2; omega⟩)
   (by have:=lineCells_len n line; omega) (wr (by omega) (by omega)) (lineCells n line).length 0 k 0 [] (by omega) (by have:=lineCells_len n line; omega) (by omega) (fun v hv=>by simp)
  obtain ⟨H',b1,b2⟩:=ih fuel (line + 1) H1 (by omega) (by omega) (hp.trans a2)
  push_cast at b1
  simp only [List.drop_zero] at h1
  cases hc:clashL g (lineCells n line) [] with
  | true=>
   refine ⟨H1,?_,hp.trans a2⟩
   simp only [hc,Zt] at h1
   simp only [spec_l2Clash.l0,hw,q1,decide_true,Zt,a1,Zo,AV.toS,if_true,clashFrom,hc,Bool.true_or]
   exact h1
  | false=>
   refine ⟨H',?_,b2⟩
   simp only [hc,Zf] at h1
   simp only [spec_l2Clash.l0,hw,q1,decide_true,Zt,a1,Zo,AV.toS,if_true,clashFrom,hc,Bool.false_or]
   exact h1.trans b1
theorem specl2Clash_ok {k:Nat} (hk:2000001 ≤ k) {H:Hp} {s:Sl} {g:List Int} {n:Int} (hs:Reads .i64 H s g) (hg:gridOk g n=true) :
  ∃ H',callF PP orc k spec_l2Clash.id [.sl 1 s,.int .i64 n] H=some (.bool (clash g n),H')∧H <+: H':=by
 obtain ⟨k,rfl⟩:=Zs k (by omega)
 rw [spec_l2Clash.call]
 obtain ⟨⟨n1,n2⟩,n3,n4⟩:=(gridOk_iff g n).1 hg
 exact specl2Clash_l0 (by omega) hs hg (2 * n).toNat k 0 H (by omega) (by omega) (List.prefix_refl _)
def has (m:Int) (v:Nat):Bool:=m.toNat.testBit v
def pw (v:Int):Int:=((2 ^ v.toNat:Nat):Int)
def mOr (a b:Int):Int:=((a.toNat ||| b.toNat:Nat):Int)
def mAnd (a b:Int):Int:=((a.toNat &&& b.toNat:Nat):Int)
def mSub (a b:Int):Int:=((a.toNat &&& (31 ^^^ b.toNat):Nat):Int)
theorem tab_or:∀ a,a < 32→∀ b,b < 32→IntKind.i64.wrap (((BitVec.ofInt IntKind.i64.bits ((a:Nat):Int) ||| BitVec.ofInt IntKind.i64.bits ((b:Nat):Int)).toNat:Int))=((a ||| b:Nat):Int)∧a ||| b < 32:=by decide +kernel
theorem tab_and:∀ a,a < 32→∀ b,b < 32→IntKind.i64.wrap (((BitVec.ofInt IntKind.i64.bits ((a:Nat):Int) &&& BitVec.ofInt IntKind.i64.bits ((b:Nat):Int)).toNat:Int))=((a &&& b:Nat):Int)∧a &&& b < 32:=by decide +kernel
theorem tab_sub:∀ a,a < 32→∀ b,b < 32→IntKind.i64.wrap (((BitVec.ofInt IntKind.i64.bits ((a:Nat):Int) &&& ~~~(BitVec.ofInt IntKind.i64.bits ((b:Nat):Int))).toNat:Int))=((a &&& (31 ^^^ b):Nat):Int)∧a &&& (31 ^^^ b) < 32:=by decide +kernel
theorem tab_bit:∀ m,m < 32→∀ v,v < 6→(((((m:Nat):Int).fdiv (2 ^ (min v IntKind.i64.bits)):Int).tmod 2) == 1)=m.testBit v:=by decide +kernel
theorem tab_bit':∀ m,m < 32→∀ v,v < 6→(IntKind.i64.wrap (((BitVec.ofInt IntKind.i64.bits (((m:Nat):Int).fdiv (2 ^ (min v IntKind.i64.bits)):Int) &&& BitVec.ofInt IntKind.i64.bits 1).toNat:Int)) == 1)=m.testBit v:=by decide +kernel
theorem tab_shl:∀ v,v < 7→IntKind.i64.wrap (1 * 2 ^ (min v IntKind.i64.bits))=((2 ^ v:Nat):Int):=by decide +kernel
def M (m:Int):Prop:=0 ≤ m∧m < 32
theorem M.nat {m:Int} (h:M m):∃ a:Nat,m=(a:Int)∧a < 32:=⟨m.toNat,by have:=h.1; omega,by have:=h.1; have:=h.2; omega⟩
theorem m_or {a b:Int} (ha:M a) (hb:M b):IntKind.i64.wrap (((BitVec.ofInt IntKind.i64.bits a ||| BitVec.ofInt IntKind.i64.bits b).toNat:Int))=mOr a b:=by
 obtain ⟨a,rfl,h1⟩:=ha.nat; obtain ⟨b,rfl,h2⟩:=hb.nat; exact (tab_or a h1 b h2).1
theorem M.or {a b:Int} (ha:M a) (hb:M b):M (mOr a b):=by
 obtain ⟨a,rfl,h1⟩:=ha.nat; obtain ⟨b,rfl,h2⟩:=hb.nat; have:=(tab_or a h1 b h2).2; unfold M mOr; simp only [Zn]; omega
theorem M.and {a b:Int} (ha:M a) (hb:M b):M (mAnd a b):=by
 obtain ⟨a,rfl,h1⟩:=ha.nat; obtain ⟨b,rfl,h2⟩:=hb.nat; have:=(tab_and a h1 b h2).2; unfold M mAnd; simp only [Zn]; omega
theorem M.sub {a b:Int} (ha:M a) (hb:M b):M (mSub a b):=by
 obtain ⟨a,rfl,h1⟩:=ha.nat; obtain ⟨b,rfl,h2⟩:=hb.nat; have:=(tab_sub a h1 b h2).2; unfold M mSub; simp only [Zn]; omega
theorem m_bit {m v:Int} (hm:M m) (h0:0 ≤ v) (h1:v ≤ 5):((((m:Int).fdiv (2 ^ (min v.toNat IntKind.i64.bits)):Int).tmod 2) == 1)=has m v.toNat:=by
 obtain ⟨a,rfl,h2⟩:=hm.nat; exact tab_bit a h2 v.toNat (by omega)
theorem m_bit' {m v:Int} (hm:M m) (h0:0 ≤ v) (h1:v ≤ 5):(IntKind.i64.wrap (((BitVec.ofInt IntKind.i64.bits ((m:Int).fdiv (2 ^ (min v.toNat IntKind.i64.bits)):Int) &&& BitVec.ofInt IntKind.i64.bits 1).toNat:Int)) == 1)=has m v.toNat:=by
 obtain ⟨a,rfl,h2⟩:=hm.nat; exact tab_bit' a h2 v.toNat (by omega)
theorem m_shl {v:Int} (h0:0 ≤ v) (h1:v ≤ 6):IntKind.i64.wrap (1 * 2 ^ (min v.toNat IntKind.i64.bits))=pw v:=tab_shl v.toNat (by omega)
theorem M.pw {v:Int} (h0:0 ≤ v) (h1:v ≤ 4):M (pw v):=by
 have:v=0 ∨ v=1 ∨ v=2 ∨ v=3 ∨ v=4:=by omega
 rcases this with rfl | rfl | rfl | rfl | rfl <;> exact ⟨by decide,by decide⟩
theorem has_or {a b:Int} (v:Nat):has (mOr a b) v=(has a v || has b v):=by unfold has mOr; rw [Int.toNat_natCast,Nat.testBit_or]
theorem has_big {m:Int} (hm:M m) {v:Nat} (hv:5 ≤ v):has m v=false:=by
 obtain ⟨a,rfl,h2⟩:=hm.nat
 exact Nat.testBit_lt_two_pow (Nat.lt_of_lt_of_le h2 (Nat.pow_le_pow_right (n:=2) (by omega) hv))
theorem has_sub {a b:Int} (ha:M a) (hb:M b) (v:Nat):has (mSub a b) v=(has a v && !has b v):=by
 by_cases hv:5 ≤ v
 ·rw [has_big (M.sub ha hb) hv,has_big ha hv]; rfl
 ·obtain ⟨a,rfl,ha⟩:=ha.nat; obtain ⟨b,rfl,hb⟩:=hb.nat
  unfold has mSub
  simp only [Zn,Nat.testBit_and,Nat.testBit_xor]
  have:(31:Nat).testBit v=true:=by
   have:v=0 ∨ v=1 ∨ v=2 ∨ v=3 ∨ v=4:=by omega
   rcases this with rfl | rfl | rfl | rfl | rfl <;> decide
  rw [this]
  cases b.testBit v <;> rfl
theorem has_pw {v:Int} (h0:0 ≤ v) (w:Nat):has (pw v) w=decide ((w:Int)=v):=by
 unfold has pw
 rw [Int.toNat_natCast,Nat.testBit_two_pow]
 exact decide_eq_decide.2 (by omega)
theorem m_ext {a b:Int} (ha:M a) (hb:M b) (h:∀ v,v < 5→has a v=has b v):a=b:=by
 have h':∀ v,has a v=has b v:=fun v=>by
  by_cases hv:5 ≤ v
  ·rw [has_big ha hv,has_big hb hv]
  ·exact h v (by omega)
 obtain ⟨a,rfl,ha⟩:=ha.nat; obtain ⟨b,rfl,hb⟩:=hb.nat
 congr 1
 exact Nat.eq_of_testBit_eq h'
/-! ### Rules -/
abbrev V:=Int × List Int × Int
def distFrom (vals:List Int):Nat→Nat→Bool
 | _,0=>true
 | i,j + 1=>!(vals.take i).contains (vals.getD i 0) && distFrom vals (i + 1) j
def holdsV (kind value:Int) (vals:List Int):Bool:=
 if kind=1 then distFrom vals 0 vals.length else if kind=2 then decide (vals.foldl (· + ·) 0=value) else if kind=3 then decide (vals.foldl (· * ·) 1=value)
 else if kind=4 then decide (vals.getD 0 0 < vals.getD 1 0) else decide (mx (vals.getD 0 0 - vals.getD 1 0) (vals.getD 1 0 - vals.getD 0 0)=value)
def orFrom (vals:List Int):List Int→Nat→Nat→List Int
 | fl,_,0=>fl
 | fl,i,j + 1=>orFrom vals (fl.set i (mOr (fl.getD i 0) (pw (vals.getD i 0)))) (i + 1) j
def orAll (found vals:List Int):List Int:=orFrom vals found 0 vals.length
def ways (h:List Int→Bool):List Int→List Int→List Int→List Int
 | [],vals,found=>if h vals=true then orAll found vals else found
 | m :: ms,vals,found=>(maskVals m).foldl (fun f v=>ways h ms (vals ++ [v]) f) found
def ruleMasksV (kind value:Int) (own:List Int):List Int:=ways (holdsV kind value) own [] (List.replicate own.length 0)
def ownOf (masks cells:List Int):List Int:=cells.map (gv masks)
def openOf (n:Int) (g:List Int):List Int:=g.map fun v=>if v > 0 then pw v else topMask n
def canHoldV (n:Int) (g:List Int) (r:V):Bool:=(ruleMasksV r.1 r.2.2 (ownOf (openOf n g) r.2.1)).headD 0 != 0
def compatFrom (a g:List Int):Nat→Nat→Bool
 | _,0=>true
 | i,j + 1=>!(decide (a.getD i 0 > 0) && (decide (g.getD i 0 > 0) && (g.getD i 0 != a.getD i 0))) && compatFrom a g (i + 1) j
def compatB (given g:List Int):Bool:=compatFrom given g 0 g.length
def fitsV (n:Int) (given:List Int) (vs:List V) (g:List Int):Bool:=compatB given g && (vs.all (canHoldV n g) && !clash g n)
def ruleOkV (n:Int) (r:V):Bool:=ruleOk n r.1 r.2.1 r.2.2
def puzzleV (n:Int) (given:List Int) (vs:List V):Bool:=gridOk given n && (decide (vs.length ≤ 20) && vs.all (ruleOkV n))
def puzzleFitsV (n:Int) (given:List Int) (vs:List V) (g:List Int):Bool:=puzzleV n given vs && (gridOk g n && fitsV n given vs g)
def puzzleSolvedV (n:Int) (given:List Int) (vs:List V) (g:List Int):Bool:=puzzleFitsV n given vs g && decide (filled g=g.length)
def upto:Nat→Int→List Int
 | 0,_=>[]
 | j + 1,v=>v :: upto j (v + 1)
def sols (f:List Int→Bool) (n:Nat):Nat→List Int→List (List Int)
 | 0,g=>[g]
 | rem + 1,g=>if 0 < g.getD (g.length - (rem + 1)) 0 then sols f n rem g
  else (upto n 1).flatMap fun v=>if f (g.set (g.length - (rem + 1)) v)=true then sols f n rem (g.set (g.length - (rem + 1)) v) else []
def allSols (n:Int) (given:List Int) (vs:List V):List (List Int):=if puzzleFitsV n given vs given=true then sols (fitsV n given vs) n.toNat given.length given else []
def zeros (n:Int):List Int:=List.replicate (n * n).toNat 0
def squares (n:Int):List (List Int):=sols (fun g=>!clash g n) n.toNat (n * n).toNat (zeros n)
def masksOk (n:Int) (l:List Int):Bool:=decide (2 ≤ n∧n ≤ 4) && (l.all (maskOk n) && decide ((l.length:Int)=n * n))
theorem rdn {H:Hp} {k:IntKind} {s:Sl} {l:List Int} (h:Reads k H s l) {i:Nat} (h1:i < l.length):ldI k H s.blk (s.off + i * 1)=some (l.getD i 0):=by
 rw [Nat.mul_one,reads_at h i h1,List.getD_eq_getElem?_getD,List.getElem?_eq_getElem h1]; rfl
theorem dt {p:Prop} [Decidable p] (h:p):decide p=true:=decide_eq_true h
theorem df {p:Prop} [Decidable p] (h:¬ p):decide p=false:=decide_eq_false h
theorem bt {a b:Int} (h:a=b):(a == b)=true:=by simp [h]
theorem bf {a b:Int} (h:a ≠ b):(a == b)=false:=by simp [h]
theorem nt {a b:Int} (h:a ≠ b):(a != b)=true:=by simp [h]
theorem nf {a b:Int} (h:a=b):(a != b)=false:=by simp [h]
theorem ip {α:Type} {c:Prop} [Decidable c] {a b:α} (h:c):(if c then a else b)=a:=if_pos h
theorem iN {α:Type} {c:Prop} [Decidable c] {a b:α} (h:¬ c):(if c then a else b)=b:=if_neg h
def Vals (l:List Int):Prop:=l.length ≤ 4∧∀ v ∈ l,0 ≤ v∧v ≤ 4
theorem Vals.at {l:List Int} (h:Vals l) (i:Nat):0 ≤ l.getD i 0∧l.getD i 0 ≤ 4:=by
 rw [List.getD_eq_getElem?_getD]
 by_cases hi:i < l.length
 ·rw [List.getElem?_eq_getElem hi]; exact h.2 _ (List.getElem_mem hi)
 ·rw [List.getElem?_eq_none (by omega)]; simp
structure Adv (b:Nat) (H H':Hp):Prop where
 but:But b H H'
 le:H.length ≤ H'.length
theorem Adv.refl (b:Nat) (H:Hp):Adv b H H:=⟨fun _ _ _ h=>h,Nat.le_refl _⟩
theorem Adv.trans {b:Nat} {H H1 H2:Hp} (h:Adv b H H1) (h':Adv b H1 H2):Adv b H H2:=⟨fun c x hc hx=>h'.but c x hc (h.but c x hc hx),Nat.le_trans h.le h'.le⟩
theorem pf_adv {b:Nat} {H H':Hp} (g:H <+: H'):Adv b H H':=⟨fun c x _ hx=>pf_get g hx,g.length_le⟩
theorem Adv.own {b sz:Nat} {B H H':Hp} {s:Sl} {c:List AV} (h:Adv b H H') (hb:b < B.length) (ho:Own sz B H s c):Own sz B H' s c:=h.but.own (by have:=ho.blk; omega) ho
theorem Adv.reads {b:Nat} {H H':Hp} {k:IntKind} {s:Sl} {l:List Int} (h:Adv b H H') (hb:s.blk ≠ b) (hr:Reads k H s l):Reads k H' s l:=h.but.reads hb hr
structure RD (b:Nat) (H:Hp) (l:List Int) (p:Nat):Prop where
 ex:∃ s,H[b]?=some (some ⟨false,[.sl 1 s,.int .i64 p]⟩)∧Reads .u8 H s l∧(l ≠ []→s.blk ≠ b)
 len:l.length ≤ 2000
 byte:∀ x ∈ l,0 ≤ x∧x ≤ 255
theorem RD.lt {b:Nat} {H:Hp} {l:List Int} {p:Nat} (h:RD b H l p):b < H.length:=by
 obtain ⟨s,h1,_⟩:=h.ex
 exact (List.getElem?_eq_some_iff.1 h1).1
theorem RD.pf {b:Nat} {H H':Hp} {l:List Int} {p:Nat} (h:RD b H l p) (g:H <+: H'):RD b H' l p:=by
 obtain ⟨s,h1,h2,h3⟩:=h.ex
 exact ⟨⟨s,pf_get g h1,pf_reads g h2,h3⟩,h.len,h.byte⟩
theorem RD.but {b c:Nat} {H H':Hp} {l:List Int} {p:Nat} (h:RD b H l p) (g:But c H H') (hc:b ≠ c) (hs:∀ s,H[b]?=some (some ⟨false,[.sl 1 s,.int .i64 p]⟩)→l ≠ []→s.blk ≠ c):RD b H' l p:=by
 obtain ⟨s,h1,h2,h3⟩:=h.ex
 refine ⟨⟨s,g _ _ hc h1,?_,h3⟩,h.len,h.byte⟩
 by_cases hl:l=[]
 ·subst hl; exact reads_nil h2.len
 ·exact g.reads (hs s h1 hl) h2
theorem xor_nonneg {x y:Int} (hx:0 ≤ x∧x < 4611686018427387904) (hy:0 ≤ y∧y < 4611686018427387904) :
  0 ≤ IntKind.i64.wrap (((BitVec.ofInt IntKind.i64.bits x ^^^ BitVec.ofInt IntKind.i64.bits y).toNat:Int)):=by
 obtain ⟨a,rfl⟩:=Int.eq_ofNat_of_zero_le hx.1
 obtain ⟨c,rfl⟩:=Int.eq_ofNat_of_zero_le hy.1
 have ha:a < 2 ^ 62:=by have:=hx.2; omega
 have hc:c < 2 ^ 62:=by have:=hy.2; omega
 have hb:IntKind.i64.bits=64:=rfl
 rw [hb,BitVec.toNat_xor]
 have ea:(BitVec.ofInt 64 (a:Int)).toNat=a:=by rw [BitVec.toNat_ofInt]; omega
 have ec:(BitVec.ofInt 64 (c:Int)).toNat=c:=by rw [BitVec.toNat_ofInt]; omega
 rw [ea,ec]
 have:=Nat.xor_lt_two_pow ha hc
 rw [wr (by omega) (by omega)]
 omega
theorem pick_ok {k:Nat} (hk:1 ≤ k) {b:Nat} {H:Hp} {l:List Int} {p:Nat} (h:RD b H l p) (hp:p ≤ 1000000000) (n:Int) :
  ∃ v H',callF PP orc k spec_l20Rd_pick.id [.ptr b 0,.int .i64 n] H=some (.int .i64 v,H')∧RD b H' l (p + 1)∧But b H H'∧H'.length=H.length∧0 ≤ v∧(1 ≤ n→v < n)∧(n ≤ 1→v=0):=by
 obtain ⟨k,rfl⟩:=Zs k (by omega)
 rw [spec_l20Rd_pick.call]
 obtain ⟨s,h1,h2,h3⟩:=h.ex
 have hb:=(List.getElem?_eq_some_iff.1 h1).1
 have l1:ldI .i64 H b (0 + 1)=some (p:Int):=by unfold ldI Hp.cell; rw [h1]; simp [AV.toI]
 have w1:IntKind.i64.wrap ((p:Int) + 1)=((p + 1:Nat):Int):=by rw [wr (by omega) (by omega)]; rfl
 let H2:=H.set b (some ⟨false,[.sl 1 s,.int .i64 ((p + 1:Nat):Int)]⟩)
 have a1:H.sto b (0 + 1) [.int .i64 ((p + 1:Nat):Int)]=some H2:=by
  unfold Hp.sto; rw [h1]; simp [H2]
 have hbut:But b H H2:=fun c x hc hx=>by
  show (H.set b _)[c]?=some x
  rw [List.getElem?_set_ne (Ne.symm hc)]; exact hx
 have h2b:H2[b]?=some (some ⟨false,[.sl 1 s,.int .i64 ((p + 1:Nat):Int)]⟩):=by
  show (H.set b _)[b]?=_
  rw [List.getElem?_set_self hb]
 have hr2:Reads .u8 H2 s l:=by
  by_cases hl:l=[]
  ·subst hl; exact reads_nil h2.len
  ·exact hbut.reads (h3 hl) h2
 have rd2:RD b H2 l (p + 1):=⟨⟨s,h2b,hr2,h3⟩,h.len,h.byte⟩
 have hlen:H2.length=H.length:=by simp [H2]
 have s0:ldS 1 H2 b (0 + 0)=some s:=by unfold ldS Hp.cell; rw [h2b]; simp [AV.toS]
 have l4:ldI .i64 H2 b (0 + 1)=some ((p + 1:Nat):Int):=by unfold ldI Hp.cell; rw [h2b]; simp [AV.toI]
 have sl:s.len=l.length:=h2.len
 have hll:=h.len
 clear_value H2
 by_cases hn:n < 1
 ·exact ⟨0,H2,by simp only [spec_l20Rd_pick.f,spec_l20Rd_pick.j0,l1,Zo,w1,a1,hn,decide_true,Zt],rd2,hbut,hlen,by omega,by omega,fun _=>rfl⟩
 ·by_cases hl0:l.length=0
  ·have e:((s.len:Int) == 0)=true:=by simp; omega
   exact ⟨0,H2,by simp only [spec_l20Rd_pick.f,spec_l20Rd_pick.j0,l1,Zo,w1,a1,hn,decide_false,Zf,Zt,s0,e],rd2,hbut,hlen,by omega,by omega,fun _=>rfl⟩
  ·have e:((s.len:Int) == 0)=false:=by simp; omega
   have w2:IntKind.i64.wrap (((p + 1:Nat):Int) - 1)=(p:Int):=by rw [wr (by omega) (by omega)]; omega
   have byt:∀ i:Nat,(hi:i < l.length)→ldI .u8 H2 s.blk (s.off + i)=some l[i]∧0 ≤ l[i]∧l[i] ≤ 255:=fun i hi=>⟨reads_at hr2 i hi,h.byte _ (List.getElem_mem hi)⟩
   have hn0:¬ (n=0):=by omega
   by_cases c:(p:Int) < (s.len:Int)
   ·have hi:p < l.length:=by omega
    obtain ⟨b1,b2,b3⟩:=byt p hi
    have w3:IntKind.i64.wrap l[p]=l[p]:=wr (by omega) (by omega)
    have q0:(0:Int) ≤ (p:Int):=by omega
    refine ⟨(l[p]).tmod n,H2,?_,rd2,hbut,hlen,Int.tmod_nonneg _ b2,fun h1=>Int.tmod_lt_of_pos _ (by omega),fun h1=>?_⟩
    ·simp only [spec_l20Rd_pick.f,spec_l20Rd_pick.j0,spec_l20Rd_pick.j1,l1,l4,Zo,w1,w2,a1,hn,decide_false,decide_true,Za,Zf,Zt,s0,e,c,q0,Zn,Nat.mul_one,b1,hn0,if_false,w3]
    ·have:n=1:=by omega
     subst this; simp
   ·have hlpos:0 < l.length:=by omega
    have hsl0:¬ ((s.len:Int)=0):=by omega
    have q0:(0:Int) ≤ (p:Int):=by omega
    have m0:0 ≤ (p:Int).tmod (s.len:Int):=Int.tmod_nonneg _ q0
    have m1:(p:Int).tmod (s.len:Int) < (s.len:Int):=Int.tmod_lt_of_pos _ (by omega)
    have w4:IntKind.i64.wrap ((p:Int) * 7)=(p:Int) * 7:=wr (by omega) (by omega)
    have w5:IntKind.i64.wrap ((p:Int) * 7 + 3)=(p:Int) * 7 + 3:=wr (by omega) (by omega)
    have n0:0 ≤ ((p:Int) * 7 + 3).tmod (s.len:Int):=Int.tmod_nonneg _ (by omega)
    have n1:((p:Int) * 7 + 3).tmod (s.len:Int) < (s.len:Int):=Int.tmod_lt_of_pos _ (by omega)
    have w6:IntKind.i64.wrap ((p:Int) * 29)=(p:Int) * 29:=wr (by omega) (by omega)
    have d0:0 ≤ (p:Int).tdiv (s.len:Int):=Int.tdiv_nonneg q0 (by omega)
    have d1:(p:Int).tdiv (s.len:Int) ≤ (p:Int):=Int.tdiv_le_self _ q0
    generalize gdv:(p:Int).tdiv (s.len:Int)=dv at *
    generalize gi1:(p:Int).tmod (s.len:Int)=i1 at *
    generalize gi2:((p:Int) * 7 + 3).tmod (s.len:Int)=i2 at *
    obtain ⟨b1,b2,b3⟩:=byt i1.toNat (by omega)
    obtain ⟨c1,c2,c3⟩:=byt i2.toNat (by omega)
    generalize l[i1.toNat]=x1 at *
    generalize l[i2.toNat]=x2 at *
    have w7:IntKind.i64.wrap x1=x1:=wr (by omega) (by omega)
    have w8:IntKind.i64.wrap (x1 * 131)=x1 * 131:=wr (by omega) (by omega)
    have w9:IntKind.i64.wrap x2=x2:=wr (by omega) (by omega)
    have w10:IntKind.i64.wrap (x2 * 1117)=x2 * 1117:=wr (by omega) (by omega)
    have w11:IntKind.i64.wrap (x1 * 131 + x2 * 1117)=x1 * 131 + x2 * 1117:=wr (by omega) (by omega)
    have w12:IntKind.i64.wrap (x1 * 131 + x2 * 1117 + (p:Int) * 29)=x1 * 131 + x2 * 1117 + (p:Int) * 29:=wr (by omega) (by omega)
    have w13:IntKind.i64.wrap dv=dv:=wr (by omega) (by omega)
    have w14:IntKind.i64.wrap (dv * 53)=dv * 53:=wr (by omega) (by omega)
    have w15:IntKind.i64.wrap (x1 * 131 + x2 * 1117 + (p:Int) * 29 + dv * 53)=x1 * 131 + x2 * 1117 + (p:Int) * 29 + dv * 53:=wr (by omega) (by omega)
    have hX:0 ≤ x1 * 131 + x2 * 1117 + (p:Int) * 29 + dv * 53∧x1 * 131 + x2 * 1117 + (p:Int) * 29 + dv * 53 < 4611686018427387904:=by omega
    generalize gX:x1 * 131 + x2 * 1117 + (p:Int) * 29 + dv * 53=X at *
    have y0:0 ≤ X.tdiv 64:=Int.tdiv_nonneg hX.1 (by omega)
    have y1:X.tdiv 64 ≤ X:=Int.tdiv_le_self _ hX.1
    have w16:IntKind.i64.wrap (X.tdiv 64)=X.tdiv 64:=wr (by omega) (by omega)
    have hxor:=xor_nonneg hX (y:=X.tdiv 64) ⟨y0,by omega⟩
    refine ⟨(IntKind.i64.wrap (((BitVec.ofInt IntKind.i64.bits X ^^^ BitVec.ofInt IntKind.i64.bits (X.tdiv 64)).toNat:Int))).tmod n,H2,?_,rd2,hbut,hlen,Int.tmod_nonneg _ hxor,fun h1=>Int.tmod_lt_of_pos _ (by omega),fun h1=>?_⟩
    ·simp only [spec_l20Rd_pick.f,spec_l20Rd_pick.j0,spec_l20Rd_pick.j1,l1,l4,Zo,w1,w2,a1,hn,decide_false,decide_true,Za,Zf,Zt,s0,e,c,hsl0,if_false,m0,m1,n0,n1,Nat.mul_one,b1,c1,w4,w5,w6,w7,w8,w9,w10,w11,w12,w13,w14,w15,w16,hn0,gdv,gi1,gi2,gX]
    ·have:n=1:=by omega
     subst this; simp
theorem odd_ok {k:Nat} (hk:2 ≤ k) {b:Nat} {H:Hp} {l:List Int} {p:Nat} (h:RD b H l p) (hp:p ≤ 1000000000) {n:Int} (hn:n < 1000000) :
  ∃ v p' H',callF PP orc k spec_l20Rd_odd.id [.ptr b 0,.int .i64 n] H=some (.bool v,H')∧RD b H' l p'∧p' ≤ p + 1∧But b H H'∧H'.length=H.length∧(n ≤ 0→v=false):=by
 obtain ⟨k,rfl⟩:=Zs k (by omega)
 rw [spec_l20Rd_odd.call]
 by_cases c:n > 0
 ·obtain ⟨v,H',a1,a2,a3,a4,a5,a6,a7⟩:=pick_ok (show 1 ≤ k by omega) h hp n
  have w:IntKind.i64.wrap (n - 1)=n - 1:=wr (by omega) (by omega)
  exact ⟨v == n - 1,p + 1,H',by simp only [spec_l20Rd_odd.f,c,decide_true,Zt,a1,Zo,AV.toI,if_true,w],a2,by omega,a3,a4,by omega⟩
 ·exact ⟨false,p,H,by simp only [spec_l20Rd_odd.f,c,decide_false,Zf],h,by omega,fun _ _ _ h=>h,rfl,fun _=>rfl⟩
theorem reads_take {k:IntKind} {H:Hp} {s:Sl} {l:List Int} (h:Reads k H s l) (m:Nat) (hm:m ≤ l.length) (b:Bool):Reads k H (Sl.mk b s.blk s.off m) (l.take m):=
 ⟨by simp; omega,fun i hi=>by
  have hi':i < l.length:=by simp at hi; omega
  simpa using h.cell i hi'⟩
theorem l20Open_ok {k:Nat} (hk:1 ≤ k) {H:Hp} {s:Sl} {l:List Int} (hs:Reads .u8 H s l) (hb:∀ x ∈ l,0 ≤ x∧x ≤ 255) :
  ∃ l' H',callF PP orc k spec_l20Open.id [.sl 1 s] H=some (.ptr H.length 0,H')∧H <+: H'∧RD H.length H' l' 0∧H'.length=H.length + 1:=by
 obtain ⟨k,rfl⟩:=Zs k (by omega)
 rw [spec_l20Open.call]
 have hlen:=hs.len
 have lt:∀ {l:List Int} {s:Sl},Reads .u8 H s l→l ≠ []→s.blk ≠ H.length:=by
  intro l s h hl e
  have:=h.cell 0 (List.length_pos_iff.2 hl)
  unfold Hp.cell at this
  rw [e] at this
  simp at this
 have fin:∀ (s:Sl) (l:List Int),Reads .u8 H s l→l.length ≤ 2000→(∀ x ∈ l,0 ≤ x∧x ≤ 255)→RD H.length (H ++ [some (Blk.mk false [.sl 1 s,.int .i64 0])]) l 0:=fun s l h h1 h2=>
  ⟨⟨s,by simp,pf_reads (List.prefix_append _ _) h,lt h⟩,h1,h2⟩
 by_cases c:(s.len:Int) > 2000
 ·have ht:=reads_take hs 2000 (by omega) s.nil
  have e:Sl.mk s.nil s.blk (s.off + (0:Int).toNat * 1) ((2000:Int) - 0).toNat=Sl.mk s.nil s.blk s.off 2000:=rfl
  refine ⟨l.take 2000,_,?_,List.prefix_append _ _,fin _ _ ht (by simp; omega) (fun x hx=>hb x (List.mem_of_mem_take hx)),by simp⟩
  simp only [spec_l20Open.f,spec_l20Open.j0,c,decide_true,Zt,e]
  rw [if_pos ⟨⟨by omega,by omega,by omega,by trivial⟩,by omega,by trivial⟩]
 ·refine ⟨l,_,?_,List.prefix_append _ _,fin _ _ hs (by omega) hb,by simp⟩
  simp only [spec_l20Open.f,spec_l20Open.j0,c,decide_false,Zf]
theorem among {b:Nat} {H H':Hp} {c:List Int} {v:Int} (hbut:But b (H ++ [some (Blk.mk false (c.map (.int .i64)))]) H') (hb:b < H.length) (h0:0 ≤ v) (h1:v < (c.length:Int)):∃ x,ldI .i64 H' H.length (0 + v.toNat)=some x∧x ∈ c:=by
 obtain ⟨i,rfl⟩:=Int.eq_ofNat_of_zero_le h0
 have hi:i < c.length:=by omega
 have:=hbut _ _ (by omega:H.length ≠ b) (by simp:(H ++ [some (Blk.mk false (c.map (.int .i64)))])[H.length]?=some (some (Blk.mk false (c.map (.int .i64)))))
 refine ⟨c[i],?_,List.getElem_mem hi⟩
 unfold ldI Hp.cell
 rw [this]
 simp [hi,AV.toI]
theorem l20Size_ok {k:Nat} (hk:3 ≤ k) {b:Nat} {H:Hp} {l:List Int} {p:Nat} (h:RD b H l p) (hp:p ≤ 999999999) {n:Int} (hn:n < 1000000) :
  ∃ v p' H',callF PP orc k spec_l20Size.id [.ptr b 0,.int .i64 n] H=some (.int .i64 v,H')∧RD b H' l p'∧p' ≤ p + 2∧Adv b H H'∧-1 ≤ v∧v ≤ 5∧(n ≤ 0→2 ≤ v∧v ≤ 4):=by
 obtain ⟨k,rfl⟩:=Zs k (by omega)
 rw [spec_l20Size.call]
 obtain ⟨v,p1,H1,a1,a2,a3,a4,a5,a6⟩:=odd_ok (show 2 ≤ k by omega) h (by omega) hn
 have hb:=a2.lt
 cases v with
 | true=>
  have ho:∀ c:List AV,RD b (H1 ++ [some (Blk.mk false c)]) l p1:=fun c=>a2.pf (List.prefix_append _ _)
  obtain ⟨w,H2,b1,b2,b3,b4,b5,b6,b7⟩:=pick_ok (show 1 ≤ k by omega) (ho ([1,5,-1].map (.int .i64))) (by omega) 3
  obtain ⟨x,c1,c2⟩:=among b3 hb b5 (by have:=b6 (by omega); simpa using this)
  have c3:x=1 ∨ x=5 ∨ x=-1:=by simpa using c2
  have z:w < ((3:Nat):Int):=b6 (by omega)
  refine ⟨x,p1 + 1,H2,?_,b2,by omega,⟨fun c y hc hy=>b3 c y hc (pf_get (List.prefix_append _ _) (a4 c y hc hy)),by rw [b4]; simp; omega⟩,by omega,by omega,fun h=>by have:=a6 h; cases this⟩
  simp only [List.map_cons,List.map_nil] at b1
  simp only [spec_l20Size.f,a1,Zo,AV.toB,Zt,b1,AV.toI,if_true,b5,z,decide_true,Za,Nat.mul_one,c1]
 | false=>
  have ho:∀ c:List AV,RD b (H1 ++ [some (Blk.mk false c)]) l p1:=fun c=>a2.pf (List.prefix_append _ _)
  obtain ⟨w,H2,b1,b2,b3,b4,b5,b6,b7⟩:=pick_ok (show 1 ≤ k by omega) (ho ([2,3,3,4,4].map (.int .i64))) (by omega) 5
  obtain ⟨x,c1,c2⟩:=among b3 hb b5 (by have:=b6 (by omega); simpa using this)
  have c3:x=2 ∨ x=3 ∨ x=4:=by simpa using c2
  have z:w < ((5:Nat):Int):=b6 (by omega)
  refine ⟨x,p1 + 1,H2,?_,b2,by omega,⟨fun c y hc hy=>b3 c y hc (pf_get (List.prefix_append _ _) (a4 c y hc hy)),by rw [b4]; simp; omega⟩,by omega,by omega,fun h=>by omega⟩
  simp only [List.map_cons,List.map_nil] at b1
  simp only [spec_l20Size.f,a1,Zo,AV.toB,Zf,Zt,b1,AV.toI,if_true,b5,z,decide_true,Za,Nat.mul_one,c1]
theorem sto1' {H:Hp} {b:Nat} {x:AV} (hg:H[b]?=some (some ⟨false,[x]⟩)) (v:AV):∃ H',H.sto b 0 [v]=some H'∧H'[b]?=some (some ⟨false,[v]⟩)∧But b H H'∧H'.length=H.length:=by
 have hb:=(List.getElem?_eq_some_iff.1 hg).1
 refine ⟨H.set b (some ⟨false,[v]⟩),?_,by rw [List.getElem?_set_self hb],fun d x hd hx=>by rw [List.getElem?_set_ne (Ne.symm hd)]; exact hx,by simp⟩
 unfold Hp.sto
 rw [hg]
 simp
theorem read_ok {H:Hp} {s:Sl} {l:List Int} {k:IntKind} (h:Reads k H s l):H.read 1 s=some (l.map (.int k)):=by
 unfold Hp.read
 by_cases h0:s.len=0
 ·rw [if_pos h0]
  have:l=[]:=List.length_eq_zero_iff.1 (by rw [← h.len]; exact h0)
  subst this; rfl
 ·rw [if_neg h0]
  have hl:=h.len
  have hlast:=h.cell (l.length - 1) (by omega)
  unfold Hp.cell at hlast
  cases hx:H[s.blk]? with
  | none=>rw [hx] at hlast; simp at hlast
  | some x=>
   cases x with
   | none=>rw [hx] at hlast; simp at hlast
   | some x=>
    rw [hx] at hlast
    simp only at hlast
    have hb:=(List.getElem?_eq_some_iff.1 hlast).1
    simp only
    rw [if_pos (by omega)]
    congr 1
    apply List.ext_getElem?
    intro i
    by_cases hi:i < l.length
    ·have:=h.cell i hi
     unfold Hp.cell at this
     rw [hx] at this
     simp only at this
     rw [List.getElem?_take,if_pos (by omega),List.getElem?_drop,this]
     simp [hi]
    ·rw [List.getElem?_eq_none (by simp; omega),List.getElem?_eq_none (by simp; omega)]
theorem appl_ok (H:Hp) (l:List Int) (k:IntKind) (hl:l.length ≤ 1000000):H.appl 1 [] 0 l.length (l.map (.int k))=some (Sl.mk false H.length 0 l.length,H ++ [some (Blk.mk false (l.map (.int k)))]):=by
 unfold Hp.appl
 rw [if_pos (by simp; omega)]
 simp
theorem cells_ok (l:List Int) (k:IntKind):(l.map (AV.int k)).all AV.cell=true:=by
 simp [AV.cell]
/-! ### More of the kit -/
theorem mem_getD {l:List Int} {i:Nat} (h:i < l.length):l.getD i 0 ∈ l:=by
 rw [List.getD_eq_getElem?_getD,List.getElem?_eq_getElem h]; exact List.getElem_mem h
theorem own_set1 {H0 H:Hp} {s:Sl} {l:List Int} {k:IntKind} (h:Own 1 H0 H s (l.map (.int k))) (g:H0 <+: H) (i:Nat) (hi:i < l.length) (n:Int) :
  ∃ H',H.sto s.blk (s.off + i * 1) [.int k n]=some H'∧H0 <+: H'∧Own 1 H0 H' s ((l.set i n).map (.int k))∧Adv s.blk H H':=by
 obtain ⟨H',a1,a2,a3,a4,a5⟩:=own_set h g i hi n
 exact ⟨H',by rw [Nat.mul_one]; exact a1,a2,a3,⟨a4,by omega⟩⟩
theorem own_lt' {sz:Nat} {H0 H:Hp} {s:Sl} {c:List AV} (h:Own sz H0 H s c):s.blk < H.length:=(List.getElem?_eq_some_iff.1 h.get).1
/-! ### Lengths and bounds of the model -/
def Ms (l:List Int):Prop:=∀ m ∈ l,M m
theorem Ms.at {l:List Int} (h:Ms l) (i:Nat):M (l.getD i 0):=by
 by_cases hi:i < l.length
 ·exact h _ (mem_getD hi)
 ·rw [List.getD_eq_getElem?_getD,List.getElem?_eq_none (by omega)]; exact ⟨by decide,by decide⟩
theorem Ms.set {l:List Int} (h:Ms l) (i:Nat) {v:Int} (hv:M v):Ms (l.set i v):=fun m hm=>by
 rcases List.mem_or_eq_of_mem_set hm with hm | hm
 ·exact h m hm
 ·rw [hm]; exact hv
theorem orFrom_ok {vals:List Int} (hv:Vals vals):∀ (j i:Nat) {fl:List Int},Ms fl→Ms (orFrom vals fl i j)∧(orFrom vals fl i j).length=fl.length
 | 0,i,fl,h=>⟨h,rfl⟩
 | j + 1,i,fl,h=>by
  have:=orFrom_ok hv j (i + 1) (fl:=fl.set i (mOr (fl.getD i 0) (pw (vals.getD i 0)))) (h.set i (M.or (h.at i) (M.pw (hv.at i).1 (hv.at i).2)))
  exact ⟨this.1,by rw [orFrom,this.2,List.length_set]⟩
theorem Vals.app {l:List Int} (h:Vals l) (hl:l.length < 4) {v:Int} (hv:0 ≤ v∧v ≤ 4):Vals (l ++ [v]):=
 ⟨by simp; omega,fun x hx=>by
  rcases List.mem_append.1 hx with hx | hx
  ·exact h.2 x hx
  ·simp at hx; rw [hx]; exact hv⟩
theorem ways_ok (h:List Int→Bool):∀ (ms vals fl:List Int),Vals vals→vals.length + ms.length ≤ 4→Ms fl→Ms (ways h ms vals fl)∧(ways h ms vals fl).length=fl.length
 | [],vals,fl,hv,_,hf=>by
  rw [ways]
  split
  ·exact orFrom_ok hv _ _ hf
  ·exact ⟨hf,rfl⟩
 | m :: ms,vals,fl,hv,hl,hf=>by
  rw [ways]
  have key:∀ (l:List Int) (fl:List Int),(∀ v ∈ l,1 ≤ v∧v ≤ 4)→Ms fl→Ms (l.foldl (fun f v=>ways h ms (vals ++ [v]) f) fl)∧(l.foldl (fun f v=>ways h ms (vals ++ [v]) f) fl).length=fl.length:=by
   intro l
   induction l with
   | nil=>intro fl _ hf; exact ⟨hf,rfl⟩
   | cons v l ih=>
    intro fl hl' hf
    have hv':=hl' v (by simp)
    simp only [Zl] at hl
    have:=ways_ok h ms (vals ++ [v]) fl (hv.app (by omega) ⟨by omega,hv'.2⟩) (by simp; omega) hf
    have h2:=ih _ (fun x hx=>hl' x (by simp [hx])) this.1
    exact ⟨h2.1,h2.2.trans this.2⟩
  exact key _ fl (fun v hv=>maskVals_mem hv) hf
theorem n7 {n:Int} (hb:-1 ≤ n∧n ≤ 5):0 ≤ n * n∧n * n ≤ 25:=by
 have:n=-1 ∨ n=0 ∨ n=1 ∨ n=2 ∨ n=3 ∨ n=4 ∨ n=5:=by omega
 rcases this with rfl | rfl | rfl | rfl | rfl | rfl | rfl <;> decide
theorem cellsOk_at {n:Int} {cells:List Int}:∀ (j i:Nat),cellsOk n cells i j=true→∀ m,i ≤ m→m < i + j→(0 ≤ cells.getD m 0∧cells.getD m 0 ≤ n * n - 1)∧(cells.take m).contains (cells.getD m 0)=false
 | 0,i,_,m,h1,h2=>by omega
 | j + 1,i,h,m,h1,h2=>by
  rw [cellsOk] at h
  simp only [Bool.and_eq_true,decide_eq_true_eq,Bool.not_eq_true'] at h
  by_cases e:m=i
  ·subst e; exact ⟨h.1,h.2.1⟩
  ·exact cellsOk_at j (i + 1) h.2.2 m (by omega) (by omega)
theorem ruleOk_cells {n kind value:Int} {cells:List Int} (h:ruleOk n kind cells value=true):(∀ c ∈ cells,0 ≤ c∧c < n * n)∧cells.length ≤ 4∧1 ≤ cells.length∧((kind=1 ∨ kind=2 ∨ kind=3) ∨ 2 ≤ cells.length):=by
 unfold ruleOk at h
 rw [Bool.and_eq_true] at h
 refine ⟨fun c hc=>?_,?_⟩
 ·obtain ⟨m,hm,rfl⟩:=List.getElem_of_mem hc
  have:=(cellsOk_at cells.length 0 h.1 m (by omega) (by omega)).1
  simp [List.getD_eq_getElem?_getD,hm] at this
  omega
 ·have:=h.2
  unfold kindOk at this
  split at this
  ·simp only [decide_eq_true_eq] at this; omega
  ·split at this
   ·simp only [decide_eq_true_eq] at this; omega
   ·split at this
    ·simp only [decide_eq_true_eq] at this; omega
    ·split at this
     ·simp only [decide_eq_true_eq] at this; omega
     ·cases this
theorem masksOk_iff {n:Int} {l:List Int}:masksOk n l=true ↔ (2 ≤ n∧n ≤ 4)∧(∀ m ∈ l,maskOk n m=true)∧(l.length:Int)=n * n:=by
 unfold masksOk
 simp
theorem topMask_le (n:Int):6 ≤ topMask n∧topMask n ≤ 30:=by unfold topMask; split; omega; split <;> omega
theorem maskOk_M {n m:Int} (h:maskOk n m=true):M m:=by
 unfold maskOk at h
 simp only [Bool.and_eq_true,decide_eq_true_eq] at h
 have:=topMask_le n
 exact ⟨h.1.1,by omega⟩
theorem topMask_pw {n:Int} (hn:2 ≤ n∧n ≤ 4):pw (n + 1) - 2=topMask n∧8 ≤ pw (n + 1)∧pw (n + 1) ≤ 32:=by
 have:n=2 ∨ n=3 ∨ n=4:=by omega
 rcases this with rfl | rfl | rfl <;> decide
theorem flat0s (N:Nat):(List.replicate N [AV.int .i64 0]).flatten=(List.replicate N (0:Int)).map (.int .i64):=by
 induction N with
 | zero=>rfl
 | succ N ih=>simp [List.replicate_succ,ih]
theorem Ms.zeros (N:Nat):Ms (List.replicate N 0):=fun m hm=>by have:=(List.mem_replicate.1 hm).2; subst this; exact ⟨by decide,by decide⟩
/-! ### spec.RulePossible -/
theorem openOf_ok {n:Int} {g:List Int} (hg:gridOk g n=true):masksOk n (openOf n g)=true:=by
 obtain ⟨hn,h2,h3⟩:=(gridOk_iff g n).1 hg
 refine masksOk_iff.2 ⟨hn,fun m hm=>?_,by unfold openOf; rw [List.length_map]; exact h2⟩
 obtain ⟨v,hv,rfl⟩:=List.mem_map.1 hm
 have hv':=h3 v hv
 have:n=2 ∨ n=3 ∨ n=4:=by omega
 split
 ·have hv4:v=1 ∨ v=2 ∨ v=3 ∨ v=4:=by omega
  rcases this with rfl | rfl | rfl <;> rcases hv4 with rfl | rfl | rfl | rfl <;> first | omega | decide
 ·rcases this with rfl | rfl | rfl <;> decide
structure PuzAt (H:Hp) (n:Int) (gs s:Sl) (given:List Int) (rs:List R):Prop where
 rg:Reads .i64 H gs given
 rr:ReadsR H s rs
 n4:2 ≤ n∧n ≤ 4
 gl:given.length ≤ 1000
 rl:rs.length ≤ 1000
 rc:∀ r ∈ rs,r.cells.length ≤ 1000
theorem PuzAt.pf {H H':Hp} {n:Int} {gs s:Sl} {given:List Int} {rs:List R} (h:PuzAt H n gs s given rs) (g:H <+: H'):PuzAt H' n gs s given rs:=⟨pf_reads g h.rg,pf_readsR g h.rr,h.n4,h.gl,h.rl,h.rc⟩
theorem puzzle_map (n:Int) (g:List Int) (rs:List R):puzzleOk n g rs=puzzleV n g (rs.map R.val):=by
 unfold puzzleOk puzzleV
 rw [List.length_map,List.all_map]; rfl
theorem rules_at1 {H:Hp} {s:Sl} {rs:List R} (h:ReadsR H s rs) (i:Nat) (hi:i < rs.length) :
  ldI .i64 H s.blk (s.off + i * 3)=some rs[i].kind∧ldS 1 H s.blk (s.off + i * 3 + 1)=some rs[i].sl∧ldI .i64 H s.blk (s.off + i * 3 + 1 + 1)=some rs[i].value:=rules_at h i hi
theorem puzzleV_iff {n:Int} {given:List Int} {rs:List R} (h:puzzleV n given (rs.map R.val)=true):gridOk given n=true∧rs.length ≤ 20∧∀ r ∈ rs,R.ok n r=true:=by
 unfold puzzleV at h
 simp only [Bool.and_eq_true,decide_eq_true_eq,List.length_map,List.all_map,List.all_eq_true] at h
 exact ⟨h.1,h.2.1,h.2.2⟩
theorem grid_len_eq {n:Int} {a b:List Int} (ha:gridOk a n=true) (hb:gridOk b n=true):a.length=b.length:=by
 have:=((gridOk_iff a n).1 ha).2.1
 have:=((gridOk_iff b n).1 hb).2.1
 omega
/-! ### The search -/
structure Outs (B:Hp) (b:Nat) (H:Hp) (s:Sl) (ls:List (List Int)):Prop where
 cell:H[b]?=some (some ⟨false,[.sl 1 s]⟩)
 bB:B.length ≤ b
 bs:s.blk ≠ b
 ex:∃ ss:List Sl,Own 1 B H s (ss.map (.sl 1))∧ss.length=ls.length∧∀ i,(h:i < ss.length)→(h':i < ls.length)→Own 1 B H ss[i] (ls[i].map (.int .i64))∧ss[i].blk ≠ b∧ss[i].blk ≠ s.blk∧ss[i].blk < H.length∧B.length ≤ ss[i].blk
structure Adv2 (b c:Nat) (H H':Hp):Prop where
 but:∀ (d:Nat) (x:Option Blk),d ≠ b→d ≠ c→H[d]?=some x→H'[d]?=some x
 le:H.length ≤ H'.length
theorem Adv2.refl (b c:Nat) (H:Hp):Adv2 b c H H:=⟨fun _ _ _ _ h=>h,Nat.le_refl _⟩
theorem Adv2.cell {b c:Nat} {H H':Hp} (h:Adv2 b c H H') {d o:Nat} (h1:d ≠ b) (h2:d ≠ c) {v:AV} (hv:H.cell d o=some v):H'.cell d o=some v:=by
 unfold Hp.cell at hv ⊢
 split at hv
 ·rename_i x hx; rw [h.but d _ h1 h2 hx]; exact hv
 ·simp at hv
theorem Adv2.reads {b c:Nat} {H H':Hp} (h:Adv2 b c H H') {k:IntKind} {s:Sl} {l:List Int} (h1:s.blk ≠ b) (h2:s.blk ≠ c) (hr:Reads k H s l):Reads k H' s l:=⟨hr.len,fun i hi=>h.cell h1 h2 (hr.cell i hi)⟩
theorem Adv2.own {b c:Nat} {H H' B:Hp} (h:Adv2 b c H H') {sz:Nat} {s:Sl} {x:List AV} (h1:s.blk ≠ b) (h2:s.blk ≠ c) (hr:Own sz B H s x):Own sz B H' s x:=⟨hr.nn,hr.off,hr.blk,h.but _ _ h1 h2 hr.get,hr.len⟩
theorem Adv2.pf {b c:Nat} {H H' B:Hp} (h:Adv2 b c H H') (hb:B.length ≤ b) (hc:B.length ≤ c) (g:B <+: H):B <+: H':=by
 have hl0:=g.length_le
 have hle:=h.le
 rw [List.prefix_iff_eq_take]
 apply List.ext_getElem?
 intro i
 by_cases hi:i < B.length
 ·rw [List.getElem?_take,if_pos hi]
  have e:=List.getElem?_eq_getElem hi
  rw [e,h.but i _ (by omega) (by omega) (pf_get g e)]
 ·rw [List.getElem?_eq_none (by omega),List.getElem?_eq_none (by simp; omega)]
theorem Adv2.trans {b c c':Nat} {H H1 H2:Hp} (h:Adv2 b c H H1) (h':Adv2 b c' H1 H2) (hc:c'=c ∨ H.length ≤ c'):Adv2 b c H H2:=
 ⟨fun d x h1 h2 hx=>by
  have hd:=(List.getElem?_eq_some_iff.1 hx).1
  exact h'.but d x h1 (by omega) (h.but d x h1 h2 hx),Nat.le_trans h.le h'.le⟩
theorem pf_adv2 {b c:Nat} {H H':Hp} (g:H <+: H'):Adv2 b c H H':=⟨fun d x _ _ hx=>pf_get g hx,g.length_le⟩
theorem Outs.pf {B H H':Hp} {b:Nat} {s:Sl} {ls:List (List Int)} (h:Outs B b H s ls) (g:H <+: H'):Outs B b H' s ls:=by
 obtain ⟨ss,h1,h2,h3⟩:=h.ex
 exact ⟨pf_get g h.cell,h.bB,h.bs,ss,own_pf h1 g,h2,fun i hi hi'=>by
  obtain ⟨a,b,c,d,e⟩:=h3 i hi hi'
  exact ⟨own_pf a g,b,c,Nat.lt_of_lt_of_le d g.length_le,e⟩⟩
theorem Outs.len {B H:Hp} {b:Nat} {s:Sl} {ls:List (List Int)} (h:Outs B b H s ls):s.len=ls.length:=by
 obtain ⟨ss,h1,h2,h3⟩:=h.ex
 have:=h1.len
 simp at this; omega
def NumAt (b:Nat) (H:Hp) (x:Int):Prop:=H[b]?=some (some ⟨false,[.int .i64 x]⟩)
theorem grid_set {g:List Int} {n:Int} (h:gridOk g n=true) (i:Nat) (v:Int) (hv:0 ≤ v∧v ≤ n):gridOk (g.set i v) n=true:=by
 obtain ⟨h1,h2,h3⟩:=(gridOk_iff g n).1 h
 refine (gridOk_iff _ n).2 ⟨h1,by simpa using h2,fun x hx=>?_⟩
 rcases List.mem_or_eq_of_mem_set hx with hx | hx
 ·exact h3 x hx
 ·rw [hx]; exact hv
structure WR (H0 H:Hp) (s:Sl) (rs:List R):Prop where
 own:Own 3 H0 H s (rs.flatMap R.av)
 rd:∀ i,(h:i < rs.length)→Reads .i64 H rs[i].sl rs[i].cells
 ne:∀ i,(h:i < rs.length)→rs[i].sl.blk ≠ s.blk
 lt:∀ i,(h:i < rs.length)→rs[i].sl.blk < H.length
 lo:∀ i,(h:i < rs.length)→H0.length ≤ rs[i].sl.blk
 nn:∀ i,(h:i < rs.length)→rs[i].sl.nil=false
structure WO (H0 H:Hp) (s:Sl) (rs:List R):Prop where
 own:Own 3 H0 H s (rs.flatMap R.av)
 oc:∀ i,(h:i < rs.length)→Own 1 H0 H rs[i].sl (rs[i].cells.map (.int .i64))
 ne:∀ i,(h:i < rs.length)→rs[i].sl.blk ≠ s.blk
 inj:∀ i j,(hi:i < rs.length)→(hj:j < rs.length)→i ≠ j→rs[i].sl.blk ≠ rs[j].sl.blk
theorem own_lt {sz:Nat} {H0 H:Hp} {s:Sl} {c:List AV} (h:Own sz H0 H s c):s.blk < H.length:=(List.getElem?_eq_some_iff.1 h.get).1
theorem own_readsR {H0 H:Hp} {s:Sl} {rs:List R} (h:Own 3 H0 H s (rs.flatMap R.av)) (hr:∀ i,(h:i < rs.length)→Reads .i64 H rs[i].sl rs[i].cells):ReadsR H s rs:=
 ⟨by have:=h.len; rw [flat_length] at this; omega,fun i hi=>by rw [own_cell h,(flat0 rs i hi).1],fun i hi=>by rw [Nat.add_assoc,own_cell h,(flat0 rs i hi).2.1],fun i hi=>by rw [Nat.add_assoc,own_cell h,(flat0 rs i hi).2.2],hr⟩
theorem WR.reads {H0 H:Hp} {s:Sl} {rs:List R} (h:WR H0 H s rs):ReadsR H s rs:=own_readsR h.own h.rd
theorem WR.pf {H0 H H':Hp} {s:Sl} {rs:List R} (h:WR H0 H s rs) (g:H <+: H'):WR H0 H' s rs:=
 ⟨own_pf h.own g,fun i hi=>pf_reads g (h.rd i hi),h.ne,fun i hi=>Nat.lt_of_lt_of_le (h.lt i hi) g.length_le,h.lo,h.nn⟩
theorem WO.pf {H0 H H':Hp} {s:Sl} {rs:List R} (h:WO H0 H s rs) (g:H <+: H'):WO H0 H' s rs:=
 ⟨own_pf h.own g,fun i hi=>own_pf (h.oc i hi) g,h.ne,h.inj⟩
theorem own_len3 {H0 H:Hp} {s:Sl} {rs:List R} (h:Own 3 H0 H s (rs.flatMap R.av)):s.len=rs.length:=by
 have:=h.len; rw [flat_length] at this; omega
theorem wr_app {H0 H:Hp} {s:Sl} {rs:List R} (h:WR H0 H s rs) (g:H0 <+: H) (hl:rs.length ≤ 1000000) (r:R) (hr:Reads .i64 H r.sl r.cells) (hn:r.sl.blk ≠ s.blk) (hlt:r.sl.blk < H.length) (hlo:H0.length ≤ r.sl.blk) (hnn:r.sl.nil=false) :
  ∃ t' H',H.app 3 s 1 r.av=some (t',H')∧H0 <+: H'∧WR H0 H' t' (rs ++ [r])∧But s.blk H H'∧t'.blk=H.length∧H'.length=H.length + 1:=by
 have hlen:=own_len3 h.own
 obtain ⟨H',a1,a2,a3,a4,a5⟩:=own_app h.own g 1 r.av (by omega) (by omega) (by omega) (by omega) rfl
 refine ⟨_,H',a1,a2,⟨by simpa using a3,fun i hi=>?_,fun i hi=>?_,fun i hi=>?_,fun i hi=>?_,fun i hi=>?_⟩,a4,rfl,a5⟩
 ·by_cases e:i < rs.length
  ·simp only [List.getElem_append_left e]; exact a4.reads (h.ne i e) (h.rd i e)
  ·have ei:i=rs.length:=by simp at hi; omega
   subst ei
   simp only [List.getElem_concat_length]; exact a4.reads hn hr
 ·by_cases e:i < rs.length
  ·simp only [List.getElem_append_left e]; have:=h.lt i e; omega
  ·have ei:i=rs.length:=by simp at hi; omega
   subst ei
   simp only [List.getElem_concat_length]; omega
 ·by_cases e:i < rs.length
  ·simp only [List.getElem_append_left e]; have:=h.lt i e; omega
  ·have ei:i=rs.length:=by simp at hi; omega
   subst ei
   simp only [List.getElem_concat_length]; omega
 ·by_cases e:i < rs.length
  ·simp only [List.getElem_append_left e]; exact h.lo i e
  ·have ei:i=rs.length:=by simp at hi; omega
   subst ei
   simp only [List.getElem_concat_length]; exact hlo
 ·by_cases e:i < rs.length
  ·simp only [List.getElem_append_left e]; exact h.nn i e
  ·have ei:i=rs.length:=by simp at hi; omega
   subst ei
   simp only [List.getElem_concat_length]; exact hnn
/-! ### spec.l5All -/
structure ReadsL (B H:Hp) (s:Sl) (ls:List (List Int)):Prop where
 len:s.len=ls.length
 at':∀ i,(h:i < ls.length)→∃ t,H.cell s.blk (s.off + i)=some (.sl 1 t)∧Own 1 B H t (ls[i].map (.int .i64))
theorem Outs.reads {B H:Hp} {b:Nat} {s:Sl} {ls:List (List Int)} (h:Outs B b H s ls):ReadsL B H s ls:=by
 obtain ⟨ss,h1,h2,h3⟩:=h.ex
 refine ⟨h.len,fun i hi=>⟨ss[i]'(by omega),?_,(h3 i (by omega) hi).1⟩⟩
 rw [own_cell h1]
 simp [show i < ss.length by omega]

theorem PuzAt.set {H H':Hp} {n:Int} {gs gt s:Sl} {given g:List Int} {rs:List R} (h:PuzAt H n gs s given rs) (p:H <+: H') (hr:Reads .i64 H' gt g) (hl:g.length=given.length):PuzAt H' n gt s g rs:=
 ⟨hr,pf_readsR p h.rr,h.n4,by rw [hl]; exact h.gl,h.rl,h.rc⟩

def many (n:Int):Nat:=if n=2 then 2 else if n=3 then 12 else 576
def fullG (g:List Int) (n:Int):Prop:=g.length=(n * n).toNat∧∀ v ∈ g,1 ≤ v∧v ≤ n
theorem pick_adv {k:Nat} (hk:1 ≤ k) {b:Nat} {H:Hp} {l:List Int} {p:Nat} (h:RD b H l p) (hp:p ≤ 1000000000) (n:Int) :
  ∃ v H',callF PP orc k spec_l20Rd_pick.id [.ptr b 0,.int .i64 n] H=some (.int .i64 v,H')∧RD b H' l (p + 1)∧Adv b H H'∧0 ≤ v∧(1 ≤ n→v < n):=by
 obtain ⟨v,H',a1,a2,a3,a4,a5,a6,a7⟩:=pick_ok hk h hp n
 exact ⟨v,H',a1,a2,⟨a3,by omega⟩,a5,a6⟩
def CellsIn (n:Int) (cells:List Int):Prop:=(∀ c ∈ cells,0 ≤ c∧c < n * n)∧cells.Nodup
theorem CellsIn.take {n:Int} {cells:List Int} (h:CellsIn n cells) (m:Nat):CellsIn n (cells.take m):=⟨fun c hc=>h.1 c (List.mem_of_mem_take hc),h.2.sublist (List.take_sublist _ _)⟩
theorem CellsIn.two {n:Int} {cells:List Int} (h:CellsIn n cells) (h2:2 ≤ cells.length):CellsIn n [cells.getD 0 0,cells.getD 1 0]∧CellsIn n [cells.getD 1 0,cells.getD 0 0]:=by
 have a0:=h.1 _ (mem_getD (show 0 < cells.length by omega))
 have a1:=h.1 _ (mem_getD (show 1 < cells.length by omega))
 have e0:cells.getD 0 0=cells[0]:=by simp [List.getD_eq_getElem?_getD,show 0 < cells.length by omega]
 have e1:cells.getD 1 0=cells[1]:=by simp [List.getD_eq_getElem?_getD,show 1 < cells.length by omega]
 have hne:cells.getD 0 0 ≠ cells.getD 1 0:=by
  rw [e0,e1]; intro e
  exact List.pairwise_iff_getElem.1 h.2 0 1 (by omega) (by omega) (by omega) e
 generalize cells.getD 0 0=x at *
 generalize cells.getD 1 0=y at *
 exact ⟨⟨by simp; omega,by simpa using hne⟩,⟨by simp; omega,by simpa using Ne.symm hne⟩⟩

def regsOk (l:List Int) (n:Int):Bool:=decide (2 ≤ n∧n ≤ 4) && decide ((l.length:Int)=n * n) && l.all fun v=>decide (0 ≤ v) && decide (v < n)
theorem regsOk_iff (l:List Int) (n:Int):regsOk l n=true ↔ (2 ≤ n∧n ≤ 4)∧(l.length:Int)=n * n∧∀ v ∈ l,0 ≤ v∧v < n:=by
 simp [regsOk,and_assoc]
def idxFrom (r:Int):List Int→Nat→List Int
 | [],_=>[]
 | v :: vs,i=>if v=r then (i:Int) :: idxFrom r vs (i + 1) else idxFrom r vs (i + 1)
def regCells (l:List Int) (r:Int):List Int:=idxFrom r l 0
theorem idx_drop (r:Int) (l:List Int) (i:Nat) (h:i < l.length):idxFrom r (l.drop i) i=if l[i]=r then (i:Int) :: idxFrom r (l.drop (i + 1)) (i + 1) else idxFrom r (l.drop (i + 1)) (i + 1):=by
 rw [List.drop_eq_getElem_cons h]; rfl
def boxes:List Int:=[0,0,1,1,0,0,1,1,2,2,3,3,2,2,3,3]
theorem boxes_ok:regsOk boxes 4=true:=by decide
def boxRules:List V:=[(1,[0,1,4,5],0),(1,[2,3,6,7],0),(1,[8,9,12,13],0),(1,[10,11,14,15],0)]
theorem boxRules_at:∀ r,r < 4→boxRules.take (r + 1)=boxRules.take r ++ [(1,regCells boxes ((r:Nat):Int),0)]∧(regCells boxes ((r:Nat):Int)).length=4:=by decide +kernel
theorem RD.but' {b c:Nat} {H H':Hp} {l:List Int} {p:Nat} (h:RD b H l p) (g:But c H H') (hc:b ≠ c) {ro:Bool} {cells:List AV} (hb:H[c]?=some (some ⟨ro,cells⟩)) (hk:∀ z ∈ cells,∀ n,z ≠ .int .u8 n):RD b H' l p:=by
 refine h.but g hc fun s hs hl es=>?_
 obtain ⟨s',q1,q2,q3⟩:=h.ex
 rw [q1] at hs
 simp only [Option.some.injEq,Blk.mk.injEq,List.cons.injEq,AV.sl.injEq,true_and,and_true] at hs
 subst hs
 have hc0:=q2.cell 0 (List.length_pos_iff.2 hl)
 unfold Hp.cell at hc0
 rw [es,hb] at hc0
 simp only at hc0
 exact hk _ (List.mem_of_getElem? hc0) _ rfl
theorem adv_but {b c:Nat} {B H H':Hp} (h:Adv b B H) (g:But c H H') (hc:B.length ≤ c) (hl:H.length ≤ H'.length):Adv b B H':=
 ⟨fun d x hdb hdx=>g d x (by have:=(List.getElem?_eq_some_iff.1 hdx).1; omega) (h.but d x hdb hdx),by have:=h.le; omega⟩
theorem ints_no_u8 (l:List Int):∀ z ∈ l.map (AV.int .i64),∀ n,z ≠ .int .u8 n:=fun z hz n e=>by
 obtain ⟨x,_,hx⟩:=List.mem_map.1 hz
 subst e; cases hx
structure PZ (q:Bool) (B H:Hp) (n:Int) (gt s:Sl) (given:List Int) (rs:List R):Prop where
 og:Own 1 B H gt (given.map (.int .i64))
 rr:(s.nil=true∧s.len=0∧rs=[]) ∨ (WR B H s rs∧s.blk ≠ gt.blk)
 sg:∀ i,(h:i < rs.length)→rs[i].sl.blk ≠ gt.blk
 gg:gridOk given n=true
 ro:∀ r ∈ rs,(q=true→R.ok n r=true)∧r.cells.length ≤ 5
theorem PZ.adv {q:Bool} {b:Nat} {B H H':Hp} {n:Int} {gt s:Sl} {given:List Int} {rs:List R} (h:PZ q B H n gt s given rs) (hb:b < B.length) (g:Adv b H H'):PZ q B H' n gt s given rs:=by
 refine ⟨g.own hb h.og,?_,h.sg,h.gg,h.ro⟩
 rcases h.rr with h1 | ⟨h1,h2⟩
 ·exact .inl h1
 ·refine .inr ⟨⟨g.own hb h1.own,fun i hi=>g.reads ?_ (h1.rd i hi),h1.ne,fun i hi=>Nat.lt_of_lt_of_le (h1.lt i hi) g.le,h1.lo,h1.nn⟩,h2⟩
  have:=h1.lo i hi; omega
theorem PZ.set {q:Bool} {b:Nat} {B H:Hp} {n:Int} {gt s:Sl} {given:List Int} {rs:List R} (h:PZ q B H n gt s given rs) (hb:b < B.length) (hadv:Adv b B H) {l:List Int} {p:Nat} (hrd:RD b H l p) (i:Nat) (hi:i < given.length) (v:Int) (hv:0 ≤ v∧v ≤ n) :
  ∃ H',H.sto gt.blk (gt.off + i * 1) [.int .i64 v]=some H'∧PZ q B H' n gt s (given.set i v) rs∧Adv b B H'∧RD b H' l p:=by
 have o':Own 1 [] H gt (given.map (.int .i64)):=⟨h.og.nn,h.og.off,Nat.zero_le _,h.og.get,h.og.len⟩
 obtain ⟨H',a1,a2,a3,a4⟩:=own_set1 o' List.nil_prefix i hi v
 have hgb:=h.og.blk
 refine ⟨H',a1,⟨⟨a3.nn,a3.off,hgb,a3.get,a3.len⟩,?_,h.sg,grid_set h.gg i v hv,h.ro⟩,adv_but hadv a4.but hgb a4.le,hrd.but' a4.but (by omega) h.og.get (ints_no_u8 _)⟩
 rcases h.rr with h1 | ⟨h1,h2⟩
 ·exact .inl h1
 ·exact .inr ⟨⟨a4.but.own h2 h1.own,fun i hi=>a4.but.reads (h.sg i hi) (h1.rd i hi),h1.ne,fun i hi=>Nat.lt_of_lt_of_le (h1.lt i hi) a4.le,h1.lo,h1.nn⟩,h2⟩
structure PuzB (H0 H:Hp) (n:Int) (gs s:Sl) (given:List Int) (rs:List R):Prop where
 at':PuzAt H n gs s given rs
 g16:given.length ≤ 16
 gv:∀ v ∈ given,0 ≤ v∧v ≤ n
 r25:rs.length ≤ 25
 c5:∀ r ∈ rs,r.cells.length ≤ 5
 gb:given ≠ []→H0.length ≤ gs.blk
 rb:rs ≠ []→H0.length ≤ s.blk
 cb:∀ i,(h:i < rs.length)→rs[i].cells ≠ []→H0.length ≤ rs[i].sl.blk
 gn:gs.nil=false
 cn:∀ i,(h:i < rs.length)→rs[i].sl.nil=false ∨ rs[i].cells=[]

theorem byte_wf {l:List Int} (h:∀ n ∈ l,(Lit.int .u8 n).wf=true):∀ x ∈ l,0 ≤ x∧x ≤ 255:=fun x hx=>by
 have:=h x hx
 simp only [Lit.wf,IntKind.min,IntKind.max,IntKind.signed,IntKind.bits,Bool.and_eq_true,decide_eq_true_eq,if_true,Bool.false_eq_true,if_false] at this
 omega
theorem alive_ok {k:Nat} (hk:2000002 ≤ k) (H:Hp):∃ H',callF PP orc k laws_alive.id [] H=some (.bool true,H')∧H <+: H':=by
 obtain ⟨k,rfl⟩:=Zs k (by omega)
 rw [laws_alive.call]
 have hnew:=own_new 1 H (([1,0,0,2]:List Int).map (.int .i64)) 4 rfl
 have h1:=implGridFilled_ok (show 2000001 ≤ k by omega) (own_reads hnew) (by simp) 2
 rw [ip (show gridOk [1,0,0,2] 2=true by decide),show filled [1,0,0,2]=2 by decide] at h1
 refine ⟨H ++ [some (Blk.mk false (([1,0,0,2]:List Int).map (.int .i64)))],?_,(List.prefix_append _ _)⟩
 simp only [List.map_cons,List.map_nil] at h1 ⊢
 simp only [laws_alive.f,dt,df,bt,bf,nt,nf,Za,Zy,Zx,Zt,Zf,Zn,Zz,Zi,Zo,wr,AV.toB,AV.toI,AV.toS,if_true,h1]
 rfl
theorem PuzB.base {H0 H1 H:Hp} {n:Int} {gs s:Sl} {given:List Int} {rs:List R} (h:PuzB H1 H n gs s given rs) (g:H0.length ≤ H1.length):PuzB H0 H n gs s given rs:=
 ⟨h.at',h.g16,h.gv,h.r25,h.c5,fun e=>Nat.le_trans g (h.gb e),fun e=>Nat.le_trans g (h.rb e),fun i hi e=>Nat.le_trans g (h.cb i hi e),h.gn,h.cn⟩
theorem PuzB.adv {b:Nat} {H0 B H:Hp} {n:Int} {gs s:Sl} {given:List Int} {rs:List R} (h:PuzB H0 B n gs s given rs) (hb:b < H0.length) (g:Adv b B H):PuzB H0 H n gs s given rs:=by
 have rd:∀ {t:Sl} {l:List Int},(l ≠ []→H0.length ≤ t.blk)→Reads .i64 B t l→Reads .i64 H t l:=fun {t l} h1 h2=>by
  by_cases e:l=[]
  ·subst e; exact reads_nil h2.len
  ·exact g.reads (by have:=h1 e; omega) h2
 refine ⟨⟨rd h.gb h.at'.rg,?_,h.at'.n4,h.at'.gl,h.at'.rl,h.at'.rc⟩,h.g16,h.gv,h.r25,h.c5,h.gb,h.rb,h.cb,h.gn,h.cn⟩
 have hr:=h.at'.rr
 have cel:∀ {o:Nat} {v:AV},rs ≠ []→B.cell s.blk o=some v→H.cell s.blk o=some v:=fun e hv=>g.but.cell (by have:=h.rb e; omega) hv
 refine ⟨hr.len,fun i hi=>cel ?_ (hr.c0 i hi),fun i hi=>cel ?_ (hr.c1 i hi),fun i hi=>cel ?_ (hr.c2 i hi),fun i hi=>rd (h.cb i hi) (hr.cs i hi)⟩
 all_goals
  intro e; subst e; exact absurd hi (Nat.not_lt_zero _)
end Go.Proofs.Ytjikkamhljbipaa.Rp
