/- Texts for the row of the law FnPuzzleOf, part 11: the plain machine, the program's functions on it, what they come to. No conditions. -/
import Derived.Test.YtjikkamhljbipaaBuFnPuzzleOf10
import Derived.Test.YtjikkamhljbipaaBuFnPuzzleOf4
import Derived.Test.YtjikkamhljbipaaBuFnPuzzleOf5
import Derived.Test.YtjikkamhljbipaaBuFnPuzzleOf6
import Derived.Test.YtjikkamhljbipaaBuFnPuzzleOf9
set_option linter.unusedVariables false
set_option linter.unusedSimpArgs false
namespace Go.Proofs.Ytjikkamhljbipaa.Rp
open Go Go.RowKit Go.Proofs.Ytjikkamhljbipaa.Ab
theorem Rule_l6 (rec:Rec) (k:Nat) (L0:Nat→Nat→Sl→Int→Int→Sl→Int→Int→Int→Sl→Int→Hp→An) {b:Nat} {xs t:Sl} {n x3 many kk c y0 y2:Int} {y1:Sl} {H:Hp} {cells:List Int} (ht:Reads .i64 H t cells) (hl:cells.length ≤ 1000) :
  ∀ (j i fuel:Nat) (d:Bool),i + j=cells.length→j < fuel→spec_l20Rule.l6 rec k L0 fuel b 0 xs n x3 t many kk c d i y0 y1 y2 H=spec_l20Rule.j9 rec k L0 b 0 xs n x3 t many kk c (d && !(cells.drop i).contains c) y0 y1 y2 H:=by
 have hlen:=ht.len
 intro j
 induction j with
 | zero=>
  intro i fuel d hi hf
  obtain ⟨fuel,rfl⟩:=Zs fuel (by omega)
  rw [List.drop_eq_nil_of_le (by omega)]
  simp (disch:=omega) only [spec_l20Rule.l6,dt,df,bt,bf,nt,nf,Za,Zy,Zx,Zt,Zf,Zn,Zz,Zi,Zo,wr,AV.toB,AV.toI,AV.toS,if_true,List.contains_nil,Bool.and_true]
 | succ j ih=>
  intro i fuel d hi hf
  obtain ⟨fuel,rfl⟩:=Zs fuel (by omega)
  have h2:i < cells.length:=by omega
  have hd:cells.drop i=cells.getD i 0 :: cells.drop (i + 1):=by
   rw [List.drop_eq_getElem_cons h2,List.getD_eq_getElem?_getD,List.getElem?_eq_getElem h2]; rfl
  rw [hd,List.contains_cons]
  cases d with
  | true=>
   have h5:=ih (i + 1) fuel (cells.getD i 0 != c) (by omega) (by omega)
   push_cast at h5
   simp (disch:=omega) only [spec_l20Rule.l6,spec_l20Rule.j8,dt,df,Za,Zt,Zf,Zn,Zo,wr,rdn ht,h5]
   congr 1
   simp only [bne,Bool.true_and,Bool.not_or]
   congr 2
   rw [Bool.eq_iff_iff,beq_iff_eq,beq_iff_eq]; exact eq_comm
  | false=>
   have h5:=ih (i + 1) fuel false (by omega) (by omega)
   push_cast at h5
   simp (disch:=omega) only [spec_l20Rule.l6,spec_l20Rule.j8,dt,df,Za,Zt,Zf,Zn,Zo,wr,h5,Bool.false_and]
theorem Rule_l5 {k:Nat} (hk:20 ≤ k) {b:Nat} {l:List Int} {n x3:Int} (hn:2 ≤ n∧n ≤ 4) (hx3:x3 < 1000000) {p p0:Nat} (hp:p + 4 ≤ p0) (hp0:p0 ≤ 1000000000) {H0 H:Hp} (hadv:Adv b H0 H) (hb:b < H0.length) (hrd:RD b H l p) {y0 y2:Int} {y1 xs cs:Sl} {g cells:List Int} (hx:Reads .i64 H xs g) (hxb:xs.blk ≠ b) (hg:fullG g n) (hc:Reads .i64 H cs cells) (hcb:H0.length ≤ cs.blk) (hcl:cs.blk < H.length) (hcn:cs.nil=false) (h1:1 ≤ cells.length) (h4:cells.length ≤ 4) (hin:CellsIn n cells) :
  ∀ (j i fuel:Nat) (s q:Int),i + j=cells.length→j < fuel→(i:Int) ≤ s→s ≤ n * i→1 ≤ q→q ≤ n ^ i →
   RuleDraw b l n x3 p0 H0 (spec_l20Rule.l5 (callF PP orc k) k fuel b 0 xs n x3 cs s q i y0 y1 y2 H):=by
 have hlen:=hc.len
 have hxl:=hx.len
 have h7:=n7 (n:=n) (by omega)
 have hgl:(g.length:Int)=n * n:=by have:=hg.1; omega
 intro j
 induction j with
 | zero=>
  intro i fuel s q hi hf s1 s2 q1 q2
  obtain ⟨fuel,rfl⟩:=Zs fuel (by omega)
  have hi4:i=1 ∨ i=2 ∨ i=3 ∨ i=4:=by omega
  have e4:n ^ 4=n * n * n * n:=by simp [Int.pow_succ]
  have hb2:s ≤ n * n * n * n∧q ≤ n * n * n * n:=by
   have:n=2 ∨ n=3 ∨ n=4:=by omega
   rcases this with rfl | rfl | rfl <;> rcases hi4 with rfl | rfl | rfl | rfl <;> simp at s2 q2 <;> omega
  have:=Rule_j7 hk hn hx3 hp hp0 hadv hb hrd (y0:=y0) (y1:=y1) (y2:=y2) hx hxb hg hc hcb hcl hcn h1 h4 hin (by omega) hb2.1 q1 hb2.2
  simp (disch:=omega) only [spec_l20Rule.l5,dt,df,bt,bf,nt,nf,Za,Zy,Zx,Zt,Zf,Zn,Zz,Zi,Zo,wr,AV.toB,AV.toI,AV.toS,if_true]
  exact this
 | succ j ih=>
  intro i fuel s q hi hf s1 s2 q1 q2
  obtain ⟨fuel,rfl⟩:=Zs fuel (by omega)
  have h2:i < cells.length:=by omega
  have a:=hin.1 _ (mem_getD h2)
  have hlt:(cells.getD i 0).toNat < g.length:=by omega
  have v:=hg.2 _ (mem_getD hlt)
  have hm:mx 1 (g.getD (cells.getD i 0).toNat 0)=g.getD (cells.getD i 0).toNat 0:=by unfold mx; split <;> omega
  generalize hv:g.getD (cells.getD i 0).toNat 0=w at *
  have hni:n * (i:Int) ≤ 16:=by
   have:n=2 ∨ n=3 ∨ n=4:=by omega
   rcases this with rfl | rfl | rfl <;> omega
  have hns:n * ((i + 1:Nat):Int)=n * i + n:=by push_cast; rw [Int.mul_add,Int.mul_one]
  have hqw:q * w ≤ n ^ i * n:=Int.mul_le_mul q2 v.2 (by omega) (by omega)
  have hps:n ^ (i + 1)=n ^ i * n:=Int.pow_succ _ _
  have hq1:1 ≤ q * w:=by have:=Int.mul_le_mul q1 v.1 (by omega) (by omega); simpa using this
  have hpi:n ^ i * n ≤ 256:=by
   have hi3:i=0 ∨ i=1 ∨ i=2 ∨ i=3:=by omega
   have:n=2 ∨ n=3 ∨ n=4:=by omega
   rcases this with rfl | rfl | rfl <;> rcases hi3 with rfl | rfl | rfl | rfl <;> decide
  have h5:=ih (i + 1) fuel (s + w) (q * w) (by omega) (by omega) (by omega) (by omega) hq1 (by omega)
  push_cast at h5
  simp (disch:=omega) only [spec_l20Rule.l5,dt,df,bt,bf,nt,nf,Za,Zy,Zx,Zt,Zf,Zn,Zz,Zi,Zo,wr,AV.toB,AV.toI,AV.toS,if_true,rdn hc,rdn hx,hv,hm]
  exact h5
theorem step4 {n w:Int} (hn:2 ≤ n∧n ≤ 4) (h0:0 ≤ w) (h1:w < 4):∃ y,(([.int .i64 1,.int .i64 (-1),.int .i64 n,.int .i64 (0 - n)]:List AV)[w.toNat * 1]?)=some (.int .i64 y)∧-4 ≤ y∧y ≤ 4:=by
 have:w=0 ∨ w=1 ∨ w=2 ∨ w=3:=by omega
 rcases this with rfl | rfl | rfl | rfl
 ·exact ⟨1,rfl,by omega,by omega⟩
 ·exact ⟨-1,rfl,by omega,by omega⟩
 ·exact ⟨n,rfl,by omega,by omega⟩
 ·exact ⟨0 - n,rfl,by omega,by omega⟩
theorem Rule_l0 {k:Nat} (hk:100 ≤ k) {b:Nat} {l:List Int} {n x3:Int} (hn:2 ≤ n∧n ≤ 4) (hx3:x3 < 1000000) {p0:Nat} (hp0:p0 ≤ 1000000000) {H0:Hp} (hb:b < H0.length) {y0 y2 many:Int} {y1 xs:Sl} {g:List Int} (hx:Reads .i64 H0 xs g) (hxb:xs.blk ≠ b) (hg:fullG g n) (hm:2 ≤ many∧many ≤ 4) :
  ∀ (j kk fuel:Nat) (H:Hp) (t:Sl) (cells:List Int) (p:Nat),(kk:Int) + j=many * 4→j < fuel→Adv b H0 H→RD b H l p→p + 2 * j + 6 ≤ p0→Own 1 H0 H t (cells.map (.int .i64))→1 ≤ cells.length→(cells.length:Int) ≤ many→CellsIn n cells →
   RuleDraw b l n x3 p0 H0 (spec_l20Rule.l0 (callF PP orc k) k fuel b 0 xs n x3 t many kk y0 y1 y2 H):=by
 have h7:=n7 (n:=n) (by omega)
 have hgl:(g.length:Int)=n * n:=by have:=hg.1; omega
 intro j
 induction j with
 | zero=>
  intro kk fuel H t cells p hkk hf hadv hrd hp ho h1 hl hin
  obtain ⟨fuel,rfl⟩:=Zs fuel (by omega)
  have:=Rule_l5 (show 20 ≤ k by omega) hn hx3 (p:=p) (p0:=p0) (by omega) hp0 hadv hb hrd (y0:=y0) (y1:=y1) (y2:=y2) (hadv.reads hxb hx) hxb hg (own_reads ho) ho.blk (own_lt' ho) ho.nn h1 (by omega) hin cells.length 0 k 0 1 (by omega) (by omega) (by omega) (by omega) (by omega) (by simp)
  simp (disch:=omega) only [spec_l20Rule.l0,spec_l20Rule.j1,spec_l20Rule.j3,dt,df,bt,bf,nt,nf,Za,Zy,Zx,Zt,Zf,Zn,Zz,Zi,Zo,wr,AV.toB,AV.toI,AV.toS,if_true]
  exact this
 | succ j ih=>
  intro kk fuel H t cells p hkk hf hadv hrd hp ho h1 hl hin
  obtain ⟨fuel,rfl⟩:=Zs fuel (by omega)
  have htl:=(own_reads ho).len
  by_cases cm:(cells.length:Int) < many
  ·obtain ⟨v,H1,a1,a2,a3,a4,a5⟩:=pick_adv (show 1 ≤ k by omega) hrd (by omega) (t.len:Int)
   have hv:=a5 (by omega)
   have htb:t.blk ≠ b:=by have:=ho.blk; omega
   have r1:=a3.reads htb (own_reads ho)
   obtain ⟨w,H2,b1,b2,b3,b4,b5⟩:=pick_adv (show 1 ≤ k by omega) a2 (by omega) 4
   have hw:=b5 (by omega)
   have r2:=b3.reads htb r1
   have hst:=stable_ok r1 r2 (show v.toNat < cells.length by omega)
   obtain ⟨y,d1,d2,d3⟩:=step4 hn b4 hw
   have hcv:=hin.1 _ (mem_getD (show v.toNat < cells.length by omega))
   have adv2:=hadv.trans (a3.trans b3)
   have ho2:=(a3.trans b3).own hb ho
   generalize hc:cells.getD v.toNat 0 + y=c
   have hcont:∀ d:Bool,(d=true→0 ≤ c∧c < n * n)→RuleDraw b l n x3 p0 H0 (spec_l20Rule.j9 (callF PP orc k) k (spec_l20Rule.l0 (callF PP orc k) k fuel) b 0 xs n x3 t many kk c (d && !(cells.drop 0).contains c) y0 y1 y2 H2):=by
    intro d hd
    cases hf':(d && !(cells.drop 0).contains c) with
    | false=>
     have:=ih (kk + 1) fuel H2 t cells _ (by omega) (by omega) adv2 b2 (by omega) ho2 h1 hl hin
     push_cast at this
     simp (disch:=omega) only [spec_l20Rule.j9,spec_l20Rule.j11,dt,df,bt,bf,nt,nf,Za,Zy,Zx,Zt,Zf,Zn,Zz,Zi,Zo,wr,AV.toB,AV.toI,AV.toS,if_true]
     exact this
    | true=>
     rw [Bool.and_eq_true,List.drop_zero,Bool.not_eq_true',← Bool.not_eq_true,List.contains_iff_mem] at hf'
     have hd':=hd hf'.1
     have hB:(H0.take b) <+: H0:=List.take_prefix _ _
     obtain ⟨H3,e1,e2,e3,e4,e5⟩:=own_app1 (H0:=[]) ⟨ho2.nn,ho2.off,Nat.zero_le _,ho2.get,ho2.len⟩ (List.nil_prefix) c (by omega)
     have o3:Own 1 H0 H3 (Sl.mk false H2.length 0 (t.len + 1)) ((cells ++ [c]).map (.int .i64)):=⟨e3.nn,e3.off,by have:=adv2.le; simp only; omega,e3.get,e3.len⟩
     have adv3:Adv b H0 H3:=by
      refine ⟨fun d x hdb hdx=>e4 d x ?_ (adv2.but d x hdb hdx),by have:=adv2.le; omega⟩
      have:=(List.getElem?_eq_some_iff.1 hdx).1
      have:=ho.blk
      omega
     have rd3:RD b H3 l (p + 1 + 1):=by
      refine b2.but e4 (by have:=ho.blk; omega) fun s hs hl=>?_
      intro es
      obtain ⟨s',q1,q2,q3⟩:=b2.ex
      rw [q1] at hs
      simp only [Option.some.injEq,Blk.mk.injEq,List.cons.injEq,AV.sl.injEq,true_and,and_true] at hs
      subst hs
      have hc0:=q2.cell 0 (List.length_pos_iff.2 hl)
      unfold Hp.cell at hc0
      rw [es,ho2.get] at hc0
      simp only [ho2.off] at hc0
      have hmem:=List.mem_of_getElem? hc0
      obtain ⟨z,_,hz⟩:=List.mem_map.1 hmem
      cases hz
     have:=ih (kk + 1) fuel H3 _ (cells ++ [c]) _ (by omega) (by omega) adv3 rd3 (by omega) o3 (by simp) (by simp; omega) ⟨fun x hx=>by
      rcases List.mem_append.1 hx with hx | hx
      ·exact hin.1 x hx
      ·simp at hx; rw [hx]; exact hd',by
      rw [List.nodup_append]
      refine ⟨hin.2,by simp,fun x hx y hy=>?_⟩
      simp at hy; subst hy
      intro e; subst e; exact hf'.2 hx⟩
     push_cast at this
     simp (disch:=omega) only [spec_l20Rule.j9,spec_l20Rule.j11,dt,df,bt,bf,nt,nf,Za,Zy,Zx,Zt,Zf,Zn,Zz,Zi,Zo,wr,AV.toB,AV.toI,AV.toS,if_true,e1]
     exact this
   have hl6:=fun d=>Rule_l6 (callF PP orc k) k (spec_l20Rule.l0 (callF PP orc k) k fuel) (b:=b) (xs:=xs) (n:=n) (x3:=x3) (many:=many) (kk:=kk) (c:=c) (y0:=y0) (y1:=y1) (y2:=y2) r2 (by omega) cells.length 0 k d (by omega) (by omega)
   simp only [Int.natCast_zero] at hl6
   by_cases c0:c ≥ 0
   ·have h9:=hcont (decide (c < n * n)) (fun h=>⟨c0,by simpa using h⟩)
    rw [← hl6] at h9
    simp (disch:=omega) only [spec_l20Rule.l0,spec_l20Rule.j1,spec_l20Rule.j2,spec_l20Rule.j4,dt,df,Za,Zt,Zf,Zo,wr (n:=many * 4),wr (n:=0 - n),wr (n:=c),wr (n:=n * n),a1,b1,AV.toI,if_true,rdn r1,hst,d1,AV.cell,hc]
    exact h9
   ·have h9:=hcont false (fun h=>by cases h)
    rw [← hl6] at h9
    simp (disch:=omega) only [spec_l20Rule.l0,spec_l20Rule.j1,spec_l20Rule.j2,spec_l20Rule.j4,dt,df,Za,Zt,Zf,Zo,wr (n:=many * 4),wr (n:=0 - n),wr (n:=c),wr (n:=n * n),a1,b1,AV.toI,if_true,rdn r1,hst,d1,AV.cell,hc]
    exact h9
  ·have:=Rule_l5 (show 20 ≤ k by omega) hn hx3 (p:=p) (p0:=p0) (by omega) hp0 hadv hb hrd (y0:=y0) (y1:=y1) (y2:=y2) (hadv.reads hxb hx) hxb hg (own_reads ho) ho.blk (own_lt' ho) ho.nn h1 (by omega) hin cells.length 0 k 0 1 (by omega) (by omega) (by omega) (by omega) (by omega) (by simp)
   simp (disch:=omega) only [spec_l20Rule.l0,spec_l20Rule.j1,spec_l20Rule.j3,dt,df,bt,bf,nt,nf,Za,Zy,Zx,Zt,Zf,Zn,Zz,Zi,Zo,wr,AV.toB,AV.toI,AV.toS,if_true]
   exact this
theorem l20Rule_ok {k:Nat} (hk:200 ≤ k) {b:Nat} {l:List Int} {n x3:Int} (hn:2 ≤ n∧n ≤ 4) (hx3:x3 < 1000000) {p:Nat} {H:Hp} (hrd:RD b H l p) (hp:p ≤ 999990000) {xs:Sl} {g:List Int} (hx:Reads .i64 H xs g) (hxb:xs.blk ≠ b) (hg:fullG g n) :
  RuleDraw b l n x3 (p + 50) H (callF PP orc k spec_l20Rule.id [.ptr b 0,.sl 1 xs,.int .i64 n,.int .i64 x3] H):=by
 obtain ⟨k,rfl⟩:=Zs k (by omega)
 rw [spec_l20Rule.call]
 have h7:=n7 (n:=n) (by omega)
 have hnn:1 ≤ n * n:=by
  have:n=2 ∨ n=3 ∨ n=4:=by omega
  rcases this with rfl | rfl | rfl <;> decide
 obtain ⟨v,H1,a1,a2,a3,a4,a5⟩:=pick_adv (show 1 ≤ k by omega) hrd (by omega) (n * n)
 have hv:=a5 hnn
 have q1:H1 <+: H1 ++ [some (Blk.mk false (([v]:List Int).map (.int .i64)))]:=List.prefix_append _ _
 have hnew:=own_new 1 H1 (([v]:List Int).map (.int .i64)) 1 rfl
 obtain ⟨w,H2,b1,b2,b3,b4,b5⟩:=pick_adv (show 1 ≤ k by omega) (a2.pf q1) (by omega) 3
 have hw:=b5 (by omega)
 have adv2:Adv b H H2:=(a3.trans (pf_adv q1)).trans b3
 have hb1:b < H1.length:=a2.lt
 have o2:Own 1 H H2 (Sl.mk false H1.length 0 1) (([v]:List Int).map (.int .i64)):=by
  have:=b3.own (B:=H1) hb1 hnew
  exact ⟨this.nn,this.off,by have:=a3.le; simp only; omega,this.get,this.len⟩
 have:=Rule_l0 (show 100 ≤ k by omega) hn hx3 (p0:=p + 50) (by omega) hrd.lt (l:=l) (y0:=0) (y1:=Sl.none) (y2:=0) (many:=2 + w) hx hxb hg ⟨by omega,by omega⟩ ((2 + w) * 4).toNat 0 k H2 _ [v] _ (by omega) (by omega) adv2 b2 (by omega) o2 (by simp) (by simp; omega) ⟨by simp; omega,by simp⟩
 simp only [List.map_cons,List.map_nil] at b1
 simp (disch:=omega) only [spec_l20Rule.f,dt,df,bt,bf,nt,nf,Za,Zy,Zx,Zt,Zf,Zn,Zz,Zi,Zo,wr,AV.toB,AV.toI,AV.toS,if_true,a1,b1]
 exact this
def regsOk (l:List Int) (n:Int):Bool:=decide (2 ≤ n∧n ≤ 4) && decide ((l.length:Int)=n * n) && l.all fun v=>decide (0 ≤ v) && decide (v < n)
theorem regsOk_iff (l:List Int) (n:Int):regsOk l n=true ↔ (2 ≤ n∧n ≤ 4)∧(l.length:Int)=n * n∧∀ v ∈ l,0 ≤ v∧v < n:=by
 simp [regsOk,and_assoc]
theorem specRegionsValid_l0 {k:Nat} (hk:1 ≤ k) {H:Hp} {s:Sl} {l:List Int} {m:Int} (hr:Reads .i64 H s l) (hl:l.length ≤ 1048576) :
  ∀ (j i n:Nat),i + j=l.length→j < n→spec_RegionsValid.l0 (callF PP orc k) k n s m i H=some (.bool (decide (2 ≤ m∧m ≤ 4) && decide ((l.length:Int)=m * m) && (l.drop i).all fun v=>decide (0 ≤ v) && decide (v < m)),H):=by
 intro j
 induction j with
 | zero=>
  intro i n hi hn
  obtain ⟨n,rfl⟩:=Zs n (by omega)
  have h1:=hr.len
  by_cases c:2 ≤ m∧m ≤ 4
  ·have h2:IntKind.i64.wrap (m * m)=m * m:=by
    have:m=2 ∨ m=3 ∨ m=4:=by omega
    rcases this with rfl | rfl | rfl <;> exact wr (by decide) (by decide)
   simp only [spec_RegionsValid.l0,h1,show ¬ ((i:Int) < (l.length:Int)) by omega,decide_false,Zf,spec_RegionsValid.j1,l1In_ok hk,Zo,AV.toB,c,and_self,decide_true,Zt,h2,List.drop_eq_nil_of_le (show l.length ≤ i by omega),List.all_nil,Bool.and_true,Bool.true_and]
   by_cases c2:(l.length:Int)=m * m <;> simp [c2]
  ·simp [spec_RegionsValid.l0,h1,show ¬ i < l.length by omega,spec_RegionsValid.j1,l1In_ok hk,AV.toB,c]
 | succ j ih=>
  intro i n hi hn
  obtain ⟨n,rfl⟩:=Zs n (by omega)
  have h1:=hr.len
  have h2:i < l.length:=by omega
  have h3:=reads_at hr i h2
  have h4:=wrs (i:=i) (by omega)
  have h5:=ih (i + 1) n (by omega) (by omega)
  push_cast at h5
  rw [all_drop l i h2]
  by_cases c:2 ≤ m∧m ≤ 4
  ·have hw:IntKind.i64.wrap (m - 1)=m - 1:=wr (by omega) (by omega)
   by_cases c1:0 ≤ l[i]∧l[i] ≤ m - 1
   ·have e1:(decide (0 ≤ l[i]) && decide (l[i] < m))=true:=by simp; omega
    rw [e1,Bool.true_and]
    simp only [spec_RegionsValid.l0,h1,show ((i:Int) < (l.length:Int)) by omega,show (0:Int) ≤ (i:Int) by omega,decide_true,Za,Zt,Zn,Nat.mul_one,h3,Zo,hw,l1In_ok hk,AV.toB,c1,and_self,Zy,Zf,h4,h5]
   ·have e1:(decide (0 ≤ l[i]) && decide (l[i] < m))=false:=by
     cases d:(decide (0 ≤ l[i]) && decide (l[i] < m)) with
     | false=>rfl
     | true=>simp at d; omega
    rw [e1,Bool.false_and,Bool.and_false]
    simp only [spec_RegionsValid.l0,h1,show ((i:Int) < (l.length:Int)) by omega,show (0:Int) ≤ (i:Int) by omega,decide_true,Za,Zt,Zn,Nat.mul_one,h3,Zo,hw,l1In_ok hk,AV.toB,c1,decide_false,Zx]
  ·simp only [c,decide_false,Bool.false_and] at h5 ⊢
   by_cases c1:0 ≤ l[i]∧l[i] ≤ IntKind.i64.wrap (m - 1)
   ·simp only [spec_RegionsValid.l0,h1,show ((i:Int) < (l.length:Int)) by omega,show (0:Int) ≤ (i:Int) by omega,decide_true,Za,Zt,Zn,Nat.mul_one,h3,Zo,l1In_ok hk,AV.toB,c1,and_self,Zy,Zf,h4,h5]
   ·simp only [spec_RegionsValid.l0,h1,show ((i:Int) < (l.length:Int)) by omega,show (0:Int) ≤ (i:Int) by omega,decide_true,Za,Zt,Zn,Nat.mul_one,h3,Zo,l1In_ok hk,AV.toB,c1,decide_false,Zx]
theorem specRegionsValid_ok {k:Nat} (hk:2000000 ≤ k) {H:Hp} {s:Sl} {l:List Int} (hr:Reads .i64 H s l) (hl:l.length ≤ 1048576) (m:Int) :
  callF PP orc k spec_RegionsValid.id [.sl 1 s,.int .i64 m] H=some (.bool (regsOk l m),H):=by
 obtain ⟨k,rfl⟩:=Zs k (by omega)
 rw [spec_RegionsValid.call]
 have:=specRegionsValid_l0 (k:=k) (by omega) (m:=m) hr hl l.length 0 k (by omega) (by omega)
 simpa [spec_RegionsValid.f,regsOk] using this
def idxFrom (r:Int):List Int→Nat→List Int
 | [],_=>[]
 | v :: vs,i=>if v=r then (i:Int) :: idxFrom r vs (i + 1) else idxFrom r vs (i + 1)
def regCells (l:List Int) (r:Int):List Int:=idxFrom r l 0
theorem idx_drop (r:Int) (l:List Int) (i:Nat) (h:i < l.length):idxFrom r (l.drop i) i=if l[i]=r then (i:Int) :: idxFrom r (l.drop (i + 1)) (i + 1) else idxFrom r (l.drop (i + 1)) (i + 1):=by
 rw [List.drop_eq_getElem_cons h]; rfl
theorem specRegionCells_l0 {k:Nat} (hk:2000000 ≤ k) {H0:Hp} {s:Sl} {l:List Int} {n r:Int} (hs:Reads .i64 H0 s l) (hl:l.length ≤ 1000) (hv:regsOk l n=true) :
  ∀ (j i fuel:Nat) (H:Hp) (t:Sl) (a:List Int),i + j=l.length→j < fuel→H0 <+: H→a.length ≤ i→Own 1 H0 H t (a.map (.int .i64)) →
   ∃ t' H',spec_RegionCells.l0 (callF PP orc k) k fuel s n r t i H=some (.sl 1 t',H')∧H0 <+: H'∧Own 1 H0 H' t' ((a ++ idxFrom r (l.drop i) i).map (.int .i64)):=by
 intro j
 induction j with
 | zero=>
  intro i fuel H t a hi hf hp ha ho
  obtain ⟨fuel,rfl⟩:=Zs fuel (by omega)
  refine ⟨t,H,?_,hp,by rw [List.drop_eq_nil_of_le (by omega)]; simpa [idxFrom] using ho⟩
  simp [spec_RegionCells.l0,spec_RegionCells.j1,spec_RegionCells.j3,hs.len,show ¬ i < l.length by omega]
 | succ j ih=>
  intro i fuel H t a hi hf hp ha ho
  obtain ⟨fuel,rfl⟩:=Zs fuel (by omega)
  have h1:=hs.len
  have h2:i < l.length:=by omega
  have h3:=reads_at (pf_reads hp hs) i h2
  have h4:=wrs (i:=i) (by omega)
  have hlen:t.len=a.length:=by have:=ho.len; simpa using this
  have q0:(0:Int) ≤ (i:Int):=by omega
  have q1:(i:Int) < (l.length:Int):=by omega
  have hval:=specRegionsValid_ok hk (pf_reads hp hs) (by omega) n
  rw [idx_drop r l i h2]
  by_cases c:l[i]=r
  ·obtain ⟨H1,a1,a2,a3,_⟩:=own_app1 ho hp (i:Int) (by omega)
   obtain ⟨t',H',b1,b2,b3⟩:=ih (i + 1) fuel H1 _ (a ++ [(i:Int)]) (by omega) (by omega) a2 (by simp; omega) a3
   push_cast at b1
   have c':(l[i] == r)=true:=by simpa using c
   refine ⟨t',H',?_,b2,by rw [if_pos c]; simpa using b3⟩
   simp only [spec_RegionCells.l0,spec_RegionCells.j1,spec_RegionCells.j2,spec_RegionCells.j4,hval,hv,AV.toB,h1,q0,q1,decide_true,Za,Zt,Zn,Nat.mul_one,h3,Zo,c',a1,h4,b1]
  ·obtain ⟨t',H',b1,b2,b3⟩:=ih (i + 1) fuel H t a (by omega) (by omega) hp (by omega) ho
   push_cast at b1
   have c':(l[i] == r)=false:=by simpa using c
   refine ⟨t',H',?_,b2,by rw [if_neg c]; exact b3⟩
   simp only [spec_RegionCells.l0,spec_RegionCells.j1,spec_RegionCells.j2,spec_RegionCells.j4,hval,hv,AV.toB,h1,q0,q1,decide_true,Za,Zt,Zf,Zn,Nat.mul_one,h3,Zo,c',h4,b1]
theorem specRegionCells_ok {k:Nat} (hk:2000001 ≤ k) {H:Hp} {s:Sl} {l:List Int} {n r:Int} (hs:Reads .i64 H s l) (hv:regsOk l n=true) :
  ∃ t H',callF PP orc k spec_RegionCells.id [.sl 1 s,.int .i64 n,.int .i64 r] H=some (.sl 1 t,H')∧H <+: H'∧Own 1 H H' t ((regCells l r).map (.int .i64)):=by
 obtain ⟨k,rfl⟩:=Zs k (by omega)
 rw [spec_RegionCells.call]
 obtain ⟨⟨n1,n2⟩,n3,n4⟩:=(regsOk_iff l n).1 hv
 have hl:l.length ≤ 16:=by
  have:n=2 ∨ n=3 ∨ n=4:=by omega
  rcases this with rfl | rfl | rfl <;> omega
 obtain ⟨t,H',a1,a2,a3⟩:=specRegionCells_l0 (show 2000000 ≤ k by omega) (r:=r) hs (by omega) hv l.length 0 k (H ++ [some (Blk.mk false [])]) (Sl.mk false H.length 0 0) [] (by omega) (by omega) (List.prefix_append _ _) (by simp) (own_new 1 H [] 0 rfl)
 exact ⟨t,H',a1,a2,by simpa [regCells] using a3⟩
def boxes:List Int:=[0,0,1,1,0,0,1,1,2,2,3,3,2,2,3,3]
theorem boxes_ok:regsOk boxes 4=true:=by decide
def boxRules:List V:=[(1,[0,1,4,5],0),(1,[2,3,6,7],0),(1,[8,9,12,13],0),(1,[10,11,14,15],0)]
theorem box_at:∀ i,i < 16→IntKind.i64.wrap ((IntKind.i64.wrap ((IntKind.i64.wrap (((i:Nat):Int).tdiv 8)) * 2)) + (IntKind.i64.wrap ((((i:Nat):Int).tmod 4:Int).tdiv 2)))=boxes.getD i 0:=by decide +kernel
theorem boxRules_at:∀ r,r < 4→boxRules.take (r + 1)=boxRules.take r ++ [(1,regCells boxes ((r:Nat):Int),0)]∧(regCells boxes ((r:Nat):Int)).length=4:=by decide +kernel
theorem specBox_l0 (rec:Rec) (k:Nat) {H0:Hp}:∀ (j i fuel:Nat) (H:Hp) (t:Sl),i + j=16→j < fuel→H0 <+: H→Own 1 H0 H t ((boxes.take i).map (.int .i64)) →
   ∃ t' H',spec_BoxRegions.l0 rec k fuel t i H=some (.sl 1 t',H')∧H0 <+: H'∧Own 1 H0 H' t' (boxes.map (.int .i64)):=by
 intro j
 induction j with
 | zero=>
  intro i fuel H t hi hf hp ho
  obtain ⟨fuel,rfl⟩:=Zs fuel (by omega)
  refine ⟨t,H,?_,hp,by rw [show i=16 by omega] at ho; exact ho⟩
  simp (disch:=omega) only [spec_BoxRegions.l0,spec_BoxRegions.j1,dt,df,bt,bf,nt,nf,Za,Zy,Zx,Zt,Zf,Zn,Zz,Zi,Zo,wr,AV.toB,AV.toI,AV.toS,if_true]
 | succ j ih=>
  intro i fuel H t hi hf hp ho
  obtain ⟨fuel,rfl⟩:=Zs fuel (by omega)
  have htl:t.len=i:=by have:=ho.len; simp [boxes] at this; omega
  obtain ⟨H1,a1,a2,a3,a4,a5⟩:=own_app1 ho hp (boxes.getD i 0) (by omega)
  have e:boxes.take i ++ [boxes.getD i 0]=boxes.take (i + 1):=by
   rw [List.take_succ_eq_append_getElem (show i < boxes.length by simp [boxes]; omega),List.getD_eq_getElem?_getD,List.getElem?_eq_getElem (show i < boxes.length by simp [boxes]; omega)]; rfl
  rw [e] at a3
  obtain ⟨t',H',b1,b2,b3⟩:=ih (i + 1) fuel H1 _ (by omega) (by omega) a2 a3
  push_cast at b1
  refine ⟨t',H',?_,b2,b3⟩
  have h4:=wrs (i:=i) (by omega)
  simp only [spec_BoxRegions.l0,dt (show (i:Int) < 16 by omega),Zt,box_at i (by omega),a1,Zo,h4,b1]
theorem specBoxRegions_ok {k:Nat} (hk:100 ≤ k) (H:Hp):∃ t H',callF PP orc k spec_BoxRegions.id [] H=some (.sl 1 t,H')∧H <+: H'∧Own 1 H H' t (boxes.map (.int .i64)):=by
 obtain ⟨k,rfl⟩:=Zs k (by omega)
 rw [spec_BoxRegions.call]
 exact specBox_l0 (callF PP orc k) k 16 0 k (H ++ [some (Blk.mk false [])]) (Sl.mk false H.length 0 0) (by omega) (by omega) (List.prefix_append _ _) (own_new 1 H [] 0 rfl)
theorem specRR_l0 {k:Nat} (hk:2000001 ≤ k) {H0:Hp} {s:Sl} (hs:Reads .i64 H0 s boxes) :
  ∀ (j i fuel:Nat) (H:Hp) (t:Sl) (qs:List R),i + j=4→j < fuel→H0 <+: H→WR H0 H t qs→qs.map R.val=boxRules.take i →
   ∃ t' qs' H',spec_RegionRules.l0 (callF PP orc k) k fuel s 4 t i H=some (.tup [.sl 3 t',.bool true],H')∧H0 <+: H'∧WR H0 H' t' qs'∧qs'.map R.val=boxRules:=by
 intro j
 induction j with
 | zero=>
  intro i fuel H t qs hi hf hp ho hv
  obtain ⟨fuel,rfl⟩:=Zs fuel (by omega)
  refine ⟨t,qs,H,?_,hp,ho,by rw [hv,show i=4 by omega]; rfl⟩
  simp (disch:=omega) only [spec_RegionRules.l0,spec_RegionRules.j2,dt,df,bt,bf,nt,nf,Za,Zy,Zx,Zt,Zf,Zn,Zz,Zi,Zo,wr,AV.toB,AV.toI,AV.toS,if_true]
 | succ j ih=>
  intro i fuel H t qs hi hf hp ho hv
  obtain ⟨fuel,rfl⟩:=Zs fuel (by omega)
  obtain ⟨v1,v2⟩:=boxRules_at i (by omega)
  obtain ⟨u,H1,a1,a2,a3⟩:=specRegionCells_ok hk (r:=(i:Int)) (pf_reads hp hs) boxes_ok
  have ul:=(own_reads a3).len
  have hql:qs.length ≤ 4:=by have:=congrArg List.length hv; simp [boxRules] at this; omega
  have htb:=own_lt ho.own
  have hub:=a3.blk
  obtain ⟨t1,H2,b1,b2,b3,b4,b5,b6⟩:=wr_app (ho.pf a2) (hp.trans a2) (by omega) { kind:=1,sl:=u,cells:=regCells boxes (i:Int),value:=0 } (own_reads a3) (by simp only; omega) (own_lt a3) (Nat.le_trans hp.length_le a3.blk) a3.nn
  obtain ⟨t',qs',H',d1,d2,d3,d4⟩:=ih (i + 1) fuel H2 t1 _ (by omega) (by omega) b2 b3 (by rw [List.map_append,hv,v1]; rfl)
  push_cast at d1
  refine ⟨t',qs',H',?_,d2,d3,d4⟩
  simp only [R.av] at b1
  simp (disch:=omega) only [spec_RegionRules.l0,spec_RegionRules.j1,dt,df,bt,bf,nt,nf,Za,Zy,Zx,Zt,Zf,Zn,Zz,Zi,Zo,wr,AV.toB,AV.toI,AV.toS,if_true,a1,ul,b1,d1]
theorem specRegionRules_ok {k:Nat} (hk:2000010 ≤ k) {H:Hp} {s:Sl} (hs:Reads .i64 H s boxes) :
  ∃ t qs H',callF PP orc k spec_RegionRules.id [.sl 1 s,.int .i64 4] H=some (.tup [.sl 3 t,.bool true],H')∧H <+: H'∧WR H H' t qs∧qs.map R.val=boxRules:=by
 obtain ⟨k,rfl⟩:=Zs k (by omega)
 rw [spec_RegionRules.call]
 have g1:H <+: H ++ [some (Blk.mk false [])]:=List.prefix_append _ _
 have h1:=specRegionsValid_ok (show 2000000 ≤ k by omega) (pf_reads g1 hs) (by simp [boxes]) 4
 rw [boxes_ok] at h1
 obtain ⟨t',qs',H',d1,d2,d3,d4⟩:=specRR_l0 (show 2000001 ≤ k by omega) hs 4 0 k (H ++ [some (Blk.mk false [])]) (Sl.mk false H.length 0 0) [] (by omega) (by omega) g1
  ⟨own_new 3 H [] 0 rfl,fun i hi=>absurd hi (Nat.not_lt_zero _),fun i hi=>absurd hi (Nat.not_lt_zero _),fun i hi=>absurd hi (Nat.not_lt_zero _),fun i hi=>absurd hi (Nat.not_lt_zero _),fun i hi=>absurd hi (Nat.not_lt_zero _)⟩ rfl
 refine ⟨t',qs',H',?_,d2,d3,d4⟩
 simp only [Int.natCast_zero] at d1
 simp only [spec_RegionRules.f,dt,df,bt,bf,nt,nf,Za,Zy,Zx,Zt,Zf,Zn,Zz,Zi,Zo,wr,AV.toB,AV.toI,AV.toS,if_true,h1,d1]
theorem RD.but' {b c:Nat} {H H':Hp} {l:List Int} {p:Nat} (h:RD b H l p) (g:But c H H') (hc:b ≠ c) {ro:Bool} {cells:List AV} (hb:H[c]?=some (some ⟨ro,cells⟩)) (hk:∀ z ∈ cells,∀ n,z ≠ .int .u8 n):RD b H' l p:=by
 refine h.but g hc fun s hs hl es=>?_
 obtain ⟨s',q1,q2,q3⟩:=h.ex
 rw [q1] at hs
 simp only [Option.some.injEq,Blk.mk.injEq,List.cons.injEq,AV.sl.injEq,true_and,and_true] at hs
 subst hs
 have hc0:=q2.cell 0 (List.length_pos_iff.2 hl)
 unfold Hp.cell at hc0
 rw [es,hb] at hc0
 simp only at hc0
 exact hk _ (List.mem_of_getElem? hc0) _ rfl
theorem adv_but {b c:Nat} {B H H':Hp} (h:Adv b B H) (g:But c H H') (hc:B.length ≤ c) (hl:H.length ≤ H'.length):Adv b B H':=
 ⟨fun d x hdb hdx=>g d x (by have:=(List.getElem?_eq_some_iff.1 hdx).1; omega) (h.but d x hdb hdx),by have:=h.le; omega⟩
theorem av_no_u8 (rs:List R):∀ z ∈ rs.flatMap R.av,∀ n,z ≠ .int .u8 n:=fun z hz n e=>by
 obtain ⟨r,_,hr⟩:=List.mem_flatMap.1 hz
 subst e
 simp [R.av] at hr
theorem ints_no_u8 (l:List Int):∀ z ∈ l.map (AV.int .i64),∀ n,z ≠ .int .u8 n:=fun z hz n e=>by
 obtain ⟨x,_,hx⟩:=List.mem_map.1 hz
 subst e; cases hx
structure PZ (q:Bool) (B H:Hp) (n:Int) (gt s:Sl) (given:List Int) (rs:List R):Prop where
 og:Own 1 B H gt (given.map (.int .i64))
 rr:(s.nil=true∧s.len=0∧rs=[]) ∨ (WR B H s rs∧s.blk ≠ gt.blk)
 sg:∀ i,(h:i < rs.length)→rs[i].sl.blk ≠ gt.blk
 gg:gridOk given n=true
 ro:∀ r ∈ rs,(q=true→R.ok n r=true)∧r.cells.length ≤ 5
theorem PZ.adv {q:Bool} {b:Nat} {B H H':Hp} {n:Int} {gt s:Sl} {given:List Int} {rs:List R} (h:PZ q B H n gt s given rs) (hb:b < B.length) (g:Adv b H H'):PZ q B H' n gt s given rs:=by
 refine ⟨g.own hb h.og,?_,h.sg,h.gg,h.ro⟩
 rcases h.rr with h1 | ⟨h1,h2⟩
 ·exact .inl h1
 ·refine .inr ⟨⟨g.own hb h1.own,fun i hi=>g.reads ?_ (h1.rd i hi),h1.ne,fun i hi=>Nat.lt_of_lt_of_le (h1.lt i hi) g.le,h1.lo,h1.nn⟩,h2⟩
  have:=h1.lo i hi; omega
theorem PZ.readsR {q:Bool} {B H:Hp} {n:Int} {gt s:Sl} {given:List Int} {rs:List R} (h:PZ q B H n gt s given rs):ReadsR H s rs:=by
 rcases h.rr with ⟨_,h2,h3⟩ | ⟨h1,_⟩
 ·subst h3; exact ⟨h2,fun i hi=>absurd hi (Nat.not_lt_zero _),fun i hi=>absurd hi (Nat.not_lt_zero _),fun i hi=>absurd hi (Nat.not_lt_zero _),fun i hi=>absurd hi (Nat.not_lt_zero _)⟩
 ·exact h1.reads
theorem PZ.puz {q:Bool} {B H:Hp} {n:Int} {gt s:Sl} {given:List Int} {rs:List R} (h:PZ q B H n gt s given rs) (hl:rs.length ≤ 1000):PuzAt H n gt s given rs:=
 ⟨own_reads h.og,h.readsR,((gridOk_iff given n).1 h.gg).1,by have:=gridOk_len h.gg; omega,hl,fun r hr=>by have:=(h.ro r hr).2; omega⟩
theorem PZ.set {q:Bool} {b:Nat} {B H:Hp} {n:Int} {gt s:Sl} {given:List Int} {rs:List R} (h:PZ q B H n gt s given rs) (hb:b < B.length) (hadv:Adv b B H) {l:List Int} {p:Nat} (hrd:RD b H l p) (i:Nat) (hi:i < given.length) (v:Int) (hv:0 ≤ v∧v ≤ n) :
  ∃ H',H.sto gt.blk (gt.off + i * 1) [.int .i64 v]=some H'∧PZ q B H' n gt s (given.set i v) rs∧Adv b B H'∧RD b H' l p:=by
 have o':Own 1 [] H gt (given.map (.int .i64)):=⟨h.og.nn,h.og.off,Nat.zero_le _,h.og.get,h.og.len⟩
 obtain ⟨H',a1,a2,a3,a4⟩:=own_set1 o' List.nil_prefix i hi v
 have hgb:=h.og.blk
 refine ⟨H',a1,⟨⟨a3.nn,a3.off,hgb,a3.get,a3.len⟩,?_,h.sg,grid_set h.gg i v hv,h.ro⟩,adv_but hadv a4.but hgb a4.le,hrd.but' a4.but (by omega) h.og.get (ints_no_u8 _)⟩
 rcases h.rr with h1 | ⟨h1,h2⟩
 ·exact .inl h1
 ·exact .inr ⟨⟨a4.but.own h2 h1.own,fun i hi=>a4.but.reads (h.sg i hi) (h1.rd i hi),h1.ne,fun i hi=>Nat.lt_of_lt_of_le (h1.lt i hi) a4.le,h1.lo,h1.nn⟩,h2⟩
theorem PZ.apps {q:Bool} {b:Nat} {B H:Hp} {n:Int} {gt s:Sl} {given:List Int} {rs:List R} (h:PZ q B H n gt s given rs) (hB:B.length ≤ H.length) (hb:b < B.length) (hadv:Adv b B H) {l:List Int} {p:Nat} (hrd:RD b H l p) (hl:rs.length ≤ 1000) (qs:List R) (hq0:0 < qs.length) (hql:qs.length ≤ 1000)
  (hq:∀ i,(h:i < qs.length)→Reads .i64 H qs[i].sl qs[i].cells∧B.length ≤ qs[i].sl.blk∧qs[i].sl.blk < H.length∧qs[i].sl.blk ≠ gt.blk∧(s.nil=false→qs[i].sl.blk ≠ s.blk)∧qs[i].sl.nil=false) (hqo:∀ r ∈ qs,(q=true→R.ok n r=true)∧r.cells.length ≤ 5) :
  ∃ t' H',H.app 3 s qs.length (qs.flatMap R.av)=some (t',H')∧PZ q B H' n gt t' given (rs ++ qs)∧Adv b B H'∧RD b H' l p:=by
 have hgl:=own_lt' h.og
 have hro:∀ r ∈ rs ++ qs,(q=true→R.ok n r=true)∧r.cells.length ≤ 5:=fun r hr=>by
  rcases List.mem_append.1 hr with hr | hr
  ·exact h.ro r hr
  ·exact hqo r hr
 rcases h.rr with ⟨h1,h2,h3⟩ | ⟨h1,h2⟩
 ·subst h3
  have q1:H <+: H ++ [some (Blk.mk false (qs.flatMap R.av))]:=List.prefix_append _ _
  have hnew:=own_new 3 H (qs.flatMap R.av) qs.length (flat_length qs).symm
  refine ⟨Sl.mk false H.length 0 qs.length,H ++ [some (Blk.mk false (qs.flatMap R.av))],?_,⟨own_pf h.og q1,.inr ⟨⟨⟨rfl,rfl,hB,hnew.get,hnew.len⟩,fun i hi=>pf_reads q1 (hq i hi).1,fun i hi=>?_,fun i hi=>?_,fun i hi=>(hq i hi).2.1,fun i hi=>(hq i hi).2.2.2.2.2⟩,?_⟩,fun i hi=>(hq i hi).2.2.2.1,h.gg,hro⟩,hadv.trans (pf_adv q1),hrd.pf q1⟩
  ·unfold Hp.app
   rw [if_pos ⟨by omega,by omega,by omega,flat_length qs⟩,if_neg (by omega),if_pos h1]
  ·have:=(hq i hi).2.2.1; simp only [List.nil_append] at *; omega
  ·have:=(hq i hi).2.2.1; simp; simp only [List.nil_append] at *; omega
  ·simp only; omega
 ·have o':Own 3 [] H s (rs.flatMap R.av):=⟨h1.own.nn,h1.own.off,Nat.zero_le _,h1.own.get,h1.own.len⟩
  have hsl:=own_len3 h1.own
  obtain ⟨H',a1,a2,a3,a4,a5⟩:=own_app o' List.nil_prefix qs.length (qs.flatMap R.av) hq0 (by omega) (by omega) (by omega) (flat_length qs)
  have hsb:=h1.own.blk
  have hnn:=h1.own.nn
  have hsl':=own_lt' h1.own
  have key:∀ i,(hi:i < (rs ++ qs).length)→Reads .i64 H (rs ++ qs)[i].sl (rs ++ qs)[i].cells∧B.length ≤ (rs ++ qs)[i].sl.blk∧(rs ++ qs)[i].sl.blk < H.length∧(rs ++ qs)[i].sl.blk ≠ gt.blk∧(rs ++ qs)[i].sl.blk ≠ s.blk∧(rs ++ qs)[i].sl.nil=false:=by
   intro i hi
   by_cases e:i < rs.length
   ·simp only [List.getElem_append_left e]
    exact ⟨h1.rd i e,h1.lo i e,h1.lt i e,h.sg i e,h1.ne i e,h1.nn i e⟩
   ·simp only [List.length_append] at hi
    simp only [List.getElem_append_right (Nat.le_of_not_lt e)]
    obtain ⟨x1,x2,x3,x4,x5,x6⟩:=hq (i - rs.length) (by omega)
    exact ⟨x1,x2,x3,x4,x5 hnn,x6⟩
  refine ⟨Sl.mk false H.length 0 (s.len + qs.length),H',a1,⟨a4.own (Ne.symm h2) h.og,.inr ⟨⟨⟨rfl,rfl,hB,by rw [List.flatMap_append]; exact a3.get,by rw [List.flatMap_append]; exact a3.len⟩,fun i hi=>a4.reads (key i hi).2.2.2.2.1 (key i hi).1,fun i hi=>?_,fun i hi=>?_,fun i hi=>(key i hi).2.1,fun i hi=>(key i hi).2.2.2.2.2⟩,?_⟩,fun i hi=>(key i hi).2.2.2.1,h.gg,hro⟩,adv_but hadv a4 hsb (by omega),hrd.but' a4 (by omega) h1.own.get (av_no_u8 _)⟩
  ·have:=(key i hi).2.2.1; simp only; omega
  ·have:=(key i hi).2.2.1; omega
  ·simp only; omega
structure PuzB (H0 H:Hp) (n:Int) (gs s:Sl) (given:List Int) (rs:List R):Prop where
 at':PuzAt H n gs s given rs
 g16:given.length ≤ 16
 gv:∀ v ∈ given,0 ≤ v∧v ≤ n
 r25:rs.length ≤ 25
 c5:∀ r ∈ rs,r.cells.length ≤ 5
 gb:given ≠ []→H0.length ≤ gs.blk
 rb:rs ≠ []→H0.length ≤ s.blk
 cb:∀ i,(h:i < rs.length)→rs[i].cells ≠ []→H0.length ≤ rs[i].sl.blk
 gn:gs.nil=false
 cn:∀ i,(h:i < rs.length)→rs[i].sl.nil=false ∨ rs[i].cells=[]
def PuzDraw (b:Nat) (l:List Int) (x1:Int) (p0:Nat) (H0:Hp) (r:An):Prop:=
 ∃ n gs s given rs p' H',r=some (.agg [.int .i64 n,.sl 1 gs,.sl 3 s],H')∧RD b H' l p'∧p' ≤ p0∧Adv b H0 H'∧PuzB H0 H' n gs s given rs∧(x1 ≤ 0→puzzleV n given (rs.map R.val)=true)
theorem PZ.out {q:Bool} {B H0 H:Hp} {n:Int} {gt s:Sl} {given:List Int} {rs:List R} (h:PZ q B H n gt s given rs) (hB:H0.length ≤ B.length) (hl:rs.length ≤ 20):PuzB H0 H n gt s given rs∧(q=true→puzzleV n given (rs.map R.val)=true):=by
 have hg:=(gridOk_iff given n).1 h.gg
 refine ⟨⟨h.puz (by omega),gridOk_len h.gg,hg.2.2,by omega,fun r hr=>(h.ro r hr).2,fun _=>Nat.le_trans hB h.og.blk,fun hne=>?_,fun i hi _=>?_,h.og.nn,fun i hi=>?_⟩,fun hq=>?_⟩
 ·rcases h.rr with ⟨_,_,h3⟩ | ⟨h1,_⟩
  ·exact absurd h3 hne
  ·exact Nat.le_trans hB h1.own.blk
 ·rcases h.rr with ⟨_,_,h3⟩ | ⟨h1,_⟩
  ·subst h3; exact absurd hi (Nat.not_lt_zero _)
  ·exact Nat.le_trans hB (h1.lo i hi)
 ·rcases h.rr with ⟨_,_,h3⟩ | ⟨h1,_⟩
  ·subst h3; exact absurd hi (Nat.not_lt_zero _)
  ·exact .inl (h1.nn i hi)
 ·unfold puzzleV
  simp only [Bool.and_eq_true,decide_eq_true_eq,List.length_map,List.all_map,List.all_eq_true]
  exact ⟨h.gg,hl,fun r hr=>(h.ro r hr).1 hq⟩
theorem PZ.weak {q:Bool} {B H:Hp} {n:Int} {gt s:Sl} {given:List Int} {rs:List R} (h:PZ q B H n gt s given rs):PZ false B H n gt s given rs:=⟨h.og,h.rr,h.sg,h.gg,fun r hr=>⟨fun e=>(by cases e),(h.ro r hr).2⟩⟩
theorem zero21:((List.replicate (21:Int).toNat [AV.int .i64 0,AV.sl 1 Sl.none,AV.int .i64 0]).flatten)=(List.replicate 21 (R.mk 0 Sl.none [] 0)).flatMap R.av:=rfl
theorem own_readsR' {H0 H:Hp} {s:Sl} {rs:List R} (h:Own 3 H0 H s (rs.flatMap R.av)) (hc:∀ r ∈ rs,r.cells=[]∧r.sl.len=0):ReadsR H s rs:=
 own_readsR h fun i hi=>by
  obtain ⟨h1,h2⟩:=hc _ (List.getElem_mem hi)
  rw [h1]; exact reads_nil h2
theorem Puz_j6 {k:Nat} (hk:1000 ≤ k) {b:Nat} {l:List Int} {n x1 y0:Int} (hx1:x1 < 1000000) {p p0:Nat} (hp:p + 60 ≤ p0) (hp0:p0 ≤ 999990000) {H0 B H:Hp} (hB:Adv b H0 B) (hb0:b < H0.length) (hadv:Adv b B H) (hrd:RD b H l p) {y1 y2 xs gt s:Sl} {g given:List Int} {rs:List R} (hx:Reads .i64 B xs g) (hxb:xs.blk ≠ b) (hg:fullG g n) (hz:PZ true B H n gt s given rs) (hl:rs.length ≤ 12) :
  PuzDraw b l x1 p0 H0 (spec_l20Puzzle.j6 (callF PP orc k) k b 0 x1 n xs y0 y1 y2 n gt s H):=by
 obtain ⟨hn,_,_⟩:=(gridOk_iff given n).1 hz.gg
 have hBl:=hB.le
 have hb:b < B.length:=by omega
 obtain ⟨v,p1,H1,a1,a2,a3,a4,a5⟩:=odd_adv (show 2 ≤ k by omega) hrd (by omega) hx1
 have hz1:=hz.adv hb a4
 have adv1:=hadv.trans a4
 cases v with
 | false=>
  obtain ⟨o1,o2⟩:=hz1.out hBl (by omega)
  exact ⟨n,gt,s,given,rs,p1,H1,by simp only [spec_l20Puzzle.j6,spec_l20Puzzle.j8,dt,df,bt,bf,nt,nf,Za,Zy,Zx,Zt,Zf,Zn,Zz,Zi,Zo,wr,AV.toB,AV.toI,AV.toS,if_true,a1],a2,by omega,hB.trans adv1,o1,fun _=>o2 rfl⟩
 | true=>
  have hx0:¬ x1 ≤ 0:=fun h=>by have:=a5 h; cases this
  obtain ⟨v,H2,b1,b2,b3,b4,b5⟩:=pick_adv (show 1 ≤ k by omega) a2 (by omega) 3
  have hz2:=hz1.adv hb b3
  have adv2:=adv1.trans b3
  have hgl:=(own_reads hz2.og).len
  by_cases v0:v=0
  ·obtain ⟨kind,cs,value,cells,p',H3,c1,c2,c3,c4,c5,c6,c7,c8,c8n,c9,c10⟩:=l20Rule_ok (show 200 ≤ k by omega) hn (x3:=1) (by omega) b2 (by omega) (adv2.reads hxb hx) hxb hg
   have hz3:=hz2.adv hb c4
   have adv3:=adv2.trans c4
   have hgl2:=own_lt' hz2.og
   obtain ⟨t',H4,d1,d2,d3,d4⟩:=hz3.weak.apps (by have:=adv3.le; omega) hb adv3 c2 (by omega) [R.mk kind cs cells value] (by simp) (by simp) (fun i hi=>by
    have:i=0:=by simp at hi; omega
    subst this
    refine ⟨c5,by have:=adv2.le; simp only [List.getElem_cons_zero]; omega,by simp only [List.getElem_cons_zero]; omega,by simp only [List.getElem_cons_zero]; omega,fun hnn=>?_,c8n⟩
    rcases hz2.rr with ⟨h1,_,_⟩ | ⟨h1,_⟩
    ·rw [h1] at hnn; cases hnn
    ·have:=own_lt' h1.own; simp only [List.getElem_cons_zero]; omega) (fun r hr=>⟨fun e=>(by cases e),by simp at hr; subst hr; exact c9⟩)
   obtain ⟨o1,_⟩:=d2.out hBl (by simp; omega)
   refine ⟨n,gt,t',given,rs ++ [R.mk kind cs cells value],p',H4,?_,d4,by omega,hB.trans d3,o1,fun h=>absurd h hx0⟩
   have d1':H3.app 3 s 1 [.int .i64 kind,.sl 1 cs,.int .i64 value]=some (t',H4):=d1
   simp (disch:=omega) only [spec_l20Puzzle.j6,spec_l20Puzzle.j8,dt,df,bt,bf,nt,nf,Za,Zy,Zx,Zt,Zf,Zn,Zz,Zi,Zo,wr,AV.toB,AV.toI,AV.toS,if_true,a1,b1,v0,c1,AV.isAgg,AV.cel,Zl,Zm,Zc,Zd,d1']
   rfl
  ·by_cases v1:v=1
   ·have hlt:1 ≤ given.length:=by
     have:=((gridOk_iff given n).1 hz.gg).2.1
     have:n=2 ∨ n=3 ∨ n=4:=by omega
     rcases this with rfl | rfl | rfl <;> omega
    have h16:=gridOk_len hz.gg
    have hrd1:Reads .i64 H2 (Sl.mk gt.nil gt.blk (gt.off + 1) (given.length - 1)) (given.drop 1):=⟨by simp,fun i hi=>by
     have hi':1 + i < given.length:=by simp at hi; omega
     have:=(own_reads hz2.og).cell (1 + i) hi'
     simp only [List.getElem_drop]
     rw [← this,Nat.add_assoc]⟩
    obtain ⟨o1,o2⟩:=hz2.out hBl (by omega)
    refine ⟨n,Sl.mk gt.nil gt.blk (gt.off + 1) (given.length - 1),s,given.drop 1,rs,p1 + 1,H2,?_,b2,by omega,hB.trans adv2,⟨⟨hrd1,hz2.readsR,hn,by simp; omega,by omega,o1.at'.rc⟩,by simp; omega,fun v hv=>o1.gv v (List.mem_of_mem_drop hv),o1.r25,o1.c5,fun _=>Nat.le_trans hBl hz2.og.blk,o1.rb,o1.cb,hz2.og.nn,o1.cn⟩,fun h=>absurd h hx0⟩
    simp (disch:=omega) only [spec_l20Puzzle.j6,spec_l20Puzzle.j8,dt,df,bt,bf,nt,nf,Za,Zy,Zx,Zt,Zf,Zn,Zz,Zi,Zo,wr,AV.toB,AV.toI,AV.toS,if_true,a1,b1,v1]
    rw [ip (by simp; omega)]
    simp only [hgl,Nat.mul_one,show ((given.length:Int) - 1).toNat=given.length - 1 by omega]
   ·have q1:H2 <+: H2 ++ [some (Blk.mk false ((List.replicate 21 (R.mk 0 Sl.none [] 0)).flatMap R.av))]:=List.prefix_append _ _
    have hnew:=own_new 3 H2 ((List.replicate 21 (R.mk 0 Sl.none [] 0)).flatMap R.av) 21 (by rw [flat_length]; rfl)
    have hz0:∀ r ∈ List.replicate 21 (R.mk 0 Sl.none [] 0),r.cells=[]∧r.sl.len=0:=fun r hr=>by have:=(List.mem_replicate.1 hr).2; subst this; exact ⟨rfl,rfl⟩
    obtain ⟨o1,o2⟩:=hz2.out hBl (by omega)
    refine ⟨n,gt,Sl.mk false H2.length 0 21,given,List.replicate 21 (R.mk 0 Sl.none [] 0),p1 + 1,H2 ++ [some (Blk.mk false ((List.replicate 21 (R.mk 0 Sl.none [] 0)).flatMap R.av))],?_,b2.pf q1,by omega,hB.trans (adv2.trans (pf_adv q1)),⟨⟨pf_reads q1 (own_reads hz2.og),own_readsR' hnew hz0,hn,o1.at'.gl,by simp,fun r hr=>by rw [(hz0 r hr).1]; simp⟩,o1.g16,o1.gv,by simp,fun r hr=>by rw [(hz0 r hr).1]; simp,o1.gb,fun _=>by have:=adv2.le; simp only; omega,fun i hi hne=>absurd (hz0 _ (List.getElem_mem hi)).1 hne,o1.gn,fun i hi=>.inr (hz0 _ (List.getElem_mem hi)).1⟩,fun h=>absurd h hx0⟩
    simp (disch:=omega) only [spec_l20Puzzle.j6,spec_l20Puzzle.j8,dt,df,bt,bf,nt,nf,Za,Zy,Zx,Zt,Zf,Zn,Zz,Zi,Zo,wr,AV.toB,AV.toI,AV.toS,if_true,a1,b1,zero21]
    rw [ip (by simp)]
    rfl
theorem given_pos {n:Int} {g:List Int} (h:gridOk g n=true):4 ≤ g.length∧g.length ≤ 16:=by
 obtain ⟨hn,h2,_⟩:=(gridOk_iff g n).1 h
 have:n=2 ∨ n=3 ∨ n=4:=by omega
 rcases this with rfl | rfl | rfl <;> omega
theorem Puz_j4 {k:Nat} (hk:1000 ≤ k) {b:Nat} {l:List Int} {n x1 y0:Int} (hx1:x1 < 1000000) {p p0:Nat} (hp:p + 70 ≤ p0) (hp0:p0 ≤ 999990000) {H0 B H:Hp} (hB:Adv b H0 B) (hb0:b < H0.length) (hadv:Adv b B H) (hrd:RD b H l p) {y1 y2 xs gt s:Sl} {g given:List Int} {rs:List R} (hx:Reads .i64 B xs g) (hxb:xs.blk ≠ b) (hg:fullG g n) (hz:PZ true B H n gt s given rs) (hl:rs.length ≤ 12) :
  PuzDraw b l x1 p0 H0 (spec_l20Puzzle.j4 (callF PP orc k) k b 0 x1 n xs y0 y1 y2 n gt s H):=by
 obtain ⟨hn,_,_⟩:=(gridOk_iff given n).1 hz.gg
 have hBl:=hB.le
 have hb:b < B.length:=by omega
 obtain ⟨v,H1,a1,a2,a3,a4,a5⟩:=pick_adv (show 1 ≤ k by omega) hrd (by omega) 8
 have hz1:=hz.adv hb a3
 have hgl:=(own_reads hz1.og).len
 have h4:=given_pos hz1.gg
 by_cases v0:v=0
 ·obtain ⟨u,H2,b1,b2,b3,b4,b5⟩:=pick_adv (show 1 ≤ k by omega) a2 (by omega) (gt.len:Int)
  have hu:=b5 (by omega)
  obtain ⟨w,H3,c1,c2,c3,c4,c5⟩:=pick_adv (show 1 ≤ k by omega) b2 (by omega) n
  have hw:=c5 (by omega)
  have hz3:=(hz1.adv hb b3).adv hb c3
  obtain ⟨H4,d1,d2,d3,d4⟩:=hz3.set hb (((hadv.trans a3).trans b3).trans c3) c2 u.toNat (by omega) (1 + w) (by omega)
  have:=Puz_j6 hk hx1 (p0:=p0) (by omega) hp0 hB hb0 d3 d4 (y0:=y0) (y1:=y1) (y2:=y2) hx hxb hg d2 hl
  simp (disch:=omega) only [spec_l20Puzzle.j4,dt,df,bt,bf,nt,nf,Za,Zy,Zx,Zt,Zf,Zn,Zz,Zi,Zo,wr,AV.toB,AV.toI,AV.toS,if_true,a1,v0,b1,c1,d1]
  exact this
 ·have:=Puz_j6 hk hx1 (p0:=p0) (by omega) hp0 hB hb0 (hadv.trans a3) a2 (y0:=y0) (y1:=y1) (y2:=y2) hx hxb hg hz1 hl
  simp (disch:=omega) only [spec_l20Puzzle.j4,dt,df,bt,bf,nt,nf,Za,Zy,Zx,Zt,Zf,Zn,Zz,Zi,Zo,wr,AV.toB,AV.toI,AV.toS,if_true,a1]
  exact this
theorem Puz_l5 {k:Nat} (hk:1000 ≤ k) {b:Nat} {l:List Int} {n x1 y0 holes:Int} (hx1:x1 < 1000000) {p0:Nat} (hp0:p0 ≤ 999990000) {H0 B:Hp} (hB:Adv b H0 B) (hb0:b < H0.length) {y1 y2 xs gt s:Sl} {g:List Int} {rs:List R} (hx:Reads .i64 B xs g) (hxb:xs.blk ≠ b) (hg:fullG g n) (hl:rs.length ≤ 12) :
  ∀ (j i fuel:Nat) (H:Hp) (given:List Int) (p:Nat),i + j=given.length→j < fuel→p + 70 + j ≤ p0→Adv b B H→RD b H l p→PZ true B H n gt s given rs →
   PuzDraw b l x1 p0 H0 (spec_l20Puzzle.l5 (callF PP orc k) k fuel b 0 x1 n xs holes i y0 y1 y2 n gt s H):=by
 have hBl:=hB.le
 have hb:b < B.length:=by omega
 intro j
 induction j with
 | zero=>
  intro i fuel H given p hi hf hp hadv hrd hz
  obtain ⟨fuel,rfl⟩:=Zs fuel (by omega)
  have hgl:=(own_reads hz.og).len
  have:=Puz_j4 hk hx1 (p0:=p0) (by omega) hp0 hB hb0 hadv hrd (y0:=y0) (y1:=y1) (y2:=y2) hx hxb hg hz hl
  simp (disch:=omega) only [spec_l20Puzzle.l5,dt,df,bt,bf,nt,nf,Za,Zy,Zx,Zt,Zf,Zn,Zz,Zi,Zo,wr,AV.toB,AV.toI,AV.toS,if_true]
  exact this
 | succ j ih=>
  intro i fuel H given p hi hf hp hadv hrd hz
  obtain ⟨fuel,rfl⟩:=Zs fuel (by omega)
  obtain ⟨hn,_,_⟩:=(gridOk_iff given n).1 hz.gg
  have h4:=given_pos hz.gg
  have hgl:=(own_reads hz.og).len
  obtain ⟨v,H1,a1,a2,a3,a4,a5⟩:=pick_adv (show 1 ≤ k by omega) hrd (by omega) 4
  have hz1:=hz.adv hb a3
  by_cases c:v < holes
  ·obtain ⟨H4,d1,d2,d3,d4⟩:=hz1.set hb (hadv.trans a3) a2 i (by omega) 0 (by omega)
   have:=ih (i + 1) fuel H4 (given.set i 0) _ (by simp; omega) (by omega) (by omega) d3 d4 d2
   push_cast at this
   simp (disch:=omega) only [spec_l20Puzzle.l5,spec_l20Puzzle.j7,dt,df,bt,bf,nt,nf,Za,Zy,Zx,Zt,Zf,Zn,Zz,Zi,Zo,wr,AV.toB,AV.toI,AV.toS,if_true,a1,d1]
   exact this
  ·have:=ih (i + 1) fuel H1 given _ (by omega) (by omega) (by omega) (hadv.trans a3) a2 hz1
   push_cast at this
   simp (disch:=omega) only [spec_l20Puzzle.l5,spec_l20Puzzle.j7,dt,df,bt,bf,nt,nf,Za,Zy,Zx,Zt,Zf,Zn,Zz,Zi,Zo,wr,AV.toB,AV.toI,AV.toS,if_true,a1]
   exact this
theorem minFrom_grid {n:Int} (vs:List V) (hn:2 ≤ n∧n ≤ 4):∀ (j i:Nat) (g:List Int),gridOk g n=true→gridOk (minFrom n vs g i j) n=true
 | 0,_,_,h=>h
 | j + 1,i,g,h=>by
  rw [minFrom]
  refine minFrom_grid vs hn j (i + 1) _ ?_
  split
  ·exact grid_set h i 0 (by omega)
  ·exact h
theorem blk_ne {B B' H:Hp} {s t:Sl} {rs:List R} {l:List Int} (h:Own 3 B H s (rs.flatMap R.av)) (h':Own 1 B' H t (l.map (.int .i64))) (hl:2 ≤ l.length):s.blk ≠ t.blk:=by
 intro e
 have e1:=h.get
 rw [e,h'.get] at e1
 simp only [Option.some.injEq,Blk.mk.injEq,true_and] at e1
 have e2:=congrArg (fun x=>x[1]?) e1
 simp only [List.getElem?_map] at e2
 rw [List.getElem?_eq_getElem (show 1 < l.length by omega)] at e2
 cases rs with
 | nil=>simp at e2
 | cons r rs=>simp [R.av] at e2
theorem Puz_j3 {k:Nat} (hk:2000300 ≤ k) {b:Nat} {l:List Int} {n x1 y0:Int} (hx1:x1 < 1000000) {p p0:Nat} (hp:p + 100 ≤ p0) (hp0:p0 ≤ 999990000) {H0 B H:Hp} (hB:Adv b H0 B) (hb0:b < H0.length) (hadv:Adv b B H) (hrd:RD b H l p) {y1 y2 xs gt s:Sl} {g given:List Int} {rs:List R} (hx:Reads .i64 B xs g) (hxb:xs.blk ≠ b) (hg:fullG g n) (hz:PZ true B H n gt s given rs) (hl:rs.length ≤ 12) :
  PuzDraw b l x1 p0 H0 (spec_l20Puzzle.j3 (callF PP orc k) k b 0 x1 n xs y0 y1 y2 n gt s H):=by
 obtain ⟨hn,_,_⟩:=(gridOk_iff given n).1 hz.gg
 have hBl:=hB.le
 have hb:b < B.length:=by omega
 obtain ⟨v,H1,a1,a2,a3,a4,a5⟩:=pick_adv (show 1 ≤ k by omega) hrd (by omega) 3
 have hz1:=hz.adv hb a3
 have adv1:=hadv.trans a3
 have h4:=given_pos hz1.gg
 by_cases v0:v=0
 ·obtain ⟨H2,b1,b2⟩:=specMakeMinimal_ok hk (hz1.puz (by omega))
  have adv2:Adv b B H2:=adv1.trans (pf_adv b1)
  have rd2:=a2.pf b1
  rcases b2 with ⟨_,b2⟩ | ⟨_,gt',st,qs,b2,b3,b4,b5,b6⟩
  ·have:=Puz_j4 (show 1000 ≤ k by omega) hx1 (p0:=p0) (by omega) hp0 hB hb0 adv2 rd2 (y0:=y0) (y1:=y1) (y2:=y2) hx hxb hg (hz1.adv hb (pf_adv b1)) hl
   simp (disch:=omega) only [spec_l20Puzzle.j3,dt,df,bt,bf,nt,nf,Za,Zy,Zx,Zt,Zf,Zn,Zz,Zi,Zo,wr,AV.toB,AV.toI,AV.toS,if_true,a1,v0,b2,AV.isTup,AV.nth,AV.isAgg,AV.cel,Zl,Zm,Zc,Zd]
   exact this
  ·have hle:=adv1.le
   have hql:qs.length=rs.length:=by have:=congrArg List.length b5; simpa using this
   have hmm:gridOk (minimalV n given (rs.map R.val)) n=true:=minFrom_grid _ hn _ _ _ hz1.gg
   have h4':=given_pos hmm
   have hz2:PZ true B H2 n gt' st (minimalV n given (rs.map R.val)) qs:=by
    refine ⟨⟨b3.nn,b3.off,Nat.le_trans hle b3.blk,b3.get,b3.len⟩,.inr ⟨⟨⟨b4.own.nn,b4.own.off,Nat.le_trans hle b4.own.blk,b4.own.get,b4.own.len⟩,b4.rd,b4.ne,b4.lt,fun i hi=>Nat.le_trans hle (b4.lo i hi),b4.nn⟩,blk_ne b4.own b3 (by omega)⟩,b6,hmm,fun q hq=>?_⟩
    have hqv:q.val ∈ rs.map R.val:=b5 ▸ List.mem_map_of_mem hq
    obtain ⟨r,hr,e⟩:=List.mem_map.1 hqv
    obtain ⟨r1,r2⟩:=hz1.ro r hr
    have e1:R.ok n q=R.ok n r:=by
     show ruleOkV n q.val=ruleOkV n r.val
     rw [e]
    have e2:q.cells=r.cells:=congrArg (·.2.1) e.symm
    exact ⟨fun h=>e1 ▸ r1 h,e2 ▸ r2⟩
   have:=Puz_j4 (show 1000 ≤ k by omega) hx1 (p0:=p0) (by omega) hp0 hB hb0 adv2 rd2 (y0:=y0) (y1:=y1) (y2:=y2) hx hxb hg hz2 (by omega)
   simp (disch:=omega) only [spec_l20Puzzle.j3,dt,df,bt,bf,nt,nf,Za,Zy,Zx,Zt,Zf,Zn,Zz,Zi,Zo,wr,AV.toB,AV.toI,AV.toS,if_true,a1,v0,b2,AV.isTup,AV.nth,AV.isAgg,AV.cel,Zl,Zm,Zc,Zd]
   exact this
 ·obtain ⟨w,H2,b1,b2,b3,b4,b5⟩:=pick_adv (show 1 ≤ k by omega) a2 (by omega) 3
  have hw:=b5 (by omega)
  have:=Puz_l5 (show 1000 ≤ k by omega) (holes:=1 + w) hx1 hp0 hB hb0 (y0:=y0) (y1:=y1) (y2:=y2) hx hxb hg hl given.length 0 k H2 given _ (by omega) (by omega) (by omega) (adv1.trans b3) b2 (hz1.adv hb b3)
  simp (disch:=omega) only [spec_l20Puzzle.j3,dt,df,bt,bf,nt,nf,Za,Zy,Zx,Zt,Zf,Zn,Zz,Zi,Zo,wr,AV.toB,AV.toI,AV.toS,if_true,a1,b1]
  exact this
theorem box_valid:∀ r ∈ boxRules,ruleOkV 4 r=true∧r.2.1.length ≤ 5:=by decide
theorem Puz_j2 {k:Nat} (hk:2000400 ≤ k) {b:Nat} {l:List Int} {n x1 y0:Int} (hx1:x1 < 1000000) {p p0:Nat} (hp:p + 100 ≤ p0) (hp0:p0 ≤ 999990000) {H0 B H:Hp} (hB:Adv b H0 B) (hb0:b < H0.length) (hadv:Adv b B H) (hrd:RD b H l p) {y1 y2 xs gt s:Sl} {g given:List Int} {rs:List R} (hx:Reads .i64 B xs g) (hxb:xs.blk ≠ b) (hg:fullG g n) (hz:PZ true B H n gt s given rs) (hl:rs.length ≤ 8) {c:Bool} (hc:c=true→n=4) :
  PuzDraw b l x1 p0 H0 (spec_l20Puzzle.j2 (callF PP orc k) k b 0 x1 n xs c y0 y1 y2 n gt s H):=by
 have hBl:=hB.le
 have hb:b < B.length:=by omega
 cases c with
 | false=>
  have:=Puz_j3 (show 2000300 ≤ k by omega) hx1 (p0:=p0) (by omega) hp0 hB hb0 hadv hrd (y0:=y0) (y1:=y1) (y2:=y2) hx hxb hg hz (by omega)
  simp only [spec_l20Puzzle.j2,Zf]
  exact this
 | true=>
  have hn4:=hc rfl
  subst hn4
  obtain ⟨u,H1,a1,a2,a3⟩:=specBoxRegions_ok (show 100 ≤ k by omega) H
  obtain ⟨t,qs,H2,b1,b2,b3,b4⟩:=specRegionRules_ok (show 2000010 ≤ k by omega) (own_reads a3)
  have p2:H <+: H2:=a2.trans b2
  have hql:qs.length=4:=by have:=congrArg List.length b4; simp [boxRules] at this; exact this
  have hqo:∀ r ∈ qs,(true=true→R.ok 4 r=true)∧r.cells.length ≤ 5:=fun q hq=>by
   have:q.val ∈ boxRules:=b4 ▸ List.mem_map_of_mem hq
   obtain ⟨h1,h2⟩:=box_valid _ this
   exact ⟨fun _=>h1,h2⟩
  have hgl:g.length ≤ 16:=by have:=hg.1; rw [this]; decide
  have hxH:=(hadv.trans (pf_adv p2)).reads hxb hx
  have hz0:PuzAt H2 4 xs t g qs:=⟨hxH,b3.reads,by omega,by omega,by omega,fun r hr=>by have:=(hqo r hr).2; omega⟩
  obtain ⟨H3,c1,c2⟩:=specPuzzleSolved_ok (show 2000043 ≤ k by omega) hz0 hxH (by omega)
  have p3:=p2.trans c2
  have adv3:Adv b B H3:=hadv.trans (pf_adv p3)
  have hz3:=hz.adv hb (pf_adv (b:=b) p3)
  cases hs:puzzleSolvedV 4 g (qs.map R.val) g with
  | false=>
   rw [hs] at c1
   have:=Puz_j3 (show 2000300 ≤ k by omega) hx1 (p0:=p0) (by omega) hp0 hB hb0 adv3 (hrd.pf p3) (y0:=y0) (y1:=y1) (y2:=y2) hx hxb hg hz3 (by omega)
   simp (disch:=omega) only [spec_l20Puzzle.j2,dt,df,bt,bf,nt,nf,Za,Zy,Zx,Zt,Zf,Zn,Zz,Zi,Zo,wr,AV.toB,AV.toI,AV.toS,if_true,a1,b1,c1,AV.isTup,AV.nth,Zl,Zm,Zc,Zd]
   exact this
  | true=>
   rw [hs] at c1
   have hHl:=a2.length_le
   have hgt:=own_lt' hz.og
   have hb3':=b3.pf c2
   obtain ⟨t',H4,d1,d2,d3,d4⟩:=hz3.apps (by have:=adv3.le; omega) hb adv3 (hrd.pf p3) (by omega) qs (by omega) (by omega) (fun i hi=>by
    have h1:=b3.lo i hi
    have h2:=hb3'.lt i hi
    refine ⟨hb3'.rd i hi,by have:=hadv.le; omega,h2,by omega,fun hnn=>?_,hb3'.nn i hi⟩
    rcases hz.rr with ⟨h1',_,_⟩ | ⟨h1',_⟩
    ·rw [h1'] at hnn; cases hnn
    ·have:=own_lt' h1'.own; omega) hqo
   have hrd3:=read3_ok hb3'.own
   have hsl:=own_len3 hb3'.own
   have:=Puz_j3 (show 2000300 ≤ k by omega) hx1 (p0:=p0) (by omega) hp0 hB hb0 d3 d4 (y0:=y0) (y1:=y1) (y2:=y2) hx hxb hg d2 (by simp; omega)
   simp (disch:=omega) only [spec_l20Puzzle.j2,dt,df,bt,bf,nt,nf,Za,Zy,Zx,Zt,Zf,Zn,Zz,Zi,Zo,wr,AV.toB,AV.toI,AV.toS,if_true,a1,b1,c1,AV.isTup,AV.nth,Zl,Zm,Zc,Zd,hrd3,hsl,d1,cells3_ok]
   exact this
theorem Puz_j1 {k:Nat} (hk:2000400 ≤ k) {b:Nat} {l:List Int} {n x1 y0:Int} (hx1:x1 < 1000000) {p p0:Nat} (hp:p + 110 ≤ p0) (hp0:p0 ≤ 999990000) {H0 B H:Hp} (hB:Adv b H0 B) (hb0:b < H0.length) (hadv:Adv b B H) (hrd:RD b H l p) {y1 y2 xs gt s:Sl} {g given:List Int} {rs:List R} (hx:Reads .i64 B xs g) (hxb:xs.blk ≠ b) (hg:fullG g n) (hz:PZ true B H n gt s given rs) (hl:rs.length ≤ 8) :
  PuzDraw b l x1 p0 H0 (spec_l20Puzzle.j1 (callF PP orc k) k b 0 x1 n xs y0 y1 y2 n gt s H):=by
 have hBl:=hB.le
 have hb:b < B.length:=by omega
 by_cases c:n=4
 ·obtain ⟨v,H1,a1,a2,a3,a4,a5⟩:=pick_adv (show 1 ≤ k by omega) hrd (by omega) 3
  have:=Puz_j2 hk hx1 (p0:=p0) (by omega) hp0 hB hb0 (hadv.trans a3) a2 (y0:=y0) (y1:=y1) (y2:=y2) hx hxb hg (hz.adv hb a3) hl (c:=v == 0) (fun _=>c)
  simp only [spec_l20Puzzle.j1,bt c,Zt,a1,Zo,AV.toI,if_true]
  exact this
 ·have:=Puz_j2 hk hx1 (p0:=p0) (by omega) hp0 hB hb0 hadv hrd (y0:=y0) (y1:=y1) (y2:=y2) hx hxb hg hz hl (c:=false) (fun h=>by cases h)
  simp only [spec_l20Puzzle.j1,bf c,Zf]
  exact this
theorem Puz_l0 {k:Nat} (hk:2000400 ≤ k) {b:Nat} {l:List Int} {n x1 y0:Int} (hx1:x1 < 1000000) {p0:Nat} (hp0:p0 ≤ 999990000) {H0 B:Hp} (hB:Adv b H0 B) (hb0:b < H0.length) {y1 y2 xs gt:Sl} {g given:List Int} (hx:Reads .i64 B xs g) (hxb:xs.blk ≠ b) (hg:fullG g n) :
  ∀ (j fuel:Nat) (H:Hp) (s:Sl) (rs:List R) (p:Nat),j < fuel→rs.length + j ≤ 8→p + 110 + 50 * j ≤ p0→Adv b B H→RD b H l p→PZ true B H n gt s given rs →
   PuzDraw b l x1 p0 H0 (spec_l20Puzzle.l0 (callF PP orc k) k fuel b 0 x1 n xs (j:Int) y0 y1 y2 n gt s H):=by
 have hBl:=hB.le
 have hb:b < B.length:=by omega
 intro j
 induction j with
 | zero=>
  intro fuel H s rs p hf hl hp hadv hrd hz
  obtain ⟨fuel,rfl⟩:=Zs fuel (by omega)
  have:=Puz_j1 hk hx1 (p0:=p0) (by omega) hp0 hB hb0 hadv hrd (y0:=y0) (y1:=y1) (y2:=y2) hx hxb hg hz (by omega)
  simp (disch:=omega) only [spec_l20Puzzle.l0,dt,df,bt,bf,nt,nf,Za,Zy,Zx,Zt,Zf,Zn,Zz,Zi,Zo,wr,AV.toB,AV.toI,AV.toS,if_true]
  exact this
 | succ j ih=>
  intro fuel H s rs p hf hl hp hadv hrd hz
  obtain ⟨fuel,rfl⟩:=Zs fuel (by omega)
  obtain ⟨hn,_,_⟩:=(gridOk_iff given n).1 hz.gg
  obtain ⟨kind,cs,value,cells,p',H3,c1,c2,c3,c4,c5,c6,c7,c8,c8n,c9,c10⟩:=l20Rule_ok (show 200 ≤ k by omega) hn (x3:=0) (by omega) hrd (by omega) (hadv.reads hxb hx) hxb hg
  have hz3:=hz.adv hb c4
  have adv3:=hadv.trans c4
  have hgl2:=own_lt' hz.og
  obtain ⟨t',H4,d1,d2,d3,d4⟩:=hz3.apps (by have:=adv3.le; omega) hb adv3 c2 (by omega) [R.mk kind cs cells value] (by simp) (by simp) (fun i hi=>by
    have:i=0:=by simp at hi; omega
    subst this
    refine ⟨c5,by have:=hadv.le; simp only [List.getElem_cons_zero]; omega,by simp only [List.getElem_cons_zero]; omega,by simp only [List.getElem_cons_zero]; omega,fun hnn=>?_,c8n⟩
    rcases hz.rr with ⟨h1,_,_⟩ | ⟨h1,_⟩
    ·rw [h1] at hnn; cases hnn
    ·have:=own_lt' h1.own; simp only [List.getElem_cons_zero]; omega) (fun r hr=>⟨fun _=>by simp at hr; subst hr; exact c10 (by omega),by simp at hr; subst hr; exact c9⟩)
  have:=ih fuel H4 t' (rs ++ [R.mk kind cs cells value]) p' (by omega) (by simp; omega) (by omega) d3 d4 d2
  have d1':H3.app 3 s 1 [.int .i64 kind,.sl 1 cs,.int .i64 value]=some (t',H4):=d1
  have hj:((j + 1:Nat):Int) - 1=(j:Int):=by omega
  simp (disch:=omega) only [spec_l20Puzzle.l0,dt,Zt,Zo,c1,AV.toI,AV.toS,if_true,AV.isAgg,AV.cel,Zl,Zm,Zc,Zd,d1',wr,hj]
  exact this
theorem l20Puzzle_ok {k:Nat} (hk:2000500 ≤ k) {b:Nat} {l:List Int} {x1:Int} (hx1:x1 < 1000000) {p:Nat} {H:Hp} (hrd:RD b H l p) (hp:p ≤ 900000000) :
  PuzDraw b l x1 (p + 500) H (callF PP orc k spec_l20Puzzle.id [.ptr b 0,.int .i64 x1] H):=by
 obtain ⟨k,rfl⟩:=Zs k (by omega)
 rw [spec_l20Puzzle.call]
 obtain ⟨n,p1,H1,a1,a2,a3,a4,a5,a6,a7⟩:=l20Size_ok (show 3 ≤ k by omega) hrd (by omega) (n:=0) (by omega)
 have hn:=a7 (by omega)
 obtain ⟨t,g,p2,H2,b1,b2,b3,b4,b5,b6⟩:=l20Solved_ok (show 2000101 ≤ k by omega) a2 (by omega) hn
 have hgl:g.length ≤ 16:=by
  have:=b6.1
  have:n=2 ∨ n=3 ∨ n=4:=by omega
  rcases this with rfl | rfl | rfl <;> omega
 have hg:gridOk g n=true:=by
  refine (gridOk_iff g n).2 ⟨hn,?_,fun v hv=>by have:=b6.2 v hv; omega⟩
  have:=b6.1
  have:n=2 ∨ n=3 ∨ n=4:=by omega
  rcases this with rfl | rfl | rfl <;> omega
 have hb0:=hrd.lt
 have adv2:Adv b H H2:=a4.trans b4
 have q1:H2 <+: H2 ++ [some (Blk.mk false (g.map (.int .i64)))]:=List.prefix_append _ _
 have hnew:=own_new 1 H2 (g.map (.int .i64)) g.length (by simp)
 obtain ⟨v,H3,c1,c2,c3,c4,c5⟩:=pick_adv (show 1 ≤ k by omega) (b2.pf q1) (by omega) 5
 have hv:=c5 (by omega)
 have hz:PZ true H2 (H2 ++ [some (Blk.mk false (g.map (.int .i64)))]) n (Sl.mk false H2.length 0 g.length) Sl.none g []:=⟨hnew,.inl ⟨rfl,rfl,rfl⟩,fun i hi=>absurd hi (Nat.not_lt_zero _),hg,fun r hr=>by cases hr⟩
 have hb2:b < H2.length:=by have:=adv2.le; omega
 have htb:t.blk ≠ b:=by have:=b5.blk; have:=a4.le; omega
 have:=Puz_l0 (show 2000400 ≤ k by omega) hx1 (p0:=p + 500) (by omega) adv2 hb0 (l:=l) (y0:=0) (y1:=Sl.none) (y2:=Sl.none) (given:=g) (own_reads b5) htb b6 v.toNat k H3 Sl.none [] _ (by omega) (by simp; omega) (by omega) ((pf_adv q1).trans c3) c2 (hz.adv hb2 c3)
 rw [show ((v.toNat:Nat):Int)=v by omega] at this
 have tl:=(own_reads b5).len
 simp (disch:=omega) only [spec_l20Puzzle.f,Zo,a1,b1,AV.toI,AV.toS,if_true,read_ok (own_reads b5),tl,appl_ok,cells_ok,Za,Zt,c1]
 exact this
theorem byte_wf {l:List Int} (h:∀ n ∈ l,(Lit.int .u8 n).wf=true):∀ x ∈ l,0 ≤ x∧x ≤ 255:=fun x hx=>by
 have:=h x hx
 simp only [Lit.wf,IntKind.min,IntKind.max,IntKind.signed,IntKind.bits,Bool.and_eq_true,decide_eq_true_eq,if_true,Bool.false_eq_true,if_false] at this
 omega
theorem alive_ok {k:Nat} (hk:2000002 ≤ k) (H:Hp):∃ H',callF PP orc k laws_alive.id [] H=some (.bool true,H')∧H <+: H':=by
 obtain ⟨k,rfl⟩:=Zs k (by omega)
 rw [laws_alive.call]
 have hnew:=own_new 1 H (([1,0,0,2]:List Int).map (.int .i64)) 4 rfl
 have h1:=implGridFilled_ok (show 2000001 ≤ k by omega) (own_reads hnew) (by simp) 2
 rw [ip (show gridOk [1,0,0,2] 2=true by decide),show filled [1,0,0,2]=2 by decide] at h1
 refine ⟨H ++ [some (Blk.mk false (([1,0,0,2]:List Int).map (.int .i64)))],?_,(List.prefix_append _ _)⟩
 simp only [List.map_cons,List.map_nil] at h1 ⊢
 simp only [laws_alive.f,dt,df,bt,bf,nt,nf,Za,Zy,Zx,Zt,Zf,Zn,Zz,Zi,Zo,wr,AV.toB,AV.toI,AV.toS,if_true,h1]
 rfl
theorem reads3_ok {H:Hp} {s:Sl} {rs:List R} (h:ReadsR H s rs):H.read 3 s=some (rs.flatMap R.av):=by
 unfold Hp.read
 by_cases h0:s.len=0
 ·rw [if_pos h0]
  have:rs=[]:=List.length_eq_zero_iff.1 (by rw [← h.len]; exact h0)
  subst this; rfl
 ·rw [if_neg h0]
  have hl:=h.len
  have hlast:=h.c2 (rs.length - 1) (by omega)
  unfold Hp.cell at hlast
  cases hx:H[s.blk]? with
  | none=>rw [hx] at hlast; simp at hlast
  | some x=>
   cases x with
   | none=>rw [hx] at hlast; simp at hlast
   | some x=>
    rw [hx] at hlast
    simp only at hlast
    have hb:=(List.getElem?_eq_some_iff.1 hlast).1
    simp only
    rw [if_pos (by omega)]
    congr 1
    apply List.ext_getElem?
    intro i
    have cel:∀ o v,H.cell s.blk o=some v→x.cells[o]?=some v:=fun o v hv=>by
     unfold Hp.cell at hv
     rw [hx] at hv
     exact hv
    by_cases hi:i < rs.length * 3
    ·have hq:i / 3 < rs.length:=by omega
     rw [List.getElem?_take,if_pos (by omega),List.getElem?_drop]
     obtain ⟨f0,f1,f2⟩:=flat0 rs (i / 3) hq
     have hm:i % 3=0 ∨ i % 3=1 ∨ i % 3=2:=by omega
     rcases hm with hm | hm | hm
     ·have e:i=i / 3 * 3:=by omega
      rw [show s.off + i=s.off + i / 3 * 3 by omega,show (rs.flatMap R.av)[i]?=(rs.flatMap R.av)[i / 3 * 3]? by rw [← e],f0]
      exact cel _ _ (h.c0 _ hq)
     ·have e:i=i / 3 * 3 + 1:=by omega
      rw [show s.off + i=s.off + i / 3 * 3 + 1 by omega,show (rs.flatMap R.av)[i]?=(rs.flatMap R.av)[i / 3 * 3 + 1]? by rw [← e],f1]
      exact cel _ _ (h.c1 _ hq)
     ·have e:i=i / 3 * 3 + 2:=by omega
      rw [show s.off + i=s.off + i / 3 * 3 + 2 by omega,show (rs.flatMap R.av)[i]?=(rs.flatMap R.av)[i / 3 * 3 + 2]? by rw [← e],f2]
      exact cel _ _ (h.c2 _ hq)
    ·rw [List.getElem?_eq_none (by simp; omega),List.getElem?_eq_none (by rw [flat_length]; omega)]
theorem copy3_ok {H:Hp} {s:Sl} {rs:List R} (h:ReadsR H s rs) (hl:rs.length ≤ 1000) :
  H.appl 3 [] 0 s.len (rs.flatMap R.av)=some (Sl.mk false H.length 0 rs.length,H ++ [some (Blk.mk false (rs.flatMap R.av))])∧Own 3 H (H ++ [some (Blk.mk false (rs.flatMap R.av))]) (Sl.mk false H.length 0 rs.length) (rs.flatMap R.av):=by
 refine ⟨?_,own_new 3 H _ _ (flat_length rs).symm⟩
 rw [h.len]; exact appl3_ok H _ _ (by omega) (flat_length rs)
theorem PuzB.base {H0 H1 H:Hp} {n:Int} {gs s:Sl} {given:List Int} {rs:List R} (h:PuzB H1 H n gs s given rs) (g:H0.length ≤ H1.length):PuzB H0 H n gs s given rs:=
 ⟨h.at',h.g16,h.gv,h.r25,h.c5,fun e=>Nat.le_trans g (h.gb e),fun e=>Nat.le_trans g (h.rb e),fun i hi e=>Nat.le_trans g (h.cb i hi e),h.gn,h.cn⟩
theorem open_puzzle {k:Nat} (hk:2000500 ≤ k) {H:Hp} {s:Sl} {l:List Int} (hs:Reads .u8 H s l) (hb:∀ x ∈ l,0 ≤ x∧x ≤ 255) {x1:Int} (hx1:x1 < 1000000) :
  ∃ H1 n gs ss given rs l' p' H',callF PP orc k spec_l20Open.id [.sl 1 s] H=some (.ptr H.length 0,H1)∧callF PP orc k spec_l20Puzzle.id [.ptr H.length 0,.int .i64 x1] H1=some (.agg [.int .i64 n,.sl 1 gs,.sl 3 ss],H')∧H <+: H'∧RD H.length H' l' p'∧p' ≤ 500∧H.length < H1.length∧H1.length ≤ H'.length∧PuzB H1 H' n gs ss given rs∧(x1 ≤ 0→puzzleV n given (rs.map R.val)=true):=by
 obtain ⟨l',H1,a1,a2,a3,a4⟩:=l20Open_ok (show 1 ≤ k by omega) hs hb
 obtain ⟨n,gs,ss,given,rs,p',H',b1,b2,b3,b4,b5,b6⟩:=l20Puzzle_ok hk hx1 a3 (by omega)
 exact ⟨H1,n,gs,ss,given,rs,l',p',H',a1,b1,b4.but.pf (Nat.le_refl _) a2 b4.le,b2,by omega,by omega,b4.le,b5,b6⟩
theorem PuzB.adv {b:Nat} {H0 B H:Hp} {n:Int} {gs s:Sl} {given:List Int} {rs:List R} (h:PuzB H0 B n gs s given rs) (hb:b < H0.length) (g:Adv b B H):PuzB H0 H n gs s given rs:=by
 have rd:∀ {t:Sl} {l:List Int},(l ≠ []→H0.length ≤ t.blk)→Reads .i64 B t l→Reads .i64 H t l:=fun {t l} h1 h2=>by
  by_cases e:l=[]
  ·subst e; exact reads_nil h2.len
  ·exact g.reads (by have:=h1 e; omega) h2
 refine ⟨⟨rd h.gb h.at'.rg,?_,h.at'.n4,h.at'.gl,h.at'.rl,h.at'.rc⟩,h.g16,h.gv,h.r25,h.c5,h.gb,h.rb,h.cb,h.gn,h.cn⟩
 have hr:=h.at'.rr
 have cel:∀ {o:Nat} {v:AV},rs ≠ []→B.cell s.blk o=some v→H.cell s.blk o=some v:=fun e hv=>g.but.cell (by have:=h.rb e; omega) hv
 refine ⟨hr.len,fun i hi=>cel ?_ (hr.c0 i hi),fun i hi=>cel ?_ (hr.c1 i hi),fun i hi=>cel ?_ (hr.c2 i hi),fun i hi=>rd (h.cb i hi) (hr.cs i hi)⟩
 all_goals
  intro e; subst e; exact absurd hi (Nat.not_lt_zero _)
theorem allValues_ok {k:Nat} (hk:1 ≤ k) {n:Int} (hn:2 ≤ n∧n ≤ 4) (H:Hp):callF PP orc k impl_allValues.id [.int .i64 n] H=some (.int .i64 (topMask n),H):=by
 obtain ⟨k,rfl⟩:=Zs k (by omega)
 rw [impl_allValues.call]
 obtain ⟨p1,p2,p3⟩:=topMask_pw hn
 simp (disch:=omega) only [impl_allValues.f,iN,m_shl (v:=n + 1),p1,wr]
/-! ### impl.valuesHold -/
def KindLen (kind:Int) (m:Nat):Prop:=(kind=1 ∨ kind=2 ∨ kind=3) ∨ ((kind=4 ∨ kind=5)∧2 ≤ m)
theorem implHold_l0 {k:Nat} (hk:2000001 ≤ k) {kind value:Int} {cs vs:Sl} {H:Hp} {vals:List Int} (hs:Reads .i64 H vs vals) (hl:Vals vals) (h2:KindLen kind vals.length) :
  ∀ (j i fuel:Nat) (x5 x6:Int),i + j=vals.length→j < fuel→0 ≤ x5→x5 ≤ 4 * i→0 ≤ x6→x6 ≤ 4 ^ i →
   impl_valuesHold.l0 (callF PP orc k) k fuel vs x5 x6 vs vals.length i kind cs value H=some (.bool (if kind=1 then distFrom vals i j else if kind=2 then decide ((vals.drop i).foldl (· + ·) x5=value) else if kind=3 then decide ((vals.drop i).foldl (· * ·) x6=value)
    else if kind=4 then decide (vals.getD 0 0 < vals.getD 1 0) else decide (mx (vals.getD 0 0 - vals.getD 1 0) (vals.getD 1 0 - vals.getD 0 0)=value)),H):=by
 have hv:=hs.len
 have hl4:=hl.1
 have eqd:∀ a b:Int,(a == b)=decide (a=b):=fun a b=>by rw [Bool.eq_iff_iff]; simp
 unfold KindLen at h2
 intro j
 induction j with
 | zero=>
  intro i fuel x5 x6 hi hf h50 h51 h60 h61
  obtain ⟨fuel,rfl⟩:=Zs fuel (by omega)
  rw [show vals.drop i=[] from List.drop_eq_nil_of_le (by omega)]
  simp (disch:=omega) only [impl_valuesHold.l0,impl_valuesHold.j2,df,Zf,distFrom,List.foldl_nil,eqd]
  by_cases k1:kind=1
  ·subst k1; rfl
  by_cases k2:kind=2
  ·subst k2; rfl
  by_cases k3:kind=3
  ·subst k3; rfl
  have hlen:2 ≤ vals.length:=by omega
  have a0:=hl.at 0
  have a1:=hl.at 1
  by_cases k4:kind=4
  ·simp (disch:=omega) only [k2,k3,k4,if_false,dt,df,Za,Zt,Zf,rdn hs,Zo,wr,Zz,Zi]
   rfl
  ·have k5:kind=5:=by omega
   subst k5
   simp (disch:=omega) only [if_false,dt,df,Za,Zt,Zf,rdn hs,Zo,wr,Zz,Zi]
   rfl
 | succ j ih=>
  intro i fuel x5 x6 hi hf h50 h51 h60 h61
  obtain ⟨fuel,rfl⟩:=Zs fuel (by omega)
  have h3:i < vals.length:=by omega
  obtain ⟨a0,a1⟩:=hl.at i
  have hd:(vals.drop i)=vals.getD i 0 :: vals.drop (i + 1):=by
   rw [List.drop_eq_getElem_cons h3,List.getD_eq_getElem?_getD,List.getElem?_eq_getElem h3]; rfl
  have hp:(4:Int) ^ i ≤ 64:=by
   have:i=0 ∨ i=1 ∨ i=2 ∨ i=3:=by omega
   rcases this with rfl | rfl | rfl | rfl <;> decide
  have hm:x6 * vals.getD i 0 ≤ x6 * 4:=Int.mul_le_mul_of_nonneg_left a1 h60
  have hm0:0 ≤ x6 * vals.getD i 0:=Int.mul_nonneg h60 a0
  have hq:(4:Int) ^ (i + 1)=4 ^ i * 4:=Int.pow_succ _ _
  have h6:=ih (i + 1) fuel (x5 + vals.getD i 0) (x6 * vals.getD i 0) (by omega) (by omega) (by omega) (by omega) (by omega) (by omega)
  push_cast at h6
  rw [hd,List.foldl_cons,List.foldl_cons]
  by_cases k1:kind=1
  ·have hc:=Contains_ok hk (vals.getD i 0) (reads_pre hs i (by omega) vs.nil) (by simp; omega)
   have hsl:Sl.mk vs.nil vs.blk (vs.off + 0 * 1) ((i:Int) - 0).toNat=Sl.mk vs.nil vs.blk vs.off i:=by simp
   subst k1
   simp only [if_true] at h6 ⊢
   rw [distFrom]
   simp (disch:=omega) only [impl_valuesHold.l0,dt,bt,Za,Zt,Zn,Zz,rdn hs,Zo,wr,hsl]
   rw [ip (by simp; omega),hc]
   cases (vals.take i).contains (vals.getD i 0) with
   | true=>simp only [impl_valuesHold.j1,dt,df,bt,bf,nt,nf,Za,Zy,Zx,Zt,Zf,Zn,Zz,Zi,Zo,wr,AV.toB,AV.toI,AV.toS,if_true,Bool.false_and]
   | false=>simp (disch:=omega) only [impl_valuesHold.j1,impl_valuesHold.j3,dt,df,bt,bf,nt,nf,Za,Zy,Zx,Zt,Zf,Zn,Zz,Zi,Zo,wr,AV.toB,AV.toI,AV.toS,if_true,h6,Bool.true_and]
  ·simp only [if_neg k1] at h6 ⊢
   simp (disch:=omega) only [impl_valuesHold.l0,impl_valuesHold.j1,impl_valuesHold.j3,dt,bf,Za,Zt,Zf,Zn,rdn hs,Zo,wr,h6]
theorem valuesHold_ok {k:Nat} (hk:2000002 ≤ k) {kind value:Int} {cs vs:Sl} {H:Hp} {vals:List Int} (hs:Reads .i64 H vs vals) (hl:Vals vals) (h2:KindLen kind vals.length) :
  callF PP orc k impl_valuesHold.id [.agg [.int .i64 kind,.sl 1 cs,.int .i64 value],.sl 1 vs] H=some (.bool (holdsV kind value vals),H):=by
 obtain ⟨k,rfl⟩:=Zs k (by omega)
 rw [impl_valuesHold.call]
 have h4:=hl.1
 have:=implHold_l0 (show 2000001 ≤ k by omega) (kind:=kind) (value:=value) (cs:=cs) hs hl h2 vals.length 0 k 0 1 (by omega) (by omega) (by omega) (by omega) (by omega) (by omega)
 simp only [List.drop_zero] at this
 have e:=hs.len
 show impl_valuesHold.l0 (callF PP orc k) k k vs 0 1 vs (vs.len:Int) 0 kind cs value H=_
 rw [e]
 exact this
/-! ### impl.ruleMasks -/
structure Try (H:Hp) (cb:Nat) (rb vb ob tb:Nat) (kind value:Int) (cs ws vs os:Sl):Prop where
 c:H[cb]?=some (some ⟨false,[.sl 1 ws]⟩)
 r:H[rb]?=some (some ⟨false,[.int .i64 kind,.sl 1 cs,.int .i64 value]⟩)
 v:H[vb]?=some (some ⟨false,[.sl 1 vs]⟩)
 o:H[ob]?=some (some ⟨false,[.sl 1 os]⟩)
 t:H[tb]?=some (some ⟨false,[.fn impl_ruleMasks_1.id [.ptr cb 0,.ptr rb 0,.ptr vb 0,.ptr ob 0,.ptr tb 0]]⟩)
 ne:(cb ≠ vs.blk∧cb ≠ os.blk)∧(rb ≠ vs.blk∧rb ≠ os.blk)∧(vb ≠ vs.blk∧vb ≠ os.blk)∧(ob ≠ vs.blk∧ob ≠ os.blk)∧(tb ≠ vs.blk∧tb ≠ os.blk)
theorem Try.adv {H H':Hp} {cb rb vb ob tb:Nat} {kind value:Int} {cs ws vs os:Sl} (h:Try H cb rb vb ob tb kind value cs ws vs os) (g:Adv2 vs.blk os.blk H H'):Try H' cb rb vb ob tb kind value cs ws vs os:=by
 obtain ⟨n1,n2,n3,n4,n5⟩:=h.ne
 exact ⟨g.but _ _ n1.1 n1.2 h.c,g.but _ _ n2.1 n2.2 h.r,g.but _ _ n3.1 n3.2 h.v,g.but _ _ n4.1 n4.2 h.o,g.but _ _ n5.1 n5.2 h.t,h.ne⟩
theorem box_sl {H:Hp} {b:Nat} {s:Sl} (h:H[b]?=some (some ⟨false,[.sl 1 s]⟩)):ldS 1 H b 0=some s:=by unfold ldS Hp.cell; rw [h]; simp [AV.toS]
theorem adv_adv2 {a c:Nat} {H H':Hp} (h:Adv a H H'):Adv2 a c H H':=⟨fun d x h1 _ hx=>h.but d x h1 hx,h.le⟩
theorem adv_adv2' {a c:Nat} {H H':Hp} (h:Adv c H H'):Adv2 a c H H':=⟨fun d x _ h2 hx=>h.but d x h2 hx,h.le⟩
theorem Adv2.tr {a c:Nat} {H H1 H2:Hp} (h:Adv2 a c H H1) (h':Adv2 a c H1 H2):Adv2 a c H H2:=h.trans h' (.inl rfl)
theorem Try_l0 (rec:Rec) (k:Nat) {B:Hp} {ob:Nat} {vs os:Sl} {vals:List Int} (hv:Vals vals) (hne:vs.blk ≠ os.blk) (hob:ob ≠ os.blk) :
  ∀ (j i fuel:Nat) (H:Hp) (fl:List Int),i + j=vals.length→j < fuel→B <+: H→Reads .i64 H vs vals→H[ob]?=some (some ⟨false,[.sl 1 os]⟩)→Ms fl→vals.length ≤ fl.length→Own 1 B H os (fl.map (.int .i64)) →
   ∃ H',impl_ruleMasks_1.l0 rec k fuel ob 0 vs vals.length i H=some (.tup [],H')∧B <+: H'∧Adv os.blk H H'∧Own 1 B H' os ((orFrom vals fl i j).map (.int .i64)):=by
 have hl:=hv.1
 intro j
 induction j with
 | zero=>
  intro i fuel H fl hi hf hp hs hb hm hfl ho
  obtain ⟨fuel,rfl⟩:=Zs fuel (by omega)
  exact ⟨H,by simp (disch:=omega) only [impl_ruleMasks_1.l0,dt,df,bt,bf,nt,nf,Za,Zy,Zx,Zt,Zf,Zn,Zz,Zi,Zo,wr,AV.toB,AV.toI,AV.toS,if_true],hp,Adv.refl _ _,ho⟩
 | succ j ih=>
  intro i fuel H fl hi hf hp hs hb hm hfl ho
  obtain ⟨fuel,rfl⟩:=Zs fuel (by omega)
  have hfs:os.len=fl.length:=by have:=ho.len; simpa using this
  have hvl:=hs.len
  obtain ⟨v0,v1⟩:=hv.at i
  obtain ⟨H1,a1,a2,a3,a4⟩:=own_set1 ho hp i (by omega) (mOr (fl.getD i 0) (pw (vals.getD i 0)))
  obtain ⟨H',b1,b2,b3,b4⟩:=ih (i + 1) fuel H1 _ (by omega) (by omega) a2 (a4.reads hne hs) (a4.but _ _ hob hb) (hm.set i (M.or (hm.at i) (M.pw v0 v1))) (by simpa using hfl) a3
  push_cast at b1
  refine ⟨H',?_,b2,a4.trans b3,b4⟩
  simp (disch:=omega) only [impl_ruleMasks_1.l0,dt,df,bt,bf,nt,nf,Za,Zy,Zx,Zt,Zf,Zn,Zz,Zi,Zo,wr,AV.toB,AV.toI,AV.toS,if_true,box_sl hb,rdn (own_reads ho),rdn hs,iN,m_shl v0,m_or (hm.at i) (M.pw v0 v1),a1,b1]
theorem okTry:okF PP impl_ruleMasks_1.id=true:=by kernel_rfl
theorem Try_ok {B:Hp} {cb rb vb ob tb:Nat} {kind value:Int} {cs ws vs os:Sl} {own:List Int} (hw:Reads .i64 B ws own) (hol:own.length ≤ 4) (hom:∀ m ∈ own,(0 ≤ m∧m ≤ 30)∧m.tmod 2=0) (hk2:KindLen kind own.length) (hne:vs.blk ≠ os.blk) :
  ∀ (rem k:Nat),2000010 + rem ≤ k→∀ (H:Hp) (vals rest fl:List Int),vals.length + rem=own.length→rest.length=rem→B <+: H→Try H cb rb vb ob tb kind value cs ws vs os→Own 1 B H vs ((vals ++ rest).map (.int .i64))→Vals vals→fl.length=own.length→Ms fl→Own 1 B H os (fl.map (.int .i64)) →
   ∃ H' rest',callF PP orc k impl_ruleMasks_1.id [.int .i64 (vals.length:Int),.ptr cb 0,.ptr rb 0,.ptr vb 0,.ptr ob 0,.ptr tb 0] H=some (.tup [],H')∧rest'.length=rem∧B <+: H'∧Adv2 vs.blk os.blk H H'∧Own 1 B H' vs ((vals ++ rest').map (.int .i64))∧Own 1 B H' os ((ways (holdsV kind value) (own.drop vals.length) vals fl).map (.int .i64)):=by
 intro rem
 induction rem with
 | zero=>
  intro k hk H vals rest fl hl hr hp ht hv hvals hfl hm ho
  obtain ⟨k,rfl⟩:=Zs k (by omega)
  rw [impl_ruleMasks_1.call]
  have er:rest=[]:=List.length_eq_zero_iff.1 hr
  subst er
  rw [List.append_nil] at hv
  have hwl:=hw.len
  have rv:=own_reads hv
  have hvl:=rv.len
  have h1:=valuesHold_ok (show 2000002 ≤ k by omega) (kind:=kind) (value:=value) (cs:=cs) rv hvals (by rw [show vals.length=own.length by omega]; exact hk2)
  have r0:ldI .i64 H rb 0=some kind:=by unfold ldI Hp.cell; rw [ht.r]; simp [AV.toI]
  have r1:ldS 1 H rb (0 + 1)=some cs:=by unfold ldS Hp.cell; rw [ht.r]; simp [AV.toS]
  have r2:ldI .i64 H rb (0 + 1 + 1)=some value:=by unfold ldI Hp.cell; rw [ht.r]; simp [AV.toI]
  rw [show own.drop vals.length=[] from List.drop_eq_nil_of_le (by omega),ways]
  cases hh:holdsV kind value vals with
  | true=>
   rw [hh] at h1
   obtain ⟨H',b1,b2,b3,b4⟩:=Try_l0 (callF PP orc k) k hvals hne ht.ne.2.2.2.1.2 vals.length 0 k H fl (by omega) (by have:=hvals.1; omega) hp rv ht.o hm (by omega) ho
   refine ⟨H',[],?_,rfl,b2,adv_adv2' b3,by rw [List.append_nil]; exact b3.but.own hne hv,b4⟩
   simp only [Int.natCast_zero] at b1
   simp (disch:=omega) only [impl_ruleMasks_1.f,dt,df,bt,bf,nt,nf,Za,Zy,Zx,Zt,Zf,Zn,Zz,Zi,Zo,wr,AV.toB,AV.toI,AV.toS,if_true,box_sl ht.c,box_sl ht.v,r0,r1,r2,h1,hvl,b1]
  | false=>
   rw [hh] at h1
   refine ⟨H,[],?_,rfl,hp,Adv2.refl _ _ _,by rw [List.append_nil]; exact hv,by simpa using ho⟩
   simp (disch:=omega) only [impl_ruleMasks_1.f,dt,df,bt,bf,nt,nf,Za,Zy,Zx,Zt,Zf,Zn,Zz,Zi,Zo,wr,AV.toB,AV.toI,AV.toS,if_true,box_sl ht.c,box_sl ht.v,r0,r1,r2,h1]
 | succ rem ih=>
  intro k hk H vals rest fl hl hr hp ht hv hvals hfl hm ho
  obtain ⟨k,rfl⟩:=Zs k (by omega)
  rw [impl_ruleMasks_1.call]
  have hwl:=hw.len
  have hcv:vals.length < own.length:=by omega
  have hom':=hom _ (mem_getD hcv)
  have hd:own.drop vals.length=own.getD vals.length 0 :: own.drop (vals.length + 1):=by
   rw [List.drop_eq_getElem_cons hcv,List.getD_eq_getElem?_getD,List.getElem?_eq_getElem hcv]; rfl
  rw [hd,ways]
  generalize hmm:own.getD vals.length 0=m at *
  have hM:M m:=⟨hom'.1.1,by have:=hom'.1.2; omega⟩
  have hmv:maskVals m=mvFrom m 1 4:=by unfold maskVals; rw [if_pos hom']
  rw [hmv]
  have loop:∀ (j v fuel:Nat) (Hc:Hp) (rest fl:List Int),v + j=5→1 ≤ v→j < fuel→rest.length=rem + 1→B <+: Hc→Try Hc cb rb vb ob tb kind value cs ws vs os→Own 1 B Hc vs ((vals ++ rest).map (.int .i64))→fl.length=own.length→Ms fl→Own 1 B Hc os (fl.map (.int .i64)) →
    ∃ H' rest',impl_ruleMasks_1.l1 (callF PP orc k) k fuel (vals.length:Int) cb 0 vb 0 tb 0 v Hc=some (.tup [],H')∧rest'.length=rem + 1∧B <+: H'∧Adv2 vs.blk os.blk Hc H'∧Own 1 B H' vs ((vals ++ rest').map (.int .i64))∧Own 1 B H' os (((mvFrom m v j).foldl (fun f v=>ways (holdsV kind value) (own.drop (vals.length + 1)) (vals ++ [v]) f) fl).map (.int .i64)):=by
   intro j
   induction j with
   | zero=>
    intro v fuel Hc rest fl hv5 hv1 hf hr hp ht hv hfl hm ho
    obtain ⟨fuel,rfl⟩:=Zs fuel (by omega)
    refine ⟨Hc,rest,?_,hr,hp,Adv2.refl _ _ _,hv,ho⟩
    simp (disch:=omega) only [impl_ruleMasks_1.l1,dt,df,bt,bf,nt,nf,Za,Zy,Zx,Zt,Zf,Zn,Zz,Zi,Zo,wr,AV.toB,AV.toI,AV.toS,if_true]
   | succ j ihj=>
    intro v fuel Hc rest fl hv5 hv1 hf hr hp ht hv hfl hm ho
    obtain ⟨fuel,rfl⟩:=Zs fuel (by omega)
    have hvl:=(own_reads hv).len
    simp only [List.length_append] at hvl
    have hb:mbit m v=has m v:=by
     have:=m_bit (v:=(v:Int)) hM (by omega) (by omega)
     simpa [mbit] using this
    have hbit:=m_bit' (v:=(v:Int)) hM (by omega) (by omega)
    rw [Int.toNat_natCast] at hbit
    rw [mvFrom,hb]
    cases hh:has m v with
    | true=>
     rw [hh] at hbit
     obtain ⟨x,rest0,rfl⟩:∃ x rest0,rest=x :: rest0:=by
      cases rest with
      | nil=>simp at hr
      | cons x r=>exact ⟨x,r,rfl⟩
     obtain ⟨H1,a1,a2,a3,a4⟩:=own_set1 hv hp vals.length (by simp) (v:Int)
     have e1:(vals ++ x :: rest0).set vals.length (v:Int)=(vals ++ [(v:Int)]) ++ rest0:=by
      rw [List.set_append_right _ _ (Nat.le_refl _),Nat.sub_self,List.set_cons_zero,List.append_assoc]; rfl
     rw [e1] at a3
     have ht1:=ht.adv (adv_adv2 (c:=os.blk) a4)
     have hw1:=ways_ok (holdsV kind value) (own.drop (vals.length + 1)) (vals ++ [(v:Int)]) fl (hvals.app (by omega) ⟨by omega,by omega⟩) (by simp; omega) hm
     obtain ⟨H2,rest',b1,b2,b3,b4,b5,b6⟩:=ih k (by omega) H1 (vals ++ [(v:Int)]) rest0 fl (by simp; omega) (by simpa using hr) a2 ht1 a3 (hvals.app (by omega) ⟨by omega,by omega⟩) hfl hm (a4.but.own (Ne.symm hne) ho)
     rw [List.length_append,List.length_singleton] at b1 b6
     rw [List.append_assoc] at b5
     have adv2:Adv2 vs.blk os.blk Hc H2:=(adv_adv2 (c:=os.blk) a4).tr b4
     obtain ⟨H3,rest'',d1,d2,d3,d4,d5,d6⟩:=ihj (v + 1) fuel H2 ([(v:Int)] ++ rest') _ (by omega) (by omega) (by omega) (by simp; omega) b3 (ht.adv adv2) b5 (by rw [hw1.2]; exact hfl) hw1.1 b6
     have hf0:ldF H1 tb 0=some (impl_ruleMasks_1.id,[.ptr cb 0,.ptr rb 0,.ptr vb 0,.ptr ob 0,.ptr tb 0]):=by unfold ldF Hp.cell; rw [ht1.t]; simp [AV.toF]
     refine ⟨H3,rest'',?_,d2,d3,adv2.tr d4,d5,?_⟩
     ·push_cast at d1 b1
      have rw0:=rdn (pf_reads hp hw) hcv
      rw [hmm] at rw0
      simp (disch:=omega) only [impl_ruleMasks_1.l1,impl_ruleMasks_1.j2,dt,Za,Zt,Zn,Zo,box_sl ht.c,box_sl ht.v,rw0,iN,hbit,hvl,a1,hf0,okTry,wr (n:=(vals.length:Int) + 1),wr (n:=(v:Int) + 1),List.cons_append,List.nil_append,List.all_cons,List.all_nil,AV.glob,AV.cell,b1,d1]
     ·rw [if_pos rfl,List.cons_append,List.nil_append,List.foldl_cons]; exact d6
    | false=>
     rw [hh] at hbit
     obtain ⟨H3,rest'',d1,d2,d3,d4,d5,d6⟩:=ihj (v + 1) fuel Hc rest fl (by omega) (by omega) (by omega) hr hp ht hv hfl hm ho
     refine ⟨H3,rest'',?_,d2,d3,d4,d5,?_⟩
     ·push_cast at d1
      have rw0:=rdn (pf_reads hp hw) hcv
      rw [hmm] at rw0
      simp (disch:=omega) only [impl_ruleMasks_1.l1,impl_ruleMasks_1.j2,dt,Za,Zt,Zf,Zn,Zo,box_sl ht.c,rw0,iN,hbit,wr (n:=(v:Int) + 1),d1]
     ·rw [if_neg (by simp),List.nil_append]; exact d6
  obtain ⟨H',rest',b1,b2,b3,b4,b5,b6⟩:=loop 4 1 k H rest fl (by omega) (by omega) (by omega) hr hp ht hv hfl hm ho
  refine ⟨H',rest',?_,b2,b3,b4,b5,b6⟩
  simp (disch:=omega) only [impl_ruleMasks_1.f,dt,df,bt,bf,nt,nf,Za,Zy,Zx,Zt,Zf,Zn,Zz,Zi,Zo,wr,AV.toB,AV.toI,AV.toS,if_true,box_sl ht.c]
  exact b1
def seenC (seen:List Int):List AV:=(List.range 5).map fun (v:Nat)=>.bool (seen.contains (v:Int))
theorem seen_set (seen:List Int) (v:Nat) (hv:v < 5):(seenC seen).take v ++ [.bool true] ++ (seenC seen).drop (v + 1)=seenC ((v:Int) :: seen):=by
 apply List.ext_getElem?
 intro i
 have h0:(seenC seen).length=5:=by simp [seenC]
 have e:(seenC seen).take v ++ [.bool true] ++ (seenC seen).drop (v + 1)=(seenC seen).set v (.bool true):=by
  rw [List.set_eq_take_append_cons_drop,if_pos (by omega)]; simp
 rw [e]
 by_cases hi:i=v
 ·subst hi
  rw [List.getElem?_set_self (by omega)]
  simp [seenC,hv]
 ·rw [List.getElem?_set_ne (by omega)]
  by_cases h5:i < 5
  ·simp [seenC,h5,hi]
   intro e'; omega
  ·rw [List.getElem?_eq_none (by omega),List.getElem?_eq_none (by simp [seenC]; omega)]
theorem reads_ne {H:Hp} {s:Sl} {l:List Int} {k:IntKind} {b:Nat} {seen:List Int} (hr:Reads k H s l) (hl:l ≠ []) (hb:H[b]?=some (some ⟨false,seenC seen⟩)):s.blk ≠ b:=by
 intro e
 have h0:0 < l.length:=List.length_pos_iff.2 hl
 have:=hr.cell 0 h0
 unfold Hp.cell at this
 rw [e,hb] at this
 simp only at this
 have hm:=List.mem_of_getElem? this
 unfold seenC at hm
 obtain ⟨v,_,hv⟩:=List.mem_map.1 hm
 cases hv
theorem But.reads' {b:Nat} {H H':Hp} (h:But b H H') {k:IntKind} {s:Sl} {l:List Int} {seen:List Int} (hb:H[b]?=some (some ⟨false,seenC seen⟩)) (hr:Reads k H s l):Reads k H' s l:=by
 by_cases hl:l=[]
 ·subst hl; exact reads_nil hr.len
 ·exact h.reads (reads_ne hr hl hb) hr
theorem implSquareFits_l1 (rec:Rec) (k:Nat) (L0:Sl→Int→Int→Int→Hp→An) {H0:Hp} {s t:Sl} {g cells:List Int} {n top line:Int} {b:Nat} (hs:Reads .i64 H0 s g)
  (hc:∀ c ∈ cells,0 ≤ c∧c < (g.length:Int)) (hg:∀ v ∈ g,0 ≤ v∧v ≤ 4) (hl:cells.length ≤ 1000) (hline:IntKind.i64.wrap (line + 1)=line + 1) :
  ∀ (j i fuel:Nat) (H:Hp) (seen:List Int),i + j=cells.length→j < fuel→H0 <+: H→Own 1 H0 H (Sl.mk false b 0 5) (seenC seen)→Reads .i64 H t cells →
   ∃ H',H0 <+: H'∧impl_SquareFits.l1 rec k L0 fuel s n b 0 top line t cells.length i H=bif clashL g (cells.drop i) seen then some (.bool false,H') else L0 s n top (line + 1) H':=by
 intro j
 induction j with
 | zero=>
  intro i fuel H seen hi hf hp ho ht
  obtain ⟨fuel,rfl⟩:=Zs fuel (by omega)
  refine ⟨H,hp,?_⟩
  simp [impl_SquareFits.l1,impl_SquareFits.j3,show ¬ i < cells.length by omega,List.drop_eq_nil_of_le (show cells.length ≤ i by omega),clashL,hline]
 | succ j ih=>
  intro i fuel H seen hi hf hp ho ht
  obtain ⟨fuel,rfl⟩:=Zs fuel (by omega)
  have h1:=ht.len
  have h2:i < cells.length:=by omega
  have h3:=reads_at ht i h2
  have h4:=wrs (i:=i) (by omega)
  obtain ⟨c0,c1⟩:=hc _ (List.getElem_mem h2)
  have h5:=gv_at (pf_reads hp hs) c0 c1
  obtain ⟨v0,v1⟩:=hg _ (gv_mem c0 c1)
  rw [List.drop_eq_getElem_cons h2]
  simp only [clashL]
  obtain ⟨v,hv⟩:=Int.eq_ofNat_of_zero_le v0
  rw [hv] at h5 ⊢
  have hv5:v < 5:=by omega
  have hsl:=hs.len
  obtain ⟨H1,a1,a2,a3,a4,a5⟩:=own_sto ho hp v [.bool true] (by simp [seenC]; omega)
  rw [show v + [AV.bool true].length=v + 1 from rfl,seen_set seen v hv5] at a3
  simp only [Nat.zero_add] at a1
  obtain ⟨H',b1,b2⟩:=ih (i + 1) fuel H1 ((v:Int) :: seen) (by omega) (by omega) a2 a3 (a4.reads' ho.get ht)
  rw [show ((i + 1:Nat):Int)=(i:Int) + 1 by omega] at b2
  have q1:((i:Int) < (t.len:Int)):=by omega
  have q2:((i:Int) < (cells.length:Int)):=by omega
  have q0:(0:Int) ≤ (i:Int):=by omega
  have z0:(0:Int) ≤ (v:Int):=by omega
  have z3:(v:Int) < ((5:Nat):Int):=by omega
  have c1':cells[i] < (s.len:Int):=by omega
  have hld:ldB H b v=some (seen.contains (v:Int)):=by
   have:=own_cell ho v
   simp only [Nat.zero_add] at this
   unfold ldB
   rw [this]
   simp [seenC,hv5,AV.toB]
  by_cases hp':0 < v
  ·have z1:((v:Int) > 0):=by omega
   have z2:(0:Int) < (v:Int):=z1
   cases hse':seen.contains (v:Int) with
   | true=>
    rw [hse'] at hld
    refine ⟨H,hp,?_⟩
    simp only [impl_SquareFits.l1,impl_SquareFits.j2,impl_SquareFits.j4,impl_SquareFits.j5,q0,q1,q2,c0,c1',z0,z1,z2,z3,decide_true,Za,Zt,Zf,Zn,Nat.mul_one,Nat.zero_add,h3,h5,Zo,hld,Bool.true_or]
   | false=>
    rw [hse'] at hld
    refine ⟨H',b1,?_⟩
    simp only [impl_SquareFits.l1,impl_SquareFits.j2,impl_SquareFits.j4,impl_SquareFits.j5,q0,q1,q2,c0,c1',z0,z1,z2,z3,decide_true,Za,Bool.and_false,Zt,Zf,Zn,Nat.mul_one,Nat.zero_add,h3,h5,Zo,hld,Bool.false_or,a1,h4,b2]
  ·have z1:¬ ((v:Int) > 0):=by omega
   have z2:¬ (0:Int) < (v:Int):=z1
   refine ⟨H',b1,?_⟩
   simp only [impl_SquareFits.l1,impl_SquareFits.j2,impl_SquareFits.j4,impl_SquareFits.j5,q0,q1,q2,c0,c1',z0,z1,z2,z3,decide_true,decide_false,Za,Bool.false_and,Zt,Zf,Zn,Nat.mul_one,Nat.zero_add,h3,h5,Zo,Bool.false_or,a1,h4,b2]
theorem implSquareFits_l0 {k:Nat} (hk:2000000 ≤ k) {H0:Hp} {s:Sl} {g:List Int} {n:Int} (hs:Reads .i64 H0 s g) (hg:gridOk g n=true) :
  ∀ (j fuel line:Nat) (H:Hp),(line:Int) + j=2 * n→j < fuel→H0 <+: H →
   ∃ H',impl_SquareFits.l0 (callF PP orc k) k fuel s n (2 * n) line H=some (.bool (!clashFrom g n line j),H')∧H0 <+: H':=by
 obtain ⟨⟨n1,n2⟩,n3,n4⟩:=(gridOk_iff g n).1 hg
 intro j
 induction j with
 | zero=>
  intro fuel line H hl hf hp
  obtain ⟨fuel,rfl⟩:=Zs fuel (by omega)
  refine ⟨H,?_,hp⟩
  have:¬ ((line:Int) < 2 * n):=by omega
  simp only [impl_SquareFits.l0,this,decide_false,Zf,clashFrom,Zx]
 | succ j ih=>
  intro fuel line H hl hf hp
  obtain ⟨fuel,rfl⟩:=Zs fuel (by omega)
  have q1:((line:Int) < 2 * n):=by omega
  have hnew:=own_base (own_new 1 H [.bool false,.bool false,.bool false,.bool false,.bool false] 5 rfl) hp
  obtain ⟨H1,a1,a2,a3,a4,a5⟩:=own_sto hnew (hp.trans (List.prefix_append _ _)) 0 [.bool false,.bool false,.bool false,.bool false,.bool false] (by simp)
  obtain ⟨t,H2,e1,e2,e3⟩:=implLineCells_ok hk n line H1
  have hseen:Own 1 H0 H1 (Sl.mk false H.length 0 5) (seenC []):=a3
  obtain ⟨H3,b1,b2⟩:=implSquareFits_l1 (callF PP orc k) k (impl_SquareFits.l0 (callF PP orc k) k fuel) (line:=line) (n:=n) (top:=2 * n) hs (fun c hc=>by rw [n3]; exact lineCells_mem hc) (fun v hv=>⟨(n4 v hv).1,by have:=(n4 v hv).2; omega⟩)
   (by have:=lineCells_len n line; omega) (wr (by omega) (by omega)) (lineCells n line).length 0 k H2 [] (by omega) (by have:=lineCells_len n line; omega) (a2.trans e2) (own_pf hseen e2) e3
  simp only [List.drop_zero,Int.natCast_zero] at b2
  simp only [Nat.zero_add] at a1
  have hlen:=e3.len
  have a1':(H ++ [some (Blk.mk false [.bool false,.bool false,.bool false,.bool false,.bool false])]).sto H.length 0 [.bool false,.bool false,.bool false,.bool false,.bool false]=some H1:=a1
  cases hc:clashL g (lineCells n line) [] with
  | true=>
   refine ⟨H3,?_,b1⟩
   simp only [hc,Zt] at b2
   simp only [impl_SquareFits.l0,q1,decide_true,Zt,a1',e1,Zo,AV.toS,if_true,clashFrom,hc,Bool.true_or,Zy,hlen]
   exact b2
  | false=>
   obtain ⟨H',c1,c2⟩:=ih fuel (line + 1) H3 (by omega) (by omega) b1
   push_cast at c1
   refine ⟨H',?_,c2⟩
   simp only [hc,Zf] at b2
   simp only [impl_SquareFits.l0,q1,decide_true,Zt,a1',e1,Zo,AV.toS,if_true,clashFrom,hc,Bool.false_or,hlen]
   exact b2.trans c1
theorem implSquareFits_ok {k:Nat} (hk:2000001 ≤ k) {H:Hp} {s:Sl} {g:List Int} (n:Int) (hs:Reads .i64 H s g) (hl:g.length ≤ 1048576) :
  ∃ H',callF PP orc k impl_SquareFits.id [.sl 1 s,.int .i64 n] H=some (.bool (squareFits g n),H')∧H <+: H':=by
 obtain ⟨k,rfl⟩:=Zs k (by omega)
 rw [impl_SquareFits.call]
 have h1:=implGridValid_ok (show 2000000 ≤ k by omega) hs hl n
 cases hg:gridOk g n with
 | true=>
  obtain ⟨⟨n1,n2⟩,n3,n4⟩:=(gridOk_iff g n).1 hg
  have hw:IntKind.i64.wrap (2 * n)=2 * n:=wr (by omega) (by omega)
  obtain ⟨H',a1,a2⟩:=implSquareFits_l0 (show 2000000 ≤ k by omega) hs hg (2 * n).toNat k 0 H (by omega) (by omega) (List.prefix_refl _)
  refine ⟨H',?_,a2⟩
  simp only [impl_SquareFits.f,h1,hg,Zo,AV.toB,Zy,Zf,hw,squareFits,Bool.true_and]
  exact a1
 | false=>exact ⟨H,by simp only [impl_SquareFits.f,h1,hg,Zo,AV.toB,Zx,Zt,squareFits,Bool.false_and],List.prefix_refl _⟩
theorem get_new (L:Hp) (x:Option Blk):(L ++ [x])[L.length]?=some x:=by simp
theorem implruleMasks_ok {k:Nat} (hk:2000030 ≤ k) {kind value:Int} {cs ws:Sl} {H:Hp} {own:List Int} (hw:Reads .i64 H ws own) (hol:own.length ≤ 4) (hom:∀ m ∈ own,(0 ≤ m∧m ≤ 30)∧m.tmod 2=0) (hk2:KindLen kind own.length) :
  ∃ t H',callF PP orc k impl_ruleMasks.id [.agg [.int .i64 kind,.sl 1 cs,.int .i64 value],.sl 1 ws] H=some (.sl 1 t,H')∧H <+: H'∧Own 1 H H' t ((ruleMasksV kind value own).map (.int .i64)):=by
 obtain ⟨k,rfl⟩:=Zs k (by omega)
 rw [impl_ruleMasks.call]
 have hwl:=hw.len
 obtain ⟨Ha,hHa⟩:∃ X,H ++ [some (Blk.mk false [.int .i64 kind,.sl 1 cs,.int .i64 value])]=X:=⟨_,rfl⟩
 obtain ⟨Hb,hHb⟩:∃ X,Ha ++ [some (Blk.mk false [.sl 1 ws])]=X:=⟨_,rfl⟩
 obtain ⟨Hc,hHc⟩:∃ X,Hb ++ [some (Blk.mk false ((List.replicate own.length (0:Int)).map (.int .i64)))]=X:=⟨_,rfl⟩
 obtain ⟨Hd,hHd⟩:∃ X,Hc ++ [some (Blk.mk false [.sl 1 Sl.none])]=X:=⟨_,rfl⟩
 have la:Ha.length=H.length + 1:=by rw [← hHa]; simp
 have lb:Hb.length=H.length + 2:=by rw [← hHb]; simp [la]
 have lc:Hc.length=H.length + 3:=by rw [← hHc]; simp [lb]
 have ld:Hd.length=H.length + 4:=by rw [← hHd]; simp [lc]
 have pa:H <+: Ha:=by rw [← hHa]; exact (List.prefix_append _ _)
 have pb:Ha <+: Hb:=by rw [← hHb]; exact (List.prefix_append _ _)
 have pc:Hb <+: Hc:=by rw [← hHc]; exact (List.prefix_append _ _)
 have pd:Hc <+: Hd:=by rw [← hHd]; exact (List.prefix_append _ _)
 have ga:Ha[H.length]?=some (some (Blk.mk false [.int .i64 kind,.sl 1 cs,.int .i64 value])):=by rw [← hHa]; exact get_new _ _
 have gb:Hb[Ha.length]?=some (some (Blk.mk false [.sl 1 ws])):=by rw [← hHb]; exact get_new _ _
 have gc:Hc[Hb.length]?=some (some (Blk.mk false ((List.replicate own.length (0:Int)).map (.int .i64)))):=by rw [← hHc]; exact get_new _ _
 have gd:Hd[Hc.length]?=some (some (Blk.mk false [.sl 1 Sl.none])):=by rw [← hHd]; exact get_new _ _
 obtain ⟨H2,a1,a2,a3,a4⟩:=sto1' gd (.sl 1 (Sl.mk false Hb.length 0 own.length))
 obtain ⟨He,hHe⟩:∃ X,H2 ++ [some (Blk.mk false ((List.replicate own.length (0:Int)).map (.int .i64)))]=X:=⟨_,rfl⟩
 obtain ⟨Hf,hHf⟩:∃ X,He ++ [some (Blk.mk false [.sl 1 Sl.none])]=X:=⟨_,rfl⟩
 have le:He.length=H.length + 5:=by rw [← hHe]; simp; omega
 have lf:Hf.length=H.length + 6:=by rw [← hHf]; simp [le]
 have pe:H2 <+: He:=by rw [← hHe]; exact (List.prefix_append _ _)
 have pf:He <+: Hf:=by rw [← hHf]; exact (List.prefix_append _ _)
 have ge:He[H2.length]?=some (some (Blk.mk false ((List.replicate own.length (0:Int)).map (.int .i64)))):=by rw [← hHe]; exact get_new _ _
 have gf:Hf[He.length]?=some (some (Blk.mk false [.sl 1 Sl.none])):=by rw [← hHf]; exact get_new _ _
 obtain ⟨H4,b1,b2,b3,b4⟩:=sto1' gf (.sl 1 (Sl.mk false H2.length 0 own.length))
 obtain ⟨Hg,hHg⟩:∃ X,H4 ++ [some (Blk.mk false [.nilf])]=X:=⟨_,rfl⟩
 have lg:Hg.length=H.length + 7:=by rw [← hHg]; simp; omega
 have pg:H4 <+: Hg:=by rw [← hHg]; exact (List.prefix_append _ _)
 have gg:Hg[H4.length]?=some (some (Blk.mk false [.nilf])):=by rw [← hHg]; exact get_new _ _
 obtain ⟨H5,c1,c2,c3,c4⟩:=sto1' gg (.fn impl_ruleMasks_1.id [.ptr Ha.length 0,.ptr H.length 0,.ptr He.length 0,.ptr Hc.length 0,.ptr H4.length 0])
 -- what lies where in the end
 have up:∀ {d:Nat} {x:Blk},d ≠ Hc.length→Hd[d]?=some (some x)→H2[d]?=some (some x):=fun h h'=>a3 _ _ h h'
 have up4:∀ {d:Nat} {x:Blk},d ≠ He.length→H2[d]?=some (some x)→H4[d]?=some (some x):=fun h h'=>b3 _ _ h (pf_get (pe.trans pf) h')
 have up5:∀ {d:Nat} {x:Blk},d ≠ H4.length→H4[d]?=some (some x)→H5[d]?=some (some x):=fun h h'=>c3 _ _ h (pf_get pg h')
 have hr5:=up5 (by omega) (up4 (by omega) (up (by omega) (pf_get (pb.trans (pc.trans pd)) ga)))
 have hb2:=up (by omega) (pf_get (pc.trans pd) gb)
 have hb5:=up5 (by omega) (up4 (by omega) hb2)
 have hc5:=up5 (by omega) (up4 (by omega) (up (by omega) (pf_get pd gc)))
 have ho5:=up5 (by omega) (up4 (by omega) a2)
 have hv5:=up5 (by omega) (b3 _ _ (by omega) (pf_get pf ge))
 have hvb5:=up5 (by omega) b2
 have p5:H <+: H5:=by
  have q2:H <+: H2:=a3.pf (by omega) (pa.trans (pb.trans (pc.trans pd))) (by omega)
  have q4:H <+: H4:=b3.pf (by omega) (q2.trans (pe.trans pf)) (by omega)
  exact c3.pf (by omega) (q4.trans pg) (by omega)
 have ht:Try H5 Ha.length H.length He.length Hc.length H4.length kind value cs ws (Sl.mk false H2.length 0 own.length) (Sl.mk false Hb.length 0 own.length):=
  ⟨hb5,hr5,hvb5,ho5,c2,by simp only; omega⟩
 obtain ⟨H',rest',d1,d2,d3,d4,d5,d6⟩:=Try_ok (B:=H) (value:=value) hw hol hom hk2 (vs:=Sl.mk false H2.length 0 own.length) (os:=Sl.mk false Hb.length 0 own.length) (by simp only; omega) own.length k (by omega) H5 [] (List.replicate own.length 0) (List.replicate own.length 0) (by simp) (by simp) p5 ht
  ⟨rfl,rfl,by simp only; omega,by simpa using hv5,by simp⟩ ⟨by simp,fun v hv=>by cases hv⟩ (by simp) (Ms.zeros _) ⟨rfl,rfl,by simp only; omega,hc5,by simp⟩
 have ht':=ht.adv d4
 refine ⟨Sl.mk false Hb.length 0 own.length,H',?_,d3,by simpa [ruleMasksV] using d6⟩
 have l1:ldS 1 Hb Ha.length 0=some ws:=box_sl gb
 have l2:ldS 1 H2 Ha.length 0=some ws:=box_sl hb2
 have l3:ldF H5 H4.length 0=some (impl_ruleMasks_1.id,[.ptr Ha.length 0,.ptr H.length 0,.ptr He.length 0,.ptr Hc.length 0,.ptr H4.length 0]):=by unfold ldF Hp.cell; rw [c2]; simp [AV.toF]
 have l4:=box_sl ht'.o
 simp only [Zm,Int.natCast_zero] at d1
 simp only [impl_ruleMasks.f,hHa,hHb,l1,Zo]
 rw [ip (by omega)]
 simp only [hwl,Zn,flat0s,hHc,hHd,a1,Zo,l2]
 rw [ip (by omega)]
 simp only [hwl,Zn,flat0s,hHe,hHf,b1,Zo,hHg,c1,l3,okTry,List.cons_append,List.nil_append,List.all_cons,List.all_nil,AV.glob,AV.cell,Za,Zt,d1,l4]
theorem kindLen_of {n kind value:Int} {m:Nat} (h:kindOk n kind value m=true):KindLen kind m:=by
 unfold kindOk at h
 unfold KindLen
 split at h
 ·omega
 ·split at h
  ·omega
  ·split at h
   ·simp only [decide_eq_true_eq] at h; omega
   ·split at h
    ·simp only [decide_eq_true_eq] at h; omega
    ·cases h
theorem ownOf_even {n:Int} {masks cells:List Int} (hm:masksOk n masks=true) (hc:∀ c ∈ cells,0 ≤ c∧c < (masks.length:Int)):∀ m ∈ ownOf masks cells,(0 ≤ m∧m ≤ 30)∧m.tmod 2=0:=fun m h=>by
 obtain ⟨c,hc',rfl⟩:=List.mem_map.1 h
 obtain ⟨c0,c1⟩:=hc c hc'
 have:=(masksOk_iff.1 hm).2.1 _ (gv_mem c0 c1)
 unfold maskOk at this
 simp only [Bool.and_eq_true,decide_eq_true_eq,beq_iff_eq] at this
 have ht:=topMask_le n
 omega
/-! ### impl.canHold -/
theorem canHold_l0 {k:Nat} (hk:2000040 ≤ k) {n kind value:Int} {cs xs:Sl} {H0:Hp} {cells g:List Int} (hc:Reads .i64 H0 cs cells) (hx:Reads .i64 H0 xs g) (hr:ruleOk n kind cells value=true) (hg:gridOk g n=true) :
  ∀ (j i fuel:Nat) (H:Hp) (t:Sl),i + j=cells.length→j < fuel→H0 <+: H→Own 1 H0 H t ((ownOf (openOf n g) (cells.take i)).map (.int .i64)) →
   ∃ H',impl_canHold.l0 (callF PP orc k) k fuel xs n t cs cells.length i kind cs value H=some (.bool (canHoldV n g (kind,cells,value)),H')∧H0 <+: H':=by
 obtain ⟨hn,g2,g3⟩:=(gridOk_iff g n).1 hg
 obtain ⟨c1,c2,c3,c4⟩:=ruleOk_cells hr
 have hcl:=hc.len
 have hxl:=hx.len
 have hop:(openOf n g).length=g.length:=by simp [openOf]
 intro j
 induction j with
 | zero=>
  intro i fuel H t hi hf hp ho
  obtain ⟨fuel,rfl⟩:=Zs fuel (by omega)
  rw [List.take_of_length_le (by omega)] at ho
  have hkl:KindLen kind (ownOf (openOf n g) cells).length:=by
   simp only [ownOf,List.length_map]
   unfold ruleOk at hr; rw [Bool.and_eq_true] at hr; exact kindLen_of hr.2
  obtain ⟨u,H1,a1,a2,a3⟩:=implruleMasks_ok (show 2000030 ≤ k by omega) (kind:=kind) (value:=value) (cs:=cs) (own_reads ho) (by simp [ownOf]; omega) (ownOf_even (openOf_ok hg) fun c h=>by have:=c1 c h; omega) hkl
  refine ⟨H1,?_,hp.trans a2⟩
  have hl:(ruleMasksV kind value (ownOf (openOf n g) cells)).length=cells.length:=by
   unfold ruleMasksV
   rw [(ways_ok _ _ [] _ ⟨by simp,fun v hv=>by cases hv⟩ (by simp [ownOf]; omega) (Ms.zeros _)).2]
   simp [ownOf]
  have hul:=(own_reads a3).len
  have hd:(ruleMasksV kind value (ownOf (openOf n g) cells)).getD 0 0=(ruleMasksV kind value (ownOf (openOf n g) cells)).headD 0:=by
   cases ruleMasksV kind value (ownOf (openOf n g) cells) <;> rfl
  simp (disch:=omega) only [impl_canHold.l0,impl_canHold.j2,dt,df,bt,bf,nt,nf,Za,Zy,Zx,Zt,Zf,Zn,Zz,Zi,Zo,wr,AV.toB,AV.toI,AV.toS,if_true,a1,rdn (own_reads a3),hd]
  rfl
 | succ j ih=>
  intro i fuel H t hi hf hp ho
  obtain ⟨fuel,rfl⟩:=Zs fuel (by omega)
  have hi2:i < cells.length:=by omega
  have hcc:=c1 _ (mem_getD hi2)
  have hlt:(cells.getD i 0).toNat < g.length:=by omega
  obtain ⟨v0,v1⟩:=g3 _ (mem_getD hlt)
  have htl:t.len=i:=by have:=ho.len; simp [ownOf] at this; omega
  have hval:gv (openOf n g) (cells.getD i 0)=if g.getD (cells.getD i 0).toNat 0 > 0 then pw (g.getD (cells.getD i 0).toNat 0) else topMask n:=by
   unfold gv openOf
   rw [List.getD_eq_getElem?_getD,List.getElem?_map,List.getElem?_eq_getElem hlt,List.getD_eq_getElem?_getD (l:=g),List.getElem?_eq_getElem hlt]; rfl
  have htk:ownOf (openOf n g) (cells.take (i + 1))=ownOf (openOf n g) (cells.take i) ++ [gv (openOf n g) (cells.getD i 0)]:=by
   rw [List.take_succ_eq_append_getElem hi2]; unfold ownOf
   rw [List.map_append,List.getD_eq_getElem?_getD,List.getElem?_eq_getElem hi2]; rfl
  obtain ⟨H1,a1,a2,a3,a4,a5⟩:=own_app1 ho hp (gv (openOf n g) (cells.getD i 0)) (by omega)
  rw [← htk] at a3
  obtain ⟨H',b1,b2⟩:=ih (i + 1) fuel H1 _ (by omega) (by omega) a2 a3
  push_cast at b1
  refine ⟨H',?_,b2⟩
  rw [hval] at a1
  by_cases c:g.getD (cells.getD i 0).toNat 0 > 0
  ·rw [ip c] at a1
   simp (disch:=omega) only [impl_canHold.l0,impl_canHold.j1,dt,df,bt,bf,nt,nf,Za,Zy,Zx,Zt,Zf,Zn,Zz,Zi,Zo,wr,AV.toB,AV.toI,AV.toS,if_true,rdn (pf_reads hp hc),rdn (pf_reads hp hx),iN,m_shl v0,a1,b1]
  ·rw [iN c] at a1
   simp (disch:=omega) only [impl_canHold.l0,impl_canHold.j1,dt,df,bt,bf,nt,nf,Za,Zy,Zx,Zt,Zf,Zn,Zz,Zi,Zo,wr,AV.toB,AV.toI,AV.toS,if_true,rdn (pf_reads hp hc),rdn (pf_reads hp hx),allValues_ok (show 1 ≤ k by omega) hn,a1,b1]
theorem canHold_ok {k:Nat} (hk:2000041 ≤ k) {n kind value:Int} {cs xs:Sl} {H:Hp} {cells g:List Int} (hc:Reads .i64 H cs cells) (hx:Reads .i64 H xs g) (hr:ruleOk n kind cells value=true) (hg:gridOk g n=true) :
  ∃ H',callF PP orc k impl_canHold.id [.agg [.int .i64 kind,.sl 1 cs,.int .i64 value],.sl 1 xs,.int .i64 n] H=some (.bool (canHoldV n g (kind,cells,value)),H')∧H <+: H':=by
 obtain ⟨k,rfl⟩:=Zs k (by omega)
 rw [impl_canHold.call]
 have hcl:=hc.len
 have:=(ruleOk_cells hr).2.1
 obtain ⟨H',a1,a2⟩:=canHold_l0 (show 2000040 ≤ k by omega) hc hx hr hg cells.length 0 k (H ++ [some (Blk.mk false [])]) (Sl.mk false H.length 0 0) (by omega) (by omega) (List.prefix_append _ _) (own_new 1 H [] 0 rfl)
 refine ⟨H',?_,a2⟩
 simp only [Int.natCast_zero] at a1
 simp only [impl_canHold.f,hcl,a1]
/-! ### impl.PuzzleFits, impl.PuzzleSolved -/
theorem implFits_l6 {k:Nat} (hk:2000041 ≤ k) {H0:Hp} {n:Int} {gs s xs:Sl} {given g:List Int} {rs:List R} (hz:PuzAt H0 n gs s given rs) (hro:∀ r ∈ rs,R.ok n r=true) (hx:Reads .i64 H0 xs g) (hg:gridOk g n=true) :
  ∀ (j i fuel:Nat) (H:Hp),i + j=rs.length→j < fuel→H0 <+: H→∃ H',impl_PuzzleFits.l6 (callF PP orc k) k fuel xs s rs.length i n gs s H=some (.bool (((rs.drop i).map R.val).all (canHoldV n g)),H')∧H0 <+: H':=by
 have hlen:=hz.rr.len
 have hrl:=hz.rl
 intro j
 induction j with
 | zero=>
  intro i fuel H hi hf hp
  obtain ⟨fuel,rfl⟩:=Zs fuel (by omega)
  refine ⟨H,?_,hp⟩
  rw [List.drop_eq_nil_of_le (by omega),List.map_nil,List.all_nil]
  simp (disch:=omega) only [impl_PuzzleFits.l6,dt,df,bt,bf,nt,nf,Za,Zy,Zx,Zt,Zf,Zn,Zz,Zi,Zo,wr,AV.toB,AV.toI,AV.toS,if_true]
 | succ j ih=>
  intro i fuel H hi hf hp
  obtain ⟨fuel,rfl⟩:=Zs fuel (by omega)
  have hi2:i < rs.length:=by omega
  obtain ⟨l0,l1,l2⟩:=rules_at1 (pf_readsR hp hz.rr) i hi2
  obtain ⟨H1,a1,a2⟩:=canHold_ok hk (pf_reads hp (hz.rr.cs i hi2)) (pf_reads hp hx) (hro _ (List.getElem_mem hi2)) hg
  obtain ⟨H',b1,b2⟩:=ih (i + 1) fuel H1 (by omega) (by omega) (hp.trans a2)
  push_cast at b1
  rw [List.drop_eq_getElem_cons hi2,List.map_cons,List.all_cons]
  have e:canHoldV n g rs[i].val=canHoldV n g (rs[i].kind,rs[i].cells,rs[i].value):=rfl
  rw [e]
  cases c:canHoldV n g (rs[i].kind,rs[i].cells,rs[i].value) with
  | true=>
   rw [c] at a1
   refine ⟨H',?_,b2⟩
   simp (disch:=omega) only [impl_PuzzleFits.l6,dt,df,bt,bf,nt,nf,Za,Zy,Zx,Zt,Zf,Zn,Zz,Zi,Zo,wr,AV.toB,AV.toI,AV.toS,if_true,l0,l1,l2,a1,b1,Bool.true_and]
  | false=>
   rw [c] at a1
   refine ⟨H1,?_,hp.trans a2⟩
   simp (disch:=omega) only [impl_PuzzleFits.l6,dt,df,bt,bf,nt,nf,Za,Zy,Zx,Zt,Zf,Zn,Zz,Zi,Zo,wr,AV.toB,AV.toI,AV.toS,if_true,l0,l1,l2,a1,Bool.false_and]
theorem implFits_l2 {k:Nat} (hk:2000041 ≤ k) {H:Hp} {n:Int} {gs s xs:Sl} {given g:List Int} {rs:List R} (hz:PuzAt H n gs s given rs) (hro:∀ r ∈ rs,R.ok n r=true) (hx:Reads .i64 H xs g) (hg:gridOk g n=true) (hl:given.length=g.length) :
  ∀ (j i fuel:Nat),i + j=g.length→j < fuel→∃ H',impl_PuzzleFits.l2 (callF PP orc k) k fuel xs xs g.length i n gs s H=some (.bool (compatFrom given g i j && (rs.map R.val).all (canHoldV n g)),H')∧H <+: H':=by
 have hgl:=hz.rg.len
 have hxl:=hx.len
 have hrl:=hz.rr.len
 have h16:=gridOk_len hg
 intro j
 induction j with
 | zero=>
  intro i fuel hi hf
  obtain ⟨fuel,rfl⟩:=Zs fuel (by omega)
  obtain ⟨H1,a1,a2⟩:=implFits_l6 hk hz hro hx hg rs.length 0 k H (by omega) (by have:=hz.rl; omega) (List.prefix_refl _)
  simp only [Int.natCast_zero,List.drop_zero] at a1
  refine ⟨H1,?_,a2⟩
  simp (disch:=omega) only [impl_PuzzleFits.l2,impl_PuzzleFits.j4,dt,df,bt,bf,nt,nf,Za,Zy,Zx,Zt,Zf,Zn,Zz,Zi,Zo,wr,AV.toB,AV.toI,AV.toS,if_true,hrl,a1,compatFrom,Bool.true_and]
 | succ j ih=>
  intro i fuel hi hf
  obtain ⟨fuel,rfl⟩:=Zs fuel (by omega)
  obtain ⟨H',b1,b2⟩:=ih (i + 1) fuel (by omega) (by omega)
  push_cast at b1
  rw [compatFrom]
  by_cases c2:g.getD i 0 > 0
  ·by_cases c1:given.getD i 0 > 0
   ·by_cases c3:g.getD i 0=given.getD i 0
    ·refine ⟨H',?_,b2⟩
     simp (disch:=omega) only [impl_PuzzleFits.l2,impl_PuzzleFits.j3,impl_PuzzleFits.j5,dt,df,bt,bf,nt,nf,Za,Zy,Zx,Zt,Zf,Zn,Zz,Zi,Zo,wr,AV.toB,AV.toI,AV.toS,if_true,rdn hz.rg,rdn hx,b1,Bool.and_false,Bool.true_and]
    ·refine ⟨H,?_,(List.prefix_refl _)⟩
     simp (disch:=omega) only [impl_PuzzleFits.l2,impl_PuzzleFits.j3,impl_PuzzleFits.j5,dt,df,bt,bf,nt,nf,Za,Zy,Zx,Zt,Zf,Zn,Zz,Zi,Zo,wr,AV.toB,AV.toI,AV.toS,if_true,rdn hz.rg,rdn hx,Bool.and_true,Bool.false_and]
   ·refine ⟨H',?_,b2⟩
    simp (disch:=omega) only [impl_PuzzleFits.l2,impl_PuzzleFits.j3,impl_PuzzleFits.j5,dt,df,bt,bf,nt,nf,Za,Zy,Zx,Zt,Zf,Zn,Zz,Zi,Zo,wr,AV.toB,AV.toI,AV.toS,if_true,rdn hz.rg,rdn hx,b1,Bool.and_false,Bool.false_and,Bool.true_and]
  ·refine ⟨H',?_,b2⟩
   simp (disch:=omega) only [impl_PuzzleFits.l2,impl_PuzzleFits.j3,impl_PuzzleFits.j5,dt,df,bt,bf,nt,nf,Za,Zy,Zx,Zt,Zf,Zn,Zz,Zi,Zo,wr,AV.toB,AV.toI,AV.toS,if_true,rdn hz.rg,rdn hx,b1,Bool.and_false,Bool.false_and,Bool.true_and]
theorem implPuzzleFits_ok {k:Nat} (hk:2000042 ≤ k) {H:Hp} {n:Int} {gs s xs:Sl} {given g:List Int} {rs:List R} (hz:PuzAt H n gs s given rs) (hx:Reads .i64 H xs g) (hl:g.length ≤ 1000) :
  ∃ H',callF PP orc k impl_PuzzleFits.id [.agg [.int .i64 n,.sl 1 gs,.sl 3 s],.sl 1 xs] H=some (.bool (puzzleFitsV n given (rs.map R.val) g),H')∧H <+: H':=by
 obtain ⟨k,rfl⟩:=Zs k (by omega)
 rw [impl_PuzzleFits.call]
 have h1:=implPuzzleValid_ok (show 2000003 ≤ k by omega) hz.n4 hz.rg hz.gl hz.rr hz.rl hz.rc
 rw [puzzle_map] at h1
 unfold puzzleFitsV
 cases c1:puzzleV n given (rs.map R.val) with
 | false=>
  rw [c1] at h1
  exact ⟨H,by simp only [impl_PuzzleFits.f,impl_PuzzleFits.j0,dt,df,bt,bf,nt,nf,Za,Zy,Zx,Zt,Zf,Zn,Zz,Zi,Zo,wr,AV.toB,AV.toI,AV.toS,if_true,h1,Bool.false_and],(List.prefix_refl _)⟩
 | true=>
  rw [c1] at h1
  obtain ⟨p1,p2,p3⟩:=puzzleV_iff c1
  obtain ⟨H1,a1,a2⟩:=implSquareFits_ok (show 2000001 ≤ k by omega) n hx (by omega)
  unfold squareFits at a1
  cases c2:gridOk g n with
  | false=>
   rw [c2] at a1
   exact ⟨H1,by simp only [impl_PuzzleFits.f,impl_PuzzleFits.j0,dt,df,bt,bf,nt,nf,Za,Zy,Zx,Zt,Zf,Zn,Zz,Zi,Zo,wr,AV.toB,AV.toI,AV.toS,if_true,h1,a1,Bool.false_and,Bool.true_and],a2⟩
  | true=>
   rw [c2,Bool.true_and] at a1
   cases c3:clash g n with
   | true=>
    rw [c3] at a1
    refine ⟨H1,?_,a2⟩
    unfold fitsV
    simp only [impl_PuzzleFits.f,impl_PuzzleFits.j0,dt,df,bt,bf,nt,nf,Za,Zy,Zx,Zt,Zf,Zn,Zz,Zi,Zo,wr,AV.toB,AV.toI,AV.toS,if_true,h1,a1,Bool.true_and,c3,Bool.and_false]
   | false=>
    rw [c3] at a1
    obtain ⟨H2,b1,b2⟩:=implFits_l2 (show 2000041 ≤ k by omega) (hz.pf a2) p3 (pf_reads a2 hx) c2 (grid_len_eq p1 c2) g.length 0 k (by omega) (by omega)
    have hxl:=hx.len
    refine ⟨H2,?_,a2.trans b2⟩
    simp only [Int.natCast_zero] at b1
    unfold fitsV compatB
    simp only [impl_PuzzleFits.f,impl_PuzzleFits.j0,impl_PuzzleFits.j1,dt,df,bt,bf,nt,nf,Za,Zy,Zx,Zt,Zf,Zn,Zz,Zi,Zo,wr,AV.toB,AV.toI,AV.toS,if_true,h1,a1,hxl,b1,Bool.true_and,c3,Bool.and_true]
end Go.Proofs.Ytjikkamhljbipaa.Rp
