/- Texts for the row of the law FnRuleMasks, part 12: the plain machine, the program's functions on it, what they come to. No conditions. -/
import Derived.Test.YtjojhbdghhmeeaaBuFnRuleMasks11
import Derived.Test.YtjojhbdghhmeeaaBuFnRuleMasks4
import Derived.Test.YtjojhbdghhmeeaaBuFnRuleMasks5
import Derived.Test.YtjojhbdghhmeeaaBuFnRuleMasks6
set_option linter.unusedVariables false
set_option linter.unusedSimpArgs false
namespace Go.Proofs.Ytjojhbdghhmeeaa.Rp
open Go Go.RowKit Go.Proofs.Ytjojhbdghhmeeaa.Ab
theorem Rule_l6 (rec:Rec) (k:Nat) (L0:Nat→Nat→Sl→Int→Int→Sl→Int→Int→Int→Sl→Int→Hp→An) {b:Nat} {xs t:Sl} {n x3 many kk c y0 y2:Int} {y1:Sl} {H:Hp} {cells:List Int} (ht:Reads .i64 H t cells) (hl:cells.length ≤ 1000) :
  ∀ (j i fuel:Nat) (d:Bool),i + j=cells.length→j < fuel→spec_l20Rule.l6 rec k L0 fuel b 0 xs n x3 t many kk c d i y0 y1 y2 H=spec_l20Rule.j9 rec k L0 b 0 xs n x3 t many kk c (d && !(cells.drop i).contains c) y0 y1 y2 H:=by
 have hlen:=ht.len
 intro j
 induction j with
 | zero=>
  intro i fuel d hi hf
  obtain ⟨fuel,rfl⟩:=Zs fuel (by omega)
  rw [List.drop_eq_nil_of_le (by omega)]
  simp (disch:=omega) only [spec_l20Rule.l6,dt,df,bt,bf,nt,nf,Za,Zy,Zx,Zt,Zf,Zn,Zz,Zi,Zo,wr,AV.toB,AV.toI,AV.toS,if_true,List.contains_nil,Bool.and_true]
 | succ j ih=>
  intro i fuel d hi hf
  obtain ⟨fuel,rfl⟩:=Zs fuel (by omega)
  have h2:i < cells.length:=by omega
  have hd:cells.drop i=cells.getD i 0 :: cells.drop (i + 1):=by
   rw [List.drop_eq_getElem_cons h2,List.getD_eq_getElem?_getD,List.getElem?_eq_getElem h2]; rfl
  rw [hd,List.contains_cons]
  cases d with
  | true=>
   have h5:=ih (i + 1) fuel (cells.getD i 0 != c) (by omega) (by omega)
   push_cast at h5
   simp (disch:=omega) only [spec_l20Rule.l6,spec_l20Rule.j8,dt,df,Za,Zt,Zf,Zn,Zo,wr,rdn ht,h5]
   congr 1
   simp only [bne,Bool.true_and,Bool.not_or]
   congr 2
   rw [Bool.eq_iff_iff,beq_iff_eq,beq_iff_eq]; exact eq_comm
  | false=>
   have h5:=ih (i + 1) fuel false (by omega) (by omega)
   push_cast at h5
   simp (disch:=omega) only [spec_l20Rule.l6,spec_l20Rule.j8,dt,df,Za,Zt,Zf,Zn,Zo,wr,h5,Bool.false_and]
theorem Rule_l5 {k:Nat} (hk:20 ≤ k) {b:Nat} {l:List Int} {n x3:Int} (hn:2 ≤ n∧n ≤ 4) (hx3:x3 < 1000000) {p p0:Nat} (hp:p + 4 ≤ p0) (hp0:p0 ≤ 1000000000) {H0 H:Hp} (hadv:Adv b H0 H) (hb:b < H0.length) (hrd:RD b H l p) {y0 y2:Int} {y1 xs cs:Sl} {g cells:List Int} (hx:Reads .i64 H xs g) (hxb:xs.blk ≠ b) (hg:fullG g n) (hc:Reads .i64 H cs cells) (hcb:H0.length ≤ cs.blk) (hcl:cs.blk < H.length) (hcn:cs.nil=false) (h1:1 ≤ cells.length) (h4:cells.length ≤ 4) (hin:CellsIn n cells) :
  ∀ (j i fuel:Nat) (s q:Int),i + j=cells.length→j < fuel→(i:Int) ≤ s→s ≤ n * i→1 ≤ q→q ≤ n ^ i →
   RuleDraw b l n x3 p0 H0 (spec_l20Rule.l5 (callF PP orc k) k fuel b 0 xs n x3 cs s q i y0 y1 y2 H):=by
 have hlen:=hc.len
 have hxl:=hx.len
 have h7:=n7 (n:=n) (by omega)
 have hgl:(g.length:Int)=n * n:=by have:=hg.1; omega
 intro j
 induction j with
 | zero=>
  intro i fuel s q hi hf s1 s2 q1 q2
  obtain ⟨fuel,rfl⟩:=Zs fuel (by omega)
  have hi4:i=1 ∨ i=2 ∨ i=3 ∨ i=4:=by omega
  have e4:n ^ 4=n * n * n * n:=by simp [Int.pow_succ]
  have hb2:s ≤ n * n * n * n∧q ≤ n * n * n * n:=by
   have:n=2 ∨ n=3 ∨ n=4:=by omega
   rcases this with rfl | rfl | rfl <;> rcases hi4 with rfl | rfl | rfl | rfl <;> simp at s2 q2 <;> omega
  have:=Rule_j7 hk hn hx3 hp hp0 hadv hb hrd (y0:=y0) (y1:=y1) (y2:=y2) hx hxb hg hc hcb hcl hcn h1 h4 hin (by omega) hb2.1 q1 hb2.2
  simp (disch:=omega) only [spec_l20Rule.l5,dt,df,bt,bf,nt,nf,Za,Zy,Zx,Zt,Zf,Zn,Zz,Zi,Zo,wr,AV.toB,AV.toI,AV.toS,if_true]
  exact this
 | succ j ih=>
  intro i fuel s q hi hf s1 s2 q1 q2
  obtain ⟨fuel,rfl⟩:=Zs fuel (by omega)
  have h2:i < cells.length:=by omega
  have a:=hin.1 _ (mem_getD h2)
  have hlt:(cells.getD i 0).toNat < g.length:=by omega
  have v:=hg.2 _ (mem_getD hlt)
  have hm:mx 1 (g.getD (cells.getD i 0).toNat 0)=g.getD (cells.getD i 0).toNat 0:=by unfold mx; split <;> omega
  generalize hv:g.getD (cells.getD i 0).toNat 0=w at *
  have hni:n * (i:Int) ≤ 16:=by
   have:n=2 ∨ n=3 ∨ n=4:=by omega
   rcases this with rfl | rfl | rfl <;> omega
  have hns:n * ((i + 1:Nat):Int)=n * i + n:=by push_cast; rw [Int.mul_add,Int.mul_one]
  have hqw:q * w ≤ n ^ i * n:=Int.mul_le_mul q2 v.2 (by omega) (by omega)
  have hps:n ^ (i + 1)=n ^ i * n:=Int.pow_succ _ _
  have hq1:1 ≤ q * w:=by have:=Int.mul_le_mul q1 v.1 (by omega) (by omega); simpa using this
  have hpi:n ^ i * n ≤ 256:=by
   have hi3:i=0 ∨ i=1 ∨ i=2 ∨ i=3:=by omega
   have:n=2 ∨ n=3 ∨ n=4:=by omega
   rcases this with rfl | rfl | rfl <;> rcases hi3 with rfl | rfl | rfl | rfl <;> decide
  have h5:=ih (i + 1) fuel (s + w) (q * w) (by omega) (by omega) (by omega) (by omega) hq1 (by omega)
  push_cast at h5
  simp (disch:=omega) only [spec_l20Rule.l5,dt,df,bt,bf,nt,nf,Za,Zy,Zx,Zt,Zf,Zn,Zz,Zi,Zo,wr,AV.toB,AV.toI,AV.toS,if_true,rdn hc,rdn hx,hv,hm]
  exact h5
theorem step4 {n w:Int} (hn:2 ≤ n∧n ≤ 4) (h0:0 ≤ w) (h1:w < 4):∃ y,(([.int .i64 1,.int .i64 (-1),.int .i64 n,.int .i64 (0 - n)]:List AV)[w.toNat * 1]?)=some (.int .i64 y)∧-4 ≤ y∧y ≤ 4:=by
 have:w=0 ∨ w=1 ∨ w=2 ∨ w=3:=by omega
 rcases this with rfl | rfl | rfl | rfl
 ·exact ⟨1,rfl,by omega,by omega⟩
 ·exact ⟨-1,rfl,by omega,by omega⟩
 ·exact ⟨n,rfl,by omega,by omega⟩
 ·exact ⟨0 - n,rfl,by omega,by omega⟩
theorem Rule_l0 {k:Nat} (hk:100 ≤ k) {b:Nat} {l:List Int} {n x3:Int} (hn:2 ≤ n∧n ≤ 4) (hx3:x3 < 1000000) {p0:Nat} (hp0:p0 ≤ 1000000000) {H0:Hp} (hb:b < H0.length) {y0 y2 many:Int} {y1 xs:Sl} {g:List Int} (hx:Reads .i64 H0 xs g) (hxb:xs.blk ≠ b) (hg:fullG g n) (hm:2 ≤ many∧many ≤ 4) :
  ∀ (j kk fuel:Nat) (H:Hp) (t:Sl) (cells:List Int) (p:Nat),(kk:Int) + j=many * 4→j < fuel→Adv b H0 H→RD b H l p→p + 2 * j + 6 ≤ p0→Own 1 H0 H t (cells.map (.int .i64))→1 ≤ cells.length→(cells.length:Int) ≤ many→CellsIn n cells →
   RuleDraw b l n x3 p0 H0 (spec_l20Rule.l0 (callF PP orc k) k fuel b 0 xs n x3 t many kk y0 y1 y2 H):=by
 have h7:=n7 (n:=n) (by omega)
 have hgl:(g.length:Int)=n * n:=by have:=hg.1; omega
 intro j
 induction j with
 | zero=>
  intro kk fuel H t cells p hkk hf hadv hrd hp ho h1 hl hin
  obtain ⟨fuel,rfl⟩:=Zs fuel (by omega)
  have:=Rule_l5 (show 20 ≤ k by omega) hn hx3 (p:=p) (p0:=p0) (by omega) hp0 hadv hb hrd (y0:=y0) (y1:=y1) (y2:=y2) (hadv.reads hxb hx) hxb hg (own_reads ho) ho.blk (own_lt' ho) ho.nn h1 (by omega) hin cells.length 0 k 0 1 (by omega) (by omega) (by omega) (by omega) (by omega) (by simp)
  simp (disch:=omega) only [spec_l20Rule.l0,spec_l20Rule.j1,spec_l20Rule.j3,dt,df,bt,bf,nt,nf,Za,Zy,Zx,Zt,Zf,Zn,Zz,Zi,Zo,wr,AV.toB,AV.toI,AV.toS,if_true]
  exact this
 | succ j ih=>
  intro kk fuel H t cells p hkk hf hadv hrd hp ho h1 hl hin
  obtain ⟨fuel,rfl⟩:=Zs fuel (by omega)
  have htl:=(own_reads ho).len
  by_cases cm:(cells.length:Int) < many
  ·obtain ⟨v,H1,a1,a2,a3,a4,a5⟩:=pick_adv (show 1 ≤ k by omega) hrd (by omega) (t.len:Int)
   have hv:=a5 (by omega)
   have htb:t.blk ≠ b:=by have:=ho.blk; omega
   have r1:=a3.reads htb (own_reads ho)
   obtain ⟨w,H2,b1,b2,b3,b4,b5⟩:=pick_adv (show 1 ≤ k by omega) a2 (by omega) 4
   have hw:=b5 (by omega)
   have r2:=b3.reads htb r1
   have hst:=stable_ok r1 r2 (show v.toNat < cells.length by omega)
   obtain ⟨y,d1,d2,d3⟩:=step4 hn b4 hw
   have hcv:=hin.1 _ (mem_getD (show v.toNat < cells.length by omega))
   have adv2:=hadv.trans (a3.trans b3)
   have ho2:=(a3.trans b3).own hb ho
   generalize hc:cells.getD v.toNat 0 + y=c
   have hcont:∀ d:Bool,(d=true→0 ≤ c∧c < n * n)→RuleDraw b l n x3 p0 H0 (spec_l20Rule.j9 (callF PP orc k) k (spec_l20Rule.l0 (callF PP orc k) k fuel) b 0 xs n x3 t many kk c (d && !(cells.drop 0).contains c) y0 y1 y2 H2):=by
    intro d hd
    cases hf':(d && !(cells.drop 0).contains c) with
    | false=>
     have:=ih (kk + 1) fuel H2 t cells _ (by omega) (by omega) adv2 b2 (by omega) ho2 h1 hl hin
     push_cast at this
     simp (disch:=omega) only [spec_l20Rule.j9,spec_l20Rule.j11,dt,df,bt,bf,nt,nf,Za,Zy,Zx,Zt,Zf,Zn,Zz,Zi,Zo,wr,AV.toB,AV.toI,AV.toS,if_true]
     exact this
    | true=>
     rw [Bool.and_eq_true,List.drop_zero,Bool.not_eq_true',← Bool.not_eq_true,List.contains_iff_mem] at hf'
     have hd':=hd hf'.1
     have hB:(H0.take b) <+: H0:=List.take_prefix _ _
     obtain ⟨H3,e1,e2,e3,e4,e5⟩:=own_app1 (H0:=[]) ⟨ho2.nn,ho2.off,Nat.zero_le _,ho2.get,ho2.len⟩ (List.nil_prefix) c (by omega)
     have o3:Own 1 H0 H3 (Sl.mk false H2.length 0 (t.len + 1)) ((cells ++ [c]).map (.int .i64)):=⟨e3.nn,e3.off,by have:=adv2.le; simp only; omega,e3.get,e3.len⟩
     have adv3:Adv b H0 H3:=by
      refine ⟨fun d x hdb hdx=>e4 d x ?_ (adv2.but d x hdb hdx),by have:=adv2.le; omega⟩
      have:=(List.getElem?_eq_some_iff.1 hdx).1
      have:=ho.blk
      omega
     have rd3:RD b H3 l (p + 1 + 1):=by
      refine b2.but e4 (by have:=ho.blk; omega) fun s hs hl=>?_
      intro es
      obtain ⟨s',q1,q2,q3⟩:=b2.ex
      rw [q1] at hs
      simp only [Option.some.injEq,Blk.mk.injEq,List.cons.injEq,AV.sl.injEq,true_and,and_true] at hs
      subst hs
      have hc0:=q2.cell 0 (List.length_pos_iff.2 hl)
      unfold Hp.cell at hc0
      rw [es,ho2.get] at hc0
      simp only [ho2.off] at hc0
      have hmem:=List.mem_of_getElem? hc0
      obtain ⟨z,_,hz⟩:=List.mem_map.1 hmem
      cases hz
     have:=ih (kk + 1) fuel H3 _ (cells ++ [c]) _ (by omega) (by omega) adv3 rd3 (by omega) o3 (by simp) (by simp; omega) ⟨fun x hx=>by
      rcases List.mem_append.1 hx with hx | hx
      ·exact hin.1 x hx
      ·simp at hx; rw [hx]; exact hd',by
      rw [List.nodup_append]
      refine ⟨hin.2,by simp,fun x hx y hy=>?_⟩
      simp at hy; subst hy
      intro e; subst e; exact hf'.2 hx⟩
     push_cast at this
     simp (disch:=omega) only [spec_l20Rule.j9,spec_l20Rule.j11,dt,df,bt,bf,nt,nf,Za,Zy,Zx,Zt,Zf,Zn,Zz,Zi,Zo,wr,AV.toB,AV.toI,AV.toS,if_true,e1]
     exact this
   have hl6:=fun d=>Rule_l6 (callF PP orc k) k (spec_l20Rule.l0 (callF PP orc k) k fuel) (b:=b) (xs:=xs) (n:=n) (x3:=x3) (many:=many) (kk:=kk) (c:=c) (y0:=y0) (y1:=y1) (y2:=y2) r2 (by omega) cells.length 0 k d (by omega) (by omega)
   simp only [Int.natCast_zero] at hl6
   by_cases c0:c ≥ 0
   ·have h9:=hcont (decide (c < n * n)) (fun h=>⟨c0,by simpa using h⟩)
    rw [← hl6] at h9
    simp (disch:=omega) only [spec_l20Rule.l0,spec_l20Rule.j1,spec_l20Rule.j2,spec_l20Rule.j4,dt,df,Za,Zt,Zf,Zo,wr (n:=many * 4),wr (n:=0 - n),wr (n:=c),wr (n:=n * n),a1,b1,AV.toI,if_true,rdn r1,hst,d1,AV.cell,hc]
    exact h9
   ·have h9:=hcont false (fun h=>by cases h)
    rw [← hl6] at h9
    simp (disch:=omega) only [spec_l20Rule.l0,spec_l20Rule.j1,spec_l20Rule.j2,spec_l20Rule.j4,dt,df,Za,Zt,Zf,Zo,wr (n:=many * 4),wr (n:=0 - n),wr (n:=c),wr (n:=n * n),a1,b1,AV.toI,if_true,rdn r1,hst,d1,AV.cell,hc]
    exact h9
  ·have:=Rule_l5 (show 20 ≤ k by omega) hn hx3 (p:=p) (p0:=p0) (by omega) hp0 hadv hb hrd (y0:=y0) (y1:=y1) (y2:=y2) (hadv.reads hxb hx) hxb hg (own_reads ho) ho.blk (own_lt' ho) ho.nn h1 (by omega) hin cells.length 0 k 0 1 (by omega) (by omega) (by omega) (by omega) (by omega) (by simp)
   simp (disch:=omega) only [spec_l20Rule.l0,spec_l20Rule.j1,spec_l20Rule.j3,dt,df,bt,bf,nt,nf,Za,Zy,Zx,Zt,Zf,Zn,Zz,Zi,Zo,wr,AV.toB,AV.toI,AV.toS,if_true]
   exact this
theorem l20Rule_ok {k:Nat} (hk:200 ≤ k) {b:Nat} {l:List Int} {n x3:Int} (hn:2 ≤ n∧n ≤ 4) (hx3:x3 < 1000000) {p:Nat} {H:Hp} (hrd:RD b H l p) (hp:p ≤ 999990000) {xs:Sl} {g:List Int} (hx:Reads .i64 H xs g) (hxb:xs.blk ≠ b) (hg:fullG g n) :
  RuleDraw b l n x3 (p + 50) H (callF PP orc k spec_l20Rule.id [.ptr b 0,.sl 1 xs,.int .i64 n,.int .i64 x3] H):=by
 obtain ⟨k,rfl⟩:=Zs k (by omega)
 rw [spec_l20Rule.call]
 have h7:=n7 (n:=n) (by omega)
 have hnn:1 ≤ n * n:=by
  have:n=2 ∨ n=3 ∨ n=4:=by omega
  rcases this with rfl | rfl | rfl <;> decide
 obtain ⟨v,H1,a1,a2,a3,a4,a5⟩:=pick_adv (show 1 ≤ k by omega) hrd (by omega) (n * n)
 have hv:=a5 hnn
 have q1:H1 <+: H1 ++ [some (Blk.mk false (([v]:List Int).map (.int .i64)))]:=List.prefix_append _ _
 have hnew:=own_new 1 H1 (([v]:List Int).map (.int .i64)) 1 rfl
 obtain ⟨w,H2,b1,b2,b3,b4,b5⟩:=pick_adv (show 1 ≤ k by omega) (a2.pf q1) (by omega) 3
 have hw:=b5 (by omega)
 have adv2:Adv b H H2:=(a3.trans (pf_adv q1)).trans b3
 have hb1:b < H1.length:=a2.lt
 have o2:Own 1 H H2 (Sl.mk false H1.length 0 1) (([v]:List Int).map (.int .i64)):=by
  have:=b3.own (B:=H1) hb1 hnew
  exact ⟨this.nn,this.off,by have:=a3.le; simp only; omega,this.get,this.len⟩
 have:=Rule_l0 (show 100 ≤ k by omega) hn hx3 (p0:=p + 50) (by omega) hrd.lt (l:=l) (y0:=0) (y1:=Sl.none) (y2:=0) (many:=2 + w) hx hxb hg ⟨by omega,by omega⟩ ((2 + w) * 4).toNat 0 k H2 _ [v] _ (by omega) (by omega) adv2 b2 (by omega) o2 (by simp) (by simp; omega) ⟨by simp; omega,by simp⟩
 simp only [List.map_cons,List.map_nil] at b1
 simp (disch:=omega) only [spec_l20Rule.f,dt,df,bt,bf,nt,nf,Za,Zy,Zx,Zt,Zf,Zn,Zz,Zi,Zo,wr,AV.toB,AV.toI,AV.toS,if_true,a1,b1]
 exact this
def regsOk (l:List Int) (n:Int):Bool:=decide (2 ≤ n∧n ≤ 4) && decide ((l.length:Int)=n * n) && l.all fun v=>decide (0 ≤ v) && decide (v < n)
theorem regsOk_iff (l:List Int) (n:Int):regsOk l n=true ↔ (2 ≤ n∧n ≤ 4)∧(l.length:Int)=n * n∧∀ v ∈ l,0 ≤ v∧v < n:=by
 simp [regsOk,and_assoc]
theorem specRegionsValid_l0 {k:Nat} (hk:1 ≤ k) {H:Hp} {s:Sl} {l:List Int} {m:Int} (hr:Reads .i64 H s l) (hl:l.length ≤ 1048576) :
  ∀ (j i n:Nat),i + j=l.length→j < n→spec_RegionsValid.l0 (callF PP orc k) k n s m i H=some (.bool (decide (2 ≤ m∧m ≤ 4) && decide ((l.length:Int)=m * m) && (l.drop i).all fun v=>decide (0 ≤ v) && decide (v < m)),H):=by
 intro j
 induction j with
 | zero=>
  intro i n hi hn
  obtain ⟨n,rfl⟩:=Zs n (by omega)
  have h1:=hr.len
  by_cases c:2 ≤ m∧m ≤ 4
  ·have h2:IntKind.i64.wrap (m * m)=m * m:=by
    have:m=2 ∨ m=3 ∨ m=4:=by omega
    rcases this with rfl | rfl | rfl <;> exact wr (by decide) (by decide)
   simp only [spec_RegionsValid.l0,h1,show ¬ ((i:Int) < (l.length:Int)) by omega,decide_false,Zf,spec_RegionsValid.j1,l1In_ok hk,Zo,AV.toB,c,and_self,decide_true,Zt,h2,List.drop_eq_nil_of_le (show l.length ≤ i by omega),List.all_nil,Bool.and_true,Bool.true_and]
   by_cases c2:(l.length:Int)=m * m <;> simp [c2]
  ·simp [spec_RegionsValid.l0,h1,show ¬ i < l.length by omega,spec_RegionsValid.j1,l1In_ok hk,AV.toB,c]
 | succ j ih=>
  intro i n hi hn
  obtain ⟨n,rfl⟩:=Zs n (by omega)
  have h1:=hr.len
  have h2:i < l.length:=by omega
  have h3:=reads_at hr i h2
  have h4:=wrs (i:=i) (by omega)
  have h5:=ih (i + 1) n (by omega) (by omega)
  push_cast at h5
  rw [all_drop l i h2]
  by_cases c:2 ≤ m∧m ≤ 4
  ·have hw:IntKind.i64.wrap (m - 1)=m - 1:=wr (by omega) (by omega)
   by_cases c1:0 ≤ l[i]∧l[i] ≤ m - 1
   ·have e1:(decide (0 ≤ l[i]) && decide (l[i] < m))=true:=by simp; omega
    rw [e1,Bool.true_and]
    simp only [spec_RegionsValid.l0,h1,show ((i:Int) < (l.length:Int)) by omega,show (0:Int) ≤ (i:Int) by omega,decide_true,Za,Zt,Zn,Nat.mul_one,h3,Zo,hw,l1In_ok hk,AV.toB,c1,and_self,Zy,Zf,h4,h5]
   ·have e1:(decide (0 ≤ l[i]) && decide (l[i] < m))=false:=by
     cases d:(decide (0 ≤ l[i]) && decide (l[i] < m)) with
     | false=>rfl
     | true=>simp at d; omega
    rw [e1,Bool.false_and,Bool.and_false]
    simp only [spec_RegionsValid.l0,h1,show ((i:Int) < (l.length:Int)) by omega,show (0:Int) ≤ (i:Int) by omega,decide_true,Za,Zt,Zn,Nat.mul_one,h3,Zo,hw,l1In_ok hk,AV.toB,c1,decide_false,Zx]
  ·simp only [c,decide_false,Bool.false_and] at h5 ⊢
   by_cases c1:0 ≤ l[i]∧l[i] ≤ IntKind.i64.wrap (m - 1)
   ·simp only [spec_RegionsValid.l0,h1,show ((i:Int) < (l.length:Int)) by omega,show (0:Int) ≤ (i:Int) by omega,decide_true,Za,Zt,Zn,Nat.mul_one,h3,Zo,l1In_ok hk,AV.toB,c1,and_self,Zy,Zf,h4,h5]
   ·simp only [spec_RegionsValid.l0,h1,show ((i:Int) < (l.length:Int)) by omega,show (0:Int) ≤ (i:Int) by omega,decide_true,Za,Zt,Zn,Nat.mul_one,h3,Zo,l1In_ok hk,AV.toB,c1,decide_false,Zx]
theorem specRegionsValid_ok {k:Nat} (hk:2000000 ≤ k) {H:Hp} {s:Sl} {l:List Int} (hr:Reads .i64 H s l) (hl:l.length ≤ 1048576) (m:Int) :
  callF PP orc k spec_RegionsValid.id [.sl 1 s,.int .i64 m] H=some (.bool (regsOk l m),H):=by
 obtain ⟨k,rfl⟩:=Zs k (by omega)
 rw [spec_RegionsValid.call]
 have:=specRegionsValid_l0 (k:=k) (by omega) (m:=m) hr hl l.length 0 k (by omega) (by omega)
 simpa [spec_RegionsValid.f,regsOk] using this
def idxFrom (r:Int):List Int→Nat→List Int
 | [],_=>[]
 | v :: vs,i=>if v=r then (i:Int) :: idxFrom r vs (i + 1) else idxFrom r vs (i + 1)
def regCells (l:List Int) (r:Int):List Int:=idxFrom r l 0
theorem idx_drop (r:Int) (l:List Int) (i:Nat) (h:i < l.length):idxFrom r (l.drop i) i=if l[i]=r then (i:Int) :: idxFrom r (l.drop (i + 1)) (i + 1) else idxFrom r (l.drop (i + 1)) (i + 1):=by
 rw [List.drop_eq_getElem_cons h]; rfl
theorem specRegionCells_l0 {k:Nat} (hk:2000000 ≤ k) {H0:Hp} {s:Sl} {l:List Int} {n r:Int} (hs:Reads .i64 H0 s l) (hl:l.length ≤ 1000) (hv:regsOk l n=true) :
  ∀ (j i fuel:Nat) (H:Hp) (t:Sl) (a:List Int),i + j=l.length→j < fuel→H0 <+: H→a.length ≤ i→Own 1 H0 H t (a.map (.int .i64)) →
   ∃ t' H',spec_RegionCells.l0 (callF PP orc k) k fuel s n r t i H=some (.sl 1 t',H')∧H0 <+: H'∧Own 1 H0 H' t' ((a ++ idxFrom r (l.drop i) i).map (.int .i64)):=by
 intro j
 induction j with
 | zero=>
  intro i fuel H t a hi hf hp ha ho
  obtain ⟨fuel,rfl⟩:=Zs fuel (by omega)
  refine ⟨t,H,?_,hp,by rw [List.drop_eq_nil_of_le (by omega)]; simpa [idxFrom] using ho⟩
  simp [spec_RegionCells.l0,spec_RegionCells.j1,spec_RegionCells.j3,hs.len,show ¬ i < l.length by omega]
 | succ j ih=>
  intro i fuel H t a hi hf hp ha ho
  obtain ⟨fuel,rfl⟩:=Zs fuel (by omega)
  have h1:=hs.len
  have h2:i < l.length:=by omega
  have h3:=reads_at (pf_reads hp hs) i h2
  have h4:=wrs (i:=i) (by omega)
  have hlen:t.len=a.length:=by have:=ho.len; simpa using this
  have q0:(0:Int) ≤ (i:Int):=by omega
  have q1:(i:Int) < (l.length:Int):=by omega
  have hval:=specRegionsValid_ok hk (pf_reads hp hs) (by omega) n
  rw [idx_drop r l i h2]
  by_cases c:l[i]=r
  ·obtain ⟨H1,a1,a2,a3,_⟩:=own_app1 ho hp (i:Int) (by omega)
   obtain ⟨t',H',b1,b2,b3⟩:=ih (i + 1) fuel H1 _ (a ++ [(i:Int)]) (by omega) (by omega) a2 (by simp; omega) a3
   push_cast at b1
   have c':(l[i] == r)=true:=by simpa using c
   refine ⟨t',H',?_,b2,by rw [if_pos c]; simpa using b3⟩
   simp only [spec_RegionCells.l0,spec_RegionCells.j1,spec_RegionCells.j2,spec_RegionCells.j4,hval,hv,AV.toB,h1,q0,q1,decide_true,Za,Zt,Zn,Nat.mul_one,h3,Zo,c',a1,h4,b1]
  ·obtain ⟨t',H',b1,b2,b3⟩:=ih (i + 1) fuel H t a (by omega) (by omega) hp (by omega) ho
   push_cast at b1
   have c':(l[i] == r)=false:=by simpa using c
   refine ⟨t',H',?_,b2,by rw [if_neg c]; exact b3⟩
   simp only [spec_RegionCells.l0,spec_RegionCells.j1,spec_RegionCells.j2,spec_RegionCells.j4,hval,hv,AV.toB,h1,q0,q1,decide_true,Za,Zt,Zf,Zn,Nat.mul_one,h3,Zo,c',h4,b1]
theorem specRegionCells_ok {k:Nat} (hk:2000001 ≤ k) {H:Hp} {s:Sl} {l:List Int} {n r:Int} (hs:Reads .i64 H s l) (hv:regsOk l n=true) :
  ∃ t H',callF PP orc k spec_RegionCells.id [.sl 1 s,.int .i64 n,.int .i64 r] H=some (.sl 1 t,H')∧H <+: H'∧Own 1 H H' t ((regCells l r).map (.int .i64)):=by
 obtain ⟨k,rfl⟩:=Zs k (by omega)
 rw [spec_RegionCells.call]
 obtain ⟨⟨n1,n2⟩,n3,n4⟩:=(regsOk_iff l n).1 hv
 have hl:l.length ≤ 16:=by
  have:n=2 ∨ n=3 ∨ n=4:=by omega
  rcases this with rfl | rfl | rfl <;> omega
 obtain ⟨t,H',a1,a2,a3⟩:=specRegionCells_l0 (show 2000000 ≤ k by omega) (r:=r) hs (by omega) hv l.length 0 k (H ++ [some (Blk.mk false [])]) (Sl.mk false H.length 0 0) [] (by omega) (by omega) (List.prefix_append _ _) (by simp) (own_new 1 H [] 0 rfl)
 exact ⟨t,H',a1,a2,by simpa [regCells] using a3⟩
def boxes:List Int:=[0,0,1,1,0,0,1,1,2,2,3,3,2,2,3,3]
theorem boxes_ok:regsOk boxes 4=true:=by decide
def boxRules:List V:=[(1,[0,1,4,5],0),(1,[2,3,6,7],0),(1,[8,9,12,13],0),(1,[10,11,14,15],0)]
theorem box_at:∀ i,i < 16→IntKind.i64.wrap ((IntKind.i64.wrap ((IntKind.i64.wrap (((i:Nat):Int).tdiv 8)) * 2)) + (IntKind.i64.wrap ((((i:Nat):Int).tmod 4:Int).tdiv 2)))=boxes.getD i 0:=by decide +kernel
theorem boxRules_at:∀ r,r < 4→boxRules.take (r + 1)=boxRules.take r ++ [(1,regCells boxes ((r:Nat):Int),0)]∧(regCells boxes ((r:Nat):Int)).length=4:=by decide +kernel
theorem specBox_l0 (rec:Rec) (k:Nat) {H0:Hp}:∀ (j i fuel:Nat) (H:Hp) (t:Sl),i + j=16→j < fuel→H0 <+: H→Own 1 H0 H t ((boxes.take i).map (.int .i64)) →
   ∃ t' H',spec_BoxRegions.l0 rec k fuel t i H=some (.sl 1 t',H')∧H0 <+: H'∧Own 1 H0 H' t' (boxes.map (.int .i64)):=by
 intro j
 induction j with
 | zero=>
  intro i fuel H t hi hf hp ho
  obtain ⟨fuel,rfl⟩:=Zs fuel (by omega)
  refine ⟨t,H,?_,hp,by rw [show i=16 by omega] at ho; exact ho⟩
  simp (disch:=omega) only [spec_BoxRegions.l0,spec_BoxRegions.j1,dt,df,bt,bf,nt,nf,Za,Zy,Zx,Zt,Zf,Zn,Zz,Zi,Zo,wr,AV.toB,AV.toI,AV.toS,if_true]
 | succ j ih=>
  intro i fuel H t hi hf hp ho
  obtain ⟨fuel,rfl⟩:=Zs fuel (by omega)
  have htl:t.len=i:=by have:=ho.len; simp [boxes] at this; omega
  obtain ⟨H1,a1,a2,a3,a4,a5⟩:=own_app1 ho hp (boxes.getD i 0) (by omega)
  have e:boxes.take i ++ [boxes.getD i 0]=boxes.take (i + 1):=by
   rw [List.take_succ_eq_append_getElem (show i < boxes.length by simp [boxes]; omega),List.getD_eq_getElem?_getD,List.getElem?_eq_getElem (show i < boxes.length by simp [boxes]; omega)]; rfl
  rw [e] at a3
  obtain ⟨t',H',b1,b2,b3⟩:=ih (i + 1) fuel H1 _ (by omega) (by omega) a2 a3
  push_cast at b1
  refine ⟨t',H',?_,b2,b3⟩
  have h4:=wrs (i:=i) (by omega)
  simp only [spec_BoxRegions.l0,dt (show (i:Int) < 16 by omega),Zt,box_at i (by omega),a1,Zo,h4,b1]
theorem specBoxRegions_ok {k:Nat} (hk:100 ≤ k) (H:Hp):∃ t H',callF PP orc k spec_BoxRegions.id [] H=some (.sl 1 t,H')∧H <+: H'∧Own 1 H H' t (boxes.map (.int .i64)):=by
 obtain ⟨k,rfl⟩:=Zs k (by omega)
 rw [spec_BoxRegions.call]
 exact specBox_l0 (callF PP orc k) k 16 0 k (H ++ [some (Blk.mk false [])]) (Sl.mk false H.length 0 0) (by omega) (by omega) (List.prefix_append _ _) (own_new 1 H [] 0 rfl)
theorem specRR_l0 {k:Nat} (hk:2000001 ≤ k) {H0:Hp} {s:Sl} (hs:Reads .i64 H0 s boxes) :
  ∀ (j i fuel:Nat) (H:Hp) (t:Sl) (qs:List R),i + j=4→j < fuel→H0 <+: H→WR H0 H t qs→qs.map R.val=boxRules.take i →
   ∃ t' qs' H',spec_RegionRules.l0 (callF PP orc k) k fuel s 4 t i H=some (.tup [.sl 3 t',.bool true],H')∧H0 <+: H'∧WR H0 H' t' qs'∧qs'.map R.val=boxRules:=by
 intro j
 induction j with
 | zero=>
  intro i fuel H t qs hi hf hp ho hv
  obtain ⟨fuel,rfl⟩:=Zs fuel (by omega)
  refine ⟨t,qs,H,?_,hp,ho,by rw [hv,show i=4 by omega]; rfl⟩
  simp (disch:=omega) only [spec_RegionRules.l0,spec_RegionRules.j2,dt,df,bt,bf,nt,nf,Za,Zy,Zx,Zt,Zf,Zn,Zz,Zi,Zo,wr,AV.toB,AV.toI,AV.toS,if_true]
 | succ j ih=>
  intro i fuel H t qs hi hf hp ho hv
  obtain ⟨fuel,rfl⟩:=Zs fuel (by omega)
  obtain ⟨v1,v2⟩:=boxRules_at i (by omega)
  obtain ⟨u,H1,a1,a2,a3⟩:=specRegionCells_ok hk (r:=(i:Int)) (pf_reads hp hs) boxes_ok
  have ul:=(own_reads a3).len
  have hql:qs.length ≤ 4:=by have:=congrArg List.length hv; simp [boxRules] at this; omega
  have htb:=own_lt ho.own
  have hub:=a3.blk
  obtain ⟨t1,H2,b1,b2,b3,b4,b5,b6⟩:=wr_app (ho.pf a2) (hp.trans a2) (by omega) { kind:=1,sl:=u,cells:=regCells boxes (i:Int),value:=0 } (own_reads a3) (by simp only; omega) (own_lt a3) (Nat.le_trans hp.length_le a3.blk) a3.nn
  obtain ⟨t',qs',H',d1,d2,d3,d4⟩:=ih (i + 1) fuel H2 t1 _ (by omega) (by omega) b2 b3 (by rw [List.map_append,hv,v1]; rfl)
  push_cast at d1
  refine ⟨t',qs',H',?_,d2,d3,d4⟩
  simp only [R.av] at b1
  simp (disch:=omega) only [spec_RegionRules.l0,spec_RegionRules.j1,dt,df,bt,bf,nt,nf,Za,Zy,Zx,Zt,Zf,Zn,Zz,Zi,Zo,wr,AV.toB,AV.toI,AV.toS,if_true,a1,ul,b1,d1]
theorem specRegionRules_ok {k:Nat} (hk:2000010 ≤ k) {H:Hp} {s:Sl} (hs:Reads .i64 H s boxes) :
  ∃ t qs H',callF PP orc k spec_RegionRules.id [.sl 1 s,.int .i64 4] H=some (.tup [.sl 3 t,.bool true],H')∧H <+: H'∧WR H H' t qs∧qs.map R.val=boxRules:=by
 obtain ⟨k,rfl⟩:=Zs k (by omega)
 rw [spec_RegionRules.call]
 have g1:H <+: H ++ [some (Blk.mk false [])]:=List.prefix_append _ _
 have h1:=specRegionsValid_ok (show 2000000 ≤ k by omega) (pf_reads g1 hs) (by simp [boxes]) 4
 rw [boxes_ok] at h1
 obtain ⟨t',qs',H',d1,d2,d3,d4⟩:=specRR_l0 (show 2000001 ≤ k by omega) hs 4 0 k (H ++ [some (Blk.mk false [])]) (Sl.mk false H.length 0 0) [] (by omega) (by omega) g1
  ⟨own_new 3 H [] 0 rfl,fun i hi=>absurd hi (Nat.not_lt_zero _),fun i hi=>absurd hi (Nat.not_lt_zero _),fun i hi=>absurd hi (Nat.not_lt_zero _),fun i hi=>absurd hi (Nat.not_lt_zero _),fun i hi=>absurd hi (Nat.not_lt_zero _)⟩ rfl
 refine ⟨t',qs',H',?_,d2,d3,d4⟩
 simp only [Int.natCast_zero] at d1
 simp only [spec_RegionRules.f,dt,df,bt,bf,nt,nf,Za,Zy,Zx,Zt,Zf,Zn,Zz,Zi,Zo,wr,AV.toB,AV.toI,AV.toS,if_true,h1,d1]
theorem RD.but' {b c:Nat} {H H':Hp} {l:List Int} {p:Nat} (h:RD b H l p) (g:But c H H') (hc:b ≠ c) {ro:Bool} {cells:List AV} (hb:H[c]?=some (some ⟨ro,cells⟩)) (hk:∀ z ∈ cells,∀ n,z ≠ .int .u8 n):RD b H' l p:=by
 refine h.but g hc fun s hs hl es=>?_
 obtain ⟨s',q1,q2,q3⟩:=h.ex
 rw [q1] at hs
 simp only [Option.some.injEq,Blk.mk.injEq,List.cons.injEq,AV.sl.injEq,true_and,and_true] at hs
 subst hs
 have hc0:=q2.cell 0 (List.length_pos_iff.2 hl)
 unfold Hp.cell at hc0
 rw [es,hb] at hc0
 simp only at hc0
 exact hk _ (List.mem_of_getElem? hc0) _ rfl
theorem adv_but {b c:Nat} {B H H':Hp} (h:Adv b B H) (g:But c H H') (hc:B.length ≤ c) (hl:H.length ≤ H'.length):Adv b B H':=
 ⟨fun d x hdb hdx=>g d x (by have:=(List.getElem?_eq_some_iff.1 hdx).1; omega) (h.but d x hdb hdx),by have:=h.le; omega⟩
theorem av_no_u8 (rs:List R):∀ z ∈ rs.flatMap R.av,∀ n,z ≠ .int .u8 n:=fun z hz n e=>by
 obtain ⟨r,_,hr⟩:=List.mem_flatMap.1 hz
 subst e
 simp [R.av] at hr
theorem ints_no_u8 (l:List Int):∀ z ∈ l.map (AV.int .i64),∀ n,z ≠ .int .u8 n:=fun z hz n e=>by
 obtain ⟨x,_,hx⟩:=List.mem_map.1 hz
 subst e; cases hx
structure PZ (q:Bool) (B H:Hp) (n:Int) (gt s:Sl) (given:List Int) (rs:List R):Prop where
 og:Own 1 B H gt (given.map (.int .i64))
 rr:(s.nil=true∧s.len=0∧rs=[]) ∨ (WR B H s rs∧s.blk ≠ gt.blk)
 sg:∀ i,(h:i < rs.length)→rs[i].sl.blk ≠ gt.blk
 gg:gridOk given n=true
 ro:∀ r ∈ rs,(q=true→R.ok n r=true)∧r.cells.length ≤ 5
theorem PZ.adv {q:Bool} {b:Nat} {B H H':Hp} {n:Int} {gt s:Sl} {given:List Int} {rs:List R} (h:PZ q B H n gt s given rs) (hb:b < B.length) (g:Adv b H H'):PZ q B H' n gt s given rs:=by
 refine ⟨g.own hb h.og,?_,h.sg,h.gg,h.ro⟩
 rcases h.rr with h1 | ⟨h1,h2⟩
 ·exact .inl h1
 ·refine .inr ⟨⟨g.own hb h1.own,fun i hi=>g.reads ?_ (h1.rd i hi),h1.ne,fun i hi=>Nat.lt_of_lt_of_le (h1.lt i hi) g.le,h1.lo,h1.nn⟩,h2⟩
  have:=h1.lo i hi; omega
theorem PZ.readsR {q:Bool} {B H:Hp} {n:Int} {gt s:Sl} {given:List Int} {rs:List R} (h:PZ q B H n gt s given rs):ReadsR H s rs:=by
 rcases h.rr with ⟨_,h2,h3⟩ | ⟨h1,_⟩
 ·subst h3; exact ⟨h2,fun i hi=>absurd hi (Nat.not_lt_zero _),fun i hi=>absurd hi (Nat.not_lt_zero _),fun i hi=>absurd hi (Nat.not_lt_zero _),fun i hi=>absurd hi (Nat.not_lt_zero _)⟩
 ·exact h1.reads
theorem PZ.puz {q:Bool} {B H:Hp} {n:Int} {gt s:Sl} {given:List Int} {rs:List R} (h:PZ q B H n gt s given rs) (hl:rs.length ≤ 1000):PuzAt H n gt s given rs:=
 ⟨own_reads h.og,h.readsR,((gridOk_iff given n).1 h.gg).1,by have:=gridOk_len h.gg; omega,hl,fun r hr=>by have:=(h.ro r hr).2; omega⟩
theorem PZ.set {q:Bool} {b:Nat} {B H:Hp} {n:Int} {gt s:Sl} {given:List Int} {rs:List R} (h:PZ q B H n gt s given rs) (hb:b < B.length) (hadv:Adv b B H) {l:List Int} {p:Nat} (hrd:RD b H l p) (i:Nat) (hi:i < given.length) (v:Int) (hv:0 ≤ v∧v ≤ n) :
  ∃ H',H.sto gt.blk (gt.off + i * 1) [.int .i64 v]=some H'∧PZ q B H' n gt s (given.set i v) rs∧Adv b B H'∧RD b H' l p:=by
 have o':Own 1 [] H gt (given.map (.int .i64)):=⟨h.og.nn,h.og.off,Nat.zero_le _,h.og.get,h.og.len⟩
 obtain ⟨H',a1,a2,a3,a4⟩:=own_set1 o' List.nil_prefix i hi v
 have hgb:=h.og.blk
 refine ⟨H',a1,⟨⟨a3.nn,a3.off,hgb,a3.get,a3.len⟩,?_,h.sg,grid_set h.gg i v hv,h.ro⟩,adv_but hadv a4.but hgb a4.le,hrd.but' a4.but (by omega) h.og.get (ints_no_u8 _)⟩
 rcases h.rr with h1 | ⟨h1,h2⟩
 ·exact .inl h1
 ·exact .inr ⟨⟨a4.but.own h2 h1.own,fun i hi=>a4.but.reads (h.sg i hi) (h1.rd i hi),h1.ne,fun i hi=>Nat.lt_of_lt_of_le (h1.lt i hi) a4.le,h1.lo,h1.nn⟩,h2⟩
theorem PZ.apps {q:Bool} {b:Nat} {B H:Hp} {n:Int} {gt s:Sl} {given:List Int} {rs:List R} (h:PZ q B H n gt s given rs) (hB:B.length ≤ H.length) (hb:b < B.length) (hadv:Adv b B H) {l:List Int} {p:Nat} (hrd:RD b H l p) (hl:rs.length ≤ 1000) (qs:List R) (hq0:0 < qs.length) (hql:qs.length ≤ 1000)
  (hq:∀ i,(h:i < qs.length)→Reads .i64 H qs[i].sl qs[i].cells∧B.length ≤ qs[i].sl.blk∧qs[i].sl.blk < H.length∧qs[i].sl.blk ≠ gt.blk∧(s.nil=false→qs[i].sl.blk ≠ s.blk)∧qs[i].sl.nil=false) (hqo:∀ r ∈ qs,(q=true→R.ok n r=true)∧r.cells.length ≤ 5) :
  ∃ t' H',H.app 3 s qs.length (qs.flatMap R.av)=some (t',H')∧PZ q B H' n gt t' given (rs ++ qs)∧Adv b B H'∧RD b H' l p:=by
 have hgl:=own_lt' h.og
 have hro:∀ r ∈ rs ++ qs,(q=true→R.ok n r=true)∧r.cells.length ≤ 5:=fun r hr=>by
  rcases List.mem_append.1 hr with hr | hr
  ·exact h.ro r hr
  ·exact hqo r hr
 rcases h.rr with ⟨h1,h2,h3⟩ | ⟨h1,h2⟩
 ·subst h3
  have q1:H <+: H ++ [some (Blk.mk false (qs.flatMap R.av))]:=List.prefix_append _ _
  have hnew:=own_new 3 H (qs.flatMap R.av) qs.length (flat_length qs).symm
  refine ⟨Sl.mk false H.length 0 qs.length,H ++ [some (Blk.mk false (qs.flatMap R.av))],?_,⟨own_pf h.og q1,.inr ⟨⟨⟨rfl,rfl,hB,hnew.get,hnew.len⟩,fun i hi=>pf_reads q1 (hq i hi).1,fun i hi=>?_,fun i hi=>?_,fun i hi=>(hq i hi).2.1,fun i hi=>(hq i hi).2.2.2.2.2⟩,?_⟩,fun i hi=>(hq i hi).2.2.2.1,h.gg,hro⟩,hadv.trans (pf_adv q1),hrd.pf q1⟩
  ·unfold Hp.app
   rw [if_pos ⟨by omega,by omega,by omega,flat_length qs⟩,if_neg (by omega),if_pos h1]
  ·have:=(hq i hi).2.2.1; simp only [List.nil_append] at *; omega
  ·have:=(hq i hi).2.2.1; simp; simp only [List.nil_append] at *; omega
  ·simp only; omega
 ·have o':Own 3 [] H s (rs.flatMap R.av):=⟨h1.own.nn,h1.own.off,Nat.zero_le _,h1.own.get,h1.own.len⟩
  have hsl:=own_len3 h1.own
  obtain ⟨H',a1,a2,a3,a4,a5⟩:=own_app o' List.nil_prefix qs.length (qs.flatMap R.av) hq0 (by omega) (by omega) (by omega) (flat_length qs)
  have hsb:=h1.own.blk
  have hnn:=h1.own.nn
  have hsl':=own_lt' h1.own
  have key:∀ i,(hi:i < (rs ++ qs).length)→Reads .i64 H (rs ++ qs)[i].sl (rs ++ qs)[i].cells∧B.length ≤ (rs ++ qs)[i].sl.blk∧(rs ++ qs)[i].sl.blk < H.length∧(rs ++ qs)[i].sl.blk ≠ gt.blk∧(rs ++ qs)[i].sl.blk ≠ s.blk∧(rs ++ qs)[i].sl.nil=false:=by
   intro i hi
   by_cases e:i < rs.length
   ·simp only [List.getElem_append_left e]
    exact ⟨h1.rd i e,h1.lo i e,h1.lt i e,h.sg i e,h1.ne i e,h1.nn i e⟩
   ·simp only [List.length_append] at hi
    simp only [List.getElem_append_right (Nat.le_of_not_lt e)]
    obtain ⟨x1,x2,x3,x4,x5,x6⟩:=hq (i - rs.length) (by omega)
    exact ⟨x1,x2,x3,x4,x5 hnn,x6⟩
  refine ⟨Sl.mk false H.length 0 (s.len + qs.length),H',a1,⟨a4.own (Ne.symm h2) h.og,.inr ⟨⟨⟨rfl,rfl,hB,by rw [List.flatMap_append]; exact a3.get,by rw [List.flatMap_append]; exact a3.len⟩,fun i hi=>a4.reads (key i hi).2.2.2.2.1 (key i hi).1,fun i hi=>?_,fun i hi=>?_,fun i hi=>(key i hi).2.1,fun i hi=>(key i hi).2.2.2.2.2⟩,?_⟩,fun i hi=>(key i hi).2.2.2.1,h.gg,hro⟩,adv_but hadv a4 hsb (by omega),hrd.but' a4 (by omega) h1.own.get (av_no_u8 _)⟩
  ·have:=(key i hi).2.2.1; simp only; omega
  ·have:=(key i hi).2.2.1; omega
  ·simp only; omega
structure PuzB (H0 H:Hp) (n:Int) (gs s:Sl) (given:List Int) (rs:List R):Prop where
 at':PuzAt H n gs s given rs
 g16:given.length ≤ 16
 gv:∀ v ∈ given,0 ≤ v∧v ≤ n
 r25:rs.length ≤ 25
 c5:∀ r ∈ rs,r.cells.length ≤ 5
 gb:given ≠ []→H0.length ≤ gs.blk
 rb:rs ≠ []→H0.length ≤ s.blk
 cb:∀ i,(h:i < rs.length)→rs[i].cells ≠ []→H0.length ≤ rs[i].sl.blk
 gn:gs.nil=false
 cn:∀ i,(h:i < rs.length)→rs[i].sl.nil=false ∨ rs[i].cells=[]
def PuzDraw (b:Nat) (l:List Int) (x1:Int) (p0:Nat) (H0:Hp) (r:An):Prop:=
 ∃ n gs s given rs p' H',r=some (.agg [.int .i64 n,.sl 1 gs,.sl 3 s],H')∧RD b H' l p'∧p' ≤ p0∧Adv b H0 H'∧PuzB H0 H' n gs s given rs∧(x1 ≤ 0→puzzleV n given (rs.map R.val)=true)
theorem PZ.out {q:Bool} {B H0 H:Hp} {n:Int} {gt s:Sl} {given:List Int} {rs:List R} (h:PZ q B H n gt s given rs) (hB:H0.length ≤ B.length) (hl:rs.length ≤ 20):PuzB H0 H n gt s given rs∧(q=true→puzzleV n given (rs.map R.val)=true):=by
 have hg:=(gridOk_iff given n).1 h.gg
 refine ⟨⟨h.puz (by omega),gridOk_len h.gg,hg.2.2,by omega,fun r hr=>(h.ro r hr).2,fun _=>Nat.le_trans hB h.og.blk,fun hne=>?_,fun i hi _=>?_,h.og.nn,fun i hi=>?_⟩,fun hq=>?_⟩
 ·rcases h.rr with ⟨_,_,h3⟩ | ⟨h1,_⟩
  ·exact absurd h3 hne
  ·exact Nat.le_trans hB h1.own.blk
 ·rcases h.rr with ⟨_,_,h3⟩ | ⟨h1,_⟩
  ·subst h3; exact absurd hi (Nat.not_lt_zero _)
  ·exact Nat.le_trans hB (h1.lo i hi)
 ·rcases h.rr with ⟨_,_,h3⟩ | ⟨h1,_⟩
  ·subst h3; exact absurd hi (Nat.not_lt_zero _)
  ·exact .inl (h1.nn i hi)
 ·unfold puzzleV
  simp only [Bool.and_eq_true,decide_eq_true_eq,List.length_map,List.all_map,List.all_eq_true]
  exact ⟨h.gg,hl,fun r hr=>(h.ro r hr).1 hq⟩
theorem PZ.weak {q:Bool} {B H:Hp} {n:Int} {gt s:Sl} {given:List Int} {rs:List R} (h:PZ q B H n gt s given rs):PZ false B H n gt s given rs:=⟨h.og,h.rr,h.sg,h.gg,fun r hr=>⟨fun e=>(by cases e),(h.ro r hr).2⟩⟩
theorem zero21:((List.replicate (21:Int).toNat [AV.int .i64 0,AV.sl 1 Sl.none,AV.int .i64 0]).flatten)=(List.replicate 21 (R.mk 0 Sl.none [] 0)).flatMap R.av:=rfl
theorem own_readsR' {H0 H:Hp} {s:Sl} {rs:List R} (h:Own 3 H0 H s (rs.flatMap R.av)) (hc:∀ r ∈ rs,r.cells=[]∧r.sl.len=0):ReadsR H s rs:=
 own_readsR h fun i hi=>by
  obtain ⟨h1,h2⟩:=hc _ (List.getElem_mem hi)
  rw [h1]; exact reads_nil h2
theorem Puz_j6 {k:Nat} (hk:1000 ≤ k) {b:Nat} {l:List Int} {n x1 y0:Int} (hx1:x1 < 1000000) {p p0:Nat} (hp:p + 60 ≤ p0) (hp0:p0 ≤ 999990000) {H0 B H:Hp} (hB:Adv b H0 B) (hb0:b < H0.length) (hadv:Adv b B H) (hrd:RD b H l p) {y1 y2 xs gt s:Sl} {g given:List Int} {rs:List R} (hx:Reads .i64 B xs g) (hxb:xs.blk ≠ b) (hg:fullG g n) (hz:PZ true B H n gt s given rs) (hl:rs.length ≤ 12) :
  PuzDraw b l x1 p0 H0 (spec_l20Puzzle.j6 (callF PP orc k) k b 0 x1 n xs y0 y1 y2 n gt s H):=by
 obtain ⟨hn,_,_⟩:=(gridOk_iff given n).1 hz.gg
 have hBl:=hB.le
 have hb:b < B.length:=by omega
 obtain ⟨v,p1,H1,a1,a2,a3,a4,a5⟩:=odd_adv (show 2 ≤ k by omega) hrd (by omega) hx1
 have hz1:=hz.adv hb a4
 have adv1:=hadv.trans a4
 cases v with
 | false=>
  obtain ⟨o1,o2⟩:=hz1.out hBl (by omega)
  exact ⟨n,gt,s,given,rs,p1,H1,by simp only [spec_l20Puzzle.j6,spec_l20Puzzle.j8,dt,df,bt,bf,nt,nf,Za,Zy,Zx,Zt,Zf,Zn,Zz,Zi,Zo,wr,AV.toB,AV.toI,AV.toS,if_true,a1],a2,by omega,hB.trans adv1,o1,fun _=>o2 rfl⟩
 | true=>
  have hx0:¬ x1 ≤ 0:=fun h=>by have:=a5 h; cases this
  obtain ⟨v,H2,b1,b2,b3,b4,b5⟩:=pick_adv (show 1 ≤ k by omega) a2 (by omega) 3
  have hz2:=hz1.adv hb b3
  have adv2:=adv1.trans b3
  have hgl:=(own_reads hz2.og).len
  by_cases v0:v=0
  ·obtain ⟨kind,cs,value,cells,p',H3,c1,c2,c3,c4,c5,c6,c7,c8,c8n,c9,c10⟩:=l20Rule_ok (show 200 ≤ k by omega) hn (x3:=1) (by omega) b2 (by omega) (adv2.reads hxb hx) hxb hg
   have hz3:=hz2.adv hb c4
   have adv3:=adv2.trans c4
   have hgl2:=own_lt' hz2.og
   obtain ⟨t',H4,d1,d2,d3,d4⟩:=hz3.weak.apps (by have:=adv3.le; omega) hb adv3 c2 (by omega) [R.mk kind cs cells value] (by simp) (by simp) (fun i hi=>by
    have:i=0:=by simp at hi; omega
    subst this
    refine ⟨c5,by have:=adv2.le; simp only [List.getElem_cons_zero]; omega,by simp only [List.getElem_cons_zero]; omega,by simp only [List.getElem_cons_zero]; omega,fun hnn=>?_,c8n⟩
    rcases hz2.rr with ⟨h1,_,_⟩ | ⟨h1,_⟩
    ·rw [h1] at hnn; cases hnn
    ·have:=own_lt' h1.own; simp only [List.getElem_cons_zero]; omega) (fun r hr=>⟨fun e=>(by cases e),by simp at hr; subst hr; exact c9⟩)
   obtain ⟨o1,_⟩:=d2.out hBl (by simp; omega)
   refine ⟨n,gt,t',given,rs ++ [R.mk kind cs cells value],p',H4,?_,d4,by omega,hB.trans d3,o1,fun h=>absurd h hx0⟩
   have d1':H3.app 3 s 1 [.int .i64 kind,.sl 1 cs,.int .i64 value]=some (t',H4):=d1
   simp (disch:=omega) only [spec_l20Puzzle.j6,spec_l20Puzzle.j8,dt,df,bt,bf,nt,nf,Za,Zy,Zx,Zt,Zf,Zn,Zz,Zi,Zo,wr,AV.toB,AV.toI,AV.toS,if_true,a1,b1,v0,c1,AV.isAgg,AV.cel,Zl,Zm,Zc,Zd,d1']
   rfl
  ·by_cases v1:v=1
   ·have hlt:1 ≤ given.length:=by
     have:=((gridOk_iff given n).1 hz.gg).2.1
     have:n=2 ∨ n=3 ∨ n=4:=by omega
     rcases this with rfl | rfl | rfl <;> omega
    have h16:=gridOk_len hz.gg
    have hrd1:Reads .i64 H2 (Sl.mk gt.nil gt.blk (gt.off + 1) (given.length - 1)) (given.drop 1):=⟨by simp,fun i hi=>by
     have hi':1 + i < given.length:=by simp at hi; omega
     have:=(own_reads hz2.og).cell (1 + i) hi'
     simp only [List.getElem_drop]
     rw [← this,Nat.add_assoc]⟩
    obtain ⟨o1,o2⟩:=hz2.out hBl (by omega)
    refine ⟨n,Sl.mk gt.nil gt.blk (gt.off + 1) (given.length - 1),s,given.drop 1,rs,p1 + 1,H2,?_,b2,by omega,hB.trans adv2,⟨⟨hrd1,hz2.readsR,hn,by simp; omega,by omega,o1.at'.rc⟩,by simp; omega,fun v hv=>o1.gv v (List.mem_of_mem_drop hv),o1.r25,o1.c5,fun _=>Nat.le_trans hBl hz2.og.blk,o1.rb,o1.cb,hz2.og.nn,o1.cn⟩,fun h=>absurd h hx0⟩
    simp (disch:=omega) only [spec_l20Puzzle.j6,spec_l20Puzzle.j8,dt,df,bt,bf,nt,nf,Za,Zy,Zx,Zt,Zf,Zn,Zz,Zi,Zo,wr,AV.toB,AV.toI,AV.toS,if_true,a1,b1,v1]
    rw [ip (by simp; omega)]
    simp only [hgl,Nat.mul_one,show ((given.length:Int) - 1).toNat=given.length - 1 by omega]
   ·have q1:H2 <+: H2 ++ [some (Blk.mk false ((List.replicate 21 (R.mk 0 Sl.none [] 0)).flatMap R.av))]:=List.prefix_append _ _
    have hnew:=own_new 3 H2 ((List.replicate 21 (R.mk 0 Sl.none [] 0)).flatMap R.av) 21 (by rw [flat_length]; rfl)
    have hz0:∀ r ∈ List.replicate 21 (R.mk 0 Sl.none [] 0),r.cells=[]∧r.sl.len=0:=fun r hr=>by have:=(List.mem_replicate.1 hr).2; subst this; exact ⟨rfl,rfl⟩
    obtain ⟨o1,o2⟩:=hz2.out hBl (by omega)
    refine ⟨n,gt,Sl.mk false H2.length 0 21,given,List.replicate 21 (R.mk 0 Sl.none [] 0),p1 + 1,H2 ++ [some (Blk.mk false ((List.replicate 21 (R.mk 0 Sl.none [] 0)).flatMap R.av))],?_,b2.pf q1,by omega,hB.trans (adv2.trans (pf_adv q1)),⟨⟨pf_reads q1 (own_reads hz2.og),own_readsR' hnew hz0,hn,o1.at'.gl,by simp,fun r hr=>by rw [(hz0 r hr).1]; simp⟩,o1.g16,o1.gv,by simp,fun r hr=>by rw [(hz0 r hr).1]; simp,o1.gb,fun _=>by have:=adv2.le; simp only; omega,fun i hi hne=>absurd (hz0 _ (List.getElem_mem hi)).1 hne,o1.gn,fun i hi=>.inr (hz0 _ (List.getElem_mem hi)).1⟩,fun h=>absurd h hx0⟩
    simp (disch:=omega) only [spec_l20Puzzle.j6,spec_l20Puzzle.j8,dt,df,bt,bf,nt,nf,Za,Zy,Zx,Zt,Zf,Zn,Zz,Zi,Zo,wr,AV.toB,AV.toI,AV.toS,if_true,a1,b1,zero21]
    rw [ip (by simp)]
    rfl
theorem given_pos {n:Int} {g:List Int} (h:gridOk g n=true):4 ≤ g.length∧g.length ≤ 16:=by
 obtain ⟨hn,h2,_⟩:=(gridOk_iff g n).1 h
 have:n=2 ∨ n=3 ∨ n=4:=by omega
 rcases this with rfl | rfl | rfl <;> omega
theorem Puz_j4 {k:Nat} (hk:1000 ≤ k) {b:Nat} {l:List Int} {n x1 y0:Int} (hx1:x1 < 1000000) {p p0:Nat} (hp:p + 70 ≤ p0) (hp0:p0 ≤ 999990000) {H0 B H:Hp} (hB:Adv b H0 B) (hb0:b < H0.length) (hadv:Adv b B H) (hrd:RD b H l p) {y1 y2 xs gt s:Sl} {g given:List Int} {rs:List R} (hx:Reads .i64 B xs g) (hxb:xs.blk ≠ b) (hg:fullG g n) (hz:PZ true B H n gt s given rs) (hl:rs.length ≤ 12) :
  PuzDraw b l x1 p0 H0 (spec_l20Puzzle.j4 (callF PP orc k) k b 0 x1 n xs y0 y1 y2 n gt s H):=by
 obtain ⟨hn,_,_⟩:=(gridOk_iff given n).1 hz.gg
 have hBl:=hB.le
 have hb:b < B.length:=by omega
 obtain ⟨v,H1,a1,a2,a3,a4,a5⟩:=pick_adv (show 1 ≤ k by omega) hrd (by omega) 8
 have hz1:=hz.adv hb a3
 have hgl:=(own_reads hz1.og).len
 have h4:=given_pos hz1.gg
 by_cases v0:v=0
 ·obtain ⟨u,H2,b1,b2,b3,b4,b5⟩:=pick_adv (show 1 ≤ k by omega) a2 (by omega) (gt.len:Int)
  have hu:=b5 (by omega)
  obtain ⟨w,H3,c1,c2,c3,c4,c5⟩:=pick_adv (show 1 ≤ k by omega) b2 (by omega) n
  have hw:=c5 (by omega)
  have hz3:=(hz1.adv hb b3).adv hb c3
  obtain ⟨H4,d1,d2,d3,d4⟩:=hz3.set hb (((hadv.trans a3).trans b3).trans c3) c2 u.toNat (by omega) (1 + w) (by omega)
  have:=Puz_j6 hk hx1 (p0:=p0) (by omega) hp0 hB hb0 d3 d4 (y0:=y0) (y1:=y1) (y2:=y2) hx hxb hg d2 hl
  simp (disch:=omega) only [spec_l20Puzzle.j4,dt,df,bt,bf,nt,nf,Za,Zy,Zx,Zt,Zf,Zn,Zz,Zi,Zo,wr,AV.toB,AV.toI,AV.toS,if_true,a1,v0,b1,c1,d1]
  exact this
 ·have:=Puz_j6 hk hx1 (p0:=p0) (by omega) hp0 hB hb0 (hadv.trans a3) a2 (y0:=y0) (y1:=y1) (y2:=y2) hx hxb hg hz1 hl
  simp (disch:=omega) only [spec_l20Puzzle.j4,dt,df,bt,bf,nt,nf,Za,Zy,Zx,Zt,Zf,Zn,Zz,Zi,Zo,wr,AV.toB,AV.toI,AV.toS,if_true,a1]
  exact this
theorem Puz_l5 {k:Nat} (hk:1000 ≤ k) {b:Nat} {l:List Int} {n x1 y0 holes:Int} (hx1:x1 < 1000000) {p0:Nat} (hp0:p0 ≤ 999990000) {H0 B:Hp} (hB:Adv b H0 B) (hb0:b < H0.length) {y1 y2 xs gt s:Sl} {g:List Int} {rs:List R} (hx:Reads .i64 B xs g) (hxb:xs.blk ≠ b) (hg:fullG g n) (hl:rs.length ≤ 12) :
  ∀ (j i fuel:Nat) (H:Hp) (given:List Int) (p:Nat),i + j=given.length→j < fuel→p + 70 + j ≤ p0→Adv b B H→RD b H l p→PZ true B H n gt s given rs →
   PuzDraw b l x1 p0 H0 (spec_l20Puzzle.l5 (callF PP orc k) k fuel b 0 x1 n xs holes i y0 y1 y2 n gt s H):=by
 have hBl:=hB.le
 have hb:b < B.length:=by omega
 intro j
 induction j with
 | zero=>
  intro i fuel H given p hi hf hp hadv hrd hz
  obtain ⟨fuel,rfl⟩:=Zs fuel (by omega)
  have hgl:=(own_reads hz.og).len
  have:=Puz_j4 hk hx1 (p0:=p0) (by omega) hp0 hB hb0 hadv hrd (y0:=y0) (y1:=y1) (y2:=y2) hx hxb hg hz hl
  simp (disch:=omega) only [spec_l20Puzzle.l5,dt,df,bt,bf,nt,nf,Za,Zy,Zx,Zt,Zf,Zn,Zz,Zi,Zo,wr,AV.toB,AV.toI,AV.toS,if_true]
  exact this
 | succ j ih=>
  intro i fuel H given p hi hf hp hadv hrd hz
  obtain ⟨fuel,rfl⟩:=Zs fuel (by omega)
  obtain ⟨hn,_,_⟩:=(gridOk_iff given n).1 hz.gg
  have h4:=given_pos hz.gg
  have hgl:=(own_reads hz.og).len
  obtain ⟨v,H1,a1,a2,a3,a4,a5⟩:=pick_adv (show 1 ≤ k by omega) hrd (by omega) 4
  have hz1:=hz.adv hb a3
  by_cases c:v < holes
  ·obtain ⟨H4,d1,d2,d3,d4⟩:=hz1.set hb (hadv.trans a3) a2 i (by omega) 0 (by omega)
   have:=ih (i + 1) fuel H4 (given.set i 0) _ (by simp; omega) (by omega) (by omega) d3 d4 d2
   push_cast at this
   simp (disch:=omega) only [spec_l20Puzzle.l5,spec_l20Puzzle.j7,dt,df,bt,bf,nt,nf,Za,Zy,Zx,Zt,Zf,Zn,Zz,Zi,Zo,wr,AV.toB,AV.toI,AV.toS,if_true,a1,d1]
   exact this
  ·have:=ih (i + 1) fuel H1 given _ (by omega) (by omega) (by omega) (hadv.trans a3) a2 hz1
   push_cast at this
   simp (disch:=omega) only [spec_l20Puzzle.l5,spec_l20Puzzle.j7,dt,df,bt,bf,nt,nf,Za,Zy,Zx,Zt,Zf,Zn,Zz,Zi,Zo,wr,AV.toB,AV.toI,AV.toS,if_true,a1]
   exact this
theorem minFrom_grid {n:Int} (vs:List V) (hn:2 ≤ n∧n ≤ 4):∀ (j i:Nat) (g:List Int),gridOk g n=true→gridOk (minFrom n vs g i j) n=true
 | 0,_,_,h=>h
 | j + 1,i,g,h=>by
  rw [minFrom]
  refine minFrom_grid vs hn j (i + 1) _ ?_
  split
  ·exact grid_set h i 0 (by omega)
  ·exact h
theorem blk_ne {B B' H:Hp} {s t:Sl} {rs:List R} {l:List Int} (h:Own 3 B H s (rs.flatMap R.av)) (h':Own 1 B' H t (l.map (.int .i64))) (hl:2 ≤ l.length):s.blk ≠ t.blk:=by
 intro e
 have e1:=h.get
 rw [e,h'.get] at e1
 simp only [Option.some.injEq,Blk.mk.injEq,true_and] at e1
 have e2:=congrArg (fun x=>x[1]?) e1
 simp only [List.getElem?_map] at e2
 rw [List.getElem?_eq_getElem (show 1 < l.length by omega)] at e2
 cases rs with
 | nil=>simp at e2
 | cons r rs=>simp [R.av] at e2
theorem Puz_j3 {k:Nat} (hk:2000300 ≤ k) {b:Nat} {l:List Int} {n x1 y0:Int} (hx1:x1 < 1000000) {p p0:Nat} (hp:p + 100 ≤ p0) (hp0:p0 ≤ 999990000) {H0 B H:Hp} (hB:Adv b H0 B) (hb0:b < H0.length) (hadv:Adv b B H) (hrd:RD b H l p) {y1 y2 xs gt s:Sl} {g given:List Int} {rs:List R} (hx:Reads .i64 B xs g) (hxb:xs.blk ≠ b) (hg:fullG g n) (hz:PZ true B H n gt s given rs) (hl:rs.length ≤ 12) :
  PuzDraw b l x1 p0 H0 (spec_l20Puzzle.j3 (callF PP orc k) k b 0 x1 n xs y0 y1 y2 n gt s H):=by
 obtain ⟨hn,_,_⟩:=(gridOk_iff given n).1 hz.gg
 have hBl:=hB.le
 have hb:b < B.length:=by omega
 obtain ⟨v,H1,a1,a2,a3,a4,a5⟩:=pick_adv (show 1 ≤ k by omega) hrd (by omega) 3
 have hz1:=hz.adv hb a3
 have adv1:=hadv.trans a3
 have h4:=given_pos hz1.gg
 by_cases v0:v=0
 ·obtain ⟨H2,b1,b2⟩:=specMakeMinimal_ok hk (hz1.puz (by omega))
  have adv2:Adv b B H2:=adv1.trans (pf_adv b1)
  have rd2:=a2.pf b1
  rcases b2 with ⟨_,b2⟩ | ⟨_,gt',st,qs,b2,b3,b4,b5,b6⟩
  ·have:=Puz_j4 (show 1000 ≤ k by omega) hx1 (p0:=p0) (by omega) hp0 hB hb0 adv2 rd2 (y0:=y0) (y1:=y1) (y2:=y2) hx hxb hg (hz1.adv hb (pf_adv b1)) hl
   simp (disch:=omega) only [spec_l20Puzzle.j3,dt,df,bt,bf,nt,nf,Za,Zy,Zx,Zt,Zf,Zn,Zz,Zi,Zo,wr,AV.toB,AV.toI,AV.toS,if_true,a1,v0,b2,AV.isTup,AV.nth,AV.isAgg,AV.cel,Zl,Zm,Zc,Zd]
   exact this
  ·have hle:=adv1.le
   have hql:qs.length=rs.length:=by have:=congrArg List.length b5; simpa using this
   have hmm:gridOk (minimalV n given (rs.map R.val)) n=true:=minFrom_grid _ hn _ _ _ hz1.gg
   have h4':=given_pos hmm
   have hz2:PZ true B H2 n gt' st (minimalV n given (rs.map R.val)) qs:=by
    refine ⟨⟨b3.nn,b3.off,Nat.le_trans hle b3.blk,b3.get,b3.len⟩,.inr ⟨⟨⟨b4.own.nn,b4.own.off,Nat.le_trans hle b4.own.blk,b4.own.get,b4.own.len⟩,b4.rd,b4.ne,b4.lt,fun i hi=>Nat.le_trans hle (b4.lo i hi),b4.nn⟩,blk_ne b4.own b3 (by omega)⟩,b6,hmm,fun q hq=>?_⟩
    have hqv:q.val ∈ rs.map R.val:=b5 ▸ List.mem_map_of_mem hq
    obtain ⟨r,hr,e⟩:=List.mem_map.1 hqv
    obtain ⟨r1,r2⟩:=hz1.ro r hr
    have e1:R.ok n q=R.ok n r:=by
     show ruleOkV n q.val=ruleOkV n r.val
     rw [e]
    have e2:q.cells=r.cells:=congrArg (·.2.1) e.symm
    exact ⟨fun h=>e1 ▸ r1 h,e2 ▸ r2⟩
   have:=Puz_j4 (show 1000 ≤ k by omega) hx1 (p0:=p0) (by omega) hp0 hB hb0 adv2 rd2 (y0:=y0) (y1:=y1) (y2:=y2) hx hxb hg hz2 (by omega)
   simp (disch:=omega) only [spec_l20Puzzle.j3,dt,df,bt,bf,nt,nf,Za,Zy,Zx,Zt,Zf,Zn,Zz,Zi,Zo,wr,AV.toB,AV.toI,AV.toS,if_true,a1,v0,b2,AV.isTup,AV.nth,AV.isAgg,AV.cel,Zl,Zm,Zc,Zd]
   exact this
 ·obtain ⟨w,H2,b1,b2,b3,b4,b5⟩:=pick_adv (show 1 ≤ k by omega) a2 (by omega) 3
  have hw:=b5 (by omega)
  have:=Puz_l5 (show 1000 ≤ k by omega) (holes:=1 + w) hx1 hp0 hB hb0 (y0:=y0) (y1:=y1) (y2:=y2) hx hxb hg hl given.length 0 k H2 given _ (by omega) (by omega) (by omega) (adv1.trans b3) b2 (hz1.adv hb b3)
  simp (disch:=omega) only [spec_l20Puzzle.j3,dt,df,bt,bf,nt,nf,Za,Zy,Zx,Zt,Zf,Zn,Zz,Zi,Zo,wr,AV.toB,AV.toI,AV.toS,if_true,a1,b1]
  exact this
theorem box_valid:∀ r ∈ boxRules,ruleOkV 4 r=true∧r.2.1.length ≤ 5:=by decide
theorem Puz_j2 {k:Nat} (hk:2000400 ≤ k) {b:Nat} {l:List Int} {n x1 y0:Int} (hx1:x1 < 1000000) {p p0:Nat} (hp:p + 100 ≤ p0) (hp0:p0 ≤ 999990000) {H0 B H:Hp} (hB:Adv b H0 B) (hb0:b < H0.length) (hadv:Adv b B H) (hrd:RD b H l p) {y1 y2 xs gt s:Sl} {g given:List Int} {rs:List R} (hx:Reads .i64 B xs g) (hxb:xs.blk ≠ b) (hg:fullG g n) (hz:PZ true B H n gt s given rs) (hl:rs.length ≤ 8) {c:Bool} (hc:c=true→n=4) :
  PuzDraw b l x1 p0 H0 (spec_l20Puzzle.j2 (callF PP orc k) k b 0 x1 n xs c y0 y1 y2 n gt s H):=by
 have hBl:=hB.le
 have hb:b < B.length:=by omega
 cases c with
 | false=>
  have:=Puz_j3 (show 2000300 ≤ k by omega) hx1 (p0:=p0) (by omega) hp0 hB hb0 hadv hrd (y0:=y0) (y1:=y1) (y2:=y2) hx hxb hg hz (by omega)
  simp only [spec_l20Puzzle.j2,Zf]
  exact this
 | true=>
  have hn4:=hc rfl
  subst hn4
  obtain ⟨u,H1,a1,a2,a3⟩:=specBoxRegions_ok (show 100 ≤ k by omega) H
  obtain ⟨t,qs,H2,b1,b2,b3,b4⟩:=specRegionRules_ok (show 2000010 ≤ k by omega) (own_reads a3)
  have p2:H <+: H2:=a2.trans b2
  have hql:qs.length=4:=by have:=congrArg List.length b4; simp [boxRules] at this; exact this
  have hqo:∀ r ∈ qs,(true=true→R.ok 4 r=true)∧r.cells.length ≤ 5:=fun q hq=>by
   have:q.val ∈ boxRules:=b4 ▸ List.mem_map_of_mem hq
   obtain ⟨h1,h2⟩:=box_valid _ this
   exact ⟨fun _=>h1,h2⟩
  have hgl:g.length ≤ 16:=by have:=hg.1; rw [this]; decide
  have hxH:=(hadv.trans (pf_adv p2)).reads hxb hx
  have hz0:PuzAt H2 4 xs t g qs:=⟨hxH,b3.reads,by omega,by omega,by omega,fun r hr=>by have:=(hqo r hr).2; omega⟩
  obtain ⟨H3,c1,c2⟩:=specPuzzleSolved_ok (show 2000043 ≤ k by omega) hz0 hxH (by omega)
  have p3:=p2.trans c2
  have adv3:Adv b B H3:=hadv.trans (pf_adv p3)
  have hz3:=hz.adv hb (pf_adv (b:=b) p3)
  cases hs:puzzleSolvedV 4 g (qs.map R.val) g with
  | false=>
   rw [hs] at c1
   have:=Puz_j3 (show 2000300 ≤ k by omega) hx1 (p0:=p0) (by omega) hp0 hB hb0 adv3 (hrd.pf p3) (y0:=y0) (y1:=y1) (y2:=y2) hx hxb hg hz3 (by omega)
   simp (disch:=omega) only [spec_l20Puzzle.j2,dt,df,bt,bf,nt,nf,Za,Zy,Zx,Zt,Zf,Zn,Zz,Zi,Zo,wr,AV.toB,AV.toI,AV.toS,if_true,a1,b1,c1,AV.isTup,AV.nth,Zl,Zm,Zc,Zd]
   exact this
  | true=>
   rw [hs] at c1
   have hHl:=a2.length_le
   have hgt:=own_lt' hz.og
   have hb3':=b3.pf c2
   obtain ⟨t',H4,d1,d2,d3,d4⟩:=hz3.apps (by have:=adv3.le; omega) hb adv3 (hrd.pf p3) (by omega) qs (by omega) (by omega) (fun i hi=>by
    have h1:=b3.lo i hi
    have h2:=hb3'.lt i hi
    refine ⟨hb3'.rd i hi,by have:=hadv.le; omega,h2,by omega,fun hnn=>?_,hb3'.nn i hi⟩
    rcases hz.rr with ⟨h1',_,_⟩ | ⟨h1',_⟩
    ·rw [h1'] at hnn; cases hnn
    ·have:=own_lt' h1'.own; omega) hqo
   have hrd3:=read3_ok hb3'.own
   have hsl:=own_len3 hb3'.own
   have:=Puz_j3 (show 2000300 ≤ k by omega) hx1 (p0:=p0) (by omega) hp0 hB hb0 d3 d4 (y0:=y0) (y1:=y1) (y2:=y2) hx hxb hg d2 (by simp; omega)
   simp (disch:=omega) only [spec_l20Puzzle.j2,dt,df,bt,bf,nt,nf,Za,Zy,Zx,Zt,Zf,Zn,Zz,Zi,Zo,wr,AV.toB,AV.toI,AV.toS,if_true,a1,b1,c1,AV.isTup,AV.nth,Zl,Zm,Zc,Zd,hrd3,hsl,d1,cells3_ok]
   exact this
theorem Puz_j1 {k:Nat} (hk:2000400 ≤ k) {b:Nat} {l:List Int} {n x1 y0:Int} (hx1:x1 < 1000000) {p p0:Nat} (hp:p + 110 ≤ p0) (hp0:p0 ≤ 999990000) {H0 B H:Hp} (hB:Adv b H0 B) (hb0:b < H0.length) (hadv:Adv b B H) (hrd:RD b H l p) {y1 y2 xs gt s:Sl} {g given:List Int} {rs:List R} (hx:Reads .i64 B xs g) (hxb:xs.blk ≠ b) (hg:fullG g n) (hz:PZ true B H n gt s given rs) (hl:rs.length ≤ 8) :
  PuzDraw b l x1 p0 H0 (spec_l20Puzzle.j1 (callF PP orc k) k b 0 x1 n xs y0 y1 y2 n gt s H):=by
 have hBl:=hB.le
 have hb:b < B.length:=by omega
 by_cases c:n=4
 ·obtain ⟨v,H1,a1,a2,a3,a4,a5⟩:=pick_adv (show 1 ≤ k by omega) hrd (by omega) 3
  have:=Puz_j2 hk hx1 (p0:=p0) (by omega) hp0 hB hb0 (hadv.trans a3) a2 (y0:=y0) (y1:=y1) (y2:=y2) hx hxb hg (hz.adv hb a3) hl (c:=v == 0) (fun _=>c)
  simp only [spec_l20Puzzle.j1,bt c,Zt,a1,Zo,AV.toI,if_true]
  exact this
 ·have:=Puz_j2 hk hx1 (p0:=p0) (by omega) hp0 hB hb0 hadv hrd (y0:=y0) (y1:=y1) (y2:=y2) hx hxb hg hz hl (c:=false) (fun h=>by cases h)
  simp only [spec_l20Puzzle.j1,bf c,Zf]
  exact this
theorem Puz_l0 {k:Nat} (hk:2000400 ≤ k) {b:Nat} {l:List Int} {n x1 y0:Int} (hx1:x1 < 1000000) {p0:Nat} (hp0:p0 ≤ 999990000) {H0 B:Hp} (hB:Adv b H0 B) (hb0:b < H0.length) {y1 y2 xs gt:Sl} {g given:List Int} (hx:Reads .i64 B xs g) (hxb:xs.blk ≠ b) (hg:fullG g n) :
  ∀ (j fuel:Nat) (H:Hp) (s:Sl) (rs:List R) (p:Nat),j < fuel→rs.length + j ≤ 8→p + 110 + 50 * j ≤ p0→Adv b B H→RD b H l p→PZ true B H n gt s given rs →
   PuzDraw b l x1 p0 H0 (spec_l20Puzzle.l0 (callF PP orc k) k fuel b 0 x1 n xs (j:Int) y0 y1 y2 n gt s H):=by
 have hBl:=hB.le
 have hb:b < B.length:=by omega
 intro j
 induction j with
 | zero=>
  intro fuel H s rs p hf hl hp hadv hrd hz
  obtain ⟨fuel,rfl⟩:=Zs fuel (by omega)
  have:=Puz_j1 hk hx1 (p0:=p0) (by omega) hp0 hB hb0 hadv hrd (y0:=y0) (y1:=y1) (y2:=y2) hx hxb hg hz (by omega)
  simp (disch:=omega) only [spec_l20Puzzle.l0,dt,df,bt,bf,nt,nf,Za,Zy,Zx,Zt,Zf,Zn,Zz,Zi,Zo,wr,AV.toB,AV.toI,AV.toS,if_true]
  exact this
 | succ j ih=>
  intro fuel H s rs p hf hl hp hadv hrd hz
  obtain ⟨fuel,rfl⟩:=Zs fuel (by omega)
  obtain ⟨hn,_,_⟩:=(gridOk_iff given n).1 hz.gg
  obtain ⟨kind,cs,value,cells,p',H3,c1,c2,c3,c4,c5,c6,c7,c8,c8n,c9,c10⟩:=l20Rule_ok (show 200 ≤ k by omega) hn (x3:=0) (by omega) hrd (by omega) (hadv.reads hxb hx) hxb hg
  have hz3:=hz.adv hb c4
  have adv3:=hadv.trans c4
  have hgl2:=own_lt' hz.og
  obtain ⟨t',H4,d1,d2,d3,d4⟩:=hz3.apps (by have:=adv3.le; omega) hb adv3 c2 (by omega) [R.mk kind cs cells value] (by simp) (by simp) (fun i hi=>by
    have:i=0:=by simp at hi; omega
    subst this
    refine ⟨c5,by have:=hadv.le; simp only [List.getElem_cons_zero]; omega,by simp only [List.getElem_cons_zero]; omega,by simp only [List.getElem_cons_zero]; omega,fun hnn=>?_,c8n⟩
    rcases hz.rr with ⟨h1,_,_⟩ | ⟨h1,_⟩
    ·rw [h1] at hnn; cases hnn
    ·have:=own_lt' h1.own; simp only [List.getElem_cons_zero]; omega) (fun r hr=>⟨fun _=>by simp at hr; subst hr; exact c10 (by omega),by simp at hr; subst hr; exact c9⟩)
  have:=ih fuel H4 t' (rs ++ [R.mk kind cs cells value]) p' (by omega) (by simp; omega) (by omega) d3 d4 d2
  have d1':H3.app 3 s 1 [.int .i64 kind,.sl 1 cs,.int .i64 value]=some (t',H4):=d1
  have hj:((j + 1:Nat):Int) - 1=(j:Int):=by omega
  simp (disch:=omega) only [spec_l20Puzzle.l0,dt,Zt,Zo,c1,AV.toI,AV.toS,if_true,AV.isAgg,AV.cel,Zl,Zm,Zc,Zd,d1',wr,hj]
  exact this
theorem l20Puzzle_ok {k:Nat} (hk:2000500 ≤ k) {b:Nat} {l:List Int} {x1:Int} (hx1:x1 < 1000000) {p:Nat} {H:Hp} (hrd:RD b H l p) (hp:p ≤ 900000000) :
  PuzDraw b l x1 (p + 500) H (callF PP orc k spec_l20Puzzle.id [.ptr b 0,.int .i64 x1] H):=by
 obtain ⟨k,rfl⟩:=Zs k (by omega)
 rw [spec_l20Puzzle.call]
 obtain ⟨n,p1,H1,a1,a2,a3,a4,a5,a6,a7⟩:=l20Size_ok (show 3 ≤ k by omega) hrd (by omega) (n:=0) (by omega)
 have hn:=a7 (by omega)
 obtain ⟨t,g,p2,H2,b1,b2,b3,b4,b5,b6⟩:=l20Solved_ok (show 2000101 ≤ k by omega) a2 (by omega) hn
 have hgl:g.length ≤ 16:=by
  have:=b6.1
  have:n=2 ∨ n=3 ∨ n=4:=by omega
  rcases this with rfl | rfl | rfl <;> omega
 have hg:gridOk g n=true:=by
  refine (gridOk_iff g n).2 ⟨hn,?_,fun v hv=>by have:=b6.2 v hv; omega⟩
  have:=b6.1
  have:n=2 ∨ n=3 ∨ n=4:=by omega
  rcases this with rfl | rfl | rfl <;> omega
 have hb0:=hrd.lt
 have adv2:Adv b H H2:=a4.trans b4
 have q1:H2 <+: H2 ++ [some (Blk.mk false (g.map (.int .i64)))]:=List.prefix_append _ _
 have hnew:=own_new 1 H2 (g.map (.int .i64)) g.length (by simp)
 obtain ⟨v,H3,c1,c2,c3,c4,c5⟩:=pick_adv (show 1 ≤ k by omega) (b2.pf q1) (by omega) 5
 have hv:=c5 (by omega)
 have hz:PZ true H2 (H2 ++ [some (Blk.mk false (g.map (.int .i64)))]) n (Sl.mk false H2.length 0 g.length) Sl.none g []:=⟨hnew,.inl ⟨rfl,rfl,rfl⟩,fun i hi=>absurd hi (Nat.not_lt_zero _),hg,fun r hr=>by cases hr⟩
 have hb2:b < H2.length:=by have:=adv2.le; omega
 have htb:t.blk ≠ b:=by have:=b5.blk; have:=a4.le; omega
 have:=Puz_l0 (show 2000400 ≤ k by omega) hx1 (p0:=p + 500) (by omega) adv2 hb0 (l:=l) (y0:=0) (y1:=Sl.none) (y2:=Sl.none) (given:=g) (own_reads b5) htb b6 v.toNat k H3 Sl.none [] _ (by omega) (by simp; omega) (by omega) ((pf_adv q1).trans c3) c2 (hz.adv hb2 c3)
 rw [show ((v.toNat:Nat):Int)=v by omega] at this
 have tl:=(own_reads b5).len
 simp (disch:=omega) only [spec_l20Puzzle.f,Zo,a1,b1,AV.toI,AV.toS,if_true,read_ok (own_reads b5),tl,appl_ok,cells_ok,Za,Zt,c1]
 exact this
theorem byte_wf {l:List Int} (h:∀ n ∈ l,(Lit.int .u8 n).wf=true):∀ x ∈ l,0 ≤ x∧x ≤ 255:=fun x hx=>by
 have:=h x hx
 simp only [Lit.wf,IntKind.min,IntKind.max,IntKind.signed,IntKind.bits,Bool.and_eq_true,decide_eq_true_eq,if_true,Bool.false_eq_true,if_false] at this
 omega
theorem alive_ok {k:Nat} (hk:2000002 ≤ k) (H:Hp):∃ H',callF PP orc k laws_alive.id [] H=some (.bool true,H')∧H <+: H':=by
 obtain ⟨k,rfl⟩:=Zs k (by omega)
 rw [laws_alive.call]
 have hnew:=own_new 1 H (([1,0,0,2]:List Int).map (.int .i64)) 4 rfl
 have h1:=implGridFilled_ok (show 2000001 ≤ k by omega) (own_reads hnew) (by simp) 2
 rw [ip (show gridOk [1,0,0,2] 2=true by decide),show filled [1,0,0,2]=2 by decide] at h1
 refine ⟨H ++ [some (Blk.mk false (([1,0,0,2]:List Int).map (.int .i64)))],?_,(List.prefix_append _ _)⟩
 simp only [List.map_cons,List.map_nil] at h1 ⊢
 simp only [laws_alive.f,dt,df,bt,bf,nt,nf,Za,Zy,Zx,Zt,Zf,Zn,Zz,Zi,Zo,wr,AV.toB,AV.toI,AV.toS,if_true,h1]
 rfl
theorem PuzB.base {H0 H1 H:Hp} {n:Int} {gs s:Sl} {given:List Int} {rs:List R} (h:PuzB H1 H n gs s given rs) (g:H0.length ≤ H1.length):PuzB H0 H n gs s given rs:=
 ⟨h.at',h.g16,h.gv,h.r25,h.c5,fun e=>Nat.le_trans g (h.gb e),fun e=>Nat.le_trans g (h.rb e),fun i hi e=>Nat.le_trans g (h.cb i hi e),h.gn,h.cn⟩
theorem own_setB {b:Nat} {B H:Hp} {xs:Sl} {g:List Int} (h:Own 1 B H xs (g.map (.int .i64))) (hb:b < B.length) (hadv:Adv b B H) {l:List Int} {p:Nat} (hrd:RD b H l p) (i:Nat) (hi:i < g.length) (v:Int) :
  ∃ H',H.sto xs.blk (xs.off + i * 1) [.int .i64 v]=some H'∧Own 1 B H' xs ((g.set i v).map (.int .i64))∧Adv b B H'∧RD b H' l p:=by
 have o':Own 1 [] H xs (g.map (.int .i64)):=⟨h.nn,h.off,Nat.zero_le _,h.get,h.len⟩
 obtain ⟨H',a1,a2,a3,a4⟩:=own_set1 o' List.nil_prefix i hi v
 have hgb:=h.blk
 exact ⟨H',a1,⟨a3.nn,a3.off,hgb,a3.get,a3.len⟩,adv_but hadv a4.but hgb a4.le,hrd.but' a4.but (by omega) h.get (ints_no_u8 _)⟩
theorem PuzB.adv {b:Nat} {H0 B H:Hp} {n:Int} {gs s:Sl} {given:List Int} {rs:List R} (h:PuzB H0 B n gs s given rs) (hb:b < H0.length) (g:Adv b B H):PuzB H0 H n gs s given rs:=by
 have rd:∀ {t:Sl} {l:List Int},(l ≠ []→H0.length ≤ t.blk)→Reads .i64 B t l→Reads .i64 H t l:=fun {t l} h1 h2=>by
  by_cases e:l=[]
  ·subst e; exact reads_nil h2.len
  ·exact g.reads (by have:=h1 e; omega) h2
 refine ⟨⟨rd h.gb h.at'.rg,?_,h.at'.n4,h.at'.gl,h.at'.rl,h.at'.rc⟩,h.g16,h.gv,h.r25,h.c5,h.gb,h.rb,h.cb,h.gn,h.cn⟩
 have hr:=h.at'.rr
 have cel:∀ {o:Nat} {v:AV},rs ≠ []→B.cell s.blk o=some v→H.cell s.blk o=some v:=fun e hv=>g.but.cell (by have:=h.rb e; omega) hv
 refine ⟨hr.len,fun i hi=>cel ?_ (hr.c0 i hi),fun i hi=>cel ?_ (hr.c1 i hi),fun i hi=>cel ?_ (hr.c2 i hi),fun i hi=>rd (h.cb i hi) (hr.cs i hi)⟩
 all_goals
  intro e; subst e; exact absurd hi (Nat.not_lt_zero _)
structure Sub (l l':List Int) (P:Nat→Nat→Prop):Prop where
 len:l'.length=l.length
 ms:Ms l'
 has:∀ j v:Nat,j < l.length→(has (l'.getD j 0) v=true ↔ has (l.getD j 0) v=true∧¬ P j v)
theorem Sub.refl {l:List Int} (h:Ms l):Sub l l (fun _ _=>False):=⟨rfl,h,fun j v _=>by simp⟩
theorem Sub.congr {l l':List Int} {P Q:Nat→Nat→Prop} (h:Sub l l' P) (hq:∀ j v,j < l.length→(P j v ↔ Q j v)):Sub l l' Q:=⟨h.len,h.ms,fun j v hj=>by rw [h.has j v hj,hq j v hj]⟩
theorem Sub.congr5 {l l':List Int} {P Q:Nat→Nat→Prop} (hl:Ms l) (h:Sub l l' P) (hq:∀ j v,j < l.length→v < 5→(P j v ↔ Q j v)):Sub l l' Q:=⟨h.len,h.ms,fun j v hj=>by
 by_cases hv:v < 5
 ·rw [h.has j v hj,hq j v hj hv]
 ·rw [has_big (h.ms.at j) (by omega),has_big (hl.at j) (by omega)]; simp⟩
theorem Sub.unique {l a b:List Int} {P:Nat→Nat→Prop} (h:Sub l a P) (h':Sub l b P):a=b:=by
 apply List.ext_getElem?
 intro i
 by_cases hi:i < l.length
 ·have ha:=h.len; have hb:=h'.len
  have e:a.getD i 0=b.getD i 0:=m_ext (h.ms.at i) (h'.ms.at i) fun v _=>by
   rw [Bool.eq_iff_iff,h.has i v hi,h'.has i v hi]
  rw [List.getD_eq_getElem?_getD,List.getD_eq_getElem?_getD,List.getElem?_eq_getElem (by omega),List.getElem?_eq_getElem (by omega)] at e
  rw [List.getElem?_eq_getElem (by omega),List.getElem?_eq_getElem (by omega)]
  simpa using e
 ·rw [List.getElem?_eq_none (by rw [h.len]; omega),List.getElem?_eq_none (by rw [h'.len]; omega)]
theorem Sub.step {l a:List Int} {P:Nat→Nat→Prop} (h:Sub l a P) (i:Nat) (hi:i < l.length) {m:Int} (hm:M m):Sub l (a.set i (mSub (a.getD i 0) m)) (fun j v=>P j v ∨ (j=i∧Rp.has m v=true)):=by
 refine ⟨by simpa using h.len,h.ms.set i (M.sub (h.ms.at i) hm),fun j v hj=>?_⟩
 have ha:=h.len
 rw [getD_set']
 by_cases e:i=j
 ·subst e
  rw [if_pos ⟨rfl,by omega⟩,has_sub (h.ms.at i) hm,Bool.and_eq_true,h.has i v hj,Bool.not_eq_true']
  cases Rp.has m v <;> simp [not_or]
 ·rw [if_neg (by omega),h.has j v hj]
  constructor
  ·rintro ⟨x,y⟩; exact ⟨x,by rintro (z | z); exact y z; exact e z.1.symm⟩
  ·rintro ⟨x,y⟩; exact ⟨x,fun z=>y (.inl z)⟩
where
 getD_set' {l:List Int} {i j:Nat} {v:Int}:(l.set i v).getD j 0=if i=j∧i < l.length then v else l.getD j 0:=by
  rw [List.getD_eq_getElem?_getD,List.getElem?_set]
  by_cases e:i=j
  ·subst e
   by_cases h:i < l.length
   ·simp [h]
   ·simp [h,List.getD_eq_getElem?_getD,List.getElem?_eq_none (Nat.le_of_not_lt h)]
  ·simp [e]
theorem has_all (v:Nat) (hv:v < 5) (m:Int):Rp.has (mSub 31 m) v=!Rp.has m v ∨ ¬ M m:=by
 by_cases h:M m
 ·left
  rw [has_sub ⟨by decide,by decide⟩ h]
  have:Rp.has 31 v=true:=by
   have:v=0 ∨ v=1 ∨ v=2 ∨ v=3 ∨ v=4:=by omega
   rcases this with rfl | rfl | rfl | rfl | rfl <;> decide
  rw [this,Bool.true_and]
 ·exact .inr h
theorem and_sub {a m:Int} (ha:M a) (hm:M m):mAnd a m=mSub a (mSub 31 m):=by
 have h31:M 31:=⟨by decide,by decide⟩
 refine m_ext (M.and ha hm) (M.sub ha (M.sub h31 hm)) fun v hv=>?_
 rw [has_and,has_sub ha (M.sub h31 hm)]
 rcases has_all v hv m with e | e
 ·rw [e,Bool.not_not]
 ·exact absurd hm e
open Classical in
noncomputable def maskOf (q:Nat→Prop):Int:=(((if q 0 then 1 else 0) ||| (if q 1 then 2 else 0) ||| (if q 2 then 4 else 0) ||| (if q 3 then 8 else 0) ||| (if q 4 then 16 else 0):Nat):Int)
theorem tab_mk:∀ a b c d e:Bool,((bif a then 1 else 0) ||| (bif b then 2 else 0) ||| (bif c then 4 else 0) ||| (bif d then 8 else 0) ||| (bif e then 16 else 0):Nat) < 32 ∧
  ((bif a then 1 else 0) ||| (bif b then 2 else 0) ||| (bif c then 4 else 0) ||| (bif d then 8 else 0) ||| (bif e then 16 else 0):Nat).testBit 0=a ∧
  ((bif a then 1 else 0) ||| (bif b then 2 else 0) ||| (bif c then 4 else 0) ||| (bif d then 8 else 0) ||| (bif e then 16 else 0):Nat).testBit 1=b ∧
  ((bif a then 1 else 0) ||| (bif b then 2 else 0) ||| (bif c then 4 else 0) ||| (bif d then 8 else 0) ||| (bif e then 16 else 0):Nat).testBit 2=c ∧
  ((bif a then 1 else 0) ||| (bif b then 2 else 0) ||| (bif c then 4 else 0) ||| (bif d then 8 else 0) ||| (bif e then 16 else 0):Nat).testBit 3=d ∧
  ((bif a then 1 else 0) ||| (bif b then 2 else 0) ||| (bif c then 4 else 0) ||| (bif d then 8 else 0) ||| (bif e then 16 else 0):Nat).testBit 4=e:=by decide
open Classical in
theorem maskOf_ok (q:Nat→Prop):M (maskOf q)∧∀ v,v < 5→(has (maskOf q) v=true ↔ q v):=by
 obtain ⟨t,t0,t1,t2,t3,t4⟩:=tab_mk (decide (q 0)) (decide (q 1)) (decide (q 2)) (decide (q 3)) (decide (q 4))
 have e:maskOf q=(((bif decide (q 0) then 1 else 0) ||| (bif decide (q 1) then 2 else 0) ||| (bif decide (q 2) then 4 else 0) ||| (bif decide (q 3) then 8 else 0) ||| (bif decide (q 4) then 16 else 0):Nat):Int):=by
  unfold maskOf
  simp only [cond_eq_ite,decide_eq_true_eq]
 rw [e]
 refine ⟨⟨by omega,by omega⟩,fun v hv=>?_⟩
 unfold has
 rw [Int.toNat_natCast]
 have:v=0 ∨ v=1 ∨ v=2 ∨ v=3 ∨ v=4:=by omega
 rcases this with rfl | rfl | rfl | rfl | rfl
 ·rw [t0,decide_eq_true_eq]
 ·rw [t1,decide_eq_true_eq]
 ·rw [t2,decide_eq_true_eq]
 ·rw [t3,decide_eq_true_eq]
 ·rw [t4,decide_eq_true_eq]
noncomputable def subAll (l:List Int) (P:Nat→Nat→Prop):List Int:=(List.range l.length).map fun j=>maskOf fun v=>has (l.getD j 0) v=true∧¬ P j v
theorem subAll_ok {l:List Int} (h:Ms l) (P:Nat→Nat→Prop):Sub l (subAll l P) P:=by
 have hlen:(subAll l P).length=l.length:=by simp [subAll]
 have hat:∀ j,j < l.length→(subAll l P).getD j 0=maskOf fun v=>has (l.getD j 0) v=true∧¬ P j v:=fun j hj=>by
  rw [List.getD_eq_getElem?_getD]; simp [subAll,hj]
 refine ⟨hlen,fun m hm=>?_,fun j v hj=>?_⟩
 ·obtain ⟨j,_,rfl⟩:=List.mem_map.1 hm
  exact (maskOf_ok _).1
 ·rw [hat j hj]
  by_cases hv:v < 5
  ·exact (maskOf_ok _).2 v hv
  ·rw [has_big (maskOf_ok _).1 (by omega),has_big (h.at j) (by omega)]; simp
theorem Sub.eq {l a:List Int} {P:Nat→Nat→Prop} (hl:Ms l) (h:Sub l a P):a=subAll l P:=h.unique (subAll_ok hl P)
/-! ### The techniques -/
def single (m:Int):Bool:=(maskVals m).length == 1
def peer (n:Nat) (j k:Nat):Prop:=j ≠ k∧(j / n=k / n ∨ j % n=k % n)
def PS (n:Nat) (l:List Int) (j v:Nat):Prop:=∃ k,k < l.length∧peer n j k∧single (l.getD k 0)=true∧has (l.getD k 0) v=true
noncomputable def singlesV (n:Int) (l:List Int):List Int:=if masksOk n l=true then subAll l (PS n.toNat l) else []
def lineHas (n:Int) (l:List Int) (line:Int) (v:Nat):List Int:=(lineCells n line).filter fun c=>has (l.getD c.toNat 0) v
def PH (n:Int) (l:List Int) (j w:Nat):Prop:=∃ line v:Nat,(line:Int) < 2 * n∧1 ≤ v∧(v:Int) ≤ n∧lineHas n l line v=[(j:Int)]∧w ≠ v
noncomputable def hiddenV (n:Int) (l:List Int):List Int:=if masksOk n l=true then subAll l (PH n l) else []
def two (m:Int):Bool:=(maskVals m).length == 2
def lc (n:Int) (line i:Nat):Nat:=((lineCells n line).getD i 0).toNat
def PQ (n:Int) (l:List Int) (c v:Nat):Prop:=∃ line i j k:Nat,(line:Int) < 2 * n∧j < i∧(i:Int) < n∧(k:Int) < n∧k ≠ i∧k ≠ j∧l.getD (lc n line i) 0=l.getD (lc n line j) 0∧two (l.getD (lc n line i) 0)=true∧c=lc n line k∧has (l.getD (lc n line i) 0) v=true
noncomputable def pairsV (n:Int) (l:List Int):List Int:=if masksOk n l=true then subAll l (PQ n l) else []
def setAll (cells:List Int):List Int→List Int→Nat→Nat→List Int
 | l,_,_,0=>l
 | l,found,i,j + 1=>setAll cells (l.set (cells.getD i 0).toNat (found.getD i 0)) found (i + 1) j
def ruleStep (n:Int) (l:List Int) (r:V):List Int:=setAll r.2.1 l (ruleMasksS n r.1 r.2.2 r.2.1 l) 0 r.2.1.length
def rulesV (n:Int) (given:List Int) (vs:List V) (l:List Int):List Int:=if puzzleV n given vs=true∧masksOk n l=true then vs.foldl (ruleStep n) l else []
noncomputable def narrowV (n:Int) (given:List Int) (vs:List V) (l:List Int) (t:Int):List Int:=
 if puzzleV n given vs=true∧masksOk n l=true then (if t=1 then singlesV n l else if t=2 then hiddenV n l else if t=3 then pairsV n l else if t=4 then rulesV n given vs l else []) else []
def startV (n:Int) (given:List Int) (vs:List V):List Int:=if puzzleV n given vs=true then openOf n given else []
theorem masks_M {n:Int} {l:List Int} (h:masksOk n l=true):Ms l:=fun m hm=>maskOk_M ((masksOk_iff.1 h).2.1 m hm)
theorem masks_len {n:Int} {l:List Int} (h:masksOk n l=true):4 ≤ l.length∧l.length ≤ 16∧l.length=n.toNat * n.toNat∧n=(n.toNat:Int)∧2 ≤ n.toNat∧n.toNat ≤ 4:=by
 obtain ⟨hn,_,h2⟩:=masksOk_iff.1 h
 have:n=2 ∨ n=3 ∨ n=4:=by omega
 rcases this with rfl | rfl | rfl <;> simp <;> omega
theorem line_in {n:Int} {l:List Int} (hv:masksOk n l=true) {line c:Int} (h:c ∈ lineCells n line):0 ≤ c∧c.toNat < l.length∧c < (l.length:Int):=by
 have:=lineCells_mem h
 have h2:=(masksOk_iff.1 hv).2.2
 omega
theorem l6Copy_ok {k:Nat} (hk:1 ≤ k) {H:Hp} {s:Sl} {l:List Int} (hs:Reads .i64 H s l) (hl:l.length ≤ 1000) :
  callF PP orc k spec_l6Copy.id [.sl 1 s] H=some (.sl 1 (Sl.mk false H.length 0 l.length),H ++ [some (Blk.mk false (l.map (.int .i64)))]):=by
 obtain ⟨k,rfl⟩:=Zs k (by omega)
 rw [spec_l6Copy.call]
 simp only [spec_l6Copy.f,read_ok hs,hs.len,appl_ok _ _ _ (show l.length ≤ 1000000 by omega),Zo,cells_ok,Za,Zt]
theorem Start_l0 {k:Nat} (hk:2000003 ≤ k) {H0:Hp} {n:Int} {gs s:Sl} {given:List Int} {rs:List R} (hz:PuzAt H0 n gs s given rs) (hv:puzzleV n given (rs.map R.val)=true) :
  ∀ (j i fuel:Nat) (H:Hp) (t:Sl),i + j=given.length→j < fuel→H0 <+: H→Own 1 H0 H t ((openOf n (given.take i)).map (.int .i64)) →
   ∃ t' H',spec_StartMasks.l0 (callF PP orc k) k fuel t i n gs s H=some (.sl 1 t',H')∧H0 <+: H'∧Own 1 H0 H' t' ((openOf n given).map (.int .i64)):=by
 have hg:=(puzzleV_iff hv).1
 obtain ⟨hn,g2,g3⟩:=(gridOk_iff given n).1 hg
 have h16:=gridOk_len hg
 have hgl:=hz.rg.len
 obtain ⟨p1,p2,p3⟩:=topMask_pw hn
 intro j
 induction j with
 | zero=>
  intro i fuel H t hi hf hp ho
  obtain ⟨fuel,rfl⟩:=Zs fuel (by omega)
  refine ⟨t,H,?_,hp,by rw [List.take_of_length_le (by omega)] at ho; exact ho⟩
  simp (disch:=omega) only [spec_StartMasks.l0,spec_StartMasks.j1,spec_StartMasks.j3,dt,df,bt,bf,nt,nf,Za,Zy,Zx,Zt,Zf,Zn,Zz,Zi,Zo,wr,AV.toB,AV.toI,AV.toS,if_true]
 | succ j ih=>
  intro i fuel H t hi hf hp ho
  obtain ⟨fuel,rfl⟩:=Zs fuel (by omega)
  have hi2:i < given.length:=by omega
  obtain ⟨v0,v1⟩:=g3 _ (mem_getD hi2)
  have hzH:=hz.pf hp
  have h1:=specPuzzleValid_ok (show 2000003 ≤ k by omega) hzH.n4 hzH.rg hzH.gl hzH.rr hzH.rl hzH.rc
  rw [puzzle_map,hv] at h1
  have htl:t.len=i:=by have:=ho.len; simp [openOf] at this; omega
  have htk:openOf n (given.take (i + 1))=openOf n (given.take i) ++ [if given.getD i 0 > 0 then pw (given.getD i 0) else topMask n]:=by
   rw [List.take_succ_eq_append_getElem hi2]; unfold openOf
   rw [List.map_append,List.getD_eq_getElem?_getD,List.getElem?_eq_getElem hi2]; rfl
  obtain ⟨H1,a1,a2,a3,a4,a5⟩:=own_app1 ho hp (if given.getD i 0 > 0 then pw (given.getD i 0) else topMask n) (by omega)
  rw [← htk] at a3
  obtain ⟨t',H',b1,b2,b3⟩:=ih (i + 1) fuel H1 _ (by omega) (by omega) a2 a3
  push_cast at b1
  refine ⟨t',H',?_,b2,b3⟩
  by_cases c:given.getD i 0 > 0
  ·rw [ip c] at a1
   simp (disch:=omega) only [spec_StartMasks.l0,spec_StartMasks.j1,spec_StartMasks.j2,spec_StartMasks.j4,dt,df,bt,bf,nt,nf,Za,Zy,Zx,Zt,Zf,Zn,Zz,Zi,Zo,wr,AV.toB,AV.toI,AV.toS,if_true,h1,rdn hzH.rg,iN,m_shl v0,a1,b1]
  ·rw [iN c] at a1
   simp (disch:=omega) only [spec_StartMasks.l0,spec_StartMasks.j1,spec_StartMasks.j2,spec_StartMasks.j4,dt,df,bt,bf,nt,nf,Za,Zy,Zx,Zt,Zf,Zn,Zz,Zi,Zo,wr,AV.toB,AV.toI,AV.toS,if_true,h1,rdn hzH.rg,iN,m_shl (v:=n + 1),p1,a1,b1]
theorem specStartMasks_ok {k:Nat} (hk:2000010 ≤ k) {H:Hp} {n:Int} {gs s:Sl} {given:List Int} {rs:List R} (hz:PuzAt H n gs s given rs) :
  ∃ t H',callF PP orc k spec_StartMasks.id [.agg [.int .i64 n,.sl 1 gs,.sl 3 s]] H=some (.sl 1 t,H')∧H <+: H'∧Own 1 H H' t ((startV n given (rs.map R.val)).map (.int .i64)):=by
 obtain ⟨k,rfl⟩:=Zs k (by omega)
 rw [spec_StartMasks.call]
 have hgl:=hz.rg.len
 have hgz:=hz.gl
 unfold startV
 cases hv:puzzleV n given (rs.map R.val) with
 | true=>
  rw [ip rfl]
  obtain ⟨t',H',b1,b2,b3⟩:=Start_l0 (show 2000003 ≤ k by omega) hz hv given.length 0 k (H ++ [some (Blk.mk false [])]) (Sl.mk false H.length 0 0) (by omega) (by omega) (List.prefix_append _ _) (own_new 1 H [] 0 rfl)
  exact ⟨t',H',b1,b2,b3⟩
 | false=>
  rw [iN (by simp)]
  refine ⟨Sl.mk false H.length 0 0,H ++ [some (Blk.mk false [])],?_,(List.prefix_append _ _),own_new 1 H [] 0 rfl⟩
  have hzH:=hz.pf (List.prefix_append H [some (Blk.mk false [])])
  have h1:=specPuzzleValid_ok (show 2000003 ≤ k by omega) hzH.n4 hzH.rg hzH.gl hzH.rr hzH.rl hzH.rc
  rw [puzzle_map,hv] at h1
  have hf:spec_StartMasks.f (callF PP orc k) k n gs s H=spec_StartMasks.l0 (callF PP orc k) k k (Sl.mk false H.length 0 0) 0 n gs s (H ++ [some (Blk.mk false [])]):=rfl
  rw [hf]
  generalize callF PP orc k=rc at *
  obtain ⟨q,hq⟩:∃ q,k=q + 1:=⟨k - 1,by omega⟩
  rw [hq]
  by_cases c:0 < given.length
  ·simp (disch:=omega) only [spec_StartMasks.l0,spec_StartMasks.j1,spec_StartMasks.j3,dt,df,bt,bf,nt,nf,Za,Zy,Zx,Zt,Zf,Zn,Zz,Zi,Zo,wr,AV.toB,AV.toI,AV.toS,if_true,h1]
  ·simp (disch:=omega) only [spec_StartMasks.l0,spec_StartMasks.j1,spec_StartMasks.j3,dt,df,bt,bf,nt,nf,Za,Zy,Zx,Zt,Zf,Zn,Zz,Zi,Zo,wr,AV.toB,AV.toI,AV.toS,if_true]
theorem tdivN (a b:Nat):((a:Int)).tdiv (b:Int)=((a / b:Nat):Int):=rfl
theorem tmodN (a b:Nat):((a:Int)).tmod (b:Int)=((a % b:Nat):Int):=rfl
theorem wdiv {a:Nat} (N:Nat) (h:a ≤ 1000):IntKind.i64.wrap ((a / N:Nat):Int)=((a / N:Nat):Int):=by
 have:=Nat.div_le_self a N
 generalize a / N=z at *
 exact wr (by omega) (by omega)
theorem ncb {a b:Nat}:(((a:Nat):Int) == ((b:Nat):Int))=(a == b):=by rw [Bool.eq_iff_iff]; simp; omega
theorem Singles_l2 (rec:Rec) (k:Nat) (L0:Sl→Int→Sl→Int→Hp→An) {H0:Hp} {ms t:Sl} {l:List Int} {N:Nat} (hN:0 < N) (hm:Reads .i64 H0 ms l) (hl:l.length ≤ 100) {i:Nat} (hi:i < l.length) (hM:Ms l) :
  ∀ (j q fuel:Nat) (H:Hp) (a:List Int) (P:Nat→Nat→Prop),q + j=l.length→j < fuel→H0 <+: H→Own 1 H0 H t (a.map (.int .i64))→Sub l a P →
   ∃ H' a',spec_NarrowSingles.l2 rec k L0 fuel ms (N:Int) t i q H=L0 ms (N:Int) t ((i:Int) + 1) H'∧H0 <+: H'∧Own 1 H0 H' t (a'.map (.int .i64))∧Sub l a' (fun x v=>P x v ∨ (q ≤ x∧peer N x i∧Rp.has (l.getD i 0) v=true)):=by
 have hml:=hm.len
 have hiM:=hM.at i
 intro j
 induction j with
 | zero=>
  intro q fuel H a P hq hf hp ho hs
  obtain ⟨fuel,rfl⟩:=Zs fuel (by omega)
  refine ⟨H,a,?_,hp,ho,hs.congr fun x v hx=>⟨.inl,by rintro (h | ⟨h,_⟩); exact h; omega⟩⟩
  simp (disch:=omega) only [spec_NarrowSingles.l2,spec_NarrowSingles.j1,dt,df,bt,bf,nt,nf,Za,Zy,Zx,Zt,Zf,Zn,Zz,Zi,Zo,wr,AV.toB,AV.toI,AV.toS,if_true]
 | succ j ih=>
  intro q fuel H a P hq hf hp ho hs
  obtain ⟨fuel,rfl⟩:=Zs fuel (by omega)
  have hal:=hs.len
  have htl:t.len=a.length:=by have:=ho.len; simpa using this
  have hq2:q < l.length:=by omega
  have hrd:=pf_reads hp hm
  have d1:=Nat.div_le_self q N
  have d2:=Nat.div_le_self i N
  have go:∀ c:Bool,(c=true ↔ peer N q i)→∃ H' a',spec_NarrowSingles.j4 rec k L0 (spec_NarrowSingles.l2 rec k L0 fuel) ms (N:Int) t i q c H=L0 ms (N:Int) t ((i:Int) + 1) H'∧H0 <+: H'∧Own 1 H0 H' t (a'.map (.int .i64))∧Sub l a' (fun x v=>P x v ∨ (q ≤ x∧peer N x i∧Rp.has (l.getD i 0) v=true)):=by
   intro c hc
   cases c with
   | true=>
    have hpq:=hc.1 rfl
    obtain ⟨H1,a1,a2,a3,a4⟩:=own_set1 ho hp q (by omega) (mSub (a.getD q 0) (l.getD i 0))
    obtain ⟨H',a',b1,b2,b3,b4⟩:=ih (q + 1) fuel H1 _ _ (by omega) (by omega) a2 a3 (hs.step q hq2 hiM)
    push_cast at b1
    refine ⟨H',a',?_,b2,b3,b4.congr fun x v hx=>?_⟩
    ·simp (disch:=omega) only [spec_NarrowSingles.j4,spec_NarrowSingles.j5,dt,df,bt,bf,nt,nf,Za,Zy,Zx,Zt,Zf,Zn,Zz,Zi,Zo,wr,AV.toB,AV.toI,AV.toS,if_true,rdn (own_reads ho),rdn hrd,m_sub (hs.ms.at q) hiM,a1,b1]
    ·constructor
     ·rintro ((h | ⟨h1,h2⟩) | ⟨h1,h2⟩)
      ·exact .inl h
      ·subst h1; exact .inr ⟨Nat.le_refl _,hpq,h2⟩
      ·exact .inr ⟨by omega,h2⟩
     ·rintro (h | ⟨h1,h2,h3⟩)
      ·exact .inl (.inl h)
      ·by_cases e:x=q
       ·exact .inl (.inr ⟨e,h3⟩)
       ·exact .inr ⟨by omega,h2,h3⟩
   | false=>
    have hpq:¬ peer N q i:=fun h=>by have:=hc.2 h; cases this
    obtain ⟨H',a',b1,b2,b3,b4⟩:=ih (q + 1) fuel H a P (by omega) (by omega) hp ho hs
    push_cast at b1
    refine ⟨H',a',?_,b2,b3,b4.congr fun x v hx=>?_⟩
    ·simp (disch:=omega) only [spec_NarrowSingles.j4,spec_NarrowSingles.j5,dt,df,bt,bf,nt,nf,Za,Zy,Zx,Zt,Zf,Zn,Zz,Zi,Zo,wr,AV.toB,AV.toI,AV.toS,if_true,b1]
    ·constructor
     ·rintro (h | ⟨h1,h2⟩)
      ·exact .inl h
      ·exact .inr ⟨by omega,h2⟩
     ·rintro (h | ⟨h1,h2,h3⟩)
      ·exact .inl h
      ·refine .inr ⟨?_,h2,h3⟩
       by_cases e:x=q
       ·subst e; exact absurd h2 hpq
       ·omega
  by_cases e:q=i
  ·obtain ⟨H',a',b1,b2⟩:=go false ⟨fun h=>(by cases h),fun h=>absurd e h.1⟩
   refine ⟨H',a',?_,b2⟩
   rw [← b1]
   simp (disch:=omega) only [spec_NarrowSingles.l2,dt,df,bt,bf,nt,nf,Za,Zy,Zx,Zt,Zf,Zn,Zz,Zi,Zo,wr,AV.toB,AV.toI,AV.toS,if_true]
  ·by_cases e1:q / N=i / N
   ·obtain ⟨H',a',b1,b2⟩:=go true ⟨fun _=>⟨e,.inl e1⟩,fun _=>rfl⟩
    refine ⟨H',a',?_,b2⟩
    rw [← b1]
    have hb:(q / N == i / N)=true:=by simpa using e1
    simp (disch:=omega) only [spec_NarrowSingles.l2,dt,nt,Zt,iN,tdivN,wdiv,ncb,hb]
   ·obtain ⟨H',a',b1,b2⟩:=go (((q:Int)).tmod (N:Int) == ((i:Int)).tmod (N:Int)) (by
     rw [tmodN,tmodN,beq_iff_eq]
     constructor
     ·intro h; exact ⟨e,.inr (by omega)⟩
     ·rintro ⟨_,h | h⟩
      ·exact absurd h e1
      ·omega)
    refine ⟨H',a',?_,b2⟩
    rw [← b1]
    have hb:(q / N == i / N)=false:=by simpa using e1
    simp (disch:=omega) only [spec_NarrowSingles.l2,dt,nt,Zt,Zf,iN,tdivN,wdiv,ncb,hb]
theorem Singles_l0 {k:Nat} (hk:2000000 ≤ k) {H0:Hp} {ms t:Sl} {l:List Int} {N:Nat} (hN:0 < N) (hm:Reads .i64 H0 ms l) (hl:l.length ≤ 100) (hM:Ms l) :
  ∀ (j i fuel:Nat) (H:Hp) (a:List Int) (P:Nat→Nat→Prop),i + j=l.length→j < fuel→H0 <+: H→Own 1 H0 H t (a.map (.int .i64))→Sub l a P →
   ∃ H' a',spec_NarrowSingles.l0 (callF PP orc k) k fuel ms (N:Int) t i H=some (.sl 1 t,H')∧H0 <+: H'∧Own 1 H0 H' t (a'.map (.int .i64))∧Sub l a' (fun x v=>P x v ∨ ∃ q,i ≤ q∧q < l.length∧peer N x q∧single (l.getD q 0)=true∧Rp.has (l.getD q 0) v=true):=by
 have hml:=hm.len
 intro j
 induction j with
 | zero=>
  intro i fuel H a P hi hf hp ho hs
  obtain ⟨fuel,rfl⟩:=Zs fuel (by omega)
  refine ⟨H,a,?_,hp,ho,hs.congr fun x v hx=>⟨.inl,by rintro (h | ⟨q,h1,h2,_⟩); exact h; omega⟩⟩
  simp (disch:=omega) only [spec_NarrowSingles.l0,spec_NarrowSingles.j3,dt,df,bt,bf,nt,nf,Za,Zy,Zx,Zt,Zf,Zn,Zz,Zi,Zo,wr,AV.toB,AV.toI,AV.toS,if_true]
 | succ j ih=>
  intro i fuel H a P hi hf hp ho hs
  obtain ⟨fuel,rfl⟩:=Zs fuel (by omega)
  have hi2:i < l.length:=by omega
  have hrd:=pf_reads hp hm
  obtain ⟨u,H1,a1,a2,a3⟩:=MaskValues_ok hk (l.getD i 0) H
  have hul:=(own_reads a3).len
  by_cases c:(maskVals (l.getD i 0)).length=1
  ·obtain ⟨H2,a',b1,b2,b3,b4⟩:=Singles_l2 (callF PP orc k) k (spec_NarrowSingles.l0 (callF PP orc k) k fuel) hN hm hl hi2 hM l.length 0 k H1 a P (by omega) (by omega) (hp.trans a2) (own_pf ho a2) hs
   obtain ⟨H',a'',d1,d2,d3,d4⟩:=ih (i + 1) fuel H2 a' _ (by omega) (by omega) b2 b3 b4
   push_cast at d1
   refine ⟨H',a'',?_,d2,d3,d4.congr fun x v hx=>?_⟩
   ·simp only [Int.natCast_zero] at b1
    simp (disch:=omega) only [spec_NarrowSingles.l0,dt,df,bt,bf,nt,nf,Za,Zy,Zx,Zt,Zf,Zn,Zz,Zi,Zo,wr,AV.toB,AV.toI,AV.toS,if_true,rdn hrd,a1,hul,b1,d1]
   ·have hs1:single (l.getD i 0)=true:=by unfold single; rw [c]; rfl
    constructor
    ·rintro ((h | ⟨_,h2,h3⟩) | ⟨q,h1,h2⟩)
     ·exact .inl h
     ·exact .inr ⟨i,Nat.le_refl _,hi2,h2,hs1,h3⟩
     ·exact .inr ⟨q,by omega,h2⟩
    ·rintro (h | ⟨q,h1,h2,h3,h4,h5⟩)
     ·exact .inl (.inl h)
     ·by_cases e:q=i
      ·subst e; exact .inl (.inr ⟨by omega,h3,h5⟩)
      ·exact .inr ⟨q,by omega,h2,h3,h4,h5⟩
  ·obtain ⟨H',a'',d1,d2,d3,d4⟩:=ih (i + 1) fuel H1 a P (by omega) (by omega) (hp.trans a2) (own_pf ho a2) hs
   push_cast at d1
   refine ⟨H',a'',?_,d2,d3,d4.congr fun x v hx=>?_⟩
   ·simp (disch:=omega) only [spec_NarrowSingles.l0,spec_NarrowSingles.j1,dt,df,bt,bf,nt,nf,Za,Zy,Zx,Zt,Zf,Zn,Zz,Zi,Zo,wr,AV.toB,AV.toI,AV.toS,if_true,rdn hrd,a1,hul,d1]
   ·have hs1:¬ single (l.getD i 0)=true:=by unfold single; rw [beq_iff_eq]; exact c
    constructor
    ·rintro (h | ⟨q,h1,h2⟩)
     ·exact .inl h
     ·exact .inr ⟨q,by omega,h2⟩
    ·rintro (h | ⟨q,h1,h2,h3,h4,h5⟩)
     ·exact .inl h
     ·refine .inr ⟨q,?_,h2,h3,h4,h5⟩
      by_cases e:q=i
      ·subst e; exact absurd h4 hs1
      ·omega
theorem specNarrowSingles_ok {k:Nat} (hk:2000010 ≤ k) {H:Hp} {ms:Sl} {l:List Int} {n:Int} (hb:-1 ≤ n∧n ≤ 5) (hm:Reads .i64 H ms l) (hl:l.length ≤ 1000) :
  ∃ t H',callF PP orc k spec_NarrowSingles.id [.sl 1 ms,.int .i64 n] H=some (.sl 1 t,H')∧H <+: H'∧Own 1 H H' t ((singlesV n l).map (.int .i64)):=by
 obtain ⟨k,rfl⟩:=Zs k (by omega)
 rw [spec_NarrowSingles.call]
 have h1:=specMasksValid_any (show 2000000 ≤ k by omega) hb hm hl
 unfold singlesV
 cases hv:masksOk n l with
 | false=>
  rw [hv] at h1
  rw [iN (by simp)]
  exact ⟨Sl.mk false H.length 0 0,H ++ [some (Blk.mk false [])],by simp only [spec_NarrowSingles.f,dt,df,bt,bf,nt,nf,Za,Zy,Zx,Zt,Zf,Zn,Zz,Zi,Zo,wr,AV.toB,AV.toI,AV.toS,if_true,h1],(List.prefix_append _ _),own_new 1 H [] 0 rfl⟩
 | true=>
  rw [hv] at h1
  rw [ip rfl]
  obtain ⟨l4,l16,lN,hN,n2,n4⟩:=masks_len hv
  have hM:=masks_M hv
  have h2:=l6Copy_ok (show 1 ≤ k by omega) hm hl
  have hnew:=own_new 1 H (l.map (.int .i64)) l.length (by simp)
  obtain ⟨H',a',b1,b2,b3,b4⟩:=Singles_l0 (show 2000000 ≤ k by omega) (N:=n.toNat) (by omega) hm (by omega) hM l.length 0 k (H ++ [some (Blk.mk false (l.map (.int .i64)))]) l _ (by omega) (by omega) (List.prefix_append _ _) hnew (Sub.refl hM)
  rw [← hN] at b1
  have e:a'=subAll l (PS n.toNat l):=(b4.congr fun x v hx=>(show _ ↔ PS n.toNat l x v from ⟨by rintro (h | ⟨q,_,h⟩); exact h.elim; exact ⟨q,h⟩,fun ⟨q,h⟩=>.inr ⟨q,by omega,h⟩⟩)).eq hM
  subst e
  refine ⟨_,H',?_,b2,b3⟩
  simp only [Int.natCast_zero] at b1
  simp only [spec_NarrowSingles.f,dt,df,bt,bf,nt,nf,Za,Zy,Zx,Zt,Zf,Zn,Zz,Zi,Zo,wr,AV.toB,AV.toI,AV.toS,if_true,h1,h2,b1]
theorem Hidden_l3 (rec:Rec) (k:Nat) (L0:Sl→Int→Sl→Int→Hp→An) (L1:Sl→Int→Sl→Int→Sl→Int→Hp→An) {H:Hp} {ms t cs:Sl} {l cells:List Int} {n line:Int} {v:Nat} (hm:Reads .i64 H ms l) (hc:Reads .i64 H cs cells) (hcl:cells.length ≤ 10) (hin:∀ c ∈ cells,0 ≤ c∧c.toNat < l.length∧c < (l.length:Int)) (hM:Ms l) (hv:1 ≤ v∧v ≤ 4) :
  ∀ (j q fuel:Nat) (many at':Int),q + j=cells.length→j < fuel→0 ≤ many→many ≤ q →
   ∃ at2,spec_NarrowHidden.l3 rec k L0 L1 fuel ms n t line cs v many at' q H=spec_NarrowHidden.j6 rec k L0 L1 ms n t line cs v (many + ((cells.drop q).filter fun c=>has (l.getD c.toNat 0) v).length) at2 H∧(∀ c,many=0→(cells.drop q).filter (fun c=>has (l.getD c.toNat 0) v)=[c]→at2=c)∧((cells.drop q).filter (fun c=>has (l.getD c.toNat 0) v)=[]→at2=at'):=by
 have hml:=hm.len
 have hcs:=hc.len
 intro j
 induction j with
 | zero=>
  intro q fuel many at' hq hf h0 h1
  obtain ⟨fuel,rfl⟩:=Zs fuel (by omega)
  rw [List.drop_eq_nil_of_le (by omega)]
  refine ⟨at',?_,fun c _ h=>(by cases h),fun _=>rfl⟩
  simp (disch:=omega) only [spec_NarrowHidden.l3,dt,df,bt,bf,nt,nf,Za,Zy,Zx,Zt,Zf,Zn,Zz,Zi,Zo,wr,AV.toB,AV.toI,AV.toS,if_true,List.filter_nil,Zm,Int.natCast_zero,Int.add_zero]
 | succ j ih=>
  intro q fuel many at' hq hf h0 h1
  obtain ⟨fuel,rfl⟩:=Zs fuel (by omega)
  have hq2:q < cells.length:=by omega
  obtain ⟨c0,c1,c2⟩:=hin _ (mem_getD hq2)
  have hd:cells.drop q=cells.getD q 0 :: cells.drop (q + 1):=by
   rw [List.drop_eq_getElem_cons hq2,List.getD_eq_getElem?_getD,List.getElem?_eq_getElem hq2]; rfl
  rw [hd,List.filter_cons]
  have hb:=m_bit (v:=(v:Int)) (hM.at (cells.getD q 0).toNat) (by omega) (by omega)
  rw [Int.toNat_natCast] at hb
  cases hh:has (l.getD (cells.getD q 0).toNat 0) v with
  | true=>
   rw [hh] at hb
   obtain ⟨at2,a1,a2,a3⟩:=ih (q + 1) fuel (many + 1) (cells.getD q 0) (by omega) (by omega) (by omega) (by omega)
   push_cast at a1
   rw [if_pos rfl,List.length_cons]
   refine ⟨at2,?_,fun c hm0 he=>?_,fun h=>by cases h⟩
   ·push_cast
    rw [show many + ((((cells.drop (q + 1)).filter fun c=>has (l.getD c.toNat 0) v).length:Int) + 1)=many + 1 + (((cells.drop (q + 1)).filter fun c=>has (l.getD c.toNat 0) v).length:Int) by omega,← a1]
    simp (disch:=omega) only [spec_NarrowHidden.l3,spec_NarrowHidden.j5,dt,df,Za,Zt,Zn,Zo,rdn hc,rdn hm,iN,hb,wr]
   ·rw [List.cons.injEq] at he
    rw [a3 he.2]; exact he.1
  | false=>
   rw [hh] at hb
   obtain ⟨at2,a1,a2,a3⟩:=ih (q + 1) fuel many at' (by omega) (by omega) h0 (by omega)
   push_cast at a1
   rw [if_neg (by simp)]
   refine ⟨at2,?_,a2,a3⟩
   rw [← a1]
   simp (disch:=omega) only [spec_NarrowHidden.l3,spec_NarrowHidden.j5,dt,df,Za,Zt,Zf,Zn,Zo,rdn hc,rdn hm,iN,hb,wr]
theorem Hidden_l1 (rec:Rec) (k:Nat) (hk:100 ≤ k) (L0:Sl→Int→Sl→Int→Hp→An) {H0:Hp} {ms t cs:Sl} {l:List Int} {n:Int} {line:Nat} (hmk:masksOk n l=true) (hm:Reads .i64 H0 ms l) (hline:(line:Int) < 2 * n) (hcb:cs.blk ≠ t.blk) :
  ∀ (j v fuel:Nat) (H:Hp) (a:List Int) (P:Nat→Nat→Prop),(v:Int) + j=n + 1→1 ≤ v→j < fuel→H0 <+: H→Reads .i64 H cs (lineCells n line)→Own 1 H0 H t (a.map (.int .i64))→Sub l a P →
   ∃ H' a',spec_NarrowHidden.l1 rec k L0 fuel ms n t line cs v H=L0 ms n t ((line:Int) + 1) H'∧H0 <+: H'∧Own 1 H0 H' t (a'.map (.int .i64))∧Sub l a' (fun x w=>P x w ∨ ∃ u:Nat,v ≤ u∧(u:Int) ≤ n∧lineHas n l line u=[(x:Int)]∧w ≠ u):=by
 obtain ⟨l4,l16,lN,hN,n2,n4⟩:=masks_len hmk
 have hM:=masks_M hmk
 have hlc:=lineCells_len n line
 intro j
 induction j with
 | zero=>
  intro v fuel H a P hv hv1 hf hp hc ho hs
  obtain ⟨fuel,rfl⟩:=Zs fuel (by omega)
  refine ⟨H,a,?_,hp,ho,hs.congr fun x w hx=>⟨.inl,by rintro (h | ⟨u,h1,h2,_⟩); exact h; omega⟩⟩
  simp (disch:=omega) only [spec_NarrowHidden.l1,spec_NarrowHidden.j4,dt,df,bt,bf,nt,nf,Za,Zy,Zx,Zt,Zf,Zn,Zz,Zi,Zo,wr,AV.toB,AV.toI,AV.toS,if_true]
 | succ j ih=>
  intro v fuel H a P hv hv1 hf hp hc ho hs
  obtain ⟨fuel,rfl⟩:=Zs fuel (by omega)
  have hal:=hs.len
  have htl:t.len=a.length:=by have:=ho.len; simpa using this
  obtain ⟨at2,b1,b2,b3⟩:=Hidden_l3 rec k L0 (spec_NarrowHidden.l1 rec k L0 fuel) (t:=t) (n:=n) (line:=(line:Int)) (pf_reads hp hm) hc (by omega) (fun c h=>line_in hmk h) hM (v:=v) ⟨hv1,by omega⟩ (lineCells n line).length 0 k 0 0 (by omega) (by omega) (by omega) (by omega)
  simp only [List.drop_zero,Int.natCast_zero,Int.zero_add] at b1 b2
  have hlh:(lineCells n line).filter (fun c=>has (l.getD c.toNat 0) v)=lineHas n l line v:=rfl
  rw [hlh] at b1 b2
  by_cases c:(lineHas n l line v).length=1
  ·obtain ⟨x0,hx0⟩:=List.length_eq_one_iff.1 c
   have hat:=b2 x0 (by first | rfl | trivial) hx0
   have hxm:x0 ∈ lineCells n line:=(List.mem_filter.1 (show x0 ∈ lineHas n l line v by rw [hx0]; simp)).1
   obtain ⟨q0,q1,q2⟩:=line_in hmk hxm
   have hpm:M (pw (v:Int)):=M.pw (by omega) (by omega)
   have h31:M (mSub 31 (pw (v:Int))):=M.sub ⟨by decide,by decide⟩ hpm
   obtain ⟨H1,d1,d2,d3,d4⟩:=own_set1 ho hp x0.toNat (by omega) (mAnd (a.getD x0.toNat 0) (pw (v:Int)))
   have hs1:=hs.step x0.toNat q1 h31
   rw [← and_sub (hs.ms.at _) hpm] at hs1
   obtain ⟨H',a',e1,e2,e3,e4⟩:=ih (v + 1) fuel H1 _ _ (by omega) (by omega) (by omega) d2 (d4.reads hcb hc) d3 hs1
   push_cast at e1
   refine ⟨H',a',?_,e2,e3,e4.congr5 hM fun x w hx hw=>?_⟩
   ·rw [c] at b1
    subst hat
    simp only [Int.natCast_one] at b1
    simp (disch:=omega) only [spec_NarrowHidden.l1,dt,Zt,b1,spec_NarrowHidden.j6,bt,Za,Zo,rdn (own_reads ho),iN,m_shl (v:=(v:Int)),m_and (hs.ms.at _) hpm,d1,spec_NarrowHidden.j7,wr (n:=(v:Int) + 1),e1]
   ·have hnot:Rp.has (mSub 31 (pw (v:Int))) w=true ↔ w ≠ v:=by
     rcases has_all w hw (pw (v:Int)) with e | e
     ·rw [e,has_pw (by omega)]
      simp only [Bool.not_eq_true',decide_eq_false_iff_not]
      constructor <;> (intro h e; apply h; omega)
     ·exact absurd hpm e
    constructor
    ·rintro ((h | ⟨h1,h2⟩) | ⟨u,h1,h2⟩)
     ·exact .inl h
     ·subst h1
      exact .inr ⟨v,Nat.le_refl _,by omega,by rw [hx0]; congr 1; omega,hnot.1 h2⟩
     ·exact .inr ⟨u,by omega,h2⟩
    ·rintro (h | ⟨u,h1,h2,h3,h4⟩)
     ·exact .inl (.inl h)
     ·by_cases e:u=v
      ·subst e
       rw [hx0,List.cons.injEq] at h3
       exact .inl (.inr ⟨by omega,hnot.2 h4⟩)
      ·exact .inr ⟨u,by omega,h2,h3,h4⟩
  ·obtain ⟨H',a',e1,e2,e3,e4⟩:=ih (v + 1) fuel H a P (by omega) (by omega) (by omega) hp hc ho hs
   push_cast at e1
   refine ⟨H',a',?_,e2,e3,e4.congr fun x w hx=>?_⟩
   ·simp (disch:=omega) only [spec_NarrowHidden.l1,dt,Zt,b1,spec_NarrowHidden.j6,bf,Zf,spec_NarrowHidden.j7,wr (n:=(v:Int) + 1),e1]
   ·constructor
    ·rintro (h | ⟨u,h1,h2⟩)
     ·exact .inl h
     ·exact .inr ⟨u,by omega,h2⟩
    ·rintro (h | ⟨u,h1,h2,h3,h4⟩)
     ·exact .inl h
     ·refine .inr ⟨u,?_,h2,h3,h4⟩
      by_cases e:u=v
      ·subst e; rw [h3] at c; exact absurd rfl c
      ·omega
theorem Hidden_l0 {k:Nat} (hk:2000000 ≤ k) {H0:Hp} {ms t:Sl} {l:List Int} {n:Int} (hmk:masksOk n l=true) (hm:Reads .i64 H0 ms l) :
  ∀ (j line fuel:Nat) (H:Hp) (a:List Int) (P:Nat→Nat→Prop),(line:Int) + j=2 * n→j < fuel→H0 <+: H→Own 1 H0 H t (a.map (.int .i64))→Sub l a P →
   ∃ H' a',spec_NarrowHidden.l0 (callF PP orc k) k fuel ms n t line H=some (.sl 1 t,H')∧H0 <+: H'∧Own 1 H0 H' t (a'.map (.int .i64))∧Sub l a' (fun x w=>P x w ∨ ∃ ln u:Nat,line ≤ ln∧(ln:Int) < 2 * n∧1 ≤ u∧(u:Int) ≤ n∧lineHas n l ln u=[(x:Int)]∧w ≠ u):=by
 obtain ⟨l4,l16,lN,hN,n2,n4⟩:=masks_len hmk
 intro j
 induction j with
 | zero=>
  intro line fuel H a P hl hf hp ho hs
  obtain ⟨fuel,rfl⟩:=Zs fuel (by omega)
  refine ⟨H,a,?_,hp,ho,hs.congr fun x w hx=>⟨.inl,by rintro (h | ⟨ln,u,h1,h2,_⟩); exact h; omega⟩⟩
  simp (disch:=omega) only [spec_NarrowHidden.l0,spec_NarrowHidden.j2,dt,df,bt,bf,nt,nf,Za,Zy,Zx,Zt,Zf,Zn,Zz,Zi,Zo,wr,AV.toB,AV.toI,AV.toS,if_true]
 | succ j ih=>
  intro line fuel H a P hl hf hp ho hs
  obtain ⟨fuel,rfl⟩:=Zs fuel (by omega)
  obtain ⟨cs,H1,a1,a2,a3⟩:=specLineCells_own hk n (line:Int) H
  have hcb:cs.blk ≠ t.blk:=by have:=a3.blk; have:=own_lt' ho; omega
  obtain ⟨H2,a',b1,b2,b3,b4⟩:=Hidden_l1 (callF PP orc k) k (by omega) (spec_NarrowHidden.l0 (callF PP orc k) k fuel) hmk hm (by omega) hcb n.toNat 1 k H1 a P (by omega) (by omega) (by omega) (hp.trans a2) (own_reads a3) (own_pf ho a2) hs
  obtain ⟨H',a'',d1,d2,d3,d4⟩:=ih (line + 1) fuel H2 a' _ (by omega) (by omega) b2 b3 b4
  push_cast at d1
  refine ⟨H',a'',?_,d2,d3,d4.congr fun x w hx=>?_⟩
  ·simp only [Int.natCast_one] at b1
   simp (disch:=omega) only [spec_NarrowHidden.l0,dt,df,bt,bf,nt,nf,Za,Zy,Zx,Zt,Zf,Zn,Zz,Zi,Zo,wr,AV.toB,AV.toI,AV.toS,if_true,a1,b1,d1]
  ·constructor
   ·rintro ((h | ⟨u,h1,h2,h3,h4⟩) | ⟨ln,u,h1,h2⟩)
    ·exact .inl h
    ·exact .inr ⟨line,u,Nat.le_refl _,by omega,h1,h2,h3,h4⟩
    ·exact .inr ⟨ln,u,by omega,h2⟩
   ·rintro (h | ⟨ln,u,h1,h2,h3,h4,h5,h6⟩)
    ·exact .inl (.inl h)
    ·by_cases e:ln=line
     ·subst e; exact .inl (.inr ⟨u,h3,h4,h5,h6⟩)
     ·exact .inr ⟨ln,u,by omega,h2,h3,h4,h5,h6⟩
theorem specNarrowHidden_ok {k:Nat} (hk:2000010 ≤ k) {H:Hp} {ms:Sl} {l:List Int} {n:Int} (hb:-1 ≤ n∧n ≤ 5) (hm:Reads .i64 H ms l) (hl:l.length ≤ 1000) :
  ∃ t H',callF PP orc k spec_NarrowHidden.id [.sl 1 ms,.int .i64 n] H=some (.sl 1 t,H')∧H <+: H'∧Own 1 H H' t ((hiddenV n l).map (.int .i64)):=by
 obtain ⟨k,rfl⟩:=Zs k (by omega)
 rw [spec_NarrowHidden.call]
 have h1:=specMasksValid_any (show 2000000 ≤ k by omega) hb hm hl
 unfold hiddenV
 cases hv:masksOk n l with
 | false=>
  rw [hv] at h1
  rw [iN (by simp)]
  exact ⟨Sl.mk false H.length 0 0,H ++ [some (Blk.mk false [])],by simp only [spec_NarrowHidden.f,dt,df,bt,bf,nt,nf,Za,Zy,Zx,Zt,Zf,Zn,Zz,Zi,Zo,wr,AV.toB,AV.toI,AV.toS,if_true,h1],(List.prefix_append _ _),own_new 1 H [] 0 rfl⟩
 | true=>
  rw [hv] at h1
  rw [ip rfl]
  obtain ⟨l4,l16,lN,hN,n2,n4⟩:=masks_len hv
  have hM:=masks_M hv
  have h2:=l6Copy_ok (show 1 ≤ k by omega) hm hl
  have hnew:=own_new 1 H (l.map (.int .i64)) l.length (by simp)
  obtain ⟨H',a',b1,b2,b3,b4⟩:=Hidden_l0 (show 2000000 ≤ k by omega) hv hm (2 * n).toNat 0 k (H ++ [some (Blk.mk false (l.map (.int .i64)))]) l _ (by omega) (by omega) (List.prefix_append _ _) hnew (Sub.refl hM)
  have e:a'=subAll l (PH n l):=(b4.congr fun x w hx=>(show _ ↔ PH n l x w from ⟨by rintro (h | ⟨ln,u,_,h⟩); exact h.elim; exact ⟨ln,u,h⟩,fun ⟨ln,u,h⟩=>.inr ⟨ln,u,by omega,h⟩⟩)).eq hM
  subst e
  refine ⟨_,H',?_,b2,b3⟩
  simp only [Int.natCast_zero] at b1
  simp only [spec_NarrowHidden.f,dt,df,bt,bf,nt,nf,Za,Zy,Zx,Zt,Zf,Zn,Zz,Zi,Zo,wr,AV.toB,AV.toI,AV.toS,if_true,h1,h2,b1]
end Go.Proofs.Ytjojhbdghhmeeaa.Rp
