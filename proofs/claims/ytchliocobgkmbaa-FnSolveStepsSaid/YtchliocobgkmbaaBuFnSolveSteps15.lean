/- Texts for the row of the law FnSolveSteps, part 15: the plain machine, the program's functions on it, what they come to. No conditions. -/
import Derived.Test.YtchliocobgkmbaaBuFnSolveSteps14
import Derived.Test.YtchliocobgkmbaaBuFnSolveSteps4
import Derived.Test.YtchliocobgkmbaaBuFnSolveSteps5
import Derived.Test.YtchliocobgkmbaaBuFnSolveSteps6
set_option linter.unusedVariables false
set_option linter.unusedSimpArgs false
namespace Go.Proofs.Ytchliocobgkmbaa.Rp
open Go Go.RowKit Go.Proofs.Ytchliocobgkmbaa.Ab
theorem Rule_l6 (rec:Rec) (k:Nat) (L0:Nat→Nat→Sl→Int→Int→Sl→Int→Int→Int→Sl→Int→Hp→An) {b:Nat} {xs t:Sl} {n x3 many kk c y0 y2:Int} {y1:Sl} {H:Hp} {cells:List Int} (ht:Reads .i64 H t cells) (hl:cells.length ≤ 1000) :
  ∀ (j i fuel:Nat) (d:Bool),i + j=cells.length→j < fuel→spec_l20Rule.l6 rec k L0 fuel b 0 xs n x3 t many kk c d i y0 y1 y2 H=spec_l20Rule.j9 rec k L0 b 0 xs n x3 t many kk c (d && !(cells.drop i).contains c) y0 y1 y2 H:=by
 have hlen:=ht.len
 intro j
 induction j with
 | zero=>
  intro i fuel d hi hf
  obtain ⟨fuel,rfl⟩:=Zs fuel (by omega)
  rw [List.drop_eq_nil_of_le (by omega)]
  simp (disch:=omega) only [spec_l20Rule.l6,dt,df,bt,bf,nt,nf,Za,Zy,Zx,Zt,Zf,Zn,Zz,Zi,Zo,wr,AV.toB,AV.toI,AV.toS,if_true,List.contains_nil,Bool.and_true]
 | succ j ih=>
  intro i fuel d hi hf
  obtain ⟨fuel,rfl⟩:=Zs fuel (by omega)
  have h2:i < cells.length:=by omega
  have hd:cells.drop i=cells.getD i 0 :: cells.drop (i + 1):=by
   rw [List.drop_eq_getElem_cons h2,List.getD_eq_getElem?_getD,List.getElem?_eq_getElem h2]; rfl
  rw [hd,List.contains_cons]
  cases d with
  | true=>
   have h5:=ih (i + 1) fuel (cells.getD i 0 != c) (by omega) (by omega)
   push_cast at h5
   simp (disch:=omega) only [spec_l20Rule.l6,spec_l20Rule.j8,dt,df,Za,Zt,Zf,Zn,Zo,wr,rdn ht,h5]
   congr 1
   simp only [bne,Bool.true_and,Bool.not_or]
   congr 2
   rw [Bool.eq_iff_iff,beq_iff_eq,beq_iff_eq]; exact eq_comm
  | false=>
   have h5:=ih (i + 1) fuel false (by omega) (by omega)
   push_cast at h5
   simp (disch:=omega) only [spec_l20Rule.l6,spec_l20Rule.j8,dt,df,Za,Zt,Zf,Zn,Zo,wr,h5,Bool.false_and]
theorem Rule_l5 {k:Nat} (hk:20 ≤ k) {b:Nat} {l:List Int} {n x3:Int} (hn:2 ≤ n∧n ≤ 4) (hx3:x3 < 1000000) {p p0:Nat} (hp:p + 4 ≤ p0) (hp0:p0 ≤ 1000000000) {H0 H:Hp} (hadv:Adv b H0 H) (hb:b < H0.length) (hrd:RD b H l p) {y0 y2:Int} {y1 xs cs:Sl} {g cells:List Int} (hx:Reads .i64 H xs g) (hxb:xs.blk ≠ b) (hg:fullG g n) (hc:Reads .i64 H cs cells) (hcb:H0.length ≤ cs.blk) (hcl:cs.blk < H.length) (hcn:cs.nil=false) (h1:1 ≤ cells.length) (h4:cells.length ≤ 4) (hin:CellsIn n cells) :
  ∀ (j i fuel:Nat) (s q:Int),i + j=cells.length→j < fuel→(i:Int) ≤ s→s ≤ n * i→1 ≤ q→q ≤ n ^ i →
   RuleDraw b l n x3 p0 H0 (spec_l20Rule.l5 (callF PP orc k) k fuel b 0 xs n x3 cs s q i y0 y1 y2 H):=by
 have hlen:=hc.len
 have hxl:=hx.len
 have h7:=n7 (n:=n) (by omega)
 have hgl:(g.length:Int)=n * n:=by have:=hg.1; omega
 intro j
 induction j with
 | zero=>
  intro i fuel s q hi hf s1 s2 q1 q2
  obtain ⟨fuel,rfl⟩:=Zs fuel (by omega)
  have hi4:i=1 ∨ i=2 ∨ i=3 ∨ i=4:=by omega
  have e4:n ^ 4=n * n * n * n:=by simp [Int.pow_succ]
  have hb2:s ≤ n * n * n * n∧q ≤ n * n * n * n:=by
   have:n=2 ∨ n=3 ∨ n=4:=by omega
   rcases this with rfl | rfl | rfl <;> rcases hi4 with rfl | rfl | rfl | rfl <;> simp at s2 q2 <;> omega
  have:=Rule_j7 hk hn hx3 hp hp0 hadv hb hrd (y0:=y0) (y1:=y1) (y2:=y2) hx hxb hg hc hcb hcl hcn h1 h4 hin (by omega) hb2.1 q1 hb2.2
  simp (disch:=omega) only [spec_l20Rule.l5,dt,df,bt,bf,nt,nf,Za,Zy,Zx,Zt,Zf,Zn,Zz,Zi,Zo,wr,AV.toB,AV.toI,AV.toS,if_true]
  exact this
 | succ j ih=>
  intro i fuel s q hi hf s1 s2 q1 q2
  obtain ⟨fuel,rfl⟩:=Zs fuel (by omega)
  have h2:i < cells.length:=by omega
  have a:=hin.1 _ (mem_getD h2)
  have hlt:(cells.getD i 0).toNat < g.length:=by omega
  have v:=hg.2 _ (mem_getD hlt)
  have hm:mx 1 (g.getD (cells.getD i 0).toNat 0)=g.getD (cells.getD i 0).toNat 0:=by unfold mx; split <;> omega
  generalize hv:g.getD (cells.getD i 0).toNat 0=w at *
  have hni:n * (i:Int) ≤ 16:=by
   have:n=2 ∨ n=3 ∨ n=4:=by omega
   rcases this with rfl | rfl | rfl <;> omega
  have hns:n * ((i + 1:Nat):Int)=n * i + n:=by push_cast; rw [Int.mul_add,Int.mul_one]
  have hqw:q * w ≤ n ^ i * n:=Int.mul_le_mul q2 v.2 (by omega) (by omega)
  have hps:n ^ (i + 1)=n ^ i * n:=Int.pow_succ _ _
  have hq1:1 ≤ q * w:=by have:=Int.mul_le_mul q1 v.1 (by omega) (by omega); simpa using this
  have hpi:n ^ i * n ≤ 256:=by
   have hi3:i=0 ∨ i=1 ∨ i=2 ∨ i=3:=by omega
   have:n=2 ∨ n=3 ∨ n=4:=by omega
   rcases this with rfl | rfl | rfl <;> rcases hi3 with rfl | rfl | rfl | rfl <;> decide
  have h5:=ih (i + 1) fuel (s + w) (q * w) (by omega) (by omega) (by omega) (by omega) hq1 (by omega)
  push_cast at h5
  simp (disch:=omega) only [spec_l20Rule.l5,dt,df,bt,bf,nt,nf,Za,Zy,Zx,Zt,Zf,Zn,Zz,Zi,Zo,wr,AV.toB,AV.toI,AV.toS,if_true,rdn hc,rdn hx,hv,hm]
  exact h5
theorem step4 {n w:Int} (hn:2 ≤ n∧n ≤ 4) (h0:0 ≤ w) (h1:w < 4):∃ y,(([.int .i64 1,.int .i64 (-1),.int .i64 n,.int .i64 (0 - n)]:List AV)[w.toNat * 1]?)=some (.int .i64 y)∧-4 ≤ y∧y ≤ 4:=by
 have:w=0 ∨ w=1 ∨ w=2 ∨ w=3:=by omega
 rcases this with rfl | rfl | rfl | rfl
 ·exact ⟨1,rfl,by omega,by omega⟩
 ·exact ⟨-1,rfl,by omega,by omega⟩
 ·exact ⟨n,rfl,by omega,by omega⟩
 ·exact ⟨0 - n,rfl,by omega,by omega⟩
theorem Rule_l0 {k:Nat} (hk:100 ≤ k) {b:Nat} {l:List Int} {n x3:Int} (hn:2 ≤ n∧n ≤ 4) (hx3:x3 < 1000000) {p0:Nat} (hp0:p0 ≤ 1000000000) {H0:Hp} (hb:b < H0.length) {y0 y2 many:Int} {y1 xs:Sl} {g:List Int} (hx:Reads .i64 H0 xs g) (hxb:xs.blk ≠ b) (hg:fullG g n) (hm:2 ≤ many∧many ≤ 4) :
  ∀ (j kk fuel:Nat) (H:Hp) (t:Sl) (cells:List Int) (p:Nat),(kk:Int) + j=many * 4→j < fuel→Adv b H0 H→RD b H l p→p + 2 * j + 6 ≤ p0→Own 1 H0 H t (cells.map (.int .i64))→1 ≤ cells.length→(cells.length:Int) ≤ many→CellsIn n cells →
   RuleDraw b l n x3 p0 H0 (spec_l20Rule.l0 (callF PP orc k) k fuel b 0 xs n x3 t many kk y0 y1 y2 H):=by
 have h7:=n7 (n:=n) (by omega)
 have hgl:(g.length:Int)=n * n:=by have:=hg.1; omega
 intro j
 induction j with
 | zero=>
  intro kk fuel H t cells p hkk hf hadv hrd hp ho h1 hl hin
  obtain ⟨fuel,rfl⟩:=Zs fuel (by omega)
  have:=Rule_l5 (show 20 ≤ k by omega) hn hx3 (p:=p) (p0:=p0) (by omega) hp0 hadv hb hrd (y0:=y0) (y1:=y1) (y2:=y2) (hadv.reads hxb hx) hxb hg (own_reads ho) ho.blk (own_lt' ho) ho.nn h1 (by omega) hin cells.length 0 k 0 1 (by omega) (by omega) (by omega) (by omega) (by omega) (by simp)
  simp (disch:=omega) only [spec_l20Rule.l0,spec_l20Rule.j1,spec_l20Rule.j3,dt,df,bt,bf,nt,nf,Za,Zy,Zx,Zt,Zf,Zn,Zz,Zi,Zo,wr,AV.toB,AV.toI,AV.toS,if_true]
  exact this
 | succ j ih=>
  intro kk fuel H t cells p hkk hf hadv hrd hp ho h1 hl hin
  obtain ⟨fuel,rfl⟩:=Zs fuel (by omega)
  have htl:=(own_reads ho).len
  by_cases cm:(cells.length:Int) < many
  ·obtain ⟨v,H1,a1,a2,a3,a4,a5⟩:=pick_adv (show 1 ≤ k by omega) hrd (by omega) (t.len:Int)
   have hv:=a5 (by omega)
   have htb:t.blk ≠ b:=by have:=ho.blk; omega
   have r1:=a3.reads htb (own_reads ho)
   obtain ⟨w,H2,b1,b2,b3,b4,b5⟩:=pick_adv (show 1 ≤ k by omega) a2 (by omega) 4
   have hw:=b5 (by omega)
   have r2:=b3.reads htb r1
   have hst:=stable_ok r1 r2 (show v.toNat < cells.length by omega)
   obtain ⟨y,d1,d2,d3⟩:=step4 hn b4 hw
   have hcv:=hin.1 _ (mem_getD (show v.toNat < cells.length by omega))
   have adv2:=hadv.trans (a3.trans b3)
   have ho2:=(a3.trans b3).own hb ho
   generalize hc:cells.getD v.toNat 0 + y=c
   have hcont:∀ d:Bool,(d=true→0 ≤ c∧c < n * n)→RuleDraw b l n x3 p0 H0 (spec_l20Rule.j9 (callF PP orc k) k (spec_l20Rule.l0 (callF PP orc k) k fuel) b 0 xs n x3 t many kk c (d && !(cells.drop 0).contains c) y0 y1 y2 H2):=by
    intro d hd
    cases hf':(d && !(cells.drop 0).contains c) with
    | false=>
     have:=ih (kk + 1) fuel H2 t cells _ (by omega) (by omega) adv2 b2 (by omega) ho2 h1 hl hin
     push_cast at this
     simp (disch:=omega) only [spec_l20Rule.j9,spec_l20Rule.j11,dt,df,bt,bf,nt,nf,Za,Zy,Zx,Zt,Zf,Zn,Zz,Zi,Zo,wr,AV.toB,AV.toI,AV.toS,if_true]
     exact this
    | true=>
     rw [Bool.and_eq_true,List.drop_zero,Bool.not_eq_true',← Bool.not_eq_true,List.contains_iff_mem] at hf'
     have hd':=hd hf'.1
     have hB:(H0.take b) <+: H0:=List.take_prefix _ _
     obtain ⟨H3,e1,e2,e3,e4,e5⟩:=own_app1 (H0:=[]) ⟨ho2.nn,ho2.off,Nat.zero_le _,ho2.get,ho2.len⟩ (List.nil_prefix) c (by omega)
     have o3:Own 1 H0 H3 (Sl.mk false H2.length 0 (t.len + 1)) ((cells ++ [c]).map (.int .i64)):=⟨e3.nn,e3.off,by have:=adv2.le; simp only; omega,e3.get,e3.len⟩
     have adv3:Adv b H0 H3:=by
      refine ⟨fun d x hdb hdx=>e4 d x ?_ (adv2.but d x hdb hdx),by have:=adv2.le; omega⟩
      have:=(List.getElem?_eq_some_iff.1 hdx).1
      have:=ho.blk
      omega
     have rd3:RD b H3 l (p + 1 + 1):=by
      refine b2.but e4 (by have:=ho.blk; omega) fun s hs hl=>?_
      intro es
      obtain ⟨s',q1,q2,q3⟩:=b2.ex
      rw [q1] at hs
      simp only [Option.some.injEq,Blk.mk.injEq,List.cons.injEq,AV.sl.injEq,true_and,and_true] at hs
      subst hs
      have hc0:=q2.cell 0 (List.length_pos_iff.2 hl)
      unfold Hp.cell at hc0
      rw [es,ho2.get] at hc0
      simp only [ho2.off] at hc0
      have hmem:=List.mem_of_getElem? hc0
      obtain ⟨z,_,hz⟩:=List.mem_map.1 hmem
      cases hz
     have:=ih (kk + 1) fuel H3 _ (cells ++ [c]) _ (by omega) (by omega) adv3 rd3 (by omega) o3 (by simp) (by simp; omega) ⟨fun x hx=>by
      rcases List.mem_append.1 hx with hx | hx
      ·exact hin.1 x hx
      ·simp at hx; rw [hx]; exact hd',by
      rw [List.nodup_append]
      refine ⟨hin.2,by simp,fun x hx y hy=>?_⟩
      simp at hy; subst hy
      intro e; subst e; exact hf'.2 hx⟩
     push_cast at this
     simp (disch:=omega) only [spec_l20Rule.j9,spec_l20Rule.j11,dt,df,bt,bf,nt,nf,Za,Zy,Zx,Zt,Zf,Zn,Zz,Zi,Zo,wr,AV.toB,AV.toI,AV.toS,if_true,e1]
     exact this
   have hl6:=fun d=>Rule_l6 (callF PP orc k) k (spec_l20Rule.l0 (callF PP orc k) k fuel) (b:=b) (xs:=xs) (n:=n) (x3:=x3) (many:=many) (kk:=kk) (c:=c) (y0:=y0) (y1:=y1) (y2:=y2) r2 (by omega) cells.length 0 k d (by omega) (by omega)
   simp only [Int.natCast_zero] at hl6
   by_cases c0:c ≥ 0
   ·have h9:=hcont (decide (c < n * n)) (fun h=>⟨c0,by simpa using h⟩)
    rw [← hl6] at h9
    simp (disch:=omega) only [spec_l20Rule.l0,spec_l20Rule.j1,spec_l20Rule.j2,spec_l20Rule.j4,dt,df,Za,Zt,Zf,Zo,wr (n:=many * 4),wr (n:=0 - n),wr (n:=c),wr (n:=n * n),a1,b1,AV.toI,if_true,rdn r1,hst,d1,AV.cell,hc]
    exact h9
   ·have h9:=hcont false (fun h=>by cases h)
    rw [← hl6] at h9
    simp (disch:=omega) only [spec_l20Rule.l0,spec_l20Rule.j1,spec_l20Rule.j2,spec_l20Rule.j4,dt,df,Za,Zt,Zf,Zo,wr (n:=many * 4),wr (n:=0 - n),wr (n:=c),wr (n:=n * n),a1,b1,AV.toI,if_true,rdn r1,hst,d1,AV.cell,hc]
    exact h9
  ·have:=Rule_l5 (show 20 ≤ k by omega) hn hx3 (p:=p) (p0:=p0) (by omega) hp0 hadv hb hrd (y0:=y0) (y1:=y1) (y2:=y2) (hadv.reads hxb hx) hxb hg (own_reads ho) ho.blk (own_lt' ho) ho.nn h1 (by omega) hin cells.length 0 k 0 1 (by omega) (by omega) (by omega) (by omega) (by omega) (by simp)
   simp (disch:=omega) only [spec_l20Rule.l0,spec_l20Rule.j1,spec_l20Rule.j3,dt,df,bt,bf,nt,nf,Za,Zy,Zx,Zt,Zf,Zn,Zz,Zi,Zo,wr,AV.toB,AV.toI,AV.toS,if_true]
   exact this
theorem l20Rule_ok {k:Nat} (hk:200 ≤ k) {b:Nat} {l:List Int} {n x3:Int} (hn:2 ≤ n∧n ≤ 4) (hx3:x3 < 1000000) {p:Nat} {H:Hp} (hrd:RD b H l p) (hp:p ≤ 999990000) {xs:Sl} {g:List Int} (hx:Reads .i64 H xs g) (hxb:xs.blk ≠ b) (hg:fullG g n) :
  RuleDraw b l n x3 (p + 50) H (callF PP orc k spec_l20Rule.id [.ptr b 0,.sl 1 xs,.int .i64 n,.int .i64 x3] H):=by
 obtain ⟨k,rfl⟩:=Zs k (by omega)
 rw [spec_l20Rule.call]
 have h7:=n7 (n:=n) (by omega)
 have hnn:1 ≤ n * n:=by
  have:n=2 ∨ n=3 ∨ n=4:=by omega
  rcases this with rfl | rfl | rfl <;> decide
 obtain ⟨v,H1,a1,a2,a3,a4,a5⟩:=pick_adv (show 1 ≤ k by omega) hrd (by omega) (n * n)
 have hv:=a5 hnn
 have q1:H1 <+: H1 ++ [some (Blk.mk false (([v]:List Int).map (.int .i64)))]:=List.prefix_append _ _
 have hnew:=own_new 1 H1 (([v]:List Int).map (.int .i64)) 1 rfl
 obtain ⟨w,H2,b1,b2,b3,b4,b5⟩:=pick_adv (show 1 ≤ k by omega) (a2.pf q1) (by omega) 3
 have hw:=b5 (by omega)
 have adv2:Adv b H H2:=(a3.trans (pf_adv q1)).trans b3
 have hb1:b < H1.length:=a2.lt
 have o2:Own 1 H H2 (Sl.mk false H1.length 0 1) (([v]:List Int).map (.int .i64)):=by
  have:=b3.own (B:=H1) hb1 hnew
  exact ⟨this.nn,this.off,by have:=a3.le; simp only; omega,this.get,this.len⟩
 have:=Rule_l0 (show 100 ≤ k by omega) hn hx3 (p0:=p + 50) (by omega) hrd.lt (l:=l) (y0:=0) (y1:=Sl.none) (y2:=0) (many:=2 + w) hx hxb hg ⟨by omega,by omega⟩ ((2 + w) * 4).toNat 0 k H2 _ [v] _ (by omega) (by omega) adv2 b2 (by omega) o2 (by simp) (by simp; omega) ⟨by simp; omega,by simp⟩
 simp only [List.map_cons,List.map_nil] at b1
 simp (disch:=omega) only [spec_l20Rule.f,dt,df,bt,bf,nt,nf,Za,Zy,Zx,Zt,Zf,Zn,Zz,Zi,Zo,wr,AV.toB,AV.toI,AV.toS,if_true,a1,b1]
 exact this
def regsOk (l:List Int) (n:Int):Bool:=decide (2 ≤ n∧n ≤ 4) && decide ((l.length:Int)=n * n) && l.all fun v=>decide (0 ≤ v) && decide (v < n)
theorem regsOk_iff (l:List Int) (n:Int):regsOk l n=true ↔ (2 ≤ n∧n ≤ 4)∧(l.length:Int)=n * n∧∀ v ∈ l,0 ≤ v∧v < n:=by
 simp [regsOk,and_assoc]
theorem specRegionsValid_l0 {k:Nat} (hk:1 ≤ k) {H:Hp} {s:Sl} {l:List Int} {m:Int} (hr:Reads .i64 H s l) (hl:l.length ≤ 1048576) :
  ∀ (j i n:Nat),i + j=l.length→j < n→spec_RegionsValid.l0 (callF PP orc k) k n s m i H=some (.bool (decide (2 ≤ m∧m ≤ 4) && decide ((l.length:Int)=m * m) && (l.drop i).all fun v=>decide (0 ≤ v) && decide (v < m)),H):=by
 intro j
 induction j with
 | zero=>
  intro i n hi hn
  obtain ⟨n,rfl⟩:=Zs n (by omega)
  have h1:=hr.len
  by_cases c:2 ≤ m∧m ≤ 4
  ·have h2:IntKind.i64.wrap (m * m)=m * m:=by
    have:m=2 ∨ m=3 ∨ m=4:=by omega
    rcases this with rfl | rfl | rfl <;> exact wr (by decide) (by decide)
   simp only [spec_RegionsValid.l0,h1,show ¬ ((i:Int) < (l.length:Int)) by omega,decide_false,Zf,spec_RegionsValid.j1,l1In_ok hk,Zo,AV.toB,c,and_self,decide_true,Zt,h2,List.drop_eq_nil_of_le (show l.length ≤ i by omega),List.all_nil,Bool.and_true,Bool.true_and]
   by_cases c2:(l.length:Int)=m * m <;> simp [c2]
  ·simp [spec_RegionsValid.l0,h1,show ¬ i < l.length by omega,spec_RegionsValid.j1,l1In_ok hk,AV.toB,c]
 | succ j ih=>
  intro i n hi hn
  obtain ⟨n,rfl⟩:=Zs n (by omega)
  have h1:=hr.len
  have h2:i < l.length:=by omega
  have h3:=reads_at hr i h2
  have h4:=wrs (i:=i) (by omega)
  have h5:=ih (i + 1) n (by omega) (by omega)
  push_cast at h5
  rw [all_drop l i h2]
  by_cases c:2 ≤ m∧m ≤ 4
  ·have hw:IntKind.i64.wrap (m - 1)=m - 1:=wr (by omega) (by omega)
   by_cases c1:0 ≤ l[i]∧l[i] ≤ m - 1
   ·have e1:(decide (0 ≤ l[i]) && decide (l[i] < m))=true:=by simp; omega
    rw [e1,Bool.true_and]
    simp only [spec_RegionsValid.l0,h1,show ((i:Int) < (l.length:Int)) by omega,show (0:Int) ≤ (i:Int) by omega,decide_true,Za,Zt,Zn,Nat.mul_one,h3,Zo,hw,l1In_ok hk,AV.toB,c1,and_self,Zy,Zf,h4,h5]
   ·have e1:(decide (0 ≤ l[i]) && decide (l[i] < m))=false:=by
     cases d:(decide (0 ≤ l[i]) && decide (l[i] < m)) with
     | false=>rfl
     | true=>simp at d; omega
    rw [e1,Bool.false_and,Bool.and_false]
    simp only [spec_RegionsValid.l0,h1,show ((i:Int) < (l.length:Int)) by omega,show (0:Int) ≤ (i:Int) by omega,decide_true,Za,Zt,Zn,Nat.mul_one,h3,Zo,hw,l1In_ok hk,AV.toB,c1,decide_false,Zx]
  ·simp only [c,decide_false,Bool.false_and] at h5 ⊢
   by_cases c1:0 ≤ l[i]∧l[i] ≤ IntKind.i64.wrap (m - 1)
   ·simp only [spec_RegionsValid.l0,h1,show ((i:Int) < (l.length:Int)) by omega,show (0:Int) ≤ (i:Int) by omega,decide_true,Za,Zt,Zn,Nat.mul_one,h3,Zo,l1In_ok hk,AV.toB,c1,and_self,Zy,Zf,h4,h5]
   ·simp only [spec_RegionsValid.l0,h1,show ((i:Int) < (l.length:Int)) by omega,show (0:Int) ≤ (i:Int) by omega,decide_true,Za,Zt,Zn,Nat.mul_one,h3,Zo,l1In_ok hk,AV.toB,c1,decide_false,Zx]
theorem specRegionsValid_ok {k:Nat} (hk:2000000 ≤ k) {H:Hp} {s:Sl} {l:List Int} (hr:Reads .i64 H s l) (hl:l.length ≤ 1048576) (m:Int) :
  callF PP orc k spec_RegionsValid.id [.sl 1 s,.int .i64 m] H=some (.bool (regsOk l m),H):=by
 obtain ⟨k,rfl⟩:=Zs k (by omega)
 rw [spec_RegionsValid.call]
 have:=specRegionsValid_l0 (k:=k) (by omega) (m:=m) hr hl l.length 0 k (by omega) (by omega)
 simpa [spec_RegionsValid.f,regsOk] using this
def idxFrom (r:Int):List Int→Nat→List Int
 | [],_=>[]
 | v :: vs,i=>if v=r then (i:Int) :: idxFrom r vs (i + 1) else idxFrom r vs (i + 1)
def regCells (l:List Int) (r:Int):List Int:=idxFrom r l 0
theorem idx_drop (r:Int) (l:List Int) (i:Nat) (h:i < l.length):idxFrom r (l.drop i) i=if l[i]=r then (i:Int) :: idxFrom r (l.drop (i + 1)) (i + 1) else idxFrom r (l.drop (i + 1)) (i + 1):=by
 rw [List.drop_eq_getElem_cons h]; rfl
theorem specRegionCells_l0 {k:Nat} (hk:2000000 ≤ k) {H0:Hp} {s:Sl} {l:List Int} {n r:Int} (hs:Reads .i64 H0 s l) (hl:l.length ≤ 1000) (hv:regsOk l n=true) :
  ∀ (j i fuel:Nat) (H:Hp) (t:Sl) (a:List Int),i + j=l.length→j < fuel→H0 <+: H→a.length ≤ i→Own 1 H0 H t (a.map (.int .i64)) →
   ∃ t' H',spec_RegionCells.l0 (callF PP orc k) k fuel s n r t i H=some (.sl 1 t',H')∧H0 <+: H'∧Own 1 H0 H' t' ((a ++ idxFrom r (l.drop i) i).map (.int .i64)):=by
 intro j
 induction j with
 | zero=>
  intro i fuel H t a hi hf hp ha ho
  obtain ⟨fuel,rfl⟩:=Zs fuel (by omega)
  refine ⟨t,H,?_,hp,by rw [List.drop_eq_nil_of_le (by omega)]; simpa [idxFrom] using ho⟩
  simp [spec_RegionCells.l0,spec_RegionCells.j1,spec_RegionCells.j3,hs.len,show ¬ i < l.length by omega]
 | succ j ih=>
  intro i fuel H t a hi hf hp ha ho
  obtain ⟨fuel,rfl⟩:=Zs fuel (by omega)
  have h1:=hs.len
  have h2:i < l.length:=by omega
  have h3:=reads_at (pf_reads hp hs) i h2
  have h4:=wrs (i:=i) (by omega)
  have hlen:t.len=a.length:=by have:=ho.len; simpa using this
  have q0:(0:Int) ≤ (i:Int):=by omega
  have q1:(i:Int) < (l.length:Int):=by omega
  have hval:=specRegionsValid_ok hk (pf_reads hp hs) (by omega) n
  rw [idx_drop r l i h2]
  by_cases c:l[i]=r
  ·obtain ⟨H1,a1,a2,a3,_⟩:=own_app1 ho hp (i:Int) (by omega)
   obtain ⟨t',H',b1,b2,b3⟩:=ih (i + 1) fuel H1 _ (a ++ [(i:Int)]) (by omega) (by omega) a2 (by simp; omega) a3
   push_cast at b1
   have c':(l[i] == r)=true:=by simpa using c
   refine ⟨t',H',?_,b2,by rw [if_pos c]; simpa using b3⟩
   simp only [spec_RegionCells.l0,spec_RegionCells.j1,spec_RegionCells.j2,spec_RegionCells.j4,hval,hv,AV.toB,h1,q0,q1,decide_true,Za,Zt,Zn,Nat.mul_one,h3,Zo,c',a1,h4,b1]
  ·obtain ⟨t',H',b1,b2,b3⟩:=ih (i + 1) fuel H t a (by omega) (by omega) hp (by omega) ho
   push_cast at b1
   have c':(l[i] == r)=false:=by simpa using c
   refine ⟨t',H',?_,b2,by rw [if_neg c]; exact b3⟩
   simp only [spec_RegionCells.l0,spec_RegionCells.j1,spec_RegionCells.j2,spec_RegionCells.j4,hval,hv,AV.toB,h1,q0,q1,decide_true,Za,Zt,Zf,Zn,Nat.mul_one,h3,Zo,c',h4,b1]
theorem specRegionCells_ok {k:Nat} (hk:2000001 ≤ k) {H:Hp} {s:Sl} {l:List Int} {n r:Int} (hs:Reads .i64 H s l) (hv:regsOk l n=true) :
  ∃ t H',callF PP orc k spec_RegionCells.id [.sl 1 s,.int .i64 n,.int .i64 r] H=some (.sl 1 t,H')∧H <+: H'∧Own 1 H H' t ((regCells l r).map (.int .i64)):=by
 obtain ⟨k,rfl⟩:=Zs k (by omega)
 rw [spec_RegionCells.call]
 obtain ⟨⟨n1,n2⟩,n3,n4⟩:=(regsOk_iff l n).1 hv
 have hl:l.length ≤ 16:=by
  have:n=2 ∨ n=3 ∨ n=4:=by omega
  rcases this with rfl | rfl | rfl <;> omega
 obtain ⟨t,H',a1,a2,a3⟩:=specRegionCells_l0 (show 2000000 ≤ k by omega) (r:=r) hs (by omega) hv l.length 0 k (H ++ [some (Blk.mk false [])]) (Sl.mk false H.length 0 0) [] (by omega) (by omega) (List.prefix_append _ _) (by simp) (own_new 1 H [] 0 rfl)
 exact ⟨t,H',a1,a2,by simpa [regCells] using a3⟩
def boxes:List Int:=[0,0,1,1,0,0,1,1,2,2,3,3,2,2,3,3]
theorem boxes_ok:regsOk boxes 4=true:=by decide
def boxRules:List V:=[(1,[0,1,4,5],0),(1,[2,3,6,7],0),(1,[8,9,12,13],0),(1,[10,11,14,15],0)]
theorem box_at:∀ i,i < 16→IntKind.i64.wrap ((IntKind.i64.wrap ((IntKind.i64.wrap (((i:Nat):Int).tdiv 8)) * 2)) + (IntKind.i64.wrap ((((i:Nat):Int).tmod 4:Int).tdiv 2)))=boxes.getD i 0:=by decide +kernel
theorem boxRules_at:∀ r,r < 4→boxRules.take (r + 1)=boxRules.take r ++ [(1,regCells boxes ((r:Nat):Int),0)]∧(regCells boxes ((r:Nat):Int)).length=4:=by decide +kernel
theorem specBox_l0 (rec:Rec) (k:Nat) {H0:Hp}:∀ (j i fuel:Nat) (H:Hp) (t:Sl),i + j=16→j < fuel→H0 <+: H→Own 1 H0 H t ((boxes.take i).map (.int .i64)) →
   ∃ t' H',spec_BoxRegions.l0 rec k fuel t i H=some (.sl 1 t',H')∧H0 <+: H'∧Own 1 H0 H' t' (boxes.map (.int .i64)):=by
 intro j
 induction j with
 | zero=>
  intro i fuel H t hi hf hp ho
  obtain ⟨fuel,rfl⟩:=Zs fuel (by omega)
  refine ⟨t,H,?_,hp,by rw [show i=16 by omega] at ho; exact ho⟩
  simp (disch:=omega) only [spec_BoxRegions.l0,spec_BoxRegions.j1,dt,df,bt,bf,nt,nf,Za,Zy,Zx,Zt,Zf,Zn,Zz,Zi,Zo,wr,AV.toB,AV.toI,AV.toS,if_true]
 | succ j ih=>
  intro i fuel H t hi hf hp ho
  obtain ⟨fuel,rfl⟩:=Zs fuel (by omega)
  have htl:t.len=i:=by have:=ho.len; simp [boxes] at this; omega
  obtain ⟨H1,a1,a2,a3,a4,a5⟩:=own_app1 ho hp (boxes.getD i 0) (by omega)
  have e:boxes.take i ++ [boxes.getD i 0]=boxes.take (i + 1):=by
   rw [List.take_succ_eq_append_getElem (show i < boxes.length by simp [boxes]; omega),List.getD_eq_getElem?_getD,List.getElem?_eq_getElem (show i < boxes.length by simp [boxes]; omega)]; rfl
  rw [e] at a3
  obtain ⟨t',H',b1,b2,b3⟩:=ih (i + 1) fuel H1 _ (by omega) (by omega) a2 a3
  push_cast at b1
  refine ⟨t',H',?_,b2,b3⟩
  have h4:=wrs (i:=i) (by omega)
  simp only [spec_BoxRegions.l0,dt (show (i:Int) < 16 by omega),Zt,box_at i (by omega),a1,Zo,h4,b1]
theorem specBoxRegions_ok {k:Nat} (hk:100 ≤ k) (H:Hp):∃ t H',callF PP orc k spec_BoxRegions.id [] H=some (.sl 1 t,H')∧H <+: H'∧Own 1 H H' t (boxes.map (.int .i64)):=by
 obtain ⟨k,rfl⟩:=Zs k (by omega)
 rw [spec_BoxRegions.call]
 exact specBox_l0 (callF PP orc k) k 16 0 k (H ++ [some (Blk.mk false [])]) (Sl.mk false H.length 0 0) (by omega) (by omega) (List.prefix_append _ _) (own_new 1 H [] 0 rfl)
theorem specRR_l0 {k:Nat} (hk:2000001 ≤ k) {H0:Hp} {s:Sl} (hs:Reads .i64 H0 s boxes) :
  ∀ (j i fuel:Nat) (H:Hp) (t:Sl) (qs:List R),i + j=4→j < fuel→H0 <+: H→WR H0 H t qs→qs.map R.val=boxRules.take i →
   ∃ t' qs' H',spec_RegionRules.l0 (callF PP orc k) k fuel s 4 t i H=some (.tup [.sl 3 t',.bool true],H')∧H0 <+: H'∧WR H0 H' t' qs'∧qs'.map R.val=boxRules:=by
 intro j
 induction j with
 | zero=>
  intro i fuel H t qs hi hf hp ho hv
  obtain ⟨fuel,rfl⟩:=Zs fuel (by omega)
  refine ⟨t,qs,H,?_,hp,ho,by rw [hv,show i=4 by omega]; rfl⟩
  simp (disch:=omega) only [spec_RegionRules.l0,spec_RegionRules.j2,dt,df,bt,bf,nt,nf,Za,Zy,Zx,Zt,Zf,Zn,Zz,Zi,Zo,wr,AV.toB,AV.toI,AV.toS,if_true]
 | succ j ih=>
  intro i fuel H t qs hi hf hp ho hv
  obtain ⟨fuel,rfl⟩:=Zs fuel (by omega)
  obtain ⟨v1,v2⟩:=boxRules_at i (by omega)
  obtain ⟨u,H1,a1,a2,a3⟩:=specRegionCells_ok hk (r:=(i:Int)) (pf_reads hp hs) boxes_ok
  have ul:=(own_reads a3).len
  have hql:qs.length ≤ 4:=by have:=congrArg List.length hv; simp [boxRules] at this; omega
  have htb:=own_lt ho.own
  have hub:=a3.blk
  obtain ⟨t1,H2,b1,b2,b3,b4,b5,b6⟩:=wr_app (ho.pf a2) (hp.trans a2) (by omega) { kind:=1,sl:=u,cells:=regCells boxes (i:Int),value:=0 } (own_reads a3) (by simp only; omega) (own_lt a3) (Nat.le_trans hp.length_le a3.blk) a3.nn
  obtain ⟨t',qs',H',d1,d2,d3,d4⟩:=ih (i + 1) fuel H2 t1 _ (by omega) (by omega) b2 b3 (by rw [List.map_append,hv,v1]; rfl)
  push_cast at d1
  refine ⟨t',qs',H',?_,d2,d3,d4⟩
  simp only [R.av] at b1
  simp (disch:=omega) only [spec_RegionRules.l0,spec_RegionRules.j1,dt,df,bt,bf,nt,nf,Za,Zy,Zx,Zt,Zf,Zn,Zz,Zi,Zo,wr,AV.toB,AV.toI,AV.toS,if_true,a1,ul,b1,d1]
theorem specRegionRules_ok {k:Nat} (hk:2000010 ≤ k) {H:Hp} {s:Sl} (hs:Reads .i64 H s boxes) :
  ∃ t qs H',callF PP orc k spec_RegionRules.id [.sl 1 s,.int .i64 4] H=some (.tup [.sl 3 t,.bool true],H')∧H <+: H'∧WR H H' t qs∧qs.map R.val=boxRules:=by
 obtain ⟨k,rfl⟩:=Zs k (by omega)
 rw [spec_RegionRules.call]
 have g1:H <+: H ++ [some (Blk.mk false [])]:=List.prefix_append _ _
 have h1:=specRegionsValid_ok (show 2000000 ≤ k by omega) (pf_reads g1 hs) (by simp [boxes]) 4
 rw [boxes_ok] at h1
 obtain ⟨t',qs',H',d1,d2,d3,d4⟩:=specRR_l0 (show 2000001 ≤ k by omega) hs 4 0 k (H ++ [some (Blk.mk false [])]) (Sl.mk false H.length 0 0) [] (by omega) (by omega) g1
  ⟨own_new 3 H [] 0 rfl,fun i hi=>absurd hi (Nat.not_lt_zero _),fun i hi=>absurd hi (Nat.not_lt_zero _),fun i hi=>absurd hi (Nat.not_lt_zero _),fun i hi=>absurd hi (Nat.not_lt_zero _),fun i hi=>absurd hi (Nat.not_lt_zero _)⟩ rfl
 refine ⟨t',qs',H',?_,d2,d3,d4⟩
 simp only [Int.natCast_zero] at d1
 simp only [spec_RegionRules.f,dt,df,bt,bf,nt,nf,Za,Zy,Zx,Zt,Zf,Zn,Zz,Zi,Zo,wr,AV.toB,AV.toI,AV.toS,if_true,h1,d1]
theorem RD.but' {b c:Nat} {H H':Hp} {l:List Int} {p:Nat} (h:RD b H l p) (g:But c H H') (hc:b ≠ c) {ro:Bool} {cells:List AV} (hb:H[c]?=some (some ⟨ro,cells⟩)) (hk:∀ z ∈ cells,∀ n,z ≠ .int .u8 n):RD b H' l p:=by
 refine h.but g hc fun s hs hl es=>?_
 obtain ⟨s',q1,q2,q3⟩:=h.ex
 rw [q1] at hs
 simp only [Option.some.injEq,Blk.mk.injEq,List.cons.injEq,AV.sl.injEq,true_and,and_true] at hs
 subst hs
 have hc0:=q2.cell 0 (List.length_pos_iff.2 hl)
 unfold Hp.cell at hc0
 rw [es,hb] at hc0
 simp only at hc0
 exact hk _ (List.mem_of_getElem? hc0) _ rfl
theorem adv_but {b c:Nat} {B H H':Hp} (h:Adv b B H) (g:But c H H') (hc:B.length ≤ c) (hl:H.length ≤ H'.length):Adv b B H':=
 ⟨fun d x hdb hdx=>g d x (by have:=(List.getElem?_eq_some_iff.1 hdx).1; omega) (h.but d x hdb hdx),by have:=h.le; omega⟩
theorem av_no_u8 (rs:List R):∀ z ∈ rs.flatMap R.av,∀ n,z ≠ .int .u8 n:=fun z hz n e=>by
 obtain ⟨r,_,hr⟩:=List.mem_flatMap.1 hz
 subst e
 simp [R.av] at hr
theorem ints_no_u8 (l:List Int):∀ z ∈ l.map (AV.int .i64),∀ n,z ≠ .int .u8 n:=fun z hz n e=>by
 obtain ⟨x,_,hx⟩:=List.mem_map.1 hz
 subst e; cases hx
structure PZ (q:Bool) (B H:Hp) (n:Int) (gt s:Sl) (given:List Int) (rs:List R):Prop where
 og:Own 1 B H gt (given.map (.int .i64))
 rr:(s.nil=true∧s.len=0∧rs=[]) ∨ (WR B H s rs∧s.blk ≠ gt.blk)
 sg:∀ i,(h:i < rs.length)→rs[i].sl.blk ≠ gt.blk
 gg:gridOk given n=true
 ro:∀ r ∈ rs,(q=true→R.ok n r=true)∧r.cells.length ≤ 5
theorem PZ.adv {q:Bool} {b:Nat} {B H H':Hp} {n:Int} {gt s:Sl} {given:List Int} {rs:List R} (h:PZ q B H n gt s given rs) (hb:b < B.length) (g:Adv b H H'):PZ q B H' n gt s given rs:=by
 refine ⟨g.own hb h.og,?_,h.sg,h.gg,h.ro⟩
 rcases h.rr with h1 | ⟨h1,h2⟩
 ·exact .inl h1
 ·refine .inr ⟨⟨g.own hb h1.own,fun i hi=>g.reads ?_ (h1.rd i hi),h1.ne,fun i hi=>Nat.lt_of_lt_of_le (h1.lt i hi) g.le,h1.lo,h1.nn⟩,h2⟩
  have:=h1.lo i hi; omega
theorem PZ.readsR {q:Bool} {B H:Hp} {n:Int} {gt s:Sl} {given:List Int} {rs:List R} (h:PZ q B H n gt s given rs):ReadsR H s rs:=by
 rcases h.rr with ⟨_,h2,h3⟩ | ⟨h1,_⟩
 ·subst h3; exact ⟨h2,fun i hi=>absurd hi (Nat.not_lt_zero _),fun i hi=>absurd hi (Nat.not_lt_zero _),fun i hi=>absurd hi (Nat.not_lt_zero _),fun i hi=>absurd hi (Nat.not_lt_zero _)⟩
 ·exact h1.reads
theorem PZ.puz {q:Bool} {B H:Hp} {n:Int} {gt s:Sl} {given:List Int} {rs:List R} (h:PZ q B H n gt s given rs) (hl:rs.length ≤ 1000):PuzAt H n gt s given rs:=
 ⟨own_reads h.og,h.readsR,((gridOk_iff given n).1 h.gg).1,by have:=gridOk_len h.gg; omega,hl,fun r hr=>by have:=(h.ro r hr).2; omega⟩
theorem PZ.set {q:Bool} {b:Nat} {B H:Hp} {n:Int} {gt s:Sl} {given:List Int} {rs:List R} (h:PZ q B H n gt s given rs) (hb:b < B.length) (hadv:Adv b B H) {l:List Int} {p:Nat} (hrd:RD b H l p) (i:Nat) (hi:i < given.length) (v:Int) (hv:0 ≤ v∧v ≤ n) :
  ∃ H',H.sto gt.blk (gt.off + i * 1) [.int .i64 v]=some H'∧PZ q B H' n gt s (given.set i v) rs∧Adv b B H'∧RD b H' l p:=by
 have o':Own 1 [] H gt (given.map (.int .i64)):=⟨h.og.nn,h.og.off,Nat.zero_le _,h.og.get,h.og.len⟩
 obtain ⟨H',a1,a2,a3,a4⟩:=own_set1 o' List.nil_prefix i hi v
 have hgb:=h.og.blk
 refine ⟨H',a1,⟨⟨a3.nn,a3.off,hgb,a3.get,a3.len⟩,?_,h.sg,grid_set h.gg i v hv,h.ro⟩,adv_but hadv a4.but hgb a4.le,hrd.but' a4.but (by omega) h.og.get (ints_no_u8 _)⟩
 rcases h.rr with h1 | ⟨h1,h2⟩
 ·exact .inl h1
 ·exact .inr ⟨⟨a4.but.own h2 h1.own,fun i hi=>a4.but.reads (h.sg i hi) (h1.rd i hi),h1.ne,fun i hi=>Nat.lt_of_lt_of_le (h1.lt i hi) a4.le,h1.lo,h1.nn⟩,h2⟩
theorem PZ.apps {q:Bool} {b:Nat} {B H:Hp} {n:Int} {gt s:Sl} {given:List Int} {rs:List R} (h:PZ q B H n gt s given rs) (hB:B.length ≤ H.length) (hb:b < B.length) (hadv:Adv b B H) {l:List Int} {p:Nat} (hrd:RD b H l p) (hl:rs.length ≤ 1000) (qs:List R) (hq0:0 < qs.length) (hql:qs.length ≤ 1000)
  (hq:∀ i,(h:i < qs.length)→Reads .i64 H qs[i].sl qs[i].cells∧B.length ≤ qs[i].sl.blk∧qs[i].sl.blk < H.length∧qs[i].sl.blk ≠ gt.blk∧(s.nil=false→qs[i].sl.blk ≠ s.blk)∧qs[i].sl.nil=false) (hqo:∀ r ∈ qs,(q=true→R.ok n r=true)∧r.cells.length ≤ 5) :
  ∃ t' H',H.app 3 s qs.length (qs.flatMap R.av)=some (t',H')∧PZ q B H' n gt t' given (rs ++ qs)∧Adv b B H'∧RD b H' l p:=by
 have hgl:=own_lt' h.og
 have hro:∀ r ∈ rs ++ qs,(q=true→R.ok n r=true)∧r.cells.length ≤ 5:=fun r hr=>by
  rcases List.mem_append.1 hr with hr | hr
  ·exact h.ro r hr
  ·exact hqo r hr
 rcases h.rr with ⟨h1,h2,h3⟩ | ⟨h1,h2⟩
 ·subst h3
  have q1:H <+: H ++ [some (Blk.mk false (qs.flatMap R.av))]:=List.prefix_append _ _
  have hnew:=own_new 3 H (qs.flatMap R.av) qs.length (flat_length qs).symm
  refine ⟨Sl.mk false H.length 0 qs.length,H ++ [some (Blk.mk false (qs.flatMap R.av))],?_,⟨own_pf h.og q1,.inr ⟨⟨⟨rfl,rfl,hB,hnew.get,hnew.len⟩,fun i hi=>pf_reads q1 (hq i hi).1,fun i hi=>?_,fun i hi=>?_,fun i hi=>(hq i hi).2.1,fun i hi=>(hq i hi).2.2.2.2.2⟩,?_⟩,fun i hi=>(hq i hi).2.2.2.1,h.gg,hro⟩,hadv.trans (pf_adv q1),hrd.pf q1⟩
  ·unfold Hp.app
   rw [if_pos ⟨by omega,by omega,by omega,flat_length qs⟩,if_neg (by omega),if_pos h1]
  ·have:=(hq i hi).2.2.1; simp only [List.nil_append] at *; omega
  ·have:=(hq i hi).2.2.1; simp; simp only [List.nil_append] at *; omega
  ·simp only; omega
 ·have o':Own 3 [] H s (rs.flatMap R.av):=⟨h1.own.nn,h1.own.off,Nat.zero_le _,h1.own.get,h1.own.len⟩
  have hsl:=own_len3 h1.own
  obtain ⟨H',a1,a2,a3,a4,a5⟩:=own_app o' List.nil_prefix qs.length (qs.flatMap R.av) hq0 (by omega) (by omega) (by omega) (flat_length qs)
  have hsb:=h1.own.blk
  have hnn:=h1.own.nn
  have hsl':=own_lt' h1.own
  have key:∀ i,(hi:i < (rs ++ qs).length)→Reads .i64 H (rs ++ qs)[i].sl (rs ++ qs)[i].cells∧B.length ≤ (rs ++ qs)[i].sl.blk∧(rs ++ qs)[i].sl.blk < H.length∧(rs ++ qs)[i].sl.blk ≠ gt.blk∧(rs ++ qs)[i].sl.blk ≠ s.blk∧(rs ++ qs)[i].sl.nil=false:=by
   intro i hi
   by_cases e:i < rs.length
   ·simp only [List.getElem_append_left e]
    exact ⟨h1.rd i e,h1.lo i e,h1.lt i e,h.sg i e,h1.ne i e,h1.nn i e⟩
   ·simp only [List.length_append] at hi
    simp only [List.getElem_append_right (Nat.le_of_not_lt e)]
    obtain ⟨x1,x2,x3,x4,x5,x6⟩:=hq (i - rs.length) (by omega)
    exact ⟨x1,x2,x3,x4,x5 hnn,x6⟩
  refine ⟨Sl.mk false H.length 0 (s.len + qs.length),H',a1,⟨a4.own (Ne.symm h2) h.og,.inr ⟨⟨⟨rfl,rfl,hB,by rw [List.flatMap_append]; exact a3.get,by rw [List.flatMap_append]; exact a3.len⟩,fun i hi=>a4.reads (key i hi).2.2.2.2.1 (key i hi).1,fun i hi=>?_,fun i hi=>?_,fun i hi=>(key i hi).2.1,fun i hi=>(key i hi).2.2.2.2.2⟩,?_⟩,fun i hi=>(key i hi).2.2.2.1,h.gg,hro⟩,adv_but hadv a4 hsb (by omega),hrd.but' a4 (by omega) h1.own.get (av_no_u8 _)⟩
  ·have:=(key i hi).2.2.1; simp only; omega
  ·have:=(key i hi).2.2.1; omega
  ·simp only; omega
structure PuzB (H0 H:Hp) (n:Int) (gs s:Sl) (given:List Int) (rs:List R):Prop where
 at':PuzAt H n gs s given rs
 g16:given.length ≤ 16
 gv:∀ v ∈ given,0 ≤ v∧v ≤ n
 r25:rs.length ≤ 25
 c5:∀ r ∈ rs,r.cells.length ≤ 5
 gb:given ≠ []→H0.length ≤ gs.blk
 rb:rs ≠ []→H0.length ≤ s.blk
 cb:∀ i,(h:i < rs.length)→rs[i].cells ≠ []→H0.length ≤ rs[i].sl.blk
 gn:gs.nil=false
 cn:∀ i,(h:i < rs.length)→rs[i].sl.nil=false ∨ rs[i].cells=[]
def PuzDraw (b:Nat) (l:List Int) (x1:Int) (p0:Nat) (H0:Hp) (r:An):Prop:=
 ∃ n gs s given rs p' H',r=some (.agg [.int .i64 n,.sl 1 gs,.sl 3 s],H')∧RD b H' l p'∧p' ≤ p0∧Adv b H0 H'∧PuzB H0 H' n gs s given rs∧(x1 ≤ 0→puzzleV n given (rs.map R.val)=true)
theorem PZ.out {q:Bool} {B H0 H:Hp} {n:Int} {gt s:Sl} {given:List Int} {rs:List R} (h:PZ q B H n gt s given rs) (hB:H0.length ≤ B.length) (hl:rs.length ≤ 20):PuzB H0 H n gt s given rs∧(q=true→puzzleV n given (rs.map R.val)=true):=by
 have hg:=(gridOk_iff given n).1 h.gg
 refine ⟨⟨h.puz (by omega),gridOk_len h.gg,hg.2.2,by omega,fun r hr=>(h.ro r hr).2,fun _=>Nat.le_trans hB h.og.blk,fun hne=>?_,fun i hi _=>?_,h.og.nn,fun i hi=>?_⟩,fun hq=>?_⟩
 ·rcases h.rr with ⟨_,_,h3⟩ | ⟨h1,_⟩
  ·exact absurd h3 hne
  ·exact Nat.le_trans hB h1.own.blk
 ·rcases h.rr with ⟨_,_,h3⟩ | ⟨h1,_⟩
  ·subst h3; exact absurd hi (Nat.not_lt_zero _)
  ·exact Nat.le_trans hB (h1.lo i hi)
 ·rcases h.rr with ⟨_,_,h3⟩ | ⟨h1,_⟩
  ·subst h3; exact absurd hi (Nat.not_lt_zero _)
  ·exact .inl (h1.nn i hi)
 ·unfold puzzleV
  simp only [Bool.and_eq_true,decide_eq_true_eq,List.length_map,List.all_map,List.all_eq_true]
  exact ⟨h.gg,hl,fun r hr=>(h.ro r hr).1 hq⟩
theorem PZ.weak {q:Bool} {B H:Hp} {n:Int} {gt s:Sl} {given:List Int} {rs:List R} (h:PZ q B H n gt s given rs):PZ false B H n gt s given rs:=⟨h.og,h.rr,h.sg,h.gg,fun r hr=>⟨fun e=>(by cases e),(h.ro r hr).2⟩⟩
theorem zero21:((List.replicate (21:Int).toNat [AV.int .i64 0,AV.sl 1 Sl.none,AV.int .i64 0]).flatten)=(List.replicate 21 (R.mk 0 Sl.none [] 0)).flatMap R.av:=rfl
theorem own_readsR' {H0 H:Hp} {s:Sl} {rs:List R} (h:Own 3 H0 H s (rs.flatMap R.av)) (hc:∀ r ∈ rs,r.cells=[]∧r.sl.len=0):ReadsR H s rs:=
 own_readsR h fun i hi=>by
  obtain ⟨h1,h2⟩:=hc _ (List.getElem_mem hi)
  rw [h1]; exact reads_nil h2
theorem Puz_j6 {k:Nat} (hk:1000 ≤ k) {b:Nat} {l:List Int} {n x1 y0:Int} (hx1:x1 < 1000000) {p p0:Nat} (hp:p + 60 ≤ p0) (hp0:p0 ≤ 999990000) {H0 B H:Hp} (hB:Adv b H0 B) (hb0:b < H0.length) (hadv:Adv b B H) (hrd:RD b H l p) {y1 y2 xs gt s:Sl} {g given:List Int} {rs:List R} (hx:Reads .i64 B xs g) (hxb:xs.blk ≠ b) (hg:fullG g n) (hz:PZ true B H n gt s given rs) (hl:rs.length ≤ 12) :
  PuzDraw b l x1 p0 H0 (spec_l20Puzzle.j6 (callF PP orc k) k b 0 x1 n xs y0 y1 y2 n gt s H):=by
 obtain ⟨hn,_,_⟩:=(gridOk_iff given n).1 hz.gg
 have hBl:=hB.le
 have hb:b < B.length:=by omega
 obtain ⟨v,p1,H1,a1,a2,a3,a4,a5⟩:=odd_adv (show 2 ≤ k by omega) hrd (by omega) hx1
 have hz1:=hz.adv hb a4
 have adv1:=hadv.trans a4
 cases v with
 | false=>
  obtain ⟨o1,o2⟩:=hz1.out hBl (by omega)
  exact ⟨n,gt,s,given,rs,p1,H1,by simp only [spec_l20Puzzle.j6,spec_l20Puzzle.j8,dt,df,bt,bf,nt,nf,Za,Zy,Zx,Zt,Zf,Zn,Zz,Zi,Zo,wr,AV.toB,AV.toI,AV.toS,if_true,a1],a2,by omega,hB.trans adv1,o1,fun _=>o2 rfl⟩
 | true=>
  have hx0:¬ x1 ≤ 0:=fun h=>by have:=a5 h; cases this
  obtain ⟨v,H2,b1,b2,b3,b4,b5⟩:=pick_adv (show 1 ≤ k by omega) a2 (by omega) 3
  have hz2:=hz1.adv hb b3
  have adv2:=adv1.trans b3
  have hgl:=(own_reads hz2.og).len
  by_cases v0:v=0
  ·obtain ⟨kind,cs,value,cells,p',H3,c1,c2,c3,c4,c5,c6,c7,c8,c8n,c9,c10⟩:=l20Rule_ok (show 200 ≤ k by omega) hn (x3:=1) (by omega) b2 (by omega) (adv2.reads hxb hx) hxb hg
   have hz3:=hz2.adv hb c4
   have adv3:=adv2.trans c4
   have hgl2:=own_lt' hz2.og
   obtain ⟨t',H4,d1,d2,d3,d4⟩:=hz3.weak.apps (by have:=adv3.le; omega) hb adv3 c2 (by omega) [R.mk kind cs cells value] (by simp) (by simp) (fun i hi=>by
    have:i=0:=by simp at hi; omega
    subst this
    refine ⟨c5,by have:=adv2.le; simp only [List.getElem_cons_zero]; omega,by simp only [List.getElem_cons_zero]; omega,by simp only [List.getElem_cons_zero]; omega,fun hnn=>?_,c8n⟩
    rcases hz2.rr with ⟨h1,_,_⟩ | ⟨h1,_⟩
    ·rw [h1] at hnn; cases hnn
    ·have:=own_lt' h1.own; simp only [List.getElem_cons_zero]; omega) (fun r hr=>⟨fun e=>(by cases e),by simp at hr; subst hr; exact c9⟩)
   obtain ⟨o1,_⟩:=d2.out hBl (by simp; omega)
   refine ⟨n,gt,t',given,rs ++ [R.mk kind cs cells value],p',H4,?_,d4,by omega,hB.trans d3,o1,fun h=>absurd h hx0⟩
   have d1':H3.app 3 s 1 [.int .i64 kind,.sl 1 cs,.int .i64 value]=some (t',H4):=d1
   simp (disch:=omega) only [spec_l20Puzzle.j6,spec_l20Puzzle.j8,dt,df,bt,bf,nt,nf,Za,Zy,Zx,Zt,Zf,Zn,Zz,Zi,Zo,wr,AV.toB,AV.toI,AV.toS,if_true,a1,b1,v0,c1,AV.isAgg,AV.cel,Zl,Zm,Zc,Zd,d1']
   rfl
  ·by_cases v1:v=1
   ·have hlt:1 ≤ given.length:=by
     have:=((gridOk_iff given n).1 hz.gg).2.1
     have:n=2 ∨ n=3 ∨ n=4:=by omega
     rcases this with rfl | rfl | rfl <;> omega
    have h16:=gridOk_len hz.gg
    have hrd1:Reads .i64 H2 (Sl.mk gt.nil gt.blk (gt.off + 1) (given.length - 1)) (given.drop 1):=⟨by simp,fun i hi=>by
     have hi':1 + i < given.length:=by simp at hi; omega
     have:=(own_reads hz2.og).cell (1 + i) hi'
     simp only [List.getElem_drop]
     rw [← this,Nat.add_assoc]⟩
    obtain ⟨o1,o2⟩:=hz2.out hBl (by omega)
    refine ⟨n,Sl.mk gt.nil gt.blk (gt.off + 1) (given.length - 1),s,given.drop 1,rs,p1 + 1,H2,?_,b2,by omega,hB.trans adv2,⟨⟨hrd1,hz2.readsR,hn,by simp; omega,by omega,o1.at'.rc⟩,by simp; omega,fun v hv=>o1.gv v (List.mem_of_mem_drop hv),o1.r25,o1.c5,fun _=>Nat.le_trans hBl hz2.og.blk,o1.rb,o1.cb,hz2.og.nn,o1.cn⟩,fun h=>absurd h hx0⟩
    simp (disch:=omega) only [spec_l20Puzzle.j6,spec_l20Puzzle.j8,dt,df,bt,bf,nt,nf,Za,Zy,Zx,Zt,Zf,Zn,Zz,Zi,Zo,wr,AV.toB,AV.toI,AV.toS,if_true,a1,b1,v1]
    rw [ip (by simp; omega)]
    simp only [hgl,Nat.mul_one,show ((given.length:Int) - 1).toNat=given.length - 1 by omega]
   ·have q1:H2 <+: H2 ++ [some (Blk.mk false ((List.replicate 21 (R.mk 0 Sl.none [] 0)).flatMap R.av))]:=List.prefix_append _ _
    have hnew:=own_new 3 H2 ((List.replicate 21 (R.mk 0 Sl.none [] 0)).flatMap R.av) 21 (by rw [flat_length]; rfl)
    have hz0:∀ r ∈ List.replicate 21 (R.mk 0 Sl.none [] 0),r.cells=[]∧r.sl.len=0:=fun r hr=>by have:=(List.mem_replicate.1 hr).2; subst this; exact ⟨rfl,rfl⟩
    obtain ⟨o1,o2⟩:=hz2.out hBl (by omega)
    refine ⟨n,gt,Sl.mk false H2.length 0 21,given,List.replicate 21 (R.mk 0 Sl.none [] 0),p1 + 1,H2 ++ [some (Blk.mk false ((List.replicate 21 (R.mk 0 Sl.none [] 0)).flatMap R.av))],?_,b2.pf q1,by omega,hB.trans (adv2.trans (pf_adv q1)),⟨⟨pf_reads q1 (own_reads hz2.og),own_readsR' hnew hz0,hn,o1.at'.gl,by simp,fun r hr=>by rw [(hz0 r hr).1]; simp⟩,o1.g16,o1.gv,by simp,fun r hr=>by rw [(hz0 r hr).1]; simp,o1.gb,fun _=>by have:=adv2.le; simp only; omega,fun i hi hne=>absurd (hz0 _ (List.getElem_mem hi)).1 hne,o1.gn,fun i hi=>.inr (hz0 _ (List.getElem_mem hi)).1⟩,fun h=>absurd h hx0⟩
    simp (disch:=omega) only [spec_l20Puzzle.j6,spec_l20Puzzle.j8,dt,df,bt,bf,nt,nf,Za,Zy,Zx,Zt,Zf,Zn,Zz,Zi,Zo,wr,AV.toB,AV.toI,AV.toS,if_true,a1,b1,zero21]
    rw [ip (by simp)]
    rfl
theorem given_pos {n:Int} {g:List Int} (h:gridOk g n=true):4 ≤ g.length∧g.length ≤ 16:=by
 obtain ⟨hn,h2,_⟩:=(gridOk_iff g n).1 h
 have:n=2 ∨ n=3 ∨ n=4:=by omega
 rcases this with rfl | rfl | rfl <;> omega
theorem Puz_j4 {k:Nat} (hk:1000 ≤ k) {b:Nat} {l:List Int} {n x1 y0:Int} (hx1:x1 < 1000000) {p p0:Nat} (hp:p + 70 ≤ p0) (hp0:p0 ≤ 999990000) {H0 B H:Hp} (hB:Adv b H0 B) (hb0:b < H0.length) (hadv:Adv b B H) (hrd:RD b H l p) {y1 y2 xs gt s:Sl} {g given:List Int} {rs:List R} (hx:Reads .i64 B xs g) (hxb:xs.blk ≠ b) (hg:fullG g n) (hz:PZ true B H n gt s given rs) (hl:rs.length ≤ 12) :
  PuzDraw b l x1 p0 H0 (spec_l20Puzzle.j4 (callF PP orc k) k b 0 x1 n xs y0 y1 y2 n gt s H):=by
 obtain ⟨hn,_,_⟩:=(gridOk_iff given n).1 hz.gg
 have hBl:=hB.le
 have hb:b < B.length:=by omega
 obtain ⟨v,H1,a1,a2,a3,a4,a5⟩:=pick_adv (show 1 ≤ k by omega) hrd (by omega) 8
 have hz1:=hz.adv hb a3
 have hgl:=(own_reads hz1.og).len
 have h4:=given_pos hz1.gg
 by_cases v0:v=0
 ·obtain ⟨u,H2,b1,b2,b3,b4,b5⟩:=pick_adv (show 1 ≤ k by omega) a2 (by omega) (gt.len:Int)
  have hu:=b5 (by omega)
  obtain ⟨w,H3,c1,c2,c3,c4,c5⟩:=pick_adv (show 1 ≤ k by omega) b2 (by omega) n
  have hw:=c5 (by omega)
  have hz3:=(hz1.adv hb b3).adv hb c3
  obtain ⟨H4,d1,d2,d3,d4⟩:=hz3.set hb (((hadv.trans a3).trans b3).trans c3) c2 u.toNat (by omega) (1 + w) (by omega)
  have:=Puz_j6 hk hx1 (p0:=p0) (by omega) hp0 hB hb0 d3 d4 (y0:=y0) (y1:=y1) (y2:=y2) hx hxb hg d2 hl
  simp (disch:=omega) only [spec_l20Puzzle.j4,dt,df,bt,bf,nt,nf,Za,Zy,Zx,Zt,Zf,Zn,Zz,Zi,Zo,wr,AV.toB,AV.toI,AV.toS,if_true,a1,v0,b1,c1,d1]
  exact this
 ·have:=Puz_j6 hk hx1 (p0:=p0) (by omega) hp0 hB hb0 (hadv.trans a3) a2 (y0:=y0) (y1:=y1) (y2:=y2) hx hxb hg hz1 hl
  simp (disch:=omega) only [spec_l20Puzzle.j4,dt,df,bt,bf,nt,nf,Za,Zy,Zx,Zt,Zf,Zn,Zz,Zi,Zo,wr,AV.toB,AV.toI,AV.toS,if_true,a1]
  exact this
theorem Puz_l5 {k:Nat} (hk:1000 ≤ k) {b:Nat} {l:List Int} {n x1 y0 holes:Int} (hx1:x1 < 1000000) {p0:Nat} (hp0:p0 ≤ 999990000) {H0 B:Hp} (hB:Adv b H0 B) (hb0:b < H0.length) {y1 y2 xs gt s:Sl} {g:List Int} {rs:List R} (hx:Reads .i64 B xs g) (hxb:xs.blk ≠ b) (hg:fullG g n) (hl:rs.length ≤ 12) :
  ∀ (j i fuel:Nat) (H:Hp) (given:List Int) (p:Nat),i + j=given.length→j < fuel→p + 70 + j ≤ p0→Adv b B H→RD b H l p→PZ true B H n gt s given rs →
   PuzDraw b l x1 p0 H0 (spec_l20Puzzle.l5 (callF PP orc k) k fuel b 0 x1 n xs holes i y0 y1 y2 n gt s H):=by
 have hBl:=hB.le
 have hb:b < B.length:=by omega
 intro j
 induction j with
 | zero=>
  intro i fuel H given p hi hf hp hadv hrd hz
  obtain ⟨fuel,rfl⟩:=Zs fuel (by omega)
  have hgl:=(own_reads hz.og).len
  have:=Puz_j4 hk hx1 (p0:=p0) (by omega) hp0 hB hb0 hadv hrd (y0:=y0) (y1:=y1) (y2:=y2) hx hxb hg hz hl
  simp (disch:=omega) only [spec_l20Puzzle.l5,dt,df,bt,bf,nt,nf,Za,Zy,Zx,Zt,Zf,Zn,Zz,Zi,Zo,wr,AV.toB,AV.toI,AV.toS,if_true]
  exact this
 | succ j ih=>
  intro i fuel H given p hi hf hp hadv hrd hz
  obtain ⟨fuel,rfl⟩:=Zs fuel (by omega)
  obtain ⟨hn,_,_⟩:=(gridOk_iff given n).1 hz.gg
  have h4:=given_pos hz.gg
  have hgl:=(own_reads hz.og).len
  obtain ⟨v,H1,a1,a2,a3,a4,a5⟩:=pick_adv (show 1 ≤ k by omega) hrd (by omega) 4
  have hz1:=hz.adv hb a3
  by_cases c:v < holes
  ·obtain ⟨H4,d1,d2,d3,d4⟩:=hz1.set hb (hadv.trans a3) a2 i (by omega) 0 (by omega)
   have:=ih (i + 1) fuel H4 (given.set i 0) _ (by simp; omega) (by omega) (by omega) d3 d4 d2
   push_cast at this
   simp (disch:=omega) only [spec_l20Puzzle.l5,spec_l20Puzzle.j7,dt,df,bt,bf,nt,nf,Za,Zy,Zx,Zt,Zf,Zn,Zz,Zi,Zo,wr,AV.toB,AV.toI,AV.toS,if_true,a1,d1]
   exact this
  ·have:=ih (i + 1) fuel H1 given _ (by omega) (by omega) (by omega) (hadv.trans a3) a2 hz1
   push_cast at this
   simp (disch:=omega) only [spec_l20Puzzle.l5,spec_l20Puzzle.j7,dt,df,bt,bf,nt,nf,Za,Zy,Zx,Zt,Zf,Zn,Zz,Zi,Zo,wr,AV.toB,AV.toI,AV.toS,if_true,a1]
   exact this
theorem minFrom_grid {n:Int} (vs:List V) (hn:2 ≤ n∧n ≤ 4):∀ (j i:Nat) (g:List Int),gridOk g n=true→gridOk (minFrom n vs g i j) n=true
 | 0,_,_,h=>h
 | j + 1,i,g,h=>by
  rw [minFrom]
  refine minFrom_grid vs hn j (i + 1) _ ?_
  split
  ·exact grid_set h i 0 (by omega)
  ·exact h
theorem blk_ne {B B' H:Hp} {s t:Sl} {rs:List R} {l:List Int} (h:Own 3 B H s (rs.flatMap R.av)) (h':Own 1 B' H t (l.map (.int .i64))) (hl:2 ≤ l.length):s.blk ≠ t.blk:=by
 intro e
 have e1:=h.get
 rw [e,h'.get] at e1
 simp only [Option.some.injEq,Blk.mk.injEq,true_and] at e1
 have e2:=congrArg (fun x=>x[1]?) e1
 simp only [List.getElem?_map] at e2
 rw [List.getElem?_eq_getElem (show 1 < l.length by omega)] at e2
 cases rs with
 | nil=>simp at e2
 | cons r rs=>simp [R.av] at e2
theorem Puz_j3 {k:Nat} (hk:2000300 ≤ k) {b:Nat} {l:List Int} {n x1 y0:Int} (hx1:x1 < 1000000) {p p0:Nat} (hp:p + 100 ≤ p0) (hp0:p0 ≤ 999990000) {H0 B H:Hp} (hB:Adv b H0 B) (hb0:b < H0.length) (hadv:Adv b B H) (hrd:RD b H l p) {y1 y2 xs gt s:Sl} {g given:List Int} {rs:List R} (hx:Reads .i64 B xs g) (hxb:xs.blk ≠ b) (hg:fullG g n) (hz:PZ true B H n gt s given rs) (hl:rs.length ≤ 12) :
  PuzDraw b l x1 p0 H0 (spec_l20Puzzle.j3 (callF PP orc k) k b 0 x1 n xs y0 y1 y2 n gt s H):=by
 obtain ⟨hn,_,_⟩:=(gridOk_iff given n).1 hz.gg
 have hBl:=hB.le
 have hb:b < B.length:=by omega
 obtain ⟨v,H1,a1,a2,a3,a4,a5⟩:=pick_adv (show 1 ≤ k by omega) hrd (by omega) 3
 have hz1:=hz.adv hb a3
 have adv1:=hadv.trans a3
 have h4:=given_pos hz1.gg
 by_cases v0:v=0
 ·obtain ⟨H2,b1,b2⟩:=specMakeMinimal_ok hk (hz1.puz (by omega))
  have adv2:Adv b B H2:=adv1.trans (pf_adv b1)
  have rd2:=a2.pf b1
  rcases b2 with ⟨_,b2⟩ | ⟨_,gt',st,qs,b2,b3,b4,b5,b6⟩
  ·have:=Puz_j4 (show 1000 ≤ k by omega) hx1 (p0:=p0) (by omega) hp0 hB hb0 adv2 rd2 (y0:=y0) (y1:=y1) (y2:=y2) hx hxb hg (hz1.adv hb (pf_adv b1)) hl
   simp (disch:=omega) only [spec_l20Puzzle.j3,dt,df,bt,bf,nt,nf,Za,Zy,Zx,Zt,Zf,Zn,Zz,Zi,Zo,wr,AV.toB,AV.toI,AV.toS,if_true,a1,v0,b2,AV.isTup,AV.nth,AV.isAgg,AV.cel,Zl,Zm,Zc,Zd]
   exact this
  ·have hle:=adv1.le
   have hql:qs.length=rs.length:=by have:=congrArg List.length b5; simpa using this
   have hmm:gridOk (minimalV n given (rs.map R.val)) n=true:=minFrom_grid _ hn _ _ _ hz1.gg
   have h4':=given_pos hmm
   have hz2:PZ true B H2 n gt' st (minimalV n given (rs.map R.val)) qs:=by
    refine ⟨⟨b3.nn,b3.off,Nat.le_trans hle b3.blk,b3.get,b3.len⟩,.inr ⟨⟨⟨b4.own.nn,b4.own.off,Nat.le_trans hle b4.own.blk,b4.own.get,b4.own.len⟩,b4.rd,b4.ne,b4.lt,fun i hi=>Nat.le_trans hle (b4.lo i hi),b4.nn⟩,blk_ne b4.own b3 (by omega)⟩,b6,hmm,fun q hq=>?_⟩
    have hqv:q.val ∈ rs.map R.val:=b5 ▸ List.mem_map_of_mem hq
    obtain ⟨r,hr,e⟩:=List.mem_map.1 hqv
    obtain ⟨r1,r2⟩:=hz1.ro r hr
    have e1:R.ok n q=R.ok n r:=by
     show ruleOkV n q.val=ruleOkV n r.val
     rw [e]
    have e2:q.cells=r.cells:=congrArg (·.2.1) e.symm
    exact ⟨fun h=>e1 ▸ r1 h,e2 ▸ r2⟩
   have:=Puz_j4 (show 1000 ≤ k by omega) hx1 (p0:=p0) (by omega) hp0 hB hb0 adv2 rd2 (y0:=y0) (y1:=y1) (y2:=y2) hx hxb hg hz2 (by omega)
   simp (disch:=omega) only [spec_l20Puzzle.j3,dt,df,bt,bf,nt,nf,Za,Zy,Zx,Zt,Zf,Zn,Zz,Zi,Zo,wr,AV.toB,AV.toI,AV.toS,if_true,a1,v0,b2,AV.isTup,AV.nth,AV.isAgg,AV.cel,Zl,Zm,Zc,Zd]
   exact this
 ·obtain ⟨w,H2,b1,b2,b3,b4,b5⟩:=pick_adv (show 1 ≤ k by omega) a2 (by omega) 3
  have hw:=b5 (by omega)
  have:=Puz_l5 (show 1000 ≤ k by omega) (holes:=1 + w) hx1 hp0 hB hb0 (y0:=y0) (y1:=y1) (y2:=y2) hx hxb hg hl given.length 0 k H2 given _ (by omega) (by omega) (by omega) (adv1.trans b3) b2 (hz1.adv hb b3)
  simp (disch:=omega) only [spec_l20Puzzle.j3,dt,df,bt,bf,nt,nf,Za,Zy,Zx,Zt,Zf,Zn,Zz,Zi,Zo,wr,AV.toB,AV.toI,AV.toS,if_true,a1,b1]
  exact this
theorem box_valid:∀ r ∈ boxRules,ruleOkV 4 r=true∧r.2.1.length ≤ 5:=by decide
theorem Puz_j2 {k:Nat} (hk:2000400 ≤ k) {b:Nat} {l:List Int} {n x1 y0:Int} (hx1:x1 < 1000000) {p p0:Nat} (hp:p + 100 ≤ p0) (hp0:p0 ≤ 999990000) {H0 B H:Hp} (hB:Adv b H0 B) (hb0:b < H0.length) (hadv:Adv b B H) (hrd:RD b H l p) {y1 y2 xs gt s:Sl} {g given:List Int} {rs:List R} (hx:Reads .i64 B xs g) (hxb:xs.blk ≠ b) (hg:fullG g n) (hz:PZ true B H n gt s given rs) (hl:rs.length ≤ 8) {c:Bool} (hc:c=true→n=4) :
  PuzDraw b l x1 p0 H0 (spec_l20Puzzle.j2 (callF PP orc k) k b 0 x1 n xs c y0 y1 y2 n gt s H):=by
 have hBl:=hB.le
 have hb:b < B.length:=by omega
 cases c with
 | false=>
  have:=Puz_j3 (show 2000300 ≤ k by omega) hx1 (p0:=p0) (by omega) hp0 hB hb0 hadv hrd (y0:=y0) (y1:=y1) (y2:=y2) hx hxb hg hz (by omega)
  simp only [spec_l20Puzzle.j2,Zf]
  exact this
 | true=>
  have hn4:=hc rfl
  subst hn4
  obtain ⟨u,H1,a1,a2,a3⟩:=specBoxRegions_ok (show 100 ≤ k by omega) H
  obtain ⟨t,qs,H2,b1,b2,b3,b4⟩:=specRegionRules_ok (show 2000010 ≤ k by omega) (own_reads a3)
  have p2:H <+: H2:=a2.trans b2
  have hql:qs.length=4:=by have:=congrArg List.length b4; simp [boxRules] at this; exact this
  have hqo:∀ r ∈ qs,(true=true→R.ok 4 r=true)∧r.cells.length ≤ 5:=fun q hq=>by
   have:q.val ∈ boxRules:=b4 ▸ List.mem_map_of_mem hq
   obtain ⟨h1,h2⟩:=box_valid _ this
   exact ⟨fun _=>h1,h2⟩
  have hgl:g.length ≤ 16:=by have:=hg.1; rw [this]; decide
  have hxH:=(hadv.trans (pf_adv p2)).reads hxb hx
  have hz0:PuzAt H2 4 xs t g qs:=⟨hxH,b3.reads,by omega,by omega,by omega,fun r hr=>by have:=(hqo r hr).2; omega⟩
  obtain ⟨H3,c1,c2⟩:=specPuzzleSolved_ok (show 2000043 ≤ k by omega) hz0 hxH (by omega)
  have p3:=p2.trans c2
  have adv3:Adv b B H3:=hadv.trans (pf_adv p3)
  have hz3:=hz.adv hb (pf_adv (b:=b) p3)
  cases hs:puzzleSolvedV 4 g (qs.map R.val) g with
  | false=>
   rw [hs] at c1
   have:=Puz_j3 (show 2000300 ≤ k by omega) hx1 (p0:=p0) (by omega) hp0 hB hb0 adv3 (hrd.pf p3) (y0:=y0) (y1:=y1) (y2:=y2) hx hxb hg hz3 (by omega)
   simp (disch:=omega) only [spec_l20Puzzle.j2,dt,df,bt,bf,nt,nf,Za,Zy,Zx,Zt,Zf,Zn,Zz,Zi,Zo,wr,AV.toB,AV.toI,AV.toS,if_true,a1,b1,c1,AV.isTup,AV.nth,Zl,Zm,Zc,Zd]
   exact this
  | true=>
   rw [hs] at c1
   have hHl:=a2.length_le
   have hgt:=own_lt' hz.og
   have hb3':=b3.pf c2
   obtain ⟨t',H4,d1,d2,d3,d4⟩:=hz3.apps (by have:=adv3.le; omega) hb adv3 (hrd.pf p3) (by omega) qs (by omega) (by omega) (fun i hi=>by
    have h1:=b3.lo i hi
    have h2:=hb3'.lt i hi
    refine ⟨hb3'.rd i hi,by have:=hadv.le; omega,h2,by omega,fun hnn=>?_,hb3'.nn i hi⟩
    rcases hz.rr with ⟨h1',_,_⟩ | ⟨h1',_⟩
    ·rw [h1'] at hnn; cases hnn
    ·have:=own_lt' h1'.own; omega) hqo
   have hrd3:=read3_ok hb3'.own
   have hsl:=own_len3 hb3'.own
   have:=Puz_j3 (show 2000300 ≤ k by omega) hx1 (p0:=p0) (by omega) hp0 hB hb0 d3 d4 (y0:=y0) (y1:=y1) (y2:=y2) hx hxb hg d2 (by simp; omega)
   simp (disch:=omega) only [spec_l20Puzzle.j2,dt,df,bt,bf,nt,nf,Za,Zy,Zx,Zt,Zf,Zn,Zz,Zi,Zo,wr,AV.toB,AV.toI,AV.toS,if_true,a1,b1,c1,AV.isTup,AV.nth,Zl,Zm,Zc,Zd,hrd3,hsl,d1,cells3_ok]
   exact this
theorem Puz_j1 {k:Nat} (hk:2000400 ≤ k) {b:Nat} {l:List Int} {n x1 y0:Int} (hx1:x1 < 1000000) {p p0:Nat} (hp:p + 110 ≤ p0) (hp0:p0 ≤ 999990000) {H0 B H:Hp} (hB:Adv b H0 B) (hb0:b < H0.length) (hadv:Adv b B H) (hrd:RD b H l p) {y1 y2 xs gt s:Sl} {g given:List Int} {rs:List R} (hx:Reads .i64 B xs g) (hxb:xs.blk ≠ b) (hg:fullG g n) (hz:PZ true B H n gt s given rs) (hl:rs.length ≤ 8) :
  PuzDraw b l x1 p0 H0 (spec_l20Puzzle.j1 (callF PP orc k) k b 0 x1 n xs y0 y1 y2 n gt s H):=by
 have hBl:=hB.le
 have hb:b < B.length:=by omega
 by_cases c:n=4
 ·obtain ⟨v,H1,a1,a2,a3,a4,a5⟩:=pick_adv (show 1 ≤ k by omega) hrd (by omega) 3
  have:=Puz_j2 hk hx1 (p0:=p0) (by omega) hp0 hB hb0 (hadv.trans a3) a2 (y0:=y0) (y1:=y1) (y2:=y2) hx hxb hg (hz.adv hb a3) hl (c:=v == 0) (fun _=>c)
  simp only [spec_l20Puzzle.j1,bt c,Zt,a1,Zo,AV.toI,if_true]
  exact this
 ·have:=Puz_j2 hk hx1 (p0:=p0) (by omega) hp0 hB hb0 hadv hrd (y0:=y0) (y1:=y1) (y2:=y2) hx hxb hg hz hl (c:=false) (fun h=>by cases h)
  simp only [spec_l20Puzzle.j1,bf c,Zf]
  exact this
theorem Puz_l0 {k:Nat} (hk:2000400 ≤ k) {b:Nat} {l:List Int} {n x1 y0:Int} (hx1:x1 < 1000000) {p0:Nat} (hp0:p0 ≤ 999990000) {H0 B:Hp} (hB:Adv b H0 B) (hb0:b < H0.length) {y1 y2 xs gt:Sl} {g given:List Int} (hx:Reads .i64 B xs g) (hxb:xs.blk ≠ b) (hg:fullG g n) :
  ∀ (j fuel:Nat) (H:Hp) (s:Sl) (rs:List R) (p:Nat),j < fuel→rs.length + j ≤ 8→p + 110 + 50 * j ≤ p0→Adv b B H→RD b H l p→PZ true B H n gt s given rs →
   PuzDraw b l x1 p0 H0 (spec_l20Puzzle.l0 (callF PP orc k) k fuel b 0 x1 n xs (j:Int) y0 y1 y2 n gt s H):=by
 have hBl:=hB.le
 have hb:b < B.length:=by omega
 intro j
 induction j with
 | zero=>
  intro fuel H s rs p hf hl hp hadv hrd hz
  obtain ⟨fuel,rfl⟩:=Zs fuel (by omega)
  have:=Puz_j1 hk hx1 (p0:=p0) (by omega) hp0 hB hb0 hadv hrd (y0:=y0) (y1:=y1) (y2:=y2) hx hxb hg hz (by omega)
  simp (disch:=omega) only [spec_l20Puzzle.l0,dt,df,bt,bf,nt,nf,Za,Zy,Zx,Zt,Zf,Zn,Zz,Zi,Zo,wr,AV.toB,AV.toI,AV.toS,if_true]
  exact this
 | succ j ih=>
  intro fuel H s rs p hf hl hp hadv hrd hz
  obtain ⟨fuel,rfl⟩:=Zs fuel (by omega)
  obtain ⟨hn,_,_⟩:=(gridOk_iff given n).1 hz.gg
  obtain ⟨kind,cs,value,cells,p',H3,c1,c2,c3,c4,c5,c6,c7,c8,c8n,c9,c10⟩:=l20Rule_ok (show 200 ≤ k by omega) hn (x3:=0) (by omega) hrd (by omega) (hadv.reads hxb hx) hxb hg
  have hz3:=hz.adv hb c4
  have adv3:=hadv.trans c4
  have hgl2:=own_lt' hz.og
  obtain ⟨t',H4,d1,d2,d3,d4⟩:=hz3.apps (by have:=adv3.le; omega) hb adv3 c2 (by omega) [R.mk kind cs cells value] (by simp) (by simp) (fun i hi=>by
    have:i=0:=by simp at hi; omega
    subst this
    refine ⟨c5,by have:=hadv.le; simp only [List.getElem_cons_zero]; omega,by simp only [List.getElem_cons_zero]; omega,by simp only [List.getElem_cons_zero]; omega,fun hnn=>?_,c8n⟩
    rcases hz.rr with ⟨h1,_,_⟩ | ⟨h1,_⟩
    ·rw [h1] at hnn; cases hnn
    ·have:=own_lt' h1.own; simp only [List.getElem_cons_zero]; omega) (fun r hr=>⟨fun _=>by simp at hr; subst hr; exact c10 (by omega),by simp at hr; subst hr; exact c9⟩)
  have:=ih fuel H4 t' (rs ++ [R.mk kind cs cells value]) p' (by omega) (by simp; omega) (by omega) d3 d4 d2
  have d1':H3.app 3 s 1 [.int .i64 kind,.sl 1 cs,.int .i64 value]=some (t',H4):=d1
  have hj:((j + 1:Nat):Int) - 1=(j:Int):=by omega
  simp (disch:=omega) only [spec_l20Puzzle.l0,dt,Zt,Zo,c1,AV.toI,AV.toS,if_true,AV.isAgg,AV.cel,Zl,Zm,Zc,Zd,d1',wr,hj]
  exact this
theorem l20Puzzle_ok {k:Nat} (hk:2000500 ≤ k) {b:Nat} {l:List Int} {x1:Int} (hx1:x1 < 1000000) {p:Nat} {H:Hp} (hrd:RD b H l p) (hp:p ≤ 900000000) :
  PuzDraw b l x1 (p + 500) H (callF PP orc k spec_l20Puzzle.id [.ptr b 0,.int .i64 x1] H):=by
 obtain ⟨k,rfl⟩:=Zs k (by omega)
 rw [spec_l20Puzzle.call]
 obtain ⟨n,p1,H1,a1,a2,a3,a4,a5,a6,a7⟩:=l20Size_ok (show 3 ≤ k by omega) hrd (by omega) (n:=0) (by omega)
 have hn:=a7 (by omega)
 obtain ⟨t,g,p2,H2,b1,b2,b3,b4,b5,b6⟩:=l20Solved_ok (show 2000101 ≤ k by omega) a2 (by omega) hn
 have hgl:g.length ≤ 16:=by
  have:=b6.1
  have:n=2 ∨ n=3 ∨ n=4:=by omega
  rcases this with rfl | rfl | rfl <;> omega
 have hg:gridOk g n=true:=by
  refine (gridOk_iff g n).2 ⟨hn,?_,fun v hv=>by have:=b6.2 v hv; omega⟩
  have:=b6.1
  have:n=2 ∨ n=3 ∨ n=4:=by omega
  rcases this with rfl | rfl | rfl <;> omega
 have hb0:=hrd.lt
 have adv2:Adv b H H2:=a4.trans b4
 have q1:H2 <+: H2 ++ [some (Blk.mk false (g.map (.int .i64)))]:=List.prefix_append _ _
 have hnew:=own_new 1 H2 (g.map (.int .i64)) g.length (by simp)
 obtain ⟨v,H3,c1,c2,c3,c4,c5⟩:=pick_adv (show 1 ≤ k by omega) (b2.pf q1) (by omega) 5
 have hv:=c5 (by omega)
 have hz:PZ true H2 (H2 ++ [some (Blk.mk false (g.map (.int .i64)))]) n (Sl.mk false H2.length 0 g.length) Sl.none g []:=⟨hnew,.inl ⟨rfl,rfl,rfl⟩,fun i hi=>absurd hi (Nat.not_lt_zero _),hg,fun r hr=>by cases hr⟩
 have hb2:b < H2.length:=by have:=adv2.le; omega
 have htb:t.blk ≠ b:=by have:=b5.blk; have:=a4.le; omega
 have:=Puz_l0 (show 2000400 ≤ k by omega) hx1 (p0:=p + 500) (by omega) adv2 hb0 (l:=l) (y0:=0) (y1:=Sl.none) (y2:=Sl.none) (given:=g) (own_reads b5) htb b6 v.toNat k H3 Sl.none [] _ (by omega) (by simp; omega) (by omega) ((pf_adv q1).trans c3) c2 (hz.adv hb2 c3)
 rw [show ((v.toNat:Nat):Int)=v by omega] at this
 have tl:=(own_reads b5).len
 simp (disch:=omega) only [spec_l20Puzzle.f,Zo,a1,b1,AV.toI,AV.toS,if_true,read_ok (own_reads b5),tl,appl_ok,cells_ok,Za,Zt,c1]
 exact this
theorem byte_wf {l:List Int} (h:∀ n ∈ l,(Lit.int .u8 n).wf=true):∀ x ∈ l,0 ≤ x∧x ≤ 255:=fun x hx=>by
 have:=h x hx
 simp only [Lit.wf,IntKind.min,IntKind.max,IntKind.signed,IntKind.bits,Bool.and_eq_true,decide_eq_true_eq,if_true,Bool.false_eq_true,if_false] at this
 omega
theorem alive_ok {k:Nat} (hk:2000002 ≤ k) (H:Hp):∃ H',callF PP orc k laws_alive.id [] H=some (.bool true,H')∧H <+: H':=by
 obtain ⟨k,rfl⟩:=Zs k (by omega)
 rw [laws_alive.call]
 have hnew:=own_new 1 H (([1,0,0,2]:List Int).map (.int .i64)) 4 rfl
 have h1:=implGridFilled_ok (show 2000001 ≤ k by omega) (own_reads hnew) (by simp) 2
 rw [ip (show gridOk [1,0,0,2] 2=true by decide),show filled [1,0,0,2]=2 by decide] at h1
 refine ⟨H ++ [some (Blk.mk false (([1,0,0,2]:List Int).map (.int .i64)))],?_,(List.prefix_append _ _)⟩
 simp only [List.map_cons,List.map_nil] at h1 ⊢
 simp only [laws_alive.f,dt,df,bt,bf,nt,nf,Za,Zy,Zx,Zt,Zf,Zn,Zz,Zi,Zo,wr,AV.toB,AV.toI,AV.toS,if_true,h1]
 rfl
theorem PuzB.base {H0 H1 H:Hp} {n:Int} {gs s:Sl} {given:List Int} {rs:List R} (h:PuzB H1 H n gs s given rs) (g:H0.length ≤ H1.length):PuzB H0 H n gs s given rs:=
 ⟨h.at',h.g16,h.gv,h.r25,h.c5,fun e=>Nat.le_trans g (h.gb e),fun e=>Nat.le_trans g (h.rb e),fun i hi e=>Nat.le_trans g (h.cb i hi e),h.gn,h.cn⟩
theorem open_puzzle {k:Nat} (hk:2000500 ≤ k) {H:Hp} {s:Sl} {l:List Int} (hs:Reads .u8 H s l) (hb:∀ x ∈ l,0 ≤ x∧x ≤ 255) {x1:Int} (hx1:x1 < 1000000) :
  ∃ H1 n gs ss given rs l' p' H',callF PP orc k spec_l20Open.id [.sl 1 s] H=some (.ptr H.length 0,H1)∧callF PP orc k spec_l20Puzzle.id [.ptr H.length 0,.int .i64 x1] H1=some (.agg [.int .i64 n,.sl 1 gs,.sl 3 ss],H')∧H <+: H'∧RD H.length H' l' p'∧p' ≤ 500∧H.length < H1.length∧H1.length ≤ H'.length∧PuzB H1 H' n gs ss given rs∧(x1 ≤ 0→puzzleV n given (rs.map R.val)=true):=by
 obtain ⟨l',H1,a1,a2,a3,a4⟩:=l20Open_ok (show 1 ≤ k by omega) hs hb
 obtain ⟨n,gs,ss,given,rs,p',H',b1,b2,b3,b4,b5,b6⟩:=l20Puzzle_ok hk hx1 a3 (by omega)
 exact ⟨H1,n,gs,ss,given,rs,l',p',H',a1,b1,b4.but.pf (Nat.le_refl _) a2 b4.le,b2,by omega,by omega,b4.le,b5,b6⟩
theorem PuzB.adv {b:Nat} {H0 B H:Hp} {n:Int} {gs s:Sl} {given:List Int} {rs:List R} (h:PuzB H0 B n gs s given rs) (hb:b < H0.length) (g:Adv b B H):PuzB H0 H n gs s given rs:=by
 have rd:∀ {t:Sl} {l:List Int},(l ≠ []→H0.length ≤ t.blk)→Reads .i64 B t l→Reads .i64 H t l:=fun {t l} h1 h2=>by
  by_cases e:l=[]
  ·subst e; exact reads_nil h2.len
  ·exact g.reads (by have:=h1 e; omega) h2
 refine ⟨⟨rd h.gb h.at'.rg,?_,h.at'.n4,h.at'.gl,h.at'.rl,h.at'.rc⟩,h.g16,h.gv,h.r25,h.c5,h.gb,h.rb,h.cb,h.gn,h.cn⟩
 have hr:=h.at'.rr
 have cel:∀ {o:Nat} {v:AV},rs ≠ []→B.cell s.blk o=some v→H.cell s.blk o=some v:=fun e hv=>g.but.cell (by have:=h.rb e; omega) hv
 refine ⟨hr.len,fun i hi=>cel ?_ (hr.c0 i hi),fun i hi=>cel ?_ (hr.c1 i hi),fun i hi=>cel ?_ (hr.c2 i hi),fun i hi=>rd (h.cb i hi) (hr.cs i hi)⟩
 all_goals
  intro e; subst e; exact absurd hi (Nat.not_lt_zero _)
theorem Clone_own {k:Nat} (hk:1 ≤ k) {H:Hp} {s:Sl} {l:List Int} (hs:Reads .i64 H s l) (hn:s.nil=false) (hl:l.length ≤ 1000) :
  callF PP orc k slices_Clone_int.id [.sl 1 s] H=some (.sl 1 (Sl.mk false H.length 0 l.length),H ++ [some (Blk.mk false (l.map (.int .i64)))]):=by
 obtain ⟨k,rfl⟩:=Zs k (by omega)
 rw [slices_Clone_int.call]
 simp only [slices_Clone_int.f,hn,Zf,read_ok hs,hs.len,appl_ok _ _ _ (show l.length ≤ 1000000 by omega),Zo,cells_ok,Za,Zt]
theorem allValues_ok {k:Nat} (hk:1 ≤ k) {n:Int} (hn:2 ≤ n∧n ≤ 4) (H:Hp):callF PP orc k impl_allValues.id [.int .i64 n] H=some (.int .i64 (topMask n),H):=by
 obtain ⟨k,rfl⟩:=Zs k (by omega)
 rw [impl_allValues.call]
 obtain ⟨p1,p2,p3⟩:=topMask_pw hn
 simp (disch:=omega) only [impl_allValues.f,iN,m_shl (v:=n + 1),p1,wr]
/-! ### impl.valuesHold -/
def KindLen (kind:Int) (m:Nat):Prop:=(kind=1 ∨ kind=2 ∨ kind=3) ∨ ((kind=4 ∨ kind=5)∧2 ≤ m)
theorem implHold_l0 {k:Nat} (hk:2000001 ≤ k) {kind value:Int} {cs vs:Sl} {H:Hp} {vals:List Int} (hs:Reads .i64 H vs vals) (hl:Vals vals) (h2:KindLen kind vals.length) :
  ∀ (j i fuel:Nat) (x5 x6:Int),i + j=vals.length→j < fuel→0 ≤ x5→x5 ≤ 4 * i→0 ≤ x6→x6 ≤ 4 ^ i →
   impl_valuesHold.l0 (callF PP orc k) k fuel vs x5 x6 vs vals.length i kind cs value H=some (.bool (if kind=1 then distFrom vals i j else if kind=2 then decide ((vals.drop i).foldl (· + ·) x5=value) else if kind=3 then decide ((vals.drop i).foldl (· * ·) x6=value)
    else if kind=4 then decide (vals.getD 0 0 < vals.getD 1 0) else decide (mx (vals.getD 0 0 - vals.getD 1 0) (vals.getD 1 0 - vals.getD 0 0)=value)),H):=by
 have hv:=hs.len
 have hl4:=hl.1
 have eqd:∀ a b:Int,(a == b)=decide (a=b):=fun a b=>by rw [Bool.eq_iff_iff]; simp
 unfold KindLen at h2
 intro j
 induction j with
 | zero=>
  intro i fuel x5 x6 hi hf h50 h51 h60 h61
  obtain ⟨fuel,rfl⟩:=Zs fuel (by omega)
  rw [show vals.drop i=[] from List.drop_eq_nil_of_le (by omega)]
  simp (disch:=omega) only [impl_valuesHold.l0,impl_valuesHold.j2,df,Zf,distFrom,List.foldl_nil,eqd]
  by_cases k1:kind=1
  ·subst k1; rfl
  by_cases k2:kind=2
  ·subst k2; rfl
  by_cases k3:kind=3
  ·subst k3; rfl
  have hlen:2 ≤ vals.length:=by omega
  have a0:=hl.at 0
  have a1:=hl.at 1
  by_cases k4:kind=4
  ·simp (disch:=omega) only [k2,k3,k4,if_false,dt,df,Za,Zt,Zf,rdn hs,Zo,wr,Zz,Zi]
   rfl
  ·have k5:kind=5:=by omega
   subst k5
   simp (disch:=omega) only [if_false,dt,df,Za,Zt,Zf,rdn hs,Zo,wr,Zz,Zi]
   rfl
 | succ j ih=>
  intro i fuel x5 x6 hi hf h50 h51 h60 h61
  obtain ⟨fuel,rfl⟩:=Zs fuel (by omega)
  have h3:i < vals.length:=by omega
  obtain ⟨a0,a1⟩:=hl.at i
  have hd:(vals.drop i)=vals.getD i 0 :: vals.drop (i + 1):=by
   rw [List.drop_eq_getElem_cons h3,List.getD_eq_getElem?_getD,List.getElem?_eq_getElem h3]; rfl
  have hp:(4:Int) ^ i ≤ 64:=by
   have:i=0 ∨ i=1 ∨ i=2 ∨ i=3:=by omega
   rcases this with rfl | rfl | rfl | rfl <;> decide
  have hm:x6 * vals.getD i 0 ≤ x6 * 4:=Int.mul_le_mul_of_nonneg_left a1 h60
  have hm0:0 ≤ x6 * vals.getD i 0:=Int.mul_nonneg h60 a0
  have hq:(4:Int) ^ (i + 1)=4 ^ i * 4:=Int.pow_succ _ _
  have h6:=ih (i + 1) fuel (x5 + vals.getD i 0) (x6 * vals.getD i 0) (by omega) (by omega) (by omega) (by omega) (by omega) (by omega)
  push_cast at h6
  rw [hd,List.foldl_cons,List.foldl_cons]
  by_cases k1:kind=1
  ·have hc:=Contains_ok hk (vals.getD i 0) (reads_pre hs i (by omega) vs.nil) (by simp; omega)
   have hsl:Sl.mk vs.nil vs.blk (vs.off + 0 * 1) ((i:Int) - 0).toNat=Sl.mk vs.nil vs.blk vs.off i:=by simp
   subst k1
   simp only [if_true] at h6 ⊢
   rw [distFrom]
   simp (disch:=omega) only [impl_valuesHold.l0,dt,bt,Za,Zt,Zn,Zz,rdn hs,Zo,wr,hsl]
   rw [ip (by simp; omega),hc]
   cases (vals.take i).contains (vals.getD i 0) with
   | true=>simp only [impl_valuesHold.j1,dt,df,bt,bf,nt,nf,Za,Zy,Zx,Zt,Zf,Zn,Zz,Zi,Zo,wr,AV.toB,AV.toI,AV.toS,if_true,Bool.false_and]
   | false=>simp (disch:=omega) only [impl_valuesHold.j1,impl_valuesHold.j3,dt,df,bt,bf,nt,nf,Za,Zy,Zx,Zt,Zf,Zn,Zz,Zi,Zo,wr,AV.toB,AV.toI,AV.toS,if_true,h6,Bool.true_and]
  ·simp only [if_neg k1] at h6 ⊢
   simp (disch:=omega) only [impl_valuesHold.l0,impl_valuesHold.j1,impl_valuesHold.j3,dt,bf,Za,Zt,Zf,Zn,rdn hs,Zo,wr,h6]
theorem valuesHold_ok {k:Nat} (hk:2000002 ≤ k) {kind value:Int} {cs vs:Sl} {H:Hp} {vals:List Int} (hs:Reads .i64 H vs vals) (hl:Vals vals) (h2:KindLen kind vals.length) :
  callF PP orc k impl_valuesHold.id [.agg [.int .i64 kind,.sl 1 cs,.int .i64 value],.sl 1 vs] H=some (.bool (holdsV kind value vals),H):=by
 obtain ⟨k,rfl⟩:=Zs k (by omega)
 rw [impl_valuesHold.call]
 have h4:=hl.1
 have:=implHold_l0 (show 2000001 ≤ k by omega) (kind:=kind) (value:=value) (cs:=cs) hs hl h2 vals.length 0 k 0 1 (by omega) (by omega) (by omega) (by omega) (by omega) (by omega)
 simp only [List.drop_zero] at this
 have e:=hs.len
 show impl_valuesHold.l0 (callF PP orc k) k k vs 0 1 vs (vs.len:Int) 0 kind cs value H=_
 rw [e]
 exact this
/-! ### impl.ruleMasks -/
structure Try (H:Hp) (cb:Nat) (rb vb ob tb:Nat) (kind value:Int) (cs ws vs os:Sl):Prop where
 c:H[cb]?=some (some ⟨false,[.sl 1 ws]⟩)
 r:H[rb]?=some (some ⟨false,[.int .i64 kind,.sl 1 cs,.int .i64 value]⟩)
 v:H[vb]?=some (some ⟨false,[.sl 1 vs]⟩)
 o:H[ob]?=some (some ⟨false,[.sl 1 os]⟩)
 t:H[tb]?=some (some ⟨false,[.fn impl_ruleMasks_1.id [.ptr cb 0,.ptr rb 0,.ptr vb 0,.ptr ob 0,.ptr tb 0]]⟩)
 ne:(cb ≠ vs.blk∧cb ≠ os.blk)∧(rb ≠ vs.blk∧rb ≠ os.blk)∧(vb ≠ vs.blk∧vb ≠ os.blk)∧(ob ≠ vs.blk∧ob ≠ os.blk)∧(tb ≠ vs.blk∧tb ≠ os.blk)
theorem Try.adv {H H':Hp} {cb rb vb ob tb:Nat} {kind value:Int} {cs ws vs os:Sl} (h:Try H cb rb vb ob tb kind value cs ws vs os) (g:Adv2 vs.blk os.blk H H'):Try H' cb rb vb ob tb kind value cs ws vs os:=by
 obtain ⟨n1,n2,n3,n4,n5⟩:=h.ne
 exact ⟨g.but _ _ n1.1 n1.2 h.c,g.but _ _ n2.1 n2.2 h.r,g.but _ _ n3.1 n3.2 h.v,g.but _ _ n4.1 n4.2 h.o,g.but _ _ n5.1 n5.2 h.t,h.ne⟩
theorem box_sl {H:Hp} {b:Nat} {s:Sl} (h:H[b]?=some (some ⟨false,[.sl 1 s]⟩)):ldS 1 H b 0=some s:=by unfold ldS Hp.cell; rw [h]; simp [AV.toS]
theorem adv_adv2 {a c:Nat} {H H':Hp} (h:Adv a H H'):Adv2 a c H H':=⟨fun d x h1 _ hx=>h.but d x h1 hx,h.le⟩
theorem adv_adv2' {a c:Nat} {H H':Hp} (h:Adv c H H'):Adv2 a c H H':=⟨fun d x _ h2 hx=>h.but d x h2 hx,h.le⟩
theorem Adv2.tr {a c:Nat} {H H1 H2:Hp} (h:Adv2 a c H H1) (h':Adv2 a c H1 H2):Adv2 a c H H2:=h.trans h' (.inl rfl)
theorem Try_l0 (rec:Rec) (k:Nat) {B:Hp} {ob:Nat} {vs os:Sl} {vals:List Int} (hv:Vals vals) (hne:vs.blk ≠ os.blk) (hob:ob ≠ os.blk) :
  ∀ (j i fuel:Nat) (H:Hp) (fl:List Int),i + j=vals.length→j < fuel→B <+: H→Reads .i64 H vs vals→H[ob]?=some (some ⟨false,[.sl 1 os]⟩)→Ms fl→vals.length ≤ fl.length→Own 1 B H os (fl.map (.int .i64)) →
   ∃ H',impl_ruleMasks_1.l0 rec k fuel ob 0 vs vals.length i H=some (.tup [],H')∧B <+: H'∧Adv os.blk H H'∧Own 1 B H' os ((orFrom vals fl i j).map (.int .i64)):=by
 have hl:=hv.1
 intro j
 induction j with
 | zero=>
  intro i fuel H fl hi hf hp hs hb hm hfl ho
  obtain ⟨fuel,rfl⟩:=Zs fuel (by omega)
  exact ⟨H,by simp (disch:=omega) only [impl_ruleMasks_1.l0,dt,df,bt,bf,nt,nf,Za,Zy,Zx,Zt,Zf,Zn,Zz,Zi,Zo,wr,AV.toB,AV.toI,AV.toS,if_true],hp,Adv.refl _ _,ho⟩
 | succ j ih=>
  intro i fuel H fl hi hf hp hs hb hm hfl ho
  obtain ⟨fuel,rfl⟩:=Zs fuel (by omega)
  have hfs:os.len=fl.length:=by have:=ho.len; simpa using this
  have hvl:=hs.len
  obtain ⟨v0,v1⟩:=hv.at i
  obtain ⟨H1,a1,a2,a3,a4⟩:=own_set1 ho hp i (by omega) (mOr (fl.getD i 0) (pw (vals.getD i 0)))
  obtain ⟨H',b1,b2,b3,b4⟩:=ih (i + 1) fuel H1 _ (by omega) (by omega) a2 (a4.reads hne hs) (a4.but _ _ hob hb) (hm.set i (M.or (hm.at i) (M.pw v0 v1))) (by simpa using hfl) a3
  push_cast at b1
  refine ⟨H',?_,b2,a4.trans b3,b4⟩
  simp (disch:=omega) only [impl_ruleMasks_1.l0,dt,df,bt,bf,nt,nf,Za,Zy,Zx,Zt,Zf,Zn,Zz,Zi,Zo,wr,AV.toB,AV.toI,AV.toS,if_true,box_sl hb,rdn (own_reads ho),rdn hs,iN,m_shl v0,m_or (hm.at i) (M.pw v0 v1),a1,b1]
theorem okTry:okF PP impl_ruleMasks_1.id=true:=by kernel_rfl
theorem Try_ok {B:Hp} {cb rb vb ob tb:Nat} {kind value:Int} {cs ws vs os:Sl} {own:List Int} (hw:Reads .i64 B ws own) (hol:own.length ≤ 4) (hom:∀ m ∈ own,(0 ≤ m∧m ≤ 30)∧m.tmod 2=0) (hk2:KindLen kind own.length) (hne:vs.blk ≠ os.blk) :
  ∀ (rem k:Nat),2000010 + rem ≤ k→∀ (H:Hp) (vals rest fl:List Int),vals.length + rem=own.length→rest.length=rem→B <+: H→Try H cb rb vb ob tb kind value cs ws vs os→Own 1 B H vs ((vals ++ rest).map (.int .i64))→Vals vals→fl.length=own.length→Ms fl→Own 1 B H os (fl.map (.int .i64)) →
   ∃ H' rest',callF PP orc k impl_ruleMasks_1.id [.int .i64 (vals.length:Int),.ptr cb 0,.ptr rb 0,.ptr vb 0,.ptr ob 0,.ptr tb 0] H=some (.tup [],H')∧rest'.length=rem∧B <+: H'∧Adv2 vs.blk os.blk H H'∧Own 1 B H' vs ((vals ++ rest').map (.int .i64))∧Own 1 B H' os ((ways (holdsV kind value) (own.drop vals.length) vals fl).map (.int .i64)):=by
 intro rem
 induction rem with
 | zero=>
  intro k hk H vals rest fl hl hr hp ht hv hvals hfl hm ho
  obtain ⟨k,rfl⟩:=Zs k (by omega)
  rw [impl_ruleMasks_1.call]
  have er:rest=[]:=List.length_eq_zero_iff.1 hr
  subst er
  rw [List.append_nil] at hv
  have hwl:=hw.len
  have rv:=own_reads hv
  have hvl:=rv.len
  have h1:=valuesHold_ok (show 2000002 ≤ k by omega) (kind:=kind) (value:=value) (cs:=cs) rv hvals (by rw [show vals.length=own.length by omega]; exact hk2)
  have r0:ldI .i64 H rb 0=some kind:=by unfold ldI Hp.cell; rw [ht.r]; simp [AV.toI]
  have r1:ldS 1 H rb (0 + 1)=some cs:=by unfold ldS Hp.cell; rw [ht.r]; simp [AV.toS]
  have r2:ldI .i64 H rb (0 + 1 + 1)=some value:=by unfold ldI Hp.cell; rw [ht.r]; simp [AV.toI]
  rw [show own.drop vals.length=[] from List.drop_eq_nil_of_le (by omega),ways]
  cases hh:holdsV kind value vals with
  | true=>
   rw [hh] at h1
   obtain ⟨H',b1,b2,b3,b4⟩:=Try_l0 (callF PP orc k) k hvals hne ht.ne.2.2.2.1.2 vals.length 0 k H fl (by omega) (by have:=hvals.1; omega) hp rv ht.o hm (by omega) ho
   refine ⟨H',[],?_,rfl,b2,adv_adv2' b3,by rw [List.append_nil]; exact b3.but.own hne hv,b4⟩
   simp only [Int.natCast_zero] at b1
   simp (disch:=omega) only [impl_ruleMasks_1.f,dt,df,bt,bf,nt,nf,Za,Zy,Zx,Zt,Zf,Zn,Zz,Zi,Zo,wr,AV.toB,AV.toI,AV.toS,if_true,box_sl ht.c,box_sl ht.v,r0,r1,r2,h1,hvl,b1]
  | false=>
   rw [hh] at h1
   refine ⟨H,[],?_,rfl,hp,Adv2.refl _ _ _,by rw [List.append_nil]; exact hv,by simpa using ho⟩
   simp (disch:=omega) only [impl_ruleMasks_1.f,dt,df,bt,bf,nt,nf,Za,Zy,Zx,Zt,Zf,Zn,Zz,Zi,Zo,wr,AV.toB,AV.toI,AV.toS,if_true,box_sl ht.c,box_sl ht.v,r0,r1,r2,h1]
 | succ rem ih=>
  intro k hk H vals rest fl hl hr hp ht hv hvals hfl hm ho
  obtain ⟨k,rfl⟩:=Zs k (by omega)
  rw [impl_ruleMasks_1.call]
  have hwl:=hw.len
  have hcv:vals.length < own.length:=by omega
  have hom':=hom _ (mem_getD hcv)
  have hd:own.drop vals.length=own.getD vals.length 0 :: own.drop (vals.length + 1):=by
   rw [List.drop_eq_getElem_cons hcv,List.getD_eq_getElem?_getD,List.getElem?_eq_getElem hcv]; rfl
  rw [hd,ways]
  generalize hmm:own.getD vals.length 0=m at *
  have hM:M m:=⟨hom'.1.1,by have:=hom'.1.2; omega⟩
  have hmv:maskVals m=mvFrom m 1 4:=by unfold maskVals; rw [if_pos hom']
  rw [hmv]
  have loop:∀ (j v fuel:Nat) (Hc:Hp) (rest fl:List Int),v + j=5→1 ≤ v→j < fuel→rest.length=rem + 1→B <+: Hc→Try Hc cb rb vb ob tb kind value cs ws vs os→Own 1 B Hc vs ((vals ++ rest).map (.int .i64))→fl.length=own.length→Ms fl→Own 1 B Hc os (fl.map (.int .i64)) →
    ∃ H' rest',impl_ruleMasks_1.l1 (callF PP orc k) k fuel (vals.length:Int) cb 0 vb 0 tb 0 v Hc=some (.tup [],H')∧rest'.length=rem + 1∧B <+: H'∧Adv2 vs.blk os.blk Hc H'∧Own 1 B H' vs ((vals ++ rest').map (.int .i64))∧Own 1 B H' os (((mvFrom m v j).foldl (fun f v=>ways (holdsV kind value) (own.drop (vals.length + 1)) (vals ++ [v]) f) fl).map (.int .i64)):=by
   intro j
   induction j with
   | zero=>
    intro v fuel Hc rest fl hv5 hv1 hf hr hp ht hv hfl hm ho
    obtain ⟨fuel,rfl⟩:=Zs fuel (by omega)
    refine ⟨Hc,rest,?_,hr,hp,Adv2.refl _ _ _,hv,ho⟩
    simp (disch:=omega) only [impl_ruleMasks_1.l1,dt,df,bt,bf,nt,nf,Za,Zy,Zx,Zt,Zf,Zn,Zz,Zi,Zo,wr,AV.toB,AV.toI,AV.toS,if_true]
   | succ j ihj=>
    intro v fuel Hc rest fl hv5 hv1 hf hr hp ht hv hfl hm ho
    obtain ⟨fuel,rfl⟩:=Zs fuel (by omega)
    have hvl:=(own_reads hv).len
    simp only [List.length_append] at hvl
    have hb:mbit m v=has m v:=by
     have:=m_bit (v:=(v:Int)) hM (by omega) (by omega)
     simpa [mbit] using this
    have hbit:=m_bit' (v:=(v:Int)) hM (by omega) (by omega)
    rw [Int.toNat_natCast] at hbit
    rw [mvFrom,hb]
    cases hh:has m v with
    | true=>
     rw [hh] at hbit
     obtain ⟨x,rest0,rfl⟩:∃ x rest0,rest=x :: rest0:=by
      cases rest with
      | nil=>simp at hr
      | cons x r=>exact ⟨x,r,rfl⟩
     obtain ⟨H1,a1,a2,a3,a4⟩:=own_set1 hv hp vals.length (by simp) (v:Int)
     have e1:(vals ++ x :: rest0).set vals.length (v:Int)=(vals ++ [(v:Int)]) ++ rest0:=by
      rw [List.set_append_right _ _ (Nat.le_refl _),Nat.sub_self,List.set_cons_zero,List.append_assoc]; rfl
     rw [e1] at a3
     have ht1:=ht.adv (adv_adv2 (c:=os.blk) a4)
     have hw1:=ways_ok (holdsV kind value) (own.drop (vals.length + 1)) (vals ++ [(v:Int)]) fl (hvals.app (by omega) ⟨by omega,by omega⟩) (by simp; omega) hm
     obtain ⟨H2,rest',b1,b2,b3,b4,b5,b6⟩:=ih k (by omega) H1 (vals ++ [(v:Int)]) rest0 fl (by simp; omega) (by simpa using hr) a2 ht1 a3 (hvals.app (by omega) ⟨by omega,by omega⟩) hfl hm (a4.but.own (Ne.symm hne) ho)
     rw [List.length_append,List.length_singleton] at b1 b6
     rw [List.append_assoc] at b5
     have adv2:Adv2 vs.blk os.blk Hc H2:=(adv_adv2 (c:=os.blk) a4).tr b4
     obtain ⟨H3,rest'',d1,d2,d3,d4,d5,d6⟩:=ihj (v + 1) fuel H2 ([(v:Int)] ++ rest') _ (by omega) (by omega) (by omega) (by simp; omega) b3 (ht.adv adv2) b5 (by rw [hw1.2]; exact hfl) hw1.1 b6
     have hf0:ldF H1 tb 0=some (impl_ruleMasks_1.id,[.ptr cb 0,.ptr rb 0,.ptr vb 0,.ptr ob 0,.ptr tb 0]):=by unfold ldF Hp.cell; rw [ht1.t]; simp [AV.toF]
     refine ⟨H3,rest'',?_,d2,d3,adv2.tr d4,d5,?_⟩
     ·push_cast at d1 b1
      have rw0:=rdn (pf_reads hp hw) hcv
      rw [hmm] at rw0
      simp (disch:=omega) only [impl_ruleMasks_1.l1,impl_ruleMasks_1.j2,dt,Za,Zt,Zn,Zo,box_sl ht.c,box_sl ht.v,rw0,iN,hbit,hvl,a1,hf0,okTry,wr (n:=(vals.length:Int) + 1),wr (n:=(v:Int) + 1),List.cons_append,List.nil_append,List.all_cons,List.all_nil,AV.glob,AV.cell,b1,d1]
     ·rw [if_pos rfl,List.cons_append,List.nil_append,List.foldl_cons]; exact d6
    | false=>
     rw [hh] at hbit
     obtain ⟨H3,rest'',d1,d2,d3,d4,d5,d6⟩:=ihj (v + 1) fuel Hc rest fl (by omega) (by omega) (by omega) hr hp ht hv hfl hm ho
     refine ⟨H3,rest'',?_,d2,d3,d4,d5,?_⟩
     ·push_cast at d1
      have rw0:=rdn (pf_reads hp hw) hcv
      rw [hmm] at rw0
      simp (disch:=omega) only [impl_ruleMasks_1.l1,impl_ruleMasks_1.j2,dt,Za,Zt,Zf,Zn,Zo,box_sl ht.c,rw0,iN,hbit,wr (n:=(v:Int) + 1),d1]
     ·rw [if_neg (by simp),List.nil_append]; exact d6
  obtain ⟨H',rest',b1,b2,b3,b4,b5,b6⟩:=loop 4 1 k H rest fl (by omega) (by omega) (by omega) hr hp ht hv hfl hm ho
  refine ⟨H',rest',?_,b2,b3,b4,b5,b6⟩
  simp (disch:=omega) only [impl_ruleMasks_1.f,dt,df,bt,bf,nt,nf,Za,Zy,Zx,Zt,Zf,Zn,Zz,Zi,Zo,wr,AV.toB,AV.toI,AV.toS,if_true,box_sl ht.c]
  exact b1
structure Sub (l l':List Int) (P:Nat→Nat→Prop):Prop where
 len:l'.length=l.length
 ms:Ms l'
 has:∀ j v:Nat,j < l.length→(has (l'.getD j 0) v=true ↔ has (l.getD j 0) v=true∧¬ P j v)
theorem Sub.refl {l:List Int} (h:Ms l):Sub l l (fun _ _=>False):=⟨rfl,h,fun j v _=>by simp⟩
theorem Sub.congr {l l':List Int} {P Q:Nat→Nat→Prop} (h:Sub l l' P) (hq:∀ j v,j < l.length→(P j v ↔ Q j v)):Sub l l' Q:=⟨h.len,h.ms,fun j v hj=>by rw [h.has j v hj,hq j v hj]⟩
theorem Sub.congr5 {l l':List Int} {P Q:Nat→Nat→Prop} (hl:Ms l) (h:Sub l l' P) (hq:∀ j v,j < l.length→v < 5→(P j v ↔ Q j v)):Sub l l' Q:=⟨h.len,h.ms,fun j v hj=>by
 by_cases hv:v < 5
 ·rw [h.has j v hj,hq j v hj hv]
 ·rw [has_big (h.ms.at j) (by omega),has_big (hl.at j) (by omega)]; simp⟩
theorem Sub.unique {l a b:List Int} {P:Nat→Nat→Prop} (h:Sub l a P) (h':Sub l b P):a=b:=by
 apply List.ext_getElem?
 intro i
 by_cases hi:i < l.length
 ·have ha:=h.len; have hb:=h'.len
  have e:a.getD i 0=b.getD i 0:=m_ext (h.ms.at i) (h'.ms.at i) fun v _=>by
   rw [Bool.eq_iff_iff,h.has i v hi,h'.has i v hi]
  rw [List.getD_eq_getElem?_getD,List.getD_eq_getElem?_getD,List.getElem?_eq_getElem (by omega),List.getElem?_eq_getElem (by omega)] at e
  rw [List.getElem?_eq_getElem (by omega),List.getElem?_eq_getElem (by omega)]
  simpa using e
 ·rw [List.getElem?_eq_none (by rw [h.len]; omega),List.getElem?_eq_none (by rw [h'.len]; omega)]
theorem Sub.step {l a:List Int} {P:Nat→Nat→Prop} (h:Sub l a P) (i:Nat) (hi:i < l.length) {m:Int} (hm:M m):Sub l (a.set i (mSub (a.getD i 0) m)) (fun j v=>P j v ∨ (j=i∧Rp.has m v=true)):=by
 refine ⟨by simpa using h.len,h.ms.set i (M.sub (h.ms.at i) hm),fun j v hj=>?_⟩
 have ha:=h.len
 rw [getD_set']
 by_cases e:i=j
 ·subst e
  rw [if_pos ⟨rfl,by omega⟩,has_sub (h.ms.at i) hm,Bool.and_eq_true,h.has i v hj,Bool.not_eq_true']
  cases Rp.has m v <;> simp [not_or]
 ·rw [if_neg (by omega),h.has j v hj]
  constructor
  ·rintro ⟨x,y⟩; exact ⟨x,by rintro (z | z); exact y z; exact e z.1.symm⟩
  ·rintro ⟨x,y⟩; exact ⟨x,fun z=>y (.inl z)⟩
where
 getD_set' {l:List Int} {i j:Nat} {v:Int}:(l.set i v).getD j 0=if i=j∧i < l.length then v else l.getD j 0:=by
  rw [List.getD_eq_getElem?_getD,List.getElem?_set]
  by_cases e:i=j
  ·subst e
   by_cases h:i < l.length
   ·simp [h]
   ·simp [h,List.getD_eq_getElem?_getD,List.getElem?_eq_none (Nat.le_of_not_lt h)]
  ·simp [e]
theorem has_all (v:Nat) (hv:v < 5) (m:Int):Rp.has (mSub 31 m) v=!Rp.has m v ∨ ¬ M m:=by
 by_cases h:M m
 ·left
  rw [has_sub ⟨by decide,by decide⟩ h]
  have:Rp.has 31 v=true:=by
   have:v=0 ∨ v=1 ∨ v=2 ∨ v=3 ∨ v=4:=by omega
   rcases this with rfl | rfl | rfl | rfl | rfl <;> decide
  rw [this,Bool.true_and]
 ·exact .inr h
theorem and_sub {a m:Int} (ha:M a) (hm:M m):mAnd a m=mSub a (mSub 31 m):=by
 have h31:M 31:=⟨by decide,by decide⟩
 refine m_ext (M.and ha hm) (M.sub ha (M.sub h31 hm)) fun v hv=>?_
 rw [has_and,has_sub ha (M.sub h31 hm)]
 rcases has_all v hv m with e | e
 ·rw [e,Bool.not_not]
 ·exact absurd hm e
open Classical in
noncomputable def maskOf (q:Nat→Prop):Int:=(((if q 0 then 1 else 0) ||| (if q 1 then 2 else 0) ||| (if q 2 then 4 else 0) ||| (if q 3 then 8 else 0) ||| (if q 4 then 16 else 0):Nat):Int)
theorem tab_mk:∀ a b c d e:Bool,((bif a then 1 else 0) ||| (bif b then 2 else 0) ||| (bif c then 4 else 0) ||| (bif d then 8 else 0) ||| (bif e then 16 else 0):Nat) < 32 ∧
  ((bif a then 1 else 0) ||| (bif b then 2 else 0) ||| (bif c then 4 else 0) ||| (bif d then 8 else 0) ||| (bif e then 16 else 0):Nat).testBit 0=a ∧
  ((bif a then 1 else 0) ||| (bif b then 2 else 0) ||| (bif c then 4 else 0) ||| (bif d then 8 else 0) ||| (bif e then 16 else 0):Nat).testBit 1=b ∧
  ((bif a then 1 else 0) ||| (bif b then 2 else 0) ||| (bif c then 4 else 0) ||| (bif d then 8 else 0) ||| (bif e then 16 else 0):Nat).testBit 2=c ∧
  ((bif a then 1 else 0) ||| (bif b then 2 else 0) ||| (bif c then 4 else 0) ||| (bif d then 8 else 0) ||| (bif e then 16 else 0):Nat).testBit 3=d ∧
  ((bif a then 1 else 0) ||| (bif b then 2 else 0) ||| (bif c then 4 else 0) ||| (bif d then 8 else 0) ||| (bif e then 16 else 0):Nat).testBit 4=e:=by decide
open Classical in
theorem maskOf_ok (q:Nat→Prop):M (maskOf q)∧∀ v,v < 5→(has (maskOf q) v=true ↔ q v):=by
 obtain ⟨t,t0,t1,t2,t3,t4⟩:=tab_mk (decide (q 0)) (decide (q 1)) (decide (q 2)) (decide (q 3)) (decide (q 4))
 have e:maskOf q=(((bif decide (q 0) then 1 else 0) ||| (bif decide (q 1) then 2 else 0) ||| (bif decide (q 2) then 4 else 0) ||| (bif decide (q 3) then 8 else 0) ||| (bif decide (q 4) then 16 else 0):Nat):Int):=by
  unfold maskOf
  simp only [cond_eq_ite,decide_eq_true_eq]
 rw [e]
 refine ⟨⟨by omega,by omega⟩,fun v hv=>?_⟩
 unfold has
 rw [Int.toNat_natCast]
 have:v=0 ∨ v=1 ∨ v=2 ∨ v=3 ∨ v=4:=by omega
 rcases this with rfl | rfl | rfl | rfl | rfl
 ·rw [t0,decide_eq_true_eq]
 ·rw [t1,decide_eq_true_eq]
 ·rw [t2,decide_eq_true_eq]
 ·rw [t3,decide_eq_true_eq]
 ·rw [t4,decide_eq_true_eq]
noncomputable def subAll (l:List Int) (P:Nat→Nat→Prop):List Int:=(List.range l.length).map fun j=>maskOf fun v=>has (l.getD j 0) v=true∧¬ P j v
theorem subAll_ok {l:List Int} (h:Ms l) (P:Nat→Nat→Prop):Sub l (subAll l P) P:=by
 have hlen:(subAll l P).length=l.length:=by simp [subAll]
 have hat:∀ j,j < l.length→(subAll l P).getD j 0=maskOf fun v=>has (l.getD j 0) v=true∧¬ P j v:=fun j hj=>by
  rw [List.getD_eq_getElem?_getD]; simp [subAll,hj]
 refine ⟨hlen,fun m hm=>?_,fun j v hj=>?_⟩
 ·obtain ⟨j,_,rfl⟩:=List.mem_map.1 hm
  exact (maskOf_ok _).1
 ·rw [hat j hj]
  by_cases hv:v < 5
  ·exact (maskOf_ok _).2 v hv
  ·rw [has_big (maskOf_ok _).1 (by omega),has_big (h.at j) (by omega)]; simp
theorem Sub.eq {l a:List Int} {P:Nat→Nat→Prop} (hl:Ms l) (h:Sub l a P):a=subAll l P:=h.unique (subAll_ok hl P)
/-! ### The techniques -/
def single (m:Int):Bool:=(maskVals m).length == 1
def peer (n:Nat) (j k:Nat):Prop:=j ≠ k∧(j / n=k / n ∨ j % n=k % n)
def PS (n:Nat) (l:List Int) (j v:Nat):Prop:=∃ k,k < l.length∧peer n j k∧single (l.getD k 0)=true∧has (l.getD k 0) v=true
noncomputable def singlesV (n:Int) (l:List Int):List Int:=if masksOk n l=true then subAll l (PS n.toNat l) else []
def lineHas (n:Int) (l:List Int) (line:Int) (v:Nat):List Int:=(lineCells n line).filter fun c=>has (l.getD c.toNat 0) v
def PH (n:Int) (l:List Int) (j w:Nat):Prop:=∃ line v:Nat,(line:Int) < 2 * n∧1 ≤ v∧(v:Int) ≤ n∧lineHas n l line v=[(j:Int)]∧w ≠ v
noncomputable def hiddenV (n:Int) (l:List Int):List Int:=if masksOk n l=true then subAll l (PH n l) else []
def two (m:Int):Bool:=(maskVals m).length == 2
def lc (n:Int) (line i:Nat):Nat:=((lineCells n line).getD i 0).toNat
def PQ (n:Int) (l:List Int) (c v:Nat):Prop:=∃ line i j k:Nat,(line:Int) < 2 * n∧j < i∧(i:Int) < n∧(k:Int) < n∧k ≠ i∧k ≠ j∧l.getD (lc n line i) 0=l.getD (lc n line j) 0∧two (l.getD (lc n line i) 0)=true∧c=lc n line k∧has (l.getD (lc n line i) 0) v=true
noncomputable def pairsV (n:Int) (l:List Int):List Int:=if masksOk n l=true then subAll l (PQ n l) else []
def setAll (cells:List Int):List Int→List Int→Nat→Nat→List Int
 | l,_,_,0=>l
 | l,found,i,j + 1=>setAll cells (l.set (cells.getD i 0).toNat (found.getD i 0)) found (i + 1) j
def ruleStep (n:Int) (l:List Int) (r:V):List Int:=setAll r.2.1 l (ruleMasksS n r.1 r.2.2 r.2.1 l) 0 r.2.1.length
def rulesV (n:Int) (given:List Int) (vs:List V) (l:List Int):List Int:=if puzzleV n given vs=true∧masksOk n l=true then vs.foldl (ruleStep n) l else []
noncomputable def narrowV (n:Int) (given:List Int) (vs:List V) (l:List Int) (t:Int):List Int:=
 if puzzleV n given vs=true∧masksOk n l=true then (if t=1 then singlesV n l else if t=2 then hiddenV n l else if t=3 then pairsV n l else if t=4 then rulesV n given vs l else []) else []
def startV (n:Int) (given:List Int) (vs:List V):List Int:=if puzzleV n given vs=true then openOf n given else []
theorem masks_M {n:Int} {l:List Int} (h:masksOk n l=true):Ms l:=fun m hm=>maskOk_M ((masksOk_iff.1 h).2.1 m hm)
theorem masks_len {n:Int} {l:List Int} (h:masksOk n l=true):4 ≤ l.length∧l.length ≤ 16∧l.length=n.toNat * n.toNat∧n=(n.toNat:Int)∧2 ≤ n.toNat∧n.toNat ≤ 4:=by
 obtain ⟨hn,_,h2⟩:=masksOk_iff.1 h
 have:n=2 ∨ n=3 ∨ n=4:=by omega
 rcases this with rfl | rfl | rfl <;> simp <;> omega
theorem line_in {n:Int} {l:List Int} (hv:masksOk n l=true) {line c:Int} (h:c ∈ lineCells n line):0 ≤ c∧c.toNat < l.length∧c < (l.length:Int):=by
 have:=lineCells_mem h
 have h2:=(masksOk_iff.1 hv).2.2
 omega
theorem orFrom_has {vals:List Int} (hv:Vals vals):∀ (j i:Nat) {fl:List Int},Ms fl→i + j=vals.length→vals.length ≤ fl.length→∀ x v:Nat,has ((orFrom vals fl i j).getD x 0) v=true ↔ has (fl.getD x 0) v=true ∨ (i ≤ x∧x < i + j∧vals.getD x 0=(v:Int))
 | 0,i,fl,h,_,_,x,v=>by rw [orFrom]; constructor; exact .inl; rintro (h | h); exact h; omega
 | j + 1,i,fl,h,hi,hl,x,v=>by
  have hM:=M.pw (hv.at i).1 (hv.at i).2
  rw [orFrom,orFrom_has hv j (i + 1) (h.set i (M.or (h.at i) hM)) (by omega) (by simpa using hl)]
  by_cases e:x=i
  ·subst e
   have:(fl.set x (mOr (fl.getD x 0) (pw (vals.getD x 0)))).getD x 0=mOr (fl.getD x 0) (pw (vals.getD x 0)):=by
    rw [List.getD_eq_getElem?_getD,List.getElem?_set_self (by omega)]; rfl
   rw [this,has_or,has_pw (hv.at x).1]
   simp only [Bool.or_eq_true,decide_eq_true_eq]
   constructor
   ·rintro ((h | h) | h)
    ·exact .inl h
    ·exact .inr ⟨by omega,by omega,h.symm⟩
    ·omega
   ·rintro (h | h)
    ·exact .inl (.inl h)
    ·exact .inl (.inr h.2.2.symm)
  ·have:(fl.set i (mOr (fl.getD i 0) (pw (vals.getD i 0)))).getD x 0=fl.getD x 0:=by
    rw [List.getD_eq_getElem?_getD,List.getElem?_set_ne (Ne.symm e),← List.getD_eq_getElem?_getD]
   rw [this]
   constructor
   ·rintro (h | h)
    ·exact .inl h
    ·exact .inr ⟨by omega,by omega,h.2.2⟩
   ·rintro (h | h)
    ·exact .inl h
    ·exact .inr ⟨by omega,by omega,h.2.2⟩
def AllIn:List Int→List Int→Prop
 | [],[]=>True
 | m :: ms,w :: ws=>w ∈ maskVals m∧AllIn ms ws
 | _,_=>False
theorem AllIn.len:∀ {ms ws:List Int},AllIn ms ws→ws.length=ms.length
 | [],[],_=>rfl
 | _ :: _,_ :: _,h=>by simp [AllIn.len h.2]
 | [],_ :: _,h=>h.elim
 | _ :: _,[],h=>h.elim
theorem AllIn.vals:∀ {ms ws:List Int},AllIn ms ws→∀ w ∈ ws,1 ≤ w∧w ≤ 4
 | [],[],_,w,hw=>by cases hw
 | _ :: _,_ :: _,h,w,hw=>by
  rcases List.mem_cons.1 hw with e | e
  ·rw [e]; exact maskVals_mem h.1
  ·exact AllIn.vals h.2 w e
 | [],_ :: _,h,_,_=>h.elim
 | _ :: _,[],h,_,_=>h.elim
theorem ways_has (h:List Int→Bool):∀ (ms vals fl:List Int),Vals vals→vals.length + ms.length ≤ 4→Ms fl→vals.length + ms.length ≤ fl.length→∀ x v:Nat,x < vals.length + ms.length →
  (has ((ways h ms vals fl).getD x 0) v=true ↔ has (fl.getD x 0) v=true ∨ ∃ ws,AllIn ms ws∧h (vals ++ ws)=true∧(vals ++ ws).getD x 0=(v:Int))
 | [],vals,fl,hv,hl4,hf,hl,x,v,hx=>by
  simp only [Zm,Nat.add_zero] at hx hl
  have key:(∃ ws,AllIn [] ws∧h (vals ++ ws)=true∧(vals ++ ws).getD x 0=(v:Int)) ↔ (h vals=true∧vals.getD x 0=(v:Int)):=by
   constructor
   ·rintro ⟨ws,h1,h2,h3⟩
    cases ws with
    | nil=>rw [List.append_nil] at h2 h3; exact ⟨h2,h3⟩
    | cons w ws=>exact h1.elim
   ·rintro ⟨h1,h2⟩
    exact ⟨[],trivial,by rw [List.append_nil]; exact h1,by rw [List.append_nil]; exact h2⟩
  rw [key,ways]
  split
  ·rename_i hh
   unfold orAll
   rw [orFrom_has hv vals.length 0 hf (by omega) hl]
   constructor
   ·rintro (a | a)
    ·exact .inl a
    ·exact .inr ⟨hh,a.2.2⟩
   ·rintro (a | a)
    ·exact .inl a
    ·exact .inr ⟨by omega,by omega,a.2⟩
  ·rename_i hh
   constructor
   ·exact .inl
   ·rintro (a | a)
    ·exact a
    ·exact absurd a.1 hh
 | m :: ms,vals,fl,hv,hl4,hf,hl,x,v,hx=>by
  simp only [Zl] at hl4 hl hx
  have key:∀ (L:List Int) (fl:List Int),(∀ w ∈ L,1 ≤ w∧w ≤ 4)→Ms fl→vals.length + ms.length + 1 ≤ fl.length →
    (has ((L.foldl (fun f v=>ways h ms (vals ++ [v]) f) fl).getD x 0) v=true ↔ has (fl.getD x 0) v=true ∨ ∃ w ∈ L,∃ ws,AllIn ms ws∧h (vals ++ w :: ws)=true∧(vals ++ w :: ws).getD x 0=(v:Int)):=by
   intro L
   induction L with
   | nil=>intro fl _ _ _; simp
   | cons w L ih=>
    intro fl hL hf hl
    have hw:=hL w (by simp)
    have hv1:=hv.app (show vals.length < 4 by omega) (v:=w) ⟨by omega,hw.2⟩
    have w1:=ways_ok h ms (vals ++ [w]) fl hv1 (by simp; omega) hf
    have w2:=ways_has h ms (vals ++ [w]) fl hv1 (by simp; omega) hf (by simp; omega) x v (by simp; omega)
    rw [List.foldl_cons,ih _ (fun y hy=>hL y (by simp [hy])) w1.1 (by rw [w1.2]; exact hl),w2]
    simp only [List.append_assoc,List.singleton_append]
    constructor
    ·rintro ((a | ⟨ws,a⟩) | ⟨y,hy,ws,a⟩)
     ·exact .inl a
     ·exact .inr ⟨w,by simp,ws,a⟩
     ·exact .inr ⟨y,by simp [hy],ws,a⟩
    ·rintro (a | ⟨y,hy,ws,a⟩)
     ·exact .inl (.inl a)
     ·rcases List.mem_cons.1 hy with e | e
      ·subst e; exact .inl (.inr ⟨ws,a⟩)
      ·exact .inr ⟨y,e,ws,a⟩
  rw [ways,key (maskVals m) fl (fun w hw=>maskVals_mem hw) hf (by omega)]
  constructor
  ·rintro (a | ⟨w,hw,ws,a1,a2,a3⟩)
   ·exact .inl a
   ·exact .inr ⟨w :: ws,⟨hw,a1⟩,a2,a3⟩
  ·rintro (a | ⟨ws,a1,a2,a3⟩)
   ·exact .inl a
   ·cases ws with
    | nil=>exact a1.elim
    | cons w ws=>exact .inr ⟨w,a1.1,ws,a1.2,a2,a3⟩
theorem has_zero (v:Nat):has 0 v=false:=by unfold has; simp
theorem ruleMasks_has {kind value:Int} {own:List Int} (hl:own.length ≤ 4) (x v:Nat) (hx:x < own.length) :
  has ((ruleMasksV kind value own).getD x 0) v=true ↔ ∃ ws,AllIn own ws∧holdsV kind value ws=true∧ws.getD x 0=(v:Int):=by
 unfold ruleMasksV
 rw [ways_has _ own [] _ ⟨by simp,fun v hv=>by cases hv⟩ (by simpa using hl) (Ms.zeros _) (by simp) x v (by simpa using hx)]
 have e:(List.replicate own.length (0:Int)).getD x 0=0:=by simp [List.getD_eq_getElem?_getD,hx]
 rw [e,has_zero]
 simp
theorem ruleMasks_ok {kind value:Int} {own:List Int} (hl:own.length ≤ 4):Ms (ruleMasksV kind value own)∧(ruleMasksV kind value own).length=own.length:=by
 have:=ways_ok (holdsV kind value) own [] (List.replicate own.length 0) ⟨by simp,fun v hv=>by cases hv⟩ (by simpa using hl) (Ms.zeros _)
 exact ⟨this.1,this.2.trans (by simp)⟩
theorem tab_mv:∀ m:Nat,m < 16→∀ w:Nat,w < 6→((maskVals ((2 * m:Nat):Int)).contains (w:Int)=(decide (1 ≤ w) && (2 * m).testBit w)):=by decide +kernel
theorem mem_maskVals {m w:Int} (hm:0 ≤ m∧m ≤ 30) (he:m.tmod 2=0):w ∈ maskVals m ↔ (1 ≤ w∧w ≤ 4)∧has m w.toNat=true:=by
 obtain ⟨a,ha⟩:∃ a:Nat,m=((2 * a:Nat):Int):=⟨(m / 2).toNat,by rw [Int.tmod_eq_emod_of_nonneg hm.1] at he; omega⟩
 have ha16:a < 16:=by omega
 by_cases hw:1 ≤ w∧w ≤ 4
 ·obtain ⟨b,rfl⟩:=Int.eq_ofNat_of_zero_le (show 0 ≤ w by omega)
  have:=tab_mv a ha16 b (by omega)
  rw [← ha] at this
  rw [← List.contains_iff_mem,this]
  have h1:1 ≤ b:=by omega
  have e:has m ((b:Nat):Int).toNat=(2 * a).testBit b:=by unfold has; rw [ha,Int.toNat_natCast,Int.toNat_natCast]
  rw [e]
  simp [h1,hw]
 ·constructor
  ·intro h; exact absurd (maskVals_mem h) hw
  ·intro h; exact absurd h.1 hw
def Le (g' g:List Int):Prop:=g'.length=g.length∧∀ i:Nat,g'.getD i 0=0 ∨ g'.getD i 0=g.getD i 0
theorem Le.refl (g:List Int):Le g g:=⟨rfl,fun _=>.inr rfl⟩
theorem Le.trans {a b c:List Int} (h:Le a b) (h':Le b c):Le a c:=⟨h.1.trans h'.1,fun i=>by
 rcases h.2 i with e | e
 ·exact .inl e
 ·rw [e]; exact h'.2 i⟩
theorem Le.gv {g' g:List Int} (h:Le g' g) (c:Int):gv g' c=0 ∨ gv g' c=gv g c:=h.2 c.toNat
theorem getD_set {l:List Int} {i j:Nat} {v:Int}:(l.set i v).getD j 0=if i=j∧i < l.length then v else l.getD j 0:=by
 rw [List.getD_eq_getElem?_getD,List.getElem?_set]
 by_cases e:i=j
 ·subst e
  by_cases h:i < l.length
  ·simp [h]
  ·simp [h,List.getD_eq_getElem?_getD,List.getElem?_eq_none (Nat.le_of_not_lt h)]
 ·simp [e]
theorem AllIn.mono:∀ {ms ms' ws:List Int},ms.length=ms'.length→(∀ i,i < ms.length→∀ w,w ∈ maskVals (ms.getD i 0)→w ∈ maskVals (ms'.getD i 0))→AllIn ms ws→AllIn ms' ws
 | [],[],[],_,_,_=>trivial
 | m :: ms,m' :: ms',w :: ws,hl,hs,h=>⟨hs 0 (by simp) w h.1,AllIn.mono (by simpa using hl) (fun i hi w hw=>hs (i + 1) (by simpa using hi) w hw) h.2⟩
 | [],_ :: _,_,hl,_,_=>by simp at hl
 | _ :: _,[],_,hl,_,_=>by simp at hl
 | [],[],_ :: _,_,_,h=>h.elim
 | _ :: _,_ :: _,[],_,_,h=>h.elim
theorem line_at {n:Int} (hn:2 ≤ n∧n ≤ 4) {ln i:Nat} (hl:(ln:Int) < 2 * n) (hi:(i:Int) < n):(lineCells n ln).getD i 0=lineCell n ln i∧(lineCells n ln).length=n.toNat:=by
 unfold lineCells
 rw [if_pos ⟨hn,by omega,hl⟩]
 refine ⟨?_,by simp⟩
 rw [List.getD_eq_getElem?_getD,List.getElem?_map,List.getElem?_range (by omega)]; rfl
theorem Le.up {g x:List Int} (h:Le g x) {i:Nat} (hi:i < g.length):Le (g.set i (x.getD i 0)) x:=⟨by simpa using h.1,fun j=>by
 rw [getD_set]
 split
 ·rename_i e; right; rw [e.1]
 ·exact h.2 j⟩
theorem Le.set {g:List Int} {i:Nat} (h0:g.getD i 0=0) (v:Int):Le g (g.set i v):=⟨by simp,fun j=>by
 rw [getD_set]
 split
 ·rename_i e; left; rw [← e.1]; exact h0
 ·exact .inr rfl⟩
theorem puzzleV_grid {n:Int} {given:List Int} {vs:List V} (h:puzzleV n given vs=true):gridOk given n=true∧vs.all (ruleOkV n)=true:=by
 unfold puzzleV at h
 simp only [Bool.and_eq_true] at h
 exact ⟨h.1,h.2.2⟩


theorem maskOk_iff {n m:Int}:maskOk n m=true ↔ (0 ≤ m∧m ≤ topMask n)∧m.tmod 2=0:=by
 unfold maskOk
 simp
theorem tab_has0:∀ a:Nat,a < 32→((a:Int)).tmod 2=0→a.testBit 0=false:=by decide +kernel
theorem mv_has {n m:Int} (hm:maskOk n m=true) (v:Nat):has m v=true ↔ (v:Int) ∈ maskVals m:=by
 obtain ⟨h1,h2⟩:=maskOk_iff.1 hm
 have ht:=topMask_le n
 have hM:=maskOk_M hm
 rw [mem_maskVals ⟨h1.1,by omega⟩ h2,Int.toNat_natCast]
 constructor
 ·intro h
  refine ⟨?_,h⟩
  by_cases h5:5 ≤ v
  ·rw [has_big hM h5] at h; cases h
  ·by_cases h0:v=0
   ·subst h0
    obtain ⟨a,rfl,ha⟩:=hM.nat
    unfold has at h
    rw [Int.toNat_natCast,tab_has0 a ha h2] at h; cases h
   ·omega
 ·intro h; exact h.2
def InM (l g:List Int):Prop:=∀ i,i < g.length→has (l.getD i 0) (g.getD i 0).toNat=true
theorem masks_at {n:Int} {l:List Int} (h:masksOk n l=true) {i:Nat} (hi:i < l.length):maskOk n (l.getD i 0)=true:=(masksOk_iff.1 h).2.1 _ (mem_getD hi)
theorem lc_lt {n:Int} (hn:2 ≤ n∧n ≤ 4) {line i:Nat} (hl:(line:Int) < 2 * n) (hi:(i:Int) < n):(lc n line i:Int) < n * n∧((lc n line i:Nat):Int)=(lineCells n line).getD i 0:=by
 have hll:(lineCells n line).length=n.toNat:=(line_at hn hl hi).2
 have hm:=mem_getD (l:=lineCells n line) (i:=i) (by omega)
 have:=lineCells_mem hm
 unfold lc; omega
def cntM (m:Int):Nat:=(maskVals m).length
def total:List Int→Nat
 | []=>0
 | m :: l=>cntM m + total l
def SubM (a b:List Int):Prop:=a.length=b.length∧∀ i v:Nat,i < b.length→has (a.getD i 0) v=true→has (b.getD i 0) v=true
theorem SubM.refl (a:List Int):SubM a a:=⟨rfl,fun _ _ _ h=>h⟩
theorem SubM.trans {a b c:List Int} (h:SubM a b) (h':SubM b c):SubM a c:=⟨h.1.trans h'.1,fun i v hi hv=>h'.2 i v hi (h.2 i v (by rw [h'.1]; exact hi) hv)⟩
theorem InM.up {a b g:List Int} (h:InM a g) (hs:SubM a b) (hl:g.length=b.length):InM b g:=fun i hi=>hs.2 i _ (by omega) (h i hi)
theorem or_of_sub {a b:Nat} (h:∀ v:Nat,a.testBit v=true→b.testBit v=true):a ||| b=b:=by
 refine Nat.eq_of_testBit_eq fun v=>?_
 rw [Nat.testBit_or]
 cases e:a.testBit v with
 | false=>simp
 | true=>rw [h v e]; rfl
theorem tab_cnt:∀ a:Nat,a < 16→∀ b:Nat,b < 16→(2 * a) ||| (2 * b)=2 * b→(cntM ((2 * a:Nat):Int) ≤ cntM ((2 * b:Nat):Int)∧(cntM ((2 * a:Nat):Int)=cntM ((2 * b:Nat):Int)→a=b)):=by decide +kernel
theorem tab_even:∀ a:Nat,a < 32→∀ b:Nat,b < 32→a ||| b=b→((b:Int)).tmod 2=0→((a:Int)).tmod 2=0:=by decide +kernel
theorem mask_sub {n a b:Int} (ha:M a) (hb:maskOk n b=true) (h:∀ v:Nat,has a v=true→has b v=true):maskOk n a=true:=by
 obtain ⟨h1,h2⟩:=maskOk_iff.1 hb
 have hM:=maskOk_M hb
 obtain ⟨x,rfl,hx⟩:=ha.nat
 obtain ⟨y,rfl,hy⟩:=hM.nat
 have e:x ||| y=y:=or_of_sub fun v hv=>h v (by unfold has; rw [Int.toNat_natCast]; exact hv)
 have hle:x ≤ y:=by rw [← e]; exact Nat.left_le_or
 exact maskOk_iff.2 ⟨⟨by omega,by omega⟩,tab_even x hx y hy e h2⟩
theorem cnt_sub {n a b:Int} (ha:maskOk n a=true) (hb:maskOk n b=true) (h:∀ v:Nat,has a v=true→has b v=true):cntM a ≤ cntM b∧(cntM a=cntM b→a=b):=by
 obtain ⟨h1,h2⟩:=maskOk_iff.1 ha
 obtain ⟨h3,h4⟩:=maskOk_iff.1 hb
 have ht:=topMask_le n
 obtain ⟨x,hx,hx16⟩:∃ x:Nat,a=((2 * x:Nat):Int)∧x < 16:=⟨(a / 2).toNat,by rw [Int.tmod_eq_emod_of_nonneg h1.1] at h2; omega,by omega⟩
 obtain ⟨y,hy,hy16⟩:∃ y:Nat,b=((2 * y:Nat):Int)∧y < 16:=⟨(b / 2).toNat,by rw [Int.tmod_eq_emod_of_nonneg h3.1] at h4; omega,by omega⟩
 subst hx; subst hy
 have e:(2 * x) ||| (2 * y)=2 * y:=or_of_sub fun v hv=>by
  have:=h v (by unfold has; rw [Int.toNat_natCast]; exact hv)
  unfold has at this
  rw [Int.toNat_natCast] at this; exact this
 obtain ⟨q1,q2⟩:=tab_cnt x hx16 y hy16 e
 exact ⟨q1,fun h=>by rw [q2 h]⟩
theorem total_sub {n:Int}:∀ (a b:List Int),(∀ m ∈ a,maskOk n m=true)→(∀ m ∈ b,maskOk n m=true)→SubM a b→total a ≤ total b∧(total a=total b→a=b)
 | [],[],_,_,_=>⟨Nat.le_refl _,fun _=>rfl⟩
 | [],_ :: _,_,_,h=>by have:=h.1; simp at this
 | _ :: _,[],_,_,h=>by have:=h.1; simp at this
 | x :: a,y :: b,ha,hb,h=>by
  have h0:=cnt_sub (ha x (by simp)) (hb y (by simp)) (fun v hv=>by have:=h.2 0 v (by simp) (by simpa using hv); simpa using this)
  have ih:=total_sub a b (fun m hm=>ha m (List.mem_cons_of_mem _ hm)) (fun m hm=>hb m (List.mem_cons_of_mem _ hm)) ⟨by have:=h.1; simpa using this,fun i v hi hv=>by
   have:=h.2 (i + 1) v (by simp; omega) (by simpa using hv); simpa using this⟩
  simp only [total]
  refine ⟨by omega,fun he=>?_⟩
  rw [h0.2 (by omega),ih.2 (by omega)]
theorem masks_total {n:Int} {a b:List Int} (ha:masksOk n a=true) (hb:masksOk n b=true) (h:SubM a b):total a ≤ total b∧(a ≠ b→total a < total b):=by
 obtain ⟨h1,h2⟩:=total_sub a b (masksOk_iff.1 ha).2.1 (masksOk_iff.1 hb).2.1 h
 exact ⟨h1,fun hne=>by rcases Nat.lt_or_eq_of_le h1 with e | e; exact e; exact absurd (h2 e) hne⟩
theorem Sub.subM {l l':List Int} {P:Nat→Nat→Prop} (h:Sub l l' P):SubM l' l:=⟨h.len,fun i v hi hv=>((h.has i v hi).1 hv).1⟩
theorem masks_subM {n:Int} {a b:List Int} (ha:Ms a) (hb:masksOk n b=true) (h:SubM a b):masksOk n a=true:=by
 obtain ⟨h1,h2,h3⟩:=masksOk_iff.1 hb
 refine masksOk_iff.2 ⟨h1,fun m hm=>?_,by rw [h.1]; exact h3⟩
 obtain ⟨i,hi,rfl⟩:=List.getElem_of_mem hm
 have e:a.getD i 0=a[i]:=by simp [List.getD_eq_getElem?_getD,hi]
 have hib:i < b.length:=by rw [← h.1]; exact hi
 rw [← e]
 exact mask_sub (ha.at i) (masks_at hb hib) fun v hv=>h.2 i v hib hv
theorem Sub.ok {n:Int} {l l':List Int} {P:Nat→Nat→Prop} (h:Sub l l' P) (hl:masksOk n l=true):masksOk n l'=true:=masks_subM h.ms hl h.subM
theorem cntM_le (m:Int):cntM m ≤ 4:=by
 unfold cntM maskVals
 split
 ·have:∀ (j v:Nat),(mvFrom m v j).length ≤ j:=fun j=>by
   induction j with
   | zero=>intro v; simp [mvFrom]
   | succ j ih=>intro v; rw [mvFrom,List.length_append]; have:=ih (v + 1); split <;> simp <;> omega
  exact this 4 1
 ·simp
theorem tab_cntn:∀ n:Nat,n < 5→∀ m:Nat,m < 32→(2 ≤ n∧(m:Int) ≤ topMask n)→cntM m ≤ n:=by decide +kernel
theorem cntM_n {n m:Int} (hn:2 ≤ n∧n ≤ 4) (h:maskOk n m=true):cntM m ≤ n.toNat:=by
 have hM:=maskOk_M h
 obtain ⟨h1,h2⟩:=maskOk_iff.1 h
 obtain ⟨a,rfl,ha⟩:=hM.nat
 exact tab_cntn n.toNat (by omega) a ha ⟨by omega,by rw [show ((n.toNat:Nat):Int)=n by omega]; exact h1.2⟩
theorem total_n {n:Int} (hn:2 ≤ n∧n ≤ 4):∀ (l:List Int),(∀ m ∈ l,maskOk n m=true)→total l ≤ n.toNat * l.length
 | [],_=>by simp [total]
 | m :: l,h=>by
  have h0:=cntM_n hn (h m (by simp))
  have ih:=total_n hn l fun x hx=>h x (List.mem_cons_of_mem _ hx)
  simp only [total,Zl,Nat.mul_succ]
  omega
theorem total_le {n:Int} {l:List Int} (h:masksOk n l=true):total l ≤ 64:=by
 obtain ⟨hn,h2,h3⟩:=masksOk_iff.1 h
 have:=total_n hn l h2
 have hl:=masks_len h
 have:n=2 ∨ n=3 ∨ n=4:=by omega
 rcases this with rfl | rfl | rfl <;> simp at * <;> omega
/-! ### Rounds -/
def nextFrom (N:List Int→Int→List Int) (l:List Int):Nat→Int→Option (Int × List Int)
 | 0,_=>none
 | j + 1,t=>if N l t=l then nextFrom N l j (t + 1) else some (t,N l t)
theorem next_none {N:List Int→Int→List Int} {l:List Int}:∀ (j:Nat) (t:Int),nextFrom N l j t=none ↔ ∀ u,t ≤ u→u < t + j→N l u=l
 | 0,t=>by simp [nextFrom]; intro u; omega
 | j + 1,t=>by
  rw [nextFrom]
  split
  ·rename_i e
   rw [next_none j (t + 1)]
   constructor
   ·intro h u h1 h2
    by_cases hu:u=t
    ·rw [hu]; exact e
    ·exact h u (by omega) (by omega)
   ·intro h u h1 h2; exact h u (by omega) (by omega)
  ·rename_i e
   constructor
   ·intro h; cases h
   ·intro h; exact absurd (h t (by omega) (by omega)) e
theorem next_some {N:List Int→Int→List Int} {l:List Int}:∀ (j:Nat) (t:Int) {u:Int} {l':List Int},nextFrom N l j t=some (u,l')→(t ≤ u∧u < t + j)∧l'=N l u∧l' ≠ l∧∀ w,t ≤ w→w < u→N l w=l
 | 0,t,u,l',h=>by cases h
 | j + 1,t,u,l',h=>by
  rw [nextFrom] at h
  split at h
  ·rename_i e
   obtain ⟨h1,h2,h3,h4⟩:=next_some j (t + 1) h
   refine ⟨by omega,h2,h3,fun w hw1 hw2=>?_⟩
   by_cases hu:w=t
   ·rw [hu]; exact e
   ·exact h4 w (by omega) hw2
  ·rename_i e
   simp only [Option.some.injEq,Prod.mk.injEq] at h
   obtain ⟨rfl,rfl⟩:=h
   exact ⟨by omega,rfl,e,fun w h1 h2=>by omega⟩
def stepsV (N:List Int→Int→List Int) (most:Nat):Nat→List Int→List (Int × List Int)
 | 0,_=>[]
 | F + 1,l=>match nextFrom N l most 1 with
  | none=>[]
  | some (t,l')=>(t,l') :: stepsV N most F l'
def lastV:List (Int × List Int)→List Int→List Int
 | [],l=>l
 | x :: r,_=>lastV r x.2
def Good (N:List Int→Int→List Int) (n:Int) (most:Nat):Prop:=∀ l t,masksOk n l=true→1 ≤ t→t < 1 + (most:Int)→masksOk n (N l t)=true∧SubM (N l t) l
theorem next_good {N:List Int→Int→List Int} {n:Int} {most:Nat} (hN:Good N n most) {l:List Int} (hl:masksOk n l=true) {t:Int} {l':List Int} (h:nextFrom N l most 1=some (t,l')):masksOk n l'=true∧SubM l' l∧total l' < total l:=by
 obtain ⟨h1,h2,h3,_⟩:=next_some _ _ h
 obtain ⟨a,b⟩:=hN l t hl h1.1 h1.2
 subst h2
 exact ⟨a,b,(masks_total a hl b).2 h3⟩
theorem steps_fuel {N:List Int→Int→List Int} {n:Int} {most:Nat} (hN:Good N n most):∀ (F F':Nat) (l:List Int),masksOk n l=true→total l < F→total l < F'→stepsV N most F l=stepsV N most F' l
 | 0,_,_,_,h,_=>by omega
 | _ + 1,0,_,_,_,h=>by omega
 | F + 1,F' + 1,l,hl,h,h'=>by
  rw [stepsV,stepsV]
  cases e:nextFrom N l most 1 with
  | none=>rfl
  | some x=>
   obtain ⟨t,l'⟩:=x
   obtain ⟨a,b,c⟩:=next_good hN hl e
   simp only
   rw [steps_fuel hN F F' l' a (by omega) (by omega)]
def runS (N:List Int→Int→List Int) (most:Nat) (l:List Int):List (Int × List Int):=stepsV N most (total l + 1) l
theorem runS_none {N:List Int→Int→List Int} {most:Nat} {l:List Int} (h:nextFrom N l most 1=none):runS N most l=[]:=by
 unfold runS; rw [stepsV,h]
theorem runS_some {N:List Int→Int→List Int} {n:Int} {most:Nat} (hN:Good N n most) {l:List Int} (hl:masksOk n l=true) {t:Int} {l':List Int} (h:nextFrom N l most 1=some (t,l')):runS N most l=(t,l') :: runS N most l':=by
 unfold runS
 rw [stepsV,h]
 simp only
 obtain ⟨a,b,c⟩:=next_good hN hl h
 rw [steps_fuel hN _ (total l' + 1) l' a (by omega) (by omega)]
theorem runS_ind {N:List Int→Int→List Int} {n:Int} {most:Nat} (hN:Good N n most) {C:List Int→List (Int × List Int)→Prop} (h0:∀ l,masksOk n l=true→nextFrom N l most 1=none→C l []) (h1:∀ l t l',masksOk n l=true→masksOk n l'=true→SubM l' l→total l' < total l→nextFrom N l most 1=some (t,l')→C l' (runS N most l')→C l ((t,l') :: runS N most l')) :
  ∀ (F:Nat) (l:List Int),masksOk n l=true→total l < F→C l (runS N most l)
 | 0,_,_,h=>by omega
 | F + 1,l,hl,h=>by
  cases e:nextFrom N l most 1 with
  | none=>rw [runS_none e]; exact h0 l hl e
  | some x=>
   obtain ⟨t,l'⟩:=x
   obtain ⟨a,b,c⟩:=next_good hN hl e
   rw [runS_some hN hl e]
   exact h1 l t l' hl a b c e (runS_ind hN h0 h1 F l' a (by omega))
theorem run_end {N:List Int→Int→List Int} {n:Int} {most:Nat} (hN:Good N n most) {l:List Int} (hl:masksOk n l=true):masksOk n (lastV (runS N most l) l)=true∧SubM (lastV (runS N most l) l) l∧nextFrom N (lastV (runS N most l) l) most 1=none∧(runS N most l).length + total (lastV (runS N most l) l) ≤ total l:=by
 refine runS_ind hN (C:=fun l r=>masksOk n (lastV r l)=true∧SubM (lastV r l) l∧nextFrom N (lastV r l) most 1=none∧r.length + total (lastV r l) ≤ total l) ?_ ?_ (total l + 1) l hl (by omega)
 ·intro l hl e
  exact ⟨hl,SubM.refl l,e,by simp [lastV]⟩
 ·intro l t l' hl hl' hs ht e h
  refine ⟨h.1,h.2.1.trans hs,h.2.2.1,?_⟩
  have:=h.2.2.2
  simp only [lastV,Zl]
  omega
end Go.Proofs.Ytchliocobgkmbaa.Rp
