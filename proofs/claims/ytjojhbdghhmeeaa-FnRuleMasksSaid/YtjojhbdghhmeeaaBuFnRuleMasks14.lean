/- Texts for the row of the law FnRuleMasks, part 14: the plain machine, the program's functions on it, what they come to. No conditions. -/
import Derived.Test.YtjojhbdghhmeeaaBuFnRuleMasks13
import Derived.Test.YtjojhbdghhmeeaaBuFnRuleMasks9
import Derived.Test.YtjojhbdghhmeeaaBuFnRuleMasks10
set_option linter.unusedVariables false
set_option linter.unusedSimpArgs false
namespace Go.Proofs.Ytjojhbdghhmeeaa.Rp
open Go Go.RowKit Go.Proofs.Ytjojhbdghhmeeaa.Ab
theorem get_new (L:Hp) (x:Option Blk):(L ++ [x])[L.length]?=some x:=by simp
theorem implruleMasks_ok {k:Nat} (hk:2000030 ≤ k) {kind value:Int} {cs ws:Sl} {H:Hp} {own:List Int} (hw:Reads .i64 H ws own) (hol:own.length ≤ 4) (hom:∀ m ∈ own,(0 ≤ m∧m ≤ 30)∧m.tmod 2=0) (hk2:KindLen kind own.length) :
  ∃ t H',callF PP orc k impl_ruleMasks.id [.agg [.int .i64 kind,.sl 1 cs,.int .i64 value],.sl 1 ws] H=some (.sl 1 t,H')∧H <+: H'∧Own 1 H H' t ((ruleMasksV kind value own).map (.int .i64)):=by
 obtain ⟨k,rfl⟩:=Zs k (by omega)
 rw [impl_ruleMasks.call]
 have hwl:=hw.len
 obtain ⟨Ha,hHa⟩:∃ X,H ++ [some (Blk.mk false [.int .i64 kind,.sl 1 cs,.int .i64 value])]=X:=⟨_,rfl⟩
 obtain ⟨Hb,hHb⟩:∃ X,Ha ++ [some (Blk.mk false [.sl 1 ws])]=X:=⟨_,rfl⟩
 obtain ⟨Hc,hHc⟩:∃ X,Hb ++ [some (Blk.mk false ((List.replicate own.length (0:Int)).map (.int .i64)))]=X:=⟨_,rfl⟩
 obtain ⟨Hd,hHd⟩:∃ X,Hc ++ [some (Blk.mk false [.sl 1 Sl.none])]=X:=⟨_,rfl⟩
 have la:Ha.length=H.length + 1:=by rw [← hHa]; simp
 have lb:Hb.length=H.length + 2:=by rw [← hHb]; simp [la]
 have lc:Hc.length=H.length + 3:=by rw [← hHc]; simp [lb]
 have ld:Hd.length=H.length + 4:=by rw [← hHd]; simp [lc]
 have pa:H <+: Ha:=by rw [← hHa]; exact (List.prefix_append _ _)
 have pb:Ha <+: Hb:=by rw [← hHb]; exact (List.prefix_append _ _)
 have pc:Hb <+: Hc:=by rw [← hHc]; exact (List.prefix_append _ _)
 have pd:Hc <+: Hd:=by rw [← hHd]; exact (List.prefix_append _ _)
 have ga:Ha[H.length]?=some (some (Blk.mk false [.int .i64 kind,.sl 1 cs,.int .i64 value])):=by rw [← hHa]; exact get_new _ _
 have gb:Hb[Ha.length]?=some (some (Blk.mk false [.sl 1 ws])):=by rw [← hHb]; exact get_new _ _
 have gc:Hc[Hb.length]?=some (some (Blk.mk false ((List.replicate own.length (0:Int)).map (.int .i64)))):=by rw [← hHc]; exact get_new _ _
 have gd:Hd[Hc.length]?=some (some (Blk.mk false [.sl 1 Sl.none])):=by rw [← hHd]; exact get_new _ _
 obtain ⟨H2,a1,a2,a3,a4⟩:=sto1' gd (.sl 1 (Sl.mk false Hb.length 0 own.length))
 obtain ⟨He,hHe⟩:∃ X,H2 ++ [some (Blk.mk false ((List.replicate own.length (0:Int)).map (.int .i64)))]=X:=⟨_,rfl⟩
 obtain ⟨Hf,hHf⟩:∃ X,He ++ [some (Blk.mk false [.sl 1 Sl.none])]=X:=⟨_,rfl⟩
 have le:He.length=H.length + 5:=by rw [← hHe]; simp; omega
 have lf:Hf.length=H.length + 6:=by rw [← hHf]; simp [le]
 have pe:H2 <+: He:=by rw [← hHe]; exact (List.prefix_append _ _)
 have pf:He <+: Hf:=by rw [← hHf]; exact (List.prefix_append _ _)
 have ge:He[H2.length]?=some (some (Blk.mk false ((List.replicate own.length (0:Int)).map (.int .i64)))):=by rw [← hHe]; exact get_new _ _
 have gf:Hf[He.length]?=some (some (Blk.mk false [.sl 1 Sl.none])):=by rw [← hHf]; exact get_new _ _
 obtain ⟨H4,b1,b2,b3,b4⟩:=sto1' gf (.sl 1 (Sl.mk false H2.length 0 own.length))
 obtain ⟨Hg,hHg⟩:∃ X,H4 ++ [some (Blk.mk false [.nilf])]=X:=⟨_,rfl⟩
 have lg:Hg.length=H.length + 7:=by rw [← hHg]; simp; omega
 have pg:H4 <+: Hg:=by rw [← hHg]; exact (List.prefix_append _ _)
 have gg:Hg[H4.length]?=some (some (Blk.mk false [.nilf])):=by rw [← hHg]; exact get_new _ _
 obtain ⟨H5,c1,c2,c3,c4⟩:=sto1' gg (.fn impl_ruleMasks_1.id [.ptr Ha.length 0,.ptr H.length 0,.ptr He.length 0,.ptr Hc.length 0,.ptr H4.length 0])
 -- what lies where in the end
 have up:∀ {d:Nat} {x:Blk},d ≠ Hc.length→Hd[d]?=some (some x)→H2[d]?=some (some x):=fun h h'=>a3 _ _ h h'
 have up4:∀ {d:Nat} {x:Blk},d ≠ He.length→H2[d]?=some (some x)→H4[d]?=some (some x):=fun h h'=>b3 _ _ h (pf_get (pe.trans pf) h')
 have up5:∀ {d:Nat} {x:Blk},d ≠ H4.length→H4[d]?=some (some x)→H5[d]?=some (some x):=fun h h'=>c3 _ _ h (pf_get pg h')
 have hr5:=up5 (by omega) (up4 (by omega) (up (by omega) (pf_get (pb.trans (pc.trans pd)) ga)))
 have hb2:=up (by omega) (pf_get (pc.trans pd) gb)
 have hb5:=up5 (by omega) (up4 (by omega) hb2)
 have hc5:=up5 (by omega) (up4 (by omega) (up (by omega) (pf_get pd gc)))
 have ho5:=up5 (by omega) (up4 (by omega) a2)
 have hv5:=up5 (by omega) (b3 _ _ (by omega) (pf_get pf ge))
 have hvb5:=up5 (by omega) b2
 have p5:H <+: H5:=by
  have q2:H <+: H2:=a3.pf (by omega) (pa.trans (pb.trans (pc.trans pd))) (by omega)
  have q4:H <+: H4:=b3.pf (by omega) (q2.trans (pe.trans pf)) (by omega)
  exact c3.pf (by omega) (q4.trans pg) (by omega)
 have ht:Try H5 Ha.length H.length He.length Hc.length H4.length kind value cs ws (Sl.mk false H2.length 0 own.length) (Sl.mk false Hb.length 0 own.length):=
  ⟨hb5,hr5,hvb5,ho5,c2,by simp only; omega⟩
 obtain ⟨H',rest',d1,d2,d3,d4,d5,d6⟩:=Try_ok (B:=H) (value:=value) hw hol hom hk2 (vs:=Sl.mk false H2.length 0 own.length) (os:=Sl.mk false Hb.length 0 own.length) (by simp only; omega) own.length k (by omega) H5 [] (List.replicate own.length 0) (List.replicate own.length 0) (by simp) (by simp) p5 ht
  ⟨rfl,rfl,by simp only; omega,by simpa using hv5,by simp⟩ ⟨by simp,fun v hv=>by cases hv⟩ (by simp) (Ms.zeros _) ⟨rfl,rfl,by simp only; omega,hc5,by simp⟩
 have ht':=ht.adv d4
 refine ⟨Sl.mk false Hb.length 0 own.length,H',?_,d3,by simpa [ruleMasksV] using d6⟩
 have l1:ldS 1 Hb Ha.length 0=some ws:=box_sl gb
 have l2:ldS 1 H2 Ha.length 0=some ws:=box_sl hb2
 have l3:ldF H5 H4.length 0=some (impl_ruleMasks_1.id,[.ptr Ha.length 0,.ptr H.length 0,.ptr He.length 0,.ptr Hc.length 0,.ptr H4.length 0]):=by unfold ldF Hp.cell; rw [c2]; simp [AV.toF]
 have l4:=box_sl ht'.o
 simp only [Zm,Int.natCast_zero] at d1
 simp only [impl_ruleMasks.f,hHa,hHb,l1,Zo]
 rw [ip (by omega)]
 simp only [hwl,Zn,flat0s,hHc,hHd,a1,Zo,l2]
 rw [ip (by omega)]
 simp only [hwl,Zn,flat0s,hHe,hHf,b1,Zo,hHg,c1,l3,okTry,List.cons_append,List.nil_append,List.all_cons,List.all_nil,AV.glob,AV.cell,Za,Zt,d1,l4]
theorem kindLen_of {n kind value:Int} {m:Nat} (h:kindOk n kind value m=true):KindLen kind m:=by
 unfold kindOk at h
 unfold KindLen
 split at h
 ·omega
 ·split at h
  ·omega
  ·split at h
   ·simp only [decide_eq_true_eq] at h; omega
   ·split at h
    ·simp only [decide_eq_true_eq] at h; omega
    ·cases h
theorem ownOf_even {n:Int} {masks cells:List Int} (hm:masksOk n masks=true) (hc:∀ c ∈ cells,0 ≤ c∧c < (masks.length:Int)):∀ m ∈ ownOf masks cells,(0 ≤ m∧m ≤ 30)∧m.tmod 2=0:=fun m h=>by
 obtain ⟨c,hc',rfl⟩:=List.mem_map.1 h
 obtain ⟨c0,c1⟩:=hc c hc'
 have:=(masksOk_iff.1 hm).2.1 _ (gv_mem c0 c1)
 unfold maskOk at this
 simp only [Bool.and_eq_true,decide_eq_true_eq,beq_iff_eq] at this
 have ht:=topMask_le n
 omega
theorem implRM_l2 {k:Nat} (hk:2000030 ≤ k) {n kind value:Int} {cs ms:Sl} {H0:Hp} {cells l:List Int} (hc:Reads .i64 H0 cs cells) (hm:Reads .i64 H0 ms l) (hr:ruleOk n kind cells value=true) (hl:masksOk n l=true) :
  ∀ (j i fuel:Nat) (H:Hp) (t:Sl),i + j=cells.length→j < fuel→H0 <+: H→Own 1 H0 H t ((ownOf l (cells.take i)).map (.int .i64)) →
   ∃ t' H',impl_RuleMasks.l2 (callF PP orc k) k fuel ms t cs cells.length i kind cs value H=some (.sl 1 t',H')∧H0 <+: H'∧Own 1 H0 H' t' ((ruleMasksV kind value (ownOf l cells)).map (.int .i64)):=by
 obtain ⟨c1,c2,c3,c4⟩:=ruleOk_cells hr
 have hcl:=hc.len
 have hml:=hm.len
 have hsz:=(masksOk_iff.1 hl).2.2
 have hk2:KindLen kind cells.length:=by
  have hr':=hr
  unfold ruleOk at hr'
  rw [Bool.and_eq_true] at hr'
  exact kindLen_of hr'.2
 intro j
 induction j with
 | zero=>
  intro i fuel H t hi hf hp ho
  obtain ⟨fuel,rfl⟩:=Zs fuel (by omega)
  rw [List.take_of_length_le (by omega)] at ho
  obtain ⟨t',H',a1,a2,a3⟩:=implruleMasks_ok hk (kind:=kind) (value:=value) (cs:=cs) (own_reads ho) (by rw [own_len]; omega) (ownOf_even hl fun c hcc=>by have:=c1 c hcc; omega) (by rw [own_len]; exact hk2)
  refine ⟨t',H',?_,hp.trans a2,own_base a3 hp⟩
  simp (disch:=omega) only [impl_RuleMasks.l2,impl_RuleMasks.j3,df,Zf,a1,Zo,AV.toS,if_true]
 | succ j ih=>
  intro i fuel H t hi hf hp ho
  obtain ⟨fuel,rfl⟩:=Zs fuel (by omega)
  have hi2:i < cells.length:=by omega
  have hcc:=c1 _ (mem_getD hi2)
  have htl:t.len=i:=by have:=ho.len; simp [ownOf] at this; omega
  have htk:ownOf l (cells.take (i + 1))=ownOf l (cells.take i) ++ [l.getD (cells.getD i 0).toNat 0]:=by
   rw [List.take_succ_eq_append_getElem hi2]; unfold ownOf
   rw [List.map_append,List.getD_eq_getElem?_getD (l:=cells),List.getElem?_eq_getElem hi2]; rfl
  obtain ⟨H1,a1,a2,a3,a4,a5⟩:=own_app1 ho hp (l.getD (cells.getD i 0).toNat 0) (by omega)
  rw [← htk] at a3
  obtain ⟨t',H',b1,b2,b3⟩:=ih (i + 1) fuel H1 _ (by omega) (by omega) a2 a3
  push_cast at b1
  refine ⟨t',H',?_,b2,b3⟩
  have hc0:(0:Int) ≤ cells.getD i 0:=hcc.1
  have hc3:cells.getD i 0 < (ms.len:Int):=by omega
  simp (disch:=omega) only [impl_RuleMasks.l2,dt,Za,Zt,Zn,Zo,rdn (pf_reads hp hc),rdn (pf_reads hp hm),a1,wr (n:=(i:Int) + 1),b1]
theorem implRuleMasks_ok {k:Nat} (hk:2000040 ≤ k) {n kind value:Int} (hn:2 ≤ n∧n ≤ 4) {cs ms:Sl} {H:Hp} {cells l:List Int} (hc:Reads .i64 H cs cells) (hm:Reads .i64 H ms l) (hcl:cells.length ≤ 1000) (hml:l.length ≤ 1000) (hr:∀ m ∈ l,-2 ≤ m∧m ≤ 63) :
  ∃ t H',callF PP orc k impl_RuleMasks.id [.agg [.int .i64 kind,.sl 1 cs,.int .i64 value],.sl 1 ms,.int .i64 n] H=some (.sl 1 t,H')∧H <+: H'∧NilOr H H' t (ruleMasksS n kind value cells l):=by
 obtain ⟨k,rfl⟩:=Zs k (by omega)
 rw [impl_RuleMasks.call]
 have h1:=implRuleValid_ok (show 2000002 ≤ k by omega) (kind:=kind) (value:=value) hn hc hcl
 have h2:=implMasksValid_ok (show 2000000 ≤ k by omega) (n:=n) (by omega) hm hml hr
 have hcs:=hc.len
 unfold ruleMasksS
 cases e1:ruleOk n kind cells value with
 | false=>
  rw [e1] at h1
  refine ⟨Sl.none,H,by simp only [impl_RuleMasks.f,impl_RuleMasks.j0,dt,df,bt,bf,nt,nf,Za,Zy,Zx,Zt,Zf,Zn,Zz,Zi,Zo,wr,AV.toB,AV.toI,AV.toS,if_true,h1],(List.prefix_refl _),.inl ⟨rfl,?_⟩⟩
  rw [iN (by simp)]
 | true=>
  rw [e1] at h1
  cases e2:masksOk n l with
  | false=>
   rw [e2] at h2
   refine ⟨Sl.none,H,by simp only [impl_RuleMasks.f,impl_RuleMasks.j0,dt,df,bt,bf,nt,nf,Za,Zy,Zx,Zt,Zf,Zn,Zz,Zi,Zo,wr,AV.toB,AV.toI,AV.toS,if_true,h1,h2],(List.prefix_refl _),.inl ⟨rfl,?_⟩⟩
   rw [iN (by simp)]
  | true=>
   rw [e2] at h2
   rw [ip ⟨by rw [decide_eq_true hn]; rfl,rfl⟩]
   have hcb:=(ruleOk_cells e1).2.1
   obtain ⟨t',H',b1,b2,b3⟩:=implRM_l2 (show 2000030 ≤ k by omega) hc hm e1 e2 cells.length 0 k (H ++ [some (Blk.mk false [])]) (Sl.mk false H.length 0 0) (by omega) (by omega) (List.prefix_append _ _) (own_new 1 H [] 0 rfl)
   refine ⟨t',H',?_,b2,.inr b3⟩
   simp only [Int.natCast_zero] at b1
   simp only [impl_RuleMasks.f,impl_RuleMasks.j0,impl_RuleMasks.j1,dt,df,bt,bf,nt,nf,Za,Zy,Zx,Zt,Zf,Zn,Zz,Zi,Zo,wr,AV.toB,AV.toI,AV.toS,if_true,h1,h2,hcs,b1]
theorem sameInts_l0 (rec:Rec) (k:Nat) {H:Hp} {s t:Sl} {x y:List Int} (hs:Reads .i64 H s x) (ht:Reads .i64 H t y) (hl:x.length=y.length) (h1:x.length ≤ 1000) :
  ∀ (j i fuel:Nat),i + j=x.length→j < fuel→laws_sameInts.l0 rec k fuel s t i H=some (.bool (decide (x.drop i=y.drop i)),H):=by
 have hsl:=hs.len
 have htl:=ht.len
 intro j
 induction j with
 | zero=>
  intro i fuel hi hf
  obtain ⟨fuel,rfl⟩:=Zs fuel (by omega)
  rw [List.drop_eq_nil_of_le (show x.length ≤ i by omega),List.drop_eq_nil_of_le (show y.length ≤ i by omega)]
  simp (disch:=omega) only [laws_sameInts.l0,dt,df,bt,bf,nt,nf,Za,Zy,Zx,Zt,Zf,Zn,Zz,Zi,Zo,wr,AV.toB,AV.toI,AV.toS,if_true]
  rfl
 | succ j ih=>
  intro i fuel hi hf
  obtain ⟨fuel,rfl⟩:=Zs fuel (by omega)
  have hx:i < x.length:=by omega
  have hy:i < y.length:=by omega
  have ex:x.drop i=x.getD i 0 :: x.drop (i + 1):=by
   rw [List.drop_eq_getElem_cons hx,List.getD_eq_getElem?_getD,List.getElem?_eq_getElem hx]; rfl
  have ey:y.drop i=y.getD i 0 :: y.drop (i + 1):=by
   rw [List.drop_eq_getElem_cons hy,List.getD_eq_getElem?_getD,List.getElem?_eq_getElem hy]; rfl
  rw [ex,ey]
  by_cases c:x.getD i 0=y.getD i 0
  ·have d1:=ih (i + 1) fuel (by omega) (by omega)
   push_cast at d1
   rw [show decide (x.getD i 0 :: x.drop (i + 1)=y.getD i 0 :: y.drop (i + 1))=decide (x.drop (i + 1)=y.drop (i + 1)) by rw [c]; simp,← d1]
   simp (disch:=omega) only [laws_sameInts.l0,dt,df,bt,bf,nt,nf,Za,Zy,Zx,Zt,Zf,Zn,Zz,Zi,Zo,wr,AV.toB,AV.toI,AV.toS,if_true,rdn hs,rdn ht,nf]
  ·rw [show decide (x.getD i 0 :: x.drop (i + 1)=y.getD i 0 :: y.drop (i + 1))=false from decide_eq_false fun h=>c (List.cons.inj h).1]
   simp (disch:=omega) only [laws_sameInts.l0,dt,df,bt,bf,nt,nf,Za,Zy,Zx,Zt,Zf,Zn,Zz,Zi,Zo,wr,AV.toB,AV.toI,AV.toS,if_true,rdn hs,rdn ht,nt]
theorem sameInts_ok {k:Nat} (hk:2000000 ≤ k) {H:Hp} {s t:Sl} {x y:List Int} (hs:Reads .i64 H s x) (ht:Reads .i64 H t y) (h1:x.length ≤ 1000) (h2:y.length ≤ 1000) :
  callF PP orc k laws_sameInts.id [.sl 1 s,.sl 1 t] H=some (.bool (decide (x=y)),H):=by
 obtain ⟨k,rfl⟩:=Zs k (by omega)
 rw [laws_sameInts.call]
 have hsl:=hs.len
 have htl:=ht.len
 by_cases c:x.length=y.length
 ·have d1:=sameInts_l0 (callF PP orc k) k hs ht c h1 x.length 0 k (by omega) (by omega)
  simp only [Int.natCast_zero,List.drop_zero] at d1
  rw [← d1]
  simp (disch:=omega) only [laws_sameInts.f,dt,df,bt,bf,nt,nf,Za,Zy,Zx,Zt,Zf,Zn,Zz,Zi,Zo,wr,AV.toB,AV.toI,AV.toS,if_true]
 ·rw [decide_eq_false (fun h=>c (congrArg List.length h))]
  simp (disch:=omega) only [laws_sameInts.f,dt,df,bt,bf,nt,nf,Za,Zy,Zx,Zt,Zf,Zn,Zz,Zi,Zo,wr,AV.toB,AV.toI,AV.toS,if_true]
theorem same_ok {k:Nat} (hk:2000000 ≤ k) {H:Hp} {s t:Sl} {x:List Int} (hs:Reads .i64 H s x) (ht:Reads .i64 H t x) (h1:x.length ≤ 1000) :
  callF PP orc k laws_sameInts.id [.sl 1 s,.sl 1 t] H=some (.bool true,H):=by
 rw [sameInts_ok hk hs ht h1 h1,decide_eq_true rfl]
theorem mSub_zero {a b:Int} (ha:M a) (hb:M b) (h:∀ v:Nat,has a v=true→has b v=true):mSub a b=0:=by
 refine m_ext (ha.sub hb) ⟨by decide,by decide⟩ fun v _=>?_
 rw [has_sub ha hb,has_zero]
 cases e:has a v with
 | false=>rfl
 | true=>rw [h v e]; rfl
def zc (r:List Int):Nat→Nat→Nat
 | _,0=>0
 | i,j + 1=>(if r.getD i 0=0 then 1 else 0) + zc r (i + 1) j
theorem zc_none {r:List Int}:∀ (j i:Nat),(∀ x,i ≤ x→x < i + j→r.getD x 0 ≠ 0)→zc r i j=0
 | 0,_,_=>rfl
 | j + 1,i,h=>by
  rw [zc,if_neg (h i (by omega) (by omega)),zc_none j (i + 1) fun x h1 h2=>h x (by omega) (by omega)]
theorem zc_all {r:List Int}:∀ (j i:Nat),(∀ x,i ≤ x→x < i + j→r.getD x 0=0)→zc r i j=j
 | 0,_,_=>rfl
 | j + 1,i,h=>by
  rw [zc,if_pos (h i (by omega) (by omega)),zc_all j (i + 1) fun x h1 h2=>h x (by omega) (by omega)]
  omega
theorem rule_again {n:Int} {r:V} {l:List Int} (hr:ruleOkV n r=true) (hl:masksOk n l=true):masksOk n (setAll r.2.1 l (ruleMasksV r.1 r.2.2 (ownOf l r.2.1)) 0 r.2.1.length)=true ∧
  ruleMasksV r.1 r.2.2 (ownOf (setAll r.2.1 l (ruleMasksV r.1 r.2.2 (ownOf l r.2.1)) 0 r.2.1.length) r.2.1)=ruleMasksV r.1 r.2.2 (ownOf l r.2.1) ∧
  (∀ u,u < r.2.1.length→∀ v:Nat,has ((ruleMasksV r.1 r.2.2 (ownOf l r.2.1)).getD u 0) v=true→has (l.getD (r.2.1.getD u 0).toNat 0) v=true) ∧
  (zc (ruleMasksV r.1 r.2.2 (ownOf l r.2.1)) 0 r.2.1.length=0 ∨ zc (ruleMasksV r.1 r.2.2 (ownOf l r.2.1)) 0 r.2.1.length=r.2.1.length):=by
 obtain ⟨c1,c2,c3,c4⟩:=ruleOk_cells hr
 have hol:=own_len l r.2.1
 have hrm:=ruleMasks_ok (kind:=r.1) (value:=r.2.2) (own:=ownOf l r.2.1) (by omega)
 obtain ⟨s1,s2,s3⟩:=setAll_at (found:=ruleMasksV r.1 r.2.2 (ownOf l r.2.1)) r.2.1.length 0 l (by omega) (fun a b ha hb=>cells_ne hr ha hb) (fun a ha=>rule_cells hr hl ha)
 have hst:=ruleStep_sub hr hl
 unfold ruleStep at hst
 rw [ruleMasks_S hr hl] at hst
 have hok:=hst.ok hl
 have hasr:∀ u,u < r.2.1.length→∀ v:Nat,has ((ruleMasksV r.1 r.2.2 (ownOf l r.2.1)).getD u 0) v=true ↔ ∃ ws,AllIn (ownOf l r.2.1) ws∧holdsV r.1 r.2.2 ws=true∧ws.getD u 0=(v:Int):=fun u hu v=>ruleMasks_has (by omega) u v (by omega)
 generalize hR:ruleMasksV r.1 r.2.2 (ownOf l r.2.1)=R at *
 generalize hL:setAll r.2.1 l R 0 r.2.1.length=L at *
 have hat:∀ u,u < r.2.1.length→L.getD (r.2.1.getD u 0).toNat 0=R.getD u 0:=fun u hu=>s2 u (by omega) (by omega)
 have hRo:∀ u,u < r.2.1.length→maskOk n (R.getD u 0)=true:=fun u hu=>by
  rw [← hat u hu]; exact masks_at hok (by rw [s1]; exact rule_cells hr hl hu)
 have eo:ownOf L r.2.1=R:=by
  refine ext_getD (by rw [own_len]; omega) fun u hu=>?_
  rw [own_len] at hu
  rw [own_at hu,hat u hu]
 have sub:∀ u,u < r.2.1.length→∀ v:Nat,has (R.getD u 0) v=true→has (l.getD (r.2.1.getD u 0).toNat 0) v=true:=fun u hu v hv=>by
  obtain ⟨ws,h1,h2,h3⟩:=(hasr u hu v).1 hv
  have:=((AllIn_pt _ _).1 h1).2 u (by omega)
  rw [own_at hu,h3] at this
  exact (mv_has (masks_at hl (rule_cells hr hl hu)) v).2 this
 have wsR:∀ ws,AllIn (ownOf l r.2.1) ws→holdsV r.1 r.2.2 ws=true→AllIn R ws:=fun ws h1 h2=>by
  have hp:=(AllIn_pt _ _).1 h1
  refine (AllIn_pt _ _).2 ⟨by omega,fun u hu=>?_⟩
  have hu2:u < r.2.1.length:=by omega
  have h3:=hp.2 u (by omega)
  have h4:=maskVals_mem h3
  have h5:=(hasr u hu2 (ws.getD u 0).toNat).2 ⟨ws,h1,h2,by omega⟩
  rw [mv_has (hRo u hu2)] at h5
  rw [show (((ws.getD u 0).toNat:Nat):Int)=ws.getD u 0 by omega] at h5
  exact h5
 refine ⟨hok,?_,sub,?_⟩
 ·rw [eo]
  have hrm2:=ruleMasks_ok (kind:=r.1) (value:=r.2.2) (own:=R) (by omega)
  refine ext_getD (by omega) fun u hu=>?_
  have hu2:u < r.2.1.length:=by omega
  refine m_ext (hrm2.1.at u) (hrm.1.at u) fun v _=>?_
  rw [Bool.eq_iff_iff,ruleMasks_has (by omega) u v (by omega)]
  constructor
  ·rintro ⟨ws,h1,h2,h3⟩
   have:=((AllIn_pt _ _).1 h1).2 u (by omega)
   rw [h3] at this
   exact (mv_has (hRo u hu2) v).2 this
  ·intro h
   obtain ⟨ws,h1,h2,h3⟩:=(hasr u hu2 v).1 h
   exact ⟨ws,wsR ws h1 h2,h2,h3⟩
 ·by_cases c:∃ ws,AllIn (ownOf l r.2.1) ws∧holdsV r.1 r.2.2 ws=true
  ·obtain ⟨ws,h1,h2⟩:=c
   left
   refine zc_none _ _ fun x _ hx e=>?_
   have hx2:x < r.2.1.length:=by omega
   have hp:=((AllIn_pt _ _).1 h1).2 x (by omega)
   have h4:=maskVals_mem hp
   have h5:=(hasr x hx2 (ws.getD x 0).toNat).2 ⟨ws,h1,h2,by omega⟩
   rw [e,has_zero] at h5; cases h5
  ·right
   refine zc_all _ _ fun x _ hx=>?_
   have hx2:x < r.2.1.length:=by omega
   apply Classical.byContradiction
   intro hne
   obtain ⟨v,hv⟩:=(ne_zero_has (hrm.1.at x)).1 hne
   obtain ⟨ws,h1,h2,_⟩:=(hasr x hx2 v).1 hv
   exact c ⟨ws,h1,h2⟩
theorem implRuleMasks_any {k:Nat} (hk:2000041 ≤ k) {n kind value:Int} (hb:-1 ≤ n∧n ≤ 5) {cs ms:Sl} {H:Hp} {cells l:List Int} (hc:Reads .i64 H cs cells) (hm:Reads .i64 H ms l) (hcl:cells.length ≤ 1000) (hml:l.length ≤ 1000) (hr:∀ m ∈ l,-2 ≤ m∧m ≤ 63) :
  ∃ t H',callF PP orc k impl_RuleMasks.id [.agg [.int .i64 kind,.sl 1 cs,.int .i64 value],.sl 1 ms,.int .i64 n] H=some (.sl 1 t,H')∧H <+: H'∧NilOr H H' t (ruleMasksS n kind value cells l):=by
 by_cases hn:2 ≤ n∧n ≤ 4
 ·exact implRuleMasks_ok (by omega) hn hc hm hcl hml hr
 ·obtain ⟨k,rfl⟩:=Zs k (by omega)
  rw [impl_RuleMasks.call]
  obtain ⟨k,rfl⟩:=Zs k (by omega)
  have h1:callF PP orc (k + 1) impl_RuleValid.id [.agg [.int .i64 kind,.sl 1 cs,.int .i64 value],.int .i64 n] H=some (.bool false,H):=by
   rw [impl_RuleValid.call]
   simp only [impl_RuleValid.f,sizeOk_ok (show 1 ≤ k by omega),decide_eq_false hn,Zo,AV.toB,Zx,Zt]
  refine ⟨Sl.none,H,by simp only [impl_RuleMasks.f,impl_RuleMasks.j0,h1,Zo,AV.toB,Zx,Zt],(List.prefix_refl _),.inl ⟨rfl,?_⟩⟩
  unfold ruleMasksS
  rw [if_neg (fun h=>by rw [decide_eq_false hn] at h; simp at h)]
def DrawnR (H:Hp) (r:An):Prop:=∃ n kind value cs cells t v H',r=some (.tup [.agg [.int .i64 kind,.sl 1 cs,.int .i64 value],.sl 1 t,.int .i64 n],H')∧H <+: H'∧Reads .i64 H' cs cells∧cells.length ≤ 5∧Reads .i64 H' t v∧v.length ≤ 16∧(∀ m ∈ v,-2 ≤ m∧m ≤ 63)∧-1 ≤ n∧n ≤ 5
theorem mxn' (n:Int):2 ≤ mx 2 (mn 4 n)∧mx 2 (mn 4 n) ≤ 4:=by
 unfold mx mn
 split <;> split <;> omega
theorem DrawRuleMasks_ok {k:Nat} (hk:2000602 ≤ k) {H:Hp} {s:Sl} {l:List Int} (hs:Reads .u8 H s l) (hb:∀ x ∈ l,0 ≤ x∧x ≤ 255):DrawnR H (callF PP orc k spec_DrawRuleMasks.id [.sl 1 s] H):=by
 obtain ⟨k,rfl⟩:=Zs k (by omega)
 rw [spec_DrawRuleMasks.call]
 obtain ⟨H1,n,t,c,l',p',H',a1,a2,a3,a3',a4,a5,a6,a7⟩:=open_masks (show 2000601 ≤ k by omega) hs hb (x1:=14) (by omega)
 obtain ⟨m2,m4⟩:=mxn' n
 obtain ⟨xs,g,p1,H2,b1,b2,b3,b4,b5,b6⟩:=l20Solved_ok (show 2000101 ≤ k by omega) a4.rd (by omega) ⟨m2,m4⟩
 have h1:=a4.step b4 b2
 have hxb:=b5.blk
 have hlt:=a4.hb
 have hle:=a4.adv.le
 obtain ⟨kind,cs,value,cells,p2,H3,c1,c2,c3,c4,c5,c6,c7,c8,c9,c10,c11⟩:=l20Rule_ok (show 200 ≤ k by omega) ⟨m2,m4⟩ (x3:=14) (by omega) b2 (by omega) (own_reads b5) (by omega) b6
 have h2:=h1.step c4 c2
 refine ⟨n,kind,value,cs,cells,t,valS t c,H3,?_,h2.adv.but.pf (Nat.le_refl _) a3' h2.adv.le,c5,c10,h2.reads,h2.l16,h2.rgv,a6,a7⟩
 unfold spec_DrawRuleMasks.f
 rw [a1,Option.bind_some]
 simp only [AV.toP,Zo]
 rw [a2,Option.bind_some]
 simp only [AV.isTup,AV.nth,AV.isAgg,AV.cel,AV.toI,AV.toS,AV.toB,Zl,Zm,Zc,Zd,if_true,decide_true,beq_self_eq_true,Zt,Zf,Zy,Zx,Zo]
 rw [b1,Option.bind_some]
 simp only [AV.isTup,AV.nth,AV.isAgg,AV.cel,AV.toI,AV.toS,AV.toB,Zl,Zm,Zc,Zd,if_true,decide_true,beq_self_eq_true,Zt,Zf,Zy,Zx,Zo]
 rw [c1,Option.bind_some]
 simp only [AV.isTup,AV.nth,AV.isAgg,AV.cel,AV.toI,AV.toS,AV.toB,Zl,Zm,Zc,Zd,if_true,decide_true,beq_self_eq_true,Zt,Zf,Zy,Zx,Zo]
theorem RuleMasks_l2 {k:Nat} (hk:100 ≤ k) {H0:Hp} {n kind value:Int} {ms xs ls cs:Sl} {l cells r:List Int} (hl:masksOk n l=true) (hc1:∀ c ∈ cells,0 ≤ c∧c < (l.length:Int)) (hcl:cells.length ≤ 4) (hrl:r.length=cells.length) (hR:Ms r) (hsub:∀ u,u < cells.length→∀ v:Nat,has (r.getD u 0) v=true→has (l.getD (cells.getD u 0).toNat 0) v=true) (hm:Reads .i64 H0 ms l) (hx:Reads .i64 H0 xs r) (hc:Reads .i64 H0 cs cells) :
  ∀ (j i fuel cnt:Nat) (H:Hp) (a:List Int),i + j=cells.length→j < fuel→cnt ≤ i→H0 <+: H→Own 1 H0 H ls (a.map (.int .i64))→a.length=l.length →
   ∃ H',laws_FnRuleMasks.l2 (callF PP orc k) k fuel ms n xs ls (cnt:Int) (i:Int) kind cs value H=laws_FnRuleMasks.j4 (callF PP orc k) k n xs ls ((cnt + zc r i j:Nat):Int) kind cs value H'∧H0 <+: H'∧Own 1 H0 H' ls ((setAll cells a r i j).map (.int .i64)):=by
 have hml:=hm.len
 have hxl:=hx.len
 have hcsl:=hc.len
 have hM:=masks_M hl
 intro j
 induction j with
 | zero=>
  intro i fuel cnt H a hi hf hcnt hp ho ha
  obtain ⟨fuel,rfl⟩:=Zs fuel (by omega)
  exact ⟨H,by simp (disch:=omega) only [laws_FnRuleMasks.l2,df,Zf,zc,Nat.add_zero],hp,ho⟩
 | succ j ih=>
  intro i fuel cnt H a hi hf hcnt hp ho ha
  obtain ⟨fuel,rfl⟩:=Zs fuel (by omega)
  have hi2:i < cells.length:=by omega
  have hcc:=hc1 _ (mem_getD hi2)
  have hll:=(own_reads ho).len
  have hz:=mSub_zero (hR.at i) (hM.at (cells.getD i 0).toNat) (hsub i hi2)
  have hms:=m_sub (hR.at i) (hM.at (cells.getD i 0).toNat)
  rw [hz] at hms
  obtain ⟨H1,a1,a2,a3,a4⟩:=own_set1 ho hp (cells.getD i 0).toNat (by omega) (r.getD i 0)
  have c0:(0:Int) ≤ cells.getD i 0:=hcc.1
  have c3:cells.getD i 0 < (ms.len:Int):=by omega
  have c4:cells.getD i 0 < (ls.len:Int):=by omega
  have rx:=rdn (pf_reads hp hx) (i:=i) (by omega)
  have rc:=rdn (pf_reads hp hc) (i:=i) hi2
  have rm:=rdn (pf_reads hp hm) (i:=(cells.getD i 0).toNat) (by omega)
  by_cases e:r.getD i 0=0
  ·obtain ⟨H',b1,b2,b3⟩:=ih (i + 1) fuel (cnt + 1) H1 _ (by omega) (by omega) (by omega) a2 a3 (by rw [List.length_set]; exact ha)
   push_cast at b1
   refine ⟨H',?_,b2,by rw [setAll]; exact b3⟩
   rw [zc,if_pos e,← Nat.add_assoc]
   push_cast
   rw [← b1]
   simp (disch:=omega) only [laws_FnRuleMasks.l2,laws_FnRuleMasks.j3,laws_FnRuleMasks.j5,dt,Za,Zt,Zf,Zn,Zo,rx,rc,rm,hms,nf,bt e,a1,wr (n:=(i:Int) + 1),wr (n:=(cnt:Int) + 1)]
  ·obtain ⟨H',b1,b2,b3⟩:=ih (i + 1) fuel cnt H1 _ (by omega) (by omega) (by omega) a2 a3 (by rw [List.length_set]; exact ha)
   push_cast at b1
   refine ⟨H',?_,b2,by rw [setAll]; exact b3⟩
   rw [zc,if_neg e,Nat.zero_add]
   push_cast
   rw [← b1]
   simp (disch:=omega) only [laws_FnRuleMasks.l2,laws_FnRuleMasks.j3,laws_FnRuleMasks.j5,dt,Za,Zt,Zf,Zn,Zo,rx,rc,rm,hms,nf,bf e,a1,wr (n:=(i:Int) + 1)]
theorem RuleMasks_law {k:Nat} (hk:2000800 ≤ k) {H:Hp} {s:Sl} {l:List Int} (hs:Reads .u8 H s l) (hb:∀ x ∈ l,0 ≤ x∧x ≤ 255) :
  ∃ H',callF PP orc k laws_FnRuleMasks.id [.sl 1 s] H=some (.bool true,H'):=by
 obtain ⟨k,rfl⟩:=Zs k (by omega)
 rw [laws_FnRuleMasks.call]
 by_cases hbig:(s.len:Int) > 1048576
 ·exact ⟨H,by simp only [laws_FnRuleMasks.f,dt hbig,Zt]⟩
 ·obtain ⟨n,kind,value,cs,cells,t,v,H1,a1,a2,a3,a4,a5,a6,a7,a8,a9⟩:=DrawRuleMasks_ok (show 2000602 ≤ k by omega) hs hb
  obtain ⟨x,H2,b1,b2,b3⟩:=implRuleMasks_any (show 2000041 ≤ k by omega) ⟨a8,a9⟩ a3 a5 (by omega) (by omega) a7 (kind:=kind) (value:=value)
  obtain ⟨y,H3,c1,c2,c3⟩:=specRuleMasks_ok (show 2000030 ≤ k by omega) ⟨a8,a9⟩ (pf_reads b2 a3) (pf_reads b2 a5) (by omega) (by omega) (kind:=kind) (value:=value)
  have p3:=b2.trans c2
  have hc3:=pf_reads p3 a3
  have hm3:=pf_reads p3 a5
  have hx3:=pf_reads c2 b3.reads
  have hlS:(ruleMasksS n kind value cells v).length ≤ 1000:=by
   unfold ruleMasksS
   split
   ·rename_i h
    rw [Bool.and_eq_true] at h
    have h4:=(ruleOk_cells h.1.2).2.1
    have:=ruleMasks_ok (kind:=kind) (value:=value) (own:=ownOf v cells) (by rw [own_len]; omega)
    rw [this.2,own_len]; omega
   ·simp
  have sm:=same_ok (show 2000000 ≤ k by omega) hx3 (own_reads c3) hlS
  have h1:=specRuleValid_any (show 2000002 ≤ k by omega) (kind:=kind) (value:=value) ⟨a8,a9⟩ hc3 (by omega)
  have h2:=specMasksValid_any (show 2000000 ≤ k by omega) (n:=n) ⟨a8,a9⟩ hm3 (by omega)
  obtain ⟨H4,d1,d2⟩:=alive_ok (show 2000002 ≤ k by omega) H3
  have hxl:=hx3.len
  have hbad:¬ ((decide (2 ≤ n∧n ≤ 4) && ruleOk n kind cells value)=true∧masksOk n v=true)→(x.len:Int)=0:=fun h=>by
   rw [hxl]; unfold ruleMasksS; rw [if_neg h]; rfl
  unfold laws_FnRuleMasks.f
  rw [df hbig,cond_false,a1,Option.bind_some]
  simp only [AV.isTup,AV.nth,AV.isAgg,AV.cel,AV.toI,AV.toS,AV.toB,Zl,Zm,Zc,Zd,if_true,decide_true,beq_self_eq_true,Zt,Zf,Zy,Zx,Zo]
  rw [b1,Option.bind_some]
  simp only [AV.isTup,AV.nth,AV.isAgg,AV.cel,AV.toI,AV.toS,AV.toB,Zl,Zm,Zc,Zd,if_true,decide_true,beq_self_eq_true,Zt,Zf,Zy,Zx,Zo]
  rw [c1,Option.bind_some]
  simp only [AV.isTup,AV.nth,AV.isAgg,AV.cel,AV.toI,AV.toS,AV.toB,Zl,Zm,Zc,Zd,if_true,decide_true,beq_self_eq_true,Zt,Zf,Zy,Zx,Zo]
  rw [sm,Option.bind_some]
  simp only [AV.isTup,AV.nth,AV.isAgg,AV.cel,AV.toI,AV.toS,AV.toB,Zl,Zm,Zc,Zd,if_true,decide_true,beq_self_eq_true,Zt,Zf,Zy,Zx,Zo]
  rw [h1,Option.bind_some]
  cases e1:(decide (2 ≤ n∧n ≤ 4) && ruleOk n kind cells value) with
  | false=>
   refine ⟨H4,?_⟩
   simp only [AV.isTup,AV.nth,AV.isAgg,AV.cel,AV.toI,AV.toS,AV.toB,Zl,Zm,Zc,Zd,if_true,decide_true,beq_self_eq_true,Zt,Zf,Zy,Zx,Zo]
   unfold laws_FnRuleMasks.j0
   rw [cond_true,bt (hbad fun h=>by rw [e1] at h; cases h.1),cond_true,d1,Option.bind_some]
   simp only [AV.isTup,AV.nth,AV.isAgg,AV.cel,AV.toI,AV.toS,AV.toB,Zl,Zm,Zc,Zd,if_true,decide_true,beq_self_eq_true,Zt,Zf,Zy,Zx,Zo]
  | true=>
   simp only [AV.isTup,AV.nth,AV.isAgg,AV.cel,AV.toI,AV.toS,AV.toB,Zl,Zm,Zc,Zd,if_true,decide_true,beq_self_eq_true,Zt,Zf,Zy,Zx,Zo]
   rw [h2,Option.bind_some]
   cases e2:masksOk n v with
   | false=>
    refine ⟨H4,?_⟩
    simp only [AV.isTup,AV.nth,AV.isAgg,AV.cel,AV.toI,AV.toS,AV.toB,Zl,Zm,Zc,Zd,if_true,decide_true,beq_self_eq_true,Zt,Zf,Zy,Zx,Zo]
    unfold laws_FnRuleMasks.j0
    rw [cond_true,bt (hbad fun h=>by rw [e2] at h; cases h.2),cond_true,d1,Option.bind_some]
    simp only [AV.isTup,AV.nth,AV.isAgg,AV.cel,AV.toI,AV.toS,AV.toB,Zl,Zm,Zc,Zd,if_true,decide_true,beq_self_eq_true,Zt,Zf,Zy,Zx,Zo]
   | true=>
    have e1':=e1
    rw [Bool.and_eq_true,decide_eq_true_eq] at e1'
    obtain ⟨hn,hro⟩:=e1'
    have hrv:ruleOkV n (kind,cells,value)=true:=hro
    obtain ⟨g1,g2,g3,g4⟩:=ruleOk_cells hro
    obtain ⟨r1,r2,r3,r4⟩:=rule_again hrv e2
    simp only at r1 r2 r3 r4
    have eS:ruleMasksS n kind value cells v=ruleMasksV kind value (ownOf v cells):=by unfold ruleMasksS; rw [if_pos ⟨e1,e2⟩]
    have hrm:=ruleMasks_ok (kind:=kind) (value:=value) (own:=ownOf v cells) (by rw [own_len]; omega)
    rw [own_len] at hrm
    rw [eS] at hx3 hxl
    have hsz:=(masksOk_iff.1 e2).2.2
    have p4:H3 <+: H3 ++ [some (Blk.mk false (v.map (.int .i64)))]:=(List.prefix_append _ _)
    obtain ⟨H5,f1,f2,f3⟩:=RuleMasks_l2 (show 100 ≤ k by omega) (kind:=kind) (value:=value) e2 (fun c hc=>by have:=g1 c hc; omega) g2 hrm.2 hrm.1 r3 hm3 hx3 hc3 cells.length 0 k 0 (H3 ++ [some (Blk.mk false (v.map (.int .i64)))]) v (by omega) (by omega) (by omega) p4 (own_new 1 H3 (v.map (.int .i64)) v.length (by simp)) rfl
    simp only [Int.natCast_zero,Nat.zero_add] at f1
    have hl16:=masks_len r1
    have rg:∀ m ∈ setAll cells v (ruleMasksV kind value (ownOf v cells)) 0 cells.length,-2 ≤ m∧m ≤ 63:=fun m hm=>by
     have h1:=(maskOk_iff.1 ((masksOk_iff.1 r1).2.1 m hm)).1
     have:=topMask_le n; omega
    obtain ⟨u,H6,i1,i2,i3⟩:=implRuleMasks_ok (show 2000040 ≤ k by omega) hn (pf_reads f2 hc3) (own_reads f3) (by omega) (by omega) rg (kind:=kind) (value:=value)
    have eS2:ruleMasksS n kind value cells (setAll cells v (ruleMasksV kind value (ownOf v cells)) 0 cells.length)=ruleMasksV kind value (ownOf v cells):=by
     unfold ruleMasksS; rw [if_pos ⟨e1,r1⟩]; exact r2
    rw [eS2] at i3
    have sm2:=same_ok (show 2000000 ≤ k by omega) i3.reads (pf_reads (f2.trans i2) hx3) (by omega)
    have hcsl:=hc3.len
    have hxc:(x.len:Int)=(cs.len:Int):=by omega
    refine ⟨H6,?_⟩
    simp only [AV.isTup,AV.nth,AV.isAgg,AV.cel,AV.toI,AV.toS,AV.toB,Zl,Zm,Zc,Zd,if_true,decide_true,beq_self_eq_true,Zt,Zf,Zy,Zx,Zo]
    unfold laws_FnRuleMasks.j0
    rw [cond_false]
    unfold laws_FnRuleMasks.j1
    rw [read_ok hm3,Option.bind_some,hm3.len,appl_ok H3 v .i64 (by omega),Option.bind_some,cells_ok]
    simp only [Za,Zt]
    rw [f1]
    unfold laws_FnRuleMasks.j4
    rw [bt hxc,cond_true]
    rcases r4 with e | e
    ·rw [e,bt (show ((0:Nat):Int)=0 from rfl),cond_true,i1,Option.bind_some]
     simp only [AV.isTup,AV.nth,AV.isAgg,AV.cel,AV.toI,AV.toS,AV.toB,Zl,Zm,Zc,Zd,if_true,decide_true,beq_self_eq_true,Zt,Zf,Zy,Zx,Zo]
     rw [sm2,Option.bind_some]
     simp only [AV.isTup,AV.nth,AV.isAgg,AV.cel,AV.toI,AV.toS,AV.toB,Zl,Zm,Zc,Zd,if_true,decide_true,beq_self_eq_true,Zt,Zf,Zy,Zx,Zo]
    ·rw [e,bf (show ((cells.length:Nat):Int) ≠ 0 by omega),cond_false,bt (show ((cells.length:Nat):Int)=(x.len:Int) by omega),cond_true,i1,Option.bind_some]
     simp only [AV.isTup,AV.nth,AV.isAgg,AV.cel,AV.toI,AV.toS,AV.toB,Zl,Zm,Zc,Zd,if_true,decide_true,beq_self_eq_true,Zt,Zf,Zy,Zx,Zo]
     rw [sm2,Option.bind_some]
     simp only [AV.isTup,AV.nth,AV.isAgg,AV.cel,AV.toI,AV.toS,AV.toB,Zl,Zm,Zc,Zd,if_true,decide_true,beq_self_eq_true,Zt,Zf,Zy,Zx,Zo]
end Go.Proofs.Ytjojhbdghhmeeaa.Rp
