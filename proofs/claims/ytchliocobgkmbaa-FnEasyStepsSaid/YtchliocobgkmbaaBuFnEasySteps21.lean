/- Texts for the row of the law FnEasySteps, part 21: the plain machine, the program's functions on it, what they come to. No conditions. -/
import Derived.Test.YtchliocobgkmbaaBuFnEasySteps20
import Derived.Test.YtchliocobgkmbaaBuFnEasySteps13
import Derived.Test.YtchliocobgkmbaaBuFnEasySteps16
import Derived.Test.YtchliocobgkmbaaBuFnEasySteps19
import Derived.Test.YtchliocobgkmbaaBuFnEasySteps15
import Derived.Test.YtchliocobgkmbaaBuFnEasySteps14
import Derived.Test.YtchliocobgkmbaaBuFnEasySteps17
set_option linter.unusedVariables false
set_option linter.unusedSimpArgs false
namespace Go.Proofs.Ytchliocobgkmbaa.Rp
open Go Go.RowKit Go.Proofs.Ytchliocobgkmbaa.Ab
structure OutD (B:Hp) (b d:Nat) (H:Hp) (s:Sl) (ls:List (List Int)):Prop where
 cell:H[b]?=some (some ⟨false,[.sl 1 s]⟩)
 bB:B.length ≤ b
 bs:s.blk ≠ b
 bd:b ≠ d
 sd:s.blk ≠ d
 ex:∃ ss:List Sl,Own 1 B H s (ss.map (.sl 1))∧ss.length=ls.length∧∀ i,(h:i < ss.length)→(h':i < ls.length)→Own 1 B H ss[i] (ls[i].map (.int .i64))∧ss[i].blk ≠ b∧ss[i].blk ≠ s.blk∧ss[i].blk < H.length∧B.length ≤ ss[i].blk∧ss[i].blk ≠ d
theorem OutD.reads {B H:Hp} {b d:Nat} {s:Sl} {ls:List (List Int)} (h:OutD B b d H s ls):ReadsL B H s ls:=by
 obtain ⟨ss,h1,h2,h3⟩:=h.ex
 have:Outs B b H s ls:=⟨h.cell,h.bB,h.bs,ss,h1,h2,fun i hi hi'=>by
  obtain ⟨a,b,c,d,e,f⟩:=h3 i hi hi'
  exact ⟨a,b,c,d,e⟩⟩
 exact this.reads
theorem OutD.len {B H:Hp} {b d:Nat} {s:Sl} {ls:List (List Int)} (h:OutD B b d H s ls):s.len=ls.length:=h.reads.len
theorem OutD.pf {B H H':Hp} {b d:Nat} {s:Sl} {ls:List (List Int)} (h:OutD B b d H s ls) (g:H <+: H'):OutD B b d H' s ls:=by
 obtain ⟨ss,h1,h2,h3⟩:=h.ex
 exact ⟨pf_get g h.cell,h.bB,h.bs,h.bd,h.sd,ss,own_pf h1 g,h2,fun i hi hi'=>by
  obtain ⟨a,b,c,d,e,f⟩:=h3 i hi hi'
  exact ⟨own_pf a g,b,c,Nat.lt_of_lt_of_le d g.length_le,e,f⟩⟩
theorem OutD.wr {B H H':Hp} {b d:Nat} {s:Sl} {ls:List (List Int)} (h:OutD B b d H s ls) (g:But d H H') (hl:H'.length=H.length):OutD B b d H' s ls:=by
 obtain ⟨ss,h1,h2,h3⟩:=h.ex
 exact ⟨g _ _ h.bd h.cell,h.bB,h.bs,h.bd,h.sd,ss,g.own h.sd h1,h2,fun i hi hi'=>by
  obtain ⟨a,b,c,d,e,f⟩:=h3 i hi hi'
  exact ⟨g.own f a,b,c,by omega,e,f⟩⟩
theorem outD_app {B H:Hp} {b d:Nat} {s:Sl} {ls:List (List Int)} (h:OutD B b d H s ls) (hB:B <+: H) (hl:ls.length ≤ 100000) {t:Sl} {g:List Int} (ht:Own 1 B H t (g.map (.int .i64))) (t1:t.blk ≠ b) (t2:t.blk ≠ s.blk) (t3:t.blk < H.length) (t4:B.length ≤ t.blk) (t5:t.blk ≠ d) (hd:d < H.length) :
  ∃ H1 H2,H.app 1 s 1 [.sl 1 t]=some (Sl.mk false H.length 0 (ls.length + 1),H1)∧H1.sto b 0 [.sl 1 (Sl.mk false H.length 0 (ls.length + 1))]=some H2∧OutD B b d H2 (Sl.mk false H.length 0 (ls.length + 1)) (ls ++ [g])∧Adv2 b s.blk H H2∧B <+: H2:=by
 obtain ⟨ss,h1,h2,h3⟩:=h.ex
 have hsl:=h.len
 obtain ⟨H1,a1,a2,a3,a4,a5⟩:=own_app h1 hB 1 [.sl 1 t] (by omega) (by omega) (by omega) (by omega) rfl
 rw [hsl] at a1 a3
 have hb1:=a4 b _ (Ne.symm h.bs) h.cell
 obtain ⟨H2,c1,c2,c3,c4⟩:=sto1' hb1 (.sl 1 (Sl.mk false H.length 0 (ls.length + 1)))
 have hbl:=(List.getElem?_eq_some_iff.1 h.cell).1
 have adv:Adv2 b s.blk H H2:=⟨fun d x d1 d2 hx=>c3 d x d1 (a4 d x d2 hx),by omega⟩
 refine ⟨H1,H2,a1,c1,⟨c2,h.bB,by simp only; omega,h.bd,by simp only; omega,ss ++ [t],?_,by simp [h2],fun i hi hi'=>?_⟩,adv,adv.pf h.bB h1.blk hB⟩
 ·have:=c3.own (by simp only; omega) a3
  simpa using this
 ·by_cases e:i < ss.length
  ·obtain ⟨q1,q2,q3,q4,q5,q6⟩:=h3 i e (by omega)
   rw [List.getElem_append_left e,List.getElem_append_left (by omega)]
   exact ⟨adv.own q2 q3 q1,q2,by simp only; omega,by omega,q5,q6⟩
  ·have ei:i=ss.length:=by simp at hi; omega
   subst ei
   have e1:(ss ++ [t])[ss.length]=t:=by simp
   have e2:(ls ++ [g])[ss.length]=g:=by simp [h2]
   rw [e1,e2]
   exact ⟨adv.own t1 t2 ht,t1,by simp only; omega,by omega,t4,t5⟩
structure TF (B:Hp) (b mb:Nat) (most:Int) (d c:Nat) (st:List (List Int) × Bool) (H:Hp):Prop where
 ex:∃ s:Sl,s.blk=c∧OutD B b d H s st.1
 m:H[mb]?=some (some ⟨false,[.int .i64 most]⟩)
 m1:mb ≠ b
 m2:mb ≠ c
 m3:mb ≠ d
 hd:d < H.length
 lt:st.2=true→(st.1.length:Int) < most
def stepF (most:Int) (ls:List (List Int)) (x:List Int):List (List Int) × Bool:=(ls ++ [x],decide (((ls.length + 1:Nat):Int) < most))
theorem tell_first {B:Hp} {b d mb:Nat} {most:Int} (hbd:b ≠ d) (hbB:B.length ≤ b) (hm:most ≤ 1000):Tell B impl_firstSolutions_1.id [.ptr b 0,.ptr mb 0] b d (stepF most) (TF B b mb most d) 10:=by
 refine ⟨by kernel_rfl,rfl,hbB,hbd,?_,?_,?_⟩
 ·rintro c st H H' ⟨⟨s,hc,ho⟩,m,m1,m2,m3,hd,hlt⟩ g
  exact ⟨⟨s,hc,ho.pf g⟩,pf_get g m,m1,m2,m3,Nat.lt_of_lt_of_le hd g.length_le,hlt⟩
 ·rintro c st H H' ⟨⟨s,hc,ho⟩,m,m1,m2,m3,hd,hlt⟩ g hl
  exact ⟨⟨s,hc,ho.wr g hl⟩,g _ _ m3 m,m1,m2,m3,by omega,hlt⟩
 ·rintro k hk c st H t g ⟨⟨s,hc,ho⟩,m,m1,m2,m3,hd,hlt⟩ hB hr h16 htd htn hcd hcB
  subst hc
  have hlt':=hlt rfl
  simp only at hlt' ho
  obtain ⟨k,rfl⟩:=Zs k (by omega)
  have hcell:ldS 1 H b 0=some s:=by unfold ldS Hp.cell; rw [ho.cell]; simp [AV.toS]
  have hbl:=(List.getElem?_eq_some_iff.1 ho.cell).1
  have hml:=(List.getElem?_eq_some_iff.1 m).1
  have g1:H <+: H ++ [some (Blk.mk false (g.map (.int .i64)))]:=List.prefix_append _ _
  have hnew:=own_new 1 H (g.map (.int .i64)) g.length (by simp)
  have hst:stableB H (H ++ [some (Blk.mk false (g.map (.int .i64)))]) b 0 1=true:=by
   have e1:H.cell b 0=some (.sl 1 s):=by unfold Hp.cell; rw [ho.cell]; rfl
   have e2:=pf_cell g1 e1
   unfold stableB
   simp [e1,e2,AV.same]
  have hob:s.blk < H.length:=by obtain ⟨ss,h1,_⟩:=ho.ex; exact own_lt' h1
  have hcl:=Clone_own (show 1 ≤ k by omega) hr htn (by omega)
  obtain ⟨H1,H2,a1,a2,a3,a4,a5⟩:=outD_app (ho.pf g1) (hB.trans g1) (by omega) (own_base hnew hB) (by first | omega | (simp only; omega) | (simp; omega)) (by first | omega | (simp only; omega) | (simp; omega)) (by simp) hB.length_le (by first | omega | (simp only; omega) | (simp; omega)) (by simp; omega)
  have adv:Adv2 b s.blk H H2:=(pf_adv2 g1).trans a4 (.inl rfl)
  have hm2:=adv.but _ _ m1 m2 m
  have hl2:ldS 1 H2 b 0=some (Sl.mk false (H ++ [some (Blk.mk false (g.map (.int .i64)))]).length 0 (st.length + 1)):=by unfold ldS Hp.cell; rw [a3.cell]; simp [AV.toS]
  have hm3:ldI .i64 H2 mb 0=some most:=by unfold ldI Hp.cell; rw [hm2]; simp [AV.toI]
  refine ⟨H2,(H ++ [some (Blk.mk false (g.map (.int .i64)))]).length,?_,⟨⟨_,rfl,a3⟩,hm2,m1,(by first | omega | (simp only; omega) | (simp; omega)),m3,by have:=adv.le; omega,?_⟩,adv,.inr (by simp)⟩
  ·show callF PP orc (k + 1) impl_firstSolutions_1.id [.sl 1 t,.ptr b 0,.ptr mb 0] H=some (.bool (decide (((st.length + 1:Nat):Int) < most)),H2)
   rw [impl_firstSolutions_1.call]
   simp (disch:=omega) only [impl_firstSolutions_1.f,dt,df,bt,bf,nt,nf,Za,Zy,Zx,Zt,Zf,Zn,Zz,Zi,Zo,wr,AV.toB,AV.toI,AV.toS,if_true,hcell,hcl,hst,a1,a2,hl2,hm3]
  ·intro h
   have h':decide (((st.length + 1:Nat):Int) < most)=true:=h
   have h2:=of_decide_eq_true h'
   show (((st ++ [g]).length:Nat):Int) < most
   rw [List.length_append]; exact h2
theorem runL_first (most:Nat):∀ (L ls:List (List Int)),ls.length < most→(runL (stepF most) ls L).1=ls ++ L.take (most - ls.length)
 | [],ls,h=>by simp [runL]
 | x :: L,ls,h=>by
  rw [runL]
  have e:most - ls.length=(most - (ls.length + 1)) + 1:=by omega
  by_cases c:((ls.length + 1:Nat):Int) < (most:Int)
  ·rw [if_pos (show (stepF most ls x).2=true from decide_eq_true c)]
   show (runL (stepF most) (ls ++ [x]) L).1=_
   rw [runL_first most L (ls ++ [x]) (by simp; omega),e]
   simp
  ·rw [if_neg (by show ¬ decide (((ls.length + 1:Nat):Int) < (most:Int))=true; simp; omega)]
   show ls ++ [x]=_
   have:most - ls.length=1:=by omega
   rw [this]; simp
theorem sto_end {H:Hp} {x:AV} (v:AV):∃ H',(H ++ [some (Blk.mk false [x])]).sto H.length 0 [v]=some H'∧H <+: H'∧H'[H.length]?=some (some ⟨false,[v]⟩)∧H'.length=H.length + 1:=by
 obtain ⟨H',a,b,c,d⟩:=sto1' (H:=H ++ [some (Blk.mk false [x])]) (b:=H.length) (x:=x) (by simp) v
 exact ⟨H',a,c.pf (H0:=H) (Nat.le_refl _) (List.prefix_append _ _) (by omega),b,by rw [d]; simp⟩
theorem solutions_gen {B H:Hp} (hB:B <+: H) {n:Int} {gs ss:Sl} {given:List Int} {rs:List R} {b c:Nat} (hzk:∀ H',Adv2 b c H H'→PuzAt H' n gs ss given rs) (hnil:gs.nil=false) {σ:Type} {step:σ→List Int→σ × Bool} {T:Nat→Nat→σ × Bool→Hp→Prop} {K:Nat} {f:FuncId} {caps:List AV} (hbl:b < H.length) (hcl:c < H.length) (hcB:B.length ≤ c)
  (tell:∀ d,H.length ≤ d→Tell B f caps b d step (T d) K) (st:σ) (hT:∀ d H1,H.length ≤ d→d < H1.length→H <+: H1→T d c (st,true) H1) {k:Nat} (hk:K + 2000400 ≤ k) :
  ∃ H' c' d,callF PP orc k impl_solutions.id [.agg [.int .i64 n,.sl 1 gs,.sl 3 ss],.sl 1 gs,.fn f caps] H=some (.tup [],H')∧B <+: H'∧Adv2 b c H H'∧T d c' (runL step st (allSols n given (rs.map R.val))) H':=by
 obtain ⟨k,rfl⟩:=Zs k (by omega)
 rw [impl_solutions.call]
 have hz:=hzk H (pf_adv2 (List.prefix_refl _))
 have hgl:=hz.gl
 obtain ⟨Ha,hHa⟩:∃ X,H ++ [some (Blk.mk false [.int .i64 n,.sl 1 gs,.sl 3 ss])]=X:=⟨_,rfl⟩
 obtain ⟨Hb,hHb⟩:∃ X,Ha ++ [some (Blk.mk false [.fn f caps])]=X:=⟨_,rfl⟩
 have la:Ha.length=H.length + 1:=by rw [← hHa]; simp
 have lb:Hb.length=H.length + 2:=by rw [← hHb]; simp; omega
 have pa:H <+: Ha:=by rw [← hHa]; exact List.prefix_append _ _
 have pb:Ha <+: Hb:=by rw [← hHb]; exact List.prefix_append _ _
 have ba:Ha[H.length]?=some (some ⟨false,[.int .i64 n,.sl 1 gs,.sl 3 ss]⟩):=by rw [← hHa]; simp
 have bb:Hb[Ha.length]?=some (some ⟨false,[.fn f caps]⟩):=by rw [← hHb]; simp
 have pBb:=(hB.trans pa).trans pb
 have c1:=Clone_own (show 1 ≤ k by omega) (pf_reads (pa.trans pb) hz.rg) hnil (by omega)
 obtain ⟨Hc,hHc⟩:∃ X,Hb ++ [some (Blk.mk false (given.map (.int .i64)))]=X:=⟨_,rfl⟩
 rw [hHc] at c1
 have lc:Hc.length=H.length + 3:=by rw [← hHc]; simp; omega
 have pc:Hb <+: Hc:=by rw [← hHc]; exact List.prefix_append _ _
 have hown:Own 1 Hb Hc (Sl.mk false Hb.length 0 given.length) (given.map (.int .i64)):=by rw [← hHc]; exact own_new 1 Hb _ _ (by simp)
 obtain ⟨Hd,d1,d2,d3,d4⟩:=sto_end (H:=Hc) (x:=.sl 1 Sl.none) (.sl 1 (Sl.mk false Hb.length 0 given.length))
 have qa:=pf_get ((pb.trans pc).trans d2) ba
 have qb:=pf_get (pc.trans d2) bb
 have pBd:=(pBb.trans pc).trans d2
 have ho:=own_pf hown d2
 have r1:ldI .i64 Hd H.length 0=some n:=by unfold ldI Hp.cell; rw [qa]; simp [AV.toI]
 have r2:ldS 1 Hd H.length (0 + 1)=some gs:=by unfold ldS Hp.cell; rw [qa]; simp [AV.toS]
 have r3:ldS 3 Hd H.length (0 + 1 + 1)=some ss:=by unfold ldS Hp.cell; rw [qa]; simp [AV.toS]
 have r4:=box_sl d3
 obtain ⟨He,e1,e2⟩:=implPuzzleFits_ok (show 2000042 ≤ k by omega) (hz.pf (((pa.trans pb).trans pc).trans d2)) (own_reads ho) hgl
 have pHe:H <+: He:=(((pa.trans pb).trans pc).trans d2).trans e2
 have hle:=e2.length_le
 unfold allSols
 cases cf:puzzleFitsV n given (rs.map R.val) given with
 | false=>
  rw [cf] at e1
  rw [iN (by simp)]
  refine ⟨He,c,Hb.length,?_,pBd.trans e2,pf_adv2 pHe,by rw [runL]; exact hT _ _ (by omega) (by omega) pHe⟩
  simp (disch:=omega) only [impl_solutions.f,dt,df,bt,bf,nt,nf,Za,Zy,Zx,Zt,Zf,Zn,Zz,Zi,Zo,wr,AV.toB,AV.toI,AV.toS,if_true,hHa,hHb,c1,d1,r1,r2,r3,r4,e1]
 | true=>
  rw [cf] at e1
  rw [ip rfl]
  unfold puzzleFitsV at cf
  simp only [Bool.and_eq_true] at cf
  obtain ⟨q1,q2,q3⟩:=puzzleV_iff cf.1
  have h16:=gridOk_len q1
  have ra:=pf_get e2 qa
  have s1:ldI .i64 He H.length (0 + 0)=some n:=by unfold ldI Hp.cell; rw [ra]; simp [AV.toI]
  obtain ⟨Hf,f1,f2,f3,f4⟩:=sto_end (H:=He) (x:=.int .i64 0) (.int .i64 n)
  obtain ⟨Hg,g1,g2,g3,g4⟩:=sto_end (H:=Hf) (x:=.nilf) (.fn impl_solutions_1.id [.ptr Hc.length 0,.ptr Ha.length 0,.ptr Hf.length 0,.ptr He.length 0,.ptr H.length 0])
  have s2:=box_fn g3
  have pBg:=((pBd.trans e2).trans f2).trans g2
  have pHg:=(pHe.trans f2).trans g2
  have hBH:=hB.length_le
  have hog:Own 1 B Hg (Sl.mk false Hb.length 0 given.length) (given.map (.int .i64)):=own_base (own_pf ho ((e2.trans f2).trans g2)) pBb
  have hbx:Bx Hg Hc.length Ha.length Hf.length He.length H.length n (Sl.mk false Hb.length 0 given.length) gs ss f caps:=
   ⟨pf_get ((e2.trans f2).trans g2) d3,pf_get ((e2.trans f2).trans g2) qb,g3,pf_get g2 f3,pf_get (f2.trans g2) ra⟩
  obtain ⟨H',c',g',w1,w2,w3,w4,w5,w6,w7,w8⟩:=Sol_ok (tell Hb.length (by omega)) (gs:=Sl.mk false Hb.length 0 given.length) (H0:=H) (c0:=c) hz.n4 hzk (by simp only; omega) q3 q1 (gb:=Hc.length) (tb:=Ha.length) (yb:=Hf.length) (nb:=He.length) (pb:=H.length) ⟨(by first | omega | (simp only; omega) | (simp; omega)),(by first | omega | (simp only; omega) | (simp; omega)),(by first | omega | (simp only; omega) | (simp; omega)),(by first | omega | (simp only; omega) | (simp; omega)),(by first | omega | (simp only; omega) | (simp; omega))⟩ ⟨(by first | omega | (simp only; omega) | (simp; omega)),(by first | omega | (simp only; omega) | (simp; omega)),(by first | omega | (simp only; omega) | (simp; omega)),(by first | omega | (simp only; omega) | (simp; omega)),(by first | omega | (simp only; omega) | (simp; omega))⟩ given.length k (by omega) Hg given c st (Nat.le_refl _) pBg hbx ⟨(by first | omega | (simp only; omega) | (simp; omega)),(by first | omega | (simp only; omega) | (simp; omega)),(by first | omega | (simp only; omega) | (simp; omega)),(by first | omega | (simp only; omega) | (simp; omega)),(by first | omega | (simp only; omega) | (simp; omega))⟩ (by simp only; omega) hcB hog q1 (Le.refl given) cf.2.2 (hT _ _ (by omega) (by omega) pHg) (pf_adv2 pHg) (.inl rfl)
  rw [Nat.sub_self] at w1
  have w1':callF PP orc k impl_solutions_1.id ([.int .i64 0] ++ [.ptr Hc.length 0,.ptr Ha.length 0,.ptr Hf.length 0,.ptr He.length 0,.ptr H.length 0]) Hg=_:=w1
  refine ⟨H',c',Hb.length,?_,w2,?_,w7⟩
  ·have hcg:([.int .i64 0] ++ [.ptr Hc.length 0,.ptr Ha.length 0,.ptr Hf.length 0,.ptr He.length 0,.ptr H.length 0]:List AV).all AV.glob=true:=rfl
   simp (disch:=omega) only [impl_solutions.f,dt,df,bt,bf,nt,nf,Za,Zy,Zx,Zt,Zf,Zn,Zz,Zi,Zo,wr,AV.toB,AV.toI,AV.toS,if_true,hHa,hHb,c1,d1,r1,r2,r3,r4,e1,s1,f1,g1,s2,okSol,hcg,w1']
  ·refine ⟨fun e x h1 h2 hx=>?_,by have:=w3.le; have:=pHg.length_le; omega⟩
   have hel:=(List.getElem?_eq_some_iff.1 hx).1
   exact w3.but e x (by simp only; omega) h1 h2 (pf_get pHg hx)
theorem solutions_ok {B H:Hp} (hB:B <+: H) {n:Int} {gs ss:Sl} {given:List Int} {rs:List R} (hz:PuzAt B n gs ss given rs) (hnil:gs.nil=false) {σ:Type} {step:σ→List Int→σ × Bool} {T:Nat→Nat→σ × Bool→Hp→Prop} {K b c:Nat} {f:FuncId} {caps:List AV} (hbl:b < H.length) (hcl:c < H.length) (hbB:B.length ≤ b) (hcB:B.length ≤ c)
  (tell:∀ d,H.length ≤ d→Tell B f caps b d step (T d) K) (st:σ) (hT:∀ d H1,H.length ≤ d→d < H1.length→H <+: H1→T d c (st,true) H1) {k:Nat} (hk:K + 2000400 ≤ k) :
  ∃ H' c' d,callF PP orc k impl_solutions.id [.agg [.int .i64 n,.sl 1 gs,.sl 3 ss],.sl 1 gs,.fn f caps] H=some (.tup [],H')∧B <+: H'∧Adv2 b c H H'∧T d c' (runL step st (allSols n given (rs.map R.val))) H':=
 solutions_gen hB (fun H' a=>hz.pf (a.pf hbB hcB hB)) hnil hbl hcl hcB tell st hT hk
theorem firstSolutions_ok {k:Nat} (hk:2000500 ≤ k) {H:Hp} {n:Int} {gs s:Sl} {given:List Int} {rs:List R} (hz:PuzAt H n gs s given rs) (hnil:gs.nil=false) {most:Nat} (h0:1 ≤ most) (hmost:most ≤ 1000) :
  ∃ t H',callF PP orc k impl_firstSolutions.id [.agg [.int .i64 n,.sl 1 gs,.sl 3 s],.sl 1 gs,.int .i64 (most:Int)] H=some (.sl 1 t,H')∧H <+: H'∧ReadsL H H' t ((allSols n given (rs.map R.val)).take most):=by
 obtain ⟨k,rfl⟩:=Zs k (by omega)
 rw [impl_firstSolutions.call]
 obtain ⟨Ha,hHa⟩:∃ X,H ++ [some (Blk.mk false [.int .i64 (most:Int)])]=X:=⟨_,rfl⟩
 obtain ⟨Hb,hHb⟩:∃ X,Ha ++ [some (Blk.mk false ([]:List AV))]=X:=⟨_,rfl⟩
 have la:Ha.length=H.length + 1:=by rw [← hHa]; simp
 have lb:Hb.length=H.length + 2:=by rw [← hHb]; simp; omega
 have pa:H <+: Ha:=by rw [← hHa]; exact List.prefix_append _ _
 have pb:Ha <+: Hb:=by rw [← hHb]; exact List.prefix_append _ _
 have ba:Ha[H.length]?=some (some ⟨false,[.int .i64 (most:Int)]⟩):=by rw [← hHa]; simp
 have bb:Hb[Ha.length]?=some (some ⟨false,[]⟩):=by rw [← hHb]; simp
 obtain ⟨Hc,c1,c2,c3,c4⟩:=sto_end (H:=Hb) (x:=.sl 1 Sl.none) (.sl 1 (Sl.mk false Ha.length 0 0))
 have pHc:=(pa.trans pb).trans c2
 have ho1:∀ d,Hc.length ≤ d→OutD H Hb.length d Hc (Sl.mk false Ha.length 0 0) []:=fun d hd=>
  ⟨c3,by omega,by simp only; omega,by omega,by simp only; omega,[],⟨rfl,rfl,by simp only; omega,pf_get c2 bb,rfl⟩,rfl,fun i hi=>by simp at hi⟩
 obtain ⟨H',c',d,w1,w2,w3,⟨⟨o,w4,w5⟩,w6,w7,w8,w9,w10,w11⟩⟩:=solutions_ok (B:=H) (H:=Hc) pHc hz hnil (b:=Hb.length) (c:=Ha.length) (K:=10) (T:=TF H Hb.length H.length most) (step:=stepF most) (f:=impl_firstSolutions_1.id) (caps:=[.ptr Hb.length 0,.ptr H.length 0]) (by omega) (by omega) (by omega) (by omega)
  (fun d hd=>tell_first (by omega) (by omega) (by omega)) [] (fun d H1 h1 h2 h3=>⟨⟨_,rfl,(ho1 d h1).pf h3⟩,pf_get (((pb.trans c2)).trans h3) ba,by omega,by omega,by omega,h2,fun _=>by simp; omega⟩) (show 10 + 2000400 ≤ k by omega)
 rw [runL_first most _ [] (by simp; omega)] at w5
 simp only [List.nil_append,Zm,Nat.sub_zero] at w5
 have hl:ldS 1 H' Hb.length 0=some o:=box_sl w5.cell
 refine ⟨o,H',?_,w2,w5.reads⟩
 simp (disch:=omega) only [impl_firstSolutions.f,dt,df,bt,bf,nt,nf,Za,Zy,Zx,Zt,Zf,Zn,Zz,Zi,Zo,wr,AV.toB,AV.toI,AV.toS,if_true,hHa,hHb,c1,w1,hl]
def countV (n:Int) (given:List Int) (vs:List V) (m:Int):Int:=if puzzleV n given vs=true∧1 ≤ m∧m ≤ 600 then (((allSols n given vs).take m.toNat).length:Int) else -1
theorem implCount_ok {k:Nat} (hk:2000510 ≤ k) {H:Hp} {n:Int} {gs s:Sl} {given:List Int} {rs:List R} (hz:PuzAt H n gs s given rs) (hnil:gs.nil=false) (m:Int) :
  ∃ H',callF PP orc k impl_CountSolutions.id [.agg [.int .i64 n,.sl 1 gs,.sl 3 s],.int .i64 m] H=some (.int .i64 (countV n given (rs.map R.val) m),H')∧H <+: H':=by
 obtain ⟨k,rfl⟩:=Zs k (by omega)
 rw [impl_CountSolutions.call]
 have h1:=implPuzzleValid_ok (show 2000003 ≤ k by omega) hz.n4 hz.rg hz.gl hz.rr hz.rl hz.rc
 rw [puzzle_map] at h1
 unfold countV
 cases c1:puzzleV n given (rs.map R.val) with
 | false=>
  rw [c1] at h1
  rw [iN (by simp)]
  exact ⟨H,by simp only [impl_CountSolutions.f,impl_CountSolutions.j0,dt,df,bt,bf,nt,nf,Za,Zy,Zx,Zt,Zf,Zn,Zz,Zi,Zo,wr,AV.toB,AV.toI,AV.toS,if_true,h1],(List.prefix_refl _)⟩
 | true=>
  rw [c1] at h1
  by_cases c2:m < 1
  ·rw [iN (by omega)]
   exact ⟨H,by simp (disch:=omega) only [impl_CountSolutions.f,impl_CountSolutions.j0,dt,df,bt,bf,nt,nf,Za,Zy,Zx,Zt,Zf,Zn,Zz,Zi,Zo,wr,AV.toB,AV.toI,AV.toS,if_true,h1],(List.prefix_refl _)⟩
  ·by_cases c3:m > 600
   ·rw [iN (by omega)]
    exact ⟨H,by simp (disch:=omega) only [impl_CountSolutions.f,impl_CountSolutions.j0,dt,df,bt,bf,nt,nf,Za,Zy,Zx,Zt,Zf,Zn,Zz,Zi,Zo,wr,AV.toB,AV.toI,AV.toS,if_true,h1],(List.prefix_refl _)⟩
   ·obtain ⟨q,rfl⟩:∃ q:Nat,m=q:=⟨m.toNat,by omega⟩
    rw [ip ⟨rfl,by omega,by omega⟩]
    obtain ⟨t,H',a1,a2,a3⟩:=firstSolutions_ok (show 2000500 ≤ k by omega) hz hnil (most:=q) (by omega) (by omega)
    have hl:=a3.len
    refine ⟨H',?_,a2⟩
    simp (disch:=omega) only [impl_CountSolutions.f,impl_CountSolutions.j0,impl_CountSolutions.j1,dt,df,bt,bf,nt,nf,Za,Zy,Zx,Zt,Zf,Zn,Zz,Zi,Zo,wr,AV.toB,AV.toI,AV.toS,if_true,h1,a1,hl,Zn]
theorem onlyOne_ok {k:Nat} (hk:2000511 ≤ k) {H:Hp} {n:Int} {gs s:Sl} {given:List Int} {rs:List R} (hz:PuzAt H n gs s given rs) (hnil:gs.nil=false) :
  ∃ H',callF PP orc k impl_onlyOne.id [.agg [.int .i64 n,.sl 1 gs,.sl 3 s]] H=some (.bool (minimalOk n given (rs.map R.val)),H')∧H <+: H':=by
 obtain ⟨k,rfl⟩:=Zs k (by omega)
 rw [impl_onlyOne.call]
 obtain ⟨H1,a1,a2⟩:=implCount_ok (show 2000510 ≤ k by omega) hz hnil 2
 have e:(countV n given (rs.map R.val) 2 == 1)=minimalOk n given (rs.map R.val):=by
  unfold countV minimalOk oneV
  cases c1:puzzleV n given (rs.map R.val) with
  | false=>rfl
  | true=>
   rw [ip ⟨rfl,by omega,by omega⟩,Bool.eq_iff_iff]
   simp; omega
 exact ⟨H1,by simp only [impl_onlyOne.f,dt,df,bt,bf,nt,nf,Za,Zy,Zx,Zt,Zf,Zn,Zz,Zi,Zo,wr,AV.toB,AV.toI,AV.toS,if_true,a1,e],a2⟩
structure WN (H0 H:Hp) (s:Sl) (qs:List R):Prop where
 sh:(qs=[]∧s=Sl.none) ∨ Own 3 H0 H s (qs.flatMap R.av)
 rd:∀ q ∈ qs,Reads .i64 H q.sl q.cells
 cb:∀ q ∈ qs,q.cells ≠ []→H0.length ≤ q.sl.blk∧q.sl.blk < H.length∧q.sl.blk ≠ s.blk
 cn:∀ q ∈ qs,q.sl.nil=false ∨ q.cells=[]
theorem reads_or {H H':Hp} {s:Sl} {l:List Int} {b:Nat} (h:Reads .i64 H s l) (g:But b H H') (hb:l ≠ []→s.blk ≠ b):Reads .i64 H' s l:=by
 cases l with
 | nil=>exact reads_nil h.len
 | cons x l=>exact g.reads (hb (by simp)) h
theorem WN.pf {H0 H H':Hp} {s:Sl} {qs:List R} (h:WN H0 H s qs) (g:H <+: H'):WN H0 H' s qs:=
 ⟨h.sh.imp id fun ho=>own_pf ho g,fun q hq=>pf_reads g (h.rd q hq),fun q hq hc=>by
  obtain ⟨a,b,c⟩:=h.cb q hq hc
  exact ⟨a,Nat.lt_of_lt_of_le b g.length_le,c⟩,h.cn⟩
theorem WN.reads {H0 H:Hp} {s:Sl} {qs:List R} (h:WN H0 H s qs):ReadsR H s qs:=by
 rcases h.sh with ⟨e1,e2⟩ | ho
 ·subst e1 e2
  exact ⟨rfl,fun i hi=>absurd hi (Nat.not_lt_zero _),fun i hi=>absurd hi (Nat.not_lt_zero _),fun i hi=>absurd hi (Nat.not_lt_zero _),fun i hi=>absurd hi (Nat.not_lt_zero _)⟩
 ·exact own_readsR ho fun i hi=>h.rd _ (List.getElem_mem hi)
theorem WN.wr {H0 H H':Hp} {s:Sl} {qs:List R} {b:Nat} (h:WN H0 H s qs) (g:But b H H') (hl:H'.length=H.length) (hb:b < H0.length):WN H0 H' s qs:=
 ⟨h.sh.imp id fun ho=>g.own (by have:=ho.blk; omega) ho,fun q hq=>reads_or (h.rd q hq) g fun hc=>by have:=(h.cb q hq hc).1; omega,fun q hq hc=>by
  obtain ⟨a,b,c⟩:=h.cb q hq hc
  exact ⟨a,by omega,c⟩,h.cn⟩
def clear (cs:List Int) (g:List Int):List Int:=cs.foldl (fun g c=>g.set c.toNat 0) g
noncomputable def levV (n:Int) (given:List Int) (vs:List V) (t:Nat):List Int:=lastV (runS (narrowV n given vs) t (openOf n given)) (openOf n given)
noncomputable def doneB (n:Int) (given:List Int) (vs:List V) (t:Nat):Bool:=decide (filled (gridM n (levV n given vs t))=(levV n given vs t).length)
noncomputable def gradeFrom (n:Int) (given:List Int) (vs:List V):Nat→Nat→Int
 | 0,_=>5
 | j + 1,t=>if doneB n given vs t=true then (t:Int) else gradeFrom n given vs j (t + 1)
noncomputable def gradeV (n:Int) (given:List Int) (vs:List V):Int:=if puzzleV n given vs=true then (if oneV n given vs=true then gradeFrom n given vs 4 1 else 0) else -1
theorem lev_ok {n:Int} {given:List Int} {vs:List V} (hp:puzzleV n given vs=true) {t:Nat} (h4:t ≤ 4):masksOk n (levV n given vs t)=true:=(run_end (narrow_good hp h4) (start_ok hp).2).1
theorem allV_lev {n:Int} {given:List Int} {vs:List V} (hp:puzzleV n given vs=true) {t:Nat} (h1:1 ≤ t) (h4:t ≤ 4):(allV n given vs (openOf n given) (t:Int)).1=levV n given vs t:=by
 unfold allV
 rw [if_pos ⟨hp,(start_ok hp).2,by omega,by omega⟩,Int.toNat_natCast]
 rfl
/-! ### What a grade means -/
theorem open_in {n:Int} {given:List Int} {vs:List V} (hp:puzzleV n given vs=true) {x:List Int} (hx:x ∈ allSols n given vs):InM (openOf n given) x:=by
 have hg:=(puzzleV_grid hp).1
 obtain ⟨h1,h2,h3,_⟩:=(mem_allSols hp x).1 hx
 obtain ⟨hn,h5,h6⟩:=(gridOk_iff x n).1 h1
 have hok:=openOf_ok hg
 intro i hi
 have hig:i < given.length:=by rw [h2.1]; exact hi
 have hv:=h6 _ (mem_getD hi)
 have hpos:=h3 i hi
 rw [mv_has (masks_at hok (by rw [show (openOf n given).length=given.length by simp [openOf]]; exact hig)),show (((x.getD i 0).toNat:Nat):Int)=x.getD i 0 by omega,open_vals hg hig]
 refine ⟨by omega,fun h=>?_⟩
 rcases h2.2 i with e | e
 ·omega
 ·exact e.symm
theorem lev_in {n:Int} {given:List Int} {vs:List V} (hp:puzzleV n given vs=true) {t:Nat} (h4:t ≤ 4) {x:List Int} (hx:x ∈ allSols n given vs):InM (levV n given vs t) x:=run_keeps hp h4 hx (start_ok hp).2 (open_in hp hx)
theorem solG {n:Int} {given:List Int} {vs:List V} (hp:puzzleV n given vs=true) {x:List Int} (hx:x ∈ allSols n given vs):gridOk x n=true∧full x:=⟨((mem_allSols hp x).1 hx).1,((mem_allSols hp x).1 hx).2.2.1⟩
theorem grid_eq {n:Int} {l x:List Int} (hl:masksOk n l=true) (hg:gridOk x n=true) (hf:full x) (hin:InM l x):gridM n l=x ↔ filled (gridM n l)=l.length:=by
 obtain ⟨g1,g2⟩:=gridM_ok hl
 have hlen:=square_len hl hg
 constructor
 ·intro h; rw [h,filled_eq.2 hf,hlen]
 ·intro h
  rw [← g2] at h
  have hfu:=filled_eq.1 h
  refine ext_getD (by omega) fun i hi=>?_
  have h1:=hfu i hi
  rw [gridM_at hl (by omega)] at h1 ⊢
  obtain ⟨o1,o2⟩:=oneOf_single (masks_at hl (show i < l.length by omega))
  have hs:single (l.getD i 0)=true:=by
   cases e:single (l.getD i 0) with
   | true=>rfl
   | false=>have:=o1.2 e; omega
  have hm:=hin.mem hl hg (show i < x.length by omega)
  rw [(o2 hs).1,List.mem_singleton] at hm
  exact hm.symm
theorem done_iff {n:Int} {given:List Int} {vs:List V} (hp:puzzleV n given vs=true) {t:Nat} (h4:t ≤ 4) {x:List Int} (hx:x ∈ allSols n given vs):doneB n given vs t=true ↔ gridM n (levV n given vs t)=x:=by
 obtain ⟨h1,h2⟩:=solG hp hx
 rw [grid_eq (lev_ok hp h4) h1 h2 (lev_in hp h4 hx)]
 unfold doneB
 rw [decide_eq_true_eq]
theorem sub_same {n:Int} {a b:List Int} (ha:masksOk n a=true) (hb:masksOk n b=true) (hs:SubM a b) {x:List Int} (hg:gridOk x n=true) (hin:InM a x) (hone:∀ i,i < b.length→maskVals (b.getD i 0)=[x.getD i 0]):a=b:=by
 refine ext_getD hs.1 fun i hi=>?_
 have hib:i < b.length:=by rw [← hs.1]; exact hi
 have hlen:=square_len ha hg
 have h1:=cnt_sub (masks_at ha hi) (masks_at hb hib) (fun v hv=>hs.2 i v hib hv)
 have h2:cntM (b.getD i 0)=1:=by unfold cntM; rw [hone i hib]; rfl
 have h3:0 < cntM (a.getD i 0):=by unfold cntM; exact List.length_pos_of_mem (hin.mem ha hg (show i < x.length by omega))
 exact h1.2 (by omega)
theorem sub_one {n:Int} {a b:List Int} (ha:masksOk n a=true) (hb:masksOk n b=true) (hs:SubM a b) {x:List Int} (hg:gridOk x n=true) (hin:InM a x) (hone:∀ i,i < b.length→maskVals (b.getD i 0)=[x.getD i 0]):∀ i,i < a.length→maskVals (a.getD i 0)=[x.getD i 0]:=by
 rw [sub_same ha hb hs hg hin hone]; exact hone
theorem grid_one {n:Int} {l x:List Int} (hl:masksOk n l=true) (hf:full x) (h:gridM n l=x):∀ i,i < l.length→maskVals (l.getD i 0)=[x.getD i 0]:=by
 intro i hi
 obtain ⟨o1,o2⟩:=oneOf_single (masks_at hl hi)
 have h1:=hf i (by rw [← h,(gridM_ok hl).2]; exact hi)
 rw [← h,gridM_at hl hi] at h1 ⊢
 have hs:single (l.getD i 0)=true:=by
  cases e:single (l.getD i 0) with
  | true=>rfl
  | false=>have:=o1.2 e; omega
 exact (o2 hs).1
theorem one_grid {n:Int} {l x:List Int} (hl:masksOk n l=true) (hg:gridOk x n=true) (h:∀ i,i < l.length→maskVals (l.getD i 0)=[x.getD i 0]):gridM n l=x:=by
 have hlen:=square_len hl hg
 obtain ⟨g1,g2⟩:=gridM_ok hl
 refine ext_getD (by omega) fun i hi=>?_
 rw [gridM_at hl (by omega)]
 unfold oneOf
 rw [h i (by omega)]
 rfl
theorem done_mono {n:Int} {given:List Int} {vs:List V} (hp:puzzleV n given vs=true) {a b:Nat} (hab:a ≤ b) (hb:b ≤ 4) {x:List Int} (hx:x ∈ allSols n given vs) (h:doneB n given vs a=true):doneB n given vs b=true:=by
 obtain ⟨h1,h2⟩:=solG hp hx
 rw [done_iff hp (by omega) hx] at h
 rw [done_iff hp hb hx]
 refine one_grid (lev_ok hp hb) h1 ?_
 exact sub_one (lev_ok hp hb) (lev_ok hp (show a ≤ 4 by omega)) (run_more hp hab hb hx (start_ok hp).2 (open_in hp hx)) h1 (lev_in hp hb hx) (grid_one (lev_ok hp (show a ≤ 4 by omega)) h2 h)
theorem gradeFrom_rg {n:Int} {given:List Int} {vs:List V}:∀ (j t:Nat),t + j=5→(t:Int) ≤ gradeFrom n given vs j t∧gradeFrom n given vs j t ≤ 5
 | 0,t,h=>by simp [gradeFrom]; omega
 | j + 1,t,h=>by
  rw [gradeFrom]
  have:=gradeFrom_rg (n:=n) (given:=given) (vs:=vs) j (t + 1) (by omega)
  split <;> (push_cast at this; omega)
theorem grade_le {n:Int} {given:List Int} {vs:List V} (hp:puzzleV n given vs=true) {x:List Int} (hx:x ∈ allSols n given vs):∀ (j t u:Nat),t + j=5→t ≤ u→u ≤ 4→(gradeFrom n given vs j t ≤ (u:Int) ↔ doneB n given vs u=true)
 | 0,t,u,h,h1,h2=>by omega
 | j + 1,t,u,h,h1,h2=>by
  rw [gradeFrom]
  by_cases c:doneB n given vs t=true
  ·rw [if_pos c]
   exact ⟨fun _=>done_mono hp h1 h2 hx c,fun _=>by omega⟩
  ·rw [if_neg c]
   by_cases e:t=u
   ·subst e
    have:=(gradeFrom_rg (n:=n) (given:=given) (vs:=vs) j (t + 1) (by omega)).1
    push_cast at this
    exact ⟨fun h=>by omega,fun h=>absurd h c⟩
   ·exact grade_le hp hx j (t + 1) u (by omega) (by omega) h2
theorem one_first {n:Int} {given:List Int} {vs:List V} (h:oneV n given vs=true):∃ x,firstV n given vs=some x∧x ∈ allSols n given vs:=by
 unfold oneV at h
 rw [decide_eq_true_eq] at h
 unfold firstV
 cases e:allSols n given vs with
 | nil=>rw [e] at h; simp at h
 | cons x L=>exact ⟨x,rfl,by simp⟩
/-! ### Both sides -/
theorem iGrade_l0 {k:Nat} (hk:2000100 ≤ k) {H0:Hp} {n:Int} {gs s:Sl} {given:List Int} {rs:List R} (hz:PuzAt H0 n gs s given rs) (hp:puzzleV n given (rs.map R.val)=true) :
  ∀ (j t fuel:Nat) (H:Hp),t + j=5→1 ≤ t→j < fuel→H0 <+: H→∃ H',impl_GradePuzzle.l0 (callF PP orc k) k fuel (t:Int) n gs s H=some (.int .i64 (gradeFrom n given (rs.map R.val) j t),H')∧H0 <+: H':=by
 have hn:=hz.n4
 obtain ⟨s1,s2⟩:=start_ok hp
 obtain ⟨q1,q2,q3⟩:=dm_of s2
 intro j
 induction j with
 | zero=>
  intro t fuel H ht h1 hf hpf
  obtain ⟨fuel,rfl⟩:=Zs fuel (by omega)
  exact ⟨H,by simp (disch:=omega) only [impl_GradePuzzle.l0,df,Zf,gradeFrom],hpf⟩
 | succ j ih=>
  intro t fuel H ht h1 hf hpf
  obtain ⟨fuel,rfl⟩:=Zs fuel (by omega)
  obtain ⟨u,H1,a1,a2,a3⟩:=implStartMasks_ok (show 2000010 ≤ k by omega) (hz.pf hpf)
  rw [s1] at a3
  have ho:=nil_own a3 (ok_ne s2)
  obtain ⟨v,H2,b1,b2,b3⟩:=implNarrowAll_ok (show 2000070 ≤ k by omega) (hz.pf (hpf.trans a2)) (own_reads ho) ho.nn (by omega) q3 (t:Int)
  rw [allV_lev hp h1 (by omega)] at b3
  have hl:=lev_ok hp (show t ≤ 4 by omega)
  obtain ⟨r1,r2,r3⟩:=dm_of hl
  have hvl:=b3.reads.len
  obtain ⟨w,H3,c1,c2,c3⟩:=implMasksGrid_ok (show 2000010 ≤ k by omega) (n:=n) (by omega) b3.reads (by omega) r3
  obtain ⟨g1,g2⟩:=gridM_ok hl
  have h4:=implGridFilled_ok (show 2000001 ≤ k by omega) c3.reads (by omega) n
  rw [ip g1] at h4
  have p3:=(hpf.trans a2).trans (b2.trans c2)
  rw [gradeFrom]
  by_cases c:doneB n given (rs.map R.val) t=true
  ·rw [if_pos c]
   unfold doneB at c
   rw [decide_eq_true_eq] at c
   refine ⟨H3,?_,p3⟩
   simp (disch:=omega) only [impl_GradePuzzle.l0,dt,Zt,a1,b1,c1,h4,Zo,AV.isTup,AV.nth,AV.toI,AV.toS,Zl,Zm,Zc,Zd,if_true,decide_true,beq_self_eq_true,hvl,bt]
  ·rw [if_neg c]
   unfold doneB at c
   rw [decide_eq_true_eq] at c
   obtain ⟨H',d1,d2⟩:=ih (t + 1) fuel H3 (by omega) (by omega) (by omega) p3
   push_cast at d1
   refine ⟨H',?_,d2⟩
   simp (disch:=omega) only [impl_GradePuzzle.l0,dt,Zt,Zf,a1,b1,c1,h4,Zo,AV.isTup,AV.nth,AV.toI,AV.toS,Zl,Zm,Zc,Zd,if_true,decide_true,beq_self_eq_true,hvl,bf,wr (n:=(t:Int) + 1),d1]
theorem implGradePuzzle_ok {k:Nat} (hk:2000520 ≤ k) {H:Hp} {n:Int} {gs s:Sl} {given:List Int} {rs:List R} (hz:PuzAt H n gs s given rs) (hnil:gs.nil=false) :
  ∃ H',callF PP orc k impl_GradePuzzle.id [.agg [.int .i64 n,.sl 1 gs,.sl 3 s]] H=some (.int .i64 (gradeV n given (rs.map R.val)),H')∧H <+: H':=by
 obtain ⟨k,rfl⟩:=Zs k (by omega)
 rw [impl_GradePuzzle.call]
 have h1:=implPuzzleValid_ok (show 2000003 ≤ k by omega) hz.n4 hz.rg hz.gl hz.rr hz.rl hz.rc
 rw [puzzle_map] at h1
 obtain ⟨H1,a1,a2⟩:=onlyOne_ok (show 2000511 ≤ k by omega) hz hnil
 unfold gradeV
 unfold minimalOk at a1
 cases e1:puzzleV n given (rs.map R.val) with
 | false=>
  rw [e1] at h1
  rw [iN (by simp)]
  exact ⟨H,by simp only [impl_GradePuzzle.f,dt,df,bt,bf,nt,nf,Za,Zy,Zx,Zt,Zf,Zn,Zz,Zi,Zo,wr,AV.toB,AV.toI,AV.toS,if_true,h1],(List.prefix_refl _)⟩
 | true=>
  rw [e1] at h1 a1
  rw [ip rfl]
  rw [Bool.true_and] at a1
  cases e2:oneV n given (rs.map R.val) with
  | false=>
   rw [e2] at a1
   rw [iN (by simp)]
   exact ⟨H1,by simp only [impl_GradePuzzle.f,dt,df,bt,bf,nt,nf,Za,Zy,Zx,Zt,Zf,Zn,Zz,Zi,Zo,wr,AV.toB,AV.toI,AV.toS,if_true,h1,a1],a2⟩
  | true=>
   rw [e2] at a1
   rw [ip rfl]
   obtain ⟨H',b1,b2⟩:=iGrade_l0 (show 2000100 ≤ k by omega) hz e1 4 1 k H1 (by omega) (by omega) (by omega) a2
   refine ⟨H',?_,b2⟩
   simp only [Int.natCast_one] at b1
   simp only [impl_GradePuzzle.f,Zo,AV.toB,Zy,Zf,h1,a1,b1]
theorem easy_run {n:Int} {given:List Int} {vs:List V} (hp:puzzleV n given vs=true) {x:List Int} (hx:x ∈ allSols n given vs) {l:List Int} (hl:masksOk n l=true):InM l x→(∀ i,i < l.length→maskVals ((lastV (runS (narrowV n given vs) 1 l) l).getD i 0)=[x.getD i 0])→∀ p ∈ stepP (runS (narrowV n given vs) 4 l),p.1=1:=by
 have hg:=(solG hp hx).1
 refine runS_ind (narrow_good hp (Nat.le_refl 4)) (C:=fun l r=>InM l x→(∀ i,i < l.length→maskVals ((lastV (runS (narrowV n given vs) 1 l) l).getD i 0)=[x.getD i 0])→∀ p ∈ stepP r,p.1=1) ?_ ?_ (total l + 1) l hl (by omega)
 ·intro l hl e h1 h2 p hp; simp [stepP] at hp
 ·intro l t l' hl hl' hs ht e ih hin hone p hpp
  obtain ⟨h1,h2,h3,h4⟩:=next_some _ _ e
  have hin':InM l' x:=by rw [h2]; exact narrow_keeps hp hl hx hin h1.1 (by omega)
  by_cases ct:t=1
  ·subst ct
   have e1:nextFrom (narrowV n given vs) l 1 1=some (1,l'):=by
    rw [h2]; exact next_at 1 1 1 (by omega) (by omega) (fun w h5 h6=>by omega) (by rw [← h2]; exact h3)
   rw [runS_some (narrow_good hp (show 1 ≤ 4 by omega)) hl e1] at hone
   simp only [stepP,List.map_cons,List.mem_cons] at hpp
   rcases hpp with rfl | hpp
   ·rfl
   ·refine ih hin' (fun i hi=>hone i (by rw [← hs.1]; exact hi)) p hpp
  ·exfalso
   have e1:nextFrom (narrowV n given vs) l 1 1=none:=(next_none 1 1).2 fun u h5 h6=>h4 u h5 (by omega)
   rw [runS_none e1] at hone
   exact h3 (sub_same hl' hl hs hg hin' hone)
theorem bump_easy:∀ (ps:List (Int × Int)) (c:Int),(∀ p ∈ ps,p.1=1)→∃ d,ps.foldl bump [c,0,0,0]=[d,0,0,0]
 | [],c,_=>⟨c,rfl⟩
 | p :: ps,c,h=>by
  have h1:=h p (by simp)
  obtain ⟨d,e⟩:=bump_easy ps (c + 1) fun q hq=>h q (List.mem_cons_of_mem _ hq)
  refine ⟨d,?_⟩
  rw [List.foldl_cons,← e]
  unfold bump
  rw [h1]; rfl
theorem grade_one {n:Int} {given:List Int} {vs:List V} (h:gradeV n given vs=1):∃ d,techV n given vs=[d,0,0,0]:=by
 unfold gradeV at h
 by_cases hp:puzzleV n given vs=true
 ·rw [if_pos hp] at h
  by_cases ho:oneV n given vs=true
  ·rw [if_pos ho] at h
   obtain ⟨x,_,hx⟩:=one_first ho
   have hd:doneB n given vs 1=true:=(grade_le hp hx 4 1 1 (by omega) (by omega) (by omega)).1 (by omega)
   have hgr:=(done_iff hp (by omega) hx).1 hd
   have hok:=(start_ok hp).2
   have hlev:=lev_ok hp (show 1 ≤ 4 by omega)
   have hone:=grid_one hlev (solG hp hx).2 hgr
   have hsub:=(run_end (narrow_good hp (show 1 ≤ 4 by omega)) hok).2.1
   have:=easy_run hp hx hok (open_in hp hx) (fun i hi=>hone i (by unfold levV; rw [hsub.1]; exact hi))
   unfold techV
   rw [if_pos hp]
   unfold stepsL
   rw [if_pos ⟨hp,by omega,by omega⟩]
   exact bump_easy _ 0 this
  ·rw [if_neg ho] at h; omega
 ·rw [if_neg hp] at h; omega
theorem sameInts_l0 (rec:Rec) (k:Nat) {H:Hp} {s t:Sl} {x y:List Int} (hs:Reads .i64 H s x) (ht:Reads .i64 H t y) (hl:x.length=y.length) (h1:x.length ≤ 1000) :
  ∀ (j i fuel:Nat),i + j=x.length→j < fuel→laws_sameInts.l0 rec k fuel s t i H=some (.bool (decide (x.drop i=y.drop i)),H):=by
 have hsl:=hs.len
 have htl:=ht.len
 intro j
 induction j with
 | zero=>
  intro i fuel hi hf
  obtain ⟨fuel,rfl⟩:=Zs fuel (by omega)
  rw [List.drop_eq_nil_of_le (show x.length ≤ i by omega),List.drop_eq_nil_of_le (show y.length ≤ i by omega)]
  simp (disch:=omega) only [laws_sameInts.l0,dt,df,bt,bf,nt,nf,Za,Zy,Zx,Zt,Zf,Zn,Zz,Zi,Zo,wr,AV.toB,AV.toI,AV.toS,if_true]
  rfl
 | succ j ih=>
  intro i fuel hi hf
  obtain ⟨fuel,rfl⟩:=Zs fuel (by omega)
  have hx:i < x.length:=by omega
  have hy:i < y.length:=by omega
  have ex:x.drop i=x.getD i 0 :: x.drop (i + 1):=by
   rw [List.drop_eq_getElem_cons hx,List.getD_eq_getElem?_getD,List.getElem?_eq_getElem hx]; rfl
  have ey:y.drop i=y.getD i 0 :: y.drop (i + 1):=by
   rw [List.drop_eq_getElem_cons hy,List.getD_eq_getElem?_getD,List.getElem?_eq_getElem hy]; rfl
  rw [ex,ey]
  by_cases c:x.getD i 0=y.getD i 0
  ·have d1:=ih (i + 1) fuel (by omega) (by omega)
   push_cast at d1
   rw [show decide (x.getD i 0 :: x.drop (i + 1)=y.getD i 0 :: y.drop (i + 1))=decide (x.drop (i + 1)=y.drop (i + 1)) by rw [c]; simp,← d1]
   simp (disch:=omega) only [laws_sameInts.l0,dt,df,bt,bf,nt,nf,Za,Zy,Zx,Zt,Zf,Zn,Zz,Zi,Zo,wr,AV.toB,AV.toI,AV.toS,if_true,rdn hs,rdn ht,nf]
  ·rw [show decide (x.getD i 0 :: x.drop (i + 1)=y.getD i 0 :: y.drop (i + 1))=false from decide_eq_false fun h=>c (List.cons.inj h).1]
   simp (disch:=omega) only [laws_sameInts.l0,dt,df,bt,bf,nt,nf,Za,Zy,Zx,Zt,Zf,Zn,Zz,Zi,Zo,wr,AV.toB,AV.toI,AV.toS,if_true,rdn hs,rdn ht,nt]
theorem sameInts_ok {k:Nat} (hk:2000000 ≤ k) {H:Hp} {s t:Sl} {x y:List Int} (hs:Reads .i64 H s x) (ht:Reads .i64 H t y) (h1:x.length ≤ 1000) (h2:y.length ≤ 1000) :
  callF PP orc k laws_sameInts.id [.sl 1 s,.sl 1 t] H=some (.bool (decide (x=y)),H):=by
 obtain ⟨k,rfl⟩:=Zs k (by omega)
 rw [laws_sameInts.call]
 have hsl:=hs.len
 have htl:=ht.len
 by_cases c:x.length=y.length
 ·have d1:=sameInts_l0 (callF PP orc k) k hs ht c h1 x.length 0 k (by omega) (by omega)
  simp only [Int.natCast_zero,List.drop_zero] at d1
  rw [← d1]
  simp (disch:=omega) only [laws_sameInts.f,dt,df,bt,bf,nt,nf,Za,Zy,Zx,Zt,Zf,Zn,Zz,Zi,Zo,wr,AV.toB,AV.toI,AV.toS,if_true]
 ·rw [decide_eq_false (fun h=>c (congrArg List.length h))]
  simp (disch:=omega) only [laws_sameInts.f,dt,df,bt,bf,nt,nf,Za,Zy,Zx,Zt,Zf,Zn,Zz,Zi,Zo,wr,AV.toB,AV.toI,AV.toS,if_true]
theorem same_ok {k:Nat} (hk:2000000 ≤ k) {H:Hp} {s t:Sl} {x:List Int} (hs:Reads .i64 H s x) (ht:Reads .i64 H t x) (h1:x.length ≤ 1000) :
  callF PP orc k laws_sameInts.id [.sl 1 s,.sl 1 t] H=some (.bool true,H):=by
 rw [sameInts_ok hk hs ht h1 h1,decide_eq_true rfl]
theorem tech_le {n:Int} {given:List Int} {vs:List V}:(techV n given vs).length ≤ 4:=by
 obtain ⟨q1,q2⟩:=stepsL_rg (n:=n) (given:=given) (vs:=vs)
 unfold techV
 split
 ·exact Nat.le_of_eq (bumps (stepsL n given vs 4) (List.replicate 4 0) 0 q2 rfl four_rg).1
 ·simp
theorem EasySteps_law {k:Nat} (hk:2000800 ≤ k) {H:Hp} {s:Sl} {l:List Int} (hs:Reads .u8 H s l) (hb:∀ x ∈ l,0 ≤ x∧x ≤ 255) :
  ∃ H',callF PP orc k laws_FnEasySteps.id [.sl 1 s] H=some (.bool true,H'):=by
 obtain ⟨k,rfl⟩:=Zs k (by omega)
 rw [laws_FnEasySteps.call]
 by_cases hbig:(s.len:Int) > 1048576
 ·exact ⟨H,by simp only [laws_FnEasySteps.f,dt hbig,Zt]⟩
 ·obtain ⟨n,gs,ss,given,rs,H1,a1,a2,a3⟩:=DrawTechniqueCounts_ok (show 2000501 ≤ k by omega) hs hb
  have hz:=a3.at'
  obtain ⟨x,H2,b1,b2,b3⟩:=implTechniqueCounts_ok (show 2000080 ≤ k by omega) hz
  obtain ⟨y,H3,c1,c2,c3⟩:=specTechniqueCounts_ok (show 2000080 ≤ k by omega) (hz.pf b2)
  have hx3:=pf_reads c2 b3.reads
  have h4:=tech_le (n:=n) (given:=given) (vs:=rs.map R.val)
  have sm:=same_ok (show 2000000 ≤ k by omega) hx3 (own_reads c3) (by omega)
  obtain ⟨H4,d1,d2⟩:=implGradePuzzle_ok (show 2000520 ≤ k by omega) (hz.pf (b2.trans c2)) a3.gn
  have hx4:=pf_reads d2 hx3
  have hxl:=hx4.len
  unfold laws_FnEasySteps.f
  rw [df hbig,cond_false,a1,Option.bind_some]
  simp only [AV.isTup,AV.nth,AV.isAgg,AV.cel,AV.toI,AV.toS,AV.toB,Zl,Zm,Zc,Zd,if_true,decide_true,beq_self_eq_true,Zt,Zf,Zy,Zx,Zo]
  rw [b1,Option.bind_some]
  simp only [AV.isTup,AV.nth,AV.isAgg,AV.cel,AV.toI,AV.toS,AV.toB,Zl,Zm,Zc,Zd,if_true,decide_true,beq_self_eq_true,Zt,Zf,Zy,Zx,Zo]
  rw [c1,Option.bind_some]
  simp only [AV.isTup,AV.nth,AV.isAgg,AV.cel,AV.toI,AV.toS,AV.toB,Zl,Zm,Zc,Zd,if_true,decide_true,beq_self_eq_true,Zt,Zf,Zy,Zx,Zo]
  rw [sm,Option.bind_some]
  simp only [AV.isTup,AV.nth,AV.isAgg,AV.cel,AV.toI,AV.toS,AV.toB,Zl,Zm,Zc,Zd,if_true,decide_true,beq_self_eq_true,Zt,Zf,Zy,Zx,Zo]
  rw [d1,Option.bind_some]
  simp only [AV.isTup,AV.nth,AV.isAgg,AV.cel,AV.toI,AV.toS,AV.toB,Zl,Zm,Zc,Zd,if_true,decide_true,beq_self_eq_true,Zt,Zf,Zy,Zx,Zo]
  by_cases c:gradeV n given (rs.map R.val)=1
  ·obtain ⟨d,e⟩:=grade_one c
   rw [e] at hx4 hxl
   have hx5:(x.len:Int)=4:=by rw [hxl]; rfl
   have r1:=rdn hx4 (i:=1) (by simp)
   have r2:=rdn hx4 (i:=2) (by simp)
   have r3:=rdn hx4 (i:=3) (by simp)
   have i1:(1:Int).toNat=1:=rfl
   have i2:(2:Int).toNat=2:=rfl
   have i3:(3:Int).toNat=3:=rfl
   simp only [Zc,Zd] at r1 r2 r3
   refine ⟨H4,?_⟩
   simp (disch:=omega) only [nf c,Zt,Zf,bt hx5,dt,Za,i1,i2,i3,r1,r2,r3,Zo,bt (show (0:Int)=0 from rfl)]
  ·obtain ⟨H5,f1,f2⟩:=alive_ok (show 2000002 ≤ k by omega) H4
   refine ⟨H5,?_⟩
   rw [nt c,cond_true,f1,Option.bind_some]
   simp only [AV.isTup,AV.nth,AV.isAgg,AV.cel,AV.toI,AV.toS,AV.toB,Zl,Zm,Zc,Zd,if_true,decide_true,beq_self_eq_true,Zt,Zf,Zy,Zx,Zo]
end Go.Proofs.Ytchliocobgkmbaa.Rp
