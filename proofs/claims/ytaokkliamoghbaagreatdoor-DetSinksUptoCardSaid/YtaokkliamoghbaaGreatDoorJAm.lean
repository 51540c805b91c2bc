/- Joined from texts of this seat, in their order. -/
import Derived.Test.YtaokkliamoghbaaGreatDoorJAi
import Derived.Test.YtaokkliamoghbaaGreatDoorJAl
import Derived.Test.YtaokkliamoghbaaGreatDoorJAj
import Derived.Test.YtaokkliamoghbaaGreatDoorJAg
set_option linter.unusedVariables false
set_option linter.unusedSimpArgs false
set_option linter.unusedSectionVars false
set_option maxRecDepth 100000
namespace Go.Proofs.YtaokkliamoghbaaGreatDoor.PVpa
open Go.RowKit Go.Proofs.YtaokkliamoghbaaGreatDoorW.PrintWords Go.Proofs.YtaokkliamoghbaaGreatDoorW.PrintLast Go.Proofs.YtaokkliamoghbaaGreatDoorW.PrintMore
theorem Zll {n k:Nat}(h:k<n):n-((k:Int)+1).toNat<n-(k:Int).toNat:=by omega
theorem Zfo {k:Nat}(h:k<100000):wrap64 ((k:Int)+1)=k+1:=by unfold wrap64;omega
theorem Zfj {w w1 w2:World}{b:Option Nat}(h:w.grownBy w1 b)(k:w1.grownBy w2 b):w.grownBy w2 b:=
 ⟨k.os.trans h.os,k.tape.trans h.tape,k.output.trans h.output,Nat.le_trans h.size k.size,fun j hj hne=>(k.block j (Nat.lt_of_lt_of_le hj h.size) hne).trans (h.block j hj hne)⟩
theorem Zdt {w w1:World}(h:Below w.heap.size w w1)(b:Option Nat):w.grownBy w1 b:=⟨h.os,h.tape,h.output,h.size,fun j hj _=>h.block j hj⟩
theorem Zbd {w w1:World}{g:Nat}{o:Obj}{b:Option Nat}(h:w.heap[g]?=some o)(hg:w.grownBy w1 b)(hne:some g≠b):w1.heap[g]?=some o:=by
 have hlt:g<w.heap.size:=by
  rcases Nat.lt_or_ge g w.heap.size with hlt | hge
  ·exact hlt
  ·rw[Array.getElem?_eq_none hge]at h;cases h
 exact (hg.block g hlt hne).trans h
def Bf (gb:Nat)(h0 h1 v sv fv:Value)(W:World):Prop:=W.heap[gb]?=some (.cells #[h0,h1,v,sv,fv] 118 (0,0))
def rsB (gb:Nat)(h0 h1 v sv fv:Value):Nat→World→World→Prop
 | 7,w,w'=>Below w.heap.size w w'
 | 8,w,w'=>w.grownBy w' sv.ownBlock
 | 14,w,w'=>Below w.heap.size w w'
 | 15,w,w'=>w.grownBy w' fv.ownBlock
 | 18,w,w'=>w.heap.size≤w'.heap.size∧¬Bf gb h0 h1 v sv fv w'
 | _,w,w'=>w'=w
theorem rsB_size (gb:Nat)(h0 h1 v sv fv:Value):∀j w w',rsB gb h0 h1 v sv fv j w w'→w.heap.size≤w'.heap.size:=by
 intro j w w' h;unfold rsB at h
 split at h
 ·exact h.size
 ·exact h.size
 ·exact h.size
 ·exact h.size
 ·exact h.1
 ·rw[h];exact Nat.le_refl _
def preB (w wr:World)(gb:Nat)(h0 h1 v sv fv:Value):Nat→World→Prop
 | 1,_=>True
 | 8,W=>Below wr.heap.size wr W
 | 15,W=>wr.grownBy W sv.ownBlock
 | 18,W=>Bf gb h0 h1 v sv fv W∧Kept wr W (fun k=>sv.ownBlock=some k∨fv.ownBlock=some k)∧Below w.heap.size w W
 | _,W=>Bf gb h0 h1 v sv fv W
def Zlg:Nat→Nat→Bool
 | 18,j=>j==1
 | 17,j=>j==1||j==18
 | 16,j=>j==1||j==17||j==18
 | 15,j=>j==0||j==1||decide (16≤j)
 | 14,j=>!(j==13)
 | 12,j=>!(j==9||j==10||j==11)
 | 11,j=>!(j==9||j==10)
 | 10,j=>!(j==9)
 | 8,j=>!(decide (2≤j)&&decide (j≤7))
 | 7,j=>!(j==6)
 | 5,j=>!(j==2||j==3||j==4)
 | 4,j=>!(j==2||j==3)
 | 3,j=>!(j==2)
 | _,_=>true
section
variable {w wr:World}{gb:Nat}{h0 h1:Value}{φ:Nat→Nat}{b:Bt}{vs vf v u:Value}{l:List Nat}
theorem BU.ne_s (h:BU w wr gb h0 h1 φ b vs vf v u l):some gb≠vs.ownBlock:=by
 obtain⟨_,ho⟩:=Kd.R_own h.bs.steps;exact Zch ho h.bs.mach.blk (by decide)
theorem BU.ne_f (h:BU w wr gb h0 h1 φ b vs vf v u l):some gb≠vf.ownBlock:=by
 obtain⟨_,ho⟩:=Kd.R_own h.bs.frees;exact Zch ho h.bs.mach.blk (by decide)
theorem BU.lt_s (h:BU w wr gb h0 h1 φ b vs vf v u l)(k:Nat)(hk:vs.ownBlock=some k):k<wr.heap.size:=by
 obtain⟨_,ho⟩:=Kd.R_own h.bs.steps;exact Zdb ho k hk
theorem BU.lt_f (h:BU w wr gb h0 h1 φ b vs vf v u l)(k:Nat)(hk:vf.ownBlock=some k):k<wr.heap.size:=by
 obtain⟨_,ho⟩:=Kd.R_own h.bs.frees;exact Zdb ho k hk
theorem BU.ge_s (h:BU w wr gb h0 h1 φ b vs vf v u l)(k:Nat)(hk:vs.ownBlock=some k):w.heap.size≤k:=by
 obtain⟨_,ho⟩:=Kd.R_own h.bs.steps;exact Zdo ho k hk
theorem BU.ge_f (h:BU w wr gb h0 h1 φ b vs vf v u l)(k:Nat)(hk:vf.ownBlock=some k):w.heap.size≤k:=by
 obtain⟨_,ho⟩:=Kd.R_own h.bs.frees;exact Zdo ho k hk
theorem Zft (h:BU w wr gb h0 h1 φ b vs vf v u l){j:Nat}{W:World}(hp:preB w wr gb h0 h1 v vs vf j W)(hj:j≠1):Bf gb h0 h1 v vs vf W:=by
 unfold preB at hp
 split at hp
 ·exact absurd rfl hj
 ·exact Zaf h.bs.mach.blk hp
 ·exact Zbd h.bs.mach.blk hp h.ne_s
 ·exact hp.1
 ·exact hp
theorem Znz (h:BU w wr gb h0 h1 φ b vs vf v u l){F:World→Prop}{j:Nat}{W W':World}(hp:preB w wr gb h0 h1 v vs vf j W)(hr:rsB gb h0 h1 v vs vf j W W')(hF:Bf gb h0 h1 v vs vf W→F W)
 (ha:Below W.heap.size W W'→F W→F W') (h8:j=8→W.grownBy W' vs.ownBlock→F W→F W') (h15:j=15→wr.grownBy W vs.ownBlock→W.grownBy W' vf.ownBlock→F W→F W'):Bf gb h0 h1 v vs vf W'→F W':=by
 unfold rsB at hr
 split at hr
 ·exact fun _=>ha hr (hF (Zft h hp (by decide)))
 ·exact fun _=>h8 rfl hr (hF (Zft h hp (by decide)))
 ·exact fun _=>ha hr (hF (Zft h hp (by decide)))
 ·exact fun _=>h15 rfl hp hr (hF (Zft h hp (by decide)))
 ·exact fun hb=>absurd hb hr.2
 ·rw[hr];exact hF
theorem preB_start (h:BU w wr gb h0 h1 φ b vs vf v u l)(j:Nat):preB w wr gb h0 h1 v vs vf j wr.drew:=by
 unfold preB
 split
 ·trivial
 ·exact Zao (Below.refl _ wr)
 ·exact Zdt (Zao (Below.refl _ wr)) _
 ·exact⟨h.bs.mach.blk,Kept.of_below (Zao (Below.refl _ wr)) _,Zao h.bs.mach.bel⟩
 ·exact h.bs.mach.blk
theorem not_bf {W:World}{Av A7:Option Addr}{n m cv c7:Nat}{x:Value}(h:Bf gb h0 h1 v (.slice Av n cv) x (W.setCell ⟨gb,3,none⟩ (.slice A7 m c7)))(hb:Bf gb h0 h1 v (.slice Av n cv) x W)(hn:n≠m):False:=by
 have e2:=Zcd hb 3 (.slice A7 m c7);unfold Bf at h;rw[e2]at h;simp at h
 first | exact hn h.1.2.1.symm | exact hn h.2.1.symm | omega
theorem Zol (W:World)(a:Addr)(x:Value):(W.setCell a x).heap.size=W.heap.size:=by simp
theorem preB_stab (h:BU w wr gb h0 h1 φ b vs vf v u l):∀i j W W',i≠j→Zlg j i=true→wr.heap.size≤W.heap.size→preB w wr gb h0 h1 v vs vf j W→preB w wr gb h0 h1 v vs vf i W→rsB gb h0 h1 v vs vf j W W'→preB w wr gb h0 h1 v vs vf i W':=by
 intro i j W W' hij ha hs hpj hpi hr;by_cases hw:W'=W
 ·rw[hw];exact hpi
 unfold rsB at hr
 split at hr
 case h_6=>exact absurd hr hw
 case h_5=>
  obtain rfl:i=1:=by simpa[Zlg]using ha
  trivial
 case h_1=>
  unfold preB at hpi ⊢
  split at hpi
  ·trivial
  ·exact Zae hpi hr
  ·exact Zfj hpi (Zdt hr _)
  ·exact⟨Zaf hpi.1 hr,hpi.2.1.below hr,Zae hpi.2.2 hr⟩
  ·exact Zaf hpi hr
 case h_3=>
  unfold preB at hpi ⊢
  split at hpi
  ·trivial
  ·exact Zae hpi hr
  ·exact Zfj hpi (Zdt hr _)
  ·exact⟨Zaf hpi.1 hr,hpi.2.1.below hr,Zae hpi.2.2 hr⟩
  ·exact Zaf hpi hr
 case h_2=>
  unfold preB at hpi ⊢
  split at hpi
  ·trivial
  ·exact absurd rfl hij
  ·exact Zfj hpi hr
  ·exact⟨Zbd hpi.1 hr h.ne_s,Kept.of_grown hr hpi.2.1 (fun k hk=>.inl (.inl hk)),hpi.2.2.grown hr hpi.2.2.size (fun k hk=>h.ge_s k hk)⟩
  ·exact Zbd hpi hr h.ne_s
 case h_4=>
  unfold preB at hpi ⊢
  split at hpi
  ·trivial
  ·simp[Zlg]at ha
  ·exact absurd rfl hij
  ·exact⟨Zbd hpi.1 hr h.ne_f,Kept.of_grown hr hpi.2.1 (fun k hk=>.inl (.inr hk)),hpi.2.2.grown hr hpi.2.2.size (fun k hk=>h.ge_f k hk)⟩
  ·exact Zbd hpi hr h.ne_f
end
def Zbk:Nat→List Nat
 | 3=>[2]
 | 4=>[3]
 | 5=>[4]
 | 7=>[6]
 | 8=>[5,7]
 | 10=>[9]
 | 11=>[10]
 | 12=>[11]
 | 14=>[13]
 | 15=>[12,14,8]
 | 16=>[0]
 | 17=>[16]
 | 18=>[17,8,15]
 | _=>[]
def phiR18 (w wr:World)(gb:Nat)(h0 h1 v2 sv fv ru:Value)(fn:Int)(φ:Nat→Nat)(ns:Nat)(xs:List (List Nat))(fr:List Int):Nat→List Value→World→Prop
 | 0,[v],_=>v=.pointer (some ⟨gb,0,none⟩)
 | 1,[v],_=>v=.pointer (some ⟨gb,0,none⟩)
 | 2,[v],_=>v=.pointer (some ⟨gb,0,none⟩)
 | 3,[v,_],_=>v=.pointer (some ⟨gb,0,none⟩)
 | 4,[v,_],_=>v=.pointer (some ⟨gb,3,none⟩)
 | 5,[v,_],_=>v=sv
 | 6,[v],_=>v=ru
 | 7,[v,_],W=>∃gl,v=.slice (some ⟨gl,0,none⟩) 1 1∧wr.heap.size≤gl∧(Bf gb h0 h1 v2 sv fv W→W.heap[gl]?=some (.cells #[ru] 123 (0,0)))
 | 8,[v,_,_],W=>∃A c,v=.slice A (ns+1) c∧(Bf gb h0 h1 v2 sv fv W→(Kd.slice 120 (Zgl φ)).R 123 W w.heap.size (fun _=>True) v xs)
 | 9,[v],_=>v=.pointer (some ⟨gb,0,none⟩)
 | 10,[v,_],_=>v=.pointer (some ⟨gb,0,none⟩)
 | 11,[v,_],_=>v=.pointer (some ⟨gb,4,none⟩)
 | 12,[v,_],_=>v=fv
 | 13,[v],_=>v=.int .i64 fn
 | 14,[v,_],W=>∃gl,v=.slice (some ⟨gl,0,none⟩) 1 1∧wr.heap.size≤gl∧(Bf gb h0 h1 v2 sv fv W→W.heap[gl]?=some (.cells #[.int .i64 fn] 3 (0,0)))
 | 15,[v,_,_,_],W=>(Bf gb h0 h1 v2 sv fv W→(Kd.int .i64).R 3 W w.heap.size (fun _=>True) v fr)∧(v.ownBlock=fv.ownBlock∨∃k,v.ownBlock=some k∧wr.heap.size≤k)
 | 16,[v,_],_=>v=.pointer (some ⟨gb,0,none⟩)
 | 17,[v,_],_=>v=.pointer (some ⟨gb,3,none⟩)
 | 18,[_,_,x8,x15],W=>∃W9,W=W9.setCell ⟨gb,3,none⟩ x8∧B18 w wr W9 gb h0 h1 sv fv v2 x8 φ xs∧(Kd.int .i64).R 3 W9 w.heap.size (fun _=>True) x15 fr∧Below w.heap.size w W9∧(x15.ownBlock=fv.ownBlock∨∃k,x15.ownBlock=some k∧wr.heap.size≤k)
 | _,_,_=>True
theorem Zqr {w wr:World}{gb:Nat}{h0 h1:Value}{φ:Nat→Nat}{b:Bt}{sv fv v2 ru:Value}{l:List Nat}(fn:Int)(ns:Nat)(xs:List (List Nat))(fr:List Int)(h:BU w wr gb h0 h1 φ b sv fv v2 ru l):∀i j vs W W',i≠j→Zlg i j=true→wr.heap.size≤W.heap.size→preB w wr gb h0 h1 v2 sv fv j W→phiR18 w wr gb h0 h1 v2 sv fv ru fn φ ns xs fr i vs W→rsB gb h0 h1 v2 sv fv j W W'→phiR18 w wr gb h0 h1 v2 sv fv ru fn φ ns xs fr i vs W':=by
 intro i j vs W W' hij ha hs hp hf hr;unfold phiR18 at hf ⊢
 split at hf
 case h_8=>
  obtain⟨gl,p1,p2,p3⟩:=hf;exact⟨gl,p1,p2,Znz h (F:=fun W=>W.heap[gl]?=some (.cells #[ru] 123 (0,0))) hp hr p3 (fun hb hk=>Zaf hk hb) (fun _ hg hk=>Zbd hk hg (fun e=>by have:=h.lt_s _ e.symm;omega)) (fun _ _ hg hk=>Zbd hk hg (fun e=>by have:=h.lt_f _ e.symm;omega))⟩
 case h_9=>
  obtain⟨A,c,p1,p3⟩:=hf;exact⟨A,c,p1,Znz h (F:=fun W=>(Kd.slice 120 (Zgl φ)).R 123 W w.heap.size (fun _=>True) _ xs) hp hr p3 (fun hb hk=>Kd.R_below hk hb) (fun e=>absurd e.symm hij) (fun _ hq hg hk=>((h.a18 Zbr hq).b18 hk Zbr hg (fun k hk=>h.lt_f k hk)).steps)⟩
 case h_15=>
  obtain⟨gl,p1,p2,p3⟩:=hf;exact⟨gl,p1,p2,Znz h (F:=fun W=>W.heap[gl]?=some (.cells #[.int .i64 fn] 3 (0,0))) hp hr p3 (fun hb hk=>Zaf hk hb) (fun _ hg hk=>Zbd hk hg (fun e=>by have:=h.lt_s _ e.symm;omega)) (fun _ _ hg hk=>Zbd hk hg (fun e=>by have:=h.lt_f _ e.symm;omega))⟩
 case h_16=>
  obtain⟨p1,p2⟩:=hf;exact⟨Znz h (F:=fun W=>(Kd.int .i64).R 3 W w.heap.size (fun _=>True) _ fr) hp hr p1 (fun hb hk=>Kd.R_below hk hb) (fun e=>by subst e;simp[Zlg]at ha) (fun e=>absurd e.symm hij),p2⟩
 case h_19=>
  obtain rfl:j=1:=by simpa[Zlg]using ha
  have hr2:W'=W:=hr;rw[hr2];exact hf
 all_goals exact hf
set_option maxHeartbeats 4000000 in
theorem build_call (w:World)(At Ar:Option Addr)(ct cr:Nat)(G:S26)(D:Nat)(hr:k52.C w Ar G.f1.length G.f1)(hok:RulesOk D G)(hl:G.f1.length≤1000)(j:Int)
 (hchk:∀W,Below w.heap.size w W→Calls Tryz.prog 58 #[.agg #[.slice At G.f0.length ct,.slice Ar G.f1.length cr]] W fun e w'=>e=.returned (.tuple #[.int .i64 0,.int .i64 j])∧Below W.heap.size W w') :
 Calls Tryz.prog 40 #[.agg #[.slice At G.f0.length ct,.slice Ar G.f1.length cr]] w fun e w'=>∃gb φ vs vf v,e=.returned (.tuple #[.pointer (some ⟨gb,0,none⟩),.int .i64 0])∧BS w w' gb (.slice At G.f0.length ct) (.slice Ar G.f1.length cr) φ (Zbl D G G.f1.length) vs vf v:=by
 have HR:=Zrw.mk hr;have HOK:=Zrw.mk hok;have HC:=Zrw.mk hchk;clear hr hok hchk
 go_enter Tryz.func40,Tryz.ntmps40
 go_upto_region 5 with (go_at_call 58;(with_reducible refine (HC.out _ (Zab Zbr _)).mono ?_);rintro e w1 ⟨rfl,hb1⟩;have HB1:=Zrw.mk (Zae (Zab (Below.refl _ w) (.cells #[.slice At G.f0.length ct,.slice Ar G.f1.length cr] 26)) hb1);have k1:=Zaf (Zaj w (.cells #[.slice At G.f0.length ct,.slice Ar G.f1.length cr] 26)) hb1;have q0:=(Zaa k1 0).trans rfl;have q1:=(Zaa k1 1).trans rfl;have HK1:=Zrw.mk k1;clear k1 hb1)
 have hbX:=Zaj w1 (.cells #[.slice At G.f0.length ct,.slice Ar G.f1.length cr,.slice none 0 0,.slice none 0 0,.slice none 0 0] 118);have HBX:=Zrw.mk (Zae HB1.out (Zab (Below.refl _ w1) (.cells #[.slice At G.f0.length ct,.slice Ar G.f1.length cr,.slice none 0 0,.slice none 0 0,.slice none 0 0] 118)));have HK2:=Zrw.mk (Zai HK1.out (.cells #[.slice At G.f0.length ct,.slice Ar G.f1.length cr,.slice none 0 0,.slice none 0 0,.slice none 0 0] 118));have HVX:=Zrw.mk (VS.start w _ w1.heap.size _ _ (fun _=>0) hbX HB1.out.size HBX.out);clear hbX q0 q1;generalize w1.alloc (.cells #[.slice At G.f0.length ct,.slice Ar G.f1.length cr,.slice none 0 0,.slice none 0 0,.slice none 0 0] 118)=X at *;generalize w1.heap.size=gb at *;have HPW:Zrw (PlV (fun _=>0) (W0.off w (.slice none 0 0)) X Zix (.agg #[.int .i64 0,.pointer none,.int .i64 0,.slice none 0 0,.slice none 0 0,.slice none 0 0,.pointer none,.slice none 0 0,.int .i64 0])):=
  ⟨⟨_,rfl,none,0,none,0,none,0,.slice none 0 0,rfl,Nat.zero_le _,Kd.C_nil _ _,Nat.zero_le _,Kd.C_nil _ _,Nat.zero_le _,Kd.C_nil _ _,Kd.R_nil _ _ _ _ _⟩⟩
 go_upto_region 6 with (go_at_call 59;(with_reducible refine (Zgq (W0.off w (.slice none 0 0)) X gb _ _ _ _ (fun _=>0) (.slice none 0 0) [] [] HVX.out Zix _ HPW.out (by simp)).mono ?_);rintro e w2 ⟨rfl,v2,hv2,hk2,hn2⟩;have hk26:=HVX.out.keep hk2 HK2.out (by decide) (by decide);have q1:=(Zaa hk26 1).trans rfl;have HB2:Zrw (BS w w2 gb (.slice At G.f0.length ct) (.slice Ar G.f1.length cr) (fun _=>0) (Zbl D G 0) (.slice none 0 0) (.slice none 0 0) v2):=⟨⟨hv2,Kd.R_nil _ _ _ _ _,Kd.R_nil _ _ _ _ _,(Zeg D G 0).1,fun _ _ _ _ h=>by cases h⟩⟩;clear hv2 hk2 hn2 hk26)
 go_wp2
 clear q1
 go_loopw [30] (fun i wr=>∃(k:Nat) (φ:Nat→Nat) (vs vf v:Value),k≤G.f1.length∧i=.int .i64 k∧Zrw (BS w wr gb (.slice At G.f0.length ct) (.slice Ar G.f1.length cr) φ (Zbl D G k) vs vf v)) (fun i _=>G.f1.length-(intOf i).toNat)
 case atStart=>exact⟨0,_,_,_,_,Nat.zero_le _,rfl,⟨HB2.out⟩⟩
 case round=>
  obtain⟨k,φ,vs,vf,v,hk,rfl,HB⟩:=hrel;by_cases hkn:k<G.f1.length
  ·have HGB:=Zrw.mk (Zeg D G k);obtain⟨ad,S2,sc,rfl,m0,m1,m2,ls2,hs2⟩:=at_T52 HR.out (k:Int) (by omega) (by omega);have m0:=Zad HB.out.mach.bel m0;have m1:=Zad HB.out.mach.bel m1;have m2:=Zad HB.out.mach.bel m2;rw[Int.toNat_natCast]at m0 m1 m2;change wr.cell? ⟨_,_,none⟩=some (.slice S2 (Zcq G k).f2.length sc)at m2;change wr.cell? (ad.add (k*3))=some (.int .i64 (Zcq G k).f0)at m0;change wr.cell? ⟨_,_,none⟩=some (.bool (Zcq G k).f1)at m1;change (Zcq G k).f2.length≤sc at ls2;change k79.C w S2 (Zcq G k).f2.length (Zcq G k).f2 at hs2;have HS2:=Zrw.mk hs2;obtain⟨r,hr⟩:∃r,r=Zcq G k:=⟨_,rfl⟩
   have HRK:=Zrw.mk hr;have HBK:Zrw (Zbl D G (k+1)=Zqn D k r (Zbl D G k)):=⟨by rw[hr];rfl⟩
   have hfew:=HOK.out.fewer hkn;have hlen0:=HGB.out.2;have hlen1:(Zbl D G k).st.pl.length≤100000:=by omega
   clear hlen0;have HPO:=Zrw.mk (fun n (hn:n<(Zcq G k).f2.length)=>HOK.out.pats k n hkn hn);obtain⟨bt,hbt⟩:∃bt,bt=Zbl D G k:=⟨_,rfl⟩
   rw[←hr]at m0 m1 m2 ls2 HS2 hfew HPO;rw[←hbt]at HB HBK HGB hlen1;have HN12:Zrw (bt.steps.length≤1000∧bt.frees.length≤1000):=⟨by rw[hbt,(Zpx D G k).n1,(Zpx D G k).n2];exact⟨by omega,by omega⟩⟩
   have HG9:Zrw (GoodB (Zqn D k r bt)):=⟨by have h9:=(Zeg D G (k+1)).1;rw[HBK.out]at h9;exact h9⟩
   clear hs2 hr hbt;have HB8:=Zrw.mk (fun o=>HB.out.below (Zab (Below.refl _ wr) o));have HN8:=Zrw.mk (fun o=>Zaj wr o);have HP8:Zrw (∀W',PlV φ (W0.off w vf) W' (Zgt k) (.agg #[.int .i64 1,.pointer none,.int .i64 0,.slice none 0 0,.slice none 0 0,.slice none 0 0,.pointer none,.slice none 0 0,.int .i64 k])):=
    ⟨fun W'=>⟨_,rfl,none,0,none,0,none,0,.slice none 0 0,rfl,Nat.zero_le _,Kd.C_nil _ _,Nat.zero_le _,Kd.C_nil _ _,Nat.zero_le _,Kd.C_nil _ _,Kd.R_nil _ _ _ _ _⟩⟩
   cases hfr:r.f1
   case' false=>
    rw[hfr]at m1
    go_upto_region 13 with (fail)
    have HBY:=Zrw.mk (HB8.out (.cells #[.int .i64 r.f0,.bool false,.slice S2 r.f2.length sc] 70));have HNY:=Zrw.mk (HN8.out (.cells #[.int .i64 r.f0,.bool false,.slice S2 r.f2.length sc] 70));obtain⟨fn,hfn⟩:∃fn:Int,fn=-1:=⟨_,rfl⟩
    have HFI:=Zrw.mk hfn;have HFN:Zrw (Zls r bt.st=fn):=⟨by rw[hfn];unfold Zls;rw[if_neg (by simp[hfr])]⟩
    clear hfn;have HF1:Zrw (Zdg k r bt.st=bt.st):=⟨by unfold Zdg;rw[if_neg (by simp[hfr])]⟩
    have HBZ:Zrw (BS w _ gb _ _ φ ⟨Zdg k r bt.st,bt.steps,bt.frees⟩ vs vf v):=⟨by rw[HF1.out];exact HBY.out⟩
    have b82:=(Zaa HNY.out 2).trans rfl;clear HBY HB8 HN8 HP8 m0 m1 m2;generalize wr.alloc (.cells #[.int .i64 r.f0,.bool false,.slice S2 r.f2.length sc] 70)=Y at *;generalize wr.heap.size=b8 at *;obtain⟨v1,hv1⟩:∃v1,v1=v:=⟨_,rfl⟩
    rw[←hv1]at HBZ;clear hv1
   case' true=>
    rw[hfr]at m1
    go_upto_region 13 with (go_at_call 59;(with_reducible refine (Zgq (W0.off w vf) _ gb _ _ vs vf φ v bt.st.pl bt.st.sh (HB8.out (.cells #[.int .i64 r.f0,.bool true,.slice S2 r.f2.length sc] 70)).mach (Zgt k) _ (HP8.out _) (by omega)).mono ?_);rintro e w4 ⟨rfl,v1,hv4,hk4,hn4⟩;have HBY:=Zrw.mk ((HB8.out (.cells #[.int .i64 r.f0,.bool true,.slice S2 r.f2.length sc] 70)).add hv4 hk4 (HGB.out.1.st.add _ rfl (fun k hk=>by cases hk) (fun k hk=>by cases hk)));have HNY:=Zrw.mk ((HB8.out (.cells #[.int .i64 r.f0,.bool true,.slice S2 r.f2.length sc] 70)).mach.keep hk4 (HN8.out (.cells #[.int .i64 r.f0,.bool true,.slice S2 r.f2.length sc] 70)) (by decide) (by decide));clear hv4 hk4 hn4)
    obtain⟨fn,hfn⟩:∃fn:Int,fn=bt.st.pl.length:=⟨_,rfl⟩
    have HFI:=Zrw.mk hfn;have HFN:Zrw (Zls r bt.st=fn):=⟨by rw[hfn];unfold Zls;rw[if_pos hfr]⟩
    clear hfn;have HF1:Zrw (Zdg k r bt.st=bt.st.add (Zgt k)):=⟨by unfold Zdg;rw[if_pos hfr]⟩
    have HBZ:Zrw (BS w w4 gb _ _ φ ⟨Zdg k r bt.st,bt.steps,bt.frees⟩ vs vf v1):=⟨by rw[HF1.out];exact HBY.out⟩
    have b82:=(Zaa HNY.out 2).trans rfl;clear HBY HB8 HN8 HP8 m0 m1 m2;generalize w4=Y at *;generalize wr.heap.size=b8 at *
   all_goals (
    have HG1:=Zrw.mk (Zmk k r bt.st HGB.out.1.st);obtain⟨s1,hs1⟩:∃s1,s1=Zdg k r bt.st:=⟨_,rfl⟩
    have HS1:=Zrw.mk hs1;rw[←hs1]at HBZ HG1;clear hs1;have hrl:r.f2.length≤100000:=by have:=stepsN_ge D r r.f2.length;omega
    have hs1l:s1.pl.length+stepsN D r r.f2.length≤100000:=by have:=HG1.out.2;have:=HGB.out.2;omega
    go_wp2
    go_loopw [10,44] (fun u q wr=>∃(n:Nat) (φ2:Nat→Nat) (v2:Value),n≤r.f2.length∧q=.int .i64 n∧Zrw (BU w wr gb (.slice At G.f0.length ct) (.slice (some ad) G.f1.length cr) φ2 ⟨(Zay D k r s1 n).1,bt.steps,bt.frees⟩ vs vf v2 u (Zay D k r s1 n).2)) (fun _ q _=>r.f2.length-(intOf q).toNat)
    case atStart=>exact⟨0,φ,v1,Nat.zero_le _,rfl,⟨BU.start HBZ.out⟩⟩
    case round=>
     obtain⟨n,φ2,v2,hn,rfl,HBQ⟩:=hrel;by_cases hnn:n<r.f2.length
     ·obtain⟨td,T0,t0,T2,t2,T3,t3,T4,t4,rfl,z0,z1,z2,z3,z4,_,_,hl2,hf2,hl3,hf3,hl4,hf4⟩:=at_T79 HS2.out (n:Int) (by omega) (by omega);rw[Int.toNat_natCast]at z0 z1 z2 z3 z4;have z0:=Zad HBQ.out.bs.mach.bel z0;have z1:=Zad HBQ.out.bs.mach.bel z1;have z2:=Zad HBQ.out.bs.mach.bel z2;have z3:=Zad HBQ.out.bs.mach.bel z3;have z4:=Zad HBQ.out.bs.mach.bel z4;have HPV:Zrw (PatV (W0.off w vf) (Zgs r n).f1 (.agg #[.int .i64 (Zct r.f2 n).f1.f0,.slice T2 (Zct r.f2 n).f1.f1.length t2,.slice T3 (Zct r.f2 n).f1.f2.length t3,.slice T4 (Zct r.f2 n).f1.f3.length t4])):=⟨⟨T2,t2,T3,t3,T4,t4,rfl,hl2,hf2,hl3,hf3,hl4,hf4⟩⟩
      have HGQ:=Zrw.mk (Zka D k r s1 HG1.out.1 n);have hq1:=Zqj D r (show n+1≤r.f2.length by omega);have hq2:(Zay D k r s1 n).1.pl.length+1+Zcy D (Zgs r n).f1≤100000:=by
       have:=HGQ.out.2.1;have e9:stepsN D r (n+1)=stepsN D r n+(1+Zcy D (Zgs r n).f1):=rfl;omega
      have hql:(Zay D k r s1 n).2.length≤100000:=by rw[Zmy];omega
      have HSN:Zrw (Zay D k r s1 (n+1)=(Zhp (Zax D) (Zgs r n).f1 k n (Zay D k r s1 n).1,(Zay D k r s1 n).2++[(Zay D k r s1 n).1.pl.length])):=⟨rfl⟩
      have HPO2:=Zrw.mk (HPO.out n hnn);have HQL:=Zrw.mk hql;have HQ2:=Zrw.mk hq2;clear hl2 hf2 hl3 hf3 hl4 hf4 hq1 hq2 hql;obtain⟨sq,hsq⟩:∃sq,sq=(Zay D k r s1 n).1:=⟨_,rfl⟩
      obtain⟨lq,hlq⟩:∃lq,lq=(Zay D k r s1 n).2:=⟨_,rfl⟩
      rw[←hsq]at HBQ HGQ HSN HQ2;rw[←hlq]at HBQ HGQ HSN HQL;clear hsq hlq;generalize Zgs r n=pq at *;have HBB:=Zrw.mk (fun o=>HBQ.out.below (Zab (Below.refl _ wr) o));obtain⟨Au,cu,rfl⟩:=Kd.R_slice HBQ.out.row;have HPC:=Zrw.mk (fun o=>patternC D (W0.off w vf) (wr.alloc o) gb _ _ vs vf φ2 v2 sq pq.f1 _ k n (HBB.out o).bs.mach HGQ.out.1 HPO2.out HQ2.out HPV.out)
      go_wp2_with (first
       | (go_at_call 60;(with_reducible refine (HPC.out _).mono ?_);intro e w5 he;obtain⟨φ3,v3,rfl,hb5⟩:=(HBB.out _).pat HGQ.out.2.2 he;have HB5:=Zrw.mk hb5;have HBA:=Zrw.mk (fun o=>hb5.below (Zab (Below.refl _ w5) o));clear he hb5)
       | ((with_reducible refine Zal (b:=.append) (xs:=#[.tmp 49,.tmp 56]) rfl ?_);at_builtin;refine Kd.R_append_row (fun b=>Value.pointer (some ⟨φ3 b,0,none⟩)) 0 (h1:=fun _=>rfl) (w0:=w) w.heap.size rfl (.tmp 49) (.tmp 56) 123 120 (.pointer none) 8 rfl Tryz.underlying123 info88 rfl (by omega) _ lq [sq.pl.length] _ _ _ (fun _=>True) rfl rfl (fun _ _=>trivial) ?aO ?aR ?aB ?aS ?aL ?_;(case aR=>exact one_P (by simp) _);(case aO=>exact Kd.R_alloc HB5.out.row _);(case aB=>exact Zab HB5.out.bs.mach.bel _);(case aS=>exact Zcs (Zab HB5.out.bs.mach.bel _));(case aL=>have:=HQL.out;omega);intro v6 w6 ho6 hb6 hg6 hat6;have HB6:=Zrw.mk ((HBA.out _).push ho6 hb6 hg6 hat6);clear ho6 hb6 hg6 hat6))
      go_roundw
      case rel=>exact⟨n+1,φ3,v3,by omega,by go_num,⟨by rw[HSN.out];exact HB6.out⟩⟩
      case measure=>simp[intOf];omega
     ·obtain rfl:n=r.f2.length:=by omega
      obtain⟨Av,cv,rfl⟩:=Kd.R_slice HBQ.out.bs.steps;obtain⟨Af,cf,rfl⟩:=Kd.R_slice HBQ.out.bs.frees;obtain⟨Au,cu,rfl⟩:=Kd.R_slice HBQ.out.row;have hw:wrap64 ((k:Int)+1)=k+1:=Zfo (by omega);clear hfew hrl hs1l hlen1 hn hnn
      go_upto_region 18 with (fail)
      refine Zjk 19 _ Zbk (phiR18 w wr gb (.slice At G.f0.length ct) (.slice (some ad) G.f1.length cr) v2 (Value.slice Av bt.steps.length cv) (Value.slice Af bt.frees.length cf) (Value.slice Au (Zay D k r s1 r.f2.length).2.length cu) fn φ2 bt.steps.length (bt.steps++[(Zay D k r s1 r.f2.length).2]) (bt.frees++[fn])) Zlg (preB w wr gb (.slice At G.f0.length ct) (.slice (some ad) G.f1.length cr) v2 (Value.slice Av bt.steps.length cv) (Value.slice Af bt.frees.length cf)) (rsB gb (.slice At G.f0.length ct) (.slice (some ad) G.f1.length cr) v2 (Value.slice Av bt.steps.length cv) (Value.slice Af bt.frees.length cf)) (fun w w1=>w.heap.size≤w1.heap.size) (by kernel_rfl) (by kernel_rfl) (by kernel_rfl) rfl (fun _=>Nat.le_refl _) (fun _ _ _ h h2=>Nat.le_trans h h2) (rsB_size gb _ _ _ _ _) (by kernel_rfl) (Zqr _ _ _ _ HBQ.out) (preB_stab HBQ.out) (fun j hj=>?pre) ?step ?fin
      case pre=>exact preB_start HBQ.out j
      case step=>
       repeat (rename_i z;clear z)
       refine⟨?_,?_,?_,?_,?_,?_,?_,?_,?_,?_,?_,?_,?_,?_,?_,?_,?_,?_,?_,trivial⟩ <;> intro vals W hR0 hp hd
       ·have hR:wr.heap.size≤W.heap.size:=hR0;refine Zac (W':=W) (v:=.pointer (some ⟨gb,0,none⟩)) ?_ ⟨rfl,rfl⟩
        clear hd;simp only[Zan,Zbk,Zah];go_simp
       ·have hR:wr.heap.size≤W.heap.size:=hR0;refine Zac (W':=W) (v:=.pointer (some ⟨gb,0,none⟩)) ?_ ⟨rfl,rfl⟩
        clear hd;simp only[Zan,Zbk,Zah];go_simp
       ·have hR:wr.heap.size≤W.heap.size:=hR0;refine Zac (W':=W) (v:=.pointer (some ⟨gb,0,none⟩)) ?_ ⟨rfl,rfl⟩
        clear hd;simp only[Zan,Zbk,Zah];go_simp
       ·have hR:wr.heap.size≤W.heap.size:=hR0;have h2:vals 2=.pointer (some ⟨gb,0,none⟩):=hd 2 (by simp[Zbk]);refine Zac (W':=W) (v:=.pointer (some ⟨gb,0,none⟩)) ?_ ⟨rfl,rfl⟩
        clear hd;simp only[Zan,Zbk,Zah,h2];go_simp
       ·have hR:wr.heap.size≤W.heap.size:=hR0;have h3:vals 3=.pointer (some ⟨gb,0,none⟩):=hd 3 (by simp[Zbk]);refine Zac (W':=W) (v:=.pointer (some ⟨gb,3,none⟩)) ?_ ⟨rfl,rfl⟩
        clear hd;simp only[Zan,Zbk,Zah,h3];go_simp
       ·have hR:wr.heap.size≤W.heap.size:=hR0;have h4:vals 4=.pointer (some ⟨gb,3,none⟩):=hd 4 (by simp[Zbk]);have hbk:W.heap[gb]?=_:=Zft HBQ.out hp (by decide);have g3:=(Zaa hbk 3).trans rfl;have g4:=(Zaa hbk 4).trans rfl;refine Zac (W':=W) (v:=(Value.slice Av bt.steps.length cv)) ?_ ⟨rfl,rfl⟩
        clear hd;simp only[Zan,Zbk,Zah,h4];go_simp
       ·have hR:wr.heap.size≤W.heap.size:=hR0;refine Zac (W':=W) (v:=(Value.slice Au (Zay D k r s1 r.f2.length).2.length cu)) ?_ ⟨rfl,rfl⟩
        clear hd;simp only[Zan,Zbk,Zah];go_simp
       ·have hR:wr.heap.size≤W.heap.size:=hR0;have h6:vals 6=(Value.slice Au (Zay D k r s1 r.f2.length).2.length cu):=hd 6 (by simp[Zbk]);clear hd;refine Zac (W':=W.alloc (.cells #[(Value.slice Au (Zay D k r s1 r.f2.length).2.length cu)] 123)) (v:=.slice (some ⟨W.heap.size,0,none⟩) 1 1) ?_ ⟨Zab Zbr _,W.heap.size,rfl,hR,fun _=>Zaj W _⟩
        simp only[Zan,Zbk,Zah,h6];go_simp
       ·have hR:wr.heap.size≤W.heap.size:=hR0;have h5:vals 5=(Value.slice Av bt.steps.length cv):=hd 5 (by simp[Zbk]);have h7:∃gl,(vals 7)=.slice (some ⟨gl,0,none⟩) 1 1∧wr.heap.size≤gl∧(Bf gb (.slice At G.f0.length ct) (.slice (some ad) G.f1.length cr) v2 (Value.slice Av bt.steps.length cv) (Value.slice Af bt.frees.length cf) W→W.heap[gl]?=some (.cells #[(Value.slice Au (Zay D k r s1 r.f2.length).2.length cu)] 123 (0,0))):=hd 7 (by simp[Zbk]);obtain⟨gl,e7,hg7,hk7⟩:=h7;have hp2:Below wr.heap.size wr W:=hp;have hk7:=hk7 (Zft HBQ.out hp (by decide));clear hd;simp only[Zan,Zbk,Zah,h5,e7];refine Zpo (ops:=#[]) rfl (fun K hK=>?_);refine stepsA (w:=w) (φ:=φ2) rfl (.tmp 64) (.tmp 66) rfl (Value.slice Av bt.steps.length cv) (Value.slice Au (Zay D k r s1 r.f2.length).2.length cu) bt.steps (Zay D k r s1 r.f2.length).2 gl rfl rfl hk7 (Kd.R_below HBQ.out.bs.steps hp2) (Kd.R_below HBQ.out.row hp2) (Zae HBQ.out.bs.mach.bel hp2) (by have:=HN12.out;omega) (fun v1 w1 hr _ hg _=>hK _ _ ⟨hg,?_⟩);obtain⟨A7,c7,hv7⟩:=Kd.R_slice hr;rw[List.length_append,List.length_singleton]at hv7;exact⟨A7,c7,hv7,fun _=>hr⟩
       ·have hR:wr.heap.size≤W.heap.size:=hR0;refine Zac (W':=W) (v:=.pointer (some ⟨gb,0,none⟩)) ?_ ⟨rfl,rfl⟩
        clear hd;simp only[Zan,Zbk,Zah];go_simp
       ·have hR:wr.heap.size≤W.heap.size:=hR0;have h9:vals 9=.pointer (some ⟨gb,0,none⟩):=hd 9 (by simp[Zbk]);refine Zac (W':=W) (v:=.pointer (some ⟨gb,0,none⟩)) ?_ ⟨rfl,rfl⟩
        clear hd;simp only[Zan,Zbk,Zah,h9];go_simp
       ·have hR:wr.heap.size≤W.heap.size:=hR0;have h10:vals 10=.pointer (some ⟨gb,0,none⟩):=hd 10 (by simp[Zbk]);refine Zac (W':=W) (v:=.pointer (some ⟨gb,4,none⟩)) ?_ ⟨rfl,rfl⟩
        clear hd;simp only[Zan,Zbk,Zah,h10];go_simp
       ·have hR:wr.heap.size≤W.heap.size:=hR0;have h11:vals 11=.pointer (some ⟨gb,4,none⟩):=hd 11 (by simp[Zbk]);have hbk:W.heap[gb]?=_:=Zft HBQ.out hp (by decide);have g3:=(Zaa hbk 3).trans rfl;have g4:=(Zaa hbk 4).trans rfl;refine Zac (W':=W) (v:=(Value.slice Af bt.frees.length cf)) ?_ ⟨rfl,rfl⟩
        clear hd;simp only[Zan,Zbk,Zah,h11];go_simp
       ·have hR:wr.heap.size≤W.heap.size:=hR0;have hfn2:=HFI.out;refine Zac (W':=W) (v:=.int .i64 fn) ?_ ⟨rfl,rfl⟩
        clear hd;simp only[Zan,Zbk,Zah];go_simp
       ·have hR:wr.heap.size≤W.heap.size:=hR0;have h13:vals 13=.int .i64 fn:=hd 13 (by simp[Zbk]);clear hd;refine Zac (W':=W.alloc (.cells #[.int .i64 fn] 3)) (v:=.slice (some ⟨W.heap.size,0,none⟩) 1 1) ?_ ⟨Zab Zbr _,W.heap.size,rfl,hR,fun _=>Zaj W _⟩
        simp only[Zan,Zbk,Zah,h13];go_simp
       ·have hR:wr.heap.size≤W.heap.size:=hR0;have h12:vals 12=(Value.slice Af bt.frees.length cf):=hd 12 (by simp[Zbk]);have h14:∃gl,(vals 14)=.slice (some ⟨gl,0,none⟩) 1 1∧wr.heap.size≤gl∧(Bf gb (.slice At G.f0.length ct) (.slice (some ad) G.f1.length cr) v2 (Value.slice Av bt.steps.length cv) (Value.slice Af bt.frees.length cf) W→W.heap[gl]?=some (.cells #[.int .i64 fn] 3 (0,0))):=hd 14 (by simp[Zbk]);have h8:∃A c,(vals 8)=.slice A (bt.steps.length+1) c∧(Bf gb (.slice At G.f0.length ct) (.slice (some ad) G.f1.length cr) v2 (Value.slice Av bt.steps.length cv) (Value.slice Af bt.frees.length cf) W→(Kd.slice 120 (Zgl φ2)).R 123 W w.heap.size (fun _=>True) (vals 8) (bt.steps++[(Zay D k r s1 r.f2.length).2])):=hd 8 (by simp[Zbk]);obtain⟨gl,e14,hg14,hk14⟩:=h14;have hp2:wr.grownBy W (Value.slice Av bt.steps.length cv).ownBlock:=hp;have hk14:=hk14 (Zft HBQ.out hp (by decide));have HA7:=HBQ.out.a18 Zbr hp2;clear hd;simp only[Zan,Zbk,Zah,h12,e14];refine Zpo (ops:=#[]) rfl (fun K hK=>?_);exact freesA (w:=w) rfl (.tmp 71) (.tmp 73) rfl (Value.slice Af bt.frees.length cf) bt.frees fn gl rfl rfl hk14 HA7.frees (HBQ.out.bs.mach.bel.grown hp2 HBQ.out.bs.mach.bel.size (fun k hk=>HBQ.out.ge_s k hk)) (by have:=HN12.out;omega) (fun v1 w1 hr _ hg hat=>hK _ _ ⟨hg,fun _=>hr,hat.elim (fun h=>.inl h) (fun⟨b,h1,h2⟩=>.inr ⟨b,h1,Nat.le_trans hp2.size h2⟩)⟩)
       ·have hR:wr.heap.size≤W.heap.size:=hR0;have h0:vals 0=.pointer (some ⟨gb,0,none⟩):=hd 0 (by simp[Zbk]);refine Zac (W':=W) (v:=.pointer (some ⟨gb,0,none⟩)) ?_ ⟨rfl,rfl⟩
        clear hd;simp only[Zan,Zbk,Zah,h0];go_simp
       ·have hR:wr.heap.size≤W.heap.size:=hR0;have h16:vals 16=.pointer (some ⟨gb,0,none⟩):=hd 16 (by simp[Zbk]);refine Zac (W':=W) (v:=.pointer (some ⟨gb,3,none⟩)) ?_ ⟨rfl,rfl⟩
        clear hd;simp only[Zan,Zbk,Zah,h16];go_simp
       ·have hR:wr.heap.size≤W.heap.size:=hR0;have h17:vals 17=.pointer (some ⟨gb,3,none⟩):=hd 17 (by simp[Zbk]);have h8:∃A c,(vals 8)=.slice A (bt.steps.length+1) c∧(Bf gb (.slice At G.f0.length ct) (.slice (some ad) G.f1.length cr) v2 (Value.slice Av bt.steps.length cv) (Value.slice Af bt.frees.length cf) W→(Kd.slice 120 (Zgl φ2)).R 123 W w.heap.size (fun _=>True) (vals 8) (bt.steps++[(Zay D k r s1 r.f2.length).2])):=hd 8 (by simp[Zbk]);have h15:(Bf gb (.slice At G.f0.length ct) (.slice (some ad) G.f1.length cr) v2 (Value.slice Av bt.steps.length cv) (Value.slice Af bt.frees.length cf) W→(Kd.int .i64).R 3 W w.heap.size (fun _=>True) (vals 15) (bt.frees++[fn]))∧((vals 15).ownBlock=(Value.slice Af bt.frees.length cf).ownBlock∨∃k,(vals 15).ownBlock=some k∧wr.heap.size≤k):=hd 15 (by simp[Zbk]);obtain⟨A7,c7,e8,hs8⟩:=h8;obtain⟨hs15,hn15⟩:=h15;obtain⟨hbf,hkp,hbl⟩:Bf gb (.slice At G.f0.length ct) (.slice (some ad) G.f1.length cr) v2 (Value.slice Av bt.steps.length cv) (Value.slice Af bt.frees.length cf) W∧Kept wr W (fun k=>((Value.slice Av bt.steps.length cv)).ownBlock=some k∨((Value.slice Af bt.frees.length cf)).ownBlock=some k)∧Below w.heap.size w W:=hp;have hs8:=hs8 hbf;have hs15:=hs15 hbf;have HSB:Zrw (B18 w wr W gb (.slice At G.f0.length ct) (.slice (some ad) G.f1.length cr) (Value.slice Av bt.steps.length cv) (Value.slice Af bt.frees.length cf) v2 (vals 8) φ2 (bt.steps++[(Zay D k r s1 r.f2.length).2])):=⟨⟨hbf,hs8,hkp⟩⟩
        have HS15:=Zrw.mk hs15;have HN15:=Zrw.mk hn15;have HBL:=Zrw.mk hbl;have y3:W.cell? ⟨gb,3,none⟩=some (Value.slice Av bt.steps.length cv):=(Zaa hbf 3).trans rfl;have z3:W.frozen? ⟨gb,3,none⟩=false:=Zam hbf 3;have HBF:=Zrw.mk hbf;clear hd hs8 hs15 hn15 hkp hbl hbf
        skip
        refine does_skip (W':=W.setCell ⟨gb,3,none⟩ (.slice A7 (bt.steps.length+1) c7)) ?_ ⟨⟨?_,?_⟩,W,by rw[e8],HSB.out,HS15.out,HBL.out,HN15.out⟩
        ·simp only[Zan,Zbk,Zah,e8,h17];go_simp
        ·rw[Zol];exact Nat.le_refl _
        ·exact fun hb=>not_bf hb HBF.out (by omega)
      case fin=>
       intro vals W hR0 hF;have f0:vals 0=.pointer (some ⟨gb,0,none⟩):=hF 0 (by decide);have f1:vals 1=.pointer (some ⟨gb,0,none⟩):=hF 1 (by decide);have f2:vals 2=.pointer (some ⟨gb,0,none⟩):=hF 2 (by decide);have f3:vals 3=.pointer (some ⟨gb,0,none⟩):=hF 3 (by decide);have f4:vals 4=.pointer (some ⟨gb,3,none⟩):=hF 4 (by decide);have f5:vals 5=(Value.slice Av bt.steps.length cv):=hF 5 (by decide);have f6:vals 6=(Value.slice Au (Zay D k r s1 r.f2.length).2.length cu):=hF 6 (by decide);have f7:∃gl,(vals 7)=.slice (some ⟨gl,0,none⟩) 1 1∧wr.heap.size≤gl∧(Bf gb (.slice At G.f0.length ct) (.slice (some ad) G.f1.length cr) v2 (Value.slice Av bt.steps.length cv) (Value.slice Af bt.frees.length cf) W→W.heap[gl]?=some (.cells #[(Value.slice Au (Zay D k r s1 r.f2.length).2.length cu)] 123 (0,0))):=hF 7 (by decide);have f8:∃A c,(vals 8)=.slice A (bt.steps.length+1) c∧(Bf gb (.slice At G.f0.length ct) (.slice (some ad) G.f1.length cr) v2 (Value.slice Av bt.steps.length cv) (Value.slice Af bt.frees.length cf) W→(Kd.slice 120 (Zgl φ2)).R 123 W w.heap.size (fun _=>True) (vals 8) (bt.steps++[(Zay D k r s1 r.f2.length).2])):=hF 8 (by decide);have f9:vals 9=.pointer (some ⟨gb,0,none⟩):=hF 9 (by decide);have f10:vals 10=.pointer (some ⟨gb,0,none⟩):=hF 10 (by decide);have f11:vals 11=.pointer (some ⟨gb,4,none⟩):=hF 11 (by decide);have f12:vals 12=(Value.slice Af bt.frees.length cf):=hF 12 (by decide);have f13:vals 13=.int .i64 fn:=hF 13 (by decide);have f14:∃gl,(vals 14)=.slice (some ⟨gl,0,none⟩) 1 1∧wr.heap.size≤gl∧(Bf gb (.slice At G.f0.length ct) (.slice (some ad) G.f1.length cr) v2 (Value.slice Av bt.steps.length cv) (Value.slice Af bt.frees.length cf) W→W.heap[gl]?=some (.cells #[.int .i64 fn] 3 (0,0))):=hF 14 (by decide);have f15:(Bf gb (.slice At G.f0.length ct) (.slice (some ad) G.f1.length cr) v2 (Value.slice Av bt.steps.length cv) (Value.slice Af bt.frees.length cf) W→(Kd.int .i64).R 3 W w.heap.size (fun _=>True) (vals 15) (bt.frees++[fn]))∧((vals 15).ownBlock=(Value.slice Af bt.frees.length cf).ownBlock∨∃k,(vals 15).ownBlock=some k∧wr.heap.size≤k):=hF 15 (by decide);have f16:vals 16=.pointer (some ⟨gb,0,none⟩):=hF 16 (by decide);have f17:vals 17=.pointer (some ⟨gb,3,none⟩):=hF 17 (by decide);have f18:∃W9,W=W9.setCell ⟨gb,3,none⟩ (vals 8)∧B18 w wr W9 gb (.slice At G.f0.length ct) (.slice (some ad) G.f1.length cr) (Value.slice Av bt.steps.length cv) (Value.slice Af bt.frees.length cf) v2 (vals 8) φ2 (bt.steps++[(Zay D k r s1 r.f2.length).2])∧(Kd.int .i64).R 3 W9 w.heap.size (fun _=>True) (vals 15) (bt.frees++[fn])∧Below w.heap.size w W9∧((vals 15).ownBlock=(Value.slice Af bt.frees.length cf).ownBlock∨∃k,(vals 15).ownBlock=some k∧wr.heap.size≤k):=hF 18 (by decide);clear hF hR0;rw[show List.range 19=[0,1,2,3,4,5,6,7,8,9,10,11,12,13,14,15,16,17,18]from rfl];simp only[Zan,Zah,Act.put,List.getElem?_toArray,List.getElem?_cons_zero,List.getElem?_cons_succ,Option.bind_some,Option.bind_none,List.setIfInBounds_toArray,List.set_cons_zero,List.set_cons_succ,List.drop_succ_cons,List.drop_zero,f0,f1,f2,f3,f4,f5,f6,f9,f10,f11,f12,f13,f16,f17];obtain⟨W9,rfl,hB9,hO9,hBL,hAT⟩:=f18;obtain⟨gl7,f7,_,_⟩:=f7;obtain⟨gl14,f14,_,_⟩:=f14;obtain⟨A7,c7,f8,_⟩:=f8;clear f15;generalize vals 15=v9 at *;generalize vals 18=v18 at *;obtain⟨A9,c9,hv9⟩:=Kd.R_slice hO9;rw[List.length_append,List.length_singleton]at hv9;subst hv9;rw[f8]at hB9;simp only[f7,f14,f8];have HB9:=Zrw.mk hB9;have HO9:=Zrw.mk hO9;have HBL:=Zrw.mk hBL;have HAT:=Zrw.mk hAT;have y4:W9.cell? ⟨gb,4,none⟩=some (.slice Af bt.frees.length cf):=(Zaa HB9.out.blk 4).trans rfl;have z4:W9.frozen? ⟨gb,4,none⟩=false:=Zam HB9.out.blk 4;have y3:W9.cell? ⟨gb,3,none⟩=some (.slice Av bt.steps.length cv):=(Zaa HB9.out.blk 3).trans rfl;have z3:W9.frozen? ⟨gb,3,none⟩=false:=Zam HB9.out.blk 3;clear hB9 hO9 hBL hAT f7 f8 f14;go_wp2
       go_roundw
       case rel=>
        refine⟨k+1,φ2,.slice A7 (bt.steps.length+1) c7,.slice A9 (bt.frees.length+1) c9,v2,hkn,(by first | (rw[hw];simp;done) | (simp;done)),⟨?_⟩⟩;rw[HBK.out];refine HBQ.out.rule18 HS1.out HG9.out HB9.out ?_ HBL.out HAT.out
        rw[HFN.out];exact HO9.out
       case measure=>first | exact Zll hkn | (rw[hw];exact Zll hkn))
  ·obtain rfl:k=G.f1.length:=by omega
   go_wp2
   go_ret2
   exact⟨gb,φ,vs,vf,v,rfl,HB.out⟩
theorem PlS.read {φ:Nat→Nat}{w0:W0}{W:World}{x:Pl}{cs:List Value}(hb:Below w0.heap.size w0 W)(h:PlS φ w0 W x cs):PlK φ W x cs:=by
 obtain⟨A1,c1,A2,c2,A3,c3,v4,rfl,l1,g1,l2,g2,l3,g3,g4⟩:=h;obtain⟨A4,c4,rfl,l4,h4⟩:=g4.C;exact⟨A1,c1,A2,c2,A3,c3,A4,c4,rfl,l1,Kd.C_below g1 hb,l2,Kd.C_below g2 hb,l3,Kd.C_below g3 hb,l4,h4⟩
theorem BS.read {w W:World}{gb:Nat}{At Ar:Option Addr}{ct cr:Nat}{G:S26}{φ:Nat→Nat}{b:Bt}{vs vf v:Value}(h:BS w W gb (.slice At G.f0.length ct) (.slice Ar G.f1.length cr) φ b vs vf v)
 (lt:G.f0.length≤ct) (ht:k70.C w At G.f0.length G.f0) (lr:G.f1.length≤cr) (hr:k52.C w Ar G.f1.length G.f1):VR W gb G b.mach φ:=by
 have hb:=h.mach.bel;obtain⟨Ap,cp,rfl,lp,hp⟩:=h.mach.row.reads;obtain⟨As,cs,rfl,ls,hs⟩:=Kd.R_reads h.steps;obtain⟨Af,cf,rfl,lf,hf⟩:=Kd.R_reads h.frees;refine⟨⟨At,ct,Ar,cr,Ap,cp,As,cs,Af,cf,h.mach.blk,lt,Kd.C_below ht hb,lr,Kd.C_below hr hb,lp,hp.imp_ Zbr (fun _ _ hx=>hx.read hb),ls,hs,lf,hf⟩,fun k x hk=>?_⟩;obtain⟨v1,v2,hc,r1,r2⟩:=(h.mach.shapes k x hk).cells;obtain⟨A1,c1,rfl,l1,g1⟩:=r1.C;obtain⟨A2,c2,rfl,l2,g2⟩:=r2.C;exact⟨A1,c1,A2,c2,hc,l1,g1,l2,g2⟩
def Nm (p:S76):Prop:=p.f1.length≤100000∧p.f2.length≤100000
def AllNm (s:St):Prop:=∀q,Nm (s.pl.getD q zPl).p
theorem nm_z:Nm z76:=⟨Nat.zero_le _,Nat.zero_le _⟩
theorem AllNm.add {s:St}(h:AllNm s){x:Pl}(hx:Nm x.p):AllNm (s.add x):=fun q=>by
 show Nm ((s.pl++[x]).getD q zPl).p;rw[Zdf]
 split
 ·exact hx
 ·exact h q
theorem AllNm.link {s:St}(h:AllNm s)(frm tt:List Int):AllNm (s.link frm tt):=fun q=>by
 show Nm ((Zin s.pl tt frm frm.length).getD q zPl).p;rw[(Zgj s.pl tt frm frm.length q).2.2.2.1];exact h q
theorem AllNm.inner {s:St}(h:AllNm s)(k b:Nat):AllNm (s.inner k b):=fun q=>by
 show Nm ((s.pl.set k _).getD q zPl).p;rw[Zen]
 split
 ·exact h k
 ·exact h q
theorem patW_nm {n:Nat}(hw:∀b p s,Zfc n p→AllNm s→AllNm (Zax n b p s).2)(p:S76)(rule step:Int)(s:St)(hp:Zfc n p)(h:AllNm s):AllNm (Zhp (Zax n) p rule step s):=
 fun q=>hw s.pl.length p (s.add (Zbq s.pl.length)) hp (h.add nm_z) q
theorem item1_nm {b:Nat}{p:S76}{s:St}(hp:Nm p)(h:AllNm s):AllNm (Zey b p s):=by
 unfold Zey
 split
 ·exact (h.add hp).link _ _
 ·exact h.add hp
theorem walk_nm:∀(n b:Nat) (p:S76) (s:St),Zfc n p→AllNm s→AllNm (Zax n b p s).2
 | 0,_,_,_,hp,_=>hp.elim
 | n+1,b,p,s,hp,h=>by
  have ih:=walk_nm n;obtain⟨n1,n2,k3,k56,k7⟩:=hp;unfold Zax;by_cases c1:p.f0=2∨p.f0=4∨p.f0=3
  ·rw[if_pos c1];show AllNm (Zhv (Zax n) b p s);unfold Zhv
   split
   ·rename_i c3
    exact (patW_nm ih _ _ _ _ (k3 c3).2 (item1_nm ⟨n1,n2⟩ h)).inner _ _
   ·exact item1_nm ⟨n1,n2⟩ h
  ·rw[if_neg c1]
   split
   ·rename_i c5
    exact (ih b _ _ (k56 (.inl c5)).2.2 (ih b _ s (k56 (.inl c5)).2.1 h)).link _ _
   ·split
    ·rename_i c6
     exact ih b _ _ (k56 (.inr c6)).2.2 (ih b _ s (k56 (.inr c6)).2.1 h)
    ·split
     ·rename_i c7
      exact (ih b _ s (k7 c7).2 h).link _ _
     ·exact h
theorem stepsB_nm (D:Nat)(i:Int)(r:S52)(s:St)(h:AllNm s)(n:Nat)(hp:∀k,k<n→Zfc D (Zgs r (k:Nat)).f1):AllNm (Zay D i r s n).1:=by
 induction n with
 | zero=>exact h
 | succ n ih=>exact patW_nm (walk_nm D) _ _ _ _ (hp n (by omega)) (ih (fun k hk=>hp k (by omega)))
theorem build_nm (D:Nat)(G:S26)(n:Nat)(hp:∀i k:Nat,i<n→k<(Zcq G i).f2.length→Zfc D (Zgs (Zcq G i) k).f1):AllNm (Zbl D G n).st:=by
 induction n with
 | zero=>
  intro q;show Nm (([Zix]:List Pl).getD q zPl).p;cases q <;> exact nm_z
 | succ n ih=>
  have h1:=ih (fun i k hi hk=>hp i k (by omega) hk);refine stepsB_nm D n (Zcq G n) _ ?_ _ (fun k hk=>hp n k (by omega) hk)
  unfold Zdg
  split
  ·exact h1.add nm_z
  ·exact h1
theorem Zrp (D:Nat)(G:S26)(n:Nat)(hp:∀i k:Nat,i<n→k<(Zcq G i).f2.length→Zfc D (Zgs (Zcq G i) k).f1):Short (Zbl D G n):=fun q _=>build_nm D G n hp q
theorem mach_ok {G:S26}{D:Nat}{φ:Nat→Nat}(hok:RulesOk D G)(hg:Good (Zbl D G G.f1.length).st)(hi:Zge φ (Zbl D G G.f1.length).st.sh)(hl:G.f1.length≤1000)(hs:∀i:Nat,i<G.f1.length→1≤(Zcq G i).f2.length∧(Zcq G i).f2.length≤1000):(Zbl D G G.f1.length).mach.Ok φ:=by
 have hn1:=(Zpx D G G.f1.length).n1;refine built_ok (Zpx D G G.f1.length) hg hi (Zrp D G _ hok.pats) ?_ hl (fun i=>?_) (fun i hi2=>?_)
 ·rw[(Zeg D G G.f1.length).2];exact hok.few
 ·rcases Nat.lt_or_ge i G.f1.length with h | h
  ·rw[Ziu D G _ i h];exact (hs i h).2
  ·rw[List.getD_eq_getElem?_getD,List.getElem?_eq_none (by omega)];exact Nat.zero_le _
 ·have h:=Ziu D G _ i hi2;have h1:=(hs i hi2).1
  match hc:(Zbl D G G.f1.length).steps.getD i []with
  | []=>rw[hc]at h;simp at h;omega
  | k :: r=>exact⟨k,r,rfl⟩
theorem Zmq (w:World)(At Ar:Option Addr)(ct cr:Nat)(G:S26)(D:Nat)(hr:GramR w G At Ar ct cr)(hg:Zmu G)(hok:RulesOk D G)(ho:Own w) :
 Calls Tryz.prog 40 #[.agg #[.slice At G.f0.length ct,.slice Ar G.f1.length cr]] w fun e w'=>∃gb φ,e=.returned (.tuple #[.pointer (some ⟨gb,0,none⟩),.int .i64 0])∧VR w' gb G (Zbl D G G.f1.length).mach φ∧(Zbl D G G.f1.length).mach.Ok φ∧Below w.heap.size w w':=by
 have hl:G.f1.length≤1000:=Nat.le_trans hg.rfew (by decide);refine (build_call w At Ar ct cr G D hr.rules hok hl 0 (fun W hb=>check_ok W G At Ar ct cr (hr.below hb) hg (ho.below hb))).mono ?_
 rintro e w' ⟨gb,φ,vs,vf,v,rfl,hB⟩;refine⟨gb,φ,rfl,hB.read hr.lt hr.toks hr.lr hr.rules,mach_ok hok hB.good.st hB.inj hl (fun i hi=>?_),hB.mach.bel⟩;have h1:=hg.rules i hi;rw[←Zhs]at h1;exact⟨h1.one,Nat.le_trans h1.few (by decide)⟩
end Go.Proofs.YtaokkliamoghbaaGreatDoor.PVpa
