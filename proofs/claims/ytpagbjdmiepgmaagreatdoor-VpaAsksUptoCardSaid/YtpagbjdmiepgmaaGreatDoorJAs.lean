/- Joined from texts of this seat, in their order. -/
import Derived.Test.YtpagbjdmiepgmaaGreatDoorJAo
import Derived.Test.YtpagbjdmiepgmaaGreatDoorJAp
import Derived.Test.YtpagbjdmiepgmaaGreatDoorJAj
set_option linter.unusedVariables false
set_option linter.unusedSimpArgs false
set_option linter.unusedSectionVars false
set_option maxRecDepth 100000
namespace Go.Proofs.YtpagbjdmiepgmaaGreatDoor.PVpa
open Go.RowKit Go.Proofs.YtpagbjdmiepgmaaGreatDoorW.PrintWords Go.Proofs.YtpagbjdmiepgmaaGreatDoorW.PrintLast Go.Proofs.YtpagbjdmiepgmaaGreatDoorW.PrintMore
theorem Zun {P:Program}{id:Nat}{Q:Exit→Act→World→Prop}{a0:Act}{w:World}{l:List Oper}(m N:Nat)(deps:Nat→List Nat)(val:Nat→Value)(q:Nat)(Φ:Value→World→Prop)(R:World→World→Prop)
 (hm:P.follows .mixedOrders=true) (hB:Zol .any l.toArray m N deps=true) (hT:Region.seqB .any l.toArray (l.toArray.size-m) m (Zbv m l.toArray.size)=true) (hN:a0.tmps.size=N)
 (hRr:∀w,R w w) (hRt:∀w w1 w2,R w w1→R w1 w2→R w w2) (stab:∀v w w',Φ v w→R w w'→Φ v w')
 (steps:AllSteps (fun i o=>∀u W,R w.drew W→(q∈deps i→Φ u W)→DoesG P l.toArray o (Zao l.toArray a0 (fun j=>if j=q then u else val j) (deps i)) W (fun v w'=>R W w'∧if i=q then Φ v w' else v=val i)) 0 (l.take m))
 (fin:∀u W,R w.drew W→(q<m→Φ u W)→wpList P l.toArray Q (l.drop m) (Zao l.toArray a0 (fun j=>if j=q then u else val j) (List.range m)) W) :
 (Code.region id l.toArray true).wp P Q a0 w:=by
 refine Zcr m N deps (fun i vs W=>if i=q then ∀v,vs.head?=some v→Φ v W else vs.head?=some (val i)) R hm hB hT hN hRr hRt (fun i vs w w' h hr=>?_) (AllSteps.imp (fun i o h vals W hR hd=>?_) steps) (fun vals W hR hF=>?_)
 ·by_cases hq:i=q
  ·rw[if_pos hq]at h ⊢;exact fun v hv=>stab v w w' (h v hv) hr
  ·rw[if_neg hq]at h ⊢;exact h
 ·have e:Zao l.toArray a0 vals (deps i)=Zao l.toArray a0 (fun j=>if j=q then vals q else val j) (deps i):=Znb a0 _ (fun j hj=>by
   have hj2:=hd j hj;by_cases hq:j=q
   ·rw[if_pos hq,hq]
   ·rw[if_neg hq]at hj2 ⊢;exact Option.some.inj hj2)
  rw[e];refine (h (vals q) W hR (fun hq=>?_)).imp (fun v w' ⟨h1,h2⟩=>⟨h1,?_⟩)
  ·have h3:=hd q hq;rw[if_pos rfl]at h3;exact h3 _ rfl
  ·by_cases hq:i=q
   ·rw[if_pos hq]at h2 ⊢;exact fun v' hv=>by cases hv;exact h2
   ·rw[if_neg hq]at h2 ⊢;exact congrArg some h2
 ·have e:Zao l.toArray a0 vals (List.range m)=Zao l.toArray a0 (fun j=>if j=q then vals q else val j) (List.range m):=Znb a0 _ (fun j hj=>by
   have hj2:=hF j (List.mem_range.1 hj);by_cases hq:j=q
   ·rw[if_pos hq,hq]
   ·rw[if_neg hq]at hj2 ⊢;exact Option.some.inj hj2)
  rw[e];refine fin (vals q) W hR (fun hq=>?_);have h3:=hF q hq;rw[if_pos rfl]at h3;exact h3 _ rfl
def Zbl:Nat→List Nat
 | 1=>[0]
 | 2=>[1]
 | 3=>[2]
 | 4=>[2,3]
 | 5=>[2,4]
 | 6=>[5]
 | 7=>[6]
 | 8=>[6,7]
 | 9=>[6]
 | 10=>[6,9]
 | 11=>[6,10]
 | 12=>[6,11]
 | 13=>[6,12]
 | 14=>[6,8,13]
 | 15=>[6,14]
 | 16=>[15]
 | 17=>[16]
 | 18=>[16,17]
 | 19=>[16]
 | 20=>[16,19]
 | 21=>[16,20]
 | 22=>[16,21]
 | 23=>[16,18,22]
 | 24=>[16,23]
 | 25=>[16,24]
 | _=>[]
def Zuo (gv gr n ns c' cs:Nat)(A' As:Option Addr):Nat→Value
 | 0=>.int .i64 0
 | 1 | 2 | 4 | 5 | 6 | 14 | 15 | 16 | 24 | 25=>.bool false
 | 3 | 7 | 17=>.pointer (some ⟨gv,0,none⟩)
 | 8 | 13=>.int .i64 n
 | 9 | 10 | 19 | 20=>.pointer (some ⟨gr,0,none⟩)
 | 11=>.pointer (some ⟨gr,2,none⟩)
 | 12=>.slice A' n c'
 | 21=>.pointer (some ⟨gr,3,none⟩)
 | 22=>.slice As ns cs
 | 23=>.bool true
 | _=>undef
theorem wrap_u (n:Nat)(h:n≤1000000):IntKind.u64.wrap (n:Int)=n:=(by rw[IntKind.wrap_u64];omega)
theorem wrap_u1 (n:Nat)(h:n≤1000000):IntKind.u64.wrap ((n:Int)+1)=n+1:=(by rw[IntKind.wrap_u64];omega)
theorem nz_n (n:Nat)(h:0<n):¬((n:Int)=0):=by omega
theorem nz_m (n:Nat)(h:0<n):¬(n=0):=by omega
theorem nz_1 (n:Nat):¬((n:Int)+1=0):=by omega
theorem wrap_n1 (n:Nat)(h:n≤1000000):wrap64 ((n:Int)+1)=n+1:=(by unfold wrap64;omega)
set_option maxHeartbeats 16000000 in
theorem asks_law (w:World)(ho:Own w)(A:Option Addr)(cl:Nat)(l:List (List Int))(hl:(Kd.slice 3 (Kd.int .i64)).C w A l.length l)(hs:∀x∈l,x.length≤1048576)(p sym t:Int) :
 Calls Tryz.prog 3 #[.slice A l.length cl,.int .i64 p,.int .i64 sym,.int .i64 t] w fun e w'=>e=.returned (.bool true)∧Below w.heap.size w w':=by
 have HO:=Zaa.mk ho;have HMK:=Zaa.mk (Zmg w A cl l hl hs);clear ho hl hs
 go_enter Tryz.func3,Tryz.ntmps3
 go_upto_region 2 with (go_at_call 7;(with_reducible refine HMK.out.mono ?_);rintro e w1 ⟨G,At,Ar,ct,cr,rfl,hm,hg,hb1⟩;have HM:=Zaa.mk hm;have HG:=Zaa.mk hg;have HB1:=Zaa.mk hb1;clear hm hg hb1)
 have hbx:=Zae (Below.refl _ w1) (.cells #[.slice At G.f0.length ct,.slice Ar G.f1.length cr] 26);have hkx:=Zaq w1 (.cells #[.slice At G.f0.length ct,.slice Ar G.f1.length cr] 26);generalize w1.alloc (.cells #[.slice At G.f0.length ct,.slice Ar G.f1.length cr] 26)=X at *;obtain⟨g1,hg1⟩:∃g1,g1=w1.heap.size:=⟨_,rfl⟩
 rw[←hg1]at hkx ⊢;have HBX:=Zaa.mk (Zaf HB1.out hbx);have HGX:=Zaa.mk (HG.out.below hbx);have HKX:=Zaa.mk hkx;have q0:=(Zac hkx 0).trans rfl;have q1:=(Zac hkx 1).trans rfl;have HBG:=Zaa.mk (Zig X At Ar ct cr G 9 HGX.out HM.out.gram HM.out.rulesOk (HO.out.below HBX.out));clear hbx hkx hg1
 go_upto_region 3 with (go_at_call 8;(with_reducible refine HBG.out.mono ?_);rintro e w2 ⟨gv,φ,rfl,hv2,ho2,hb2⟩;have HV2:=Zaa.mk hv2;have HO2:=Zaa.mk ho2;have HB2:=Zaa.mk hb2;clear hv2 ho2 hb2)
 have HG2:=Zaa.mk (HGX.out.below HB2.out);have q0:=Zab HB2.out q0;have q1:=Zab HB2.out q1;have HRB:=Zaa.mk (Zqq w2 At Ar ct cr G 9 HG2.out.rules HM.out.rulesOk (Nat.le_trans HM.out.few (by decide)) HM.out.buildN9 HM.out.patK)
 go_upto_region 4 with (go_at_call 9;(with_reducible refine HRB.out.mono ?_);rintro e w3 ⟨gr,vs,v,its,rfl,hrb⟩;have HRX:=Zaa.mk hrb;clear hrb)
 have H3:=Zaa.mk (two_of HM.out HG2.out HV2.out HO2.out HRX.out);have HB3:=Zaa.mk HRX.out.mach.bel;clear HRX;change Zaa (Below w2.heap.size w2 w3)at HB3;have HBW:=Zaa.mk (Zaf (Zaf HBX.out HB2.out) HB3.out);have HC24:Zaa (∀W,Below w3.heap.size w3 W→Calls Tryz.prog 24 #[] W fun e w'=>e=.returned (.bool true)∧Below W.heap.size W w'):=⟨fun W hb=>Zqf W (HO.out.below (Zaf HBW.out hb))⟩
 have q0:=Zab HB3.out q0;have q1:=Zab HB3.out q1;obtain⟨Av,cv,Au,cu,A',c',As,cs,hc,_,_,_,_,_,_,_,hss⟩:=H3.out.rr.cells;have g2:=(Zac hc 2).trans rfl;have g3:=(Zac hc 3).trans rfl;have HSS:=Zaa.mk hss;have HNL:=Zaa.mk H3.out.items.len;have HNT:=Zaa.mk HM.out.gram.few;have HSL:Zaa ((Zdi 9 G G.f1.length).length≤1000000):=⟨by rw[Ziq];exact Nat.le_trans HM.out.few (by decide)⟩
 have HN1:Zaa (0<its.length):=⟨by rw[H3.out.tw.rel.len];exact H3.out.tw.first.1⟩
 have H3:Zaa (∀W,Below w3.heap.size w3 W→TwoM G (Zaw 9 G G.f1.length).mach φ its (Zdi 9 G G.f1.length) gv gr W):=⟨fun W hb=>H3.out.below hb⟩
 generalize (Zaw 9 G G.f1.length).mach=M at H3;generalize Zdi 9 G G.f1.length=ss at H3 HSS HSL g3;clear HMK HG HGX HKX HBG HRB HV2 HO2 HG2 HM HB1 HBX HB2 HB3 HO hc hss;generalize G.f0.length=nt at q0 HNT ⊢;obtain⟨n,hnn⟩:∃n,n=its.length:=⟨_,rfl⟩
 rw[←hnn]at g2 HNL HN1;have HC10:Zaa (∀W,Below w3.heap.size w3 W→Calls Tryz.prog 10 #[.pointer (some ⟨gv,0,none⟩)] W fun e w'=>e=.returned (.int .i64 n)∧w'=W):=⟨fun W hb=>by rw[hnn];exact (H3.out W hb).len⟩
 have HC12:Zaa (∀W,Below w3.heap.size w3 W→Calls Tryz.prog 12 #[.pointer (some ⟨gv,0,none⟩)] W (Zea W ss)):=⟨fun W hb=>(H3.out W hb).start⟩
 clear hnn;refine Zun 26 _ Zbl (Zuo gv gr n ss.length c' cs A' As) 18 (fun v W=>∃A c,v=.slice A ss.length c∧(Kd.int .i64).C W A ss.length ss) Zca (by kernel_rfl) (by kernel_rfl) (by kernel_rfl) rfl Zbk Zbf (fun v w w' ⟨A,c,h1,h2⟩ hb=>⟨A,c,h1,Kd.C_below h2 hb⟩) ?step ?fin
 case step=>
  refine⟨?_,?_,?_,?_,?_,?_,?_,?_,?_,?_,?_,?_,?_,?_,?_,?_,?_,?_,?_,?_,?_,?_,?_,?_,?_,?_,trivial⟩ <;> intro u W hR0 hd <;> have hR:=Zaf (Zam (Below.refl _ w3)) hR0
  all_goals try (
   first | refine Zal rfl (Zad (W':=W) ?_ ⟨Zbr,rfl⟩) | refine Zbo (by simp only[Zao,Zbl,Zai,Zuo,Nat.reduceEqDiff,reduceIte];rfl) (Zad (W':=W) ?_ ⟨Zbr,rfl⟩)
   have c0:=Zab hR g2;have c1:=Zab hR g3;simp only[Zao,Zbl,Zai,Zuo,Nat.reduceEqDiff,reduceIte];go_simp
   done)
  ·refine Zbo (by simp only[Zao,Zbl,Zai,Zuo,Nat.reduceEqDiff,reduceIte];rfl) (Zbi (W':=W) (f:=10) (args:=#[.pointer (some ⟨gv,0,none⟩)]) ?_ ((HC10.out W hR).mono ?_))
   ·simp only[Zao,Zbl,Zai,Zuo,Nat.reduceEqDiff,reduceIte];go_simp
   ·rintro e w1 ⟨rfl,hw⟩;exact⟨_,rfl,hw▸Zbr,rfl⟩
  ·refine Zbo (by simp only[Zao,Zbl,Zai,Zuo,Nat.reduceEqDiff,reduceIte];rfl) (Zbi (W':=W) (f:=12) (args:=#[.pointer (some ⟨gv,0,none⟩)]) ?_ ((HC12.out W hR).mono ?_))
   ·simp only[Zao,Zbl,Zai,Zuo,Nat.reduceEqDiff,reduceIte];go_simp
   ·rintro e w1 ⟨u,rfl,hr,hb⟩;exact by obtain⟨A,c,rfl,_,hC⟩:=Kd.R_reads hr;exact⟨_,rfl,hb,A,c,rfl,hC⟩
  ·obtain⟨A,c,rfl,hC⟩:=hd (by simp[Zbl]);refine Zbo (by simp only[Zao,Zbl,Zai,Zuo,Nat.reduceEqDiff,reduceIte];rfl) (Zbi (W':=W) (f:=11) (args:=#[.slice A ss.length c,.slice As ss.length cs]) ?_ ((Zes W A As c cs ss hC (Kd.C_below HSS.out hR) HSL.out).mono ?_))
   ·simp only[Zao,Zbl,Zai,Zuo,Nat.reduceEqDiff,reduceIte];go_simp
   ·rintro e w1 ⟨rfl,hb⟩;exact⟨_,rfl,hb,rfl⟩
 case fin=>
  intro u W hR0 hu;have hR:=Zaf (Zam (Below.refl _ w3)) hR0;clear hR0 hu;rw[show List.range 26=[0,1,2,3,4,5,6,7,8,9,10,11,12,13,14,15,16,17,18,19,20,21,22,23,24,25]from rfl];simp only[Zao,Zai,Zuo,Nat.reduceEqDiff,reduceIte,Act.put,List.getElem?_toArray,List.getElem?_cons_zero,List.getElem?_cons_succ,Option.bind_some,List.setIfInBounds_toArray,List.set_cons_zero,List.set_cons_succ,List.drop_succ_cons,List.drop_zero];have HW:=Zaa.mk hR;clear hR HC10 HC12;have HL9:Zaa (n≤90000):=HNL;have HT9:Zaa (nt≤16):=HNT;go_wp2
  go_loopw [1,2,3,13] (fun s1 s2 s3 s13 wr=>∃(k:Nat) (p sym t:Int),k≤2∧s1=.int .i64 p∧s2=.int .i64 sym∧s3=.int .i64 t∧s13=.int .i64 k∧Zaa (Below w3.heap.size w3 wr)) (fun _ _ _ s13 _=>2-(intOf s13).toNat)
  case atStart=>exact⟨0,p,sym,t,by omega,rfl,rfl,rfl,rfl,HW⟩
  case round=>
   clear HW;obtain⟨k,p,sym,t,hk,rfl,rfl,rfl,rfl,HW⟩:=hrel;by_cases hk2:(k:Int)<2
   ·have HK2:Zaa (k<2):=⟨by omega⟩
    obtain⟨li,hli⟩:∃x,x=Ztx G M p t:=⟨_,rfl⟩
    have HC13:Zaa (∀W,Below w3.heap.size w3 W→Calls Tryz.prog 13 #[.pointer (some ⟨gv,0,none⟩),.int .i64 p,.int .i64 t] W (Zea W li)):=⟨fun W hb=>by rw[hli];exact (H3.out W hb).int p t⟩
    have HC14:Zaa (∀W,Below w3.heap.size w3 W→Calls Tryz.prog 14 #[.pointer (some ⟨gr,0,none⟩),.int .i64 p,.int .i64 t] W (Zea W li)):=⟨fun W hb=>by rw[hli];exact (H3.out W hb).rint p t⟩
    have HLI:Zaa (li.length≤1000000):=⟨by rw[hli];exact (H3.out _ Zbr).intLen _ _⟩
    obtain⟨lc,hlc⟩:∃x,x=Zix G M p t:=⟨_,rfl⟩
    have HC16:Zaa (∀W,Below w3.heap.size w3 W→Calls Tryz.prog 16 #[.pointer (some ⟨gv,0,none⟩),.int .i64 p,.int .i64 t] W (Znf W lc)):=⟨fun W hb=>by rw[hlc];exact (H3.out W hb).call p t⟩
    have HC17:Zaa (∀W,Below w3.heap.size w3 W→Calls Tryz.prog 17 #[.pointer (some ⟨gr,0,none⟩),.int .i64 p,.int .i64 t] W (Znf W lc)):=⟨fun W hb=>by rw[hlc];exact (H3.out W hb).rcall p t⟩
    have HLC:Zaa (lc.length≤1000000):=⟨by rw[hlc];exact (H3.out _ Zbr).callLen _ _⟩
    obtain⟨lb,hlb⟩:∃x,x=Zdu G M p t:=⟨_,rfl⟩
    have HC20:Zaa (∀W,Below w3.heap.size w3 W→Calls Tryz.prog 20 #[.pointer (some ⟨gv,0,none⟩),.int .i64 p,.int .i64 t] W (Zea W lb)):=⟨fun W hb=>by rw[hlb];exact (H3.out W hb).bottom p t⟩
    have HC21:Zaa (∀W,Below w3.heap.size w3 W→Calls Tryz.prog 21 #[.pointer (some ⟨gr,0,none⟩),.int .i64 p,.int .i64 t] W (Zea W lb)):=⟨fun W hb=>by rw[hlb];exact (H3.out W hb).rbottom p t⟩
    have HLB:Zaa (lb.length≤1000000):=⟨by rw[hlb];exact Zsf _ _ _ _⟩
    clear hli hlc hlb;obtain⟨lr,hlr⟩:∃x,x=Zqd G M p sym t:=⟨_,rfl⟩
    have HC18:Zaa (∀W,Below w3.heap.size w3 W→Calls Tryz.prog 18 #[.pointer (some ⟨gv,0,none⟩),.int .i64 p,.int .i64 sym,.int .i64 t] W (Zea W lr)):=⟨fun W hb=>by rw[hlr];exact (H3.out W hb).ret p sym t⟩
    have HC19:Zaa (∀W,Below w3.heap.size w3 W→Calls Tryz.prog 19 #[.pointer (some ⟨gr,0,none⟩),.int .i64 p,.int .i64 sym,.int .i64 t] W (Zea W lr)):=⟨fun W hb=>by rw[hlr];exact (H3.out W hb).rret p sym t⟩
    have HLR:Zaa (lr.length≤1000000):=⟨by rw[hlr];exact retLen _ _ _ _ _⟩
    clear hlr;obtain⟨x,hx⟩:∃x,x=Zhh M p:=⟨_,rfl⟩
    have HC22:Zaa (∀W,Below w3.heap.size w3 W→Calls Tryz.prog 22 #[.pointer (some ⟨gv,0,none⟩),.int .i64 p] W fun e w'=>e=.returned (.int .i64 x)∧Below W.heap.size W w'):=⟨fun W hb=>by rw[hx];exact (H3.out W hb).rule p⟩
    have HC23:Zaa (∀W,Below w3.heap.size w3 W→Calls Tryz.prog 23 #[.pointer (some ⟨gr,0,none⟩),.int .i64 p] W fun e w'=>e=.returned (.int .i64 x)∧Below W.heap.size W w'):=⟨fun W hb=>by rw[hx];exact (H3.out W hb).rrule p⟩
    clear hx;clear hk
    go_upto_region 11 with (first
     | (go_at_call 13;(with_reducible refine (HC13.out _ HW.out).mono ?_);rintro e wa ⟨va,rfl,hra,hba⟩;obtain⟨Aa,ca,rfl⟩:=Kd.R_slice hra;have HW:=Zaa.mk (Zaf HW.out hba);have HRA:=Zaa.mk (Kd.R_reads' hra).2.2;clear hra hba)
     | (go_at_call 14;(with_reducible refine (HC14.out _ HW.out).mono ?_);rintro e wb ⟨vb,rfl,hrb,hbb⟩;obtain⟨Ab,cb,rfl⟩:=Kd.R_slice hrb;have HW:=Zaa.mk (Zaf HW.out hbb);have HRA:=Zaa.mk (Kd.C_below HRA.out hbb);have HRB:=Zaa.mk (Kd.R_reads' hrb).2.2;clear hrb hbb)
     | (go_at_call 16;(with_reducible refine (HC16.out _ HW.out).mono ?_);rintro e wc ⟨vc,rfl,hrc,hbc⟩;obtain⟨Ac,cc,rfl⟩:=Kd.R_slice hrc;have HW:=Zaa.mk (Zaf HW.out hbc);have HRC:=Zaa.mk (Kd.R_reads' hrc).2.2;clear hrc hbc)
     | (go_at_call 17;(with_reducible refine (HC17.out _ HW.out).mono ?_);rintro e wd ⟨vd,rfl,hrd,hbd⟩;obtain⟨Ad,cd,rfl⟩:=Kd.R_slice hrd;have HW:=Zaa.mk (Zaf HW.out hbd);have HRC:=Zaa.mk (Kd.C_below HRC.out hbd);have HRD:=Zaa.mk (Kd.R_reads' hrd).2.2;clear hrd hbd)
     | (go_at_call 15;(with_reducible refine (Zof _ _ _ _ _ lc HRC.out HRD.out HLC.out).mono ?_);rintro e wz ⟨rfl,hbz⟩;have HW:=Zaa.mk (Zaf HW.out hbz);clear hbz)
     | (go_at_call 20;(with_reducible refine (HC20.out _ HW.out).mono ?_);rintro e we ⟨ve,rfl,hre,hbe⟩;obtain⟨Ae,ce,rfl⟩:=Kd.R_slice hre;have HW:=Zaa.mk (Zaf HW.out hbe);have HRE:=Zaa.mk (Kd.R_reads' hre).2.2;clear hre hbe)
     | (go_at_call 21;(with_reducible refine (HC21.out _ HW.out).mono ?_);rintro e wf ⟨vf,rfl,hrf,hbf⟩;obtain⟨Af,cf,rfl⟩:=Kd.R_slice hrf;have HW:=Zaa.mk (Zaf HW.out hbf);have HRE:=Zaa.mk (Kd.C_below HRE.out hbf);have HRF:=Zaa.mk (Kd.R_reads' hrf).2.2;clear hrf hbf)
     | (go_at_call 11;(with_reducible refine (Zes _ _ _ _ _ lb HRE.out HRF.out HLB.out).mono ?_);rintro e wz ⟨rfl,hbz⟩;have HW:=Zaa.mk (Zaf HW.out hbz);clear hbz)
     | (go_at_call 11;(with_reducible refine (Zes _ _ _ _ _ li HRA.out HRB.out HLI.out).mono ?_);rintro e wz ⟨rfl,hbz⟩;have HW:=Zaa.mk (Zaf HW.out hbz);clear hbz)
     | (go_at_call 18;(with_reducible refine (HC18.out _ HW.out).mono ?_);rintro e wg ⟨vg,rfl,hrg,hbg⟩;obtain⟨Ag,cg,rfl⟩:=Kd.R_slice hrg;have HW:=Zaa.mk (Zaf HW.out hbg);have HRG:=Zaa.mk (Kd.R_reads' hrg).2.2;clear hrg hbg)
     | (go_at_call 19;(with_reducible refine (HC19.out _ HW.out).mono ?_);rintro e wh ⟨vh,rfl,hrh,hbh⟩;obtain⟨Ah,ch,rfl⟩:=Kd.R_slice hrh;have HW:=Zaa.mk (Zaf HW.out hbh);have HRG:=Zaa.mk (Kd.C_below HRG.out hbh);have HRH:=Zaa.mk (Kd.R_reads' hrh).2.2;clear hrh hbh)
     | (go_at_call 11;(with_reducible refine (Zes _ _ _ _ _ lr HRG.out HRH.out HLR.out).mono ?_);rintro e wz ⟨rfl,hbz⟩;have HW:=Zaa.mk (Zaf HW.out hbz);clear hbz)
     | (go_at_call 22;(with_reducible refine (HC22.out _ HW.out).mono ?_);rintro e wx ⟨rfl,hbx⟩;have HW:=Zaa.mk (Zaf HW.out hbx);clear hbx)
     | (go_at_call 23;(with_reducible refine (HC23.out _ HW.out).mono ?_);rintro e wy ⟨rfl,hby⟩;have HW:=Zaa.mk (Zaf HW.out hby);clear hby))
    clear HC13 HC14 HC16 HC17 HC18 HC19 HC20 HC21 HC22 HC23 hk2;have r2:=Zab HW.out g2;have r0:=Zab HW.out q0;have u1:=wrap_u n (Nat.le_trans HL9.out (by decide));have u2:=wrap_u1 nt (Nat.le_trans HT9.out (by decide));have u3:=wrap_n1 nt (Nat.le_trans HT9.out (by decide));have u4:=nz_n n HN1.out;have u5:=nz_m n HN1.out;have u6:=nz_1 nt
    go_quiet (fail)
    go_wp2
    go_roundw
    case rel=>exact⟨k+1,_,_,_,HK2.out,rfl,rfl,rfl,by rw[Zbz k (by have:=HK2.out;omega)],⟨Zaf HW.out (by repeat (first | exact Zbr | refine Zah ?_ _ | refine Zar ?_ | refine Zam ?_))⟩⟩
    case measure=>exact Zcc 2 k HK2.out (by omega)
   ·go_wp2_with (go_at_call 24;(with_reducible refine (HC24.out _ HW.out).mono ?_);rintro e wz ⟨rfl,hbz⟩;have HW:=Zaa.mk (Zaf HW.out hbz);clear hbz)
    go_ret
    exact⟨rfl,Zaf HBW.out HW.out⟩
end Go.Proofs.YtpagbjdmiepgmaaGreatDoor.PVpa
