/- Joined from texts of this seat, in their order. -/
import Derived.Test.YtpagbjdmiepgmaaGreatDoorJAo
import Derived.Test.YtpagbjdmiepgmaaGreatDoorJAp
set_option linter.unusedVariables false
set_option linter.unusedSimpArgs false
set_option linter.unusedSectionVars false
set_option maxRecDepth 100000
namespace Go.Proofs.YtpagbjdmiepgmaaGreatDoor.PVpa
open Go.RowKit Go.Proofs.YtpagbjdmiepgmaaGreatDoorW.PrintWords Go.Proofs.YtpagbjdmiepgmaaGreatDoorW.PrintLast Go.Proofs.YtpagbjdmiepgmaaGreatDoorW.PrintMore
theorem wrap_i (t:Int)(h0:-1≤t)(h1:t≤1000000):wrap64 (t+1)=t+1:=(by unfold wrap64;omega)
theorem Zsl (t:Int)(h0:-1≤t)(h1:t≤1000000):wrap64 (t+2)=t+2:=(by unfold wrap64;omega)
theorem meas_i (n t:Int)(h0:-1≤t)(h:t<n)(hf:n≤1000000):(n-intOf (.int .i64 (wrap64 (t+1)))).toNat<(n-intOf (.int .i64 t)).toNat:=by
 rw[wrap_i t h0 (by omega)];simp only[intOf];omega
theorem meas_i2 (n t:Int)(h0:-1≤t)(h:t<n)(hf:n≤1000000):(n-intOf (.int .i64 (wrap64 (t+2)))).toNat<(n-intOf (.int .i64 t)).toNat:=by
 rw[Zsl t h0 (by omega)];simp only[intOf];omega
set_option maxHeartbeats 16000000 in
theorem tables_law (w:World)(ho:Own w)(A:Option Addr)(cl:Nat)(l:List (List Int))(hl:(Kd.slice 3 (Kd.int .i64)).C w A l.length l)(hs:∀x∈l,x.length≤1048576) :
 Calls Tryz.prog 4 #[.slice A l.length cl] w fun e w'=>e=.returned (.bool true)∧Below w.heap.size w w':=by
 have HO:=Zaa.mk ho;have HMK:=Zaa.mk (Zmg w A cl l hl hs);clear ho hl hs
 go_enter Tryz.func4,Tryz.ntmps4
 go_upto_region 2 with (go_at_call 7;(with_reducible refine HMK.out.mono ?_);rintro e w1 ⟨G,At,Ar,ct,cr,rfl,hm,hg,hb1⟩;have HM:=Zaa.mk hm;have HG:=Zaa.mk hg;have HB1:=Zaa.mk hb1;clear hm hg hb1)
 have hbx:=Zae (Below.refl _ w1) (.cells #[.slice At G.f0.length ct,.slice Ar G.f1.length cr] 26);have hkx:=Zaq w1 (.cells #[.slice At G.f0.length ct,.slice Ar G.f1.length cr] 26);generalize w1.alloc (.cells #[.slice At G.f0.length ct,.slice Ar G.f1.length cr] 26)=X at *;obtain⟨g1,hg1⟩:∃g1,g1=w1.heap.size:=⟨_,rfl⟩
 rw[←hg1]at hkx ⊢;have HBX:=Zaa.mk (Zaf HB1.out hbx);have HGX:=Zaa.mk (HG.out.below hbx);have HKX:=Zaa.mk hkx;have q0:=(Zac hkx 0).trans rfl;have q1:=(Zac hkx 1).trans rfl;have HBG:=Zaa.mk (Zig X At Ar ct cr G 9 HGX.out HM.out.gram HM.out.rulesOk (HO.out.below HBX.out));clear hbx hkx hg1
 go_upto_region 3 with (go_at_call 8;(with_reducible refine HBG.out.mono ?_);rintro e w2 ⟨gv,φ,rfl,hv2,ho2,hb2⟩;have HV2:=Zaa.mk hv2;have HO2:=Zaa.mk ho2;have HB2:=Zaa.mk hb2;clear hv2 ho2 hb2)
 have HG2:=Zaa.mk (HGX.out.below HB2.out);have q0:=Zab HB2.out q0;have q1:=Zab HB2.out q1;have HRB:=Zaa.mk (Zqq w2 At Ar ct cr G 9 HG2.out.rules HM.out.rulesOk (Nat.le_trans HM.out.few (by decide)) HM.out.buildN9 HM.out.patK)
 go_upto_region 4 with (go_at_call 9;(with_reducible refine HRB.out.mono ?_);rintro e w3 ⟨gr,vs,v,its,rfl,hrb⟩;have HRX:=Zaa.mk hrb;clear hrb)
 have H3:=Zaa.mk (two_of HM.out HG2.out HV2.out HO2.out HRX.out);have HB3:=Zaa.mk HRX.out.mach.bel;clear HRX;change Zaa (Below w2.heap.size w2 w3)at HB3;have HBW:=Zaa.mk (Zaf (Zaf HBX.out HB2.out) HB3.out);have HC24:Zaa (∀W,Below w3.heap.size w3 W→Calls Tryz.prog 24 #[] W fun e w'=>e=.returned (.bool true)∧Below W.heap.size W w'):=⟨fun W hb=>Zqf W (HO.out.below (Zaf HBW.out hb))⟩
 have q0:=Zab HB3.out q0;have q1:=Zab HB3.out q1;obtain⟨Av,cv,Au,cu,A',c',As,cs,hc,_,_,_,_,_,_,_,hss⟩:=H3.out.rr.cells;have g2:=(Zac hc 2).trans rfl;have g3:=(Zac hc 3).trans rfl;have HSS:=Zaa.mk hss;have HNL:=Zaa.mk H3.out.items.len;have HNT:=Zaa.mk HM.out.gram.few;have HN1:Zaa (0<its.length):=⟨by rw[H3.out.tw.rel.len];exact H3.out.tw.first.1⟩
 have H3:Zaa (∀W,Below w3.heap.size w3 W→TwoM G (Zaw 9 G G.f1.length).mach φ its (Zdi 9 G G.f1.length) gv gr W):=⟨fun W hb=>H3.out.below hb⟩
 generalize (Zaw 9 G G.f1.length).mach=M at H3;generalize Zdi 9 G G.f1.length=ss at H3 HSS g3;clear HMK HG HGX HKX HBG HRB HV2 HO2 HG2 HM HB1 HBX HB2 HB3 HO hc hss;generalize G.f0.length=nt at q0 HNT ⊢;obtain⟨n,hnn⟩:∃n,n=its.length:=⟨_,rfl⟩
 rw[←hnn]at g2 HNL HN1;have HC10:Zaa (∀m,Calls Tryz.prog 10 #[.pointer (some ⟨gv,0,none⟩)] (w3.drewN m) fun e w'=>e=.returned (.int .i64 n)∧w'=w3.drewN m):=⟨fun m=>by rw[hnn];exact (H3.out (w3.drewN m) (Zah (Below.refl _ w3) m)).len⟩
 clear hnn
 go_quiet ((go_at_call 10;exact Calls.quiet_of ((HC10.out _).mono (fun _ _ ⟨h,hd⟩=>⟨h,0,hd⟩))))
 have HL9:Zaa (n≤90000):=HNL;have HT9:Zaa (nt≤16):=HNT;go_wp2
 go_loopw [7] (fun s7 wr=>∃k:Nat,k≤n∧s7=.int .i64 k∧Zaa (Below w3.heap.size w3 wr)) (fun s7 _=>n-(intOf s7).toNat)
 case atStart=>exact⟨0,Nat.zero_le _,rfl,⟨by repeat (first | exact Zbr | refine Zah ?_ _ | refine Zar ?_ | refine Zam ?_)⟩⟩
 case round=>
  obtain⟨k,hk,rfl,HW⟩:=hrel;have r2:=Zab HW.out g2;by_cases hkn:k<n
  ·obtain⟨x,hx⟩:∃x,x=Zhh M k:=⟨_,rfl⟩
   have HC22:Zaa (∀W,Below w3.heap.size w3 W→Calls Tryz.prog 22 #[.pointer (some ⟨gv,0,none⟩),.int .i64 k] W fun e w'=>e=.returned (.int .i64 x)∧Below W.heap.size W w'):=⟨fun W hb=>by rw[hx];exact (H3.out W hb).rule k⟩
   have HC23:Zaa (∀W,Below w3.heap.size w3 W→Calls Tryz.prog 23 #[.pointer (some ⟨gr,0,none⟩),.int .i64 k] W fun e w'=>e=.returned (.int .i64 x)∧Below W.heap.size W w'):=⟨fun W hb=>by rw[hx];exact (H3.out W hb).rrule k⟩
   have HKN:=Zaa.mk hkn;clear hx
   go_upto_region 11 with (first
    | (go_at_call 22;(with_reducible refine (HC22.out _ HW.out).mono ?_);rintro e wx ⟨rfl,hbx⟩;have HW:=Zaa.mk (Zaf HW.out hbx);clear hbx)
    | (go_at_call 23;(with_reducible refine (HC23.out _ HW.out).mono ?_);rintro e wy ⟨rfl,hby⟩;have HW:=Zaa.mk (Zaf HW.out hby);clear hby))
   clear r2 hkn hk HC22 HC23;go_wp2
   go_loopw [8] (fun s8 wr=>∃t:Int,-1≤t∧t≤nt∧s8=.int .i64 t∧Zaa (Below w3.heap.size w3 wr)) (fun s8 _=>((nt:Int)-intOf s8).toNat)
   case atStart=>exact⟨-1,by omega,by omega,rfl,HW⟩
   case round=>
    obtain⟨t,ht0,ht1,rfl,HW⟩:=hrel;have r0:=Zab HW.out q0;by_cases htn:t<nt
    ·have HT0:=Zaa.mk ht0;have HTN:=Zaa.mk htn;obtain⟨li,hli⟩:∃x,x=Ztx G M k t:=⟨_,rfl⟩
     have HC13:Zaa (∀W,Below w3.heap.size w3 W→Calls Tryz.prog 13 #[.pointer (some ⟨gv,0,none⟩),.int .i64 k,.int .i64 t] W (Zea W li)):=⟨fun W hb=>by rw[hli];exact (H3.out W hb).int k t⟩
     have HC14:Zaa (∀W,Below w3.heap.size w3 W→Calls Tryz.prog 14 #[.pointer (some ⟨gr,0,none⟩),.int .i64 k,.int .i64 t] W (Zea W li)):=⟨fun W hb=>by rw[hli];exact (H3.out W hb).rint k t⟩
     have HLI:Zaa (li.length≤1000000):=⟨by rw[hli];exact (H3.out _ Zbr).intLen _ _⟩
     obtain⟨lc,hlc⟩:∃x,x=Zix G M k t:=⟨_,rfl⟩
     have HC16:Zaa (∀W,Below w3.heap.size w3 W→Calls Tryz.prog 16 #[.pointer (some ⟨gv,0,none⟩),.int .i64 k,.int .i64 t] W (Znf W lc)):=⟨fun W hb=>by rw[hlc];exact (H3.out W hb).call k t⟩
     have HC17:Zaa (∀W,Below w3.heap.size w3 W→Calls Tryz.prog 17 #[.pointer (some ⟨gr,0,none⟩),.int .i64 k,.int .i64 t] W (Znf W lc)):=⟨fun W hb=>by rw[hlc];exact (H3.out W hb).rcall k t⟩
     have HLC:Zaa (lc.length≤1000000):=⟨by rw[hlc];exact (H3.out _ Zbr).callLen _ _⟩
     obtain⟨lb,hlb⟩:∃x,x=Zdu G M k t:=⟨_,rfl⟩
     have HC20:Zaa (∀W,Below w3.heap.size w3 W→Calls Tryz.prog 20 #[.pointer (some ⟨gv,0,none⟩),.int .i64 k,.int .i64 t] W (Zea W lb)):=⟨fun W hb=>by rw[hlb];exact (H3.out W hb).bottom k t⟩
     have HC21:Zaa (∀W,Below w3.heap.size w3 W→Calls Tryz.prog 21 #[.pointer (some ⟨gr,0,none⟩),.int .i64 k,.int .i64 t] W (Zea W lb)):=⟨fun W hb=>by rw[hlb];exact (H3.out W hb).rbottom k t⟩
     have HLB:Zaa (lb.length≤1000000):=⟨by rw[hlb];exact Zsf _ _ _ _⟩
     clear hli hlc hlb;clear ht0 ht1
     go_wp2_with (first
      | (go_at_call 13;(with_reducible refine (HC13.out _ HW.out).mono ?_);rintro e wa ⟨va,rfl,hra,hba⟩;obtain⟨Aa,ca,rfl⟩:=Kd.R_slice hra;have HW:=Zaa.mk (Zaf HW.out hba);have HRA:=Zaa.mk (Kd.R_reads' hra).2.2;clear hra hba)
      | (go_at_call 14;(with_reducible refine (HC14.out _ HW.out).mono ?_);rintro e wb ⟨vb,rfl,hrb,hbb⟩;obtain⟨Ab,cb,rfl⟩:=Kd.R_slice hrb;have HW:=Zaa.mk (Zaf HW.out hbb);have HRA:=Zaa.mk (Kd.C_below HRA.out hbb);have HRB:=Zaa.mk (Kd.R_reads' hrb).2.2;clear hrb hbb)
      | (go_at_call 16;(with_reducible refine (HC16.out _ HW.out).mono ?_);rintro e wc ⟨vc,rfl,hrc,hbc⟩;obtain⟨Ac,cc,rfl⟩:=Kd.R_slice hrc;have HW:=Zaa.mk (Zaf HW.out hbc);have HRC:=Zaa.mk (Kd.R_reads' hrc).2.2;clear hrc hbc)
      | (go_at_call 17;(with_reducible refine (HC17.out _ HW.out).mono ?_);rintro e wd ⟨vd,rfl,hrd,hbd⟩;obtain⟨Ad,cd,rfl⟩:=Kd.R_slice hrd;have HW:=Zaa.mk (Zaf HW.out hbd);have HRC:=Zaa.mk (Kd.C_below HRC.out hbd);have HRD:=Zaa.mk (Kd.R_reads' hrd).2.2;clear hrd hbd)
      | (go_at_call 15;(with_reducible refine (Zof _ _ _ _ _ lc HRC.out HRD.out HLC.out).mono ?_);rintro e wz ⟨rfl,hbz⟩;have HW:=Zaa.mk (Zaf HW.out hbz);clear hbz)
      | (go_at_call 20;(with_reducible refine (HC20.out _ HW.out).mono ?_);rintro e we ⟨ve,rfl,hre,hbe⟩;obtain⟨Ae,ce,rfl⟩:=Kd.R_slice hre;have HW:=Zaa.mk (Zaf HW.out hbe);have HRE:=Zaa.mk (Kd.R_reads' hre).2.2;clear hre hbe)
      | (go_at_call 21;(with_reducible refine (HC21.out _ HW.out).mono ?_);rintro e wf ⟨vf,rfl,hrf,hbf⟩;obtain⟨Af,cf,rfl⟩:=Kd.R_slice hrf;have HW:=Zaa.mk (Zaf HW.out hbf);have HRE:=Zaa.mk (Kd.C_below HRE.out hbf);have HRF:=Zaa.mk (Kd.R_reads' hrf).2.2;clear hrf hbf)
      | (go_at_call 11;(with_reducible refine (Zes _ _ _ _ _ lb HRE.out HRF.out HLB.out).mono ?_);rintro e wz ⟨rfl,hbz⟩;have HW:=Zaa.mk (Zaf HW.out hbz);clear hbz)
      | (go_at_call 11;(with_reducible refine (Zes _ _ _ _ _ li HRA.out HRB.out HLI.out).mono ?_);rintro e wz ⟨rfl,hbz⟩;have HW:=Zaa.mk (Zaf HW.out hbz);clear hbz))
     go_roundw
     case rel=>exact⟨t+1,by have:=HT0.out;omega,by have:=HTN.out;omega,by rw[wrap_i t HT0.out (by have:=HTN.out;have:=HT9.out;omega)],HW⟩
     case measure=>exact meas_i nt t HT0.out HTN.out (by have:=HT9.out;omega)
    ·clear ht0 ht1
     go_upto_region 16 with (fail)
     clear r0 htn;go_wp2
     go_loopw [9] (fun s9 wr=>∃s:Int,-1≤s∧s≤n∧s9=.int .i64 s∧Zaa (Below w3.heap.size w3 wr)) (fun s9 _=>((n:Int)-intOf s9).toNat)
     case atStart=>exact⟨-1,by omega,by omega,rfl,HW⟩
     case round=>
      obtain⟨s,hs0,hs1,rfl,HW⟩:=hrel;have r2:=Zab HW.out g2;by_cases hsn:s<n
      ·have HS0:=Zaa.mk hs0;have HSN:=Zaa.mk hsn;clear hs0 hs1
       go_upto_region 19 with (fail)
       clear hsn r2;go_wp2
       go_loopw [10] (fun s10 wr=>∃u:Int,3≤u∧u≤nt+4∧s10=.int .i64 u∧Zaa (Below w3.heap.size w3 wr)) (fun s10 _=>((nt:Int)-intOf s10).toNat)
       case atStart=>exact⟨3,by omega,by omega,rfl,HW⟩
       case round=>
        obtain⟨u,hu0,hu1,rfl,HW⟩:=hrel;have r0:=Zab HW.out q0;by_cases hun:u<nt
        ·have HU0:=Zaa.mk hu0;have HUN:=Zaa.mk hun;obtain⟨lr,hlr⟩:∃x,x=Zqd G M k s u:=⟨_,rfl⟩
         have HC18:Zaa (∀W,Below w3.heap.size w3 W→Calls Tryz.prog 18 #[.pointer (some ⟨gv,0,none⟩),.int .i64 k,.int .i64 s,.int .i64 u] W (Zea W lr)):=⟨fun W hb=>by rw[hlr];exact (H3.out W hb).ret k s u⟩
         have HC19:Zaa (∀W,Below w3.heap.size w3 W→Calls Tryz.prog 19 #[.pointer (some ⟨gr,0,none⟩),.int .i64 k,.int .i64 s,.int .i64 u] W (Zea W lr)):=⟨fun W hb=>by rw[hlr];exact (H3.out W hb).rret k s u⟩
         have HLR:Zaa (lr.length≤1000000):=⟨by rw[hlr];exact retLen _ _ _ _ _⟩
         clear hlr;clear hu0 hu1
         go_wp2_with (first
          | (go_at_call 18;(with_reducible refine (HC18.out _ HW.out).mono ?_);rintro e wg ⟨vg,rfl,hrg,hbg⟩;obtain⟨Ag,cg,rfl⟩:=Kd.R_slice hrg;have HW:=Zaa.mk (Zaf HW.out hbg);have HRG:=Zaa.mk (Kd.R_reads' hrg).2.2;clear hrg hbg)
          | (go_at_call 19;(with_reducible refine (HC19.out _ HW.out).mono ?_);rintro e wh ⟨vh,rfl,hrh,hbh⟩;obtain⟨Ah,ch,rfl⟩:=Kd.R_slice hrh;have HW:=Zaa.mk (Zaf HW.out hbh);have HRG:=Zaa.mk (Kd.C_below HRG.out hbh);have HRH:=Zaa.mk (Kd.R_reads' hrh).2.2;clear hrh hbh)
          | (go_at_call 11;(with_reducible refine (Zes _ _ _ _ _ lr HRG.out HRH.out HLR.out).mono ?_);rintro e wz ⟨rfl,hbz⟩;have HW:=Zaa.mk (Zaf HW.out hbz);clear hbz))
         go_roundw
         case rel=>exact⟨u+2,by have:=HU0.out;omega,by have:=HUN.out;omega,by rw[Zsl u (by have:=HU0.out;omega) (by have:=HUN.out;have:=HT9.out;omega)],HW⟩
         case measure=>exact meas_i2 nt u (by have:=HU0.out;omega) HUN.out (by have:=HT9.out;omega)
        ·clear hu0 hu1;go_wp2
         go_roundw
         case rel=>exact⟨s+1,by have:=HS0.out;omega,by have:=HSN.out;omega,by rw[wrap_i s HS0.out (by have:=HSN.out;have:=HL9.out;omega)],HW⟩
         case measure=>exact meas_i n s HS0.out HSN.out (by have:=HL9.out;omega)
      ·clear hs0 hs1;go_wp2
       go_roundw
       case rel=>exact⟨k+1,HKN.out,by rw[Zbz k (by have:=HKN.out;have:=HL9.out;omega)],HW⟩
       case measure=>exact Zcc n k HKN.out (by have:=HL9.out;omega)
  ·obtain rfl:k=n:=by omega
   go_wp2_with (go_at_call 24;(with_reducible refine (HC24.out _ HW.out).mono ?_);rintro e wz ⟨rfl,hbz⟩;have HW:=Zaa.mk (Zaf HW.out hbz);clear hbz)
   go_ret
   exact⟨rfl,Zaf HBW.out HW.out⟩
end Go.Proofs.YtpagbjdmiepgmaaGreatDoor.PVpa
