/- Joined from texts of this seat, in their order. -/
import Derived.Test.YtpagbjdmiepgmaaGreatDoorJAl
import Derived.Test.YtpagbjdmiepgmaaGreatDoorJAj
set_option linter.unusedVariables false
set_option linter.unusedSimpArgs false
set_option linter.unusedSectionVars false
set_option maxRecDepth 100000
namespace Go.Proofs.YtpagbjdmiepgmaaGreatDoor.PVpa
open Go.RowKit Go.Proofs.YtpagbjdmiepgmaaGreatDoorW.PrintWords Go.Proofs.YtpagbjdmiepgmaaGreatDoorW.PrintLast Go.Proofs.YtpagbjdmiepgmaaGreatDoorW.PrintMore
def Zrw:Nat→List Nat
 | 1=>[0]
 | 2=>[1]
 | 3=>[2]
 | 4=>[3]
 | 5=>[3,4]
 | 6=>[3,5]
 | 7=>[3,6]
 | 8=>[3,7]
 | 9=>[8]
 | 10=>[9]
 | 11=>[9,10]
 | 12=>[9,11]
 | 13=>[9,12]
 | 14=>[9]
 | 15=>[9,13,14]
 | 16=>[9,15]
 | 17=>[9,16]
 | 18=>[9,17]
 | 19=>[9,18]
 | 20=>[19]
 | 21=>[20]
 | 22=>[20,21]
 | 23=>[20,22]
 | 24=>[20,23]
 | 25=>[20]
 | 26=>[20,24,25]
 | 27=>[20,26]
 | 28=>[20,27]
 | 29=>[20]
 | 30=>[20,28,29]
 | 31=>[20,30]
 | 32=>[31]
 | 33=>[32]
 | 34=>[32,33]
 | 35=>[32,34]
 | 36=>[32,35]
 | 37=>[32]
 | 38=>[32,36,37]
 | 39=>[32,38]
 | 40=>[32,39]
 | 41=>[32,40]
 | 42=>[41]
 | 43=>[42]
 | 44=>[42,43]
 | 45=>[42,44]
 | 46=>[42,45]
 | 47=>[42]
 | 48=>[42,47]
 | 49=>[42,48]
 | 50=>[42]
 | 51=>[42,46,49,50]
 | 52=>[42,51]
 | _=>[]
def Zns (gb b9 n0 n1 ni nn ct cr c d3:Nat)(At Ar B3:Option Addr)(ad:Addr)(p sym t u0:Int)(wb:Bool):Nat→Value
 | 0=>.pointer (some ⟨b9,0,none⟩)
 | 1 | 6=>.int .i64 3
 | 2 | 3 | 7 | 8 | 9 | 18 | 19 | 20 | 30 | 31 | 32 | 40 | 41 | 42=>.bool true
 | 4 | 5 | 47=>.pointer (some ⟨b9,1,none⟩)
 | 10 | 11 | 21 | 22 | 33 | 34 | 43 | 44 | 45=>.pointer (some ⟨gb,0,none⟩)
 | 12 | 23 | 35=>.pointer (some ⟨gb,2,none⟩)
 | 13 | 24 | 36=>.slice (some ad) ni c
 | 14 | 25 | 37=>.int .i64 p
 | 15 | 16 | 26 | 38=>.pointer (some (ad.add (p.toNat*11)))
 | 17=>.int .i64 u0
 | 27=>.pointer (some ⟨(ad.add (p.toNat*11)).block,(ad.add (p.toNat*11)).off+10,none⟩)
 | 28 | 29=>.int .i64 sym
 | 39=>.pointer (some ⟨(ad.add (p.toNat*11)).block,(ad.add (p.toNat*11)).off+6,none⟩)
 | 46=>.agg #[.slice At n0 ct,.slice Ar n1 cr]
 | 48=>.pointer (some ⟨b9,3,none⟩)
 | 49=>.slice B3 nn d3
 | 50=>.int .i64 t
 | 51 | 52=>.bool wb
 | _=>undef
set_option maxHeartbeats 8000000 in
theorem Zsw (w:World)(gb:Nat)(G:S26)(its:List S94)(ss:List Int)(h:RR w gb G its ss)(hok:ItsOk its)(hz0:(Zak its 0).f0=0)(p sym t:Int) :
 Calls Tryz.prog 19 #[.pointer (some ⟨gb,0,none⟩),.int .i64 p,.int .i64 sym,.int .i64 t] w (Zea w (retR G its p sym t)):=by
 have HM:=Zaa.mk (Zfj w gb G its ss h p);have HS:=Zaa.mk (Zfj w gb G its ss h sym);have HK:=Zaa.mk (Zfu w gb G its ss h t 2);have HV:=Zaa.mk h;have HOK:=Zaa.mk hok;clear h hok;cases hm:isB its p with
 | false=>
  have e:retR G its p sym t=[]:=by unfold retR;rw[if_neg (by simp[hm])]
  rw[hm]at HM;rw[e];clear e hm
  go_enter Tryz.func19,Tryz.ntmps19
  go_wp2_with (go_at_call 40;refine HM.out.mono ?_;rintro e w1 ⟨rfl,rfl⟩)
  go_ret
  exact Zcv _
 | true=>
 cases hs:isB its sym with
 | false=>
  have e:retR G its p sym t=[]:=by unfold retR;rw[if_neg (by simp[hs])]
  rw[hm]at HM;rw[hs]at HS;rw[e];clear e hm hs
  go_enter Tryz.func19,Tryz.ntmps19
  go_wp2_with (go_at_call 40;first | ((with_reducible refine HM.out.mono ?_);rintro e w1 ⟨rfl,rfl⟩) | ((with_reducible refine HS.out.mono ?_);rintro e w1 ⟨rfl,rfl⟩))
  go_ret
  exact Zcv _
 | true=>
 cases hk:Zga G t 2 with
 | false=>
  have e:retR G its p sym t=[]:=by unfold retR;rw[if_neg (by simp[hk])]
  rw[hm]at HM;rw[hs]at HS;rw[hk]at HK;rw[e];clear e hm hs hk
  go_enter Tryz.func19,Tryz.ntmps19
  go_wp2_with (first | (go_at_call 41;refine HK.out.mono ?_;rintro e w1 ⟨rfl,rfl⟩) | (go_at_call 40;first | ((with_reducible refine HM.out.mono ?_);rintro e w1 ⟨rfl,rfl⟩) | ((with_reducible refine HS.out.mono ?_);rintro e w1 ⟨rfl,rfl⟩)))
  go_ret
  exact Zcv _
 | true=>
 obtain⟨p0,p1⟩:=Zld hm;obtain⟨s0,s1⟩:=Zld hs;have hE:retR G its p sym t=if retK p sym (Zak its sym).f0 (Zak its sym).f1.f0 (Zak its p).f0 (Zak its p).f7 (Zak its p).f3 (Zcm G t (Zak its sym).f1.f2)=true then [sym]else []:=by unfold retR;rw[hm,hs,hk];simp
 rw[hm]at HM;rw[hs]at HS;rw[hk]at HK;clear hm hs hk;obtain⟨At,ct,Ar,cr,A,c,As,cs,hc,_,ht,_,_,_,hi,_⟩:=HV.out.cells;have g0:=(Zac hc 0).trans rfl;have g1:=(Zac hc 1).trans rfl;have g2:=(Zac hc 2).trans rfl;obtain⟨ad,A2,c2,A3,c3,A4,c4,A5,c5,rfl,k0,_,_,_,_,_,k6,_,_,_,k10,_⟩:=Zju hi p p0 p1;obtain⟨ad',B2,d2,B3,d3,B4,d4,B5,d5,e8,m0,m1,m2,m3,m4,m5,m6,m7,m8,m9,m10,_,_,_,u3,_⟩:=Zju hi sym s0 s1;obtain rfl:=Option.some.inj e8;have HU3:=Zaa.mk u3;have HT:=Zaa.mk ht;have HNM:=Zaa.mk (HOK.out.nm sym s0 s1).2;clear hc hi ht e8 u3;generalize (Zak its p).f0=u0 at *;generalize (Zak its p).f3=u3 at *;generalize (Zak its p).f7=u7 at *;have HY0:Zaa (sym=0→(Zak its sym).f0=0):=⟨fun h=>by rw[h];exact hz0⟩
 clear hz0;generalize (Zak its sym).f0=y0 at *;generalize (Zak its sym).f1.f0=yk at *;obtain⟨res,hres⟩:∃res,res=retR G its p sym t:=⟨_,rfl⟩
 rw[←hres]at hE ⊢;clear hres
 go_enter Tryz.func19,Tryz.ntmps19
 go_upto_region 4 with (first | (go_at_call 41;refine HK.out.mono ?_;rintro e w1 ⟨rfl,hw⟩;obtain rfl:=hw.symm) | (go_at_call 40;first | ((with_reducible refine HM.out.mono ?_);rintro e w1 ⟨rfl,hw⟩;obtain rfl:=hw.symm) | ((with_reducible refine HS.out.mono ?_);rintro e w1 ⟨rfl,hw⟩;obtain rfl:=hw.symm)))
 obtain⟨cl,hcl⟩:∃cl:List Value,cl=[.int .i64 y0,.int .i64 yk,.slice B2 (Zak its sym).f1.f1.length d2,.slice B3 (Zak its sym).f1.f2.length d3,.slice B4 (Zak its sym).f1.f3.length d4,.slice B5 (Zak its sym).f2.length d5,.bool (Zak its sym).f3,.int .i64 (Zak its sym).f4,.int .i64 (Zak its sym).f5,.int .i64 (Zak its sym).f6,.int .i64 (Zak its sym).f7]:=⟨_,rfl⟩
 have hb1:=Zae (Below.refl _ w) (.cells #[.int .i64 y0,.int .i64 yk,.slice B2 (Zak its sym).f1.f1.length d2,.slice B3 (Zak its sym).f1.f2.length d3,.slice B4 (Zak its sym).f1.f3.length d4,.slice B5 (Zak its sym).f2.length d5,.bool (Zak its sym).f3,.int .i64 (Zak its sym).f4,.int .i64 (Zak its sym).f5,.int .i64 (Zak its sym).f6,.int .i64 (Zak its sym).f7] 94);have hbk:=Zaq w (.cells #[.int .i64 y0,.int .i64 yk,.slice B2 (Zak its sym).f1.f1.length d2,.slice B3 (Zak its sym).f1.f2.length d3,.slice B4 (Zak its sym).f1.f3.length d4,.slice B5 (Zak its sym).f2.length d5,.bool (Zak its sym).f3,.int .i64 (Zak its sym).f4,.int .i64 (Zak its sym).f5,.int .i64 (Zak its sym).f6,.int .i64 (Zak its sym).f7] 94);have x0:=(Zac hbk 0).trans rfl;have x1:=(Zac hbk 1).trans rfl;have x3:=(Zac hbk 3).trans rfl;have HB:=Zaa.mk hb1;have g0:=Zab hb1 g0;have g1:=Zab hb1 g1;have g2:=Zab hb1 g2;have k0:=Zab hb1 k0;have k6:=Zab hb1 k6;have k10:=Zab hb1 k10;clear m0 m1 m2 m3 m4 m5 m6 m7 m8 m9 m10 hbk hb1 hcl cl;generalize w.alloc (.cells #[.int .i64 y0,.int .i64 yk,.slice B2 (Zak its sym).f1.f1.length d2,.slice B3 (Zak its sym).f1.f2.length d3,.slice B4 (Zak its sym).f1.f3.length d4,.slice B5 (Zak its sym).f2.length d5,.bool (Zak its sym).f3,.int .i64 (Zak its sym).f4,.int .i64 (Zak its sym).f5,.int .i64 (Zak its sym).f6,.int .i64 (Zak its sym).f7] 94)=X at *;generalize w.heap.size=b9 at x0 x1 x3 ⊢;generalize (Zak its sym).f1.f2=nm at *;unfold retK at hE;by_cases hz:sym=0∧p=0
 ·obtain⟨rfl,rfl⟩:=hz;have HE:Zaa (res=[0]):=⟨by rw[hE,if_pos (by simp[])]⟩
  clear hE;go_wp2
  go_ret
  rw[HE.out];exact Zdq _ _ (by repeat (first | exact HB.out | refine Zah ?_ _ | refine Zar ?_ | refine Zam ?_)) 0
 have hz2:((sym==0)&&(p==0))=false:=by
  cases a1:(sym==0) <;> cases a2:(p==0) <;> simp
  exact hz ⟨by simpa using a1,by simpa using a2⟩
 rw[hz2,Bool.false_or]at hE;cases sz:(sym==0)with
 | true=>
  rw[sz,Bool.true_and]at hz2;obtain rfl:y0=0:=HY0.out (by simpa using sz);clear hz;have HE:Zaa (res=[]):=⟨by rw[hE,if_neg (by simp[])]⟩
  clear hE;go_wp2
  go_quiet (fail)
  go_wp2
  go_ret
  rw[HE.out];exact⟨_,rfl,Kd.R_nil _ _ _ _ _,(by repeat (first | exact HB.out | refine Zah ?_ _ | refine Zar ?_ | refine Zam ?_))⟩
 | false=>
  clear hz2 hz;cases y1:(y0==1)with
  | true=>
   cases ps:(p==sym)with
   | true=>
    obtain rfl:p=sym:=by simpa using ps
    have HE:Zaa (res=[p]):=⟨by rw[hE,if_pos (by simp[y1])]⟩
    clear hE;go_wp2
    go_ret
    rw[HE.out];exact Zdq _ _ (by repeat (first | exact HB.out | refine Zah ?_ _ | refine Zar ?_ | refine Zam ?_)) p
   | false=>
    have y3:(y0==3)=false:=by have h:y0=1:=(by simpa using y1);rw[h];rfl
    have HE:Zaa (res=[]):=⟨by rw[hE,if_neg (by simp[y1,ps,y3])]⟩
    clear hE;go_wp2
    go_quiet (fail)
    go_wp2
    go_ret
    rw[HE.out];exact⟨_,rfl,Kd.R_nil _ _ _ _ _,(by repeat (first | exact HB.out | refine Zah ?_ _ | refine Zar ?_ | refine Zam ?_))⟩
  | false=>
   cases y3:(y0==3)with
   | true=>
    cases yk4:(yk==4)with
    | true=>
     have yk3:(yk==3)=false:=by have h:yk=4:=(by simpa using yk4);rw[h];rfl
     cases pz:(p==0)with
     | true=>
      have HE:Zaa (res=[sym]):=⟨by rw[hE,if_pos (by simp[y1,y3,yk4,yk3,pz])]⟩
      clear hE;go_wp2
      go_ret
      rw[HE.out];exact Zdq _ _ (by repeat (first | exact HB.out | refine Zah ?_ _ | refine Zar ?_ | refine Zam ?_)) sym
     | false=>
      have HE:Zaa (res=[]):=⟨by rw[hE,if_neg (by simp[y1,y3,yk4,yk3,pz])]⟩
      clear hE;go_wp2
      go_quiet (fail)
      go_wp2
      go_ret
      rw[HE.out];exact⟨_,rfl,Kd.R_nil _ _ _ _ _,(by repeat (first | exact HB.out | refine Zah ?_ _ | refine Zar ?_ | refine Zam ?_))⟩
    | false=>
     cases yk3:(yk==3)with
     | true=>
      cases gg:(decide (2≤u0))with
      | true=>
       cases ow:(u7==sym)with
       | true=>
        cases en:(u3)with
        | true=>
         subst en;obtain rfl:y0=3:=by simpa using y3
         obtain rfl:yk=3:=by simpa using yk3
         obtain rfl:u7=sym:=by simpa using ow
         have HBQ:Zaa (res=if Zcm G t nm=true then [u7]else []):=⟨by rw[hE];simp[y1,y3,yk4,yk3,gg,ow]⟩
         have HWI:=Zaa.mk (fun (W':World) (hb:Below X.heap.size X W')=>Zdw W' At Ar ct G.f1.length cr G (Kd.C_below HT.out (Zaf HB.out hb)) B3 d3 nm (Kd.C_below HU3.out (Zaf HB.out hb)) (by have:=HNM.out;omega) t);clear hE;generalize Zcm G t nm=wb at *;go_wp2
         refine Zeb 53 _ Zrw (Zns gb b9 G.f0.length G.f1.length its.length nm.length ct cr c d3 At Ar B3 ad p u7 t u0 wb) Zca (by kernel_rfl) (by kernel_rfl) (by kernel_rfl) rfl Zbk Zbf ?step ?fin
         case step=>
          refine⟨?_,?_,?_,?_,?_,?_,?_,?_,?_,?_,?_,?_,?_,?_,?_,?_,?_,?_,?_,?_,?_,?_,?_,?_,?_,?_,?_,?_,?_,?_,?_,?_,?_,?_,?_,?_,?_,?_,?_,?_,?_,?_,?_,?_,?_,?_,?_,?_,?_,?_,?_,?_,?_,trivial⟩ <;> intro W hR0 <;> have hR:=Zaf (Zam (Below.refl _ X)) hR0
          all_goals try (
           first | refine Zal rfl (Zad (W':=W) ?_ ⟨Zbr,rfl⟩) | refine Zbo (by simp only[Zao,Zrw,Zai,Zns];rfl) (Zad (W':=W) ?_ ⟨Zbr,rfl⟩)
           have c0:=Zab hR x0;have c1:=Zab hR x1;have c2:=Zab hR x3;have c3:=Zab hR k0;have c4:=Zab hR k6;have c5:=Zab hR k10;have c6:=Zab hR g0;have c7:=Zab hR g1;have c8:=Zab hR g2;simp only[Zao,Zrw,Zai,Zns];go_simp
           done)
          ·refine Zbo (by simp only[Zao,Zrw,Zai,Zns];rfl) (Zbi (W':=W) (f:=42) (args:=#[.agg #[.slice At G.f0.length ct,.slice Ar G.f1.length cr],.slice B3 nm.length d3,.int .i64 t]) ?_ ((HWI.out W hR).mono ?_))
           ·simp only[Zao,Zrw,Zai,Zns];go_simp
           ·rintro e w1 ⟨rfl,hb⟩;exact⟨_,rfl,hb,rfl⟩
         case fin=>
          intro W hR0;have hR:=Zaf (Zam (Below.refl _ X)) hR0;clear hR0;rw[show List.range 53=[0,1,2,3,4,5,6,7,8,9,10,11,12,13,14,15,16,17,18,19,20,21,22,23,24,25,26,27,28,29,30,31,32,33,34,35,36,37,38,39,40,41,42,43,44,45,46,47,48,49,50,51,52]from rfl];simp only[Zao,Zai,Zns,Act.put,List.getElem?_toArray,List.getElem?_cons_zero,List.getElem?_cons_succ,Option.bind_some,List.setIfInBounds_toArray,List.set_cons_zero,List.set_cons_succ,List.drop_succ_cons,List.drop_zero];have HB5:=Zaa.mk (Zaf HB.out hR);clear hR;cases wb
          case' true=>
           have HRS:=Zaa.mk (show res=[u7] by rw[HBQ.out];simp);clear HBQ;go_wp2
           go_ret
           rw[HRS.out];exact Zdq _ _ (by repeat (first | exact HB5.out | refine Zah ?_ _ | refine Zar ?_)) u7
          case' false=>
           have HRS:=Zaa.mk (show res=[] by rw[HBQ.out];simp);clear HBQ;go_wp2
           go_ret
           rw[HRS.out];exact⟨_,rfl,Kd.R_nil _ _ _ _ _,(by repeat (first | exact HB5.out | refine Zah ?_ _ | refine Zar ?_))⟩
        | false=>
         subst en;have HE:Zaa (res=[]):=⟨by rw[hE,if_neg (by simp[y1,y3,yk4,yk3,gg,ow])]⟩
         clear hE;go_wp2
         go_quiet (fail)
         go_wp2
         go_ret
         rw[HE.out];exact⟨_,rfl,Kd.R_nil _ _ _ _ _,(by repeat (first | exact HB.out | refine Zah ?_ _ | refine Zar ?_ | refine Zam ?_))⟩
       | false=>
        have HE:Zaa (res=[]):=⟨by rw[hE,if_neg (by simp[y1,y3,yk4,yk3,gg,ow])]⟩
        clear hE;go_wp2
        go_quiet (fail)
        go_wp2
        go_ret
        rw[HE.out];exact⟨_,rfl,Kd.R_nil _ _ _ _ _,(by repeat (first | exact HB.out | refine Zah ?_ _ | refine Zar ?_ | refine Zam ?_))⟩
      | false=>
       have HE:Zaa (res=[]):=⟨by rw[hE,if_neg (by simp[y1,y3,yk4,yk3,gg])]⟩
       clear hE;go_wp2
       go_quiet (fail)
       go_wp2
       go_ret
       rw[HE.out];exact⟨_,rfl,Kd.R_nil _ _ _ _ _,(by repeat (first | exact HB.out | refine Zah ?_ _ | refine Zar ?_ | refine Zam ?_))⟩
     | false=>
      have HE:Zaa (res=[]):=⟨by rw[hE,if_neg (by simp[y1,y3,yk4,yk3])]⟩
      clear hE;go_wp2
      go_quiet (fail)
      go_wp2
      go_ret
      rw[HE.out];exact⟨_,rfl,Kd.R_nil _ _ _ _ _,(by repeat (first | exact HB.out | refine Zah ?_ _ | refine Zar ?_ | refine Zam ?_))⟩
   | false=>
    have HE:Zaa (res=[]):=⟨by rw[hE,if_neg (by simp[y1,y3])]⟩
    clear hE;go_wp2
    go_quiet (fail)
    go_wp2
    go_ret
    rw[HE.out];exact⟨_,rfl,Kd.R_nil _ _ _ _ _,(by repeat (first | exact HB.out | refine Zah ?_ _ | refine Zar ?_ | refine Zam ?_))⟩
end Go.Proofs.YtpagbjdmiepgmaaGreatDoor.PVpa
