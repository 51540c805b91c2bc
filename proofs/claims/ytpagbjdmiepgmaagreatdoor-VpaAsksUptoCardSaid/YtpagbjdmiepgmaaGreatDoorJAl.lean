/- Joined from texts of this seat, in their order. -/
import Derived.Test.YtpagbjdmiepgmaaGreatDoorJAk
import Derived.Test.YtpagbjdmiepgmaaGreatDoorJAj
import Derived.Test.YtpagbjdmiepgmaaGreatDoorJAd
import Derived.Test.YtpagbjdmiepgmaaGreatDoorJAb
set_option linter.unusedVariables false
set_option linter.unusedSimpArgs false
set_option linter.unusedSectionVars false
set_option maxRecDepth 100000
namespace Go.Proofs.YtpagbjdmiepgmaaGreatDoor.PVpa
open Go.RowKit Go.Proofs.YtpagbjdmiepgmaaGreatDoorW.PrintWords Go.Proofs.YtpagbjdmiepgmaaGreatDoorW.PrintLast Go.Proofs.YtpagbjdmiepgmaaGreatDoorW.PrintMore
theorem posL_end (x:Int):∀l:List Int,(∀y∈l,y<x)→Zhb x l=l.length
 | [],_=>rfl
 | y :: r,h=>by
  unfold Zhb;rw[if_pos (h y List.mem_cons_self),posL_end x r (fun z hz=>h z (List.mem_cons_of_mem _ hz))]
  rfl
def okR (G:S26)(its:List S94)(t q:Int):Bool:=((Zak its q).f1.f0==4)||(((Zak its q).f1.f0==2)&&Zcm G t (Zak its q).f1.f1)
def intR (G:S26)(its:List S94)(p t:Int):List Int:=if isB its p=true∧(t=-1∨Zga G t 0=true)then (if (Zak its p).f0<2 then [p]else (Zak its p).f2.filter (okR G its t))else []
structure ItsOk (its:List S94):Prop where
 len:its.length≤90000
 nx:∀p:Int,0≤p→p<its.length→Ris its.length (Zak its p).f2
 nm:∀p:Int,0≤p→p<its.length→(Zak its p).f1.f1.length≤100000∧(Zak its p).f1.f2.length≤100000
theorem addL_snoc (l:List Int)(q:Int)(h:∀y∈l,y<q):addL l [q]=l++[q]:=by
 show Zty (rd [q] (0:Nat)) l=_;have e:rd [q] ((0:Nat):Int)=q:=rfl;rw[e];unfold Zty;rw[posL_end q l h,if_neg (by omega),List.take_length,List.drop_length,List.append_nil]
theorem take_lt {l:List Int}(h:l.Pairwise (·<·)){k:Nat}(hk:k<l.length)(f:Int→Bool):∀y∈(l.take k).filter f,y<rd l k:=fun y hy=>by
 have h1:=(List.mem_filter.1 hy).1;obtain⟨i,hi,rfl⟩:=List.mem_take_iff_getElem.1 h1;have hik:i<k:=by omega
 have e:rd l k=l[k]:=by simp[rd,List.getD_eq_getElem?_getD,List.getElem?_eq_getElem hk]
 rw[e];exact List.pairwise_iff_getElem.1 h i k (by omega) hk hik
theorem add_one (A0:Option Addr)(c0:Nat)(l0:List Int)(A1:Option Addr)(c1:Nat)(q:Int)(w:World)(h0:(Kd.int .i64).C w A0 l0.length l0)(h1:(Kd.int .i64).C w A1 1 [q])(hf:l0.length≤999999)(hl:∀y∈l0,y<q) :
 Calls Tryz.prog 43 #[.slice A0 l0.length c0,.slice A1 1 c1] w fun e w'=>∃v,e=.returned v∧(Kd.int .i64).R 3 w' w.heap.size (fun _=>True) v (l0++[q])∧Below w.heap.size w w':=by
 have h:=Add_call A0 c0 l0 A1 c1 [q] w h0 h1 (by simp;omega);rw[addL_snoc l0 q hl]at h;exact h
set_option maxHeartbeats 4000000 in
theorem Zsx (w:World)(gb:Nat)(G:S26)(its:List S94)(ss:List Int)(h:RR w gb G its ss)(hok:ItsOk its)(p t:Int) :
 Calls Tryz.prog 14 #[.pointer (some ⟨gb,0,none⟩),.int .i64 p,.int .i64 t] w (Zea w (intR G its p t)):=by
 have HM:=Zaa.mk (Zfj w gb G its ss h p);have HK:=Zaa.mk (Zfu w gb G its ss h t 0);have HV:=Zaa.mk h;have HOK:=Zaa.mk hok;obtain⟨At,ct,Ar,cr,A,c,As,cs,hc,_,_,_,_,lc,hi,_⟩:=h.cells;have g2:w.cell? ⟨gb,2,none⟩=some (.slice A its.length c):=(Zac hc 2).trans rfl;have HI:=Zaa.mk hi;clear h hc hi lc hok;cases hm:isB its p with
 | false=>
  have e:intR G its p t=[]:=by unfold intR;rw[if_neg (by simp[hm])]
  rw[hm]at HM;rw[e];clear e hm
  go_enter Tryz.func14,Tryz.ntmps14
  go_wp2_with (go_at_call 40;refine HM.out.mono ?_;rintro e w1 ⟨rfl,rfl⟩)
  go_ret
  exact Zcv _
 | true=>
  rw[hm]at HM;have hm2:=hm;unfold isB at hm2;simp only[Bool.and_eq_true,decide_eq_true_eq]at hm2;obtain⟨p0,p1⟩:=hm2;by_cases hT:t=-1∨Zga G t 0=true
  rotate_left
  ·have e:intR G its p t=[]:=by unfold intR;rw[if_neg (by simp[hT])]
   have ht:(t != -1)=true:=by simp only[bne_iff_ne,ne_eq];exact fun h=>hT (.inl h)
   have hk:Zga G t 0=false:=by simpa using fun h=>hT (.inr h)
   rw[hk]at HK;rw[e];clear e hm hT hk
   go_enter Tryz.func14,Tryz.ntmps14
   go_wp2_with (first | (go_at_call 40;refine HM.out.mono ?_;rintro e w1 ⟨rfl,rfl⟩) | (go_at_call 41;refine HK.out.mono ?_;rintro e w1 ⟨rfl,rfl⟩))
   go_ret
   exact Zcv _
  have hE:intR G its p t=if (Zak its p).f0<2 then [p]else (Zak its p).f2.filter (okR G its t):=by unfold intR;rw[if_pos ⟨hm,hT⟩]
  have HT:Zaa ((t != -1)=true→Zga G t 0=true):=⟨fun h=>hT.elim (fun e=>by rw[e]at h;exact absurd h (by decide)) id⟩
  have hnx:=HOK.out.nx p p0 p1;obtain⟨ad,A2,c2,A3,c3,A4,c4,A5,c5,rfl,k0,_,_,_,_,k5,_,_,_,_,_,_,_,_,_,_,_,l5,f5⟩:=Zju HI.out p p0 p1;have HN5:=Zaa.mk f5;have HNX:=Zaa.mk hnx;rw[hE];clear hE hm hT hnx f5 l5;generalize (Zak its p).f0=f0 at *;obtain⟨L,hL⟩:∃L,L=(Zak its p).f2:=⟨_,rfl⟩
  rw[←hL]at k5 HN5 HNX ⊢;clear hL;by_cases h2:f0<2
  ·have q2:decide (f0<2)=true:=decide_eq_true h2;rw[if_pos h2];clear h2;cases ht:(t != -1)with
   | false=>
    clear HT
    go_enter Tryz.func14,Tryz.ntmps14
    go_wp2_with (go_at_call 40;refine HM.out.mono ?_;rintro e w1 ⟨rfl,rfl⟩)
    go_ret
    exact Zdq _ _ Zbr p
   | true=>
    rw[HT.out ht]at HK;clear HT
    go_enter Tryz.func14,Tryz.ntmps14
    go_wp2_with (first | (go_at_call 40;refine HM.out.mono ?_;rintro e w1 ⟨rfl,rfl⟩) | (go_at_call 41;refine HK.out.mono ?_;rintro e w1 ⟨rfl,rfl⟩))
    go_ret
    exact Zdq _ _ Zbr p
  have q2:decide (f0<2)=false:=decide_eq_false h2;rw[if_neg h2];clear h2;have HLL:Zaa (L.length≤90000):=⟨by have:=HNX.out.len;have:=HOK.out.len;omega⟩
  cases ht:(t != -1)
  case' false=>
   clear HT
   go_enter Tryz.func14,Tryz.ntmps14
   go_upto_region 5 with (go_at_call 40;refine HM.out.mono ?_;rintro e w1 ⟨rfl,hw⟩;obtain rfl:=hw.symm)
  case' true=>
   rw[HT.out ht]at HK;clear HT
   go_enter Tryz.func14,Tryz.ntmps14
   go_upto_region 5 with (first | (go_at_call 40;refine HM.out.mono ?_;rintro e w1 ⟨rfl,hw⟩;obtain rfl:=hw.symm) | (go_at_call 41;refine HK.out.mono ?_;rintro e w1 ⟨rfl,hw⟩;obtain rfl:=hw.symm))
  all_goals (
   clear ht q2 k0;go_wp2
   go_loopw [7,8] (fun u i wr=>∃k:Nat,k≤L.length∧i=.int .i64 k∧Zaa ((Kd.int .i64).R 3 wr w.heap.size (fun _=>True) u ((L.take k).filter (okR G its t)))∧Zaa (Below w.heap.size w wr)) (fun _ i _=>L.length-(intOf i).toNat)
   case atStart=>exact⟨0,Nat.zero_le _,rfl,⟨Kd.R_nil _ _ _ _ _⟩,⟨Zbr⟩⟩
   case round=>
    obtain⟨k,hk,rfl,HU,HB⟩:=hrel;have g2:=Zab HB.out g2;have k5:=Zab HB.out k5;by_cases hkl:k<L.length
    ·have HR:=HNX.out.2 (rd L k) (Zfv hkl);obtain⟨q,hq⟩:∃q,q=rd L k:=⟨_,rfl⟩
     obtain⟨a2,rfl,hq0⟩:=Kd.at_int (Kd.C_below HN5.out HB.out) (k:Int) (by omega) (by omega);rw[Int.toNat_natCast,←hq]at hq0;rw[←hq]at HR;obtain⟨q0,q1⟩:=HR;obtain⟨ad',B2,d2,B3,d3,B4,d4,B5,d5,e8,_,m1,m2,m3,m4,_,_,_,_,_,_,n2,s2,_⟩:=Zju HI.out q q0 q1;obtain rfl:=Option.some.inj e8;have m1:=Zab HB.out m1;have m2:=Zab HB.out m2;have m3:=Zab HB.out m3;have m4:=Zab HB.out m4;have HS2:=Zaa.mk (Kd.C_below s2 HB.out);have HS3:=Zaa.mk (HOK.out.nm q q0 q1).1;have hF:=Zmn (f:=okR G its t) hkl;rw[←hq]at hF;have HLT:Zaa (∀y∈(L.take k).filter (okR G its t),y<q):=⟨by rw[hq];exact take_lt HNX.out.1 hkl _⟩
     have HLN:Zaa (((L.take k).filter (okR G its t)).length≤90000):=⟨by have h1:=List.length_filter_le (okR G its t) (L.take k);rw[List.length_take]at h1;have:=HLL.out;omega⟩
     have HFE:Zaa (okR G its t q=(((Zak its q).f1.f0==4)||(((Zak its q).f1.f0==2)&&Zcm G t (Zak its q).f1.f1))):=⟨rfl⟩
     have HF:=Zaa.mk hF;have HKL:=Zaa.mk hkl;have HVW:=Zaa.mk (HV.out.below HB.out);clear hF hq s2 n2 e8;generalize okR G its t q=bq at HF HFE;obtain⟨O,hO⟩:∃O,O=(L.take k).filter (okR G its t):=⟨_,rfl⟩
     rw[←hO]at HU HF HLT HLN;clear hO;obtain⟨Au,cu,rfl⟩:=Kd.R_slice HU.out;generalize (Zak its q).f1.f0=fk at *
     go_upto_region 11 with (fail)
     have HBX:=Zaa.mk (Zae HB.out (.cells #[.int .i64 fk,.slice B2 (Zak its q).f1.f1.length d2,.slice B3 (Zak its q).f1.f2.length d3,.slice B4 (Zak its q).f1.f3.length d4] 76));have HUX:=Zaa.mk (Kd.R_below HU.out (Zae (Below.refl _ wr) (.cells #[.int .i64 fk,.slice B2 (Zak its q).f1.f1.length d2,.slice B3 (Zak its q).f1.f2.length d3,.slice B4 (Zak its q).f1.f3.length d4] 76)));have HVX:=Zaa.mk (HVW.out.below (Zae (Below.refl _ wr) (.cells #[.int .i64 fk,.slice B2 (Zak its q).f1.f1.length d2,.slice B3 (Zak its q).f1.f2.length d3,.slice B4 (Zak its q).f1.f3.length d4] 76)));have HSX:=Zaa.mk (Kd.C_below HS2.out (Zae (Below.refl _ wr) (.cells #[.int .i64 fk,.slice B2 (Zak its q).f1.f1.length d2,.slice B3 (Zak its q).f1.f2.length d3,.slice B4 (Zak its q).f1.f3.length d4] 76)));have hbk:=Zaq wr (.cells #[.int .i64 fk,.slice B2 (Zak its q).f1.f1.length d2,.slice B3 (Zak its q).f1.f2.length d3,.slice B4 (Zak its q).f1.f3.length d4] 76);have x0:=(Zac hbk 0).trans rfl;have x1:=(Zac hbk 1).trans rfl;clear HU HB HS2 HVW hbk m1 m2 m3 m4 g2 k5 hq0;generalize wr.alloc (.cells #[.int .i64 fk,.slice B2 (Zak its q).f1.f1.length d2,.slice B3 (Zak its q).f1.f2.length d3,.slice B4 (Zak its q).f1.f3.length d4] 76)=X at *;generalize wr.heap.size=b10 at *;generalize (Zak its q).f1.f1=nm at *;have HAD:=Zaa.mk (fun (W':World) (g:Nat) (hb:Below X.heap.size X W') (hg:g=W'.heap.size)=>(show Calls Tryz.prog 43 #[.slice Au O.length cu,.slice (some ⟨g,0,none⟩) 1 1] (W'.alloc (.cells #[.int .i64 q] 3)) _ from add_one Au cu O (some ⟨g,0,none⟩) 1 q (W'.alloc (.cells #[.int .i64 q] 3)) (Kd.C_below (Kd.R_reads' HUX.out).2.2 (Zae hb _)) (one_C hg _) (by have:=HLN.out;omega) HLT.out));cases e4:(fk==4)
     case' true=>
      have HBQ:Zaa (bq=true):=⟨by rw[HFE.out,e4];rfl⟩
      go_quiet (fail)
      go_wp2_with (go_at_call 43;(with_reducible refine (HAD.out _ _ ?hb ?hg).mono ?_);(case hb=>exact (by repeat (first | exact Zbr | exact HB5.out | refine Zah ?_ _ | refine Zar ?_ | refine Zam ?_)));(case hg=>simp);rintro e w9 ⟨u9,rfl,hu9,hb9⟩;obtain⟨A9,c9,hv9⟩:=Kd.R_slice hu9;rw[List.length_append,List.length_singleton]at hv9;subst hv9;have HB9:=Zaa.mk (Zaf (Zae (Zaf HBX.out ((by repeat (first | exact Zbr | exact HB5.out | refine Zah ?_ _ | refine Zar ?_ | refine Zam ?_)))) _) hb9);have HU9:=Zaa.mk (Kd.R_lower hu9 (Zae (Zaf HBX.out ((by repeat (first | exact Zbr | exact HB5.out | refine Zah ?_ _ | refine Zar ?_ | refine Zam ?_)))) _).size);clear hu9 hb9)
      go_roundw
      case rel=>exact⟨k+1,HKL.out,by rw[Zbz k (by have:=HKL.out;have:=HLL.out;omega)],⟨by rw[HF.out,HBQ.out,if_pos rfl];exact HU9.out⟩,HB9⟩
      case measure=>exact Zcc L.length k HKL.out (by have:=HLL.out;omega)
     case' false=>
      cases e2:(fk==2)
      case' false=>
       have HBQ:Zaa (bq=false):=⟨by rw[HFE.out,e4,e2];rfl⟩
       go_quiet (fail)
       go_wp2
       go_roundw
       case rel=>exact⟨k+1,HKL.out,by rw[Zbz k (by have:=HKL.out;have:=HLL.out;omega)],⟨by rw[HF.out,HBQ.out,if_neg (by simp),List.append_nil];exact Kd.R_below HUX.out ((by repeat (first | exact Zbr | exact HB5.out | refine Zah ?_ _ | refine Zar ?_ | refine Zam ?_)))⟩,⟨Zaf HBX.out ((by repeat (first | exact Zbr | exact HB5.out | refine Zah ?_ _ | refine Zar ?_ | refine Zam ?_)))⟩⟩
       case measure=>exact Zcc L.length k HKL.out (by have:=HLL.out;omega)
      case' true=>
       have HBQ2:Zaa (bq=Zcm G t nm):=⟨by rw[HFE.out,e4,e2];rfl⟩
       obtain⟨At',ct',Ar',cr',A',c',As',cs',hc',_,ht',_⟩:=HVX.out.cells;have g0:=(Zac hc' 0).trans rfl;have g1:=(Zac hc' 1).trans rfl;have HWI:=Zaa.mk (fun (W':World) (hb:Below X.heap.size X W')=>Zdw W' At' Ar' ct' G.f1.length cr' G (Kd.C_below ht' hb) B2 d2 nm (Kd.C_below HSX.out hb) (by have:=HS3.out;omega) t);clear hc' ht';generalize Zcm G t nm=wb at *;refine Zdb ?_
       go_region_law (first | (go_simp;go_at_call 42;(with_reducible refine (HWI.out _ (by repeat (first | exact Zbr | refine Zah ?_ _ | refine Zar ?_ | refine Zam ?_))).mono ?_);rintro e w5 ⟨rfl,hb5⟩;have HB5:=Zaa.mk (Zaf (w:=X) (by repeat (first | exact Zbr | refine Zah ?_ _ | refine Zar ?_ | refine Zam ?_)) hb5);clear hb5) | fail)
       all_goals (
        cases wb
        case' true=>
         have HBQ:=HBQ2
         go_wp2_with (go_at_call 43;(with_reducible refine (HAD.out _ _ ?hb ?hg).mono ?_);(case hb=>exact (by repeat (first | exact Zbr | exact HB5.out | refine Zah ?_ _ | refine Zar ?_ | refine Zam ?_)));(case hg=>simp);rintro e w9 ⟨u9,rfl,hu9,hb9⟩;obtain⟨A9,c9,hv9⟩:=Kd.R_slice hu9;rw[List.length_append,List.length_singleton]at hv9;subst hv9;have HB9:=Zaa.mk (Zaf (Zae (Zaf HBX.out ((by repeat (first | exact Zbr | exact HB5.out | refine Zah ?_ _ | refine Zar ?_ | refine Zam ?_)))) _) hb9);have HU9:=Zaa.mk (Kd.R_lower hu9 (Zae (Zaf HBX.out ((by repeat (first | exact Zbr | exact HB5.out | refine Zah ?_ _ | refine Zar ?_ | refine Zam ?_)))) _).size);clear hu9 hb9)
         go_roundw
         case rel=>exact⟨k+1,HKL.out,by rw[Zbz k (by have:=HKL.out;have:=HLL.out;omega)],⟨by rw[HF.out,HBQ.out,if_pos rfl];exact HU9.out⟩,HB9⟩
         case measure=>exact Zcc L.length k HKL.out (by have:=HLL.out;omega)
        case' false=>
         have HBQ:=HBQ2;go_wp2
         go_roundw
         case rel=>exact⟨k+1,HKL.out,by rw[Zbz k (by have:=HKL.out;have:=HLL.out;omega)],⟨by rw[HF.out,HBQ.out,if_neg (by simp),List.append_nil];exact Kd.R_below HUX.out ((by repeat (first | exact Zbr | exact HB5.out | refine Zah ?_ _ | refine Zar ?_ | refine Zam ?_)))⟩,⟨Zaf HBX.out ((by repeat (first | exact Zbr | exact HB5.out | refine Zah ?_ _ | refine Zar ?_ | refine Zam ?_)))⟩⟩
         case measure=>exact Zcc L.length k HKL.out (by have:=HLL.out;omega))
    ·obtain rfl:k=L.length:=by omega
     have HU2:=HU.out;rw[List.take_length]at HU2;have HU3:=Zaa.mk HU2;clear HU2;go_wp2
     go_ret
     exact⟨_,rfl,HU3.out,HB.out⟩)
theorem bothL_nil {l:List Int}(h:l.Pairwise (·<·)):Zay l []=l:=Zlq _ _ (Zfw _ _) h (fun x=>by rw[Zbp];simp)
theorem Zfq (G:S26)(t:Int)(l:List ByteArray)(ht:t<G.f0.length):Zcm G t l=Zdp G t l:=by
 unfold Zcm Zdp hasS;by_cases h0:0≤t
 ·rw[decide_eq_true h0,Bool.true_and]
  congr 1
  funext y
  unfold Zin;rw[decide_eq_true h0,decide_eq_true ht]
  rfl
 ·rw[decide_eq_false h0,Bool.false_and];refine List.any_eq_false.2 (fun y _=>?_);unfold Zin;rw[decide_eq_false h0];simp
theorem okR_okI {G:S26}{M:Mach}{its:List S94}(hr:Rel ⟨M.pl,M.sh⟩ its)(t q:Int)(ht:t<G.f0.length)(h0:0≤q)(h1:q<M.pl.length):okR G its t q=okI G M t q:=by
 have h2:(Zak its q).f1=(Zbe M.pl q).p:=(hr.at_ q.toNat (by show q.toNat<M.pl.length;omega)).p;unfold okR okI;rw[h2,Zfq G t _ ht];generalize (Zbe M.pl q).p.f0=f;by_cases a:f=4 <;> by_cases b:f=2 <;> simp[a,b]
theorem Zpf {M:Mach}{φ:Nat→Nat}{its:List S94}(ok:M.Ok φ)(hr:Rel ⟨M.pl,M.sh⟩ its){p:Int}(p0:0≤p)(p1:p<M.pl.length)(hk:(Zbe M.pl p).kind=2∨(Zbe M.pl p).kind=3):(Zak its p).f2=Zdo M p:=by
 have hi:=hr.at_ p.toNat (by show p.toNat<M.pl.length;omega);unfold Zdo
 rcases hk with h | h
 ·rw[if_pos h];obtain⟨k,hs⟩:=ok.begins p p0 p1 h;rw[hs];exact ((hi.fin k hs _ (ok.shape p p0 p1 k hs)).2.2.2.2 h).1
 ·rw[if_neg (by omega)];exact hi.item h
theorem may_iff {G:S26}{M:Mach}{its:List S94}(hl:its.length=M.pl.length)(p t:Int):(isB its p=true∧(t=-1∨Zga G t 0=true))↔Zja G M p t 0=true:=by
 unfold isB Zga Zja;rw[hl];by_cases p0:0≤p <;> by_cases p1:p<M.pl.length <;> by_cases h0:0≤t <;> by_cases h1:t<G.f0.length <;> by_cases h2:(Zow G t).f1=0 <;> simp[p0,p1,h0,h1,h2] <;> omega
theorem int_eq {G:S26}{M:Mach}{φ:Nat→Nat}{its:List S94}(ok:M.Ok φ)(hr:Rel ⟨M.pl,M.sh⟩ its)(hg:Good ⟨M.pl,M.sh⟩)(hkd:∀i:Int,0≤i→i<M.pl.length→0≤(Zbe M.pl i).kind∧(Zbe M.pl i).kind≤3)(p t:Int):intR G its p t=Ztx G M p t:=by
 have hl:its.length=M.pl.length:=hr.len;have hm:=may_iff (G:=G) hl p t;unfold intR Ztx;by_cases hM:Zja G M p t 0=true
 ·rw[if_pos (hm.2 hM),if_pos hM];obtain⟨p0,p1,ht,_⟩:=Zgh hM;have hk:(Zak its p).f0=(Zbe M.pl p).kind:=(hr.at_ p.toNat (by show p.toNat<M.pl.length;omega)).kind;have hb:=hkd p p0 p1;unfold Zgy;rw[hk];by_cases h2:(Zbe M.pl p).kind<2
  ·rw[if_pos h2,if_pos (by rcases (show (Zbe M.pl p).kind=0∨(Zbe M.pl p).kind=1 by omega)with h | h <;> simp[h])]
  ·rw[if_neg h2,if_neg (by simp;omega),Zpf ok hr p0 p1 (by omega)];have h3:=hr.nx hg p.toNat;have h4:(Zak its p).f2.Pairwise (·<·):=h3.1;rw[Zpf ok hr p0 p1 (by omega)]at h4;have h5:=(Zhy ok p0 p1).2;rw[bothL_nil (h4.sublist List.filter_sublist)];exact List.filter_congr (fun q hq=>okR_okI hr t q ht (h5 q hq).1 (h5 q hq).2)
 ·rw[if_neg (fun h=>hM (hm.1 h)),if_neg hM]
structure Ext (s:St):Prop where
 z:∀q,(s.pl.getD q zPl).kind≠3→(s.pl.getD q zPl).p.f0=0∧(s.pl.getD q zPl).follow=[]
 inn:∀q k,(s.pl.getD q zPl).inner=some k→k=q+1∧∃y,(k,y)∈s.sh∧y.rule<0
 uniq:∀k y y',(k,y)∈s.sh→(k,y')∈s.sh→y=y'
 kind:∀q,0<q→q<s.pl.length→(s.pl.getD q zPl).kind≠0
 keys:∀k y,(k,y)∈s.sh→k<s.pl.length
theorem Ext.add {s:St}(h:Ext s){x:Pl}(hz:x.kind≠3→x.p.f0=0∧x.follow=[])(hi:x.inner=none)(hk:x.kind≠0):Ext (s.add x):=by
 have hl:(s.add x).pl.length=s.pl.length+1:=by simp[St.add]
 have e:∀q,(s.add x).pl.getD q zPl=if q=s.pl.length then x else s.pl.getD q zPl:=fun q=>Zcg s.pl x q
 refine⟨fun q hq=>?_,fun q k hk2=>?_,h.uniq,fun q h0 h1=>?_,fun k y hy=>by have:=h.keys k y hy;omega⟩
 ·rw[e]at hq ⊢;by_cases hh:q=s.pl.length
  ·rw[if_pos hh]at hq ⊢;exact hz hq
  ·rw[if_neg hh]at hq ⊢;exact h.z q hq
 ·rw[e]at hk2;by_cases hh:q=s.pl.length
  ·rw[if_pos hh,hi]at hk2;cases hk2
  ·rw[if_neg hh]at hk2;exact h.inn q k hk2
 ·rw[e];by_cases hh:q=s.pl.length
  ·rw[if_pos hh];exact hk
  ·rw[if_neg hh];exact h.kind q h0 (by omega)
theorem linkK_z (pl:List Pl)(tt frm:List Int)(hf:∀z∈frm,(pl.getD z.toNat zPl).kind=3)(q:Nat)(hq:(pl.getD q zPl).kind≠3):∀k,k≤frm.length→((Zgi pl tt frm k).getD q zPl).follow=(pl.getD q zPl).follow
 | 0,_=>rfl
 | k+1,h=>by
  have ih:=linkK_z pl tt frm hf q hq k (by omega);have hm:=hf _ (Zfv (show k<frm.length by omega));show ((Zco (Zgi pl tt frm k) tt (rd frm k).toNat).getD q zPl).follow=_;unfold Zco;rw[Zda,if_neg (fun hh=>hq (by rw[←hh.1];exact hm))];exact ih
theorem Ext.link {s:St}(h:Ext s){frm tt:List Int}(hf:∀z∈frm,(s.pl.getD z.toNat zPl).kind=3):Ext (s.link frm tt):=by
 have hl:(s.link frm tt).pl.length=s.pl.length:=Zce _ _ _ _;refine⟨fun q hq=>?_,fun q k hk=>?_,h.uniq,fun q h0 h1=>?_,fun k y hy=>by have:=h.keys k y hy;omega⟩
 ·obtain⟨_,_,h3,h4,_⟩:=Zdd s.pl tt frm frm.length q;have hq3:(s.pl.getD q zPl).kind≠3:=fun hh=>hq (h3.trans hh)
  have h5:=h.z q hq3;exact⟨(congrArg S76.f0 h4).trans h5.1,(linkK_z s.pl tt frm hf q hq3 frm.length (Nat.le_refl _)).trans h5.2⟩
 ·exact h.inn q k ((Zdd s.pl tt frm frm.length q).2.1.symm.trans hk)
 ·exact fun hh=>h.kind q h0 (by omega) ((Zdd s.pl tt frm frm.length q).2.2.1.symm.trans hh)
theorem Ext.inner {s:St}(h:Ext s){k b:Nat}(hk:(s.pl.getD k zPl).kind=3)(hb:b=k+1)(hy:∃y,(b,y)∈s.sh∧y.rule<0):Ext (s.inner k b):=by
 have hl:(s.inner k b).pl.length=s.pl.length:=by simp[St.inner]
 have e:∀q,(s.inner k b).pl.getD q zPl=if k=q∧q<s.pl.length then { s.pl.getD k zPl with inner:=some b }else s.pl.getD q zPl:=fun q=>Zda s.pl k q _
 refine⟨fun q hq=>?_,fun q j hj=>?_,h.uniq,fun q h0 h1=>?_,fun j y hy=>by have:=h.keys j y hy;omega⟩
 ·rw[e]at hq ⊢;by_cases hh:k=q∧q<s.pl.length
  ·rw[if_pos hh]at hq;exact absurd hk hq
  ·rw[if_neg hh]at hq ⊢;exact h.z q hq
 ·rw[e]at hj;by_cases hh:k=q∧q<s.pl.length
  ·rw[if_pos hh]at hj;injection hj with hj
   subst hj;obtain⟨rfl,_⟩:=hh;exact⟨hb,hy⟩
  ·rw[if_neg hh]at hj;exact h.inn q j hj
 ·rw[e];by_cases hh:k=q∧q<s.pl.length
  ·rw[if_pos hh];show (s.pl.getD k zPl).kind≠0;omega
  ·rw[if_neg hh];exact h.kind q h0 (by omega)
theorem Ext.close {s:St}(h:Ext s){b:Nat}(hp:Pend b s)(x:Sx)(rule step:Int):Ext (s.close b x rule step):=by
 refine⟨h.z,fun q k hk=>?_,fun k y y' h1 h2=>?_,h.kind,fun k y hy=>?_⟩
 ·obtain⟨h1,y,h2,h3⟩:=h.inn q k hk;exact⟨h1,y,List.mem_append_left _ h2,h3⟩
 ·rcases List.mem_append.1 h1 with h3 | h3 <;> rcases List.mem_append.1 h2 with h4 | h4
  ·exact h.uniq k y y' h3 h4
  ·rw[List.mem_singleton]at h4;injection h4 with e _
   rw[e]at h3;exact absurd h3 (hp.2 y)
  ·rw[List.mem_singleton]at h3;injection h3 with e _
   rw[e]at h4;exact absurd h4 (hp.2 y')
  ·rw[List.mem_singleton]at h3 h4;injection h3 with _ e1
   injection h4 with _ e2
   rw[e1,e2]
 ·rcases List.mem_append.1 hy with h3 | h3
  ·exact h.keys k y h3
  ·rw[List.mem_singleton]at h3;injection h3 with e _
   rw[e];exact hp.1
def WExt (n:Nat):Prop:=∀(b:Nat) (p:S76) (s:St),Ext s→Pend b s→Ext (Zau n b p s).2
theorem begin_pend {s:St}(h:Ext s):Pend s.pl.length (s.add (Zbc s.pl.length)):=⟨by simp[St.add],fun x hx=>by have:=h.keys _ _ hx;omega⟩
theorem patW_ext {n:Nat}(ih:WExt n)(p:S76)(rule step:Int){s:St}(h:Ext s):Ext (Zgn (Zau n) p rule step s):=by
 have h1:Ext (s.add (Zbc s.pl.length)):=h.add (fun _=>⟨rfl,rfl⟩) rfl (by show (2:Int)≠0;decide);have hp:=begin_pend h;exact (ih _ p _ h1 hp).close (hp.walk n _ p) _ _ _
theorem Zpj {b:Nat}{p:S76}{s:St}(h:Ext s):Ext (s.add (Zax b p)):=h.add (fun hk=>absurd rfl hk) rfl (by show (3:Int)≠0;decide)
theorem item1_ext {b:Nat}(p:S76){s:St}(h:Ext s):Ext (Zde b p s):=by
 unfold Zde
 split
 ·refine (Zpj h).link (fun z hz=>?_);rw[List.mem_singleton]at hz;subst hz;show ((s.pl++[Zax b p]).getD ((s.pl.length:Int)).toNat zPl).kind=3;rw[Int.toNat_natCast,Zcg,if_pos rfl]
  rfl
 ·exact Zpj h
theorem within_ext {n:Nat}(ih:WExt n){b:Nat}{p:S76}{s:St}(h:Ext s)(hp:p.f0=3):Ext (Zeh (Zau n) b p s):=by
 have e1:Zde b p s=s.add (Zax b p):=by unfold Zde;rw[if_neg (by omega)]
 unfold Zeh;rw[if_pos hp,e1];have h1:=Zpj (b:=b) (p:=p) h;have h2:=patW_ext ih (Zaj p.f3 0) (-1) (-1) h1;have h3:=Zpd n (Zaj p.f3 0) (-1) (-1) (s.add (Zax b p));have hl:(s.add (Zax b p)).pl.length=s.pl.length+1:=by simp[St.add]
 generalize Zgn (Zau n) (Zaj p.f3 0) (-1) (-1) (s.add (Zax b p))=sp at h2 h3;refine h2.inner ?_ hl ?_
 ·have h4:=(h3.old s.pl.length (by omega)).kind;have e:(s.add (Zax b p)).pl.getD s.pl.length zPl=Zax b p:=by
   show (s.pl++[Zax b p]).getD s.pl.length zPl=_;rw[Zcg,if_pos rfl]
  rw[e]at h4;exact h4
 ·obtain⟨y,hy⟩:=h3.fin;refine⟨y,hy,?_⟩
  rcases h3.keys _ y hy with h5 | ⟨h5,_⟩ | ⟨_,h5,_⟩
  ·have h6:(s.pl.length+1,y)∈s.sh:=by rw[←hl];exact h5
   have:=h.keys _ _ h6;omega
  ·omega
  ·omega
theorem walk_ext:∀n,WExt n
 | 0,_,_,_,h,_=>h
 | n+1,b,p,s,h,hb=>by
  have ih:=walk_ext n;have two:∀q r,Ext (Zau n b r (Zau n b q s).2).2:=fun q r=>ih b r _ (ih b q s h hb) (hb.walk n b q)
  unfold Zau;by_cases c1:p.f0=2∨p.f0=4∨p.f0=3
  ·rw[if_pos c1];show Ext (Zeh (Zau n) b p s);by_cases c3:p.f0=3
   ·exact within_ext ih h c3
   ·unfold Zeh;rw[if_neg c3];exact item1_ext p h
  ·rw[if_neg c1];by_cases c5:p.f0=5
   ·rw[if_pos c5];refine (two _ _).link (fun z hz=>?_);obtain⟨q,rfl,hq⟩:=(Zfc n b (Zaj p.f3 0) s hb).lst z hz;rw[Int.toNat_natCast];exact ((Zfr n b (Zaj p.f3 1) (Zau n b (Zaj p.f3 0) s).2).old q hq.lt).kind.trans hq.kind
   ·rw[if_neg c5];by_cases c6:p.f0=6
    ·rw[if_pos c6];exact two _ _
    ·rw[if_neg c6];by_cases c7:p.f0=7
     ·rw[if_pos c7];refine (ih b _ s h hb).link (fun z hz=>?_);obtain⟨q,rfl,hq⟩:=(Zfc n b (Zaj p.f3 0) s hb).lst z hz;rw[Int.toNat_natCast];exact hq.kind
     ·rw[if_neg c7];exact h
theorem Znx (D:Nat)(i:Int)(r:S52){s:St}(h:Ext s):∀k,Ext (Zaz D i r s k).1
 | 0=>h
 | k+1=>patW_ext (walk_ext D) _ _ _ (Znx D i r h k)
theorem free1_ext (i:Int)(r:S52){s:St}(h:Ext s):Ext (Zcq i r s):=by
 unfold Zcq
 split
 ·exact h.add (fun _=>⟨rfl,rfl⟩) rfl (by show (1:Int)≠0;decide)
 ·exact h
theorem Zse (D:Nat)(G:S26):∀n,Ext (Zaw D G n).st
 | 0=>by
  have e:∀q,(([Zeo]:List Pl).getD q zPl)=if q=0 then Zeo else zPl:=fun q=>by cases q <;> rfl
  refine⟨fun q _=>?_,fun q k hk=>?_,(fun k y y' hy=>by cases hy),(fun q h0 h1=>by have h1:q<1:=h1;omega),(fun k y hy=>by cases hy)⟩
  ·show (([Zeo]:List Pl).getD q zPl).p.f0=0∧(([Zeo]:List Pl).getD q zPl).follow=[]
   rw[e]
   split <;> exact⟨rfl,rfl⟩
  ·have hk:(([Zeo]:List Pl).getD q zPl).inner=some k:=hk;rw[e]at hk
   split at hk <;> cases hk
 | n+1=>Znx D n (Zbm G n) (free1_ext n (Zbm G n) (Zse D G n)) _
theorem Zqi (D:Nat)(i:Int)(r:S52)(s:St):∀n j:Nat,j<n→∃y,((Zaz D i r s n).2.getD j 0,y)∈(Zaz D i r s n).1.sh∧y.rule=i∧y.step=j
 | 0,j,h=>by omega
 | n+1,j,h=>by
  have hp:=Zpd D (Zei r n).f1 i n (Zaz D i r s n).1;have hn:=Zjw D i r s n;have ih:=Zqi D i r s n j;show ∃y,(((Zaz D i r s n).2++[(Zaz D i r s n).1.pl.length]).getD j 0,y)∈(Zgn (Zau D) (Zei r n).f1 i n (Zaz D i r s n).1).sh∧y.rule=i∧y.step=j;rw[Zdz,hn];by_cases hj:j=n
  ·rw[if_pos hj];subst hj;exact⟨⟨_,_,_,i,j⟩,List.mem_append_right _ (List.mem_singleton.2 rfl),rfl,rfl⟩
  ·rw[if_neg hj];obtain⟨y,h1,h2⟩:=ih (by omega);exact⟨y,hp.sh _ _ h1,h2⟩
theorem build_sh (D:Nat)(G:S26):∀n i j:Nat,i<n→j<(Zbm G i).f2.length→∃y,(((Zaw D G n).steps.getD i []).getD j 0,y)∈(Zaw D G n).st.sh∧y.rule=i∧y.step=j
 | 0,i,j,h,_=>by omega
 | n+1,i,j,h,hj=>by
  have ih:=build_sh D G n i j;have hn:=(Zky D G n).n1;show ∃y,((((Zaw D G n).steps++[(Zaz D n (Zbm G n) (Zcq n (Zbm G n) (Zaw D G n).st) (Zbm G n).f2.length).2]).getD i []).getD j 0,y)∈(Zaz D n (Zbm G n) (Zcq n (Zbm G n) (Zaw D G n).st) (Zbm G n).f2.length).1.sh∧y.rule=i∧y.step=j;rw[Zdz,hn];by_cases hi:i=n
  ·rw[if_pos hi];subst hi;exact Zqi D i (Zbm G i) _ _ j hj
  ·rw[if_neg hi];obtain⟨y,h1,h2⟩:=ih (by omega) hj;refine⟨y,(Znw D n (Zbm G n) (Zcq n (Zbm G n) (Zaw D G n).st) _).sh _ _ ?_,h2⟩;have e:(Zcq n (Zbm G n) (Zaw D G n).st).sh=(Zaw D G n).st.sh:=by unfold Zcq;split <;> rfl
   rw[e];exact h1
def Zob (G:S26)(its:List S94)(p:Int):Bool:=isB its p&&(!decide ((Zak its p).f0<2)&&(!decide (0≤(Zak its p).f7)&&((Zak its p).f3&&(!decide ((Zak its p).f5<0)&&((Zak its p).f6==((Zbm G (Zak its p).f5).f2.length:Int)-1)))))
def Zsu (G:S26)(its:List S94)(p:Int):Int:=if Zob G its p=true then (Zak its p).f5 else -1
theorem len_sub1 (n:Nat)(h:n≤1000000):wrap64 ((n:Int)-1)=(n:Int)-1:=(by unfold wrap64;omega)
set_option maxHeartbeats 2000000 in
theorem Zqr (w:World)(gb:Nat)(G:S26)(its:List S94)(ss:List Int)(h:RR w gb G its ss)(hrl:∀q:Int,0≤q→q<its.length→2≤(Zak its q).f0→0≤(Zak its q).f5→(Zak its q).f5<G.f1.length)(hst:∀r:Int,(Zbm G r).f2.length≤1000000)(p:Int) :
 Calls Tryz.prog 23 #[.pointer (some ⟨gb,0,none⟩),.int .i64 p] w fun e w'=>e=.returned (.int .i64 (Zsu G its p))∧Drawn0 w w':=by
 have HM:=Zaa.mk (fun n=>Zfj (w.drewN n) gb G its ss (h.below (Zah Zbr n)) p);obtain⟨At,ct,Ar,cr,A,c,As,cs,hc,_,_,_,hgr,lc,hi,_⟩:=h.cells;have g1:w.cell? ⟨gb,1,none⟩=some (.slice Ar G.f1.length cr):=(Zac hc 1).trans rfl;have g2:w.cell? ⟨gb,2,none⟩=some (.slice A its.length c):=(Zac hc 2).trans rfl;have HI:=Zaa.mk hi;have HG:=Zaa.mk hgr;have HST:=Zaa.mk hst;clear h hc hi lc hgr hst;cases hm:isB its p with
 | false=>
  have e:Zsu G its p=-1:=by unfold Zsu Zob;rw[if_neg (by simp[hm])]
  simp only[hm]at HM;rw[e];clear e hm hrl
  go_enter Tryz.func23,Tryz.ntmps23
  go_upto_region 1 with (fail)
  simp only[List.append_eq,List.cons_append,List.nil_append]
  go_quiet ((go_at_call 40;exact Calls.quiet_of ((HM.out _).mono (fun _ _ ⟨h,hd⟩=>⟨h,0,hd⟩))))
  go_wp2
  go_ret
  exact⟨rfl,by first | exact Drawn0.refl _ | exact (Drawn0.refl _).step _ | exact ((Drawn0.refl _).step _).step _⟩
 | true=>
  simp only[hm]at HM;have hm2:=hm;unfold isB at hm2;simp only[Bool.and_eq_true,decide_eq_true_eq]at hm2;obtain⟨p0,p1⟩:=hm2;have hr:=hrl p p0 p1;obtain⟨ad,A2,c2,A3,c3,A4,c4,A5,c5,rfl,k0,_,_,_,_,_,k6,_,k8,k9,k10,_⟩:=Zju HI.out p p0 p1;have hE:Zsu G its p=if Zob G its p=true then (Zak its p).f5 else -1:=rfl
  unfold Zob at hE;rw[hm,Bool.true_and]at hE;clear hrl hm;generalize (Zak its p).f0=f0 at *;generalize (Zak its p).f3=f3 at *;generalize (Zak its p).f5=f5 at *;generalize (Zak its p).f6=f6 at *;generalize (Zak its p).f7=f7 at *;generalize Zsu G its p=res at *;cases h0:(decide (f0<2))with
  | true=>
   have hres:res=-1:=by rw[hE,if_neg (by simp[h0])]
   clear hE;subst hres
   go_enter Tryz.func23,Tryz.ntmps23
   go_upto_region 1 with (fail)
   simp only[List.append_eq,List.cons_append,List.nil_append]
   go_quiet ((go_at_call 40;exact Calls.quiet_of ((HM.out _).mono (fun _ _ ⟨h,hd⟩=>⟨h,0,hd⟩))))
   go_wp2
   go_ret
   exact⟨rfl,by first | exact Drawn0.refl _ | exact (Drawn0.refl _).step _ | exact ((Drawn0.refl _).step _).step _⟩
  | false=>
   cases h7:(decide (0≤f7))with
   | true=>
    have hres:res=-1:=by rw[hE,if_neg (by simp[h0,h7])]
    clear hE;subst hres
    go_enter Tryz.func23,Tryz.ntmps23
    go_upto_region 1 with (fail)
    simp only[List.append_eq,List.cons_append,List.nil_append]
    go_quiet ((go_at_call 40;exact Calls.quiet_of ((HM.out _).mono (fun _ _ ⟨h,hd⟩=>⟨h,0,hd⟩))))
    go_wp2
    go_ret
    exact⟨rfl,by first | exact Drawn0.refl _ | exact (Drawn0.refl _).step _ | exact ((Drawn0.refl _).step _).step _⟩
   | false=>
    cases h3:(f3)with
    | false=>
     subst h3;have hres:res=-1:=by rw[hE,if_neg (by simp[h0,h7])]
     clear hE;subst hres
     go_enter Tryz.func23,Tryz.ntmps23
     go_upto_region 1 with (fail)
     simp only[List.append_eq,List.cons_append,List.nil_append]
     go_quiet ((go_at_call 40;exact Calls.quiet_of ((HM.out _).mono (fun _ _ ⟨h,hd⟩=>⟨h,0,hd⟩))))
     go_wp2
     go_ret
     exact⟨rfl,by first | exact Drawn0.refl _ | exact (Drawn0.refl _).step _ | exact ((Drawn0.refl _).step _).step _⟩
    | true=>
     subst h3;cases h5:(decide (f5<0))with
     | true=>
      have hres:res=-1:=by rw[hE,if_neg (by simp[h0,h7,h5])]
      clear hE;subst hres
      go_enter Tryz.func23,Tryz.ntmps23
      go_upto_region 1 with (fail)
      simp only[List.append_eq,List.cons_append,List.nil_append]
      go_quiet ((go_at_call 40;exact Calls.quiet_of ((HM.out _).mono (fun _ _ ⟨h,hd⟩=>⟨h,0,hd⟩))))
      go_wp2
      go_ret
      exact⟨rfl,by first | exact Drawn0.refl _ | exact (Drawn0.refl _).step _ | exact ((Drawn0.refl _).step _).step _⟩
     | false=>
      have r0:0≤f5:=by have:=of_decide_eq_false h5;omega
      have r1:=hr (by have:=of_decide_eq_false h0;omega) r0;obtain⟨rd,S2,sc,rfl,_,_,m2,_,_⟩:=Zmx HG.out f5 r0 r1;change w.cell? ⟨_,_,none⟩=some (.slice S2 (Zbm G f5).f2.length sc)at m2;have hw:=len_sub1 _ (HST.out f5);generalize (Zbm G f5).f2.length=n at *;clear hr;cases h6:(f6==(n:Int)-1)with
      | false=>
       have h6b:(f6 != (n:Int)-1)=true:=by simp only[bne,h6];rfl
       have hres:res=-1:=by rw[hE,if_neg (by simp[h0,h7,h5,h6])]
       clear hE;subst hres
       go_enter Tryz.func23,Tryz.ntmps23
       go_upto_region 1 with (fail)
       simp only[List.append_eq,List.cons_append,List.nil_append]
       go_quiet ((go_at_call 40;exact Calls.quiet_of ((HM.out _).mono (fun _ _ ⟨h,hd⟩=>⟨h,0,hd⟩))))
       go_wp2
       go_ret
       exact⟨rfl,by first | exact Drawn0.refl _ | exact (Drawn0.refl _).step _ | exact ((Drawn0.refl _).step _).step _⟩
      | true=>
       have h6b:(f6 != (n:Int)-1)=false:=by simp only[bne,h6];rfl
       have hres:res=f5:=by rw[hE,if_pos (by simp[h0,h7,h5,h6])]
       clear hE;subst hres
       go_enter Tryz.func23,Tryz.ntmps23
       go_upto_region 1 with (fail)
       simp only[List.append_eq,List.cons_append,List.nil_append]
       go_quiet ((go_at_call 40;exact Calls.quiet_of ((HM.out _).mono (fun _ _ ⟨h,hd⟩=>⟨h,0,hd⟩))))
       go_wp2
       go_ret
       exact⟨rfl,by first | exact Drawn0.refl _ | exact (Drawn0.refl _).step _ | exact ((Drawn0.refl _).step _).step _⟩
def retK (p sym y0 yk f0 f7:Int)(f3 wi:Bool):Bool:=((sym==0)&&(p==0))||(((y0==1)&&(p==sym))||(((y0==3)&&((yk==4)&&(p==0)))||((y0==3)&&((yk==3)&&(decide (2≤f0)&&((f7==sym)&&(f3&&wi)))))))
def retR (G:S26)(its:List S94)(p sym t:Int):List Int:=if (isB its p&&(isB its sym&&Zga G t 2))=true∧retK p sym (Zak its sym).f0 (Zak its sym).f1.f0 (Zak its p).f0 (Zak its p).f7 (Zak its p).f3 (Zcm G t (Zak its sym).f1.f2)=true then [sym]else []
theorem Zld {its:List S94}{p:Int}(h:isB its p=true):0≤p∧p<its.length:=by
 unfold isB at h;simpa only [Bool.and_eq_true,decide_eq_true_eq]using h
structure Twin (G:S26)(M:Mach)(φ:Nat→Nat)(its:List S94):Prop where
 ok:M.Ok φ
 rel:Rel ⟨M.pl,M.sh⟩ its
 good:Good ⟨M.pl,M.sh⟩
 kb:KB ⟨M.pl,M.sh⟩
 ext:Ext ⟨M.pl,M.sh⟩
 knd:∀i:Int,0≤i→i<M.pl.length→(((Zbe M.pl i).kind=0∨(Zbe M.pl i).kind=1)∧(Zbe M.pl i).shape=none)∨(((Zbe M.pl i).kind=2∨(Zbe M.pl i).kind=3)∧∃k,(Zbe M.pl i).shape=some k)
 first:0<M.pl.length∧(Zbe M.pl 0).kind=0
 keys:∀k x,(k,x)∈M.sh→x.rule<0∨∃i j:Nat,i<G.f1.length∧x.rule=i∧j<(Zbm G i).f2.length∧x.step=j∧(M.steps.getD i []).getD j 0=k
 steps:∀i j:Nat,i<G.f1.length→j<(Zbm G i).f2.length→((M.steps.getD i []).getD j 0<M.pl.length∧(Zbe M.pl (((M.steps.getD i []).getD j 0:Nat):Int)).kind=2)∧∃y,((M.steps.getD i []).getD j 0,y)∈M.sh∧y.rule=i∧y.step=j
 rows:∀i:Nat,i<G.f1.length→(M.steps.getD i []).length=(Zbm G i).f2.length
 one:∀i:Nat,i<G.f1.length→1≤(Zbm G i).f2.length∧(Zbm G i).f2.length≤1000
 frees:∀i:Int,0≤i→i<M.pl.length→(Zbe M.pl i).kind=1→0≤(Zbe M.pl i).rule∧(Zbe M.pl i).rule<G.f1.length
theorem twin_of {D:Nat}{G:S26}{φ:Nat→Nat}{its:List S94}(ok:(Zaw D G G.f1.length).mach.Ok φ)(hr:Rel (Zaw D G G.f1.length).st its)(hkb:KB (Zaw D G G.f1.length).st)
 (h1:∀i:Nat,i<G.f1.length→1≤(Zbm G i).f2.length∧(Zbm G i).f2.length≤1000):Twin G (Zaw D G G.f1.length).mach φ its:=by
 have hb:=Zky D G G.f1.length;have hrow:=fun i hi=>Zif D G G.f1.length i hi
 refine⟨ok,hr,(Zcy D G G.f1.length).1.st,hkb,Zse D G _,fun i h0 hl=>?_,⟨hb.front.1,hb.front.2.kind⟩,fun k x hk=>?_,fun i j hi hj=>⟨?_,build_sh D G _ i j hi hj⟩,hrow,h1,(Ziz D G).frees⟩
 ·rcases hb.places i.toNat (by have hl:i<((Zaw D G G.f1.length).st.pl.length:Int):=hl;omega)with hx | ⟨j,_,hx⟩ | ⟨b,_,hx⟩
  ·exact .inl ⟨.inl hx.kind,hx.shape⟩
  ·exact .inl ⟨.inr hx.kind,hx.shape⟩
  ·obtain⟨k,hk,_⟩:=hx.shape;exact .inr ⟨hx.kind,k,hk⟩
 ·rcases hb.keys k x hk with h2 | ⟨i,j,h2,h3,h4,h5,h6⟩
  ·exact .inl (by omega)
  ·exact .inr ⟨i,j,h2,h3,by rw[←hrow i h2];exact h4,h5,h6⟩
 ·have hj2:j<((Zaw D G G.f1.length).steps.getD i []).length:=by rw[hrow i hi];exact hj
  have hm:((Zaw D G G.f1.length).steps.getD i []).getD j 0∈(Zaw D G G.f1.length).steps.getD i []:=by
   rw[List.getD_eq_getElem?_getD (l:=(Zaw D G G.f1.length).steps.getD i []),List.getElem?_eq_getElem hj2];exact List.getElem_mem hj2
  obtain⟨_,h2,h3⟩:=hb.fin i _ hm;refine⟨h2,?_⟩;show ((Zaw D G G.f1.length).st.pl.getD (((((Zaw D G G.f1.length).steps.getD i []).getD j 0:Nat):Int)).toNat zPl).kind=2;rw[Int.toNat_natCast];exact h3.kind
section
variable {G:S26}{M:Mach}{φ:Nat→Nat}{its:List S94}{p:Int}
theorem Twin.it (h:Twin G M φ its)(p0:0≤p)(p1:p<M.pl.length):ItOk ⟨M.pl,M.sh⟩ p.toNat (Zbe M.pl p) (Zak its p):=h.rel.at_ p.toNat (by show p.toNat<M.pl.length;omega)
theorem Twin.shape (h:Twin G M φ its)(p0:0≤p)(p1:p<M.pl.length){k:Nat}(hs:(Zbe M.pl p).shape=some k):(Zak its p).f5=(Zec M.sh k).rule∧(Zak its p).f6=(Zec M.sh k).step∧(Zak its p).f7=Zez k (Zec M.sh k).rule∧((Zbe M.pl p).kind=3→(Zak its p).f3=decide (((p.toNat:Nat):Int)∈(Zec M.sh k).last))∧((Zbe M.pl p).kind=2→(Zak its p).f2=(Zec M.sh k).first∧(Zak its p).f3=(Zec M.sh k).empty):=
 (h.it p0 p1).fin k hs _ (h.ok.shape p p0 p1 k hs)
theorem Zmo (M:Mach)(p:Int)(k:Nat):Zom M p (some k)=(decide ((Zbe M.pl p).shape=some k)&&((decide ((Zbe M.pl p).kind=2)&&(Zec M.sh k).empty)||(decide ((Zbe M.pl p).kind=3)&&hasI (Zec M.sh k).last p))):=rfl
theorem hasI_mem (l:List Int)(x:Int):hasI l x=decide (x∈l):=by
 unfold hasI;rw[Bool.eq_iff_iff];simp
theorem Twin.end_ (h:Twin G M φ its)(p0:0≤p)(p1:p<M.pl.length){k:Nat}(hs:(Zbe M.pl p).shape=some k):(Zak its p).f3=Zom M p (some k):=by
 have hk:(Zbe M.pl p).kind=2∨(Zbe M.pl p).kind=3:=by
  rcases h.knd p p0 p1 with⟨_,h2⟩ | ⟨h1,_⟩
  ·rw[hs]at h2;cases h2
  ·exact h1
 obtain⟨_,_,_,h3,h2⟩:=h.shape p0 p1 hs;rw[Zmo,decide_eq_true hs,Bool.true_and,hasI_mem];have e:((p.toNat:Nat):Int)=p:=by omega
 rcases hk with hk | hk
 ·rw[(h2 hk).2,hk];simp
 ·rw[h3 hk,hk,e];simp
theorem Twin.own (h:Twin G M φ its)(p0:0≤p)(p1:p<M.pl.length){sym:Int}{k:Nat}(s0:0≤sym)(hi:(Zbe M.pl sym).inner=some k):(decide (2≤(Zbe M.pl p).kind)&&(((Zak its p).f7==sym)&&(Zak its p).f3))=Zom M p (some k):=by
 obtain⟨ek,y,hy,hyr⟩:=h.ext.inn sym.toNat k hi
 rcases h.knd p p0 p1 with⟨hk,hsh⟩ | ⟨hk,k2,hsh⟩
 ·have e:decide (2≤(Zbe M.pl p).kind)=false:=decide_eq_false (by omega);rw[e,Zmo,hsh];simp
 ·have e:decide (2≤(Zbe M.pl p).kind)=true:=decide_eq_true (by omega);rw[e,Bool.true_and];obtain⟨_,_,h7,_⟩:=h.shape p0 p1 hsh;by_cases hkk:k2=k
  ·subst hkk;have hr:(Zec M.sh k2).rule<0:=by rw[h.ext.uniq k2 _ _ (h.ok.shape p p0 p1 k2 hsh) hy];exact hyr
   have e2:((Zak its p).f7==sym)=true:=by rw[h7];unfold Zez;rw[if_pos hr];simp;omega
   rw[e2,Bool.true_and];exact h.end_ p0 p1 hsh
  ·have e2:((Zak its p).f7==sym)=false:=by
    rw[h7];unfold Zez;rw[beq_eq_false_iff_ne]
    split <;> omega
   have e3:decide ((Zbe M.pl p).shape=some k)=false:=decide_eq_false (by rw[hsh];intro hh;injection hh with hh;exact hkk hh);rw[e2,Zmo,e3];simp
theorem ret_k (h:Twin G M φ its){sym t:Int}(p0:0≤p)(p1:p<M.pl.length)(s0:0≤sym)(s1:sym<M.pl.length)(t1:t<G.f0.length) :
 retK p sym (Zak its sym).f0 (Zak its sym).f1.f0 (Zak its p).f0 (Zak its p).f7 (Zak its p).f3 (Zcm G t (Zak its sym).f1.f2)=retB G M p sym t:=by
 have hs:=h.it s0 s1;have hp:=h.it p0 p1;rw[hs.kind,hs.p,hp.kind,Zfq G t _ t1];have e0:(Zbe M.pl sym).kind≠0→(sym==0)=false:=fun hk=>by
  rw[beq_eq_false_iff_ne];rintro rfl;exact hk h.first.2
 have hz:(Zbe M.pl sym).kind≠3→(Zbe M.pl sym).p.f0=0:=fun hk=>(h.ext.z sym.toNat hk).1
 unfold retK retB Zgy
 rcases h.knd sym s0 s1 with⟨hk,_⟩ | ⟨hk,_⟩
 ·rcases hk with hk | hk
  ·have e1:sym=0:=by
    rcases Int.lt_or_eq_of_le s0 with hlt | heq
    ·exact absurd hk (h.ext.kind sym.toNat (by omega) (by show sym.toNat<M.pl.length;omega))
    ·exact heq.symm
   subst e1;rw[hz (by omega),hk];by_cases hq:p=0 <;> simp[hq]
  ·rw[hz (by omega),e0 (by omega),hk];by_cases hq:p=sym <;> simp[hq]
 ·rcases hk with hk | hk
  ·rw[hz (by omega),e0 (by omega),hk];simp
  ·rw[e0 (by omega),hk];by_cases h4:(Zbe M.pl sym).p.f0=4
   ·rw[h4];by_cases hq:p=0 <;> simp[hq]
   ·by_cases h3:(Zbe M.pl sym).p.f0=3
    ·obtain⟨k,hi⟩:=h.ok.pin sym s0 s1 h3;rw[h3,hi,←h.own p0 p1 s0 hi];generalize ((Zak its p).f7==sym)=x1;generalize (Zak its p).f3=x2;generalize Zdp G t (Zbe M.pl sym).p.f2=x3;generalize decide (2≤(Zbe M.pl p).kind)=x4;cases x1 <;> cases x2 <;> cases x3 <;> cases x4 <;> simp
    ·simp[h3,h4]
theorem ret_eq (h:Twin G M φ its)(p sym t:Int):retR G its p sym t=Zqd G M p sym t:=by
 have hl:its.length=M.pl.length:=h.rel.len;unfold retR Zqd;by_cases hc:0≤p∧p<M.pl.length∧0≤sym∧sym<M.pl.length∧0≤t∧t<G.f0.length∧(Zow G t).f1=2
 ·obtain⟨p0,p1,s0,s1,t0,t1,tk⟩:=hc;have e1:(isB its p&&(isB its sym&&Zga G t 2))=true:=by unfold isB Zga;rw[hl];simp[p0,p1,s0,s1,t0,t1,tk]
  have e2:Zja G M p t 2=true:=by unfold Zja;simp[p0,p1,t0,t1,tk]
  rw[ret_k h p0 p1 s0 s1 t1];by_cases hb:retB G M p sym t=true
  ·rw[if_pos ⟨e1,hb⟩,if_pos ⟨e2,s0,s1,hb⟩]
  ·rw[if_neg (fun hh=>hb hh.2),if_neg (fun hh=>hb hh.2.2.2)]
 ·rw[if_neg (fun hh=>hc ?_),if_neg (fun hh=>hc ?_)]
  ·obtain⟨h1,h2,h3,_⟩:=hh;unfold Zja at h1;simp at h1;omega
  ·have h1:=hh.1;unfold isB Zga at h1;rw[hl]at h1;simp at h1;omega
theorem rule_eq (h:Twin G M φ its)(p:Int):Zsu G its p=Zhh M p:=by
 have hl:its.length=M.pl.length:=h.rel.len;unfold Zsu Zhh;by_cases hp:0≤p∧p<M.pl.length
 ·obtain⟨p0,p1⟩:=hp;rw[if_pos (⟨p0,p1⟩:0≤p∧p<M.pl.length)];have hb:isB its p=true:=by unfold isB;rw[hl];simp[p0,p1]
  unfold Zob;rw[hb,Bool.true_and,(h.it p0 p1).kind]
  rcases h.knd p p0 p1 with⟨hk,hsh⟩ | ⟨hk,k,hsh⟩
  ·rw[hsh];have e:decide ((Zbe M.pl p).kind<2)=true:=decide_eq_true (by omega);rw[e];simp
  ·rw[hsh];obtain⟨h5,h6,h7,_,_⟩:=h.shape p0 p1 hsh;have hd:decide ((Zbe M.pl p).kind<2)=false:=decide_eq_false (by omega);rw[hd,h5,h6,h7,h.end_ p0 p1 hsh];show _=Zqm M p k
   rcases h.keys k _ (h.ok.shape p p0 p1 k hsh)with hr | ⟨i,j,hi,hri,hj,hsj,_⟩
   ·have h1:Zqm M p k=-1:=by unfold Zqm;rw[if_pos hr]
    rw[h1];simp[hr]
   ·have ho:Zez k (Zec M.sh k).rule=-1:=by unfold Zez;rw[if_neg (by omega)]
    have h1:Zqm M p k=if (Zec M.sh k).step+1<(Zkv M (Zec M.sh k).rule).length then -1 else if Zom M p (some k)=true then (Zec M.sh k).rule else -1:=by unfold Zqm;rw[if_neg (by omega)]
    have hlen:(Zkv M (i:Int)).length=(Zbm G (i:Int)).f2.length:=by unfold Zkv;rw[Int.toNat_natCast];exact h.rows i hi
    rw[h1,ho,hri,hsj,hlen];generalize Zom M p (some k)=e;have hj:(j:Int)<((Zbm G (i:Int)).f2.length:Int):=by omega
    generalize (Zbm G (i:Int)).f2.length=n at *;have hr:¬((i:Int)<0):=by omega
    by_cases hl2:(j:Int)=n-1
    ·have e1:((j:Int)==(n:Int)-1)=true:=by simpa using hl2
     have e2:¬((j:Int)+1<(n:Int)):=by omega
     rw[e1,if_neg e2];cases e <;> simp[hr]
    ·have e1:((j:Int)==(n:Int)-1)=false:=by simpa using hl2
     have e2:(j:Int)+1<(n:Int):=by omega
     rw[e1,if_pos e2];cases e <;> simp
 ·rw[if_neg hp,if_neg (fun hh=>hp ?_)];unfold Zob isB at hh;rw[hl]at hh;simp at hh;exact hh.1
theorem Twin.hrl (h:Twin G M φ its)(q:Int)(q0:0≤q)(q1:q<its.length)(hk:2≤(Zak its q).f0)(h5:0≤(Zak its q).f5):(Zak its q).f5<G.f1.length:=by
 have hl:its.length=M.pl.length:=h.rel.len;have q1:q<M.pl.length:=by omega
 rw[(h.it q0 q1).kind]at hk
 rcases h.knd q q0 q1 with⟨hk2,_⟩ | ⟨_,k,hsh⟩
 ·omega
 ·have h2:=(h.shape q0 q1 hsh).1
  rcases h.keys k _ (h.ok.shape q q0 q1 k hsh)with hr | ⟨i,j,hi,hri,_⟩ <;> omega
theorem Twin.hst (h:Twin G M φ its)(r:Int):(Zbm G r).f2.length≤1000:=by
 by_cases hr:r.toNat<G.f1.length
 ·have h1:=(h.one r.toNat hr).2;have e:Zbm G ((r.toNat:Nat):Int)=Zbm G r:=by unfold Zbm;rw[Int.toNat_natCast]
  rw[e]at h1;exact h1
 ·unfold Zbm;rw[List.getD_eq_getElem?_getD,List.getElem?_eq_none (by omega)];exact Nat.zero_le _
end
def Zni (x:Int × Int):List (Int × Int)→Nat
 | []=>0
 | y :: r=>if ltP y x=true then Zni x r+1 else 0
theorem Ztc (x:Int × Int):∀l,Zni x l≤l.length
 | []=>Nat.le_refl _
 | y :: r=>by
  unfold Zni
  split
  ·have:=Ztc x r;simp;omega
  ·exact Nat.zero_le _
theorem posP_lt (x:Int × Int):∀l k,k<Zni x l→ltP (rdP l k) x=true
 | [],k,h=>by simp[Zni]at h
 | y :: r,k,h=>by
  unfold Zni at h
  split at h
  ·rename_i hy
   cases k with
   | zero=>exact hy
   | succ k=>exact posP_lt x r k (by omega)
  ·omega
theorem posP_ge (x:Int × Int):∀l,Zni x l<l.length→ltP (rdP l (Zni x l)) x=false
 | [],h=>by simp[Zni]at h
 | y :: r,h=>by
  unfold Zni at h ⊢
  split
  ·rename_i hy
   rw[if_pos hy]at h;exact posP_ge x r (by simpa using h)
  ·rename_i hy
   exact Bool.not_eq_true _▸hy
def Zoj (x:Int × Int)(l:List (Int × Int)):List (Int × Int):=if Zni x l<l.length∧rdP l (Zni x l)=x then l else l.take (Zni x l)++[x]++l.drop (Zni x l)
theorem insP_len (x:Int × Int)(l:List (Int × Int)):(Zoj x l).length≤l.length+1:=by
 have:=Ztc x l;unfold Zoj
 split
 ·omega
 ·simp;omega
def insR (x:Int × Int):List (Int × Int)→List (Int × Int)
 | []=>[x]
 | y :: r=>if ltP y x=true then y :: insR x r else if y=x then y :: r else x :: y :: r
theorem Zpm (x:Int × Int):∀l,Zoj x l=insR x l
 | []=>by unfold Zoj insR;rw[if_neg (by simp)];rfl
 | y :: r=>by
  have ih:=Zpm x r;unfold Zoj at ih ⊢;unfold insR Zni;by_cases h:ltP y x=true
  ·rw[if_pos h,if_pos h,←ih];by_cases h2:Zni x r<r.length∧rdP r (Zni x r)=x
   ·rw[if_pos h2,if_pos ⟨by simpa using h2.1,h2.2⟩]
   ·rw[if_neg h2,if_neg (fun h3=>h2 ⟨by simpa using h3.1,h3.2⟩)]
    rfl
  ·rw[if_neg h,if_neg h];by_cases h2:y=x
   ·rw[if_pos h2,if_pos ⟨by simp,h2⟩]
   ·rw[if_neg h2,if_neg (fun h3=>h2 h3.2)]
    rfl
theorem Zjk (x z:Int × Int)(l:List (Int × Int)):z∈Zoj x l↔z=x∨z∈l:=by
 rw[Zpm]
 induction l with
 | nil=>simp[insR]
 | cons y r ih=>
  unfold insR
  split
  ·rw[List.mem_cons,ih,List.mem_cons]
   constructor
   ·rintro (h | h | h)
    ·exact .inr (.inl h)
    ·exact .inl h
    ·exact .inr (.inr h)
   ·rintro (h | h | h)
    ·exact .inr (.inl h)
    ·exact .inl h
    ·exact .inr (.inr h)
  ·split
   ·rename_i h
    constructor
    ·exact .inr
    ·rintro (h1 | h1)
     ·rw[h1,h];exact List.mem_cons_self
     ·exact h1
   ·exact List.mem_cons
def RisP (l:List (Int × Int)):Prop:=l.Pairwise (fun x y=>ltP x y=true)
theorem Zit (x y:Int × Int):ltP x y=true↔(x.1<y.1∨(x.1=y.1∧x.2<y.2)):=by unfold ltP;simp
theorem Zrk {x y z:Int × Int}(h:ltP x y=true)(k:ltP y z=true):ltP x z=true:=by
 rw[Zit]at *;omega
theorem ltP_tri {x y:Int × Int}(h:¬ltP y x=true)(k:y≠x):ltP x y=true:=by
 rw[Zit]at *
 rcases Int.lt_trichotomy x.1 y.1 with h1 | h1 | h1
 ·exact .inl h1
 ·rcases Int.lt_trichotomy x.2 y.2 with h2 | h2 | h2
  ·exact .inr ⟨h1,h2⟩
  ·exact absurd (Prod.ext h1.symm h2.symm) k
  ·exact absurd (.inr ⟨h1.symm,h2⟩) h
 ·exact absurd (.inl h1) h
theorem Zjz (x:Int × Int):¬ltP x x=true:=by rw[Zit];omega
theorem Zla (x:Int × Int){l:List (Int × Int)}(h:RisP l):RisP (Zoj x l):=by
 have hm:=fun r z=>Zjk x z r
 rw[Zpm]
 induction l with
 | nil=>exact List.pairwise_singleton _ _
 | cons y r ih=>
  have h2:=List.pairwise_cons.1 h;unfold insR
  split
  ·rename_i hy
   refine List.pairwise_cons.2 ⟨fun z hz=>?_,ih h2.2⟩
   rcases (hm r z).1 (by rw[Zpm];exact hz)with h3 | h3
   ·rw[h3];exact hy
   ·exact h2.1 z h3
  ·rename_i hy
   split
   ·exact h
   ·rename_i hne
    refine List.pairwise_cons.2 ⟨fun z hz=>?_,h⟩;have hxy:=ltP_tri hy hne
    rcases List.mem_cons.1 hz with h3 | h3
    ·rw[h3];exact hxy
    ·exact Zrk hxy (h2.1 z h3)
theorem ris_extP:∀(a b:List (Int × Int)),RisP a→RisP b→(∀x,x∈a↔x∈b)→a=b
 | [],[],_,_,_=>rfl
 | [],y :: b,_,_,h=>by have:=(h y).2 List.mem_cons_self;cases this
 | x :: a,[],_,_,h=>by have:=(h x).1 List.mem_cons_self;cases this
 | x :: a,y :: b,ha,hb,h=>by
  have ha':=List.pairwise_cons.1 ha;have hb':=List.pairwise_cons.1 hb;have hxy:x=y:=by
   rcases List.mem_cons.1 ((h x).1 List.mem_cons_self)with h1 | h1
   ·exact h1
   ·rcases List.mem_cons.1 ((h y).2 List.mem_cons_self)with h2 | h2
    ·exact h2.symm
    ·exact absurd (Zrk (hb'.1 x h1) (ha'.1 y h2)) (Zjz _)
  subst hxy;rw[ris_extP a b ha'.2 hb'.2 (fun z=>⟨fun hz=>?_,fun hz=>?_⟩)]
  ·rcases List.mem_cons.1 ((h z).1 (List.mem_cons_of_mem _ hz))with h1 | h1
   ·exact absurd (by have h3:=ha'.1 z hz;rwa[h1]at h3) (Zjz x)
   ·exact h1
  ·rcases List.mem_cons.1 ((h z).2 (List.mem_cons_of_mem _ hz))with h1 | h1
   ·exact absurd (by have h3:=hb'.1 z hz;rwa[h1]at h3) (Zjz x)
   ·exact h1
theorem sortP_ris {l:List (Int × Int)}(h:l.Nodup):RisP (sortP l):=by
 have hn:(sortP l).Nodup:=(List.mergeSort_perm l _).nodup_iff.2 h;have hp:(sortP l).Pairwise (fun x y=>(!ltP y x)=true):=List.pairwise_mergeSort (fun a b c h1 h2=>by
  simp only[Bool.not_eq_true',←Bool.not_eq_true,Zit]at *;omega) (fun a b=>by
  by_cases h1:ltP b a=true
  ·have h2:¬ltP a b=true:=by rw[Zit]at *;omega
   simp[h2]
  ·simp[h1]) l
 unfold RisP;rw[List.pairwise_iff_getElem]at *;intro i j hi hj hij;have h1:=hp i j hi hj hij;have h2:=List.pairwise_iff_getElem.1 hn i j hi hj hij;exact ltP_tri (by simpa using h1) (fun e=>h2 e.symm)
theorem Zhw {R raw:List (Int × Int)}(h:RisP R)(hn:raw.Nodup)(hm:∀x,x∈R↔x∈raw):R=sortP raw:=
 ris_extP _ _ h (sortP_ris hn) (fun x=>by rw[hm x];exact ((List.mergeSort_perm raw _).mem_iff).symm)
def Zhi (G:S26)(its:List S94)(t:Int)(o:List (Int × Int))(q:Int):List (Int × Int):=
 if (Zak its q).f1.f0=4 then Zoj (0,q) o else if (Zak its q).f1.f0=3∧Zcm G t (Zak its q).f1.f1=true then Zoj ((Zak its q).f4,q) o else o
def Ziw (G:S26)(its:List S94)(t:Int)(L:List Int):Nat→List (Int × Int)
 | 0=>[]
 | k+1=>Zhi G its t (Ziw G its t L k) (rd L k)
def lastR (G:S26)(bg:Int→Int→Int)(t f5 f6 f7:Int)(f3:Bool)(o:List (Int × Int)):List (Int × Int):=
 if f3=true∧f7<0∧0≤f5∧f6+1<(Zbm G f5).f2.length∧Zcm G t (Zei (Zbm G f5) (f6+1)).f0=true then Zoj (bg f5 (f6+1),-1) o else o
def freeR (G:S26)(bg:Int→Int→Int)(p t f5:Int):List (Int × Int):=if Zcm G t (Zei (Zbm G f5) 0).f0=true then Zoj (bg f5 0,-1) [(p,p)]else [(p,p)]
def Znp (G:S26)(its:List S94)(bg:Int→Int→Int)(p t:Int):List (Int × Int):=
 if (isB its p&&Zga G t 1)=true then
  (if (Zak its p).f0=0 then [(0,0)]else if (Zak its p).f0=1 then freeR G bg p t (Zak its p).f5
   else lastR G bg t (Zak its p).f5 (Zak its p).f6 (Zak its p).f7 (Zak its p).f3 (Ziw G its t (Zak its p).f2 (Zak its p).f2.length))
 else []
theorem roundR_len (G:S26)(its:List S94)(t:Int)(o:List (Int × Int))(q:Int):(Zhi G its t o q).length≤o.length+1:=by
 unfold Zhi
 split
 ·exact insP_len _ _
 ·split
  ·exact insP_len _ _
  ·omega
theorem Zmm (G:S26)(its:List S94)(t:Int)(L:List Int):∀k,(Ziw G its t L k).length≤k
 | 0=>Nat.le_refl _
 | k+1=>by
  have h1:=Zmm G its t L k;have h2:=roundR_len G its t (Ziw G its t L k) (rd L k);show (Zhi _ _ _ _ _).length≤_;omega
def bgM (M:Mach)(r s:Int):Int:=(((Zkv M r).getD s.toNat 0:Nat):Int)
section
variable {G:S26}{M:Mach}{φ:Nat→Nat}{its:List S94}{p t:Int}
theorem inn_getD (o:Option Nat):innN o=(((o.getD 0:Nat)):Int):=by cases o <;> rfl
theorem round_mem (h:Twin G M φ its){q:Int}(q0:0≤q)(q1:q<M.pl.length)(t1:t<G.f0.length)(x:Int × Int)(o:List (Int × Int)):x∈Zhi G its t o q↔x∈o∨x∈Zkx G M t q:=by
 unfold Zhi Zkx;rw[(h.it q0 q1).p,Zfq G t _ t1,(h.it q0 q1).inner,inn_getD];by_cases h4:(Zbe M.pl q).p.f0=4
 ·rw[if_pos h4,if_pos h4,Zjk,List.mem_singleton];exact Or.comm
 ·rw[if_neg h4,if_neg h4];by_cases h3:(Zbe M.pl q).p.f0=3∧Zdp G t (Zbe M.pl q).p.f1=true
  ·rw[if_pos h3,if_pos h3,Zjk,List.mem_singleton];exact Or.comm
  ·rw[if_neg h3,if_neg h3];simp
theorem round_ris {o:List (Int × Int)}(h:RisP o)(q:Int):RisP (Zhi G its t o q):=by
 unfold Zhi
 split
 ·exact Zla _ h
 ·split
  ·exact Zla _ h
  ·exact h
theorem Zle (L:List Int):∀k,RisP (Ziw G its t L k)
 | 0=>List.Pairwise.nil
 | k+1=>round_ris (Zle L k) _
theorem fold_mem (h:Twin G M φ its)(t1:t<G.f0.length){L:List Int}(hL:∀q∈L,0≤q∧q<M.pl.length)(x:Int × Int):∀k,k≤L.length→(x∈Ziw G its t L k↔x∈Zgv G M t L k)
 | 0,_=>Iff.rfl
 | k+1,hk=>by
  have hq:=hL _ (Zfv (show k<L.length by omega));show x∈Zhi _ _ _ _ _↔x∈Zgv G M t L k++Zkx G M t (rd L k);rw[round_mem h hq.1 hq.2 t1,fold_mem h t1 hL x k (by omega),List.mem_append]
theorem Zsc {q:Int}{x:Int × Int}(h:x∈Zkx G M t q):x.2=q:=by
 unfold Zkx at h
 split at h
 ·rw[List.mem_singleton]at h;rw[h]
 ·split at h
  ·rw[List.mem_singleton]at h;rw[h]
  ·cases h
theorem Zuh (q:Int):(Zkx G M t q).Nodup:=by
 unfold Zkx
 split
 ·simp
 ·split <;> simp
theorem rd_lt {L:List Int}(h:L.Pairwise (·<·)){i k:Nat}(hik:i<k)(hk:k<L.length):rd L i<rd L k:=by
 have e:∀j:Nat,(hj:j<L.length)→rd L j=L[j]:=fun j hj=>by unfold rd;rw[Int.toNat_natCast,List.getD_eq_getElem?_getD,List.getElem?_eq_getElem hj];rfl
 rw[e i (by omega),e k hk];exact List.pairwise_iff_getElem.1 h i k (by omega) hk hik
theorem Zmq {L:List Int}{x:Int × Int}:∀{k:Nat},x∈Zgv G M t L k→∃i:Nat,i<k∧x.2=rd L i
 | 0,h=>by cases h
 | k+1,h=>by
  rcases List.mem_append.1 h with h | h
  ·obtain⟨i,h1,h2⟩:=Zmq h;exact⟨i,by omega,h2⟩
  ·exact⟨k,by omega,Zsc h⟩
theorem Zmr {L:List Int}(hL:L.Pairwise (·<·)):∀k,k≤L.length→(Zgv G M t L k).Nodup
 | 0,_=>List.nodup_nil
 | k+1,hk=>by
  refine List.nodup_append.2 ⟨Zmr hL k (by omega),Zuh _,fun a ha b hb e=>?_⟩;subst e;obtain⟨i,h1,h2⟩:=Zmq ha;have h3:=Zsc hb;have:=rd_lt hL h1 (by omega);omega
theorem into_mem (M:Mach)(t r s:Int){x:Int × Int}(h:x∈Zhn G M t r s):x.2=-1:=by
 unfold Zhn at h
 split at h
 ·rw[List.mem_singleton]at h;rw[h]
 ·cases h
theorem Zoi (M:Mach)(t r s:Int):(Zhn G M t r s).Nodup:=by
 unfold Zhn
 split <;> simp
theorem Zlu (h:Twin G M φ its)(hk:(Zbe M.pl p).kind=0∨(Zbe M.pl p).kind=1)(hs:(Zbe M.pl p).shape=none):Zqv G M p t=[(p,p)]++Zgw G M p t:=by
 have hf:(Zbe M.pl p).follow=[]:=(h.ext.z p.toNat (by show (Zbe M.pl p).kind≠3;omega)).2;have hn:Zdo M p=[]:=by unfold Zdo;rw[if_neg (by omega),hf]
 unfold Zqv Ziy;rw[hs,hn];have hst:Zkf M p=[(p,p)]:=by
  unfold Zkf Zgy;rw[if_pos (by rcases hk with h1 | h1 <;> rw[h1] <;> simp)]
 rw[hst];show [(p,p)]++Zgw G M p t++[]++[]=_;rw[List.append_nil,List.append_nil]
theorem raw_goes (hk:(Zbe M.pl p).kind=2∨(Zbe M.pl p).kind=3):Zqv G M p t=Zgv G M t (Zdo M p) (Zdo M p).length++Ziy G M p t:=by
 unfold Zqv Zkf Zgw Zgy;rw[if_neg (by rcases hk with h1 | h1 <;> rw[h1] <;> simp),if_neg (by omega)]
 rfl
theorem next_ris (h:Twin G M φ its)(p0:0≤p)(p1:p<M.pl.length)(hk:(Zbe M.pl p).kind=2∨(Zbe M.pl p).kind=3):(Zdo M p).Pairwise (·<·):=by
 have h4:=(h.rel.nx h.good p.toNat).1;have e:(its.getD p.toNat z94).f2=Zdo M p:=Zpf h.ok h.rel p0 p1 hk;rw[e]at h4;exact h4
theorem callD_snd {x:Int × Int}(h:x∈Ziy G M p t):x.2=-1:=by
 unfold Ziy at h
 split at h
 ·cases h
 ·split at h
  ·exact into_mem _ _ _ _ h
  ·cases h
theorem Zui:(Ziy G M p t).Nodup:=by
 unfold Ziy
 split
 ·simp
 ·split
  ·exact Zoi _ _ _ _
  ·simp
theorem Zqu (h:Twin G M φ its)(p t:Int):(Zqv G M p t).Nodup:=by
 have one:∀p:Int,(Zbe M.pl p).kind=0→(Zbe M.pl p).shape=none→(Zqv G M p t).Nodup:=fun p hk hs=>by
  rw[Zlu h (.inl hk) hs];unfold Zgw;rw[if_neg (by omega)];simp
 by_cases hp:0≤p∧p<M.pl.length
 ·obtain⟨p0,p1⟩:=hp
  rcases h.knd p p0 p1 with⟨hk,hsh⟩ | ⟨hk,_⟩
  ·rw[Zlu h hk hsh];refine List.nodup_append.2 ⟨by simp,?_,fun a ha b hb e=>?_⟩
   ·unfold Zgw
    split
    ·exact Zoi _ _ _ _
    ·simp
   ·rw[List.mem_singleton]at ha;unfold Zgw at hb
    split at hb
    ·have h1:=into_mem _ _ _ _ hb;rw[←e,ha]at h1;have h1:p=-1:=h1;omega
    ·cases hb
  ·rw[raw_goes hk];refine List.nodup_append.2 ⟨Zmr (next_ris h p0 p1 hk) _ (Nat.le_refl _),Zui,fun a ha b hb e=>?_⟩;obtain⟨i,h1,h2⟩:=Zmq ha;have h3:=callD_snd hb;have h4:=(Zhy h.ok p0 p1).2 _ (Zfv h1);rw[e]at h2;omega
 ·have e:Zbe M.pl p=Zbe M.pl 0∨Zbe M.pl p=zPl:=by
   unfold Zbe
   rcases Int.lt_or_le p 0 with h1 | h1
   ·left
    rw[show p.toNat=0 by omega]
    rfl
   ·right
    rw[List.getD_eq_getElem?_getD,List.getElem?_eq_none (by omega)]
    rfl
  rcases e with e | e
  ·have h1:=h.first
   refine one p (by rw[e];exact h1.2) ?_
   rw[e]
   rcases h.knd 0 (by omega) (by omega)with⟨_,h2⟩ | ⟨h2,_⟩
   ·exact h2
   ·omega
  ·exact one p (by rw[e];rfl) (by rw[e];rfl)
theorem into_eq (h:Twin G M φ its){r s:Int}(t1:t<G.f0.length):Zhn G M t r s=if s<(Zbm G r).f2.length∧Zcm G t (Zei (Zbm G r) s).f0=true then [(bgM M r s,-1)]else []:=by
 unfold Zhn;rw[Zfq G t _ t1]
 rfl
theorem call_eq (h:Twin G M φ its)(p t:Int):Znp G its (bgM M) p t=Zix G M p t:=by
 have hl:its.length=M.pl.length:=h.rel.len;unfold Znp Zix;by_cases hc:0≤p∧p<M.pl.length∧0≤t∧t<G.f0.length∧(Zow G t).f1=1
 ·obtain⟨p0,p1,t0,t1,tk⟩:=hc;have e1:(isB its p&&Zga G t 1)=true:=by unfold isB Zga;rw[hl];simp[p0,p1,t0,t1,tk]
  have e2:Zja G M p t 1=true:=by unfold Zja;simp[p0,p1,t0,t1,tk]
  rw[if_pos e1,if_pos e2,(h.it p0 p1).kind];have hn:=Zqu (t:=t) h p
  rcases h.knd p p0 p1 with⟨hk,hsh⟩ | ⟨hk,k,hsh⟩
  ·rw[Zlu h hk hsh]at hn ⊢
   rcases hk with hk | hk
   ·rw[if_pos hk];have e3:p=0:=by
     rcases Int.lt_or_eq_of_le p0 with hlt | heq
     ·exact absurd hk (h.ext.kind p.toNat (by omega) (by show p.toNat<M.pl.length;omega))
     ·exact heq.symm
    subst e3;have e4:Zgw G M 0 t=[]:=by unfold Zgw;rw[if_neg (by omega)]
    rw[e4]at hn ⊢;exact Zhw (List.pairwise_singleton _ _) hn (fun x=>Iff.rfl)
   ·rw[if_neg (by omega),if_pos hk];have e4:Zgw G M p t=Zhn G M t (Zbe M.pl p).rule 0:=by unfold Zgw;rw[if_pos hk]
    rw[e4]at hn ⊢;rw[(h.it p0 p1).free hk];have hfr:=h.frees p p0 p1 hk;have h1:=(h.one (Zbe M.pl p).rule.toNat (by omega)).1;have e5:Zbm G (((Zbe M.pl p).rule.toNat:Nat):Int)=Zbm G (Zbe M.pl p).rule:=by unfold Zbm;rw[Int.toNat_natCast]
    rw[e5]at h1;have e6:=into_eq (r:=(Zbe M.pl p).rule) (s:=0) h t1;rw[e6]at hn ⊢;unfold freeR;by_cases hw:Zcm G t (Zei (Zbm G (Zbe M.pl p).rule) 0).f0=true
    ·have hA:(0:Int)<((Zbm G (Zbe M.pl p).rule).f2.length:Int)∧Zcm G t (Zei (Zbm G (Zbe M.pl p).rule) 0).f0=true:=⟨by omega,hw⟩
     rw[if_pos hA]at hn ⊢;rw[if_pos hw];exact Zhw (Zla _ (List.pairwise_singleton _ _)) hn (fun x=>by rw[Zjk,List.mem_append,List.mem_singleton,List.mem_singleton];exact Or.comm)
    ·have hA:¬((0:Int)<((Zbm G (Zbe M.pl p).rule).f2.length:Int)∧Zcm G t (Zei (Zbm G (Zbe M.pl p).rule) 0).f0=true):=fun hh=>hw hh.2
     rw[if_neg hA]at hn ⊢;rw[if_neg hw];exact Zhw (List.pairwise_singleton _ _) hn (fun x=>Iff.rfl)
  ·rw[raw_goes hk]at hn ⊢;rw[if_neg (by omega),if_neg (by omega),Zpf h.ok h.rel p0 p1 hk];obtain⟨h5,h6,h7,_,_⟩:=h.shape p0 p1 hsh;rw[h5,h6,h7,h.end_ p0 p1 hsh];have hF:∀x,x∈Ziw G its t (Zdo M p) (Zdo M p).length↔x∈Zgv G M t (Zdo M p) (Zdo M p).length:=fun x=>fold_mem h t1 (Zhy h.ok p0 p1).2 x _ (Nat.le_refl _)
   have hD:Ziy G M p t=if 0≤(Zec M.sh k).rule∧Zom M p (some k)=true then Zhn G M t (Zec M.sh k).rule ((Zec M.sh k).step+1)else []:=by unfold Ziy;rw[hsh]
   rw[hD]at hn ⊢;unfold lastR Zez;by_cases hc:0≤(Zec M.sh k).rule∧Zom M p (some k)=true
   ·rw[if_pos hc,into_eq h t1]at hn ⊢;by_cases hw:(Zec M.sh k).step+1<(Zbm G (Zec M.sh k).rule).f2.length∧Zcm G t (Zei (Zbm G (Zec M.sh k).rule) ((Zec M.sh k).step+1)).f0=true
    ·rw[if_pos hw]at hn ⊢;rw[if_pos ⟨hc.2,by rw[if_neg (by omega)];decide,hc.1,hw.1,hw.2⟩];exact Zhw (Zla _ (Zle _ _)) hn (fun x=>by rw[Zjk,List.mem_append,List.mem_singleton,hF];exact Or.comm)
    ·rw[if_neg hw]at hn ⊢;rw[if_neg (fun hh=>hw ⟨hh.2.2.2.1,hh.2.2.2.2⟩)];exact Zhw (Zle _ _) hn (fun x=>by rw[List.append_nil];exact hF x)
   ·rw[if_neg hc]at hn ⊢;rw[if_neg (fun hh=>hc ⟨hh.2.2.1,hh.1⟩)];exact Zhw (Zle _ _) hn (fun x=>by rw[List.append_nil];exact hF x)
 ·rw[if_neg (fun hh=>hc ?_),if_neg (fun hh=>hc ?_)]
  ·unfold Zja at hh;simp at hh;omega
  ·unfold isB Zga at hh;rw[hl]at hh;simp at hh;omega
theorem begin_eq (h:Twin G M φ its){i j:Nat}(hi:i<G.f1.length)(hj:j<(Zbm G i).f2.length){r:Int}(hb:Zng its i j r):r=bgM M i j:=by
 have hl:its.length=M.pl.length:=h.rel.len;have e:bgM M i j=(((M.steps.getD i []).getD j 0:Nat):Int):=by unfold bgM Zkv;rw[Int.toNat_natCast,Int.toNat_natCast]
 rw[e]
 rcases hb.out with⟨_,hno⟩ | ⟨q,rfl,hq,hbq⟩
 ·exfalso
  obtain⟨⟨h1,h2⟩,y,hy,hyr,hys⟩:=h.steps i j hi hj;generalize (M.steps.getD i []).getD j 0=k at *;have h3:=hno k (by omega);have h4:=h.it (p:=(k:Int)) (by omega) (by omega);rw[Int.toNat_natCast]at h4;have h5:(M.pl.getD k zPl).shape=some k:=h.kb k h1 (by have h2:=h2;unfold Zbe at h2;rw[Int.toNat_natCast]at h2;exact h2);have h6:=h4.fin k (by unfold Zbe;rw[Int.toNat_natCast];exact h5) y hy;have e2:Zak its (k:Int)=its.getD k z94:=by unfold Zak;rw[Int.toNat_natCast]
  rw[e2]at h4 h6;unfold Zjt at h3;rw[h4.kind,h2,h6.1,h6.2.1,h6.2.2.1,hyr,hys]at h3;unfold Zez at h3;rw[if_neg (by omega)]at h3;simp at h3
 ·have h4:=h.it (p:=(q:Int)) (by omega) (by omega);have e2:Zak its (q:Int)=its.getD q z94:=by unfold Zak;rw[Int.toNat_natCast]
  rw[Int.toNat_natCast,e2]at h4;unfold Zjt at hbq;simp only[Bool.and_eq_true,beq_iff_eq,decide_eq_true_eq]at hbq;obtain⟨b0,b7,b5,b6⟩:=hbq;have hk:(M.pl.getD q zPl).kind=2:=by
   have h5:=h4.kind;unfold Zbe at h5;rw[Int.toNat_natCast]at h5;exact h5.symm.trans b0
  have hsh:(M.pl.getD q zPl).shape=some q:=h.kb q (by show q<M.pl.length;omega) hk;have hm:(q,Zec M.sh q)∈M.sh:=h.ok.shape q (by omega) (by omega) q (by unfold Zbe;rw[Int.toNat_natCast];exact hsh);have h6:=h4.fin q (by unfold Zbe;rw[Int.toNat_natCast];exact hsh) _ hm
  rcases h.keys q _ hm with hr | ⟨i2,j2,h7,h8,h9,h10,h11⟩
  ·rw[h6.1]at b5;omega
  ·have:i2=i:=by rw[h6.1]at b5;omega
   have:j2=j:=by rw[h6.2.1]at b6;omega
   subst i2 j2;rw[h11]
end
theorem bottom_eq {G:S26}{M:Mach}{its:List S94}(hr:Rel ⟨M.pl,M.sh⟩ its)(p t:Int):Zfo G its p t=Zdu G M p t:=by
 have hl:its.length=M.pl.length:=hr.len;unfold Zfo Zdu isB Zga Zja;rw[hl];by_cases hp:0≤p∧p<M.pl.length
 ·obtain⟨p0,p1⟩:=hp;have hk:(Zak its p).f0=(Zbe M.pl p).kind:=(hr.at_ p.toNat (by show p.toNat<M.pl.length;omega)).kind;rw[hk];by_cases h0:0≤t <;> by_cases h1:t<G.f0.length <;> by_cases h2:(Zow G t).f1=2 <;> simp[p0,p1,h0,h1,h2]
 ·rw[if_neg (fun h=>hp (by simpa using h.1)),if_neg (fun h=>hp (by have:=h.1;simp at this;exact⟨this.1.1,this.1.2.1⟩))]
end Go.Proofs.YtpagbjdmiepgmaaGreatDoor.PVpa
