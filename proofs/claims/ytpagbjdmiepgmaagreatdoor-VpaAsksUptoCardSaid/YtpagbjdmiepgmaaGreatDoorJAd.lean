/- Joined from texts of this seat, in their order. -/
import Derived.Test.YtpagbjdmiepgmaaGreatDoorJAc
import Derived.Deep.RegionHeld3
set_option linter.unusedVariables false
set_option linter.unusedSimpArgs false
set_option linter.unusedSectionVars false
set_option maxRecDepth 100000
namespace Go.Proofs.YtpagbjdmiepgmaaGreatDoor.PVpa
open Go.RowKit Go.Proofs.YtpagbjdmiepgmaaGreatDoorW.PrintWords Go.Proofs.YtpagbjdmiepgmaaGreatDoorW.PrintLast Go.Proofs.YtpagbjdmiepgmaaGreatDoorW.PrintMore
theorem ri_C {w0:W0}{W:World}{A:Option Addr}{c:Nat}{l:List Int}(h:Ri w0 W (.slice A l.length c) l):(Kd.int .i64).C W A l.length l:=by
 obtain⟨A',c',e,_,hc⟩:=h.C;injection e with e _ _
 subst e;exact hc
set_option maxHeartbeats 8000000 in
theorem walk_seq (n:Nat)(hw:WalkC n)(hwg:Znd n)(w0:W0)(W:World)(gb:Nat)(h0 h1 vs vf:Value)(φ:Nat→Nat)(v:Value)(s:St)(b:Nat)(p:S76)(vp:Value)(h:VS w0 W gb h0 h1 vs vf φ v s.pl s.sh)(hg:Good s)(hb:b<s.pl.length)(hp:Znk w0 p vp)(hk:p.f0=5)
 (hc1:2≤p.f3.length) (hok:Zen n (Zaj p.f3 0)) (hok2:Zen n (Zaj p.f3 1)) (hlen:s.pl.length+(Zcx n (Zaj p.f3 0)+Zcx n (Zaj p.f3 1))≤100000) :
 Calls Tryz.prog 64 #[.pointer (some ⟨gb,0,none⟩),.pointer (some ⟨φ b,0,none⟩),vp] W (Znc w0 W gb h0 h1 vs vf φ v s
  (Zst (Zau n b (Zaj p.f3 0) s).1 (Zau n b (Zaj p.f3 1) (Zau n b (Zaj p.f3 0) s).2).1)
  ((Zau n b (Zaj p.f3 1) (Zau n b (Zaj p.f3 0) s).2).2.link (Zau n b (Zaj p.f3 0) s).1.last (Zau n b (Zaj p.f3 1) (Zau n b (Zaj p.f3 0) s).2).1.first)):=by
 obtain⟨A1,c1,A2,c2,A3,c3,rfl,l1,g1,l2,g2,l3,g3⟩:=hp;rw[hk];have HV:=Zaa.mk h;have HG:=Zaa.mk hg;obtain⟨ad,D1,d1,D2,d2,D3,d3,rfl,hq,hcells⟩:=kid0 g3 (by omega);obtain⟨F1,f1,F2,f2,F3,f3,hr,hcells2⟩:=kid1 g3 (by omega);have hwq:=hwg b (Zaj p.f3 0) s hg hb;have hc:=fun W v hv=>hw w0 W gb h0 h1 vs vf φ v s b (Zaj p.f3 0) _ hv hg hb hok (by omega) hq
 generalize (Zau n b (Zaj p.f3 0) s).1=x at *;generalize (Zau n b (Zaj p.f3 0) s).2=sa at *;obtain⟨hga,hla,hra1,hra2⟩:=hwq;have hwr:=hwg b (Zaj p.f3 1) sa hga (by omega);have hd:=fun W φ v hv=>hw w0 W gb h0 h1 vs vf φ v sa b (Zaj p.f3 1) _ hv hga (by omega) hok2 (by omega) hr
 generalize (Zau n b (Zaj p.f3 1) sa).1=y at *;generalize (Zau n b (Zaj p.f3 1) sa).2=s2 at *;obtain⟨hg2,hl2,hrb1,hrb2⟩:=hwr;have HRA:=Zaa.mk hg2.ris;have HXF:Zaa (Ris s2.pl.length x.first):=⟨hra1.mono (by omega)⟩
 have HXL:Zaa (Ris s2.pl.length x.last):=⟨hra2.mono (by omega)⟩
 have HYF:Zaa (Ris s2.pl.length y.first):=⟨hrb1.mono (by omega)⟩
 have HYL:Zaa (Ris s2.pl.length y.last):=⟨hrb2.mono (by omega)⟩
 have HC:=Zaa.mk hc;have HD:=Zaa.mk hd;have HCE:=Zaa.mk hcells;have HCF:=Zaa.mk hcells2;have HGA:=Zaa.mk hga;have hl2':s2.pl.length≤100000:=by omega
 have hls:s.pl.length≤sa.pl.length:=by omega
 have hbs:b<s.pl.length:=hb;clear h hg g1 g2 g3 hw hwg hq hok hc hcells hg2 hra1 hra2 hrb1 hrb2 hcells2 hd hr hok2 hga hb;generalize Zaj p.f3 0=q at *;generalize Zaj p.f3 1=r at *
 go_enter Tryz.func64,Tryz.ntmps64
 go_upto_region 1 with (fail)
 have HFR:=Zaa.mk (Fr.first W #[.int .i64 5,.slice A1 p.f1.length c1,.slice A2 p.f2.length c2,.slice (some ad) p.f3.length c3]);have HVX:=Zaa.mk (HV.out.below (Zae (Zae (Below.refl _ W) (.cells #[.int .i64 5,.slice A1 p.f1.length c1,.slice A2 p.f2.length c2,.slice (some ad) p.f3.length c3] 76)) (.cells Zcs 97)));have HKX:=Zaa.mk (KeptV.of_below (Zae (Zae (Below.refl _ W) (.cells #[.int .i64 5,.slice A1 p.f1.length c1,.slice A2 p.f2.length c2,.slice (some ad) p.f3.length c3] 76)) (.cells Zcs 97)) gb v);have HLO:Zaa (w0.heap.size≤W.heap.size+1):=⟨by have h9:w0.heap.size≤W.heap.size:=HV.out.bel.size;omega⟩
 generalize (W.alloc (.cells #[.int .i64 5,.slice A1 p.f1.length c1,.slice A2 p.f2.length c2,.slice (some ad) p.f3.length c3] 76)).alloc (.cells Zcs 97)=X at *;generalize W.heap.size+1=br at *;generalize W.heap.size=bp at *;have p0:=HFR.out.cl.p 0 _ rfl;have p3:=HFR.out.cl.p 3 _ rfl;have HHI:Zaa (br<X.heap.size):=⟨Zbj HFR.out.r⟩
 obtain⟨q0,q1,q2,q3⟩:=HCE.out X HVX.out.bel
 go_upto_region 14 with (go_at_call 64;(with_reducible refine (HC.out _ _ HVX.out).mono ?_);rintro e w5 ⟨x1,x2,φ2,v5,rfl,hr1,hr2,hv5,hk5,hn5,he5,hs5,hi5⟩;obtain⟨B1,e1,rfl,hl1,_⟩:=hr1.C;obtain⟨B2,e2,rfl,hl2,_⟩:=hr2.C;have HFR5:=Zaa.mk (HFR.out.kept HVX.out hk5);have HR1:=Zaa.mk hr1;have HR2:=Zaa.mk hr2;have HV5:=Zaa.mk hv5;have HK5:=Zaa.mk hk5;have HN5:=Zaa.mk hn5;have HE5:=Zaa.mk he5;have HS5:=Zaa.mk hs5;have HI5:=Zaa.mk hi5;clear hr1 hr2 hv5 hk5 hn5 he5 hs5 hi5)
 have hb6:=Zae (Below.refl _ w5) (.cells (Zih (.slice B1 x.first.length e1) (.slice B2 x.last.length e2) x.empty) 97);have HFR6:=Zaa.mk (HFR5.out.below hb6);have HV6:=Zaa.mk (HV5.out.below hb6);have HK6:=Zaa.mk (show KeptV W _ gb v from (HKX.out.trans HK5.out (NewOr.refl _ _)).below hb6);have HN6:=Zaa.mk (Zfk HKX.out HN5.out);have HB9:=Zaa.mk (Zaq w5 (.cells (Zih (.slice B1 x.first.length e1) (.slice B2 x.last.length e2) x.empty) 97));have HR1:=Zaa.mk (Zap HR1.out hb6);have HR2:=Zaa.mk (Zap HR2.out hb6);have HO9:Zaa (br<w5.heap.size):=⟨Zbj HFR5.out.r⟩
 have HS9:Zaa (∀k z,(k,z)∈sa.sh→φ2 k<w5.heap.size):=⟨fun k z hk=>by obtain⟨u1,u2,hc,_⟩:=(HV5.out.shapes k z hk).cells;exact Zbj hc⟩
 clear hb6 HFR5 HV5 HK5 HN5;generalize w5.alloc (.cells (Zih (.slice B1 x.first.length e1) (.slice B2 x.last.length e2) x.empty) 97)=X6 at *;generalize w5.heap.size=b9 at *;have hd6:=HD.out X6 φ2 v5 HV6.out;rw[HE5.out b hbs]at hd6;have HD6:=Zaa.mk hd6;clear hd6 q0 q1 q2 q3 p0 p3;have p3:=HFR6.out.cl.p 3 _ rfl;obtain⟨q0,q1,q2,q3⟩:=HCF.out X6 HV6.out.bel
 go_upto_region 15 with (go_at_call 64;(with_reducible refine HD6.out.mono ?_);rintro e w7 ⟨x1,x2,φ3,v7,rfl,hr1,hr2,hv7,hk7,hn7,he7,hs7,hi7⟩;obtain⟨C1,j1,rfl,hl1,_⟩:=hr1.C;obtain⟨C2,j2,rfl,hl2,_⟩:=hr2.C;have HFR7:=Zaa.mk (HFR6.out.kept HV6.out hk7);have HS1:=Zaa.mk hr1;have HS2:=Zaa.mk hr2;have HV7:=Zaa.mk hv7;have HK7:=Zaa.mk hk7;have HN7:=Zaa.mk hn7;have HE7:=Zaa.mk he7;have HS7:=Zaa.mk hs7;have HI7:=Zaa.mk hi7;clear hr1 hr2 hv7 hk7 hn7 he7 hs7 hi7)
 have hb8:=Zae (Below.refl _ w7) (.cells (Zih (.slice C1 y.first.length j1) (.slice C2 y.last.length j2) y.empty) 97);have h367:=HV6.out.same3 HK7.out;have HFR8:=Zaa.mk (HFR7.out.below hb8);have HV8:=Zaa.mk (HV7.out.below hb8);have HK8:=Zaa.mk (show KeptV W _ gb v from (HK6.out.trans HK7.out HN6.out).below hb8);have HN8:=Zaa.mk (NewOr.trans HN6.out HN7.out HK6.out.1);have HB9':=Zaa.mk (Zag (Zfp HV6.out HK7.out HB9.out) hb8);have HB10:=Zaa.mk (Zaq w7 (.cells (Zih (.slice C1 y.first.length j1) (.slice C2 y.last.length j2) y.empty) 97));have HR1:=Zaa.mk (Zap (HR1.out.same h367) hb8);have HR2:=Zaa.mk (Zap (HR2.out.same h367) hb8);have HS1:=Zaa.mk (Zap HS1.out hb8);have HS2:=Zaa.mk (Zap HS2.out hb8);have HO10:Zaa (b9<w7.heap.size):=⟨Zbj (Zfp HV6.out HK7.out HB9.out)⟩
 have HS10:Zaa (∀k z,(k,z)∈s2.sh→φ3 k<w7.heap.size):=⟨fun k z hk=>by obtain⟨u1,u2,hc,_⟩:=(HV7.out.shapes k z hk).cells;exact Zbj hc⟩
 have HSS:Zaa (∀k z,(k,z)∈s2.sh→(k,z)∈s.sh∨(s.pl.length≤k∧br<φ3 k)):=⟨fun k z hk=>by
  have ho9:=HO9.out;have hb9:=Zbj HB9.out;have hhi:=HHI.out
  rcases HS7.out k z hk with h | ⟨h,h2⟩
  ·rcases HS5.out k z h with h3 | ⟨h3,h4⟩
   ·exact .inl h3
   ·refine .inr ⟨h3,?_⟩;rw[HE7.out k (HGA.out.shs k z h).1];omega
  ·exact .inr ⟨by omega,by omega⟩⟩
 have HEE:Zaa (∀k,k<s.pl.length→φ3 k=φ k):=⟨fun k hk=>(HE7.out k (by omega)).trans (HE5.out k hk)⟩
 have HII:Zaa (Zhv φ s.sh→Zhv φ3 s2.sh):=⟨fun h=>HI7.out (HI5.out h)⟩
 clear hb8 HFR7 HK7 HN7 h367 HFR6 HV6 HK6 HN6 HB9 HS9 HE7 HS7 HI7 HE5 HS5 HI5 q0 q1 q2 q3 p3 HD6 HV7;generalize w7.alloc (.cells (Zih (.slice C1 y.first.length j1) (.slice C2 y.last.length j2) y.empty) 97)=X8 at *;generalize w7.heap.size=b10 at *;have t1:=(Zac HB9'.out 2).trans rfl;have t2:=(Zac HB10.out 1).trans rfl
 go_upto_region 16 with (go_at_call 91;(with_reducible refine (Zmj w0 X8 gb h0 h1 vs vf φ3 v7 s2.pl s2.sh HV8.out _ _ x.last y.first HR2.out HS1.out HXL.out HYF.out HRA.out hl2').mono ?_);rintro e w9 ⟨rfl,hv9,hk9⟩;have HV9:=Zaa.mk hv9;have HK9:=Zaa.mk hk9;clear hv9 hk9)
 obtain⟨xf,xl,xe⟩:=x;obtain⟨yf,yl,ye⟩:=y;have h389:=HV8.out.same3 HK9.out;have HFR9:=Zaa.mk (HFR8.out.kept HV8.out HK9.out);have HB9':=Zaa.mk (Zfp HV8.out HK9.out HB9'.out);have HB10:=Zaa.mk (Zfp HV8.out HK9.out HB10.out);have HR1:=Zaa.mk (HR1.out.same h389);have HR2:=Zaa.mk (HR2.out.same h389);have HS1:=Zaa.mk (HS1.out.same h389);have HS2:=Zaa.mk (HS2.out.same h389);have HS11:Zaa (∀k z,(k,z)∈s2.sh→φ3 k<w9.heap.size):=⟨fun k z hk=>by obtain⟨u1,u2,hc,_⟩:=(HV9.out.shapes k z hk).cells;exact Zbj hc⟩
 clear h389 t1 t2;have t91:=(Zac HB9'.out 1).trans rfl;have t92:=(Zac HB9'.out 2).trans rfl;have t93:=(Zac HB9'.out 3).trans rfl;have t101:=(Zac HB10.out 1).trans rfl;have t102:=(Zac HB10.out 2).trans rfl;have t103:=(Zac HB10.out 3).trans rfl;cases xe <;> cases ye
 ·go_upto_region 17 with (fail)
  have hbA:=Zae (Below.refl _ w9) (.cells (Zih (.slice B1 xf.length e1) (.slice C2 yl.length j2) false) 97);have HSQ:Zaa (Sq w0 W (w9.alloc (.cells (Zih (.slice B1 xf.length e1) (.slice C2 yl.length j2) false) 97)) gb h0 h1 vs vf φ3 v v7 (s2.link xl yf) bp br _ b9 b10 w9.heap.size ⟨xf,xl,false⟩ ⟨yf,yl,false⟩ (.slice B1 xf.length e1) (.slice B2 xl.length e2) (.slice C1 yf.length j1) (.slice C2 yl.length j2) (.slice B1 xf.length e1) (.slice C2 yl.length j2) xf yl false):=⟨HFR9.out.below hbA,HV9.out.below hbA,Kept.below (HK8.out.trans HK9.out HN8.out) hbA,Zag HB9'.out hbA,Zag HB10.out hbA,Zaq w9 _,Zap HR1.out hbA,Zap HR2.out hbA,Zap HS1.out hbA,Zap HS2.out hbA,Zap HR1.out hbA,Zap HS2.out hbA,HS11.out,⟨HO9.out,HO10.out,Zbj HB10.out⟩,HLO.out⟩
  clear hbA t91 t92 t93 t101 t102 t103;generalize w9.alloc (.cells (Zih (.slice B1 xf.length e1) (.slice C2 yl.length j2) false) 97)=Y at *;generalize w9.heap.size=b11 at *;have t91:=(Zac HSQ.out.k9 1).trans rfl;have t92:=(Zac HSQ.out.k9 2).trans rfl;have t93:=(Zac HSQ.out.k9 3).trans rfl;have t101:=(Zac HSQ.out.k10 1).trans rfl;have t102:=(Zac HSQ.out.k10 2).trans rfl;have t103:=(Zac HSQ.out.k10 3).trans rfl
  go_upto_region 19 with (fail)
  clear t91 t92 t93 t101 t102 t103;have t91:=(Zac HSQ.out.k9 1).trans rfl;have t92:=(Zac HSQ.out.k9 2).trans rfl;have t93:=(Zac HSQ.out.k9 3).trans rfl;have t101:=(Zac HSQ.out.k10 1).trans rfl;have t102:=(Zac HSQ.out.k10 2).trans rfl;have t103:=(Zac HSQ.out.k10 3).trans rfl
  go_upto_region 21 with (fail)
  clear t91 t92 t93 t101 t102 t103;have t110:=(Zac HSQ.out.k11 0).trans rfl;have t111:=(Zac HSQ.out.k11 1).trans rfl;have t112:=(Zac HSQ.out.k11 2).trans rfl;have t113:=(Zac HSQ.out.k11 3).trans rfl;have t114:=(Zac HSQ.out.k11 4).trans rfl;have t115:=(Zac HSQ.out.k11 5).trans rfl;have r0:=HSQ.out.fr.cl.r 0 _ rfl;have r1:=HSQ.out.fr.cl.r 1 _ rfl;have r2:=HSQ.out.fr.cl.r 2 _ rfl;have r3:=HSQ.out.fr.cl.r 3 _ rfl;have r4:=HSQ.out.fr.cl.r 4 _ rfl;have r5:=HSQ.out.fr.cl.r 5 _ rfl;have rf:=HSQ.out.fr.cl.f;go_wp2
  refine bodyPost_ret (results_cell_row rfl _ _ br 97 #[.int .i64 0,.slice B1 xf.length e1,.slice C2 yl.length j2,.bool false,.int .i64 0,.int .i64 0] (0,0) _ rfl (Zdk rfl HSQ.out.fr.r _ _ _) Tryz.underlying97 rfl (by kernel_rfl)) rfl ?_
  exact Zeu (x:=⟨xf,yl,false⟩) (s':=s2.link xl yf) HV.out HG.out HSQ.out.fr HSQ.out.vs HSQ.out.k HN8.out HSQ.out.rf HSQ.out.rl HEE.out HSS.out HII.out
 ·go_upto_region 17 with (fail)
  have hbA:=Zae (Below.refl _ w9) (.cells (Zih (.slice B1 xf.length e1) (.slice C2 yl.length j2) false) 97);have HSQ:Zaa (Sq w0 W (w9.alloc (.cells (Zih (.slice B1 xf.length e1) (.slice C2 yl.length j2) false) 97)) gb h0 h1 vs vf φ3 v v7 (s2.link xl yf) bp br _ b9 b10 w9.heap.size ⟨xf,xl,false⟩ ⟨yf,yl,true⟩ (.slice B1 xf.length e1) (.slice B2 xl.length e2) (.slice C1 yf.length j1) (.slice C2 yl.length j2) (.slice B1 xf.length e1) (.slice C2 yl.length j2) xf yl false):=⟨HFR9.out.below hbA,HV9.out.below hbA,Kept.below (HK8.out.trans HK9.out HN8.out) hbA,Zag HB9'.out hbA,Zag HB10.out hbA,Zaq w9 _,Zap HR1.out hbA,Zap HR2.out hbA,Zap HS1.out hbA,Zap HS2.out hbA,Zap HR1.out hbA,Zap HS2.out hbA,HS11.out,⟨HO9.out,HO10.out,Zbj HB10.out⟩,HLO.out⟩
  clear hbA t91 t92 t93 t101 t102 t103;generalize w9.alloc (.cells (Zih (.slice B1 xf.length e1) (.slice C2 yl.length j2) false) 97)=Y at *;generalize w9.heap.size=b11 at *;have t91:=(Zac HSQ.out.k9 1).trans rfl;have t92:=(Zac HSQ.out.k9 2).trans rfl;have t93:=(Zac HSQ.out.k9 3).trans rfl;have t101:=(Zac HSQ.out.k10 1).trans rfl;have t102:=(Zac HSQ.out.k10 2).trans rfl;have t103:=(Zac HSQ.out.k10 3).trans rfl
  go_upto_region 19 with (fail)
  clear t91 t92 t93 t101 t102 t103;have t91:=(Zac HSQ.out.k9 1).trans rfl;have t92:=(Zac HSQ.out.k9 2).trans rfl;have t93:=(Zac HSQ.out.k9 3).trans rfl;have t101:=(Zac HSQ.out.k10 1).trans rfl;have t102:=(Zac HSQ.out.k10 2).trans rfl;have t103:=(Zac HSQ.out.k10 3).trans rfl;have HCA:Zaa ((Kd.int .i64).C Y B2 xl.length xl):=⟨ri_C HSQ.out.ra2⟩
  have HCB:Zaa ((Kd.int .i64).C Y C2 yl.length yl):=⟨ri_C HSQ.out.rc2⟩
  have HLA:Zaa (xl.length≤100000):=⟨Nat.le_trans HXL.out.len hl2'⟩
  have HLB:Zaa (yl.length≤100000):=⟨Nat.le_trans HYL.out.len hl2'⟩
  go_upto_region 21 with (go_at_call 39;(with_reducible refine (Zey B2 C2 e2 j2 xl yl Y HCA.out HCB.out HLA.out HLB.out).mono ?_);rintro e w11 ⟨v10,rfl,ho,hb⟩;obtain⟨G2,n2,rfl⟩:=Kd.R_slice ho;have HU:=Zaa.mk (HSQ.out.vs.ri ho (Nat.le_refl _));have HSQX:=Zaa.mk (HSQ.out.below hb);have z1:=(Zac HSQX.out.k11 2).trans rfl;have zf:=Zat HSQX.out.k11 2;clear ho hb)
  have HSQ:=Zaa.mk (HSQX.out.put2 HU.out);clear HSQX HU z1 zf HCA HCB HLA HLB t91 t92 t93 t101 t102 t103;generalize w11.setCell ⟨b11,2,none⟩ (.slice G2 (Zay xl yl).length n2)=Y3 at *;have t110:=(Zac HSQ.out.k11 0).trans rfl;have t111:=(Zac HSQ.out.k11 1).trans rfl;have t112:=(Zac HSQ.out.k11 2).trans rfl;have t113:=(Zac HSQ.out.k11 3).trans rfl;have t114:=(Zac HSQ.out.k11 4).trans rfl;have t115:=(Zac HSQ.out.k11 5).trans rfl;have r0:=HSQ.out.fr.cl.r 0 _ rfl;have r1:=HSQ.out.fr.cl.r 1 _ rfl;have r2:=HSQ.out.fr.cl.r 2 _ rfl;have r3:=HSQ.out.fr.cl.r 3 _ rfl;have r4:=HSQ.out.fr.cl.r 4 _ rfl;have r5:=HSQ.out.fr.cl.r 5 _ rfl;have rf:=HSQ.out.fr.cl.f;go_wp2
  refine bodyPost_ret (results_cell_row rfl _ _ br 97 #[.int .i64 0,.slice B1 xf.length e1,.slice G2 (Zay xl yl).length n2,.bool false,.int .i64 0,.int .i64 0] (0,0) _ rfl (Zdk rfl HSQ.out.fr.r _ _ _) Tryz.underlying97 rfl (by kernel_rfl)) rfl ?_
  exact Zeu (x:=⟨xf,Zay xl yl,false⟩) (s':=s2.link xl yf) HV.out HG.out HSQ.out.fr HSQ.out.vs HSQ.out.k HN8.out HSQ.out.rf HSQ.out.rl HEE.out HSS.out HII.out
 ·go_upto_region 17 with (fail)
  have hbA:=Zae (Below.refl _ w9) (.cells (Zih (.slice B1 xf.length e1) (.slice C2 yl.length j2) false) 97);have HSQ:Zaa (Sq w0 W (w9.alloc (.cells (Zih (.slice B1 xf.length e1) (.slice C2 yl.length j2) false) 97)) gb h0 h1 vs vf φ3 v v7 (s2.link xl yf) bp br _ b9 b10 w9.heap.size ⟨xf,xl,true⟩ ⟨yf,yl,false⟩ (.slice B1 xf.length e1) (.slice B2 xl.length e2) (.slice C1 yf.length j1) (.slice C2 yl.length j2) (.slice B1 xf.length e1) (.slice C2 yl.length j2) xf yl false):=⟨HFR9.out.below hbA,HV9.out.below hbA,Kept.below (HK8.out.trans HK9.out HN8.out) hbA,Zag HB9'.out hbA,Zag HB10.out hbA,Zaq w9 _,Zap HR1.out hbA,Zap HR2.out hbA,Zap HS1.out hbA,Zap HS2.out hbA,Zap HR1.out hbA,Zap HS2.out hbA,HS11.out,⟨HO9.out,HO10.out,Zbj HB10.out⟩,HLO.out⟩
  clear hbA t91 t92 t93 t101 t102 t103;generalize w9.alloc (.cells (Zih (.slice B1 xf.length e1) (.slice C2 yl.length j2) false) 97)=Y at *;generalize w9.heap.size=b11 at *;have t91:=(Zac HSQ.out.k9 1).trans rfl;have t92:=(Zac HSQ.out.k9 2).trans rfl;have t93:=(Zac HSQ.out.k9 3).trans rfl;have t101:=(Zac HSQ.out.k10 1).trans rfl;have t102:=(Zac HSQ.out.k10 2).trans rfl;have t103:=(Zac HSQ.out.k10 3).trans rfl;have HCA:Zaa ((Kd.int .i64).C Y B1 xf.length xf):=⟨ri_C HSQ.out.ra1⟩
  have HCB:Zaa ((Kd.int .i64).C Y C1 yf.length yf):=⟨ri_C HSQ.out.rc1⟩
  have HLA:Zaa (xf.length≤100000):=⟨Nat.le_trans HXF.out.len hl2'⟩
  have HLB:Zaa (yf.length≤100000):=⟨Nat.le_trans HYF.out.len hl2'⟩
  go_upto_region 19 with (go_at_call 39;(with_reducible refine (Zey B1 C1 e1 j1 xf yf Y HCA.out HCB.out HLA.out HLB.out).mono ?_);rintro e w10 ⟨v10,rfl,ho,hb⟩;obtain⟨G1,n1,rfl⟩:=Kd.R_slice ho;have HU:=Zaa.mk (HSQ.out.vs.ri ho (Nat.le_refl _));have HSQX:=Zaa.mk (HSQ.out.below hb);have z1:=(Zac HSQX.out.k11 1).trans rfl;have zf:=Zat HSQX.out.k11 1;clear ho hb)
  have HSQ:=Zaa.mk (HSQX.out.put1 HU.out);clear HSQX HU z1 zf HCA HCB HLA HLB t91 t92 t93 t101 t102 t103;generalize w10.setCell ⟨b11,1,none⟩ (.slice G1 (Zay xf yf).length n1)=Y2 at *;have t91:=(Zac HSQ.out.k9 1).trans rfl;have t92:=(Zac HSQ.out.k9 2).trans rfl;have t93:=(Zac HSQ.out.k9 3).trans rfl;have t101:=(Zac HSQ.out.k10 1).trans rfl;have t102:=(Zac HSQ.out.k10 2).trans rfl;have t103:=(Zac HSQ.out.k10 3).trans rfl
  go_upto_region 21 with (fail)
  clear t91 t92 t93 t101 t102 t103;have t110:=(Zac HSQ.out.k11 0).trans rfl;have t111:=(Zac HSQ.out.k11 1).trans rfl;have t112:=(Zac HSQ.out.k11 2).trans rfl;have t113:=(Zac HSQ.out.k11 3).trans rfl;have t114:=(Zac HSQ.out.k11 4).trans rfl;have t115:=(Zac HSQ.out.k11 5).trans rfl;have r0:=HSQ.out.fr.cl.r 0 _ rfl;have r1:=HSQ.out.fr.cl.r 1 _ rfl;have r2:=HSQ.out.fr.cl.r 2 _ rfl;have r3:=HSQ.out.fr.cl.r 3 _ rfl;have r4:=HSQ.out.fr.cl.r 4 _ rfl;have r5:=HSQ.out.fr.cl.r 5 _ rfl;have rf:=HSQ.out.fr.cl.f;go_wp2
  refine bodyPost_ret (results_cell_row rfl _ _ br 97 #[.int .i64 0,.slice G1 (Zay xf yf).length n1,.slice C2 yl.length j2,.bool false,.int .i64 0,.int .i64 0] (0,0) _ rfl (Zdk rfl HSQ.out.fr.r _ _ _) Tryz.underlying97 rfl (by kernel_rfl)) rfl ?_
  exact Zeu (x:=⟨Zay xf yf,yl,false⟩) (s':=s2.link xl yf) HV.out HG.out HSQ.out.fr HSQ.out.vs HSQ.out.k HN8.out HSQ.out.rf HSQ.out.rl HEE.out HSS.out HII.out
 ·go_upto_region 17 with (fail)
  have hbA:=Zae (Below.refl _ w9) (.cells (Zih (.slice B1 xf.length e1) (.slice C2 yl.length j2) true) 97);have HSQ:Zaa (Sq w0 W (w9.alloc (.cells (Zih (.slice B1 xf.length e1) (.slice C2 yl.length j2) true) 97)) gb h0 h1 vs vf φ3 v v7 (s2.link xl yf) bp br _ b9 b10 w9.heap.size ⟨xf,xl,true⟩ ⟨yf,yl,true⟩ (.slice B1 xf.length e1) (.slice B2 xl.length e2) (.slice C1 yf.length j1) (.slice C2 yl.length j2) (.slice B1 xf.length e1) (.slice C2 yl.length j2) xf yl true):=⟨HFR9.out.below hbA,HV9.out.below hbA,Kept.below (HK8.out.trans HK9.out HN8.out) hbA,Zag HB9'.out hbA,Zag HB10.out hbA,Zaq w9 _,Zap HR1.out hbA,Zap HR2.out hbA,Zap HS1.out hbA,Zap HS2.out hbA,Zap HR1.out hbA,Zap HS2.out hbA,HS11.out,⟨HO9.out,HO10.out,Zbj HB10.out⟩,HLO.out⟩
  clear hbA t91 t92 t93 t101 t102 t103;generalize w9.alloc (.cells (Zih (.slice B1 xf.length e1) (.slice C2 yl.length j2) true) 97)=Y at *;generalize w9.heap.size=b11 at *;have t91:=(Zac HSQ.out.k9 1).trans rfl;have t92:=(Zac HSQ.out.k9 2).trans rfl;have t93:=(Zac HSQ.out.k9 3).trans rfl;have t101:=(Zac HSQ.out.k10 1).trans rfl;have t102:=(Zac HSQ.out.k10 2).trans rfl;have t103:=(Zac HSQ.out.k10 3).trans rfl;have HCA:Zaa ((Kd.int .i64).C Y B1 xf.length xf):=⟨ri_C HSQ.out.ra1⟩
  have HCB:Zaa ((Kd.int .i64).C Y C1 yf.length yf):=⟨ri_C HSQ.out.rc1⟩
  have HLA:Zaa (xf.length≤100000):=⟨Nat.le_trans HXF.out.len hl2'⟩
  have HLB:Zaa (yf.length≤100000):=⟨Nat.le_trans HYF.out.len hl2'⟩
  go_upto_region 19 with (go_at_call 39;(with_reducible refine (Zey B1 C1 e1 j1 xf yf Y HCA.out HCB.out HLA.out HLB.out).mono ?_);rintro e w10 ⟨v10,rfl,ho,hb⟩;obtain⟨G1,n1,rfl⟩:=Kd.R_slice ho;have HU:=Zaa.mk (HSQ.out.vs.ri ho (Nat.le_refl _));have HSQX:=Zaa.mk (HSQ.out.below hb);have z1:=(Zac HSQX.out.k11 1).trans rfl;have zf:=Zat HSQX.out.k11 1;clear ho hb)
  have HSQ:=Zaa.mk (HSQX.out.put1 HU.out);clear HSQX HU z1 zf HCA HCB HLA HLB t91 t92 t93 t101 t102 t103;generalize w10.setCell ⟨b11,1,none⟩ (.slice G1 (Zay xf yf).length n1)=Y2 at *;have t91:=(Zac HSQ.out.k9 1).trans rfl;have t92:=(Zac HSQ.out.k9 2).trans rfl;have t93:=(Zac HSQ.out.k9 3).trans rfl;have t101:=(Zac HSQ.out.k10 1).trans rfl;have t102:=(Zac HSQ.out.k10 2).trans rfl;have t103:=(Zac HSQ.out.k10 3).trans rfl;have HCA:Zaa ((Kd.int .i64).C Y2 B2 xl.length xl):=⟨ri_C HSQ.out.ra2⟩
  have HCB:Zaa ((Kd.int .i64).C Y2 C2 yl.length yl):=⟨ri_C HSQ.out.rc2⟩
  have HLA:Zaa (xl.length≤100000):=⟨Nat.le_trans HXL.out.len hl2'⟩
  have HLB:Zaa (yl.length≤100000):=⟨Nat.le_trans HYL.out.len hl2'⟩
  go_upto_region 21 with (go_at_call 39;(with_reducible refine (Zey B2 C2 e2 j2 xl yl Y2 HCA.out HCB.out HLA.out HLB.out).mono ?_);rintro e w11 ⟨v10,rfl,ho,hb⟩;obtain⟨G2,n2,rfl⟩:=Kd.R_slice ho;have HU:=Zaa.mk (HSQ.out.vs.ri ho (Nat.le_refl _));have HSQX:=Zaa.mk (HSQ.out.below hb);have z1:=(Zac HSQX.out.k11 2).trans rfl;have zf:=Zat HSQX.out.k11 2;clear ho hb)
  have HSQ:=Zaa.mk (HSQX.out.put2 HU.out);clear HSQX HU z1 zf HCA HCB HLA HLB t91 t92 t93 t101 t102 t103;generalize w11.setCell ⟨b11,2,none⟩ (.slice G2 (Zay xl yl).length n2)=Y3 at *;have t110:=(Zac HSQ.out.k11 0).trans rfl;have t111:=(Zac HSQ.out.k11 1).trans rfl;have t112:=(Zac HSQ.out.k11 2).trans rfl;have t113:=(Zac HSQ.out.k11 3).trans rfl;have t114:=(Zac HSQ.out.k11 4).trans rfl;have t115:=(Zac HSQ.out.k11 5).trans rfl;have r0:=HSQ.out.fr.cl.r 0 _ rfl;have r1:=HSQ.out.fr.cl.r 1 _ rfl;have r2:=HSQ.out.fr.cl.r 2 _ rfl;have r3:=HSQ.out.fr.cl.r 3 _ rfl;have r4:=HSQ.out.fr.cl.r 4 _ rfl;have r5:=HSQ.out.fr.cl.r 5 _ rfl;have rf:=HSQ.out.fr.cl.f;go_wp2
  refine bodyPost_ret (results_cell_row rfl _ _ br 97 #[.int .i64 0,.slice G1 (Zay xf yf).length n1,.slice G2 (Zay xl yl).length n2,.bool true,.int .i64 0,.int .i64 0] (0,0) _ rfl (Zdk rfl HSQ.out.fr.r _ _ _) Tryz.underlying97 rfl (by kernel_rfl)) rfl ?_
  exact Zeu (x:=⟨Zay xf yf,Zay xl yl,true⟩) (s':=s2.link xl yf) HV.out HG.out HSQ.out.fr HSQ.out.vs HSQ.out.k HN8.out HSQ.out.rf HSQ.out.rl HEE.out HSS.out HII.out
theorem Zhe {w:World}{b9 b10:Nat}{a1 a2 c1 c2:Value}{e d:Bool}(h9:w.heap[b9]?=some (.cells (Zih a1 a2 e) 97 (0,0)))(h10:w.heap[b10]?=some (.cells (Zih c1 c2 d) 97 (0,0))) :
 w.cell? ⟨b9,1,none⟩=some a1∧w.cell? ⟨b9,2,none⟩=some a2∧w.cell? ⟨b9,3,none⟩=some (.bool e)∧w.cell? ⟨b10,1,none⟩=some c1∧w.cell? ⟨b10,2,none⟩=some c2∧w.cell? ⟨b10,3,none⟩=some (.bool d):=
 ⟨(Zac h9 1).trans rfl,(Zac h9 2).trans rfl,(Zac h9 3).trans rfl,(Zac h10 1).trans rfl,(Zac h10 2).trans rfl,(Zac h10 3).trans rfl⟩
theorem tw_put {w:World}{b9 b10 br:Nat}{a1 a2 c1 c2:Value}{e d:Bool}(h9:w.heap[b9]?=some (.cells (Zih a1 a2 e) 97 (0,0)))(h10:w.heap[b10]?=some (.cells (Zih c1 c2 d) 97 (0,0)))(n9:br<b9)(n10:b9<b10)(d0 d1 d2 d3 d4 d5:Value) :
 ((((((w.setCell ⟨br,0,none⟩ d0).setCell ⟨br,1,none⟩ d1).setCell ⟨br,2,none⟩ d2).setCell ⟨br,3,none⟩ d3).setCell ⟨br,4,none⟩ d4).setCell ⟨br,5,none⟩ d5).cell? ⟨b9,1,none⟩=some a1∧((((((w.setCell ⟨br,0,none⟩ d0).setCell ⟨br,1,none⟩ d1).setCell ⟨br,2,none⟩ d2).setCell ⟨br,3,none⟩ d3).setCell ⟨br,4,none⟩ d4).setCell ⟨br,5,none⟩ d5).cell? ⟨b9,2,none⟩=some a2∧((((((w.setCell ⟨br,0,none⟩ d0).setCell ⟨br,1,none⟩ d1).setCell ⟨br,2,none⟩ d2).setCell ⟨br,3,none⟩ d3).setCell ⟨br,4,none⟩ d4).setCell ⟨br,5,none⟩ d5).cell? ⟨b9,3,none⟩=some (.bool e)∧((((((w.setCell ⟨br,0,none⟩ d0).setCell ⟨br,1,none⟩ d1).setCell ⟨br,2,none⟩ d2).setCell ⟨br,3,none⟩ d3).setCell ⟨br,4,none⟩ d4).setCell ⟨br,5,none⟩ d5).cell? ⟨b10,1,none⟩=some c1∧((((((w.setCell ⟨br,0,none⟩ d0).setCell ⟨br,1,none⟩ d1).setCell ⟨br,2,none⟩ d2).setCell ⟨br,3,none⟩ d3).setCell ⟨br,4,none⟩ d4).setCell ⟨br,5,none⟩ d5).cell? ⟨b10,2,none⟩=some c2∧((((((w.setCell ⟨br,0,none⟩ d0).setCell ⟨br,1,none⟩ d1).setCell ⟨br,2,none⟩ d2).setCell ⟨br,3,none⟩ d3).setCell ⟨br,4,none⟩ d4).setCell ⟨br,5,none⟩ d5).cell? ⟨b10,3,none⟩=some (.bool d):=by
 have hk:=Zlv w br d0 d1 d2 d3 d4 d5;exact Zhe ((hk.2 _ (Zbj h9) (by omega)).trans h9) ((hk.2 _ (Zbj h10) (by omega)).trans h10)
set_option maxHeartbeats 8000000 in
theorem walk_alt (n:Nat)(hw:WalkC n)(hwg:Znd n)(w0:W0)(W:World)(gb:Nat)(h0 h1 vs vf:Value)(φ:Nat→Nat)(v:Value)(s:St)(b:Nat)(p:S76)(vp:Value)(h:VS w0 W gb h0 h1 vs vf φ v s.pl s.sh)(hg:Good s)(hb:b<s.pl.length)(hp:Znk w0 p vp)(hk:p.f0=6)
 (hc1:2≤p.f3.length) (hok:Zen n (Zaj p.f3 0)) (hok2:Zen n (Zaj p.f3 1)) (hlen:s.pl.length+(Zcx n (Zaj p.f3 0)+Zcx n (Zaj p.f3 1))≤100000) :
 Calls Tryz.prog 64 #[.pointer (some ⟨gb,0,none⟩),.pointer (some ⟨φ b,0,none⟩),vp] W (Znc w0 W gb h0 h1 vs vf φ v s
  (altX (Zau n b (Zaj p.f3 0) s).1 (Zau n b (Zaj p.f3 1) (Zau n b (Zaj p.f3 0) s).2).1)
  (Zau n b (Zaj p.f3 1) (Zau n b (Zaj p.f3 0) s).2).2):=by
 obtain⟨A1,c1,A2,c2,A3,c3,rfl,l1,g1,l2,g2,l3,g3⟩:=hp;rw[hk];have HV:=Zaa.mk h;have HG:=Zaa.mk hg;obtain⟨ad,D1,d1,D2,d2,D3,d3,rfl,hq,hcells⟩:=kid0 g3 (by omega);obtain⟨F1,f1,F2,f2,F3,f3,hr,hcells2⟩:=kid1 g3 (by omega);have hwq:=hwg b (Zaj p.f3 0) s hg hb;have hc:=fun W v hv=>hw w0 W gb h0 h1 vs vf φ v s b (Zaj p.f3 0) _ hv hg hb hok (by omega) hq
 generalize (Zau n b (Zaj p.f3 0) s).1=x at *;generalize (Zau n b (Zaj p.f3 0) s).2=sa at *;obtain⟨hga,hla,hra1,hra2⟩:=hwq;have hwr:=hwg b (Zaj p.f3 1) sa hga (by omega);have hd:=fun W φ v hv=>hw w0 W gb h0 h1 vs vf φ v sa b (Zaj p.f3 1) _ hv hga (by omega) hok2 (by omega) hr
 generalize (Zau n b (Zaj p.f3 1) sa).1=y at *;generalize (Zau n b (Zaj p.f3 1) sa).2=s2 at *;obtain⟨hg2,hl2,hrb1,hrb2⟩:=hwr;have HRA:=Zaa.mk hg2.ris;have HXF:Zaa (Ris s2.pl.length x.first):=⟨hra1.mono (by omega)⟩
 have HXL:Zaa (Ris s2.pl.length x.last):=⟨hra2.mono (by omega)⟩
 have HYF:Zaa (Ris s2.pl.length y.first):=⟨hrb1.mono (by omega)⟩
 have HYL:Zaa (Ris s2.pl.length y.last):=⟨hrb2.mono (by omega)⟩
 have HC:=Zaa.mk hc;have HD:=Zaa.mk hd;have HCE:=Zaa.mk hcells;have HCF:=Zaa.mk hcells2;have HGA:=Zaa.mk hga;have hl2':s2.pl.length≤100000:=by omega
 have hls:s.pl.length≤sa.pl.length:=by omega
 have hbs:b<s.pl.length:=hb;clear h hg g1 g2 g3 hw hwg hq hok hc hcells hg2 hra1 hra2 hrb1 hrb2 hcells2 hd hr hok2 hga hb;generalize Zaj p.f3 0=q at *;generalize Zaj p.f3 1=r at *
 go_enter Tryz.func64,Tryz.ntmps64
 go_upto_region 1 with (fail)
 have HFR:=Zaa.mk (Fr.first W #[.int .i64 6,.slice A1 p.f1.length c1,.slice A2 p.f2.length c2,.slice (some ad) p.f3.length c3]);have HVX:=Zaa.mk (HV.out.below (Zae (Zae (Below.refl _ W) (.cells #[.int .i64 6,.slice A1 p.f1.length c1,.slice A2 p.f2.length c2,.slice (some ad) p.f3.length c3] 76)) (.cells Zcs 97)));have HKX:=Zaa.mk (KeptV.of_below (Zae (Zae (Below.refl _ W) (.cells #[.int .i64 6,.slice A1 p.f1.length c1,.slice A2 p.f2.length c2,.slice (some ad) p.f3.length c3] 76)) (.cells Zcs 97)) gb v);have HLO:Zaa (w0.heap.size≤W.heap.size+1):=⟨by have h9:w0.heap.size≤W.heap.size:=HV.out.bel.size;omega⟩
 generalize (W.alloc (.cells #[.int .i64 6,.slice A1 p.f1.length c1,.slice A2 p.f2.length c2,.slice (some ad) p.f3.length c3] 76)).alloc (.cells Zcs 97)=X at *;generalize W.heap.size+1=br at *;generalize W.heap.size=bp at *;have p0:=HFR.out.cl.p 0 _ rfl;have p3:=HFR.out.cl.p 3 _ rfl;have HHI:Zaa (br<X.heap.size):=⟨Zbj HFR.out.r⟩
 obtain⟨q0,q1,q2,q3⟩:=HCE.out X HVX.out.bel
 go_upto_region 24 with (go_at_call 64;(with_reducible refine (HC.out _ _ HVX.out).mono ?_);rintro e w5 ⟨x1,x2,φ2,v5,rfl,hr1,hr2,hv5,hk5,hn5,he5,hs5,hi5⟩;obtain⟨B1,e1,rfl,hl1,_⟩:=hr1.C;obtain⟨B2,e2,rfl,hl2,_⟩:=hr2.C;have HFR5:=Zaa.mk (HFR.out.kept HVX.out hk5);have HR1:=Zaa.mk hr1;have HR2:=Zaa.mk hr2;have HV5:=Zaa.mk hv5;have HK5:=Zaa.mk hk5;have HN5:=Zaa.mk hn5;have HE5:=Zaa.mk he5;have HS5:=Zaa.mk hs5;have HI5:=Zaa.mk hi5;clear hr1 hr2 hv5 hk5 hn5 he5 hs5 hi5)
 have hb6:=Zae (Below.refl _ w5) (.cells (Zih (.slice B1 x.first.length e1) (.slice B2 x.last.length e2) x.empty) 97);have HFR6:=Zaa.mk (HFR5.out.below hb6);have HV6:=Zaa.mk (HV5.out.below hb6);have HK6:=Zaa.mk (show KeptV W _ gb v from (HKX.out.trans HK5.out (NewOr.refl _ _)).below hb6);have HN6:=Zaa.mk (Zfk HKX.out HN5.out);have HB9:=Zaa.mk (Zaq w5 (.cells (Zih (.slice B1 x.first.length e1) (.slice B2 x.last.length e2) x.empty) 97));have HR1:=Zaa.mk (Zap HR1.out hb6);have HR2:=Zaa.mk (Zap HR2.out hb6);have HO9:Zaa (br<w5.heap.size):=⟨Zbj HFR5.out.r⟩
 have HS9:Zaa (∀k z,(k,z)∈sa.sh→φ2 k<w5.heap.size):=⟨fun k z hk=>by obtain⟨u1,u2,hc,_⟩:=(HV5.out.shapes k z hk).cells;exact Zbj hc⟩
 clear hb6 HFR5 HV5 HK5 HN5;generalize w5.alloc (.cells (Zih (.slice B1 x.first.length e1) (.slice B2 x.last.length e2) x.empty) 97)=X6 at *;generalize w5.heap.size=b9 at *;have hd6:=HD.out X6 φ2 v5 HV6.out;rw[HE5.out b hbs]at hd6;have HD6:=Zaa.mk hd6;clear hd6 q0 q1 q2 q3 p0 p3;have p3:=HFR6.out.cl.p 3 _ rfl;obtain⟨q0,q1,q2,q3⟩:=HCF.out X6 HV6.out.bel
 go_upto_region 25 with (go_at_call 64;(with_reducible refine HD6.out.mono ?_);rintro e w7 ⟨x1,x2,φ3,v7,rfl,hr1,hr2,hv7,hk7,hn7,he7,hs7,hi7⟩;obtain⟨C1,j1,rfl,hl1,_⟩:=hr1.C;obtain⟨C2,j2,rfl,hl2,_⟩:=hr2.C;have HFR7:=Zaa.mk (HFR6.out.kept HV6.out hk7);have HS1:=Zaa.mk hr1;have HS2:=Zaa.mk hr2;have HV7:=Zaa.mk hv7;have HK7:=Zaa.mk hk7;have HN7:=Zaa.mk hn7;have HE7:=Zaa.mk he7;have HS7:=Zaa.mk hs7;have HI7:=Zaa.mk hi7;clear hr1 hr2 hv7 hk7 hn7 he7 hs7 hi7)
 have hb8:=Zae (Below.refl _ w7) (.cells (Zih (.slice C1 y.first.length j1) (.slice C2 y.last.length j2) y.empty) 97);have h367:=HV6.out.same3 HK7.out;have HFR8:=Zaa.mk (HFR7.out.below hb8);have HV8:=Zaa.mk (HV7.out.below hb8);have HK8:=Zaa.mk (show KeptV W _ gb v from (HK6.out.trans HK7.out HN6.out).below hb8);have HN8:=Zaa.mk (NewOr.trans HN6.out HN7.out HK6.out.1);have HB9':=Zaa.mk (Zag (Zfp HV6.out HK7.out HB9.out) hb8);have HB10:=Zaa.mk (Zaq w7 (.cells (Zih (.slice C1 y.first.length j1) (.slice C2 y.last.length j2) y.empty) 97));have HR1:=Zaa.mk (Zap (HR1.out.same h367) hb8);have HR2:=Zaa.mk (Zap (HR2.out.same h367) hb8);have HS1:=Zaa.mk (Zap HS1.out hb8);have HS2:=Zaa.mk (Zap HS2.out hb8);have HO10:Zaa (b9<w7.heap.size):=⟨Zbj (Zfp HV6.out HK7.out HB9.out)⟩
 have HS10:Zaa (∀k z,(k,z)∈s2.sh→φ3 k<w7.heap.size):=⟨fun k z hk=>by obtain⟨u1,u2,hc,_⟩:=(HV7.out.shapes k z hk).cells;exact Zbj hc⟩
 have HSS:Zaa (∀k z,(k,z)∈s2.sh→(k,z)∈s.sh∨(s.pl.length≤k∧br<φ3 k)):=⟨fun k z hk=>by
  have ho9:=HO9.out;have hb9:=Zbj HB9.out;have hhi:=HHI.out
  rcases HS7.out k z hk with h | ⟨h,h2⟩
  ·rcases HS5.out k z h with h3 | ⟨h3,h4⟩
   ·exact .inl h3
   ·refine .inr ⟨h3,?_⟩;rw[HE7.out k (HGA.out.shs k z h).1];omega
  ·exact .inr ⟨by omega,by omega⟩⟩
 have HEE:Zaa (∀k,k<s.pl.length→φ3 k=φ k):=⟨fun k hk=>(HE7.out k (by omega)).trans (HE5.out k hk)⟩
 have HII:Zaa (Zhv φ s.sh→Zhv φ3 s2.sh):=⟨fun h=>HI7.out (HI5.out h)⟩
 clear hb8 HFR7 HK7 HN7 h367 HFR6 HV6 HK6 HN6 HB9 HS9 HE7 HS7 HI7 HE5 HS5 HI5 q0 q1 q2 q3 p3 HD6 HV7;generalize w7.alloc (.cells (Zih (.slice C1 y.first.length j1) (.slice C2 y.last.length j2) y.empty) 97)=X8 at *;generalize w7.heap.size=b10 at *;obtain⟨xf,xl,xe⟩:=x;obtain⟨yf,yl,ye⟩:=y;have HLA:Zaa (xf.length≤100000∧yf.length≤100000):=⟨Nat.le_trans HXF.out.len hl2',Nat.le_trans HYF.out.len hl2'⟩
 have HLB:Zaa (xl.length≤100000∧yl.length≤100000):=⟨Nat.le_trans HXL.out.len hl2',Nat.le_trans HYL.out.len hl2'⟩
 have HC1:Zaa (∀w,Below X8.heap.size X8 w→Calls Tryz.prog 39 #[.slice B1 xf.length e1,.slice C1 yf.length j1] w fun e w'=>∃v,e=.returned v∧(Kd.int .i64).R 3 w' w.heap.size (fun _=>True) v (Zay xf yf)∧Below w.heap.size w w'):=⟨fun w hw=>Zey B1 C1 e1 j1 xf yf w (Kd.C_below (ri_C HR1.out) hw) (Kd.C_below (ri_C HS1.out) hw) HLA.out.1 HLA.out.2⟩
 have HC2:Zaa (∀w,Below X8.heap.size X8 w→Calls Tryz.prog 39 #[.slice B2 xl.length e2,.slice C2 yl.length j2] w fun e w'=>∃v,e=.returned v∧(Kd.int .i64).R 3 w' w.heap.size (fun _=>True) v (Zay xl yl)∧Below w.heap.size w w'):=⟨fun w hw=>Zey B2 C2 e2 j2 xl yl w (Kd.C_below (ri_C HR2.out) hw) (Kd.C_below (ri_C HS2.out) hw) HLB.out.1 HLB.out.2⟩
 have HBD:Zaa (Below X8.heap.size X8 X8.drew):=⟨Zar Zbr⟩
 have HSZ:Zaa (w0.heap.size≤X8.heap.size):=⟨HV8.out.bel.size⟩
 cases xe
 ·cases ye
  ·first | (go_region_held3 (fun w'=>w'.cell? ⟨b9,1,none⟩=some (.slice B1 xf.length e1)∧w'.cell? ⟨b9,2,none⟩=some (.slice B2 xl.length e2)∧w'.cell? ⟨b9,3,none⟩=some (.bool false)∧w'.cell? ⟨b10,1,none⟩=some (.slice C1 yf.length j1)∧w'.cell? ⟨b10,2,none⟩=some (.slice C2 yl.length j2)∧w'.cell? ⟨b10,3,none⟩=some (.bool false))
    (first | (with_reducible exact tw_put (Zag HB9'.out HBV.out) (Zag HB10.out HBV.out) HO9.out HO10.out _ _ _ _ _ _) | (with_reducible exact Zhe (Zag HB9'.out HBV.out) (Zag HB10.out HBV.out)) | (with_reducible exact Zhe (Zag HB9'.out HBD.out) (Zag HB10.out HBD.out)))
    (first | (go_simp;go_at_call 39;(with_reducible refine (HC1.out _ (by first | exact HBV.out | exact HBD.out)).mono ?_);rintro e w10 ⟨v10,rfl,ho,hb⟩;obtain⟨G1,n1,rfl⟩:=Kd.R_slice ho;have hb8:Below X8.heap.size X8 w10:=Zaf (by first | exact HBV.out | exact HBD.out) hb;have HU1:=Zaa.mk (HV8.out.ri ho (by first | exact HBV.out.size | exact HBD.out.size));(try (have HU2:=Zaa.mk (Zap HU2.out hb)));have HFRE:=Zaa.mk (HFR8.out.below hb8);have r0:=HFRE.out.cl.r 0 _ rfl;have r1:=HFRE.out.cl.r 1 _ rfl;have r2:=HFRE.out.cl.r 2 _ rfl;have r3:=HFRE.out.cl.r 3 _ rfl;have r4:=HFRE.out.cl.r 4 _ rfl;have r5:=HFRE.out.cl.r 5 _ rfl;have rf:=HFRE.out.cl.f;have HBV:=Zaa.mk hb8;clear ho hb hb8) | (go_simp;go_at_call 39;(with_reducible refine (HC2.out _ (by first | exact HBV.out | exact HBD.out)).mono ?_);rintro e w11 ⟨v11,rfl,ho,hb⟩;obtain⟨G2,n2,rfl⟩:=Kd.R_slice ho;have hb8:Below X8.heap.size X8 w11:=Zaf (by first | exact HBV.out | exact HBD.out) hb;have HU2:=Zaa.mk (HV8.out.ri ho (by first | exact HBV.out.size | exact HBD.out.size));(try (have HU1:=Zaa.mk (Zap HU1.out hb)));have HFRE:=Zaa.mk (HFR8.out.below hb8);have r0:=HFRE.out.cl.r 0 _ rfl;have r1:=HFRE.out.cl.r 1 _ rfl;have r2:=HFRE.out.cl.r 2 _ rfl;have r3:=HFRE.out.cl.r 3 _ rfl;have r4:=HFRE.out.cl.r 4 _ rfl;have r5:=HFRE.out.cl.r 5 _ rfl;have rf:=HFRE.out.cl.f;have HBV:=Zaa.mk hb8;clear ho hb hb8))) | fail
   all_goals (
    go_wp2
    refine bodyPost_ret (results_cell_row rfl _ _ br 97 #[.int .i64 0,.slice G1 (Zay xf yf).length n1,.slice G2 (Zay xl yl).length n2,.bool false,.int .i64 0,.int .i64 0] (0,0) _ rfl (Zdk rfl HFRE.out.r _ _ _) Tryz.underlying97 rfl (by kernel_rfl)) rfl ?_
    exact Zeu (x:=⟨Zay xf yf,Zay xl yl,false⟩) (s':=s2) HV.out HG.out HFRE.out (HV8.out.below HBV.out) (Kept.below HK8.out HBV.out) HN8.out HU1.out HU2.out HEE.out HSS.out HII.out)
  ·first | (go_region_held3 (fun w'=>w'.cell? ⟨b9,1,none⟩=some (.slice B1 xf.length e1)∧w'.cell? ⟨b9,2,none⟩=some (.slice B2 xl.length e2)∧w'.cell? ⟨b9,3,none⟩=some (.bool false)∧w'.cell? ⟨b10,1,none⟩=some (.slice C1 yf.length j1)∧w'.cell? ⟨b10,2,none⟩=some (.slice C2 yl.length j2)∧w'.cell? ⟨b10,3,none⟩=some (.bool true))
    (first | (with_reducible exact tw_put (Zag HB9'.out HBV.out) (Zag HB10.out HBV.out) HO9.out HO10.out _ _ _ _ _ _) | (with_reducible exact Zhe (Zag HB9'.out HBV.out) (Zag HB10.out HBV.out)) | (with_reducible exact Zhe (Zag HB9'.out HBD.out) (Zag HB10.out HBD.out)))
    (first | (go_simp;go_at_call 39;(with_reducible refine (HC1.out _ (by first | exact HBV.out | exact HBD.out)).mono ?_);rintro e w10 ⟨v10,rfl,ho,hb⟩;obtain⟨G1,n1,rfl⟩:=Kd.R_slice ho;have hb8:Below X8.heap.size X8 w10:=Zaf (by first | exact HBV.out | exact HBD.out) hb;have HU1:=Zaa.mk (HV8.out.ri ho (by first | exact HBV.out.size | exact HBD.out.size));(try (have HU2:=Zaa.mk (Zap HU2.out hb)));have HFRE:=Zaa.mk (HFR8.out.below hb8);have r0:=HFRE.out.cl.r 0 _ rfl;have r1:=HFRE.out.cl.r 1 _ rfl;have r2:=HFRE.out.cl.r 2 _ rfl;have r3:=HFRE.out.cl.r 3 _ rfl;have r4:=HFRE.out.cl.r 4 _ rfl;have r5:=HFRE.out.cl.r 5 _ rfl;have rf:=HFRE.out.cl.f;have HBV:=Zaa.mk hb8;clear ho hb hb8) | (go_simp;go_at_call 39;(with_reducible refine (HC2.out _ (by first | exact HBV.out | exact HBD.out)).mono ?_);rintro e w11 ⟨v11,rfl,ho,hb⟩;obtain⟨G2,n2,rfl⟩:=Kd.R_slice ho;have hb8:Below X8.heap.size X8 w11:=Zaf (by first | exact HBV.out | exact HBD.out) hb;have HU2:=Zaa.mk (HV8.out.ri ho (by first | exact HBV.out.size | exact HBD.out.size));(try (have HU1:=Zaa.mk (Zap HU1.out hb)));have HFRE:=Zaa.mk (HFR8.out.below hb8);have r0:=HFRE.out.cl.r 0 _ rfl;have r1:=HFRE.out.cl.r 1 _ rfl;have r2:=HFRE.out.cl.r 2 _ rfl;have r3:=HFRE.out.cl.r 3 _ rfl;have r4:=HFRE.out.cl.r 4 _ rfl;have r5:=HFRE.out.cl.r 5 _ rfl;have rf:=HFRE.out.cl.f;have HBV:=Zaa.mk hb8;clear ho hb hb8))) | fail
   all_goals (
    go_wp2
    refine bodyPost_ret (results_cell_row rfl _ _ br 97 #[.int .i64 0,.slice G1 (Zay xf yf).length n1,.slice G2 (Zay xl yl).length n2,.bool true,.int .i64 0,.int .i64 0] (0,0) _ rfl (Zdk rfl HFRE.out.r _ _ _) Tryz.underlying97 rfl (by kernel_rfl)) rfl ?_
    exact Zeu (x:=⟨Zay xf yf,Zay xl yl,true⟩) (s':=s2) HV.out HG.out HFRE.out (HV8.out.below HBV.out) (Kept.below HK8.out HBV.out) HN8.out HU1.out HU2.out HEE.out HSS.out HII.out)
 ·refine wp_region_noPanic ?_
  refine wp_region_held_drew (S:=(fun w'=>w'.cell? ⟨b9,1,none⟩=some (.slice B1 xf.length e1)∧w'.cell? ⟨b9,2,none⟩=some (.slice B2 xl.length e2)∧w'.cell? ⟨b9,3,none⟩=some (.bool true)∧w'.cell? ⟨b10,1,none⟩=some (.slice C1 yf.length j1)∧w'.cell? ⟨b10,2,none⟩=some (.slice C2 yl.length j2)∧w'.cell? ⟨b10,3,none⟩=some (.bool ye))) (by kernel_rfl) (Zhe (Zag HB9'.out HBD.out) (Zag HB10.out HBD.out)) (fun hHeld=>?_);refine wpAnyH_take (i:=0) (v:=?_) rfl (by kernel_rfl) (by kernel_rfl) (by kernel_rfl) (fun _ _ _ h=>h) (Or.inl ⟨by rfl,?_⟩) hHeld ?_
  rotate_left
  ·intro w hSw;(try dsimp only at hSw);go_simp;try (with_reducible rfl)
  (try simp only[Act.put,List.setIfInBounds_toArray,List.set_cons_zero,List.set_cons_succ])
  refine wpAnyH_take (i:=1) (v:=?_) rfl (by kernel_rfl) (by kernel_rfl) (by kernel_rfl) (fun _ _ _ h=>h) (Or.inl ⟨by rfl,?_⟩) hHeld ?_
  rotate_left
  ·intro w hSw;(try dsimp only at hSw);go_simp;try (with_reducible rfl)
  (try simp only[Act.put,List.setIfInBounds_toArray,List.set_cons_zero,List.set_cons_succ])
  refine wpAnyH_take (i:=2) (v:=?_) rfl (by kernel_rfl) (by kernel_rfl) (by kernel_rfl) (fun _ _ _ h=>h) (Or.inl ⟨by rfl,?_⟩) hHeld ?_
  rotate_left
  ·intro w hSw;(try dsimp only at hSw);go_simp;try (with_reducible rfl)
  (try simp only[Act.put,List.setIfInBounds_toArray,List.set_cons_zero,List.set_cons_succ])
  refine wpAnyH_take (i:=3) (v:=?_) rfl (by kernel_rfl) (by kernel_rfl) (by kernel_rfl) (fun _ _ _ h=>h) (Or.inl ⟨by rfl,?_⟩) hHeld ?_
  rotate_left
  ·intro w hSw;(try dsimp only at hSw);go_simp;try (with_reducible rfl)
  (try simp only[Act.put,List.setIfInBounds_toArray,List.set_cons_zero,List.set_cons_succ])
  refine wpAnyH_take (i:=5) (v:=?_) rfl (by kernel_rfl) (by kernel_rfl) (by kernel_rfl) (fun _ _ _ h=>h) (Or.inl ⟨by rfl,?_⟩) hHeld ?_
  rotate_left
  ·intro w hSw;(try dsimp only at hSw);go_simp;try (with_reducible rfl)
  (try simp only[Act.put,List.setIfInBounds_toArray,List.set_cons_zero,List.set_cons_succ])
  refine wpAnyH_take (i:=6) (v:=?_) rfl (by kernel_rfl) (by kernel_rfl) (by kernel_rfl) (fun _ _ _ h=>h) (Or.inl ⟨by rfl,?_⟩) hHeld ?_
  rotate_left
  ·intro w hSw;(try dsimp only at hSw);go_simp;try (with_reducible rfl)
  (try simp only[Act.put,List.setIfInBounds_toArray,List.set_cons_zero,List.set_cons_succ])
  refine wpAnyH_take (i:=7) (v:=?_) rfl (by kernel_rfl) (by kernel_rfl) (by kernel_rfl) (fun _ _ _ h=>h) (Or.inl ⟨by rfl,?_⟩) hHeld ?_
  rotate_left
  ·intro w hSw;(try dsimp only at hSw);go_simp;try (with_reducible rfl)
  (try simp only[Act.put,List.setIfInBounds_toArray,List.set_cons_zero,List.set_cons_succ])
  refine wpAnyH_take (i:=8) (v:=?_) rfl (by kernel_rfl) (by kernel_rfl) (by kernel_rfl) (fun _ _ _ h=>h) (Or.inl ⟨by rfl,?_⟩) hHeld ?_
  rotate_left
  ·intro w hSw;(try dsimp only at hSw);go_simp;try (with_reducible rfl)
  (try simp only[Act.put,List.setIfInBounds_toArray,List.set_cons_zero,List.set_cons_succ])
  refine wpAnyH_take (i:=10) (v:=?_) rfl (by kernel_rfl) (by kernel_rfl) (by kernel_rfl) (fun _ _ _ h=>h) (Or.inl ⟨by rfl,?_⟩) hHeld ?_
  rotate_left
  ·intro w hSw;(try dsimp only at hSw);go_simp;try (with_reducible rfl)
  (try simp only[Act.put,List.setIfInBounds_toArray,List.set_cons_zero,List.set_cons_succ])
  refine wpAnyH_take (i:=11) (v:=?_) rfl (by kernel_rfl) (by kernel_rfl) (by kernel_rfl) (fun _ _ _ h=>h) (Or.inl ⟨by rfl,?_⟩) hHeld ?_
  rotate_left
  ·intro w hSw;(try dsimp only at hSw);go_simp;try (with_reducible rfl)
  (try simp only[Act.put,List.setIfInBounds_toArray,List.set_cons_zero,List.set_cons_succ])
  refine wpAnyH_ready (rs:=[4]) (by kernel_rfl) (by simp) ?_
  refine AllReadyH.cons rfl (fun K hK=>?_) AllReadyH.nil;go_simp;go_at_call 39;(with_reducible refine (HC1.out _ HBD.out).mono ?_);rintro e w10 ⟨v10,rfl,ho,hb⟩;obtain⟨G1,n1,rfl⟩:=Kd.R_slice ho;have hb8:Below X8.heap.size X8 w10:=Zaf HBD.out hb;have HU1:=Zaa.mk (HV8.out.ri ho HBD.out.size);have HFRE:=Zaa.mk (HFR8.out.below hb8);have HBV:=Zaa.mk hb8;clear ho hb hb8;refine hK.out _ _ (Zhe (Zag HB9'.out HBV.out) (Zag HB10.out HBV.out)) (fun hHeld=>?_);clear hK K
  (try simp only[Act.put,List.setIfInBounds_toArray,List.set_cons_zero,List.set_cons_succ])
  refine wpAnyH_ready (rs:=[9]) (by kernel_rfl) (by simp) ?_
  refine AllReadyH.cons rfl (fun K hK=>?_) AllReadyH.nil;go_simp;go_at_call 39;(with_reducible refine (HC2.out _ HBV.out).mono ?_);rintro e w11 ⟨v11,rfl,ho,hb⟩;obtain⟨G2,n2,rfl⟩:=Kd.R_slice ho;have hb8:Below X8.heap.size X8 w11:=Zaf HBV.out hb;have HU2:=Zaa.mk (HV8.out.ri ho HBV.out.size);have HU1:=Zaa.mk (Zap HU1.out hb);have HFRE:=Zaa.mk (HFR8.out.below hb8);have HBV:=Zaa.mk hb8;clear ho hb hb8;refine hK.out _ _ (Zhe (Zag HB9'.out HBV.out) (Zag HB10.out HBV.out)) (fun hHeld=>?_);clear hK K
  (try simp only[Act.put,List.setIfInBounds_toArray,List.set_cons_zero,List.set_cons_succ])
  refine wpAnyH_take (i:=12) (v:=?_) rfl (by kernel_rfl) (by kernel_rfl) (by kernel_rfl) (fun _ _ _ h=>h) (Or.inl ⟨by rfl,?_⟩) hHeld ?_
  rotate_left
  ·intro w hSw;(try dsimp only at hSw);go_simp;try (with_reducible rfl)
  (try simp only[Act.put,List.setIfInBounds_toArray,List.set_cons_zero,List.set_cons_succ])
  refine wpAnyH_take (i:=13) (v:=undef) rfl (by kernel_rfl) (by kernel_rfl) (by kernel_rfl) (fun _ _ _ h=>h) (Or.inr ⟨by kernel_rfl,rfl⟩) hHeld ?_
  (try simp only[Act.put,List.setIfInBounds_toArray,List.set_cons_zero,List.set_cons_succ])
  refine wpAnyH_take (i:=14) (v:=undef) rfl (by kernel_rfl) (by kernel_rfl) (by kernel_rfl) (fun _ _ _ h=>h) (Or.inr ⟨by kernel_rfl,rfl⟩) hHeld ?_
  (try simp only[Act.put,List.setIfInBounds_toArray,List.set_cons_zero,List.set_cons_succ])
  refine wpAnyH_take (i:=15) (v:=?_) rfl (by kernel_rfl) (by kernel_rfl) (by kernel_rfl) (fun _ _ _ h=>h) (Or.inl ⟨by rfl,?_⟩) hHeld ?_
  rotate_left
  ·intro w hSw;(try dsimp only at hSw);go_simp;try (with_reducible rfl)
  (try simp only[Act.put,List.setIfInBounds_toArray,List.set_cons_zero,List.set_cons_succ])
  refine wpAnyH_take (i:=16) (v:=?_) rfl (by kernel_rfl) (by kernel_rfl) (by kernel_rfl) (fun _ _ _ h=>h) (Or.inl ⟨by rfl,?_⟩) hHeld ?_
  rotate_left
  ·intro w hSw;(try dsimp only at hSw);go_simp;try (with_reducible rfl)
  (try simp only[Act.put,List.setIfInBounds_toArray,List.set_cons_zero,List.set_cons_succ])
  have r0:=HFRE.out.cl.r 0 _ rfl;have r1:=HFRE.out.cl.r 1 _ rfl;have r2:=HFRE.out.cl.r 2 _ rfl;have r3:=HFRE.out.cl.r 3 _ rfl;have r4:=HFRE.out.cl.r 4 _ rfl;have r5:=HFRE.out.cl.r 5 _ rfl;have rf:=HFRE.out.cl.f;refine wpAnyH_ready (rs:=[17]) (by kernel_rfl) (by simp) ?_
  refine AllReadyH.cons rfl (fun K hK=>?_) AllReadyH.nil;go_simp;refine hK.out _ _ (tw_put (Zag HB9'.out HBV.out) (Zag HB10.out HBV.out) HO9.out HO10.out _ _ _ _ _ _) (fun hHeld=>?_);clear hK K
  (try simp only[Act.put,List.setIfInBounds_toArray,List.set_cons_zero,List.set_cons_succ])
  refine wpAnyH_done (by kernel_rfl) ?_ _
  refine NoPanic.normal ?_
  go_wp2
  refine bodyPost_ret (results_cell_row rfl _ _ br 97 #[.int .i64 0,.slice G1 (Zay xf yf).length n1,.slice G2 (Zay xl yl).length n2,.bool true,.int .i64 0,.int .i64 0] (0,0) _ rfl (Zdk rfl HFRE.out.r _ _ _) Tryz.underlying97 rfl (by kernel_rfl)) rfl ?_
  exact Zeu (x:=⟨Zay xf yf,Zay xl yl,true⟩) (s':=s2) HV.out HG.out HFRE.out (HV8.out.below HBV.out) (Kept.below HK8.out HBV.out) HN8.out HU1.out HU2.out HEE.out HSS.out HII.out
theorem walkC:∀n,WalkC n
 | 0=>fun _ _ _ _ _ _ _ _ _ _ _ _ _ _ _ _ hok _ _=>hok.elim
 | n+1=>by
  have ih:=walkC n;have hwg:=Zgb n;intro w0 W gb h0 h1 vs vf φ v s b p vp h hg hb hok hlen hp;obtain⟨_,_,k3,k56,k7⟩:=hok;unfold Zau;unfold Zcx at hlen;by_cases c3:p.f0=3
  ·rw[if_pos (.inr (.inr c3))];rw[if_pos c3]at hlen;have e4:decide (p.f0=4)=false:=decide_eq_false (by omega);have e1:Zde b p s=s.add (Zax b p):=by unfold Zde;rw[if_neg (by omega)]
   have hal:(s.add (Zax b p)).pl.length=s.pl.length+1:=by simp[St.add]
   rw[e4];unfold Zeh;rw[if_pos c3,e1,hal];exact walk_pin n (Zhk n ih) hwg w0 W gb h0 h1 vs vf φ v s b p vp h hg hb hp c3 (k3 c3).1 (k3 c3).2 (by omega)
  ·rw[if_neg c3]at hlen;by_cases c2:p.f0=2
   ·rw[if_pos (.inl c2)];rw[if_pos (.inl c2)]at hlen;have e4:decide (p.f0=4)=false:=decide_eq_false (by omega);have e1:Zeh (Zau n) b p s=s.add (Zax b p):=by unfold Zeh Zde;rw[if_neg c3,if_neg (by omega)]
    rw[e4,e1];exact walk_tok n w0 W gb h0 h1 vs vf φ v s b p vp h hg hb (by omega) hp c2
   ·by_cases c4:p.f0=4
    ·rw[if_pos (.inr (.inl c4))];rw[if_pos (.inr c4)]at hlen;have e4:decide (p.f0=4)=true:=decide_eq_true c4;have e1:Zeh (Zau n) b p s=(s.add (Zax b p)).link [(s.pl.length:Int)] [(s.pl.length:Int)]:=by unfold Zeh Zde;rw[if_neg c3,if_pos c4]
     rw[e4,e1];exact walk_well n w0 W gb h0 h1 vs vf φ v s b p vp h hg hb (by omega) hp c4
    ·rw[if_neg (show ¬(p.f0=2∨p.f0=4∨p.f0=3) by omega)];rw[if_neg (show ¬(p.f0=2∨p.f0=4) by omega)]at hlen;by_cases c5:p.f0=5
     ·rw[if_pos c5];rw[if_pos (.inl c5)]at hlen;exact walk_seq n ih hwg w0 W gb h0 h1 vs vf φ v s b p vp h hg hb hp c5 (k56 (.inl c5)).1 (k56 (.inl c5)).2.1 (k56 (.inl c5)).2.2 hlen
     ·rw[if_neg c5];by_cases c6:p.f0=6
      ·rw[if_pos c6];rw[if_pos (.inr c6)]at hlen;exact walk_alt n ih hwg w0 W gb h0 h1 vs vf φ v s b p vp h hg hb hp c6 (k56 (.inr c6)).1 (k56 (.inr c6)).2.1 (k56 (.inr c6)).2.2 hlen
      ·rw[if_neg c6];rw[if_neg (show ¬(p.f0=5∨p.f0=6) by omega)]at hlen;by_cases c7:p.f0=7
       ·rw[if_pos c7];rw[if_pos c7]at hlen;exact walk_star n ih hwg w0 W gb h0 h1 vs vf φ v s b p vp h hg hb hp c7 (k7 c7).1 (k7 c7).2 hlen
       ·rw[if_neg c7];exact walk_none w0 W gb h0 h1 vs vf φ v s b p vp h hg hp c2 c3 c4 c5 c6 c7
theorem patternC (n:Nat):PatC n:=Zhk n (walkC n)
structure Bt where
 st:St
 steps:List (List Nat)
 frees:List Int
def Zhp (i:Int):Pl:=⟨1,none,z76,none,[],i⟩
def Zeo:Pl:=⟨0,none,z76,none,[],0⟩
def Zaz (D:Nat)(i:Int)(r:S52)(s:St):Nat→St × List Nat
 | 0=>(s,[])
 | k+1=>(Zgn (Zau D) (Zei r k).f1 i k (Zaz D i r s k).1,(Zaz D i r s k).2++[(Zaz D i r s k).1.pl.length])
def Zcq (i:Int)(r:S52)(s:St):St:=if r.f1=true then s.add (Zhp i)else s
def Zhq (r:S52)(s:St):Int:=if r.f1=true then s.pl.length else -1
def Zqn (D:Nat)(i:Int)(r:S52)(b:Bt):Bt:=
 ⟨(Zaz D i r (Zcq i r b.st) r.f2.length).1,b.steps++[(Zaz D i r (Zcq i r b.st) r.f2.length).2],b.frees++[Zhq r b.st]⟩
def Zaw (D:Nat)(G:S26):Nat→Bt
 | 0=>⟨⟨[Zeo],[]⟩,[],[]⟩
 | i+1=>Zqn D i (Zbm G i) (Zaw D G i)
def stepsN (D:Nat)(r:S52):Nat→Nat
 | 0=>0
 | k+1=>stepsN D r k+(1+Zcx D (Zei r k).f1)
def buildN (D:Nat)(G:S26):Nat→Nat
 | 0=>1
 | i+1=>buildN D G i+((if (Zbm G i).f1=true then 1 else 0)+stepsN D (Zbm G i) (Zbm G i).f2.length)
theorem Zip (D:Nat)(i:Int)(r:S52)(s:St)(h:Good s)(k:Nat):Good (Zaz D i r s k).1∧(Zaz D i r s k).1.pl.length=s.pl.length+stepsN D r k∧∀q∈(Zaz D i r s k).2,q<(Zaz D i r s k).1.pl.length:=by
 induction k with
 | zero=>exact⟨h,rfl,fun q hq=>by cases hq⟩
 | succ k ih=>
  obtain⟨h1,h2,h3⟩:=ih;obtain⟨p1,p2⟩:=Zhl (Zgb D) (Zei r k).f1 i k _ h1;refine⟨p1,?_,fun q hq=>?_⟩
  ·show (Zgn (Zau D) (Zei r k).f1 i k (Zaz D i r s k).1).pl.length=s.pl.length+(stepsN D r k+(1+Zcx D (Zei r k).f1))
   omega
  ·show q<(Zgn (Zau D) (Zei r k).f1 i k (Zaz D i r s k).1).pl.length
   rcases List.mem_append.1 hq with hq | hq
   ·have:=h3 q hq;omega
   ·rw[List.mem_singleton]at hq;omega
theorem Zkc (i:Int)(r:S52)(s:St)(h:Good s):Good (Zcq i r s)∧(Zcq i r s).pl.length=s.pl.length+(if r.f1=true then 1 else 0):=by
 unfold Zcq
 split
 ·exact⟨h.add _ rfl (fun k hk=>by cases hk) (fun k hk=>by cases hk),by simp[St.add]⟩
 ·exact⟨h,rfl⟩
theorem wide_good:Good ⟨[Zeo],[]⟩:=by
 refine⟨?_,?_,?_,?_⟩
 ·intro q;show Ris 1 (([Zeo]:List Pl).getD q zPl).follow;cases q <;> exact Ris.nil _
 ·intro q k hq;cases q <;> cases hq
 ·intro q k hq;cases q <;> cases hq
 ·intro k x hk;cases hk
structure GoodB (b:Bt):Prop where
 st:Good b.st
 steps:∀l∈b.steps,∀q∈l,q<b.st.pl.length
theorem Zcy (D:Nat)(G:S26)(i:Nat):GoodB (Zaw D G i)∧(Zaw D G i).st.pl.length=buildN D G i:=by
 induction i with
 | zero=>exact⟨⟨wide_good,fun l hl=>by cases hl⟩,rfl⟩
 | succ i ih=>
  obtain⟨h1,h2⟩:=ih;obtain⟨f1,f2⟩:=Zkc i (Zbm G i) _ h1.st;obtain⟨s1,s2,s3⟩:=Zip D i (Zbm G i) _ f1 (Zbm G i).f2.length;refine⟨⟨s1,fun l hl q hq=>?_⟩,?_⟩
  ·show q<(Zaz D i (Zbm G i) (Zcq i (Zbm G i) (Zaw D G i).st) (Zbm G i).f2.length).1.pl.length
   rcases List.mem_append.1 hl with hl | hl
   ·have:=h1.steps l hl q hq;omega
   ·rw[List.mem_singleton]at hl;subst hl;exact s3 q hq
  ·show (Zaz D i (Zbm G i) (Zcq i (Zbm G i) (Zaw D G i).st) (Zbm G i).f2.length).1.pl.length=buildN D G i+_;omega
theorem R_congr {α:Type}{d d':Kd α}{e:Nat}{w:World}{base:Nat}{ok:Nat→Prop}{v:Value}{xs:List α}(hs:d.sz=d'.sz)(hr:d.R e w base ok v xs)(h:∀x∈xs,∀ok' cs,d.M w base ok' x cs→d'.M w base ok' x cs):d'.R e w base ok v xs:=by
 unfold Kd.R at hr ⊢;rw[←hs];obtain⟨h0,inner,ho,hl,hp⟩:=hr;exact⟨h0,inner,ho,hl,fun j p hj=>h p (List.mem_of_getElem? hj) _ _ (hp j p hj)⟩
theorem ptrs_phi {φ φ':Nat→Nat}{e:Nat}{w:World}{base:Nat}{ok:Nat→Prop}{v:Value}{xs:List Nat}(h:(Zic φ).R e w base ok v xs)(he:∀q∈xs,φ' q=φ q):(Zic φ').R e w base ok v xs:=
 R_congr (d:=Zic φ) (d':=Zic φ') rfl h (fun x hx ok' cs hM=>by
  have h1:cs=[Value.pointer (some ⟨φ x,0,none⟩)]:=hM;show cs=[Value.pointer (some ⟨φ' x,0,none⟩)]
  rw[he x hx];exact h1)
theorem Zqg {φ φ':Nat→Nat}{w:World}{base:Nat}{ok:Nat→Prop}{v:Value}{xs:List (List Nat)}(h:(Kd.slice 88 (Zic φ)).R 91 w base ok v xs)(he:∀l∈xs,∀q∈l,φ' q=φ q):(Kd.slice 88 (Zic φ')).R 91 w base ok v xs:=
 R_congr (d:=Kd.slice 88 (Zic φ)) (d':=Kd.slice 88 (Zic φ')) rfl h (fun l hl ok' cs ⟨u,hu,hR⟩=>⟨u,hu,ptrs_phi hR (he l hl)⟩)
theorem R_keptW {α:Type}{d:Kd α}{e:Nat}{W W':World}{base:Nat}{ok:Nat→Prop}{u:Value}{xs:List α}(hr:d.R e W base ok u xs){w0:W0}{gb:Nat}{h0 h1 vs vf:Value}{φ:Nat→Nat}{v:Value}{pl:List Pl}{sh:List (Nat × Sh)}
 (h:VS w0 W gb h0 h1 vs vf φ v pl sh) (hk:KeptV W W' gb v) (ht:∀q,q∈e :: d.E→q≠86∧q≠90):d.R e W' base ok u xs:=by
 have r1:=Kd.R_types hr h.blk (fun q hq=>(ht q hq).1);obtain⟨inner,ho,_⟩:=h.row;cases hv:v.ownBlock with
 | none=>
  exact Kd.R_mono (Kd.R_kept r1 hk (fun k hk' hS=>by
   rcases hS with hS | hS
   ·exact hk'.2 hS
   ·rw[hv]at hS;cases hS)) (fun _ hk'=>hk'.1)
 | some b=>
  obtain⟨cells,hc⟩:=Zbs ho b hv;have r2:=Kd.R_types r1 hc (fun q hq=>(ht q hq).2);exact Kd.R_mono (Kd.R_kept r2 hk (fun k hk' hS=>by
   rcases hS with hS | hS
   ·exact hk'.1.2 hS
   ·rw[hv]at hS;injection hS with hS;exact hk'.2 hS.symm)) (fun _ hk'=>hk'.1.1)
theorem Zne {α:Type}{d:Kd α}{e:Nat}{W W':World}{base:Nat}{u:Value}{xs:List α}(hr:d.R e W base (fun _=>True) u xs){w0:W0}{gb:Nat}{h0 h1 vs vf:Value}{φ:Nat→Nat}{v:Value}{pl:List Pl}{sh:List (Nat × Sh)}
 (h:VS w0 W gb h0 h1 vs vf φ v pl sh) (hk:KeptV W W' gb v) (ht:∀q,q∈e :: d.E→q≠86∧q≠90):d.R e W' base (fun _=>True) u xs:=R_keptW hr h hk ht
theorem VS.grown88 {w0:W0}{W W':World}{gb:Nat}{h0 h1 vs vf:Value}{φ:Nat→Nat}{v:Value}{pl:List Pl}{sh:List (Nat × Sh)}(h:VS w0 W gb h0 h1 vs vf φ v pl sh){u:Value}(hg:W.grownBy W' u.ownBlock)(hu:∀k,u.ownBlock=some k→∃cells,W.heap[k]?=some (.cells cells 88 (0,0)))(hb:Below w0.heap.size w0 W'):VS w0 W' gb h0 h1 vs vf φ v pl sh:=by
 have blk:∀(g:Nat) (cs:Array Value) (e:Nat),W.heap[g]?=some (.cells cs e (0,0))→e≠88→W'.heap[g]?=some (.cells cs e (0,0)):=fun g cs e hgc he=>by
  refine (hg.block g (Zbj hgc) (fun hS=>?_)).trans hgc;obtain⟨cells,hc⟩:=hu g hS.symm;rw[hgc]at hc;injection hc with hc;injection hc with _ hc;exact he hc
 have h3:Same3 W W':=fun k cells hc=>(blk k cells 3 hc (by decide)).trans hc.symm
 obtain⟨inner,ho,hr⟩:=h.row;refine⟨h.ge,blk gb _ 86 h.blk (by decide),⟨inner,Zek ho (fun k hk'=>?_),hr.imp_ (fun x c hp=>hp.same h3)⟩,fun k x hx=>?_,hb,fun k hk'=>h.new k (Nat.le_trans hg.size hk')⟩
 ·obtain⟨c1,hc1⟩:=Zbs ho k hk';exact (blk k c1 90 hc1 (by decide)).trans hc1.symm
 ·obtain⟨v1,v2,hc,r1,r2⟩:=(h.shapes k x hx).cells;exact⟨(h.shapes k x hx).ge,v1,v2,blk _ _ 97 hc (by decide),r1.same h3,r2.same h3⟩
abbrev W0.off (w:World)(vf:Value):W0:=⟨w,fun k=>vf.ownBlock≠some k⟩
structure BS (w W:World)(gb:Nat)(h0 h1:Value)(φ:Nat→Nat)(b:Bt)(vs vf v:Value):Prop where
 mach:VS (W0.off w vf) W gb h0 h1 vs vf φ v b.st.pl b.st.sh
 steps:(Kd.slice 88 (Zic φ)).R 91 W w.heap.size (fun _=>True) vs b.steps
 frees:(Kd.int .i64).R 3 W w.heap.size (fun _=>True) vf b.frees
 good:GoodB b
 inj:Zhv φ b.st.sh
theorem Zov (φ:Nat→Nat):∀q,q∈91 :: (Kd.slice 88 (Zic φ)).E→q≠86∧q≠90:=by
 intro q hq;have hq:q∈[91,88]:=hq;simp at hq;omega
theorem types3:∀q,q∈3 :: (Kd.int .i64).E→q≠86∧q≠90:=by
 intro q hq;have hq:q∈[3]:=hq;simp at hq;omega
section
variable {w W W':World}{gb:Nat}{h0 h1:Value}{φ:Nat→Nat}{b:Bt}{vs vf v:Value}
theorem BS.below (h:BS w W gb h0 h1 φ b vs vf v)(hb:Below W.heap.size W W'):BS w W' gb h0 h1 φ b vs vf v:=
 ⟨h.mach.below hb,Kd.R_below h.steps hb,Kd.R_below h.frees hb,h.good,h.inj⟩
theorem BS.add (h:BS w W gb h0 h1 φ b vs vf v){x:Pl}{v':Value}(hv:VS (W0.off w vf) W' gb h0 h1 vs vf φ v' (b.st.pl++[x]) b.st.sh)(hk:KeptV W W' gb v)(hg:Good (b.st.add x)):BS w W' gb h0 h1 φ ⟨b.st.add x,b.steps,b.frees⟩ vs vf v':=
 ⟨hv,Zne h.steps h.mach hk (Zov φ),Zne h.frees h.mach hk types3,⟨hg,fun l hl q hq=>by have:=h.good.steps l hl q hq;simp[St.add];omega⟩,h.inj⟩
theorem BS.pat (h:BS w W gb h0 h1 φ b vs vf v){D:Nat}{p:S76}{rule step:Int}{e:Ending}(he:PatE (W0.off w vf) W gb h0 h1 vs vf φ v b.st (Zgn (Zau D) p rule step b.st) e W') :
 ∃φ' v',e=.returned (.pointer (some ⟨φ' b.st.pl.length,0,none⟩))∧BS w W' gb h0 h1 φ' ⟨Zgn (Zau D) p rule step b.st,b.steps,b.frees⟩ vs vf v'∧(∀k,k<b.st.pl.length→φ' k=φ k)∧KeptV W W' gb v∧NewOr W v v':=by
 obtain⟨φ',v',he,hv,hk,hn,hE,_,hi⟩:=he.out;have hg:=Zhl (Zgb D) p rule step b.st h.good.st;refine⟨φ',v',he,⟨hv,Zqg (Zne h.steps h.mach hk (Zov φ)) (fun l hl q hq=>hE q (h.good.steps l hl q hq)),Zne h.frees h.mach hk types3,⟨hg.1,fun l hl q hq=>?_⟩,hi h.inj⟩,hE,hk,hn⟩;have:=h.good.steps l hl q hq;show q<(Zgn (Zau D) p rule step b.st).pl.length;omega
theorem BS.row (h:BS w W gb h0 h1 φ b vs vf v){φ':Nat→Nat}{base:Nat}{u:Value}{l:List Nat}(hr:(Zic φ).R 88 W base (fun _=>True) u l)(hk:KeptV W W' gb v)(hl:∀q∈l,φ' q=φ q):(Zic φ').R 88 W' base (fun _=>True) u l:=
 ptrs_phi (Zne hr h.mach hk (fun q hq=>by
  have hq:q∈[88]:=hq;simp at hq;omega)) hl
structure BU (w W:World)(gb:Nat)(h0 h1:Value)(φ:Nat→Nat)(b:Bt)(vs vf v u:Value)(l:List Nat):Prop where
 bs:BS w W gb h0 h1 φ b vs vf v
 row:(Zic φ).R 88 W w.heap.size (fun _=>True) u l
 off:(Kd.slice 88 (Zic φ)).R 91 W w.heap.size (fun k=>u.ownBlock≠some k) vs b.steps
theorem BU.below {u:Value}{l:List Nat}(h:BU w W gb h0 h1 φ b vs vf v u l)(hb:Below W.heap.size W W'):BU w W' gb h0 h1 φ b vs vf v u l:=⟨h.bs.below hb,Kd.R_below h.row hb,Kd.R_below h.off hb⟩
theorem BU.start (h:BS w W gb h0 h1 φ b vs vf v):BU w W gb h0 h1 φ b vs vf v (.slice none 0 0) []:=⟨h,Kd.R_nil _ _ _ _ _,Kd.R_mono h.steps (fun k _=>by simp[Value.ownBlock])⟩
theorem BU.pat {u:Value}{l:List Nat}(h:BU w W gb h0 h1 φ b vs vf v u l)(hl:∀q∈l,q<b.st.pl.length){D:Nat}{p:S76}{rule step:Int}{e:Ending}(he:PatE (W0.off w vf) W gb h0 h1 vs vf φ v b.st (Zgn (Zau D) p rule step b.st) e W') :
 ∃φ' v',e=.returned (.pointer (some ⟨φ' b.st.pl.length,0,none⟩))∧BU w W' gb h0 h1 φ' ⟨Zgn (Zau D) p rule step b.st,b.steps,b.frees⟩ vs vf v' u l:=by
 obtain⟨φ',v',e1,hb,hE,hk,_⟩:=h.bs.pat he;exact⟨φ',v',e1,hb,h.bs.row h.row hk (fun q hq=>hE q (hl q hq)),Zqg (R_keptW h.off h.bs.mach hk (Zov φ)) (fun l' hl' q hq=>hE q (h.bs.good.steps l' hl' q hq))⟩
theorem BU.push {u u':Value}{l l':List Nat}(h:BU w W gb h0 h1 φ b vs vf v u l)(hr:(Zic φ).R 88 W' w.heap.size (fun _=>True) u' l')(hb:Below w.heap.size w W')(hg:W.grownBy W' u.ownBlock)(hat:u'.ownBlock=u.ownBlock∨∃k,u'.ownBlock=some k∧W.heap.size≤k):BU w W' gb h0 h1 φ b vs vf v u' l':=by
 obtain⟨inner,ho⟩:=Kd.R_own h.row;have hs:(Kd.slice 88 (Zic φ)).R 91 W' w.heap.size (fun k=>u'.ownBlock≠some k) vs b.steps:=by
  have r2:=Kd.R_mono (Kd.R_bound h.off) (ok':=fun k=>u.ownBlock≠some k∧k<W.heap.size) (fun k hk=>⟨hk.1,hk.2.2.1⟩);exact Kd.R_mono (Kd.R_grown r2 hg (fun k hk he=>hk.1 he.symm)) (fun k hk=>by
   rcases hat with hat | ⟨k',h1,h2⟩
   ·rw[hat];exact hk.1
   ·rw[h1];intro he;injection he with he;have:=hk.2;omega)
 have hf:(Kd.int .i64).R 3 W' w.heap.size (fun _=>True) vf b.frees:=by
  cases hu:u.ownBlock with
  | none=>exact Kd.R_grown h.bs.frees hg (fun k _=>by rw[hu];simp)
  | some g=>
   obtain⟨cells,hc⟩:=Zbs ho g hu;exact Kd.R_mono (Kd.R_grown (Kd.R_types h.bs.frees hc (fun q hq=>by have hq:q∈[3]:=hq;simp at hq;omega)) hg (fun k hk he=>by rw[hu]at he;injection he with he;exact hk.2 he)) (fun _ _=>trivial)
 exact⟨⟨h.bs.mach.grown88 hg (fun k hk=>Zbs ho k hk) hb,Kd.R_mono hs (fun _ _=>trivial),hf,h.bs.good,h.bs.inj⟩,hr,hs⟩
theorem VS.rows (h:VS (W0.off w vf) W gb h0 h1 vs vf φ v b.st.pl b.st.sh){vf':Value}(hk:Kept W W' (fun k=>vs.ownBlock=some k∨vf.ownBlock=some k))(hb:Below w.heap.size w W')
 (hs:∀k,vs.ownBlock=some k→∃cells,W.heap[k]?=some (.cells cells 91 (0,0))) (hf:∀k,vf.ownBlock=some k→∃cells,W.heap[k]?=some (.cells cells 3 (0,0)))
 (hn:vf'.ownBlock=vf.ownBlock∨∃k,vf'.ownBlock=some k∧W.heap.size≤k) (hlt:∀k,vf'.ownBlock=some k→k<W'.heap.size):VS (W0.off w vf') W' gb h0 h1 vs vf φ v b.st.pl b.st.sh:=by
 have blk:∀(g:Nat) (cs:Array Value) (e:Nat),W.heap[g]?=some (.cells cs e (0,0))→e≠91→e≠3→W'.heap[g]?=some (.cells cs e (0,0)):=fun g cs e hg h91 h3=>by
  refine (hk.2 g (Zbj hg) (fun hS=>?_)).trans hg
  rcases hS with hS | hS
  ·obtain⟨cells,hc⟩:=hs g hS;rw[hg]at hc;injection hc with hc;injection hc with _ hc;exact h91 hc
  ·obtain⟨cells,hc⟩:=hf g hS;rw[hg]at hc;injection hc with hc;injection hc with _ hc;exact h3 hc
 have ri:∀(u:Value) (l:List Int),Ri (W0.off w vf) W u l→Ri (W0.off w vf') W' u l:=fun u l hr=>by
  have ho:=Kd.own_of_R hr;refine Kd.R_of_own (Zek ho (fun k hk'=>hk.2 k (Zgg ho k hk') (fun hS=>?_))) (fun k hk'=>?_)
  ·rcases hS with hS | hS
   ·obtain⟨c1,hc1⟩:=Zbs ho k hk';obtain⟨c2,hc2⟩:=hs k hS;rw[hc1]at hc2;injection hc2 with hc;injection hc with _ hc;exact absurd hc (by decide)
   ·exact hr.1 k hk' hS
  ·rcases hn with hn | ⟨k',hk2,hle⟩
   ·show vf'.ownBlock≠some k;rw[hn];exact hr.1 k hk'
   ·show vf'.ownBlock≠some k;rw[hk2];intro he;injection he with he
    have:=Zgg ho k hk';omega
 obtain⟨inner,ho,hr⟩:=h.row;refine⟨h.ge,blk gb _ 86 h.blk (by decide) (by decide),⟨inner,Zek ho (fun k hk'=>?_),hr.imp_ (fun x c hp=>?_)⟩,fun k x hx=>?_,hb,fun k hk' he=>?_⟩
 ·obtain⟨c1,hc1⟩:=Zbs ho k hk';exact (blk k c1 90 hc1 (by decide) (by decide)).trans hc1.symm
 ·obtain⟨A1,c1,A2,c2,A3,c3,v4,e,l1,g1,l2,g2,l3,g3,g4⟩:=hp;exact⟨A1,c1,A2,c2,A3,c3,v4,e,l1,g1,l2,g2,l3,g3,ri _ _ g4⟩
 ·obtain⟨v1,v2,hc,r1,r2⟩:=(h.shapes k x hx).cells;exact⟨(h.shapes k x hx).ge,v1,v2,blk _ _ 97 hc (by decide) (by decide),ri _ _ r1,ri _ _ r2⟩
 ·have:=hlt k he;omega
theorem VS.store34 {w0:W0}{vs' vf':Value}{pl:List Pl}{sh:List (Nat × Sh)}(h:VS w0 W gb h0 h1 vs vf φ v pl sh):VS w0 ((W.setCell ⟨gb,3,none⟩ vs').setCell ⟨gb,4,none⟩ vf') gb h0 h1 vs' vf' φ v pl sh∧Kept W ((W.setCell ⟨gb,3,none⟩ vs').setCell ⟨gb,4,none⟩ vf') (fun k=>k=gb):=by
 have hk:Kept W ((W.setCell ⟨gb,3,none⟩ vs').setCell ⟨gb,4,none⟩ vf') (fun k=>k=gb):=⟨by simp[World.setCell],fun i _ hn=>by
  iterate 2 rw[Below.heap_setCell _ _ _ i (fun he=>hn he)]⟩
 have hkv:KeptV W ((W.setCell ⟨gb,3,none⟩ vs').setCell ⟨gb,4,none⟩ vf') gb v:=hk.mono (fun k hk'=>.inl hk');have h3:=h.same3 hkv;obtain⟨inner,ho,hr⟩:=h.row;refine⟨⟨h.ge,?_,⟨inner,Zek ho (fun k hk'=>hk.2 k (Zgg ho k hk') (fun he=>?_)),hr.imp_ (fun _ _ hp=>hp.same h3)⟩,fun k x hx=>(h.shapes k x hx).keep h3 (fun cs hc=>(h.keep hkv hc (by decide) (by decide)).trans hc.symm),(h.bel.setCell h.ge _).setCell h.ge _,fun k hk'=>h.new k (Nat.le_trans hk.1 hk')⟩,hk⟩
 ·exact Zcd (Zcd h.blk 3 vs' rfl) 4 vf' rfl
 ·subst he;exact Zcn ho h.blk (by decide) hk'.symm
end
theorem info91:(Tryz.prog.info? 91).map (fun i=>(i.zero,i.size,i.bytes))=some (some (.slice none 0 0),1,24):=by kernel_rfl
theorem Zrl {α:Type}{Rr:α→List Value→Prop}{W:World}{g:Nat}{u:Value}{e:Nat}(h:W.heap[g]?=some (.cells #[u] e (0,0))){x:α}(hx:Rr x [u]):ReadsRow Rr 1 W (some ⟨g,0,none⟩) 1 [x]:=by
 refine⟨rfl,by omega,fun _=>⟨_,rfl,fun j p hj=>?_⟩⟩;cases j with
 | zero=>
  simp at hj;subst hj;refine⟨[u],rfl,hx,fun i v hv=>?_⟩;cases i with
  | zero=>
   simp at hv;subst hv;have e1:(⟨g,0,none⟩:Addr).add (0*1+0)=⟨g,0,none⟩:=rfl;rw[e1];exact (Zac h 0).trans rfl
  | succ i=>simp at hv
 | succ j=>simp at hj
section
variable {ops:Array Oper}{o:Oper}{a:Act}{Q:Exit→Act→World→Prop}
theorem stepsA {w W:World}{K:Act→World→Prop}{φ:Nat→Nat}(hw:Region.wanted o (yielded ops a.tmps)=true)(s x:Operand)(ho:o.op=.call { callee:=.builtin .append,args:=#[s,x],argTypes:=#[84,84] })(vs u:Value)(xs:List (List Nat))(l:List Nat)(g:Nat)
 (hs:a.eval s=vs) (hx:a.eval x=.slice (some ⟨g,0,none⟩) 1 1) (hg:W.heap[g]?=some (.cells #[u] 91 (0,0))) (HO:(Kd.slice 88 (Zic φ)).R 91 W w.heap.size (fun _=>True) vs xs) (HU:(Zic φ).R 88 W w.heap.size (fun _=>True) u l) (HB:Below w.heap.size w W) (hl:xs.length≤100000)
 (h:∀v1 w1,(Kd.slice 88 (Zic φ)).R 91 w1 w.heap.size (fun _=>True) v1 (xs++[l])→Below w.heap.size w w1→W.grownBy w1 vs.ownBlock→(v1.ownBlock=vs.ownBlock∨∃b,v1.ownBlock=some b∧W.heap.size≤b)→K (a.put o.dst v1) w1) :
 if Region.wanted o (yielded ops a.tmps)=true then Oper.wp Tryz.prog o a W K Q else K (a.put o.dst undef) W:=by
 obtain⟨inner,hown⟩:=Kd.R_own HO;have HU2:(Zic φ).R 88 W w.heap.size (fun k=>some k≠vs.ownBlock) u l:=by
  cases hv:vs.ownBlock with
  | none=>exact Kd.R_mono HU (fun k _=>by simp)
  | some b=>
   obtain⟨cells,hc⟩:=Zbs hown b hv;exact Kd.R_mono (Kd.R_types HU hc (fun q hq=>by have hq:q∈[88]:=hq;simp at hq;omega)) (fun k hk he=>by injection he with he;exact hk.2 he)
 exact Kd.R_append_rows_step (Kd.slice 88 (Zic φ)) (Rr:=fun y cs=>y=l∧cs=[u]) (w0:=w) w.heap.size hw s x 84 91 (.slice none 0 0) 24 ho Tryz.underlying84 info91 rfl Nat.one_pos (by omega) vs xs [l] _ 1 1 (fun _=>True) (fun k=>some k≠vs.ownBlock) hs hx HO (Zrl hg ⟨rfl,rfl⟩) (fun y cs hy=>by obtain⟨rfl,rfl⟩:=hy;exact⟨u,rfl,HU2⟩) (fun _ hk=>⟨trivial,hk⟩) (fun _ _=>trivial) HB HB.size (by omega) h
theorem freesA {w W:World}{K:Act→World→Prop}(hw:Region.wanted o (yielded ops a.tmps)=true)(s x:Operand)(ho:o.op=.call { callee:=.builtin .append,args:=#[s,x],argTypes:=#[35,35] })(vf:Value)(xs:List Int)(f:Int)(g:Nat)
 (hs:a.eval s=vf) (hx:a.eval x=.slice (some ⟨g,0,none⟩) 1 1) (hg:W.heap[g]?=some (.cells #[.int .i64 f] 3 (0,0))) (HO:(Kd.int .i64).R 3 W w.heap.size (fun _=>True) vf xs) (HB:Below w.heap.size w W) (hl:xs.length≤100000)
 (h:∀v1 w1,(Kd.int .i64).R 3 w1 w.heap.size (fun _=>True) v1 (xs++[f])→Below w.heap.size w w1→W.grownBy w1 vf.ownBlock→(v1.ownBlock=vf.ownBlock∨∃b,v1.ownBlock=some b∧W.heap.size≤b)→K (a.put o.dst v1) w1) :
 if Region.wanted o (yielded ops a.tmps)=true then Oper.wp Tryz.prog o a W K Q else K (a.put o.dst undef) W:=
 Kd.R_append_rows_step (Kd.int .i64) (Rr:=fun y cs=>y=f∧cs=[.int .i64 f]) (w0:=w) w.heap.size hw s x 35 3 (.int .i64 0) 8 ho Tryz.underlying35 Zho rfl Nat.one_pos (by omega) vf xs [f] _ 1 1 (fun _=>True) (fun k=>some k≠vf.ownBlock) hs hx HO (Zrl hg ⟨rfl,rfl⟩) (fun y cs hy=>by obtain⟨rfl,rfl⟩:=hy;rfl) (fun _ hk=>⟨trivial,hk⟩) (fun _ _=>trivial) HB HB.size (by omega) h
end
theorem Zjs (w:World)(o o':Obj):((w.alloc o).alloc o').heap[w.heap.size+1]?=some o':=by
 have z:=Zaq (w.alloc o) o';simpa using z
section
variable {w wr W W7:World}{gb:Nat}{h0 h1:Value}{φ:Nat→Nat}{b:Bt}{vs vf v u:Value}{l:List Nat}
structure A18 (w wr W W7:World)(gb:Nat)(h0 h1 vs vf v:Value)(fr:List Int):Prop where
 blk:W7.heap[gb]?=some (.cells #[h0,h1,v,vs,vf] 86 (0,0))
 frees:(Kd.int .i64).R 3 W7 w.heap.size (fun _=>True) vf fr
 new:∀g o,wr.heap.size≤g→W.heap[g]?=some o→W7.heap[g]?=some o
 kept:Kept wr W7 (fun k=>vs.ownBlock=some k)
theorem BU.a18 (h:BU w wr gb h0 h1 φ b vs vf v u l)(hW:Below wr.heap.size wr W)(hg:W.grownBy W7 vs.ownBlock):A18 w wr W W7 gb h0 h1 vs vf v b.frees:=by
 obtain⟨inner,ho⟩:=Kd.R_own h.bs.steps;have hgb:=Zag h.bs.mach.blk hW;have ho2:=Zcu ho hW;refine⟨Zby hgb hg (Zcn ho2 hgb (by decide)),?_,fun g o hge hgo=>Zby hgo hg (fun e=>by have:=Zgg ho g e.symm;omega),Kept.of_grown hg (Kept.of_below hW _) (fun k hk=>.inl hk)⟩;have hf:=Kd.R_below h.bs.frees hW;cases hv:vs.ownBlock with
 | none=>exact Kd.R_grown hf hg (fun k _=>by rw[hv];simp)
 | some g=>
  obtain⟨cells,hc⟩:=Zbs ho2 g hv;exact Kd.R_mono (Kd.R_grown (Kd.R_types hf hc (fun q hq=>by have hq:q∈[3]:=hq;simp at hq;omega)) hg (fun k hk he=>by rw[hv]at he;injection he with he;exact hk.2 he)) (fun _ _=>trivial)
structure B18 (w wr W9:World)(gb:Nat)(h0 h1 vs vf v v7:Value)(φ:Nat→Nat)(st:List (List Nat)):Prop where
 blk:W9.heap[gb]?=some (.cells #[h0,h1,v,vs,vf] 86 (0,0))
 steps:(Kd.slice 88 (Zic φ)).R 91 W9 w.heap.size (fun _=>True) v7 st
 kept:Kept wr W9 (fun k=>vs.ownBlock=some k∨vf.ownBlock=some k)
theorem A18.b18 {W2 W9:World}{v7:Value}{fr:List Int}{st:List (List Nat)}(h:A18 w wr W W7 gb h0 h1 vs vf v fr)(hs:(Kd.slice 88 (Zic φ)).R 91 W7 w.heap.size (fun _=>True) v7 st)(hW:Below W7.heap.size W7 W2)(hg:W2.grownBy W9 vf.ownBlock)(hf0:∀k,vf.ownBlock=some k→k<wr.heap.size):B18 w wr W9 gb h0 h1 vs vf v v7 φ st:=by
 obtain⟨inner,ho⟩:=Kd.R_own h.frees;have hgb:=Zag h.blk hW;have ho2:=Zcu ho hW;refine⟨Zby hgb hg (Zcn ho2 hgb (by decide)),?_,Kept.of_grown hg ((h.kept.below hW).mono (fun k hk=>.inl hk)) (fun k hk=>.inl (.inr hk))⟩;have hs2:=Kd.R_below hs hW;cases hv:vf.ownBlock with
 | none=>exact Kd.R_grown hs2 hg (fun k _=>by rw[hv];simp)
 | some g=>
  obtain⟨cells,hc⟩:=Zbs ho2 g hv;exact Kd.R_mono (Kd.R_grown (Kd.R_types hs2 hc (fun q hq=>by have hq:q∈[91,88]:=hq;simp at hq;omega)) hg (fun k hk he=>by rw[hv]at he;injection he with he;exact hk.2 he)) (fun _ _=>trivial)
theorem BU.rule18 {W9:World}{v7 v9:Value}{D:Nat}{i:Int}{r:S52}{b0:Bt}{s1:St}(hs1:s1=Zcq i r b0.st)(h:BU w wr gb h0 h1 φ ⟨(Zaz D i r s1 r.f2.length).1,b0.steps,b0.frees⟩ vs vf v u l)(hg0:GoodB (Zqn D i r b0))
 (hb:B18 w wr W9 gb h0 h1 vs vf v v7 φ (b0.steps++[(Zaz D i r s1 r.f2.length).2])) (hf:(Kd.int .i64).R 3 W9 w.heap.size (fun _=>True) v9 (b0.frees++[Zhq r b0.st])) (hbel:Below w.heap.size w W9)
 (hn:v9.ownBlock=vf.ownBlock∨∃k,v9.ownBlock=some k∧wr.heap.size≤k) :
 BS w ((W9.setCell ⟨gb,3,none⟩ v7).setCell ⟨gb,4,none⟩ v9) gb h0 h1 φ (Zqn D i r b0) v7 v9 v:=by
 subst hs1;obtain⟨_,ho1⟩:=Kd.R_own h.bs.steps;obtain⟨_,ho2⟩:=Kd.R_own h.bs.frees;obtain⟨_,ho3⟩:=Kd.R_own hf;have hv:=h.bs.mach.rows (b:=⟨(Zaz D i r (Zcq i r b0.st) r.f2.length).1,b0.steps,b0.frees⟩) (vf':=v9) hb.kept hbel (fun k hk=>Zbs ho1 k hk) (fun k hk=>Zbs ho2 k hk) hn (fun k hk=>Zgg ho3 k hk);have hv2:=hv.store34 (vs':=v7) (vf':=v9);refine⟨hv2.1,?_,?_,hg0,h.bs.inj⟩
 ·exact Kd.R_mono (Kd.R_kept (Kd.R_types hb.steps hb.blk (fun q hq=>(Zov φ q hq).1)) hv2.2 (fun k hk e=>hk.2 e)) (fun _ _=>trivial)
 ·exact Kd.R_mono (Kd.R_kept (Kd.R_types hf hb.blk (fun q hq=>(types3 q hq).1)) hv2.2 (fun k hk e=>hk.2 e)) (fun _ _=>trivial)
end
structure Alike (x y:Pl):Prop where
 kind:x.kind=y.kind
 shape:x.shape=y.shape
 p:x.p=y.p
 inner:x.inner=y.inner
 rule:x.rule=y.rule
theorem Alike.refl (x:Pl):Alike x x:=⟨rfl,rfl,rfl,rfl,rfl⟩
theorem Alike.trans {x y z:Pl}(h:Alike x y)(k:Alike y z):Alike x z:=⟨h.1.trans k.1,h.2.trans k.2,h.3.trans k.3,h.4.trans k.4,h.5.trans k.5⟩
def Fin_ (s:St)(k:Nat):Prop:=∃y,(k,y)∈s.sh
structure NewOk (b:Nat)(s:St)(x:Pl):Prop where
 kind:x.kind=2∨x.kind=3
 shape:∃k,x.shape=some k∧(k=b∨Fin_ s k)
 inner:∀k,x.inner=some k→Fin_ s k
 pin:x.p.f0=3→∃k,x.inner=some k
structure Stp (b:Nat)(s s':St):Prop where
 len:s.pl.length≤s'.pl.length
 old:∀q,q<s.pl.length→Alike (s'.pl.getD q zPl) (s.pl.getD q zPl)
 sh:∀k x,(k,x)∈s.sh→(k,x)∈s'.sh
 keys:∀k x,(k,x)∈s'.sh→(k,x)∈s.sh∨(s.pl.length≤k∧x.rule=-1)
 new:∀q,s.pl.length≤q→q<s'.pl.length→NewOk b s' (s'.pl.getD q zPl)
theorem NewOk.alike {b:Nat}{s s':St}{x y:Pl}(h:NewOk b s x)(ha:Alike y x)(hs:∀k z,(k,z)∈s.sh→(k,z)∈s'.sh):NewOk b s' y:=by
 refine⟨by rw[ha.kind];exact h.kind,?_,fun k hk=>?_,fun hp=>?_⟩
 ·obtain⟨k,h1,h2⟩:=h.shape;exact⟨k,ha.shape.trans h1,h2.imp id (fun⟨y,hy⟩=>⟨y,hs _ _ hy⟩)⟩
 ·obtain⟨y,hy⟩:=h.inner k (ha.inner.symm.trans hk);exact⟨y,hs _ _ hy⟩
 ·rw[ha.p]at hp;obtain⟨k,hk⟩:=h.pin hp;exact⟨k,ha.inner.trans hk⟩
theorem Stp.refl (b:Nat)(s:St):Stp b s s:=⟨Nat.le_refl _,fun _ _=>Alike.refl _,fun _ _ h=>h,fun _ _ h=>.inl h,fun q h1 h2=>by omega⟩
theorem Stp.trans {b:Nat}{s s1 s2:St}(h:Stp b s s1)(k:Stp b s1 s2):Stp b s s2:=by
 have hl:=h.len;refine⟨Nat.le_trans h.len k.len,fun q hq=>(k.old q (by omega)).trans (h.old q hq),fun j x hj=>k.sh j x (h.sh j x hj),fun j x hj=>?_,fun q h1 h2=>?_⟩
 ·rcases k.keys j x hj with hj | ⟨hj,hr⟩
  ·exact h.keys j x hj
  ·exact .inr ⟨by omega,hr⟩
 ·rcases Nat.lt_or_ge q s1.pl.length with hq | hq
  ·exact (h.new q h1 hq).alike (k.old q hq) k.sh
  ·exact k.new q hq h2
theorem Stp.link (b:Nat)(s:St)(frm tt:List Int):Stp b s (s.link frm tt):=by
 have hl:(s.link frm tt).pl.length=s.pl.length:=Zce _ _ _ _;refine⟨by omega,fun q _=>?_,fun _ _ h=>h,fun _ _ h=>.inl h,fun q h1 h2=>by omega⟩;obtain⟨h1,h2,h3,h4,h5⟩:=Zdd s.pl tt frm frm.length q;exact⟨h3,h1,h4,h2,h5⟩
theorem Stp.item {b:Nat}{s:St}{p:S76}(hp:p.f0≠3):Stp b s (s.add (Zax b p)):=by
 have hl:(s.add (Zax b p)).pl.length=s.pl.length+1:=by simp[St.add]
 refine⟨by omega,fun q hq=>?_,fun _ _ h=>h,fun _ _ h=>.inl h,fun q h1 h2=>?_⟩
 ·show Alike ((s.pl++[Zax b p]).getD q zPl) _;rw[Zcg,if_neg (by omega)];exact Alike.refl _
 ·obtain rfl:q=s.pl.length:=by omega
  show NewOk b _ ((s.pl++[Zax b p]).getD s.pl.length zPl);rw[Zcg,if_pos rfl];exact⟨.inr rfl,⟨b,rfl,.inl rfl⟩,(fun k hk=>(by cases hk)),fun h=>absurd h hp⟩
structure StpP (s s':St)(rule step:Int):Prop where
 len:s.pl.length<s'.pl.length
 old:∀q,q<s.pl.length→Alike (s'.pl.getD q zPl) (s.pl.getD q zPl)
 sh:∀k x,(k,x)∈s.sh→(k,x)∈s'.sh
 keys:∀k x,(k,x)∈s'.sh→(k,x)∈s.sh∨(s.pl.length<k∧x.rule=-1)∨(k=s.pl.length∧x.rule=rule∧x.step=step)
 fin:∃x,(s.pl.length,x)∈s'.sh
 new:∀q,s.pl.length≤q→q<s'.pl.length→NewOk s.pl.length s' (s'.pl.getD q zPl)
 front:Alike (s'.pl.getD s.pl.length zPl) (Zbc s.pl.length)
theorem StpP.of {n:Nat}(hw:∀b p s,Stp b s (Zau n b p s).2)(p:S76)(rule step:Int)(s:St):StpP s (Zgn (Zau n) p rule step s) rule step:=by
 have h:=hw s.pl.length p (s.add (Zbc s.pl.length));have hl:(s.add (Zbc s.pl.length)).pl.length=s.pl.length+1:=by simp[St.add]
 have hge:=h.len;have g0:((s.add (Zbc s.pl.length)).pl.getD s.pl.length zPl)=Zbc s.pl.length:=by
  show (s.pl++[Zbc s.pl.length]).getD s.pl.length zPl=_;rw[Zcg,if_pos rfl]
 have hsub:∀k z,(k,z)∈(Zau n s.pl.length p (s.add (Zbc s.pl.length))).2.sh→(k,z)∈(Zgn (Zau n) p rule step s).sh:=fun k z hk=>List.mem_append_left _ hk
 have hfr:=h.old s.pl.length (by omega);rw[g0]at hfr;have hfin:Fin_ (Zgn (Zau n) p rule step s) s.pl.length:=⟨_,List.mem_append_right _ (List.mem_singleton.2 rfl)⟩
 refine⟨?_,fun q hq=>?_,fun k x hk=>hsub k x (h.sh k x hk),fun k x hk=>?_,hfin,fun q h1 h2=>?_,hfr⟩
 ·show s.pl.length<(Zau n s.pl.length p (s.add (Zbc s.pl.length))).2.pl.length;omega
 ·have h1:=h.old q (by omega);have e:(s.add (Zbc s.pl.length)).pl.getD q zPl=s.pl.getD q zPl:=by
   show (s.pl++[Zbc s.pl.length]).getD q zPl=_;rw[Zcg,if_neg (by omega)]
  rw[e]at h1;exact h1
 ·rcases List.mem_append.1 hk with hk | hk
  ·rcases h.keys k x hk with hk | ⟨hk,hr⟩
   ·exact .inl hk
   ·exact .inr (.inl ⟨by omega,hr⟩)
  ·rw[List.mem_singleton]at hk;injection hk with e1 e2
   subst e1;subst e2;exact .inr (.inr ⟨rfl,rfl,rfl⟩)
 ·rcases Nat.lt_or_ge s.pl.length q with hq | hq
  ·exact (h.new q (by omega) h2).alike (Alike.refl _) hsub
  ·obtain rfl:q=s.pl.length:=by omega
   have hz:NewOk s.pl.length (Zgn (Zau n) p rule step s) (Zbc s.pl.length):=⟨.inl rfl,⟨_,rfl,.inl rfl⟩,(fun k hk=>(by cases hk)),fun h=>absurd (show (0:Int)=3 from h) (by decide)⟩
   exact hz.alike hfr (fun _ _ h=>h)
theorem Stp.within {n:Nat}(hw:∀b p s,Stp b s (Zau n b p s).2)(b:Nat)(p:S76)(s:St)(hp:p.f0=3):Stp b s (Zeh (Zau n) b p s):=by
 have e1:Zde b p s=s.add (Zax b p):=by unfold Zde;rw[if_neg (by omega)]
 unfold Zeh;rw[if_pos hp,e1];have h:=StpP.of hw (Zaj p.f3 0) (-1) (-1) (s.add (Zax b p));have hl:(s.add (Zax b p)).pl.length=s.pl.length+1:=by simp[St.add]
 generalize Zgn (Zau n) (Zaj p.f3 0) (-1) (-1) (s.add (Zax b p))=sp at h;have hlen:=h.len;have hli:(sp.inner s.pl.length (s.add (Zax b p)).pl.length).pl.length=sp.pl.length:=by simp[St.inner]
 have hget:∀q,q≠s.pl.length→(sp.inner s.pl.length (s.add (Zax b p)).pl.length).pl.getD q zPl=sp.pl.getD q zPl:=fun q hq=>by
  show (sp.pl.set _ _).getD q zPl=_;rw[Zda,if_neg (by omega)]
 have hself:(sp.inner s.pl.length (s.add (Zax b p)).pl.length).pl.getD s.pl.length zPl={ sp.pl.getD s.pl.length zPl with inner:=some (s.add (Zax b p)).pl.length }:=by
  show (sp.pl.set _ _).getD s.pl.length zPl=_;rw[Zda,if_pos ⟨rfl,by omega⟩]
 have hk:=h.old s.pl.length (by omega);have hg:(s.add (Zax b p)).pl.getD s.pl.length zPl=Zax b p:=by
  show (s.pl++[Zax b p]).getD s.pl.length zPl=_;rw[Zcg,if_pos rfl]
 rw[hg]at hk;refine⟨by omega,fun q hq=>?_,fun k x hk=>h.sh k x hk,fun k x hk=>?_,fun q h1 h2=>?_⟩
 ·rw[hget q (by omega)];have h3:=h.old q (by omega);have e:(s.add (Zax b p)).pl.getD q zPl=s.pl.getD q zPl:=by
   show (s.pl++[Zax b p]).getD q zPl=_;rw[Zcg,if_neg (by omega)]
  rw[e]at h3;exact h3
 ·rcases h.keys k x hk with h3 | ⟨h3,h4⟩ | ⟨h3,h4,_⟩
  ·exact .inl h3
  ·exact .inr ⟨by omega,h4⟩
  ·exact .inr ⟨by omega,h4⟩
 ·by_cases hq:q=s.pl.length
  ·subst hq;rw[hself];refine⟨.inr hk.kind,⟨b,hk.shape,.inl rfl⟩,fun k hk'=>?_,fun _=>⟨_,rfl⟩⟩;injection hk' with hk'
   subst hk';exact h.fin
  ·rw[hget q hq];have h3:=h.new q (by omega) (by omega);refine⟨h3.kind,?_,h3.inner,h3.pin⟩;obtain⟨k,h4,h5⟩:=h3.shape;refine⟨k,h4,.inr ?_⟩
   rcases h5 with h5 | h5
   ·rw[h5];exact h.fin
   ·exact h5
theorem Zfr:∀(n b:Nat) (p:S76) (s:St),Stp b s (Zau n b p s).2
 | 0,b,_,s=>Stp.refl b s
 | n+1,b,p,s=>by
  have ih:=Zfr n;unfold Zau;by_cases c1:p.f0=2∨p.f0=4∨p.f0=3
  ·rw[if_pos c1];by_cases c3:p.f0=3
   ·exact Stp.within ih b p s c3
   ·have hi:=Stp.item (b:=b) (s:=s) c3;show Stp b s (Zeh (Zau n) b p s);unfold Zeh Zde;rw[if_neg c3]
    split
    ·exact hi.trans (Stp.link _ _ _ _)
    ·exact hi
  ·rw[if_neg c1]
   split
   ·exact ((ih b _ s).trans (ih b _ _)).trans (Stp.link _ _ _ _)
   ·split
    ·exact (ih b _ s).trans (ih b _ _)
    ·split
     ·exact (ih b _ s).trans (Stp.link _ _ _ _)
     ·exact Stp.refl b s
theorem Zpd (n:Nat)(p:S76)(rule step:Int)(s:St):StpP s (Zgn (Zau n) p rule step s) rule step:=StpP.of (Zfr n) p rule step s
structure StpS (s s':St)(l:List Nat)(i:Int):Prop where
 len:s.pl.length≤s'.pl.length
 old:∀q,q<s.pl.length→Alike (s'.pl.getD q zPl) (s.pl.getD q zPl)
 sh:∀k x,(k,x)∈s.sh→(k,x)∈s'.sh
 keys:∀k x,(k,x)∈s'.sh→(k,x)∈s.sh∨(s.pl.length≤k∧(x.rule=-1∨(x.rule=i∧∃j:Nat,j<l.length∧x.step=j∧l.getD j 0=k)))
 fin:∀q∈l,Fin_ s' q∧s.pl.length≤q∧q<s'.pl.length∧Alike (s'.pl.getD q zPl) (Zbc q)
 new:∀q,s.pl.length≤q→q<s'.pl.length→∃b,Fin_ s' b∧NewOk b s' (s'.pl.getD q zPl)
theorem Znw (D:Nat)(i:Int)(r:S52)(s:St)(n:Nat):StpS s (Zaz D i r s n).1 (Zaz D i r s n).2 i:=by
 induction n with
 | zero=>exact⟨Nat.le_refl _,fun _ _=>Alike.refl _,fun _ _ h=>h,fun _ _ h=>.inl h,(fun q hq=>(by cases hq)),fun q h1 h2=>absurd h2 (Nat.not_lt.2 h1)⟩
 | succ n ih=>
  have hp:=Zpd D (Zei r n).f1 i n (Zaz D i r s n).1;show StpS s (Zgn (Zau D) (Zei r n).f1 i n (Zaz D i r s n).1) ((Zaz D i r s n).2++[(Zaz D i r s n).1.pl.length]) i;generalize Zgn (Zau D) (Zei r n).f1 i n (Zaz D i r s n).1=s2 at hp ⊢;have hnl:(Zaz D i r s n).2.length=n:=by
   clear ih hp
   induction n with
   | zero=>rfl
   | succ n ih=>show ((Zaz D i r s n).2++[_]).length=_;rw[List.length_append,ih];rfl
  generalize (Zaz D i r s n).1=s1 at ih hp ⊢;generalize (Zaz D i r s n).2=l at ih hnl ⊢;have hl1:=ih.len;have hl2:=hp.len;refine⟨by omega,fun q hq=>(hp.old q (by omega)).trans (ih.old q hq),fun k x hk=>hp.sh k x (ih.sh k x hk),fun k x hk=>?_,fun q hq=>?_,fun q h1 h2=>?_⟩
  ·rcases hp.keys k x hk with h | ⟨h,h2⟩ | ⟨h,h2,h3⟩
   ·rcases ih.keys k x h with h | ⟨h,h2⟩
    ·exact .inl h
    ·refine .inr ⟨h,h2.imp id (fun⟨h3,j,h4,h5,h6⟩=>⟨h3,j,by rw[List.length_append];omega,h5,?_⟩)⟩;rw[List.getD_eq_getElem?_getD,List.getElem?_append_left h4,←List.getD_eq_getElem?_getD];exact h6
   ·exact .inr ⟨by omega,.inl h2⟩
   ·refine .inr ⟨by omega,.inr ⟨h2,n,by rw[List.length_append,hnl];simp,h3,?_⟩⟩;rw[List.getD_eq_getElem?_getD,List.getElem?_append_right (by omega),hnl];simp[h]
  ·rcases List.mem_append.1 hq with hq | hq
   ·obtain⟨⟨y,h1⟩,h2,h3,h4⟩:=ih.fin q hq;exact⟨⟨y,hp.sh _ _ h1⟩,h2,by omega,(hp.old q h3).trans h4⟩
   ·rw[List.mem_singleton]at hq;subst hq;exact⟨hp.fin,by omega,hl2,hp.front⟩
  ·rcases Nat.lt_or_ge q s1.pl.length with hq | hq
   ·obtain⟨b,⟨y,h3⟩,h4⟩:=ih.new q h1 hq;exact⟨b,⟨y,hp.sh _ _ h3⟩,h4.alike (hp.old q hq) hp.sh⟩
   ·exact⟨s1.pl.length,hp.fin,hp.new q hq h2⟩
def PlaceOk (s:St)(nr:Nat)(x:Pl):Prop:=
 Alike x Zeo∨(∃i:Nat,i<nr∧Alike x (Zhp i))∨∃b,Fin_ s b∧NewOk b s x
structure Built (b:Bt)(nr:Nat):Prop where
 n1:b.steps.length=nr
 n2:b.frees.length=nr
 front:0<b.st.pl.length∧Alike (b.st.pl.getD 0 zPl) Zeo
 places:∀q,q<b.st.pl.length→PlaceOk b.st nr (b.st.pl.getD q zPl)
 keys:∀k x,(k,x)∈b.st.sh→x.rule=-1∨∃i j:Nat,i<nr∧x.rule=i∧j<(b.steps.getD i []).length∧x.step=j∧(b.steps.getD i []).getD j 0=k
 fin:∀i,∀q∈b.steps.getD i [],Fin_ b.st q∧q<b.st.pl.length∧Alike (b.st.pl.getD q zPl) (Zbc q)
 frees:∀i,i<nr→b.frees.getD i 0=-1∨(0≤b.frees.getD i 0∧b.frees.getD i 0<b.st.pl.length∧Alike (b.st.pl.getD (b.frees.getD i 0).toNat zPl) (Zhp i))
theorem PlaceOk.step {s s':St}{nr:Nat}{x y:Pl}(h:PlaceOk s nr x)(ha:Alike y x)(hs:∀k z,(k,z)∈s.sh→(k,z)∈s'.sh):PlaceOk s' (nr+1) y:=by
 rcases h with h | ⟨i,h1,h2⟩ | ⟨b,⟨z,h1⟩,h2⟩
 ·exact .inl (ha.trans h)
 ·exact .inr (.inl ⟨i,by omega,ha.trans h2⟩)
 ·exact .inr (.inr ⟨b,⟨z,hs _ _ h1⟩,h2.alike ha hs⟩)
theorem Zdz {α:Type}(l:List α)(x d:α)(i:Nat):(l++[x]).getD i d=if i=l.length then x else l.getD i d:=by
 rw[List.getD_eq_getElem?_getD,List.getD_eq_getElem?_getD]
 rcases Nat.lt_trichotomy i l.length with hq | hq | hq
 ·rw[List.getElem?_append_left hq,if_neg (by omega)]
 ·subst hq;simp
 ·rw[List.getElem?_eq_none (by simp;omega),List.getElem?_eq_none (by omega),if_neg (by omega)]
theorem built_rule (D:Nat)(r:S52)(b:Bt)(nr:Nat)(h:Built b nr):Built (Zqn D nr r b) (nr+1):=by
 have hf:b.st.pl.length≤(Zcq nr r b.st).pl.length∧(Zcq nr r b.st).sh=b.st.sh∧(∀q,q<b.st.pl.length→(Zcq nr r b.st).pl.getD q zPl=b.st.pl.getD q zPl) ∧
  ((Zcq nr r b.st).pl.length=b.st.pl.length∧Zhq r b.st=-1∨(Zcq nr r b.st).pl.length=b.st.pl.length+1∧Zhq r b.st=b.st.pl.length∧(Zcq nr r b.st).pl.getD b.st.pl.length zPl=Zhp nr):=by
  unfold Zcq Zhq;by_cases hr:r.f1=true
  ·rw[if_pos hr,if_pos hr];refine⟨by simp[St.add],rfl,fun q hq=>?_,.inr ⟨by simp[St.add],rfl,?_⟩⟩
   ·show (b.st.pl++[Zhp nr]).getD q zPl=_;rw[Zcg,if_neg (by omega)]
   ·show (b.st.pl++[Zhp nr]).getD b.st.pl.length zPl=_;rw[Zcg,if_pos rfl]
  ·rw[if_neg hr,if_neg hr];exact⟨Nat.le_refl _,rfl,fun _ _=>rfl,.inl ⟨rfl,rfl⟩⟩
 have hs:=Znw D nr r (Zcq nr r b.st) r.f2.length;unfold Zqn;generalize (Zaz D nr r (Zcq nr r b.st) r.f2.length).1=s2 at hs ⊢;generalize (Zaz D nr r (Zcq nr r b.st) r.f2.length).2=l at hs ⊢;generalize Zcq nr r b.st=s1 at hf hs;generalize Zhq r b.st=f at hf ⊢;obtain⟨f1,f2,f3,f4⟩:=hf;have hlen:=hs.len;have hold:∀q,q<b.st.pl.length→Alike (s2.pl.getD q zPl) (b.st.pl.getD q zPl):=fun q hq=>by
  have:=hs.old q (by omega);rwa[f3 q hq]at this
 have hsub:∀k z,(k,z)∈b.st.sh→(k,z)∈s2.sh:=fun k z hk=>hs.sh k z (by rw[f2];exact hk)
 refine⟨by simp[h.n1],by simp[h.n2],⟨?_,?_⟩,fun q hq=>?_,fun k x hk=>?_,fun i q hq=>?_,fun i hi=>?_⟩
 ·show 0<s2.pl.length;have:=h.front.1;omega
 ·exact (hold 0 h.front.1).trans h.front.2
 ·show PlaceOk s2 (nr+1) (s2.pl.getD q zPl)
  rcases Nat.lt_or_ge q b.st.pl.length with h1 | h1
  ·exact (h.places q h1).step (hold q h1) hsub
  ·rcases Nat.lt_or_ge q s1.pl.length with h2 | h2
   ·rcases f4 with⟨f5,_⟩ | ⟨f5,_,f6⟩
    ·omega
    ·obtain rfl:q=b.st.pl.length:=by omega
     have h3:=hs.old b.st.pl.length h2;rw[f6]at h3;exact .inr (.inl ⟨nr,by omega,h3⟩)
   ·exact .inr (.inr (hs.new q h2 hq))
 ·rcases hs.keys k x hk with h1 | ⟨_,h1 | ⟨h2,j,h3,h4,h5⟩⟩
  ·rw[f2]at h1
   rcases h.keys k x h1 with h2 | ⟨i,j,h2,h3,h4,h5,h6⟩
   ·exact .inl h2
   ·refine .inr ⟨i,j,by omega,h3,?_,h5,?_⟩
    ·show j<((b.steps++[l]).getD i []).length;rw[Zdz,if_neg (by rw[h.n1];omega)];exact h4
    ·show ((b.steps++[l]).getD i []).getD j 0=k;rw[Zdz,if_neg (by rw[h.n1];omega)];exact h6
  ·exact .inl h1
  ·refine .inr ⟨nr,j,by omega,h2,?_,h4,?_⟩
   ·show j<((b.steps++[l]).getD nr []).length;rw[Zdz,if_pos h.n1.symm];exact h3
   ·show ((b.steps++[l]).getD nr []).getD j 0=k;rw[Zdz,if_pos h.n1.symm];exact h5
 ·have hq:q∈(b.steps++[l]).getD i []:=hq;rw[Zdz]at hq
  split at hq
  ·obtain⟨h1,_,h2,h3⟩:=hs.fin q hq;exact⟨h1,h2,h3⟩
  ·obtain⟨⟨y,h1⟩,h2,h3⟩:=h.fin i q hq;exact⟨⟨y,hsub _ _ h1⟩,(by show q<s2.pl.length;omega),(hold q h2).trans h3⟩
 ·show (b.frees++[f]).getD i 0=-1∨(0≤(b.frees++[f]).getD i 0∧(b.frees++[f]).getD i 0<(s2.pl.length:Int)∧Alike (s2.pl.getD ((b.frees++[f]).getD i 0).toNat zPl) (Zhp i));rw[Zdz]
  split
  ·rename_i hi2
   rw[h.n2]at hi2;subst hi2
   rcases f4 with⟨_,f5⟩ | ⟨f5,f6,f7⟩
   ·exact .inl f5
   ·refine .inr ⟨by omega,by omega,?_⟩;rw[f6,Int.toNat_natCast];have h3:=hs.old b.st.pl.length (by omega);rw[f7]at h3;exact h3
  ·rename_i hi2
   rw[h.n2]at hi2
   rcases h.frees i (by omega)with h1 | ⟨h1,h2,h3⟩
   ·exact .inl h1
   ·exact .inr ⟨h1,by omega,(hold _ (by omega)).trans h3⟩
theorem Zky (D:Nat)(G:S26)(n:Nat):Built (Zaw D G n) n:=by
 induction n with
 | zero=>
  refine⟨rfl,rfl,⟨Nat.one_pos,Alike.refl _⟩,fun q hq=>?_,fun k x hk=>(by cases hk),fun i q hq=>?_,fun i hi=>(by omega)⟩
  ·obtain rfl:q=0:=by have hq:q<1:=hq;omega
   exact .inl (Alike.refl _)
  ·have hq:q∈([]:List (List Nat)).getD i []:=hq;simp at hq
 | succ n ih=>exact built_rule D (Zbm G n) _ n ih
structure RulesOk (D:Nat)(G:S26):Prop where
 pats:∀i k:Nat,i<G.f1.length→k<(Zbm G i).f2.length→Zen D (Zei (Zbm G i) k).f1
 few:buildN D G G.f1.length≤100000
theorem VS.start (w X:World)(gb:Nat)(h0 h1:Value)(φ:Nat→Nat)(hb:X.heap[gb]?=some (.cells #[h0,h1,.slice none 0 0,.slice none 0 0,.slice none 0 0] 86 (0,0)))(hge:w.heap.size≤gb)(hB:Below w.heap.size w X) :
 VS (W0.off w (.slice none 0 0)) X gb h0 h1 (.slice none 0 0) (.slice none 0 0) φ (.slice none 0 0) [] []:=
 ⟨hge,hb,OwnRow.none_ _ _ _ _ _,(fun _ _ h=>(by cases h)),hB,(fun k _=>(by show Value.ownBlock _≠some k;simp[Value.ownBlock]))⟩
theorem Zms (D:Nat)(G:S26){i n:Nat}(h:i≤n):buildN D G i≤buildN D G n:=by
 induction h with
 | refl=>exact Nat.le_refl _
 | step _ ih=>exact Nat.le_trans ih (Nat.le_add_right _ _)
theorem Zlm (D:Nat)(r:S52){i n:Nat}(h:i≤n):stepsN D r i≤stepsN D r n:=by
 induction h with
 | refl=>exact Nat.le_refl _
 | step _ ih=>exact Nat.le_trans ih (Nat.le_add_right _ _)
theorem Zqh (D:Nat)(r:S52)(n:Nat):n≤stepsN D r n:=by
 induction n with
 | zero=>exact Nat.le_refl _
 | succ n ih=>show n+1≤stepsN D r n+(1+Zcx D (Zei r n).f1);omega
theorem RulesOk.fewer {D:Nat}{G:S26}(h:RulesOk D G){k:Nat}(hk:k<G.f1.length):buildN D G k+((if (Zbm G k).f1=true then 1 else 0)+stepsN D (Zbm G k) (Zbm G k).f2.length)≤100000:=Nat.le_trans (Zms D G hk) h.few
theorem Zox (D:Nat)(i:Int)(r:S52)(s:St)(n:Nat):(Zaz D i r s n).2.length=n:=by
 induction n with
 | zero=>rfl
 | succ n ih=>show ((Zaz D i r s n).2++[_]).length=_;rw[List.length_append,ih];rfl
theorem info88:(Tryz.prog.info? 88).map (fun i=>(i.zero,i.size,i.bytes))=some (some (.pointer none),1,8):=by kernel_rfl
theorem one_P {W:World}{φ:Nat→Nat}{g:Nat}(hg:g=W.heap.size)(q:Nat):(Zic φ).C (W.alloc (.cells #[.pointer (some ⟨φ q,0,none⟩)] 88)) (some ⟨g,0,none⟩) 1 [q]:=by
 subst hg;have h:=OwnRow.lit (R:=fun (p:Nat) cs=>cs=[Value.pointer (some ⟨φ p,0,none⟩)]) (e:=88) (size:=1) (ps:=[q]) W W.heap.size (inner:=[.pointer (some ⟨φ q,0,none⟩)]) ⟨rfl,fun j p hj=>by
  cases j with
  | zero=>simp at hj;subst hj;rfl
  | succ j=>simp at hj⟩ (Nat.le_refl _) (by simp)
 obtain⟨A,c,e,_,hr⟩:=h.reads;injection e with e _ _
 subst e;exact hr.imp_ Zbr (fun _ _ hp=>hp)
def Bt.mach (b:Bt):Mach:=⟨b.st.pl,b.st.sh,b.steps,b.frees⟩
theorem shAt_mem {l:List (Nat × Sh)}{k:Nat}{x:Sh}(h:(k,x)∈l):(k,Zec l k)∈l:=by
 induction l with
 | nil=>cases h
 | cons a r ih=>
  obtain⟨j,y⟩:=a;unfold Zec;by_cases e:j=k
  ·rw[if_pos e];subst e;exact List.mem_cons_self
  ·rw[if_neg e];refine List.mem_cons_of_mem _ (ih ?_)
   rcases List.mem_cons.1 h with h | h
   ·injection h with h1 _;exact absurd h1.symm e
   ·exact h
theorem Zpo {s:St}{k:Nat}(h:Fin_ s k):(k,Zec s.sh k)∈s.sh:=by
 obtain⟨x,hx⟩:=h;exact shAt_mem hx
def Short (b:Bt):Prop:=∀q,q<b.st.pl.length→(b.st.pl.getD q zPl).p.f1.length≤100000∧(b.st.pl.getD q zPl).p.f2.length≤100000
theorem built_ok {b:Bt}{nr:Nat}{φ:Nat→Nat}(h:Built b nr)(hg:Good b.st)(hi:Zhv φ b.st.sh)(hs:Short b)(hl:b.st.pl.length≤100000)(hn:nr≤1000)(hr:∀i:Nat,(b.steps.getD i []).length≤1000)(hp:∀i:Nat,i<nr→∃k r,b.steps.getD i []=k :: r):b.mach.Ok φ:=by
 have at_:∀i:Int,0≤i→i<b.st.pl.length→i.toNat<b.st.pl.length:=fun i h0 h1=>by omega
 have pk:∀i:Int,0≤i→i<b.st.pl.length→PlaceOk b.st nr (Zbe b.st.pl i):=fun i h0 h1=>h.places i.toNat (at_ i h0 h1)
 have shp:∀x,PlaceOk b.st nr x→∀k,x.shape=some k→(k,Zec b.st.sh k)∈b.st.sh:=fun x hx k hk=>by
  rcases hx with hx | ⟨i,_,hx⟩ | ⟨j,hj,hx⟩
  ·rw[hx.shape]at hk;cases hk
  ·rw[hx.shape]at hk;cases hk
  ·obtain⟨k',h1,h2⟩:=hx.shape;rw[h1]at hk;injection hk with hk
   subst hk
   rcases h2 with h2 | h2
   ·subst h2;exact Zpo hj
   ·exact Zpo h2
 refine⟨fun i h0 h1 k hk=>shp _ (pk i h0 h1) k hk,fun i h0 h1 k hk=>?_,fun i h0 h1 hk=>?_,fun i h0 h1 hk=>?_,fun k k' s s' h1 h2 h3=>hi k k' s s' h1 h2 h3,hl,fun i h0 h1=>?_,fun k s hk h0=>?_,fun i hi'=>?_,fun i k hk=>?_,⟨by rw[show b.mach.steps.length=nr from h.n1];exact hn,by rw[show b.mach.frees.length=nr from h.n2];exact hn,hr⟩,fun k s hk=>?_⟩
 ·rcases pk i h0 h1 with hx | ⟨j,_,hx⟩ | ⟨j,hj,hx⟩
  ·have hk2:(Zbe b.st.pl i).inner=some k:=hk;rw[hx.inner]at hk2;cases hk2
  ·have hk2:(Zbe b.st.pl i).inner=some k:=hk;rw[hx.inner]at hk2;cases hk2
  ·exact Zpo (hx.inner k hk)
 ·rcases pk i h0 h1 with hx | ⟨j,_,hx⟩ | ⟨j,hj,hx⟩
  ·have hk2:(Zbe b.st.pl i).kind=2:=hk;rw[hx.kind]at hk2;cases hk2
  ·have hk2:(Zbe b.st.pl i).kind=2:=hk;rw[hx.kind]at hk2;cases hk2
  ·obtain⟨k',h3,_⟩:=hx.shape;exact⟨k',h3⟩
 ·rcases pk i h0 h1 with hx | ⟨j,_,hx⟩ | ⟨j,hj,hx⟩
  ·have hk2:(Zbe b.st.pl i).p.f0=3:=hk;rw[hx.p]at hk2;cases hk2
  ·have hk2:(Zbe b.st.pl i).p.f0=3:=hk;rw[hx.p]at hk2;cases hk2
  ·exact hx.pin hk
 ·have h2:=hg.ris i.toNat;have h3:=hs i.toNat (at_ i h0 h1);exact⟨Nat.le_trans h2.len hl,h3.1,h3.2,h2.2⟩
 ·rcases h.keys k s hk with h1 | ⟨i,j,h1,h2,h3,h4,_⟩
  ·omega
  ·have:=hr i;refine⟨?_,by omega,by omega⟩;show s.rule<(b.steps.length:Int);rw[h.n1];omega
 ·have hi2:i<b.frees.length:=hi';rw[h.n2]at hi2;exact⟨by show i<b.steps.length;rw[h.n1];exact hi2,hp i hi2⟩
 ·exact Zpo (h.fin i k hk).1
 ·have h1:=hg.shs k s hk;exact⟨Nat.le_trans h1.2.1.len hl,Nat.le_trans h1.2.2.len hl,h1.2.1.2⟩
theorem Zjw (D:Nat)(i:Int)(r:S52)(s:St)(n:Nat):(Zaz D i r s n).2.length=n:=by
 induction n with
 | zero=>rfl
 | succ n ih=>show ((Zaz D i r s n).2++[_]).length=_;rw[List.length_append,ih];rfl
theorem Zif (D:Nat)(G:S26)(n i:Nat)(hi:i<n):((Zaw D G n).steps.getD i []).length=(Zbm G i).f2.length:=by
 induction n with
 | zero=>omega
 | succ n ih=>
  show (((Zaw D G n).steps++[(Zaz D n (Zbm G n) (Zcq n (Zbm G n) (Zaw D G n).st) (Zbm G n).f2.length).2]).getD i []).length=_;rw[Zdz,(Zky D G n).n1]
  split
  ·rename_i h
   rw[Zjw,h]
  ·exact ih (by omega)
structure Zqc (G:S26):Prop where
 calls:∀i j:Int,0≤i→i<G.f1.length→0≤j→j<(Zbm G i).f2.length→(Zei (Zbm G i) j).f0.length≤100000
 short:∀i:Int,0≤i→i<G.f1.length→(Zbm G i).f2.length≤1000
theorem Zop (D:Nat)(G:S26)(h:Zqc G):Fits G (Zaw D G G.f1.length).mach:=by
 refine⟨fun i h0 h1=>⟨?_,?_⟩,h.calls,h.short⟩
 ·show i<((Zaw D G G.f1.length).steps.length:Int);rw[(Zky D G _).n1];exact h1
 ·have h2:=Zif D G G.f1.length i.toNat (by omega);rw[show ((i.toNat:Nat):Int)=i by omega]at h2;exact h2
theorem Ziz (D:Nat)(G:S26):Fits2 G (Zaw D G G.f1.length).mach:=by
 have hb:=Zky D G G.f1.length;refine⟨hb.n1,fun i h0 h1 hk=>?_⟩;have h2:i.toNat<(Zaw D G G.f1.length).st.pl.length:=by
  have h1:i<((Zaw D G G.f1.length).st.pl.length:Int):=h1;omega
 have hk2:((Zaw D G G.f1.length).st.pl.getD i.toNat zPl).kind=1:=hk;show 0≤((Zaw D G G.f1.length).st.pl.getD i.toNat zPl).rule∧((Zaw D G G.f1.length).st.pl.getD i.toNat zPl).rule<G.f1.length
 rcases hb.places i.toNat h2 with hx | ⟨j,hj,hx⟩ | ⟨j,hj,hx⟩
 ·rw[hx.kind]at hk2;cases hk2
 ·rw[hx.rule];show (0:Int)≤(j:Int)∧(j:Int)<_;omega
 ·rcases hx.kind with h3 | h3 <;> rw[h3]at hk2 <;> cases hk2
def Zkw (x:Int):S67:=⟨2,rgs [x],[]⟩
def tA:S70:=⟨⟨#[97]⟩,0,1,Zkw 97⟩
def tB:S70:=⟨⟨#[98]⟩,0,2,⟨2,rgs [10,98],[]⟩⟩
def tO:S70:=⟨⟨#[111]⟩,1,3,Zkw 99⟩
def tC:S70:=⟨⟨#[99]⟩,2,4,Zkw 100⟩
def tP:S70:=⟨⟨#[112]⟩,1,5,⟨3,[],[Zkw 99,Zkw 99]⟩⟩
def tQ:S70:=⟨⟨#[113]⟩,2,6,⟨3,[],[Zkw 100,Zkw 97]⟩⟩
def T4:List S70:=[tA,tB,tO,tC]
def T6:List S70:=[tA,tB,tO,tC,tP,tQ]
def nAB:List ByteArray:=[⟨#[97]⟩,⟨#[98]⟩]
def nO:List ByteArray:=[⟨#[111]⟩]
def nC:List ByteArray:=[⟨#[99]⟩]
def nOP:List ByteArray:=[⟨#[111]⟩,⟨#[112]⟩]
def nCQ:List ByteArray:=[⟨#[99]⟩,⟨#[113]⟩]
theorem sgl1 (x:Int)(h0:0≤x)(h1:x<55296):Sgl [x]:=⟨fun y hy=>by simp at hy;subst hy;exact⟨h0,h1⟩,List.pairwise_singleton _ _,by simp⟩
theorem Zdx (x:Int)(h0:0≤x)(h1:x<55296):ReSet (Zkw x):=⟨rfl,rfl,[x],rfl,sgl1 x h0 h1,Nat.le_refl _⟩
theorem re_B:ReSet ⟨2,rgs [10,98],[]⟩:=⟨rfl,rfl,[10,98],rfl,⟨fun y hy=>by simp at hy;rcases hy with rfl | rfl <;> decide,by simp,by simp⟩,by simp⟩
theorem Zfz (b:UInt8)(h1:97≤b.toNat)(h2:b.toNat≤122)(h3:hasS ownS ⟨#[b]⟩=false):Let1 ⟨#[b]⟩:=⟨⟨b,rfl,h1,h2⟩,h3⟩
theorem tok4 (i:Nat)(h:i<4):Zqa T4 i:=by
 obtain rfl | rfl | rfl | rfl:i=0∨i=1∨i=2∨i=3:=by omega
 ·exact⟨Zfz 97 (by decide) (by decide) (by decide +kernel),⟨by decide,by decide +kernel,fun j hj=>by omega⟩,.inl rfl,by decide,.inl (Zdx 97 (by decide) (by decide))⟩
 ·exact⟨Zfz 98 (by decide) (by decide) (by decide +kernel),⟨by decide,by decide +kernel,by decide +kernel⟩,.inl rfl,by decide,.inl re_B⟩
 ·exact⟨Zfz 111 (by decide) (by decide) (by decide +kernel),⟨by decide,by decide +kernel,by decide +kernel⟩,.inr (.inl rfl),by decide,.inl (Zdx 99 (by decide) (by decide))⟩
 ·exact⟨Zfz 99 (by decide) (by decide) (by decide +kernel),⟨by decide,by decide +kernel,by decide +kernel⟩,.inr (.inr rfl),by decide,.inl (Zdx 100 (by decide) (by decide))⟩
theorem tok6 (i:Nat)(h:i<6):Zqa T6 i:=by
 obtain rfl | rfl | rfl | rfl | rfl | rfl:i=0∨i=1∨i=2∨i=3∨i=4∨i=5:=by omega
 ·exact⟨Zfz 97 (by decide) (by decide) (by decide +kernel),⟨by decide,by decide +kernel,fun j hj=>by omega⟩,.inl rfl,by decide,.inl (Zdx 97 (by decide) (by decide))⟩
 ·exact⟨Zfz 98 (by decide) (by decide) (by decide +kernel),⟨by decide,by decide +kernel,by decide +kernel⟩,.inl rfl,by decide,.inl re_B⟩
 ·exact⟨Zfz 111 (by decide) (by decide) (by decide +kernel),⟨by decide,by decide +kernel,by decide +kernel⟩,.inr (.inl rfl),by decide,.inl (Zdx 99 (by decide) (by decide))⟩
 ·exact⟨Zfz 99 (by decide) (by decide) (by decide +kernel),⟨by decide,by decide +kernel,by decide +kernel⟩,.inr (.inr rfl),by decide,.inl (Zdx 100 (by decide) (by decide))⟩
 ·exact⟨Zfz 112 (by decide) (by decide) (by decide +kernel),⟨by decide,by decide +kernel,by decide +kernel⟩,.inr (.inl rfl),by decide,.inr ⟨rfl,rfl,_,_,rfl,Zdx 99 (by decide) (by decide),Zdx 99 (by decide) (by decide)⟩⟩
 ·exact⟨Zfz 113 (by decide) (by decide) (by decide +kernel),⟨by decide,by decide +kernel,by decide +kernel⟩,.inr (.inr rfl),by decide,.inr ⟨rfl,rfl,_,_,rfl,Zdx 100 (by decide) (by decide),Zdx 97 (by decide) (by decide)⟩⟩
theorem Zev (toks:List S70)(k:Int):NamesOk toks [] k:=⟨fun i hi=>by simp at hi,fun i hi=>by simp at hi,by simp⟩
theorem NamesOk.some {toks:List S70}{l0 l:List ByteArray}{k:Int}(h:NamesOk toks l0 k)(hs:Some0 l0 l):NamesOk toks l k:=by
 obtain⟨_,o,m,rfl⟩:=hs;have hlen:((l0.drop o).take m).length=min m (l0.length-o):=by rw[List.length_take,List.length_drop]
 have hget:∀i,i<((l0.drop o).take m).length→((l0.drop o).take m).getD i ByteArray.empty=l0.getD (o+i) ByteArray.empty:=fun i hi=>by
  rw[List.getD_eq_getElem?_getD,List.getD_eq_getElem?_getD,List.getElem?_take,if_pos (by omega),List.getElem?_drop]
 refine⟨fun i hi=>?_,fun i hi=>?_,?_⟩
 ·rw[hget i hi];exact h.tok (o+i) (by omega)
 ·rw[hget i hi];have h1:=h.once (o+i) (by omega);unfold hasS at h1 ⊢;rw[List.any_eq_false]at h1 ⊢;intro x hx;refine h1 x ?_
  have h2:x∈(l0.drop o).take i:=by
   rw[List.take_take]at hx;exact (List.take_subset_take_left (l0.drop o) (Nat.min_le_left _ _)) hx
  rw[List.take_add];exact List.mem_append_right _ h2
 ·have:=h.few;omega
theorem Zhz (toks:List S70)(l:List ByteArray)(k:Int)(h:l.length≤2)(h0:∀i:Nat,i<l.length→∃j,IsTok toks (l.getD i ByteArray.empty) j∧(toks.getD j z70).f1=k)(h1:2≤l.length→hasS (l.take 1) (l.getD 1 ByteArray.empty)=false):NamesOk toks l k:=
 ⟨h0,fun i hi=>by
  obtain rfl | rfl:i=0∨i=1:=by omega
  ·rfl
  ·exact h1 (by omega),by omega⟩
theorem Mk.good {toks:List S70}{a0 a1 a2:List ByteArray}(s0:NamesOk toks a0 0)(s1:NamesOk toks a1 1)(s2:NamesOk toks a2 2):∀{D N:Nat} {p:S76},Mk a0 a1 a2 D N p→Zkg toks D p
 | 0,_,_,h=>h.elim
 | D+1,N,p,h=>by
  rcases h with⟨h0,h1,h2,h3,_⟩ | ⟨h0,h1,h2,h3,_⟩ | ⟨h0,h1,h2,x,n,h3,h4,_⟩ | ⟨h0,h1,h2,x,n,h3,h4,_⟩ | ⟨h0,h1,h2,x,y,n,m,h3,h4,h5,_⟩
  ·refine⟨?_,by rw[h1];exact Zev _ _,by rw[h2];exact Zev _ _,fun j hj=>by rw[h3]at hj;simp at hj⟩;rw[h1,h2,h3]
   rcases h0 with h0 | h0
   ·exact .inl ⟨h0,rfl,rfl,rfl⟩
   ·exact .inr (.inl ⟨h0,rfl,rfl,rfl⟩)
  ·refine⟨?_,?_,by rw[h2];exact Zev _ _,fun j hj=>by rw[h3]at hj;simp at hj⟩
   ·rw[h2,h3];exact .inr (.inr (.inl ⟨h0,h1.pos,rfl,rfl⟩))
   ·rw[if_neg (by rw[h0];decide)];exact s0.some h1
  ·refine⟨?_,?_,s2.some h2,fun j hj=>?_⟩
   ·rw[h3];exact .inr (.inr (.inr (.inl ⟨h0,h1.pos,h2.pos,rfl⟩)))
   ·rw[if_pos h0];exact s1.some h1
   ·rw[h3]at hj ⊢;obtain rfl:j=0:=by simp at hj;omega
    exact h4.good s0 s1 s2
  ·refine⟨?_,by rw[h1];exact Zev _ _,by rw[h2];exact Zev _ _,fun j hj=>?_⟩
   ·rw[h1,h2,h3];exact .inr (.inr (.inr (.inr (.inr (.inr ⟨h0,rfl,rfl,rfl⟩)))))
   ·rw[h3]at hj ⊢;obtain rfl:j=0:=by simp at hj;omega
    exact h4.good s0 s1 s2
  ·refine⟨?_,by rw[h1];exact Zev _ _,by rw[h2];exact Zev _ _,fun j hj=>?_⟩
   ·rw[h1,h2,h3]
    rcases h0 with h0 | h0
    ·exact .inr (.inr (.inr (.inr (.inl ⟨h0,rfl,rfl,rfl⟩))))
    ·exact .inr (.inr (.inr (.inr (.inr (.inl ⟨h0,rfl,rfl,rfl⟩)))))
   ·rw[h3]at hj ⊢;obtain rfl | rfl:j=0∨j=1:=by simp at hj;omega
    ·exact h4.good s0 s1 s2
    ·exact h5.good s0 s1 s2
structure StepMk (a1 a2:List ByteArray)(need:Bool)(s:S79):Prop where
 yes:need=true→Some0 a1 s.f0
 no:need=false→s.f0=[]
 pat:∃D N,Mk nAB a1 a2 D N s.f1∧D≤9∧N≤23
structure RuleMk (a1 a2:List ByteArray)(r:S52):Prop where
 cls:10≤r.f0∧r.f0≤12
 one:1≤r.f2.length
 two:r.f2.length≤2
 steps:∀j:Nat,j<r.f2.length→StepMk a1 a2 (decide (0<j)||r.f1) (r.f2.getD j z79)
structure MakeOk (n:Nat)(G:S26):Prop where
 kind:∃a1 a2,((n≤3∧G.f0=T4∧a1=nO∧a2=nC)∨(3<n∧G.f0=T6∧a1=nOP∧a2=nCQ))∧∀i:Nat,i<G.f1.length→RuleMk a1 a2 (G.f1.getD i z52)
 few:G.f1.length≤3
 fewer:G.f1.length≤n
theorem Zmd:NamesOk T4 nAB 0∧NamesOk T4 nO 1∧NamesOk T4 nC 2:=by
 refine⟨Zhz _ _ _ (by decide) (fun i hi=>?_) (fun _=>by decide +kernel),Zhz _ _ _ (by decide) (fun i hi=>?_) (fun h=>absurd h (by decide)),Zhz _ _ _ (by decide) (fun i hi=>?_) (fun h=>absurd h (by decide))⟩
 ·obtain rfl | rfl:i=0∨i=1:=by simp[nAB]at hi;omega
  ·exact⟨0,(tok4 0 (by decide)).tok,rfl⟩
  ·exact⟨1,(tok4 1 (by decide)).tok,rfl⟩
 ·obtain rfl:i=0:=by simp[nO]at hi;omega
  exact⟨2,(tok4 2 (by decide)).tok,rfl⟩
 ·obtain rfl:i=0:=by simp[nC]at hi;omega
  exact⟨3,(tok4 3 (by decide)).tok,rfl⟩
theorem names6:NamesOk T6 nAB 0∧NamesOk T6 nOP 1∧NamesOk T6 nCQ 2:=by
 refine⟨Zhz _ _ _ (by decide) (fun i hi=>?_) (fun _=>by decide +kernel),Zhz _ _ _ (by decide) (fun i hi=>?_) (fun _=>by decide +kernel),Zhz _ _ _ (by decide) (fun i hi=>?_) (fun _=>by decide +kernel)⟩
 ·obtain rfl | rfl:i=0∨i=1:=by simp[nAB]at hi;omega
  ·exact⟨0,(tok6 0 (by decide)).tok,rfl⟩
  ·exact⟨1,(tok6 1 (by decide)).tok,rfl⟩
 ·obtain rfl | rfl:i=0∨i=1:=by simp[nOP]at hi;omega
  ·exact⟨2,(tok6 2 (by decide)).tok,rfl⟩
  ·exact⟨4,(tok6 4 (by decide)).tok,rfl⟩
 ·obtain rfl | rfl:i=0∨i=1:=by simp[nCQ]at hi;omega
  ·exact⟨3,(tok6 3 (by decide)).tok,rfl⟩
  ·exact⟨5,(tok6 5 (by decide)).tok,rfl⟩
theorem StepMk.good {toks:List S70}{a1 a2:List ByteArray}{need:Bool}{s:S79}(h:StepMk a1 a2 need s)(s0:NamesOk toks nAB 0)(s1:NamesOk toks a1 1)(s2:NamesOk toks a2 2):StepGood toks need s:=by
 obtain⟨D,N,hm,hD,hN⟩:=h.pat;refine⟨?_,?_,D,N,D,hm.good s0 s1 s2,hm.fit,by omega,by omega⟩
 ·cases need with
  | true=>exact decide_eq_true (h.yes rfl).pos
  | false=>rw[h.no rfl];rfl
 ·cases need with
  | true=>exact s1.some (h.yes rfl)
  | false=>rw[h.no rfl];exact Zev _ _
theorem RuleMk.good {toks:List S70}{a1 a2:List ByteArray}{r:S52}(h:RuleMk a1 a2 r)(s0:NamesOk toks nAB 0)(s1:NamesOk toks a1 1)(s2:NamesOk toks a2 2):Zqb toks r:=
 ⟨by have:=h.cls;omega,h.one,by have:=h.two;omega,fun j hj=>(h.steps j hj).good s0 s1 s2⟩
theorem MakeOk.gram {n:Nat}{G:S26}(h:MakeOk n G):Zsk G:=by
 obtain⟨a1,a2,hk,hr⟩:=h.kind;have hf:=h.few
 rcases hk with⟨_,ht,rfl,rfl⟩ | ⟨_,ht,rfl,rfl⟩
 ·refine⟨by rw[ht];decide,by rw[ht];decide,fun i hi=>?_,by omega,fun i hi=>?_⟩
  ·rw[ht]at hi ⊢;exact tok4 i hi
  ·rw[ht];exact (hr i hi).good Zmd.1 Zmd.2.1 Zmd.2.2
 ·refine⟨by rw[ht];decide,by rw[ht];decide,fun i hi=>?_,by omega,fun i hi=>?_⟩
  ·rw[ht]at hi ⊢;exact tok6 i hi
  ·rw[ht];exact (hr i hi).good names6.1 names6.2.1 names6.2.2
theorem Mk.places {a0 a1 a2:List ByteArray}:∀{D N:Nat} {p:S76},Mk a0 a1 a2 D N p→∀n,Zcx n p≤2*N
 | 0,_,_,h,_=>h.elim
 | D+1,N,p,h,0=>by show 0≤2*N;omega
 | D+1,N,p,h,n+1=>by
  unfold Zcx
  rcases h with⟨h0,h1,h2,h3,h4⟩ | ⟨h0,h1,h2,h3,h4⟩ | ⟨h0,h1,h2,x,k,h3,h4,h5⟩ | ⟨h0,h1,h2,x,k,h3,h4,h5⟩ | ⟨h0,h1,h2,x,y,k,m,h3,h4,h5,h6⟩
  ·rcases h0 with h0 | h0
   ·rw[if_neg (by omega),if_neg (by omega),if_neg (by omega),if_neg (by omega)];omega
   ·rw[if_neg (by omega),if_pos (by omega)];omega
  ·rw[if_neg (by omega),if_pos (by omega)];omega
  ·rw[if_pos h0,h3];have:=h4.places n;show 2+Zcx n x≤2*N;omega
  ·rw[if_neg (by omega),if_neg (by omega),if_neg (by omega),if_pos h0,h3];have:=h4.places n;show Zcx n x≤2*N;omega
  ·rw[if_neg (by omega),if_neg (by omega),if_pos (by omega),h3];have:=h4.places n;have:=h5.places n;show Zcx n x+Zcx n y≤2*N;omega
theorem Zgr {α:Type}(l:List α)(i:Nat)(z:α):l.getD ((i:Int)).toNat z=l.getD i z:=by rw[Int.toNat_natCast]
theorem MakeOk.rule {n:Nat}{G:S26}(h:MakeOk n G)(i:Nat)(hi:i<G.f1.length):∃a1 a2,a1.length≤2∧a2.length≤2∧RuleMk a1 a2 (Zbm G i):=by
 obtain⟨a1,a2,hk,hr⟩:=h.kind;have h1:=hr i hi;rw[←Zgr]at h1
 rcases hk with⟨_,_,rfl,rfl⟩ | ⟨_,_,rfl,rfl⟩
 ·exact⟨_,_,by decide,by decide,h1⟩
 ·exact⟨_,_,by decide,by decide,h1⟩
theorem RuleMk.stepsN {a1 a2:List ByteArray}{r:S52}(h:RuleMk a1 a2 r):∀k,k≤r.f2.length→stepsN 9 r k≤47*k
 | 0,_=>Nat.le_refl _
 | k+1,hk=>by
  have ih:=h.stepsN k (by omega);obtain⟨D,N,hm,_,hN⟩:=(h.steps k (by omega)).pat;have:=hm.places 9;rw[←Zgr]at this;show PVpa.stepsN 9 r k+(1+Zcx 9 (Zei r k).f1)≤_;have e:(Zei r k).f1=(r.f2.getD ((k:Int)).toNat z79).f1:=rfl;rw[e];omega
theorem MakeOk.buildN {n:Nat}{G:S26}(h:MakeOk n G):∀k,k≤G.f1.length→buildN 9 G k≤1+95*k
 | 0,_=>Nat.le_refl _
 | k+1,hk=>by
  have ih:=h.buildN k (by omega);obtain⟨a1,a2,_,_,hr⟩:=h.rule k (by omega);have h1:=hr.stepsN _ (Nat.le_refl _);have h2:=hr.two;show PVpa.buildN 9 G k+((if (Zbm G k).f1=true then 1 else 0)+PVpa.stepsN 9 (Zbm G k) (Zbm G k).f2.length)≤_;have h3:(if (Zbm G k).f1=true then 1 else 0)≤1:=by split <;> omega
  omega
theorem MakeOk.rulesOk {n:Nat}{G:S26}(h:MakeOk n G):RulesOk 9 G:=by
 refine⟨fun i k hi hk=>?_,?_⟩
 ·obtain⟨a1,a2,s1,s2,hr⟩:=h.rule i hi;obtain⟨D,N,hm,hD,_⟩:=(hr.steps k hk).pat;have h1:=(hm.mono hD).patOk (by decide) s1 s2;rw[←Zgr]at h1;exact h1
 ·have h1:=h.buildN _ (Nat.le_refl _);have h2:=h.few;omega
theorem MakeOk.callsOk {n:Nat}{G:S26}(h:MakeOk n G):Zqc G:=by
 refine⟨fun i j hi0 hi hj0 hj=>?_,fun i hi0 hi=>?_⟩
 ·obtain⟨i,rfl⟩:∃k:Nat,i=k:=⟨i.toNat,by omega⟩
  obtain⟨j,rfl⟩:∃k:Nat,j=k:=⟨j.toNat,by omega⟩
  obtain⟨a1,a2,s1,s2,hr⟩:=h.rule i (by omega);have h1:=hr.steps j (by omega);rw[←Zgr]at h1;change StepMk a1 a2 _ (Zei (Zbm G i) j)at h1;generalize hb:(decide (0<j)||(Zbm G i).f1)=b at h1;cases b with
  | true=>have:=(h1.yes rfl).short;omega
  | false=>rw[h1.no rfl];simp
 ·obtain⟨i,rfl⟩:∃k:Nat,i=k:=⟨i.toNat,by omega⟩
  obtain⟨a1,a2,s1,s2,hr⟩:=h.rule i (by omega);have:=hr.two;omega
theorem lit_F {α:Type}{d:Kd α}{W:World}{g e n:Nat}{xs:List α}{inner:List Value}{ok:Nat→Prop}(h:W.heap[g]?=some (.cells inner.toArray e (0,0)))(hg:ok g)(hr:Reps (fun x c=>Kd.FK d W ok x c) d.sz xs inner)(hn:xs.length=n)(hm:n≤1000)(hs:0<d.sz):Kd.F d W ok (some ⟨g,0,none⟩) n xs:=fun W' hW=>by
 have hb:W'.heap[g]?=some (.cells inner.toArray e (0,0)):=(hW g hg (Zew h)).trans h;refine⟨hn,by omega,fun _=>⟨_,rfl,fun j p hj=>?_⟩⟩;have hjl:=(List.getElem?_eq_some_iff.1 hj).1;have hk:=hr.2 j p hj W' hW;refine⟨(inner.drop (j*d.sz)).take d.sz,d.K_len hk,hk,fun i v hv=>?_⟩;have hi:=(List.getElem?_eq_some_iff.1 hv).1;have hl:=d.K_len hk;rw[Zpz,Zac hb,List.getElem?_toArray];rw[List.getElem?_take,if_pos (by omega),List.getElem?_drop]at hv;exact hv
def One (W:World)(g:Nat)(x:Int):Prop:=W.heap[g]?=some (.cells #[.int .i32 x,.int .i32 x] 72 (0,0))
theorem One.below {w W:World}{g:Nat}{x:Int}(h:One w g x)(hb:Below w.heap.size w W):One W g x:=Zag h hb
theorem Zrg (x:Int)(w:World) :
 Calls Tryz.prog 28 #[.int .i32 x] w fun e w'=>∃g,e=.returned (.agg #[.int .i64 2,.slice (some ⟨g,0,none⟩) 1 1,.slice none 0 0])∧w.heap.size≤g∧One w' g x∧Below w.heap.size w w':=by
 go_enter Tryz.func28,Tryz.ntmps28
 go_wp2
 refine bodyPost_ret (results_cell_row rfl _ _ w.heap.size 67 #[.int .i64 2,.slice (some ⟨w.heap.size+1,0,none⟩) 1 1,.slice none 0 0] (0,0) _ rfl (Zan (Zaq w _) _) Tryz.underlying67 rfl (by kernel_rfl)) rfl ?_
 have hx:=Zaq (w.alloc (.cells #[.int .i64 2,.slice (some ⟨w.heap.size+1,0,none⟩) 1 1,.slice none 0 0] 67)) (.cells #[.int .i32 x,.int .i32 x] 72);rw[show (w.alloc (.cells #[.int .i64 2,.slice (some ⟨w.heap.size+1,0,none⟩) 1 1,.slice none 0 0] 67)).heap.size=w.heap.size+1 by simp]at hx;exact⟨_,rfl,Nat.le_succ _,hx,Zae (Zae Zbr _) _⟩
section
variable {W:World}{ok:Nat→Prop}
theorem F_rg {g:Nat}{x:Int}(h:One W g x)(hg:ok g):Kd.F k72 W ok (some ⟨g,0,none⟩) 1 (rgs [x]):=Zex (cs:=[.int .i32 x,.int .i32 x]) h hg (Ztw W ok ⟨x,x⟩)
theorem FK_one {g:Nat}{x:Int}(h:One W g x)(hg:ok g):Kd.FK k67 W ok (Zkw x) [.int .i64 2,.slice (some ⟨g,0,none⟩) 1 1,.slice none 0 0]:=
 k67_mkF W ok (Zkw x) (Nat.le_refl _) (F_rg h hg) (Nat.le_refl _) (Kd.F_nil _ _ _)
theorem FK_A {g:Nat}(h:One W g 97)(hg:ok g):Kd.FK k70 W ok tA [.string ⟨#[97]⟩,.int .i64 0,.int .i64 1,.int .i64 2,.slice (some ⟨g,0,none⟩) 1 1,.slice none 0 0]:=
 Zka W ok tA (Nat.le_refl _) (F_rg h hg) (Nat.le_refl _) (Kd.F_nil _ _ _)
theorem FK_O {g:Nat}(h:One W g 99)(hg:ok g):Kd.FK k70 W ok tO [.string ⟨#[111]⟩,.int .i64 1,.int .i64 3,.int .i64 2,.slice (some ⟨g,0,none⟩) 1 1,.slice none 0 0]:=
 Zka W ok tO (Nat.le_refl _) (F_rg h hg) (Nat.le_refl _) (Kd.F_nil _ _ _)
theorem FK_C {g:Nat}(h:One W g 100)(hg:ok g):Kd.FK k70 W ok tC [.string ⟨#[99]⟩,.int .i64 2,.int .i64 4,.int .i64 2,.slice (some ⟨g,0,none⟩) 1 1,.slice none 0 0]:=
 Zka W ok tC (Nat.le_refl _) (F_rg h hg) (Nat.le_refl _) (Kd.F_nil _ _ _)
theorem FK_B {g:Nat}(h:W.heap[g]?=some (.cells #[.int .i32 10,.int .i32 10,.int .i32 98,.int .i32 98] 72 (0,0)))(hg:ok g):Kd.FK k70 W ok tB [.string ⟨#[98]⟩,.int .i64 0,.int .i64 2,.int .i64 2,.slice (some ⟨g,0,none⟩) 2 2,.slice none 0 0]:=
 Zka W ok tB (Nat.le_refl _) (Zkm (c1:=[.int .i32 10,.int .i32 10]) (c2:=[.int .i32 98,.int .i32 98]) h hg (Ztw W ok ⟨10,10⟩) (Ztw W ok ⟨98,98⟩)) (Nat.le_refl _) (Kd.F_nil _ _ _)
def cells4 (ga gb gc gd:Nat):List Value:=[.string ⟨#[97]⟩,.int .i64 0,.int .i64 1,.int .i64 2,.slice (some ⟨ga,0,none⟩) 1 1,.slice none 0 0,.string ⟨#[98]⟩,.int .i64 0,.int .i64 2,.int .i64 2,.slice (some ⟨gb,0,none⟩) 2 2,.slice none 0 0,.string ⟨#[111]⟩,.int .i64 1,.int .i64 3,.int .i64 2,.slice (some ⟨gc,0,none⟩) 1 1,.slice none 0 0,.string ⟨#[99]⟩,.int .i64 2,.int .i64 4,.int .i64 2,.slice (some ⟨gd,0,none⟩) 1 1,.slice none 0 0]
theorem F_tok4 {g ga gb gc gd:Nat}(h:W.heap[g]?=some (.cells (cells4 ga gb gc gd).toArray 70 (0,0)))(hg:ok g)(ha:One W ga 97)(oa:ok ga)(hb:W.heap[gb]?=some (.cells #[.int .i32 10,.int .i32 10,.int .i32 98,.int .i32 98] 72 (0,0)))(ob:ok gb)(hc:One W gc 99)(oc:ok gc)(hd:One W gd 100)(od:ok gd) :
 Kd.F k70 W ok (some ⟨g,0,none⟩) 4 T4:=
 lit_F h hg ((((Reps.none _ _).snoc (FK_A ha oa) rfl).snoc (FK_B hb ob) rfl).snoc (FK_O hc oc) rfl |>.snoc (FK_C hd od) rfl) rfl (by decide) (by decide)
def cells2 (gp gq:Nat):List Value:=[.string ⟨#[112]⟩,.int .i64 1,.int .i64 5,.int .i64 3,.slice none 0 0,.slice (some ⟨gp,0,none⟩) 2 2,.string ⟨#[113]⟩,.int .i64 2,.int .i64 6,.int .i64 3,.slice none 0 0,.slice (some ⟨gq,0,none⟩) 2 2]
def cellsR (g1 g2:Nat):List Value:=[.int .i64 2,.slice (some ⟨g1,0,none⟩) 1 1,.slice none 0 0,.int .i64 2,.slice (some ⟨g2,0,none⟩) 1 1,.slice none 0 0]
theorem F_seq {g g1 g2:Nat}{x y:Int}(h:W.heap[g]?=some (.cells (cellsR g1 g2).toArray 67 (0,0)))(hg:ok g)(h1:One W g1 x)(o1:ok g1)(h2:One W g2 y)(o2:ok g2):Kd.F k67 W ok (some ⟨g,0,none⟩) 2 [Zkw x,Zkw y]:=
 Zkm (c1:=[.int .i64 2,.slice (some ⟨g1,0,none⟩) 1 1,.slice none 0 0]) (c2:=[.int .i64 2,.slice (some ⟨g2,0,none⟩) 1 1,.slice none 0 0]) h hg (FK_one h1 o1) (FK_one h2 o2)
theorem F_tok2 {g gp gq gc gd ga:Nat}(h:W.heap[g]?=some (.cells (cells2 gp gq).toArray 70 (0,0)))(hg:ok g)(hp:W.heap[gp]?=some (.cells (cellsR gc gc).toArray 67 (0,0)))(op:ok gp)(hq:W.heap[gq]?=some (.cells (cellsR gd ga).toArray 67 (0,0)))(oq:ok gq)
 (hc:One W gc 99) (oc:ok gc) (hd:One W gd 100) (od:ok gd) (ha:One W ga 97) (oa:ok ga):Kd.F k70 W ok (some ⟨g,0,none⟩) 2 [tP,tQ]:=
 Zkm (c1:=[.string ⟨#[112]⟩,.int .i64 1,.int .i64 5,.int .i64 3,.slice none 0 0,.slice (some ⟨gp,0,none⟩) 2 2]) (c2:=[.string ⟨#[113]⟩,.int .i64 2,.int .i64 6,.int .i64 3,.slice none 0 0,.slice (some ⟨gq,0,none⟩) 2 2]) h hg
  (Zka W ok tP (Nat.le_refl _) (Kd.F_nil _ _ _) (Nat.le_refl _) (F_seq hp op hc oc hc oc)) (Zka W ok tQ (Nat.le_refl _) (Kd.F_nil _ _ _) (Nat.le_refl _) (F_seq hq oq hd od ha oa))
end
end Go.Proofs.YtpagbjdmiepgmaaGreatDoor.PVpa
