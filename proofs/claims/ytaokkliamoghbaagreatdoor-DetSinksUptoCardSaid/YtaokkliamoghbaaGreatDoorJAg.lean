/- Joined from texts of this seat, in their order. -/
import Derived.Test.YtaokkliamoghbaaGreatDoorJAf
import Derived.Deep.RegionLaw
import Derived.Defers
import Derived.Recover
set_option linter.unusedVariables false
set_option linter.unusedSimpArgs false
set_option linter.unusedSectionVars false
set_option maxRecDepth 100000
namespace Go.Proofs.YtaokkliamoghbaaGreatDoor.PVpa
open Go.RowKit Go.Proofs.YtaokkliamoghbaaGreatDoorW.PrintWords Go.Proofs.YtaokkliamoghbaaGreatDoorW.PrintLast Go.Proofs.YtaokkliamoghbaaGreatDoorW.PrintMore
theorem C_take {α:Type}{d:Kd α}{w:World}{A:Option Addr}{n:Nat}{xs:List α}(h:d.C w A n xs)(i:Nat)(hi:i≤n):d.C w A i (xs.take i):=by
 obtain⟨h1,h2,h3⟩:=h;refine⟨by rw[List.length_take];omega,by omega,fun h0=>?_⟩;obtain⟨ad,e,hc⟩:=h3 (by omega);refine⟨ad,e,fun j p hj=>hc j p ?_⟩;rw[List.getElem?_take]at hj
 split at hj
 ·exact hj
 ·cases hj
structure NamesOk (toks:List S70)(l:List ByteArray)(kind:Int):Prop where
 tok:∀i:Nat,i<l.length→∃k,IsTok toks (l.getD i ByteArray.empty) k∧(toks.getD k z70).f1=kind
 once:∀i:Nat,i<l.length→hasS (l.take i) (l.getD i ByteArray.empty)=false
 few:l.length≤1000
structure Crt (w:World)(gc:Nat)(At Ar:Option Addr)(ct cr:Nat)(toks:List S70)(nr:Nat)(wh:Int):Prop where
 blk:w.heap[gc]?=some (.cells #[.slice At toks.length ct,.slice Ar nr cr,.int .i64 wh] 136 (0,0))
 read:k70.C w At toks.length toks
 few:toks.length≤16
theorem Crt.below {w W:World}{gc:Nat}{At Ar:Option Addr}{ct cr:Nat}{toks:List S70}{nr:Nat}{wh:Int}(h:Crt w gc At Ar ct cr toks nr wh)(hb:Below w.heap.size w W):Crt W gc At Ar ct cr toks nr wh:=
 ⟨Zaf h.blk hb,Kd.C_below h.read hb,h.few⟩
theorem at_S {w:World}{A:Option Addr}{n:Nat}{xs:List ByteArray}(h:Kd.string.C w A n xs)(i:Nat)(hi:i<n):∃ad,A=some ad∧w.cell? (ad.add i)=some (.string (xs.getD i ByteArray.empty)):=by
 obtain⟨ad,c,e,_,hK,hc⟩:=Kd.C_get h ByteArray.empty (i:Int) (by omega) (by omega);have hK:c=[.string (xs.getD (i:Int).toNat ByteArray.empty)]:=hK;subst hK;refine⟨ad,e,?_⟩;have:=hc 0 _ rfl;rw[Int.toNat_natCast]at this;have e1:i*Kd.string.sz+0=i:=by show i*1+0=i;omega
 rw[e1]at this;exact this
set_option maxHeartbeats 2000000 in
theorem Zik (w:World)(gc:Nat)(At Ar:Option Addr)(ct cr:Nat)(toks:List S70)(nr:Nat)(wh:Int)(h:Crt w gc At Ar ct cr toks nr wh)(A:Option Addr)(c:Nat)(l:List ByteArray)(hl:Kd.string.C w A l.length l)(hc:l.length≤c)(kind:Int)(hn:NamesOk toks l kind) :
 Calls Tryz.prog 93 #[.pointer (some ⟨gc,0,none⟩),.slice A l.length c,.int .i64 kind] w fun e w'=>e=.returned (.tuple #[])∧Below w.heap.size w w':=by
 have HH:=Zrw.mk h;have HR:=Zrw.mk hl;have HC:=Zrw.mk hc;have HN:=Zrw.mk hn;clear h hl hc hn
 go_enter Tryz.func93,Tryz.ntmps93
 go_wp2
 go_loopw [11] (fun s wr=>∃i:Nat,i≤l.length∧s=.int .i64 i∧Zrw (Below w.heap.size w wr)) (fun i _=>l.length-(intOf i).toNat)
 case atStart=>exact⟨0,Nat.zero_le _,rfl,⟨Zbr⟩⟩
 case round=>
  obtain⟨i,hi,rfl,HB⟩:=hrel;by_cases hil:i<l.length
  ·obtain⟨ad,rfl,m0⟩:=at_S HR.out i hil;have m0:=Zad HB.out m0;obtain⟨k,hk,hkind⟩:=HN.out.tok i hil;have hw:=HH.out.below HB.out;have g0:wr.cell? ⟨gc,0,none⟩=some (.slice At toks.length ct):=(Zaa hw.blk 0).trans rfl;have g1:wr.cell? ⟨gc,1,none⟩=some (.slice Ar nr cr):=(Zaa hw.blk 1).trans rfl;obtain⟨s,hs⟩:∃s,s=l.getD i ByteArray.empty:=⟨_,rfl⟩
   rw[←hs]at m0 hk;have HF:=Zrw.mk (Zpn At Ar ct nr cr toks wr hw.read s k hk (by have:=hw.few;omega));have hkl:=hk.lt;obtain⟨bd,A4,c4,A5,c5,eA,_,n1,_⟩:=Zji HH.out.read (k:Int) (by omega) (by omega);subst eA;rw[Int.toNat_natCast]at n1;have en:(Zev toks (k:Int)).f1=kind:=hkind;rw[en]at n1;have HN1:=Zrw.mk n1;have HK:=Zrw.mk hk;have t0:decide ((0:Int)≤(k:Int))=true:=decide_eq_true (by omega);have HCS:Zrw (∀W,Below wr.heap.size wr W→Calls Tryz.prog 108 #[.slice (some ad) i c,.string s] W fun e w'=>e=.returned (.bool false)∧Drawn0 W w'):=⟨fun W hW=>by
    have h5:=Zir (some ad) c (l.take i) s W (by rw[List.length_take,Nat.min_eq_left hi];exact Kd.C_below (C_take HR.out i hi) (Zae HB.out hW)) (by rw[List.length_take];have:=HC.out;omega) (by rw[List.length_take];have:=HN.out.few;omega);rw[hs,HN.out.once i hil,List.length_take,Nat.min_eq_left hi]at h5;rw[hs];exact h5⟩
   clear hw hs n1 en hk hkind
   go_upto_region 4 with (go_at_call 89;(with_reducible refine HF.out.mono ?_);rintro e w1 ⟨rfl,hb⟩;have HB1:=Zrw.mk hb;clear hb)
   have hw1:=HH.out.below (Zae HB.out HB1.out);have g0:∀n,(w1.drewN n).cell? ⟨gc,0,none⟩=some (.slice (some bd) toks.length ct):=fun n=>(Zaa hw1.blk 0).trans rfl
   have n1:∀n,(w1.drewN n).cell? ⟨(bd.add (k*6)).block,(bd.add (k*6)).off+1,none⟩=some (.int .i64 kind):=fun n=>Zad (Zae HB.out HB1.out) HN1.out
   have hic:i≤c:=by have:=HC.out;omega
   clear g1 m0
   go_wp2_with (first
    | (go_at_call 108;(with_reducible refine (HCS.out _ HB1.out).mono ?_);rintro e w2 ⟨rfl,hd⟩;obtain⟨nd,rfl⟩:=hd.out;clear hd)
    | (go_at_call 72;(with_reducible refine (Zep _ _ _).mono ?_);rintro e w2 ⟨rfl,rfl⟩))
   go_roundw
   case rel=>
    have hf2:=HN.out.few;have hw:wrap64 ((i:Int)+1)=i+1:=(by unfold wrap64;omega)
    exact⟨i+1,by omega,by rw[hw];simp,⟨Zag (Zae HB.out HB1.out) _⟩⟩
   case measure=>have:=HN.out.few;have hw:wrap64 ((i:Int)+1)=i+1:=(by unfold wrap64;omega);rw[hw];simp only[intOf];omega
  ·obtain rfl:i=l.length:=by omega
   go_wp2
   go_end0
   exact⟨rfl,HB.out⟩
def SH (k:Int)(n1 n2 n3:Nat):Prop:=
 (k=1∧n1=0∧n2=0∧n3=0)∨(k=4∧n1=0∧n2=0∧n3=0)∨(k=2∧0<n1∧n2=0∧n3=0)∨(k=3∧0<n1∧0<n2∧n3=1)∨(k=5∧n1=0∧n2=0∧n3=2)∨(k=6∧n1=0∧n2=0∧n3=2)∨(k=7∧n1=0∧n2=0∧n3=1)
def partsN (k:Int):Int:=if k=1∨k=2∨k=4 then 0 else if k=3∨k=7 then 1 else 2
theorem Zrg (k:Int)(hk:k=1∨k=2∨k=3∨k=4∨k=5∨k=6∨k=7)(w:World):Calls Tryz.prog 161 #[.int .i64 k] w fun e w'=>e=.returned (.int .i64 (partsN k))∧w'=w:=by
 rcases hk with rfl | rfl | rfl | rfl | rfl | rfl | rfl
 all_goals (
  go_enter Tryz.func161,Tryz.ntmps161
  go_wp2
  go_ret
  exact⟨rfl,rfl⟩)
set_option maxHeartbeats 4000000 in
theorem Zqm (k:Int)(A1 A2 A3:Option Addr)(n1 c1 n2 c2 n3 c3:Nat)(h:SH k n1 n2 n3)(w:World):Calls Tryz.prog 145 #[.agg #[.int .i64 k,.slice A1 n1 c1,.slice A2 n2 c2,.slice A3 n3 c3]] w fun e w'=>e=.returned (.bool true)∧Below w.heap.size w w':=by
 have HB:=Zrw.mk (Zab (Below.refl _ w) (.cells #[.int .i64 k,.slice A1 n1 c1,.slice A2 n2 c2,.slice A3 n3 c3] 73));have HK:=Zrw.mk (Zaj w (.cells #[.int .i64 k,.slice A1 n1 c1,.slice A2 n2 c2,.slice A3 n3 c3] 73));have HP:=Zrw.mk (fun w=>Zrg k (by rcases h with h | h | h | h | h | h | h <;> simp[h.1]) w)
 rcases h with⟨rfl,rfl,rfl,rfl⟩ | ⟨rfl,rfl,rfl,rfl⟩ | ⟨rfl,h1,rfl,rfl⟩ | ⟨rfl,h1,h2,rfl⟩ | ⟨rfl,rfl,rfl,rfl⟩ | ⟨rfl,rfl,rfl,rfl⟩ | ⟨rfl,rfl,rfl,rfl⟩
 case' inr.inr.inl=>
  have q1:decide ((0:Int)<(n1:Int))=true:=decide_eq_true (by omega);have q1':decide (0<n1)=true:=decide_eq_true (by omega);clear h1
 case' inr.inr.inr.inl=>
  have q1:decide ((0:Int)<(n1:Int))=true:=decide_eq_true (by omega);have q1':decide (0<n1)=true:=decide_eq_true (by omega);have q2:decide ((0:Int)<(n2:Int))=true:=decide_eq_true (by omega);have q2':decide (0<n2)=true:=decide_eq_true (by omega);clear h1 h2
 all_goals (
  go_enter Tryz.func145,Tryz.ntmps145
  go_upto_region 1 with (fail)
  generalize World.alloc w _=X at *;generalize w.heap.size=g at HK ⊢;have a0:=(Zaa HK.out 0).trans rfl;have a1:=(Zaa HK.out 1).trans rfl;have a2:=(Zaa HK.out 2).trans rfl;have a3:=(Zaa HK.out 3).trans rfl
  go_upto_region 2 with (fail)
  go_quiet ((go_at_call 161;exact Calls.quiet_of ((HP.out _).mono (fun _ _ ⟨h,hd⟩=>⟨h,0,hd⟩))))
  go_wp2
  go_ret
  exact⟨rfl,Zag HB.out _⟩)
def Ziv (toks:List S70):Nat→S76→Prop
 | 0,_=>False
 | D+1,p=>SH p.f0 p.f1.length p.f2.length p.f3.length∧NamesOk toks p.f1 (if p.f0=3 then 1 else 0)∧NamesOk toks p.f2 2∧∀j:Nat,j<p.f3.length→Ziv toks D (p.f3.getD j z76)
theorem PatR.below {w W:World}{p:S76}{v:Value}(h:PatR w p v)(hb:Below w.heap.size w W):PatR W p v:=by
 obtain⟨A1,c1,A2,c2,A3,c3,rfl,l1,r1,l2,r2,l3,r3⟩:=h;exact⟨A1,c1,A2,c2,A3,c3,rfl,l1,Kd.C_below r1 hb,l2,Kd.C_below r2 hb,l3,Kd.C_below r3 hb⟩
def NodeC (toks:List S70)(D:Nat):Prop:=∀(w:World) (gc:Nat) (At Ar:Option Addr) (ct cr nr:Nat) (wh:Int) (p:S76) (v:Value),Crt w gc At Ar ct cr toks nr wh→Ziv toks D p→PatR w p v →
 Calls Tryz.prog 115 #[.pointer (some ⟨gc,0,none⟩),v] w fun e w'=>e=.returned (.tuple #[])∧Below w.heap.size w w'
set_option maxHeartbeats 4000000 in
theorem Zpb (toks:List S70):∀D,NodeC toks D
 | 0=>fun _ _ _ _ _ _ _ _ _ _ _ h=>h.elim
 | D+1=>by
  intro w gc At Ar ct cr nr wh p v hc hg hp;have ih:=Zrw.mk (Zpb toks D);obtain⟨hsh,hn1,hn2,hch⟩:=hg;obtain⟨A1,c1,A2,c2,A3,c3,rfl,l1,r1,l2,r2,l3,r3⟩:=hp;have hn3:p.f3.length≤2:=by
   unfold SH at hsh;omega
  have HN3:=Zrw.mk hn3;have HB:=Zrw.mk (Zab (Below.refl _ w) (.cells #[.int .i64 p.f0,.slice A1 p.f1.length c1,.slice A2 p.f2.length c2,.slice A3 p.f3.length c3] 73));have HK:=Zrw.mk (Zaj w (.cells #[.int .i64 p.f0,.slice A1 p.f1.length c1,.slice A2 p.f2.length c2,.slice A3 p.f3.length c3] 73));have HSH:=Zrw.mk (fun W=>Zqm p.f0 A1 A2 A3 p.f1.length c1 p.f2.length c2 p.f3.length c3 hsh W);have HC:=Zrw.mk hc;have HA1:=Zrw.mk (fun W hb=>Zik W gc At Ar ct cr toks nr wh (hc.below hb) A1 c1 p.f1 (Kd.C_below r1 hb) l1 _ hn1);have HA2:=Zrw.mk (fun W hb=>Zik W gc At Ar ct cr toks nr wh (hc.below hb) A2 c2 p.f2 (Kd.C_below r2 hb) l2 _ hn2);have HCH:=Zrw.mk hch;have HR3:=Zrw.mk r3;clear hc hsh hn1 hn2 hch r1 r2 r3 l1 l2 l3 hn3
  go_enter Tryz.func115,Tryz.ntmps115
  go_upto_region 2 with (first
   | (go_at_call 145;(with_reducible refine (HSH.out _).mono ?_);rintro e w1 ⟨rfl,hb⟩;have HB1:=Zrw.mk (Zae HB.out hb);have k1:=Zaf HK.out hb;have b0:=(Zaa k1 0).trans rfl;have b1:=(Zaa k1 1).trans rfl;have b2:=(Zaa k1 2).trans rfl;have b3:=(Zaa k1 3).trans rfl;have HK1:=Zrw.mk k1;clear hb k1)
   | (go_at_call 72;(with_reducible refine (Zep _ _ _).mono ?_);rintro e w2 ⟨rfl,rfl⟩))
  have HX:Zrw (∃kd:Int,kd=if p.f0=3 then 1 else 0):=⟨_,rfl⟩
  by_cases hk:p.f0=3
  case' pos=>
   rw[if_pos hk]at HA1;rw[hk]at b0
  case' neg=>
   rw[if_neg hk]at HA1;have q3:(p.f0==3)=false:=by simpa using hk
  all_goals (
   clear hk HX
   go_upto_region 7 with (first
    | (go_at_call 93;(with_reducible refine (HA1.out _ HB1.out).mono ?_);rintro e w3 ⟨rfl,hb⟩;have HB3:=Zrw.mk (Zae HB1.out hb);have k3:=Zaf HK1.out hb;have d2:=(Zaa k3 2).trans rfl;have HK3:=Zrw.mk k3;clear hb k3)
    | (go_at_call 93;(with_reducible refine (HA2.out _ HB3.out).mono ?_);rintro e w4 ⟨rfl,hb⟩;have HB4:=Zrw.mk (Zae HB3.out hb);have k4:=Zaf HK3.out hb;have e3:=(Zaa k4 3).trans rfl;clear hb k4))
   go_wp2
   go_loopw [26] (fun s wr=>∃i:Nat,i≤p.f3.length∧s=.int .i64 i∧Zrw (Below w.heap.size w wr)) (fun i _=>p.f3.length-(intOf i).toNat)
   case atStart=>exact⟨0,Nat.zero_le _,rfl,HB4⟩
   case round=>
    obtain⟨i,hi,rfl,HBR⟩:=hrel;by_cases hil:i<p.f3.length
    ·obtain⟨r,hr1,hr2⟩:=patR_at HR3.out HBR.out i hil;obtain⟨ad,v0,v1,v2,v3,rfl,rfl,m0,m1,m2,m3⟩:=hr1;obtain⟨x,hx⟩:∃x,x=p.f3.getD i z76:=⟨_,rfl⟩
     rw[←hx]at hr2;have HGX:Zrw (Ziv toks D x):=⟨by rw[hx];exact HCH.out i hil⟩
     clear hx;have HR2:=Zrw.mk hr2;obtain⟨B1,d1,B2,d2,B3,d3,hv,_⟩:=hr2;injection hv with hv
     have hv0:=congrArg (fun a:Array Value=>a[0]?) hv;have hv1:=congrArg (fun a:Array Value=>a[1]?) hv;have hv2:=congrArg (fun a:Array Value=>a[2]?) hv;have hv3:=congrArg (fun a:Array Value=>a[3]?) hv;simp at hv0 hv1 hv2 hv3;subst hv0;subst hv1;subst hv2;subst hv3;clear hv;have HIH:=Zrw.mk (fun W hb=>ih.out W gc At Ar ct cr nr wh x _ (HC.out.below hb) HGX.out (HR2.out.below hb));have HBA:=Zrw.mk (fun o=>Zae HBR.out (Zab (Below.refl _ wr) o));clear HR2
     go_wp2_with (go_at_call 115;(with_reducible refine (HIH.out _ (HBA.out _)).mono ?_);rintro e w5 ⟨rfl,hb⟩;have HB5:=Zrw.mk (Zae (HBA.out _) hb);clear hb)
     go_roundw
     case rel=>
      have hf2:=HN3.out;have hw:wrap64 ((i:Int)+1)=i+1:=(by unfold wrap64;omega)
      exact⟨i+1,by omega,by rw[hw];simp,HB5⟩
     case measure=>have:=HN3.out;have hw:wrap64 ((i:Int)+1)=i+1:=(by unfold wrap64;omega);rw[hw];simp only[intOf];omega
    ·obtain rfl:i=p.f3.length:=by omega
     go_wp2
     go_end0
     exact⟨rfl,HBR.out⟩)
theorem Znu (w:World)(gc:Nat)(At Ar:Option Addr)(ct cr:Nat)(toks:List S70)(nr:Nat)(wh:Int)(p:S76)(v:Value)(D N D2:Nat)(hc:Crt w gc At Ar ct cr toks nr wh)(hg:Ziv toks D p)(hf:Fit D2 p N)(hN:N≤60)(hD:D2≤12)(hp:PatR w p v) :
 Calls Tryz.prog 94 #[.pointer (some ⟨gc,0,none⟩),v] w fun e w'=>e=.returned (.tuple #[])∧Below w.heap.size w w':=by
 have HP:=Zrw.mk hp;obtain⟨A1,c1,A2,c2,A3,c3,rfl,_⟩:=hp;have HB:=Zrw.mk (Zab (Below.refl _ w) (.cells #[.int .i64 p.f0,.slice A1 p.f1.length c1,.slice A2 p.f2.length c2,.slice A3 p.f3.length c3] 73));have HK:=Zrw.mk (Zaj w (.cells #[.int .i64 p.f0,.slice A1 p.f1.length c1,.slice A2 p.f2.length c2,.slice A3 p.f3.length c3] 73));have HF:=Zrw.mk (few_call _ p _ D2 N hf (HP.out.below HB.out) hN hD);have HC:=Zrw.mk hc;have HNC:=Zrw.mk (fun W hb=>Zpb toks D W gc At Ar ct cr nr wh p _ (hc.below hb) hg (HP.out.below hb));clear hc hg hf
 go_enter Tryz.func94,Tryz.ntmps94
 go_wp2_with (first
  | (go_at_call 114;(with_reducible refine HF.out.mono ?_);rintro e w1 ⟨rfl,hb⟩;have HB1:=Zrw.mk (Zae HB.out hb);have k1:=Zaf HK.out hb;have b0:=(Zaa k1 0).trans rfl;have b1:=(Zaa k1 1).trans rfl;have b2:=(Zaa k1 2).trans rfl;have b3:=(Zaa k1 3).trans rfl;clear hb k1)
  | (go_at_call 72;(with_reducible refine (Zep _ _ _).mono ?_);rintro e w2 ⟨rfl,rfl⟩)
  | (go_at_call 115;(with_reducible refine (HNC.out _ HB1.out).mono ?_);rintro e w3 ⟨rfl,hb⟩;have HB3:=Zrw.mk (Zae HB1.out hb);clear hb))
 go_end0
 exact⟨rfl,HB3.out⟩
structure Zod (toks:List S70)(i:Nat):Prop where
 one:Let1 (toks.getD i z70).f0
 tok:IsTok toks (toks.getD i z70).f0 i
 kind:(toks.getD i z70).f1=0∨(toks.getD i z70).f1=1∨(toks.getD i z70).f1=2
 cls:0≤(toks.getD i z70).f2∧(toks.getD i z70).f2≤31
 re:ReOk (toks.getD i z70).f3
set_option maxHeartbeats 4000000 in
theorem token_call (w:World)(gc:Nat)(At Ar:Option Addr)(ct cr:Nat)(toks:List S70)(nr:Nat)(wh:Int)(hc:Crt w gc At Ar ct cr toks nr wh)(ho:Own w)(i:Nat)(h:Zod toks i) :
 Calls Tryz.prog 73 #[.pointer (some ⟨gc,0,none⟩),.int .i64 i] w fun e w'=>e=.returned (.tuple #[])∧Below w.heap.size w w':=by
 have hi:=h.tok.lt;obtain⟨ad,A4,c4,A5,c5,rfl,m0,m1,m2,m3,m4,m5,l4,r4,l5,r5⟩:=Zji hc.read (i:Int) (by omega) (by omega);rw[Int.toNat_natCast]at m0 m1 m2 m3 m4 m5;have g0:w.cell? ⟨gc,0,none⟩=some (.slice (some ad) toks.length ct):=(Zaa hc.blk 0).trans rfl;change w.cell? _=some (.string (toks.getD i z70).f0)at m0;change w.cell? _=some (.int .i64 (toks.getD i z70).f1)at m1;change w.cell? _=some (.int .i64 (toks.getD i z70).f2)at m2;change w.cell? _=some (.int .i64 (toks.getD i z70).f3.f0)at m3;change w.cell? _=some (.slice A4 (toks.getD i z70).f3.f1.length c4)at m4;change w.cell? _=some (.slice A5 (toks.getD i z70).f3.f2.length c5)at m5;change (toks.getD i z70).f3.f1.length≤c4 at l4;change (toks.getD i z70).f3.f2.length≤c5 at l5;change k72.C w A4 (toks.getD i z70).f3.f1.length (toks.getD i z70).f3.f1 at r4;change k67.C w A5 (toks.getD i z70).f3.f2.length (toks.getD i z70).f3.f2 at r5;obtain⟨h1,h2,h3,h4,h5⟩:=h;obtain⟨t,ht⟩:∃t,t=toks.getD i z70:=⟨_,rfl⟩
 rw[←ht]at m0 m1 m2 m3 m4 m5 l4 l5 r4 r5 h1 h2 h3 h4 h5;have HRE:Zrw (ReR w t.f3 (.agg #[.int .i64 t.f3.f0,.slice A4 t.f3.f1.length c4,.slice A5 t.f3.f2.length c5])):=⟨A4,c4,A5,c5,rfl,l4,r4,l5,r5⟩
 have HN:=Zrw.mk (fun W hb=>name_call t.f0 h1 W (ho.below hb));have HC:=Zrw.mk hc;have HF:=Zrw.mk (fun W hb=>Zpn (some ad) Ar ct nr cr toks W (Kd.C_below hc.read hb) t.f0 i h2 (by have:=hc.few;omega));have HCL:=Zrw.mk (fun W=>class_ok (.pointer (some ⟨gc,0,none⟩)) t.f2 h4.1 h4.2 W);have HM:=Zrw.mk (fun W hb=>Zhk W t.f3 _ h5 (HRE.out.below hb));have HE:=Zrw.mk (fun W hb=>Zkh W t.f3 _ h5 (HRE.out.below hb));have HKD:=Zrw.mk h3;have HB:=Zrw.mk (Zab (Below.refl _ w) (.cells #[.string t.f0,.int .i64 t.f1,.int .i64 t.f2,.int .i64 t.f3.f0,.slice A4 t.f3.f1.length c4,.slice A5 t.f3.f2.length c5] 64));have HK:=Zrw.mk (Zaj w (.cells #[.string t.f0,.int .i64 t.f1,.int .i64 t.f2,.int .i64 t.f3.f0,.slice A4 t.f3.f1.length c4,.slice A5 t.f3.f2.length c5] 64));clear h1 h2 h3 h4 h5 hc ho l4 l5 r4 r5 ht
 go_enter Tryz.func73,Tryz.ntmps73
 go_upto_region 1 with (fail)
 generalize w.alloc (.cells #[.string t.f0,.int .i64 t.f1,.int .i64 t.f2,.int .i64 t.f3.f0,.slice A4 t.f3.f1.length c4,.slice A5 t.f3.f2.length c5] 64)=X at *;obtain⟨gt,hgt⟩:∃gt,gt=w.heap.size:=⟨_,rfl⟩
 rw[←hgt]at HK ⊢;have a0:X.cell? ⟨gt,0,none⟩=some (.string t.f0):=(Zaa HK.out 0).trans rfl;clear m0 m1 m2 m3 m4 m5 g0 hgt;refine Zcw ?_
 go_region_law (first
  | (go_simp;go_at_call 88;(with_reducible refine (HN.out _ (Zag HB.out 1)).mono ?_);rintro e w1 ⟨rfl,hb⟩;have HB1:=Zrw.mk (Zae (Zag HB.out 1) hb);have HK1:=Zrw.mk (Zaf HK.out (Zae (Zag (Below.refl _ X) 1) hb));have b0:=(Zaa HK1.out 0).trans rfl;have hcc:=HC.out.below HB1.out;have g0:=(Zaa hcc.blk 0).trans rfl;have g1:=(Zaa hcc.blk 1).trans rfl;clear hb hcc)
  | (go_simp;go_at_call 89;(with_reducible refine (HF.out _ HB1.out).mono ?_);rintro e w2 ⟨rfl,hb⟩;have HB2:=Zrw.mk (Zae HB1.out hb);have HK2:=Zrw.mk (Zaf HK1.out hb);clear hb)
  | (go_simp;go_at_call 72;(with_reducible refine (Zep _ _ _).mono ?_);rintro e w3 ⟨rfl,rfl⟩)
  | fail)
 all_goals (
  clear b0 g0 g1 a0;have c1:=(Zaa HK2.out 1).trans rfl;have c2:=(Zaa HK2.out 2).trans rfl;have c3:=(Zaa HK2.out 3).trans rfl;have c4:=(Zaa HK2.out 4).trans rfl;have c5:=(Zaa HK2.out 5).trans rfl
  rcases HKD.out with hk | hk | hk
  all_goals (
   rw[hk]at c1;clear hk
   go_wp2_with (first
    | (go_at_call 90;(with_reducible refine (HCL.out _).mono ?_);rintro e w4 ⟨rfl,rfl⟩)
    | (go_at_call 91;(with_reducible refine (HM.out _ HB2.out).mono ?_);rintro e w5 ⟨rfl,hb⟩;have HB5:=Zrw.mk (Zae HB2.out hb);have k5:=Zaf HK2.out hb;have d3:=(Zaa k5 3).trans rfl;have d4:=(Zaa k5 4).trans rfl;have d5:=(Zaa k5 5).trans rfl;clear hb k5)
    | (go_at_call 92;(with_reducible refine (HE.out _ HB5.out).mono ?_);rintro e w6 ⟨rfl,hb⟩;have HB6:=Zrw.mk (Zae HB5.out hb);clear hb)
    | (go_at_call 72;(with_reducible refine (Zep _ _ _).mono ?_);rintro e w7 ⟨rfl,rfl⟩))
   go_end0
   exact⟨rfl,HB6.out⟩))
structure StepGood (toks:List S70)(need:Bool)(s:S79):Prop where
 calls:decide (0<s.f0.length)=need
 names:NamesOk toks s.f0 1
 pat:∃D N D2,Ziv toks D s.f1∧Fit D2 s.f1 N∧N≤60∧D2≤12
structure Zoe (toks:List S70)(r:S52):Prop where
 cls:0≤r.f0∧r.f0≤31
 one:1≤r.f2.length
 few:r.f2.length≤4
 steps:∀i:Nat,i<r.f2.length→StepGood toks (decide (0<i)||r.f1) (r.f2.getD i z79)
def RuleR (w:World)(r:S52)(v:Value):Prop:=∃A c,v=.agg #[.int .i64 r.f0,.bool r.f1,.slice A r.f2.length c]∧r.f2.length≤c∧k79.C w A r.f2.length r.f2
set_option maxHeartbeats 4000000 in
theorem crule_call (w:World)(gc:Nat)(At Ar:Option Addr)(ct cr:Nat)(toks:List S70)(nr:Nat)(wh:Int)(hc:Crt w gc At Ar ct cr toks nr wh)(r:S52)(v:Value)(h:Zoe toks r)(hr:RuleR w r v) :
 Calls Tryz.prog 74 #[.pointer (some ⟨gc,0,none⟩),v] w fun e w'=>e=.returned (.tuple #[])∧Below w.heap.size w w':=by
 obtain⟨A,c,rfl,lc,rc⟩:=hr;have HCL:=Zrw.mk (fun W=>class_ok (.pointer (some ⟨gc,0,none⟩)) r.f0 h.cls.1 h.cls.2 W);have HC:=Zrw.mk hc;have HS:=Zrw.mk h.steps;have HR:=Zrw.mk rc;have HF:=Zrw.mk h.few;have HB:=Zrw.mk (Zab (Below.refl _ w) (.cells #[.int .i64 r.f0,.bool r.f1,.slice A r.f2.length c] 70));have HK:=Zrw.mk (Zaj w (.cells #[.int .i64 r.f0,.bool r.f1,.slice A r.f2.length c] 70));have t1:decide ((1:Int)≤(r.f2.length:Int))=true:=decide_eq_true (by have:=h.one;omega);have t2:decide ((r.f2.length:Int)≤4)=true:=decide_eq_true (by have:=h.few;omega);clear hc h lc rc
 go_enter Tryz.func74,Tryz.ntmps74
 go_wp2_with (first
  | (go_at_call 90;(with_reducible refine (HCL.out _).mono ?_);rintro e w4 ⟨rfl,rfl⟩)
  | (go_at_call 72;(with_reducible refine (Zep _ _ _).mono ?_);rintro e w7 ⟨rfl,rfl⟩))
 go_loopw [25] (fun s wr=>∃i:Nat,i≤r.f2.length∧s=.int .i64 i∧Zrw (Below w.heap.size w wr)∧Zrw (wr.heap[w.heap.size]?=some (.cells #[.int .i64 r.f0,.bool r.f1,.slice A r.f2.length c] 70 (0,0)))) (fun i _=>r.f2.length-(intOf i).toNat)
 case atStart=>exact⟨0,Nat.zero_le _,rfl,HB,HK⟩
 case round=>
  obtain⟨i,hi,rfl,HBR,HKR⟩:=hrel;by_cases hil:i<r.f2.length
  ·obtain⟨td,T0,t0,T2,t2,T3,t3,T4,t4,rfl,z0,z1,z2,z3,z4,hl0,hf0,hl2,hf2,hl3,hf3,hl4,hf4⟩:=at_T79 HR.out (i:Int) (by omega) (by omega);rw[Int.toNat_natCast]at z0 z1 z2 z3 z4;have z0:=Zad HBR.out z0;have z1:=Zad HBR.out z1;have z2:=Zad HBR.out z2;have z3:=Zad HBR.out z3;have z4:=Zad HBR.out z4;have hs:=HS.out i hil;obtain⟨s,hse⟩:∃s,s=Zct r.f2 (i:Int):=⟨_,rfl⟩
   have hse2:s=r.f2.getD i z79:=hse;rw[←hse]at z0 z1 z2 z3 z4 hl0 hf0 hl2 hf2 hl3 hf3 hl4 hf4;rw[←hse2]at hs;clear hse hse2;obtain⟨D,N,D2,p1,p2,p3,p4⟩:=hs.pat;have HP:Zrw (PatR w s.f1 (.agg #[.int .i64 s.f1.f0,.slice T2 s.f1.f1.length t2,.slice T3 s.f1.f2.length t3,.slice T4 s.f1.f3.length t4])):=⟨T2,t2,T3,t3,T4,t4,rfl,hl2,hf2,hl3,hf3,hl4,hf4⟩
   have HN:=Zrw.mk (fun W hb=>Zik W gc At Ar ct cr toks nr wh (HC.out.below hb) T0 t0 s.f0 (Kd.C_below hf0 hb) hl0 1 hs.names);have HPT:=Zrw.mk (fun W hb=>Znu W gc At Ar ct cr toks nr wh s.f1 _ D N D2 (HC.out.below hb) p1 p2 p3 p4 (HP.out.below hb));have hcl:=hs.calls;have HBA:=Zrw.mk (fun o=>Zae HBR.out (Zab (Below.refl _ wr) o));have HKA:=Zrw.mk (fun o=>Zai HKR.out o);have HNA:=Zrw.mk (fun o=>Zaj wr o);have hgw:=Zau HKR.out;clear hs hl0 hf0 hl2 hf2 hl3 hf3 hl4 hf4 p1 p2 p3 p4
   go_upto_region 6 with (fail)
   have HBX:=Zrw.mk (HBA.out (.cells #[.slice T0 s.f0.length t0,.int .i64 s.f1.f0,.slice T2 s.f1.f1.length t2,.slice T3 s.f1.f2.length t3,.slice T4 s.f1.f3.length t4] 76));have HKX:=Zrw.mk (HKA.out (.cells #[.slice T0 s.f0.length t0,.int .i64 s.f1.f0,.slice T2 s.f1.f1.length t2,.slice T3 s.f1.f2.length t3,.slice T4 s.f1.f3.length t4] 76));have HSX:=Zrw.mk (HNA.out (.cells #[.slice T0 s.f0.length t0,.int .i64 s.f1.f0,.slice T2 s.f1.f1.length t2,.slice T3 s.f1.f2.length t3,.slice T4 s.f1.f3.length t4] 76));generalize wr.alloc (.cells #[.slice T0 s.f0.length t0,.int .i64 s.f1.f0,.slice T2 s.f1.f1.length t2,.slice T3 s.f1.f2.length t3,.slice T4 s.f1.f3.length t4] 76)=X at *;generalize wr.heap.size=gs at *;have x0:X.cell? ⟨gs,0,none⟩=some (.slice T0 s.f0.length t0):=(Zaa HSX.out 0).trans rfl;have x1:X.cell? ⟨gs,1,none⟩=some (.int .i64 s.f1.f0):=(Zaa HSX.out 1).trans rfl;have x2:X.cell? ⟨gs,2,none⟩=some (.slice T2 s.f1.f1.length t2):=(Zaa HSX.out 2).trans rfl;have x3:X.cell? ⟨gs,3,none⟩=some (.slice T3 s.f1.f2.length t3):=(Zaa HSX.out 3).trans rfl;have x4:X.cell? ⟨gs,4,none⟩=some (.slice T4 s.f1.f3.length t4):=(Zaa HSX.out 4).trans rfl;have y1:X.cell? ⟨w.heap.size,1,none⟩=some (.bool r.f1):=(Zaa HKX.out 1).trans rfl;have hcl2:decide ((0:Int)<(s.f0.length:Int))=(decide (0<i)||r.f1):=by rw[←hcl];simp
   have q0:decide ((0:Int)<(i:Int))=decide (0<i):=by simp
   clear z0 z1 z2 z3 z4 hgw;obtain⟨b,hbb⟩:∃b,b=decide (0<i):=⟨_,rfl⟩
   obtain⟨fr,hfr⟩:∃fr,fr=r.f1:=⟨_,rfl⟩
   rw[←hbb,←hfr]at hcl hcl2;rw[←hbb]at q0;rw[←hfr]at y1;have hb2:=hbb.symm;clear hbb hfr;cases b
   all_goals cases fr
   all_goals (
    simp only[Bool.false_or,Bool.true_or,Bool.or_false,Bool.or_true]at hcl2 hcl
    go_upto_region 7 with (first | (go_at_call 72;(with_reducible refine (Zep _ _ _).mono ?_);rintro e w7 ⟨rfl,rfl⟩))
    clear hcl2 hcl q0 hb2 x1 y1
    go_wp2_with (first
     | (go_at_call 93;(with_reducible refine (HN.out _ HBX.out).mono ?_);rintro e w8 ⟨rfl,hb⟩;have HB8:=Zrw.mk (Zae HBX.out hb);have k8:=Zaf HSX.out hb;have HK8:=Zrw.mk (Zaf HKX.out hb);have v1:=(Zaa k8 1).trans rfl;have v2:=(Zaa k8 2).trans rfl;have v3:=(Zaa k8 3).trans rfl;have v4:=(Zaa k8 4).trans rfl;clear hb k8)
     | (go_at_call 94;(with_reducible refine (HPT.out _ HB8.out).mono ?_);rintro e w9 ⟨rfl,hb⟩;have HB9:=Zrw.mk (Zae HB8.out hb);have HK9:=Zrw.mk (Zaf HK8.out hb);clear hb))
    go_roundw
    case rel=>
     have hf2:=HF.out;have hw:wrap64 ((i:Int)+1)=i+1:=(by unfold wrap64;omega)
     exact⟨i+1,by omega,by rw[hw];simp,HB9,HK9⟩
    case measure=>have:=HF.out;have hw:wrap64 ((i:Int)+1)=i+1:=(by unfold wrap64;omega);rw[hw];simp only[intOf];omega)
  ·obtain rfl:i=r.f2.length:=by omega
   go_wp2
   go_end0
   exact⟨rfl,HBR.out⟩
structure Zmu (G:S26):Prop where
 one:1≤G.f0.length
 few:G.f0.length≤16
 toks:∀i:Nat,i<G.f0.length→Zod G.f0 i
 rfew:G.f1.length≤8
 rules:∀i:Nat,i<G.f1.length→Zoe G.f0 (G.f1.getD i z52)
structure GramR (w:World)(G:S26)(At Ar:Option Addr)(ct cr:Nat):Prop where
 lt:G.f0.length≤ct
 toks:k70.C w At G.f0.length G.f0
 lr:G.f1.length≤cr
 rules:k52.C w Ar G.f1.length G.f1
theorem GramR.below {w W:World}{G:S26}{At Ar:Option Addr}{ct cr:Nat}(h:GramR w G At Ar ct cr)(hb:Below w.heap.size w W):GramR W G At Ar ct cr:=⟨h.lt,Kd.C_below h.toks hb,h.lr,Kd.C_below h.rules hb⟩
set_option maxHeartbeats 4000000 in
theorem work_call (w:World)(G:S26)(At Ar:Option Addr)(ct cr:Nat)(hr:GramR w G At Ar ct cr)(hg:Zmu G)(ho:Own w)(gg:Nat)(hgg:w.heap[gg]?=some (.cells #[.slice At G.f0.length ct,.slice Ar G.f1.length cr] 26 (0,0))) :
 Calls Tryz.prog 71 #[.pointer (some ⟨gg,0,none⟩)] w fun e w'=>e=.returned (.tuple #[])∧Below w.heap.size w w':=by
 have HR:=Zrw.mk hr;have HG:=Zrw.mk hg;have HO:=Zrw.mk ho;have HGG:=Zrw.mk hgg;have q0:w.cell? ⟨gg,0,none⟩=some (.slice At G.f0.length ct):=(Zaa hgg 0).trans rfl;have q1:w.cell? ⟨gg,1,none⟩=some (.slice Ar G.f1.length cr):=(Zaa hgg 1).trans rfl;have q2:∀o,(w.alloc o).cell? ⟨gg,0,none⟩=some (.slice At G.f0.length ct):=fun o=>(Zaa (Zai hgg o) 0).trans rfl
 have t1:decide ((1:Int)≤(G.f0.length:Int))=true:=decide_eq_true (by have:=hg.one;omega);have t2:decide ((G.f0.length:Int)≤16)=true:=decide_eq_true (by have:=hg.few;omega);have HBC:=Zrw.mk (Zab (Below.refl _ w) (.cells #[.slice At G.f0.length ct,.slice Ar G.f1.length cr,.int .i64 0] 136));have HKC:=Zrw.mk (Zaj w (.cells #[.slice At G.f0.length ct,.slice Ar G.f1.length cr,.int .i64 0] 136));clear hr hg ho hgg
 go_enter Tryz.func71,Tryz.ntmps71
 go_wp2_with (go_at_call 72;(with_reducible refine (Zep _ _ _).mono ?_);rintro e w7 ⟨rfl,rfl⟩)
 obtain⟨gc,hgc⟩:∃gc,gc=w.heap.size:=⟨_,rfl⟩
 have HGC:Zrw (w.heap.size≤gc):=⟨by omega⟩
 rw[←hgc]at HKC ⊢;clear hgc q0 q1 q2 t1 t2;generalize w.alloc (.cells #[.slice At G.f0.length ct,.slice Ar G.f1.length cr,.int .i64 0] 136)=X at *
 go_loopw [23] (fun s wr=>∃(i:Nat) (wh:Int),i≤G.f0.length∧s=.int .i64 i∧Zrw (Below w.heap.size w wr)∧Zrw (wr.heap[gc]?=some (.cells #[.slice At G.f0.length ct,.slice Ar G.f1.length cr,.int .i64 wh] 136 (0,0)))) (fun i _=>G.f0.length-(intOf i).toNat)
 case atStart=>exact⟨0,0,Nat.zero_le _,rfl,HBC,HKC⟩
 case round=>
  obtain⟨i,wh,hi,rfl,HB,HK⟩:=hrel;by_cases hil:i<G.f0.length
  ·have d2:wr.cell? ⟨gc,2,none⟩=some (.int .i64 wh):=(Zaa HK.out 2).trans rfl;have d3:wr.frozen? ⟨gc,2,none⟩=false:=Zam HK.out 2;have HBS:=Zrw.mk (Zcp (j:=2) (v:=.int .i64 i) HB.out HGC.out);have HKS:=Zrw.mk (Zce HK.out 2 (.int .i64 i) rfl);have HC:Zrw (Crt (wr.setCell ⟨gc,2,none⟩ (.int .i64 i)) gc At Ar ct cr G.f0 G.f1.length i):=⟨HKS.out,Kd.C_below HR.out.toks HBS.out,HG.out.few⟩
   have HT:=Zrw.mk (token_call _ gc At Ar ct cr G.f0 G.f1.length i HC.out (HO.out.below HBS.out) i (HG.out.toks i hil))
   go_wp2_with (go_at_call 73;(with_reducible refine HT.out.mono ?_);rintro e w8 ⟨rfl,hb⟩;have HB8:=Zrw.mk (Zae HBS.out hb);have HK8:=Zrw.mk (Zaf HKS.out hb);clear hb)
   go_roundw
   case rel=>
    have hf2:=HG.out.few;have hw:wrap64 ((i:Int)+1)=i+1:=(by unfold wrap64;omega)
    exact⟨i+1,_,by omega,by rw[hw];simp,HB8,HK8⟩
   case measure=>have:=HG.out.few;have hw:wrap64 ((i:Int)+1)=i+1:=(by unfold wrap64;omega);rw[hw];simp only[intOf];omega
  ·obtain rfl:i=G.f0.length:=by omega
   have e0:wr.cell? ⟨gg,0,none⟩=some (.slice At G.f0.length ct):=(Zaa (Zaf HGG.out HB.out) 0).trans rfl;have e1:wr.cell? ⟨gg,1,none⟩=some (.slice Ar G.f1.length cr):=(Zaa (Zaf HGG.out HB.out) 1).trans rfl;have d2:wr.cell? ⟨gc,2,none⟩=some (.int .i64 wh):=(Zaa HK.out 2).trans rfl;have d3:wr.frozen? ⟨gc,2,none⟩=false:=Zam HK.out 2;have HBS:=Zrw.mk (Zcp (j:=2) (v:=.int .i64 (G.f0.length:Nat)) HB.out HGC.out);have HKS:=Zrw.mk (Zce HK.out 2 (.int .i64 (G.f0.length:Nat)) rfl)
   go_upto_region 9 with (fail)
   generalize wr.setCell ⟨gc,2,none⟩ (.int .i64 (G.f0.length:Nat))=Y at *;have e0:Y.cell? ⟨gg,0,none⟩=some (.slice At G.f0.length ct):=(Zaa (Zaf HGG.out HBS.out) 0).trans rfl;have e1:Y.cell? ⟨gg,1,none⟩=some (.slice Ar G.f1.length cr):=(Zaa (Zaf HGG.out HBS.out) 1).trans rfl;have t3:decide ((G.f1.length:Int)≤8)=true:=decide_eq_true (by have:=HG.out.rfew;omega);clear d2 d3
   go_wp2_with (go_at_call 72;(with_reducible refine (Zep _ _ _).mono ?_);rintro e w7 ⟨rfl,rfl⟩)
   clear t3
   go_loopw [49] (fun s wr=>∃(i:Nat) (wh:Int),i≤G.f1.length∧s=.int .i64 i∧Zrw (Below w.heap.size w wr)∧Zrw (wr.heap[gc]?=some (.cells #[.slice At G.f0.length ct,.slice Ar G.f1.length cr,.int .i64 wh] 136 (0,0)))) (fun i _=>G.f1.length-(intOf i).toNat)
   case atStart=>exact⟨0,_,Nat.zero_le _,rfl,HBS,HKS⟩
   case round=>
    clear HB HK HBS HKS e0 e1;obtain⟨i,wh2,hi,rfl,HB,HK⟩:=hrel;by_cases hil:i<G.f1.length
    ·obtain⟨ad,S2,sc,rfl,m0,m1,m2,ls2,hs2⟩:=at_T52 HR.out.rules (i:Int) (by omega) (by omega);have m0:=Zad HB.out m0;have m1:=Zad HB.out m1;have m2:=Zad HB.out m2;rw[Int.toNat_natCast]at m0 m1 m2;change wr.cell? (ad.add (i*3))=some (.int .i64 (G.f1.getD i z52).f0)at m0;change wr.cell? ⟨_,_,none⟩=some (.bool (G.f1.getD i z52).f1)at m1;change wr.cell? ⟨_,_,none⟩=some (.slice S2 (G.f1.getD i z52).f2.length sc)at m2;change (G.f1.getD i z52).f2.length≤sc at ls2;change k79.C w S2 (G.f1.getD i z52).f2.length (G.f1.getD i z52).f2 at hs2;have hgood:=HG.out.rules i hil;obtain⟨r,hre⟩:∃r,r=G.f1.getD i z52:=⟨_,rfl⟩
     rw[←hre]at m0 m1 m2 ls2 hs2 hgood;clear hre;have HRC:=Zrw.mk (fun W (hb:Below w.heap.size w W)=>(⟨S2,sc,rfl,ls2,Kd.C_below hs2 hb⟩:RuleR W r (.agg #[.int .i64 r.f0,.bool r.f1,.slice S2 r.f2.length sc])));have HGD:=Zrw.mk hgood;have g0:∀o,(wr.alloc o).cell? ⟨gg,0,none⟩=some (.slice At G.f0.length ct):=fun o=>(Zaa (Zai (Zaf HGG.out HB.out) o) 0).trans rfl
     have d2:∀o,(wr.alloc o).cell? ⟨gc,2,none⟩=some (.int .i64 wh2):=fun o=>(Zaa (Zai HK.out o) 2).trans rfl
     have d3:∀o,(wr.alloc o).frozen? ⟨gc,2,none⟩=false:=fun o=>Zam (Zai HK.out o) 2
     have hw2:wrap64 ((G.f0.length:Int)+(i:Int))=(G.f0.length:Int)+(i:Int):=by have:=HG.out.few;have:=HG.out.rfew;unfold wrap64;omega
     have hgcl:=Zau HK.out;have HBA:=Zrw.mk (Zae HB.out (Zab (Below.refl _ wr) (.cells #[.int .i64 r.f0,.bool r.f1,.slice S2 r.f2.length sc] 70)));have HKA:=Zrw.mk (Zai HK.out (.cells #[.int .i64 r.f0,.bool r.f1,.slice S2 r.f2.length sc] 70));have HNA:=Zrw.mk (Zaj wr (.cells #[.int .i64 r.f0,.bool r.f1,.slice S2 r.f2.length sc] 70));have HLG:Zrw (wr.heap.size≠gc):=⟨by omega⟩
     clear ls2 hs2 hgood hgcl
     go_upto_region 14 with (fail)
     have HBS:=Zrw.mk (Zcp (j:=2) (v:=.int .i64 ((G.f0.length:Int)+(i:Int))) HBA.out HGC.out);have HKS:=Zrw.mk (Zce HKA.out 2 (.int .i64 ((G.f0.length:Int)+(i:Int))) rfl);have HNS:=Zrw.mk (Zdw HNA.out (p:=⟨gc,2,none⟩) HLG.out (.int .i64 ((G.f0.length:Int)+(i:Int))));generalize (wr.alloc (.cells #[.int .i64 r.f0,.bool r.f1,.slice S2 r.f2.length sc] 70)).setCell ⟨gc,2,none⟩ (.int .i64 ((G.f0.length:Int)+(i:Int)))=Z at *;have z0:=(Zaa HNS.out 0).trans rfl;have z1:=(Zaa HNS.out 1).trans rfl;have z2:=(Zaa HNS.out 2).trans rfl;have HC:Zrw (Crt Z gc At (some ad) ct cr G.f0 G.f1.length ((G.f0.length:Int)+(i:Int))):=⟨HKS.out,Kd.C_below HR.out.toks HBS.out,HG.out.few⟩
     have HRU:=Zrw.mk (crule_call Z gc At (some ad) ct cr G.f0 G.f1.length _ HC.out r _ HGD.out (HRC.out Z HBS.out));clear m0 m1 m2 g0 d2 d3 hw2
     go_wp2_with (go_at_call 74;(with_reducible refine HRU.out.mono ?_);rintro e w8 ⟨rfl,hb⟩;have HB8:=Zrw.mk (Zae HBS.out hb);have HK8:=Zrw.mk (Zaf HKS.out hb);clear hb)
     go_roundw
     case rel=>
      have hf2:=HG.out.rfew;have hw:wrap64 ((i:Int)+1)=i+1:=(by unfold wrap64;omega)
      exact⟨i+1,_,by omega,by rw[hw];simp,HB8,HK8⟩
     case measure=>have:=HG.out.rfew;have hw:wrap64 ((i:Int)+1)=i+1:=(by unfold wrap64;omega);rw[hw];simp only[intOf];omega
    ·obtain rfl:i=G.f1.length:=by omega
     go_wp2
     go_end0
     exact⟨rfl,HB.out⟩
theorem Zpt (p:Addr)(w:World):CallsD Tryz.prog 87 #[.pointer (some p)] .returning w fun e u' w'=>e=.returned (.tuple #[])∧u'=.returning∧w'=w:=by
 refine callsD_of_wpS Tryz.func87 rfl fun c₀ cs hu=>?_
 apply wpS_seq;apply wpS_region;simp[wpOpsS,go_sem,recoverD,hu,Tryz.ntmps87,Exit.thenS];apply wpS_seq;apply wpS_region;simp[wpOpsS,go_sem,Exit.thenS];refine wpS_cond (t:=false) (by simp[Act.eval,Array.replicate]) ?_
 simp only[Bool.false_eq_true,if_false];refine wpS_of_wp (wp_skip ?_);cases c₀
 simp_all [bodyPostS,results,Tryz.results83]
theorem caught_ok (w:World)(gg:Nat)(hw:∀W,Below w.heap.size w W→Calls Tryz.prog 71 #[.pointer (some ⟨gg,0,none⟩)] W fun e w'=>e=.returned (.tuple #[])∧Below W.heap.size W w') :
 Calls Tryz.prog 70 #[.func (.func 71) #[] #[.pointer (some ⟨gg,0,none⟩)]] w fun e w'=>e=.returned (.agg #[.int .i64 0,.int .i64 0])∧Below w.heap.size w w':=by
 have hmf:∀(fn:Fn) (first cap:Array Value) (w:World),(Instr.makeFunc fn first cap).run Tryz.prog w=.ok (.func fn first cap) w:=fun _ _ _ _=>rfl
 have eg:∀args w,(callFunc 71 args).run Tryz.prog w=.ok (.enter 71 args) w:=enters_of Tryz.func71 (by kernel_rfl) rfl;have HB:=Zrw.mk (Zab (Below.refl _ w) (.cells #[.int .i64 0,.int .i64 0] 132));have HK:=Zrw.mk (Zaj w (.cells #[.int .i64 0,.int .i64 0] 132));have HW:=Zrw.mk (hw _ HB.out);clear hw
 go_enter_defers Tryz.func70,Tryz.ntmps70
 go_wp2_with (go_at_fn 71;(with_reducible refine HW.out.mono ?_);rintro e w1 ⟨rfl,hb⟩;have HB1:=Zrw.mk (Zae HB.out hb);have HK1:=Zrw.mk (Zaf HK.out hb);have b0:=(Zaa HK1.out 0).trans rfl;have b1:=(Zaa HK1.out 1).trans rfl;have f0:=Zam HK1.out 0;have f1:=Zam HK1.out 1;clear hb)
 refine leaves_cons (f:=87) (args:=#[.pointer (some ⟨w.heap.size,0,none⟩)]) (by simp) (by simp[go_sem]) ?_
 refine (Zpt ⟨w.heap.size,0,none⟩ _).mono ?_
 rintro e u' w'' ⟨rfl,rfl,rfl⟩;have HBY:=Zcp (j:=1) (v:=.int .i64 0) (Zcp (j:=0) (v:=.int .i64 0) HB1.out (Nat.le_refl _)) (Nat.le_refl _);have kY:=Zce (Zce HK1.out 0 (.int .i64 0) rfl) 1 (.int .i64 0) rfl;generalize (w1.setCell ⟨w.heap.size,0,none⟩ (.int .i64 0)).setCell ⟨w.heap.size,1,none⟩ (.int .i64 0)=Y at *;have y0:Y.cell? ⟨w.heap.size,0,none⟩=some (.int .i64 0):=(Zaa kY 0).trans rfl;have y1:Y.cell? ⟨w.heap.size,1,none⟩=some (.int .i64 0):=(Zaa kY 1).trans rfl;clear b0 b1 f0 f1 HK1 HB1 HW HK HB;simp[Leaves,settle,results,Tryz.results59,go_sem,y0,y1];exact HBY
set_option maxHeartbeats 1000000 in
theorem check_ok (w:World)(G:S26)(At Ar:Option Addr)(ct cr:Nat)(hr:GramR w G At Ar ct cr)(hg:Zmu G)(ho:Own w) :
 Calls Tryz.prog 58 #[.agg #[.slice At G.f0.length ct,.slice Ar G.f1.length cr]] w fun e w'=>e=.returned (.tuple #[.int .i64 0,.int .i64 0])∧Below w.heap.size w w':=by
 have hmf:∀(fn:Fn) (first cap:Array Value) (w:World),(Instr.makeFunc fn first cap).run Tryz.prog w=.ok (.func fn first cap) w:=fun _ _ _ _=>rfl
 have HB:=Zrw.mk (Zab (Below.refl _ w) (.cells #[.slice At G.f0.length ct,.slice Ar G.f1.length cr] 26));have HK:=Zrw.mk (Zaj w (.cells #[.slice At G.f0.length ct,.slice Ar G.f1.length cr] 26));have HC:=Zrw.mk (caught_ok (w.alloc (.cells #[.slice At G.f0.length ct,.slice Ar G.f1.length cr] 26)) w.heap.size (fun W hb=>work_call W G At Ar ct cr (hr.below (Zae HB.out hb)) hg (ho.below (Zae HB.out hb)) w.heap.size (Zaf HK.out hb)));clear hr hg ho
 go_enter Tryz.func58,Tryz.ntmps58
 go_upto_region 2 with (go_at_call 70;(with_reducible refine HC.out.mono ?_);rintro e w1 ⟨rfl,hb⟩;have HB1:=Zrw.mk (Zae HB.out hb);clear hb)
 go_quiet (fail)
 go_wp2
 go_ret2
 exact⟨rfl,Zag (Zae HB1.out (Zab Zbr _)) _⟩
def Picked (g n:Nat)(v:Value):Prop:=∃o m c,v=.slice (some ⟨g,o,none⟩) m c∧1≤m∧o+m≤n∧m≤c
theorem tmod_two (k:Int):(IntKind.u64.wrap k).tmod 2=0∨(IntKind.u64.wrap k).tmod 2=1:=by
 have h:IntKind.u64.wrap k=k % 18446744073709551616:=by rw[IntKind.wrap_u64]
 rw[h];have h0:0≤k % 18446744073709551616:=Int.emod_nonneg _ (by decide);rw[Int.tmod_eq_emod_of_nonneg h0];omega
theorem pick1_call (g:Nat)(k:Int)(w:World) :
 Calls Tryz.prog 39 #[.slice (some ⟨g,0,none⟩) 1 1,.int .i64 k] w fun e w'=>(∃v,e=.returned v∧Picked g 1 v)∧w'=w:=by
 have h1:(IntKind.u64.wrap k).tmod 1=0:=Int.tmod_one _;by_cases hb:bits BinOp.and IntKind.i64 k 1=1
 ·go_enter Tryz.func39,Tryz.ntmps39
  go_wp2
  go_ret
  exact⟨⟨_,rfl,0,1,1,rfl,by omega,by omega,by omega⟩,rfl⟩
 ·go_enter Tryz.func39,Tryz.ntmps39
  go_wp2
  go_ret
  exact⟨⟨_,rfl,0,1,1,rfl,by omega,by omega,by omega⟩,rfl⟩
theorem pick2_call (g:Nat)(k:Int)(w:World) :
 Calls Tryz.prog 39 #[.slice (some ⟨g,0,none⟩) 2 2,.int .i64 k] w fun e w'=>(∃v,e=.returned v∧Picked g 2 v)∧w'=w:=by
 by_cases hb:bits BinOp.and IntKind.i64 k 1=1
 ·go_enter Tryz.func39,Tryz.ntmps39
  go_wp2
  go_ret
  exact⟨⟨_,rfl,0,2,2,rfl,by omega,by omega,by omega⟩,rfl⟩
 ·rcases tmod_two k with h1 | h1
  ·go_enter Tryz.func39,Tryz.ntmps39
   go_wp2
   go_ret
   exact⟨⟨_,rfl,0,1,2,rfl,by omega,by omega,by omega⟩,rfl⟩
  ·go_enter Tryz.func39,Tryz.ntmps39
   go_wp2
   go_ret
   exact⟨⟨_,rfl,1,1,1,rfl,by omega,by omega,by omega⟩,rfl⟩
theorem pick_call (g n:Nat)(hn:n=1∨n=2)(k:Int)(w:World) :
 Calls Tryz.prog 39 #[.slice (some ⟨g,0,none⟩) n n,.int .i64 k] w fun e w'=>(∃v,e=.returned v∧Picked g n v)∧w'=w:=by
 rcases hn with rfl | rfl
 ·exact pick1_call g k w
 ·exact pick2_call g k w
structure LitS (w:World)(g:Nat)(l:List ByteArray):Prop where
 blk:w.heap[g]?=some (.cells (l.map Value.string).toArray 9 (0,0))
theorem LitS.below {w W:World}{g:Nat}{l:List ByteArray}(h:LitS w g l)(hb:Below w.heap.size w W):LitS W g l:=⟨Zaf h.blk hb⟩
theorem picked_all {g n:Nat}{l:List ByteArray}(hl:l.length=n)(hn:n≤2){v:Value}(hp:Picked g n v):∃A c l',v=.slice A l'.length c∧l'.length≤c∧l'≠[]∧(∃o m,l'=(l.drop o).take m)∧∀w,LitS w g l→Kd.string.C w A l'.length l':=by
 obtain⟨o,m,c,rfl,h1,h2,h3⟩:=hp;have hlen:((l.drop o).take m).length=m:=by rw[List.length_take,List.length_drop];omega
 refine⟨some ⟨g,o,none⟩,c,(l.drop o).take m,by rw[hlen],by omega,fun e=>by rw[e]at hlen;simp at hlen;omega,⟨o,m,rfl⟩,fun w h=>?_⟩;refine⟨rfl,by omega,fun _=>⟨_,rfl,fun j p hj=>?_⟩⟩;refine⟨[.string p],rfl,rfl,fun i u hi=>?_⟩;cases i with
 | succ i=>simp at hi
 | zero=>
  simp at hi;subst hi;rw[List.getElem?_take]at hj
  split at hj
  ·rw[List.getElem?_drop]at hj;have e1:(⟨g,o,none⟩:Addr).add (j*Kd.string.sz+0)=⟨g,o+j,none⟩:=by
    show (⟨g,o,none⟩:Addr).add (j*1+0)=_;rw[Nat.mul_one,Nat.add_zero];unfold Addr.add
    split
    ·rename_i hz;simp at hz ⊢
    ·rfl
   rw[e1,Zaa h.blk];simp[hj]
  ·cases hj
def Zde (pl:List Pl)(tt:List Int)(q:Nat):List Pl:=pl.set q { pl.getD q zPl with follow:=Zcj (pl.getD q zPl).follow tt }
def Zin (pl:List Pl)(tt frm:List Int):Nat→List Pl
 | 0=>pl
 | k+1=>Zde (Zin pl tt frm k) tt (rd frm k).toNat
def linkL (pl:List Pl)(frm tt:List Int):List Pl:=Zin pl tt frm frm.length
def AllRis (n:Nat)(pl:List Pl):Prop:=∀q,Ris n (pl.getD q zPl).follow
theorem Zlq (pl:List Pl)(tt:List Int)(q:Nat):(Zde pl tt q).length=pl.length:=by simp[Zde]
theorem Zdc (pl:List Pl)(tt frm:List Int)(k:Nat):(Zin pl tt frm k).length=pl.length:=by
 induction k with
 | zero=>rfl
 | succ k ih=>show (Zde _ _ _).length=_;rw[Zlq,ih]
theorem Zen (pl:List Pl)(p q:Nat)(y:Pl):(pl.set p y).getD q zPl=if p=q∧q<pl.length then y else pl.getD q zPl:=by
 rw[List.getD_eq_getElem?_getD,List.getD_eq_getElem?_getD,List.getElem?_set];by_cases h:p=q
 ·subst h;by_cases h2:p<pl.length
  ·simp[h2]
  ·simp[h2]
 ·simp[h]
theorem AllRis.one {n:Nat}{pl:List Pl}{tt:List Int}(h:AllRis n pl)(ht:∀q∈tt,0≤q∧q<n)(p:Nat):AllRis n (Zde pl tt p):=by
 intro q;unfold Zde;rw[Zen]
 split
 ·exact Zfa (h p).2 ht
 ·exact h q
theorem AllRis.link {n:Nat}{pl:List Pl}{tt:List Int}(h:AllRis n pl)(ht:∀q∈tt,0≤q∧q<n)(frm:List Int)(k:Nat):AllRis n (Zin pl tt frm k):=by
 induction k with
 | zero=>exact h
 | succ k ih=>exact AllRis.one ih ht _
theorem AllRis.mono {n m:Nat}{pl:List Pl}(h:AllRis n pl)(hm:n≤m):AllRis m pl:=fun q=>(h q).mono hm
theorem AllRis.add {n:Nat}{pl:List Pl}(h:AllRis n pl){x:Pl}(hx:Ris n x.follow):AllRis n (pl++[x]):=by
 intro q;rw[List.getD_eq_getElem?_getD]
 rcases Nat.lt_trichotomy q pl.length with hq | hq | hq
 ·rw[List.getElem?_append_left hq,←List.getD_eq_getElem?_getD];exact h q
 ·subst hq;simp;exact hx
 ·rw[List.getElem?_eq_none (by simp;omega)];exact Ris.nil n
theorem VS.froz {w0:W0}{W:World}{gb:Nat}{h0 h1 vs vf:Value}{φ:Nat→Nat}{v:Value}{pl:List Pl}{sh:List (Nat × Sh)}(h:VS w0 W gb h0 h1 vs vf φ v pl sh){n:Nat}{A:Option Addr}{c:Nat}(hv:v=.slice A n c){ad:Addr}(hA:A=some ad)(m j:Nat):W.frozen? ⟨(ad.add m).block,(ad.add m).off+j,none⟩=false:=by
 subst hv;subst hA;obtain⟨inner,ho,_⟩:=h.row;obtain⟨cells,hb⟩:=Zaq ho ad.block rfl;rw[add_block];exact Zam hb _
theorem rd_mem {l:List Int}{k:Nat}(h:k<l.length):rd l k∈l:=by
 unfold rd;rw[List.getD_eq_getElem?_getD,Int.toNat_natCast,List.getElem?_eq_getElem h];exact List.getElem_mem h
set_option maxHeartbeats 4000000 in
theorem Zks (w0:W0)(W:World)(gb:Nat)(h0 h1 vs vf:Value)(φ:Nat→Nat)(v:Value)(pl:List Pl)(sh:List (Nat × Sh))(h:VS w0 W gb h0 h1 vs vf φ v pl sh)(v1 v2:Value)(frm tt:List Int)(hf:Ri w0 W v1 frm)(ht:Ri w0 W v2 tt)
 (rf:Ris pl.length frm) (rt:Ris pl.length tt) (ra:AllRis pl.length pl) (hl:pl.length≤100000) :
 Calls Tryz.prog 95 #[.pointer (some ⟨gb,0,none⟩),v1,v2] W fun e w'=>e=.returned (.tuple #[])∧VS w0 w' gb h0 h1 vs vf φ v (linkL pl frm tt) sh∧KeptV W w' gb v:=by
 have HF:=Zrw.mk hf;have HT:=Zrw.mk ht;obtain⟨A1,c1,rfl,l1,_⟩:=hf.C;obtain⟨A2,c2,rfl,l2,_⟩:=ht.C;have HRF:=Zrw.mk rf;have HRT:=Zrw.mk rt;have HRA:=Zrw.mk ra;have HH:=Zrw.mk h;obtain⟨A,c,rfl,_⟩:=h.row.slice_;have lf:=rf.len;have lt:=rt.len;clear hf ht rf rt ra h
 go_enter Tryz.func95,Tryz.ntmps95
 go_wp2
 go_loopw [10] (fun i wr=>∃k:Nat,k≤frm.length∧i=.int .i64 k∧Zrw (VS w0 wr gb h0 h1 vs vf φ (.slice A pl.length c) (Zin pl tt frm k) sh)∧Zrw (KeptV W wr gb (.slice A pl.length c))) (fun i _=>frm.length-(intOf i).toNat)
 case atStart=>exact⟨0,Nat.zero_le _,rfl,⟨HH.out⟩,⟨KeptV.refl _ _ _⟩⟩
 case round=>
  obtain⟨k,hk,rfl,HV,HK⟩:=hrel;by_cases hkn:k<frm.length
  ·have hr1:=HF.out.same (HH.out.same3 HK.out);have hr2:=HT.out.same (HH.out.same3 HK.out);obtain⟨A1',c1',e1,_,g1⟩:=hr1.C;injection e1 with e1 _ e2
   subst e1;subst e2;obtain⟨ad,rfl,hq0⟩:=Kd.at_int g1 (k:Int) (by omega) (by omega);rw[Int.toNat_natCast]at hq0;have hmem:=HRF.out.2 _ (rd_mem hkn);obtain⟨q0,q1⟩:=hmem;have hlk:=Zdc pl tt frm k;have hrk:=(HRA.out.link (HRT.out.2) frm k)
   obtain⟨pk,hpk⟩:∃pk,pk=Zin pl tt frm k:=⟨_,rfl⟩
   have HPK:Zrw (Zin pl tt frm (k+1)=Zde pk tt (rd frm k).toNat):=⟨by rw[hpk];rfl⟩
   rw[←hpk]at HV hlk hrk;clear hpk;obtain⟨bd,cs,rfl,hps,hcell,hfz⟩:=HV.out.at_ (A:=A) (c:=c) (by rw[hlk]) (rd frm k).toNat (by omega);obtain⟨B1,d1,B2,d2,B3,d3,v4,rfl,_,_,_,_,_,_,r4⟩:=hps;obtain⟨B4,d4,rfl,ld4,g4⟩:=r4.C;have y7:=hcell 7 _ rfl;have y2:=HV.out.cell2;have HFR:=Zrw.mk hfz;obtain⟨A2',c2',e2,_,g2⟩:=hr2.C;injection e2 with e2 _ e3
   subst e2;subst e3;have hfl:=(hrk (rd frm k).toNat).len;have HB:=Zrw.mk (fun n=>Zdq B4 A2 d4 c2 _ _ (wr.drewN n) (Kd.C_drewN g4 n) (Kd.C_drewN g2 n) (by omega) (by omega));have hF:Zrw (Zde pk tt (rd frm k).toNat=pk.set (rd frm k).toNat { pk.getD (rd frm k).toNat zPl with follow:=Zcj (pk.getD (rd frm k).toNat zPl).follow tt }):=⟨rfl⟩
   clear hcell hfz g4 g2 r4 hr1 hr2 hrk g1 hfl ld4;generalize Zcj (pk.getD (rd frm k).toNat zPl).follow tt=bl at HB hF;generalize (pk.getD (rd frm k).toNat zPl).follow=fl at y7 HB;generalize rd frm k=q at *
   go_upto_region 3 with (fail)
   refine Zcw ?_
   go_region_law (first | (go_simp;go_at_call 96;(with_reducible refine (HB.out _).mono ?_);rintro e w6 ⟨v6,rfl,ho6,hb6⟩;obtain⟨A6,c6,rfl⟩:=Kd.R_slice ho6;have hb6:=Zae (w:=wr) (Zag Zbr 1) hb6;have HV6:=Zrw.mk (HV.out.below hb6);have HO6:=Zrw.mk (HV.out.ri ho6 (Nat.le_refl _));have y7b:=Zad hb6 y7;have y2b:=Zad hb6 y2;have hfb:=VS.froz HV6.out rfl rfl (q.toNat*9) 7;have HB6:=Zrw.mk hb6;clear ho6 hb6) | fail)
   all_goals (
    have hst:=HV6.out.setAt (A:=some bd) (c:=c) (by rw[hlk]) rfl q.toNat (by omega) 7 (by omega) (.slice A6 bl.length c6) { pk.getD q.toNat zPl with follow:=bl } (fun c hc hp=>hp.setFollow HO6.out);have HST:=Zrw.mk hst;clear hst;go_wp2
    go_roundw
    case rel=>exact⟨k+1,by omega,by go_num,⟨by rw[HPK.out,hF.out];exact HST.out.1⟩,⟨HK.out.trans ((KeptV.of_below HB6.out gb (.slice (some bd) pl.length c)).trans HST.out.2 (NewOr.refl _ _)) (NewOr.refl _ _)⟩⟩
    case measure=>simp[intOf];omega)
  ·obtain rfl:k=frm.length:=by omega
   go_wp2
   go_end0
   exact⟨rfl,HV.out,HK.out⟩
structure St where
 pl:List Pl
 sh:List (Nat × Sh)
structure Sx where
 first:List Int
 last:List Int
 empty:Bool
def Zbe (b:Nat)(p:S76):Pl:=⟨3,some b,p,none,[],0⟩
def Zbq (b:Nat):Pl:=⟨2,some b,z76,none,[],0⟩
def St.add (s:St)(x:Pl):St:=⟨s.pl++[x],s.sh⟩
def St.link (s:St)(frm tt:List Int):St:=⟨linkL s.pl frm tt,s.sh⟩
def St.inner (s:St)(k b:Nat):St:=⟨s.pl.set k { s.pl.getD k zPl with inner:=some b },s.sh⟩
def St.close (s:St)(b:Nat)(x:Sx)(rule step:Int):St:=⟨s.pl,s.sh++[(b,⟨x.first,x.last,x.empty,rule,step⟩)]⟩
def Zhp (wk:Nat→S76→St→Sx × St)(p:S76)(rule step:Int)(s:St):St:=
 (wk s.pl.length p (s.add (Zbq s.pl.length))).2.close s.pl.length (wk s.pl.length p (s.add (Zbq s.pl.length))).1 rule step
def seqX (a c:Sx):Sx:=⟨if a.empty=true then Zcj a.first c.first else a.first,if c.empty=true then Zcj a.last c.last else c.last,a.empty&&c.empty⟩
def altX (a c:Sx):Sx:=⟨Zcj a.first c.first,Zcj a.last c.last,a.empty||c.empty⟩
def Zey (b:Nat)(p:S76)(s:St):St:=if p.f0=4 then (s.add (Zbe b p)).link [(s.pl.length:Int)] [(s.pl.length:Int)]else s.add (Zbe b p)
def Zhv (wk:Nat→S76→St→Sx × St)(b:Nat)(p:S76)(s:St):St:=
 if p.f0=3 then (Zhp wk (Zak p.f3 0) (-1) (-1) (Zey b p s)).inner s.pl.length (Zey b p s).pl.length else Zey b p s
def Zax:Nat→Nat→S76→St→Sx × St
 | 0,_,_,s=>(⟨[],[],true⟩,s)
 | n+1,b,p,s=>
  if p.f0=2∨p.f0=4∨p.f0=3 then (⟨[(s.pl.length:Int)],[(s.pl.length:Int)],decide (p.f0=4)⟩,Zhv (Zax n) b p s)
  else if p.f0=5 then
   (seqX (Zax n b (Zak p.f3 0) s).1 (Zax n b (Zak p.f3 1) (Zax n b (Zak p.f3 0) s).2).1,
    (Zax n b (Zak p.f3 1) (Zax n b (Zak p.f3 0) s).2).2.link (Zax n b (Zak p.f3 0) s).1.last (Zax n b (Zak p.f3 1) (Zax n b (Zak p.f3 0) s).2).1.first)
  else if p.f0=6 then
   (altX (Zax n b (Zak p.f3 0) s).1 (Zax n b (Zak p.f3 1) (Zax n b (Zak p.f3 0) s).2).1,(Zax n b (Zak p.f3 1) (Zax n b (Zak p.f3 0) s).2).2)
  else if p.f0=7 then
   (⟨(Zax n b (Zak p.f3 0) s).1.first,(Zax n b (Zak p.f3 0) s).1.last,true⟩,(Zax n b (Zak p.f3 0) s).2.link (Zax n b (Zak p.f3 0) s).1.last (Zax n b (Zak p.f3 0) s).1.first)
  else (⟨[],[],true⟩,s)
def Zcy:Nat→S76→Nat
 | 0,_=>0
 | n+1,p=>
  if p.f0=3 then 2+Zcy n (Zak p.f3 0)
  else if p.f0=2∨p.f0=4 then 1
  else if p.f0=5∨p.f0=6 then Zcy n (Zak p.f3 0)+Zcy n (Zak p.f3 1)
  else if p.f0=7 then Zcy n (Zak p.f3 0)
  else 0
def Zfc:Nat→S76→Prop
 | 0,_=>False
 | n+1,p=>p.f1.length≤100000∧p.f2.length≤100000∧(p.f0=3→1≤p.f3.length∧Zfc n (Zak p.f3 0)) ∧
  (p.f0=5∨p.f0=6→2≤p.f3.length∧Zfc n (Zak p.f3 0)∧Zfc n (Zak p.f3 1))∧(p.f0=7→1≤p.f3.length∧Zfc n (Zak p.f3 0))
structure Good (s:St):Prop where
 ris:AllRis s.pl.length s.pl
 ids:∀q k,(s.pl.getD q zPl).shape=some k→k<s.pl.length
 ins:∀q k,(s.pl.getD q zPl).inner=some k→k<s.pl.length
 shs:∀k x,(k,x)∈s.sh→k<s.pl.length∧Ris s.pl.length x.first∧Ris s.pl.length x.last
theorem Zdf (pl:List Pl)(x:Pl)(q:Nat):(pl++[x]).getD q zPl=if q=pl.length then x else pl.getD q zPl:=by
 rw[List.getD_eq_getElem?_getD,List.getD_eq_getElem?_getD]
 rcases Nat.lt_trichotomy q pl.length with hq | hq | hq
 ·rw[List.getElem?_append_left hq,if_neg (by omega)]
 ·subst hq;simp
 ·rw[List.getElem?_eq_none (by simp;omega),List.getElem?_eq_none (by omega),if_neg (by omega)]
theorem Zgj (pl:List Pl)(tt frm:List Int)(k q:Nat):((Zin pl tt frm k).getD q zPl).shape=(pl.getD q zPl).shape∧((Zin pl tt frm k).getD q zPl).inner=(pl.getD q zPl).inner∧((Zin pl tt frm k).getD q zPl).kind=(pl.getD q zPl).kind∧((Zin pl tt frm k).getD q zPl).p=(pl.getD q zPl).p∧((Zin pl tt frm k).getD q zPl).rule=(pl.getD q zPl).rule:=by
 induction k with
 | zero=>exact⟨rfl,rfl,rfl,rfl,rfl⟩
 | succ k ih=>
  show ((Zde _ _ _).getD q zPl).shape=_∧((Zde _ _ _).getD q zPl).inner=_∧((Zde _ _ _).getD q zPl).kind=_∧((Zde _ _ _).getD q zPl).p=_∧((Zde _ _ _).getD q zPl).rule=_;unfold Zde;rw[Zen]
  split
  ·rename_i h
   obtain⟨rfl,_⟩:=h;exact ih
  ·exact ih
theorem Good.add {s:St}(h:Good s)(x:Pl)(hf:x.follow=[])(hs:∀k,x.shape=some k→k≤s.pl.length)(hi:∀k,x.inner=some k→k≤s.pl.length):Good (s.add x):=by
 have hl:(s.add x).pl.length=s.pl.length+1:=by simp[St.add]
 refine⟨?_,fun q k hq=>?_,fun q k hq=>?_,fun k y hk=>?_⟩
 ·rw[hl];exact (h.ris.mono (by omega)).add (by rw[hf];exact Ris.nil _)
 ·rw[hl];unfold St.add at hq;rw[Zdf]at hq
  split at hq
  ·have:=hs k hq;omega
  ·have:=h.ids q k hq;omega
 ·rw[hl];unfold St.add at hq;rw[Zdf]at hq
  split at hq
  ·have:=hi k hq;omega
  ·have:=h.ins q k hq;omega
 ·rw[hl];have:=h.shs k y hk;exact⟨by omega,this.2.1.mono (by omega),this.2.2.mono (by omega)⟩
theorem Good.link {s:St}(h:Good s){frm tt:List Int}(ht:Ris s.pl.length tt):Good (s.link frm tt):=by
 have hl:(s.link frm tt).pl.length=s.pl.length:=Zdc _ _ _ _;refine⟨?_,fun q k hq=>?_,fun q k hq=>?_,fun k y hk=>?_⟩
 ·rw[hl];exact AllRis.link h.ris ht.2 _ _
 ·rw[hl];exact h.ids q k ((Zgj _ _ _ _ _).1.symm.trans hq)
 ·rw[hl];exact h.ins q k ((Zgj _ _ _ _ _).2.1.symm.trans hq)
 ·rw[hl];exact h.shs k y hk
theorem Good.inner {s:St}(h:Good s)(k b:Nat)(hb:b<s.pl.length):Good (s.inner k b):=by
 have hl:(s.inner k b).pl.length=s.pl.length:=by simp[St.inner]
 refine⟨fun q=>?_,fun q j hq=>?_,fun q j hq=>?_,fun j y hj=>?_⟩
 ·rw[hl];unfold St.inner;rw[Zen]
  split
  ·exact h.ris k
  ·exact h.ris q
 ·rw[hl];unfold St.inner at hq;rw[Zen]at hq
  split at hq
  ·exact h.ids k j hq
  ·exact h.ids q j hq
 ·rw[hl];unfold St.inner at hq;rw[Zen]at hq
  split at hq
  ·injection hq with hq;omega
  ·exact h.ins q j hq
 ·rw[hl];exact h.shs j y hj
theorem Good.close {s:St}(h:Good s){b:Nat}(hb:b<s.pl.length){x:Sx}(h1:Ris s.pl.length x.first)(h2:Ris s.pl.length x.last)(rule step:Int):Good (s.close b x rule step):=by
 refine⟨h.ris,h.ids,h.ins,fun k y hk=>?_⟩
 rcases List.mem_append.1 hk with hk | hk
 ·exact h.shs k y hk
 ·rw[List.mem_singleton]at hk;injection hk with e1 e2
  subst e1;subst e2;exact⟨hb,h1,h2⟩
def WGood (n:Nat):Prop:=∀(b:Nat) (p:S76) (s:St),Good s→b<s.pl.length→Good (Zax n b p s).2∧(Zax n b p s).2.pl.length=s.pl.length+Zcy n p∧Ris (s.pl.length+Zcy n p) (Zax n b p s).1.first∧Ris (s.pl.length+Zcy n p) (Zax n b p s).1.last
theorem Zho {n:Nat}(ih:WGood n)(p:S76)(rule step:Int)(s:St)(h:Good s):Good (Zhp (Zax n) p rule step s)∧(Zhp (Zax n) p rule step s).pl.length=s.pl.length+1+Zcy n p:=by
 have hg:Good (s.add (Zbq s.pl.length)):=h.add _ rfl (fun k hk=>by injection hk with hk;omega) (fun k hk=>by cases hk);have hl:(s.add (Zbq s.pl.length)).pl.length=s.pl.length+1:=by simp[St.add]
 obtain⟨h1,h2,h3,h4⟩:=ih s.pl.length p _ hg (by omega);rw[hl]at h2 h3 h4;exact⟨h1.close (by omega) (by rw[h2];exact h3) (by rw[h2];exact h4) rule step,h2⟩
theorem item1_good {b:Nat}(p:S76){s:St}(h:Good s)(hb:b<s.pl.length):Good (Zey b p s)∧(Zey b p s).pl.length=s.pl.length+1:=by
 have hg:Good (s.add (Zbe b p)):=h.add _ rfl (fun k hk=>by injection hk with hk;omega) (fun k hk=>by cases hk);have hl:(s.add (Zbe b p)).pl.length=s.pl.length+1:=by simp[St.add]
 unfold Zey
 split
 ·exact⟨hg.link (by rw[hl];exact Ris.one (by omega) (by omega)),(Zdc _ _ _ _).trans hl⟩
 ·exact⟨hg,hl⟩
theorem Zhd:∀n,WGood n
 | 0=>fun b p s h hb=>⟨h,rfl,Ris.nil _,Ris.nil _⟩
 | n+1=>by
  have ih:=Zhd n;intro b p s h hb;unfold Zax Zcy;by_cases c1:p.f0=2∨p.f0=4∨p.f0=3
  ·rw[if_pos c1];obtain⟨g1,g2⟩:=item1_good p h hb;by_cases c3:p.f0=3
   ·rw[if_pos c3];obtain⟨p1,p2⟩:=Zho ih (Zak p.f3 0) (-1) (-1) _ g1;unfold Zhv;rw[if_pos c3];refine⟨p1.inner _ _ (by omega),?_,Ris.one (by omega) (by omega),Ris.one (by omega) (by omega)⟩;have:((Zhp (Zax n) (Zak p.f3 0) (-1) (-1) (Zey b p s)).inner s.pl.length (Zey b p s).pl.length).pl.length=(Zhp (Zax n) (Zak p.f3 0) (-1) (-1) (Zey b p s)).pl.length:=by simp[St.inner]
    show ((Zhp (Zax n) (Zak p.f3 0) (-1) (-1) (Zey b p s)).inner s.pl.length (Zey b p s).pl.length).pl.length=_;omega
   ·rw[if_neg c3,if_pos (show p.f0=2∨p.f0=4 by omega)];unfold Zhv;rw[if_neg c3];exact⟨g1,g2,Ris.one (by omega) (by omega),Ris.one (by omega) (by omega)⟩
  ·rw[if_neg c1,if_neg (show ¬p.f0=3 by omega),if_neg (show ¬(p.f0=2∨p.f0=4) by omega)];by_cases c5:p.f0=5
   ·rw[if_pos c5,if_pos (.inl c5)];obtain⟨a1,a2,a3,a4⟩:=ih b (Zak p.f3 0) s h hb;obtain⟨b1,b2,b3,b4⟩:=ih b (Zak p.f3 1) _ a1 (by omega);rw[a2]at b2 b3 b4;rw[←Nat.add_assoc];refine⟨b1.link (by rw[b2];exact b3),(Zdc _ _ _ _).trans b2,?_,?_⟩
    ·show Ris _ (if _ then _ else _)
     split
     ·exact Zfa (a3.mono (by omega)).2 b3.2
     ·exact a3.mono (by omega)
    ·show Ris _ (if _ then _ else _)
     split
     ·exact Zfa (a4.mono (by omega)).2 b4.2
     ·exact b4
   ·rw[if_neg c5];by_cases c6:p.f0=6
    ·rw[if_pos c6,if_pos (.inr c6)];obtain⟨a1,a2,a3,a4⟩:=ih b (Zak p.f3 0) s h hb;obtain⟨b1,b2,b3,b4⟩:=ih b (Zak p.f3 1) _ a1 (by omega);rw[a2]at b2 b3 b4;rw[←Nat.add_assoc];exact⟨b1,b2,Zfa (a3.mono (by omega)).2 b3.2,Zfa (a4.mono (by omega)).2 b4.2⟩
    ·rw[if_neg c6,if_neg (show ¬(p.f0=5∨p.f0=6) by omega)];by_cases c7:p.f0=7
     ·rw[if_pos c7,if_pos c7];obtain⟨a1,a2,a3,a4⟩:=ih b (Zak p.f3 0) s h hb;exact⟨a1.link (by rw[a2];exact a3),(Zdc _ _ _ _).trans a2,a3,a4⟩
     ·rw[if_neg c7,if_neg c7];exact⟨h,rfl,Ris.nil _,Ris.nil _⟩
def Some0 (l0 l:List ByteArray):Prop:=l≠[]∧∃o m,l=(l0.drop o).take m
def Mk (a0 a1 a2:List ByteArray):Nat→Nat→S76→Prop
 | 0,_,_=>False
 | D+1,N,p=>
  ((p.f0=1∨p.f0=4)∧p.f1=[]∧p.f2=[]∧p.f3=[]∧1≤N) ∨
  (p.f0=2∧Some0 a0 p.f1∧p.f2=[]∧p.f3=[]∧1≤N) ∨
  (p.f0=3∧Some0 a1 p.f1∧Some0 a2 p.f2∧∃x n,p.f3=[x]∧Mk a0 a1 a2 D n x∧1+n≤N) ∨
  (p.f0=7∧p.f1=[]∧p.f2=[]∧∃x n,p.f3=[x]∧Mk a0 a1 a2 D n x∧1+n≤N) ∨
  ((p.f0=5∨p.f0=6)∧p.f1=[]∧p.f2=[]∧∃x y n m,p.f3=[x,y]∧Mk a0 a1 a2 D n x∧Mk a0 a1 a2 D m y∧1+n+m≤N)
theorem Mk.up {a0 a1 a2:List ByteArray}:∀{D N:Nat} {p:S76},Mk a0 a1 a2 D N p→Mk a0 a1 a2 (D+1) N p
 | 0,_,_,h=>h.elim
 | D+1,N,p,h=>by
  rcases h with h | h | ⟨h0,h1,h2,x,n,h3,h4,h5⟩ | ⟨h0,h1,h2,x,n,h3,h4,h5⟩ | ⟨h0,h1,h2,x,y,n,m,h3,h4,h5,h6⟩
  ·exact .inl h
  ·exact .inr (.inl h)
  ·exact .inr (.inr (.inl ⟨h0,h1,h2,x,n,h3,h4.up,h5⟩))
  ·exact .inr (.inr (.inr (.inl ⟨h0,h1,h2,x,n,h3,h4.up,h5⟩)))
  ·exact .inr (.inr (.inr (.inr ⟨h0,h1,h2,x,y,n,m,h3,h4.up,h5.up,h6⟩)))
theorem Mk.ups {a0 a1 a2:List ByteArray}{D N:Nat}{p:S76}(h:Mk a0 a1 a2 D N p):∀E,Mk a0 a1 a2 (D+E) N p
 | 0=>h
 | E+1=>(h.ups E).up
theorem Mk.mono {a0 a1 a2:List ByteArray}{D D' N:Nat}{p:S76}(h:Mk a0 a1 a2 D N p)(hd:D≤D'):Mk a0 a1 a2 D' N p:=by
 have:=h.ups (D'-D);rwa[show D+(D'-D)=D' by omega]at this
theorem Mk.fit {a0 a1 a2:List ByteArray}:∀{D N:Nat} {p:S76},Mk a0 a1 a2 D N p→Fit D p N
 | 0,_,_,h=>h.elim
 | D+1,N,p,h=>by
  rcases h with⟨_,_,_,h3,h4⟩ | ⟨_,_,_,h3,h4⟩ | ⟨_,_,_,x,n,h3,h4,h5⟩ | ⟨_,_,_,x,n,h3,h4,h5⟩ | ⟨_,_,_,x,y,n,m,h3,h4,h5,h6⟩
  ·exact⟨[],by rw[h3];rfl,fun j hj=>by rw[h3]at hj;simp at hj,by simpa using h4⟩
  ·exact⟨[],by rw[h3];rfl,fun j hj=>by rw[h3]at hj;simp at hj,by simpa using h4⟩
  ·refine⟨[n],by rw[h3];rfl,fun j hj=>?_,by simpa using h5⟩;rw[h3]at hj ⊢;obtain rfl:j=0:=by simp at hj;omega
   exact h4.fit
  ·refine⟨[n],by rw[h3];rfl,fun j hj=>?_,by simpa using h5⟩;rw[h3]at hj ⊢;obtain rfl:j=0:=by simp at hj;omega
   exact h4.fit
  ·refine⟨[n,m],by rw[h3];rfl,fun j hj=>?_,by simp;omega⟩;rw[h3]at hj ⊢;obtain rfl | rfl:j=0∨j=1:=by simp at hj;omega
   ·exact h4.fit
   ·exact h5.fit
theorem Some0.short {l0 l:List ByteArray}(h:Some0 l0 l):l.length≤l0.length:=by
 obtain⟨_,o,m,rfl⟩:=h;rw[List.length_take,List.length_drop];omega
theorem Some0.pos {l0 l:List ByteArray}(h:Some0 l0 l):0<l.length:=List.length_pos_iff.2 h.1
theorem Mk.patOk {a0 a1 a2:List ByteArray}(s0:a0.length≤2)(s1:a1.length≤2)(s2:a2.length≤2):∀{D N:Nat} {p:S76},Mk a0 a1 a2 D N p→Zfc D p
 | 0,_,_,h=>h.elim
 | D+1,N,p,h=>by
  have key:p.f1.length≤100000∧p.f2.length≤100000:=by
   rcases h with⟨_,h1,h2,_⟩ | ⟨_,h1,h2,_⟩ | ⟨_,h1,h2,_⟩ | ⟨_,h1,h2,_⟩ | ⟨_,h1,h2,_⟩
   ·rw[h1,h2];simp
   ·rw[h2];have:=h1.short;simp;omega
   ·have:=h1.short;have:=h2.short;omega
   ·rw[h1,h2];simp
   ·rw[h1,h2];simp
  refine⟨key.1,key.2,fun hk=>?_,fun hk=>?_,fun hk=>?_⟩
  ·rcases h with⟨h0,_⟩ | ⟨h0,_⟩ | ⟨_,_,_,x,n,h3,h4,_⟩ | ⟨h0,_⟩ | ⟨h0,_⟩
   ·omega
   ·omega
   ·rw[h3];exact⟨Nat.le_refl _,h4.patOk s0 s1 s2⟩
   ·omega
   ·omega
  ·rcases h with⟨h0,_⟩ | ⟨h0,_⟩ | ⟨h0,_⟩ | ⟨h0,_⟩ | ⟨_,_,_,x,y,n,m,h3,h4,h5,_⟩
   ·omega
   ·omega
   ·omega
   ·omega
   ·rw[h3];exact⟨Nat.le_refl _,h4.patOk s0 s1 s2,h5.patOk s0 s1 s2⟩
  ·rcases h with⟨h0,_⟩ | ⟨h0,_⟩ | ⟨h0,_⟩ | ⟨_,_,_,x,n,h3,h4,_⟩ | ⟨h0,_⟩
   ·omega
   ·omega
   ·omega
   ·rw[h3];exact⟨Nat.le_refl _,h4.patOk s0 s1 s2⟩
   ·omega
def Pcs (a0 a1 a2:List ByteArray)(D:Nat):List S76→Nat→Prop
 | [],_=>True
 | x :: l,t=>∃n m,Mk a0 a1 a2 D n x∧Pcs a0 a1 a2 D l m∧n+m≤t
theorem Pcs.more {a0 a1 a2:List ByteArray}{D:Nat}:∀{l:List S76} {t u:Nat},Pcs a0 a1 a2 D l t→t≤u→Pcs a0 a1 a2 D l u
 | [],_,_,_,_=>trivial
 | _ :: _,_,_,⟨n,m,h1,h2,h3⟩,h=>⟨n,m,h1,h2,by omega⟩
theorem Pcs.mono {a0 a1 a2:List ByteArray}{D D':Nat}(hd:D≤D'):∀{l:List S76} {t:Nat},Pcs a0 a1 a2 D l t→Pcs a0 a1 a2 D' l t
 | [],_,_=>trivial
 | _ :: _,_,⟨n,m,h1,h2,h3⟩=>⟨n,m,h1.mono hd,h2.mono hd,h3⟩
theorem Zda {a0 a1 a2:List ByteArray}{D:Nat}:∀{l r:List S76} {t:Nat},Pcs a0 a1 a2 D (l++r) t↔∃n m,Pcs a0 a1 a2 D l n∧Pcs a0 a1 a2 D r m∧n+m≤t
 | [],r,t=>⟨fun h=>⟨0,t,trivial,h,by omega⟩,fun⟨n,m,_,h2,h3⟩=>Pcs.more h2 (by omega)⟩
 | x :: l,r,t=>by
  constructor
  ·rintro⟨n,m,h1,h2,h3⟩;obtain⟨n',m',h4,h5,h6⟩:=Zda.1 h2;exact⟨n+n',m',⟨n,n',h1,h4,by omega⟩,h5,by omega⟩
  ·rintro⟨n,m,⟨n',m',h4,h5,h6⟩,h2,h3⟩;exact⟨n',m'+m,h4,Zda.2 ⟨m',m,h5,h2,Nat.le_refl _⟩,by omega⟩
theorem Zqw {a0 a1 a2:List ByteArray}{D t:Nat}{x:S76}(h:Mk a0 a1 a2 D t x):Pcs a0 a1 a2 D [x] t:=⟨t,0,h,trivial,by omega⟩
def PcsAt (a0 a1 a2:List ByteArray)(i:Nat)(xs:List S76):Prop:=∃D,2≤D∧D+xs.length≤i+2∧Pcs a0 a1 a2 D xs (2*i)
theorem PcsAt.nil {a0 a1 a2:List ByteArray}:PcsAt a0 a1 a2 0 []:=⟨2,by omega,by simp,trivial⟩
theorem PcsAt.push {a0 a1 a2:List ByteArray}{i:Nat}{xs:List S76}{x:S76}(h:PcsAt a0 a1 a2 i xs)(hx:Mk a0 a1 a2 2 2 x):PcsAt a0 a1 a2 (i+1) (xs++[x]):=by
 obtain⟨D,h1,h2,h3⟩:=h;exact⟨D,h1,by simp;omega,Zda.2 ⟨_,2,h3,Zqw (hx.mono h1),by omega⟩⟩
theorem last1 {xs:List S76}(h:1≤xs.length):∃ys a,xs=ys++[a]∧a=xs.getD (xs.length-1) z76∧ys.length=xs.length-1:=by
 have hne:xs≠[]:=fun e=>by rw[e]at h;simp at h
 refine⟨xs.dropLast,xs.getLast hne,(List.dropLast_concat_getLast hne).symm,?_,by simp⟩;rw[List.getLast_eq_getElem,List.getD_eq_getElem?_getD,List.getElem?_eq_getElem (by omega)]
 rfl
theorem PcsAt.wrap {a0 a1 a2:List ByteArray}{i:Nat}{xs:List S76}{x:S76}(h:PcsAt a0 a1 a2 i xs)(hl:1≤xs.length)(hx:∀D n,Mk a0 a1 a2 D n (xs.getD (xs.length-1) z76)→Mk a0 a1 a2 (D+1) (1+n) x):PcsAt a0 a1 a2 (i+1) (xs.set (xs.length-1) x):=by
 obtain⟨D,h1,h2,h3⟩:=h;obtain⟨ys,a,rfl,h4,h5⟩:=last1 hl;rw[←h4]at hx;have h6:(ys++[a]).length-1=ys.length:=by simp
 rw[h6];rw[List.set_append_right _ _ (Nat.le_refl _)];simp only[Nat.sub_self,List.set_cons_zero];obtain⟨n,m,p1,⟨n',m',p2,_,p4⟩,p3⟩:=Zda.1 h3;simp at h2;exact⟨D+1,by omega,by simp;omega,Zda.2 ⟨n,1+n',p1.mono (by omega),Zqw (hx D n' p2),by omega⟩⟩
theorem PcsAt.join {a0 a1 a2:List ByteArray}{i:Nat}{xs:List S76}{x:S76}(h:PcsAt a0 a1 a2 i xs)(hl:2≤xs.length)(hx:∀D n m,Mk a0 a1 a2 D n (xs.getD (xs.length-2) z76)→Mk a0 a1 a2 D m (xs.getD (xs.length-1) z76)→Mk a0 a1 a2 (D+1) (1+n+m) x):PcsAt a0 a1 a2 (i+1) (xs.take (xs.length-2)++[x]):=by
 obtain⟨D,h1,h2,h3⟩:=h;obtain⟨ys,b,rfl,h4,h5⟩:=last1 (by omega:1≤xs.length);simp at hl h2;obtain⟨zs,a,rfl,h6,h7⟩:=last1 (by omega:1≤ys.length);have e1:(zs++[a]++[b]).length-2=zs.length:=by simp
 have e2:(zs++[a]++[b]).getD zs.length z76=a:=by rw[List.getD_eq_getElem?_getD];simp
 rw[←h4,e1,e2]at hx;rw[e1];have e3:(zs++[a]++[b]).take zs.length=zs:=by rw[List.append_assoc,List.take_left]
 rw[e3];obtain⟨n,m,p1,⟨n',m',p2,_,p4⟩,p3⟩:=Zda.1 h3;obtain⟨k,l,q1,⟨k',l',q2,_,q4⟩,q3⟩:=Zda.1 p1;simp at h2;exact⟨D+1,by omega,by simp;omega,Zda.2 ⟨k,1+k'+n',q1.mono (by omega),Zqw (hx D k' n' q2 p2),by omega⟩⟩
def FoldAt (a0 a1 a2:List ByteArray)(xs:List S76)(j:Nat)(x:S76):Prop:=∃D N t,Mk a0 a1 a2 D N x∧Pcs a0 a1 a2 D (xs.drop j) t∧D+(xs.length-j)≤9∧N+t≤15+j
theorem PcsAt.fold {a0 a1 a2:List ByteArray}{i:Nat}{xs:List S76}(h:PcsAt a0 a1 a2 i xs)(hi:i≤8)(hl:1≤xs.length):FoldAt a0 a1 a2 xs 1 (xs.getD 0 z76):=by
 obtain⟨D,h1,h2,h3⟩:=h
 match xs with
 | []=>simp at hl
 | x :: l=>
  obtain⟨n,m,p1,p2,p3⟩:=h3;simp at h2;exact⟨D,n,m,p1,p2,by simp;omega,by omega⟩
theorem FoldAt.step {a0 a1 a2:List ByteArray}{xs:List S76}{j:Nat}{x y:S76}(h:FoldAt a0 a1 a2 xs j x)(hj:j<xs.length)(hy:∀D n m,Mk a0 a1 a2 D n x→Mk a0 a1 a2 D m (xs.getD j z76)→Mk a0 a1 a2 (D+1) (1+n+m) y):FoldAt a0 a1 a2 xs (j+1) y:=by
 obtain⟨D,N,t,h1,h2,h3,h4⟩:=h;rw[List.drop_eq_getElem_cons hj]at h2;obtain⟨n,m,p1,p2,p3⟩:=h2;have e:xs.getD j z76=xs[j]:=by rw[List.getD_eq_getElem?_getD,List.getElem?_eq_getElem hj];rfl
 rw[e]at hy;exact⟨D+1,1+N+n,m,hy D N n h1 p1,p2.mono (by omega),by omega,by omega⟩
theorem FoldAt.all {a0 a1 a2:List ByteArray}{xs:List S76}{x:S76}(h:FoldAt a0 a1 a2 xs xs.length x):∃D N,Mk a0 a1 a2 D N x∧D≤9∧N≤15+xs.length:=by
 obtain⟨D,N,t,h1,h2,h3,h4⟩:=h;exact⟨D,N,h1,by omega,by omega⟩
theorem Zoc (g i:Nat):(⟨g,0,none⟩:Addr).add i=⟨g,i,none⟩:=by
 unfold Addr.add
 split
 ·rename_i hz;simp at hz ⊢
 ·simp
theorem Zdx {W:World}{g:Nat}{o:Obj}(h:W.heap[g]?=some o):g<W.heap.size:=by
 rcases Nat.lt_or_ge g W.heap.size with hlt | hge
 ·exact hlt
 ·rw[Array.getElem?_eq_none hge]at h;cases h
theorem Zdy {α:Type}{d:Kd α}{W:World}{g e:Nat}{cs:List Value}{ok:Nat→Prop}{x:α}(h:W.heap[g]?=some (.cells cs.toArray e (0,0)))(hg:ok g)(hx:Kd.FK d W ok x cs):Kd.F d W ok (some ⟨g,0,none⟩) 1 [x]:=fun W' hW=>by
 have hk:=hx W' hW;have hb:W'.heap[g]?=some (.cells cs.toArray e (0,0)):=(hW g hg (Zdx h)).trans h;refine⟨rfl,by omega,fun _=>⟨_,rfl,fun j p hj=>?_⟩⟩;cases j with
 | zero=>
  simp at hj;subst hj;refine⟨cs,d.K_len hk,hk,fun i v hv=>?_⟩;rw[Nat.zero_mul,Nat.zero_add,Zoc,Zaa hb i];simpa using hv
 | succ j=>simp at hj
theorem Zjb {α:Type}{d:Kd α}{W:World}{g e:Nat}{c1 c2:List Value}{ok:Nat→Prop}{x y:α}(h:W.heap[g]?=some (.cells (c1++c2).toArray e (0,0)))(hg:ok g)(hx:Kd.FK d W ok x c1)(hy:Kd.FK d W ok y c2):Kd.F d W ok (some ⟨g,0,none⟩) 2 [x,y]:=fun W' hW=>by
 have hk:=hx W' hW;have hk2:=hy W' hW;have hb:W'.heap[g]?=some (.cells (c1++c2).toArray e (0,0)):=(hW g hg (Zdx h)).trans h;refine⟨rfl,by omega,fun _=>⟨_,rfl,fun j p hj=>?_⟩⟩
 rcases j with _ | _ | j
 ·simp at hj;subst hj;refine⟨c1,d.K_len hk,hk,fun i v hv=>?_⟩;rw[Nat.zero_mul,Nat.zero_add,Zoc,Zaa hb i];have hi:=(List.getElem?_eq_some_iff.1 hv).1;rw[List.getElem?_toArray,List.getElem?_append_left hi];exact hv
 ·simp at hj;subst hj;refine⟨c2,d.K_len hk2,hk2,fun i v hv=>?_⟩;rw[Nat.zero_add,Nat.one_mul,Zoc,Zaa hb];have h1:=d.K_len hk;rw[List.getElem?_toArray,List.getElem?_append_right (by omega),h1,Nat.add_sub_cancel_left];exact hv
 ·simp at hj
theorem Zjo {W:World}{ok:Nat→Prop}{g:Nat}(k:Int){x:S76}(h:Kd.F k76 W ok (some ⟨g,0,none⟩) 1 [x]):Kd.FK k76 W ok (⟨k,[],[],[x]⟩:S76) [.int .i64 k,.slice none 0 0,.slice none 0 0,.slice (some ⟨g,0,none⟩) 1 1]:=
 Zku W ok ⟨k,[],[],[x]⟩ (Nat.le_refl _) (Kd.F_nil _ _ _) (Nat.le_refl _) (Kd.F_nil _ _ _) (Nat.le_refl _) h
theorem Zhr {W:World}{ok:Nat→Prop}{g:Nat}(k:Int){x y:S76}(h:Kd.F k76 W ok (some ⟨g,0,none⟩) 2 [x,y]):Kd.FK k76 W ok (⟨k,[],[],[x,y]⟩:S76) [.int .i64 k,.slice none 0 0,.slice none 0 0,.slice (some ⟨g,0,none⟩) 2 2]:=
 Zku W ok ⟨k,[],[],[x,y]⟩ (Nat.le_refl _) (Kd.F_nil _ _ _) (Nat.le_refl _) (Kd.F_nil _ _ _) (Nat.le_refl _) h
theorem Zro {W:World}{ok:Nat→Prop}{g:Nat}{x:S76}{A1 A2:Option Addr}{c1 c2:Nat}{l1 l2:List ByteArray}(h1:l1.length≤c1)(f1:Kd.F Kd.string W ok A1 l1.length l1)(h2:l2.length≤c2)(f2:Kd.F Kd.string W ok A2 l2.length l2)(h:Kd.F k76 W ok (some ⟨g,0,none⟩) 1 [x]) :
 Kd.FK k76 W ok (⟨3,l1,l2,[x]⟩:S76) [.int .i64 3,.slice A1 l1.length c1,.slice A2 l2.length c2,.slice (some ⟨g,0,none⟩) 1 1]:=
 Zku W ok ⟨3,l1,l2,[x]⟩ h1 f1 h2 f2 (Nat.le_refl _) h
theorem Zoo {α:Type}{d:Kd α}{W:World}{ok:Nat→Prop}{ad:Addr}{n:Nat}{xs:List α}(h:Kd.F d W ok (some ad) n xs) :
 xs.length=n∧∃inner,Reps (fun x c=>Kd.FK d W ok x c) d.sz xs inner∧∀j u,inner[j]?=some u→W.cell? (ad.add j)=some u:=by
 have hr:=Kd.F_rows h;exact⟨hr.1,ReadsRow.inner_ hr⟩
section
variable {P:Program}{ops:Array Oper}{rest:List Oper}{o:Oper}{a:Act}{Q:Exit→Act→World→Prop}{α:Type}
theorem Zea (d:Kd α){w0 W:World}(base:Nat)(hgd:o.guard=none)(s x:Operand)(t e:TypeId)(z:Value)(bytes:Nat)
 (ho:o.op=.call { callee:=.builtin .append,args:=#[s,x],argTypes:=#[t,t] })
 (ht:P.underlying t=some (.slice e)) (hinfo:(P.info? e).map (fun i=>(i.zero,i.size,i.bytes))=some (some z,d.sz,bytes)) (hz:z.cells.size=d.sz) (hb0:0<bytes)
 (b ad:Addr) (k m c:Nat) (xs ys:List α) (ok okp:Nat→Prop) (hs:a.eval s=.slice (some b) k k) (hx:a.eval x=.slice (some ad) m c) (hm:0<m)
 (HO:Kd.F d W okp (some b) k xs) (HR:Kd.F d W okp (some ad) m ys) (hokp:∀k,okp k→ok k) (hfresh:ok W.heap.size)
 (HB:Below base w0 W) (hbase:base≤W.heap.size) (hl:(k+m)*bytes≤140737488355328)
 (h:∀v1 w1,Kd.N d e w1 base ok v1 (xs++ys)→Below base w0 w1→wpList P ops Q rest (a.put o.dst v1) w1) :
 wpList P ops Q (o :: rest) a W:=by
 obtain⟨i0,hi,hzz⟩:=Option.map_eq_some_iff.1 hinfo;simp only[Prod.mk.injEq]at hzz;obtain⟨hz0,hz1,hz2⟩:=hzz;have hlen:k+m≤140737488355328:=Nat.le_trans (Nat.le_mul_of_pos_right _ hb0) hl;obtain⟨hx1,olds,hro,hco⟩:=Zoo HO;obtain⟨hy1,news,hrn,hcn⟩:=Zoo HR;have hr:=run_append_grow (P:=P) W t o.type e i0 z ht hi hz0 b k k olds (by rw[hro.1,hx1,hz1]) hco ad m c news (by rw[hrn.1,hy1,hz1]) hcn (by omega) (by omega) (growslice_fits (by omega) (by rw[hz2];exact hl));have hreps:Reps (fun x c=>Kd.FK d W okp x c) d.sz (xs++ys) (olds++news):=Kd.reps_append hro hrn;have hlz:(xs++ys).length=k+m:=by rw[List.length_append,hx1,hy1]
 have hraw:=Kd.reps_raw hreps (fun x c hk=>⟨d.K_len (Kd.FK_now hk),d.K_one (Kd.FK_now hk)⟩);have hge:=grownCap_ge W (k+m) k e;have hcm:grownCap W (k+m) k e≤maxLen:=grownCap_le_maxLen W (k+m) k e (by simp only[maxLen];omega);have hg:W.grownBy (W.drew.alloc (.cells (olds.toArray++news.toArray++Builtin.zeroCells z.cells (grownCap W (k+m) k e-(k+m))) e)) none:=⟨rfl,rfl,rfl,by simp,fun j hj _=>heap_alloc_old W.drew _ hj⟩
 have hown:(W.drew.alloc (.cells (olds.toArray++news.toArray++Builtin.zeroCells z.cells (grownCap W (k+m) k e-(k+m))) e)).ownsRow base e d.sz (.slice (some ⟨W.heap.size,0,none⟩) (k+m) (grownCap W (k+m) k e)) (Kd.chunks d.sz (xs++ys).length (olds++news)).length (olds++news):=by
  rw[Kd.chunks_length,hlz];refine⟨by rw[hreps.1,hlz],.inr ⟨W.heap.size,_,_,rfl,hbase,heap_alloc_new W.drew _,hge,hcm,?_,?_⟩⟩
  ·simp only[Array.size_append,List.size_toArray,size_zeroCells,hz,hro.1,hrn.1,hx1,hy1,←Nat.add_mul]
   congr 1
   omega
  ·simp only[Array.toList_append,List.append_assoc];rw[←List.append_assoc,←hlz,←hreps.1];exact List.take_left
 refine wpList_plain hgd fun K hK=>?_
 unfold Oper.wp execOp;simp only[ho,resolve,invoke,builtin,Sem.run_bind,Sem.run_pure,Result.andThen_ok,List.map_toArray,List.map_cons,List.map_nil,hs,hx,hr];refine hK _ _ (h _ _ ?_ (HB.grown hg hbase (by simp)));refine Kd.N_made (W:=W) (rows:=Kd.chunks d.sz (xs++ys).length (olds++news)) ⟨fun j hj=>by simp[Value.ownBlock]at hj;omega,olds++news,hown,hraw⟩ hg ⟨W.heap.size,by simp[Value.ownBlock],Nat.le_refl _⟩ (Kd.chunks_length _ _ _) (fun j y c hj hc=>?_) hokp hfresh;rw[Kd.chunks_get hc];exact hreps.2 j y hj
end
theorem and1 (x:Int):bits BinOp.and IntKind.i64 x 1=0∨bits BinOp.and IntKind.i64 x 1=1:=by
 have h:(BitVec.ofInt IntKind.i64.bits x &&& BitVec.ofInt IntKind.i64.bits 1).toNat=(BitVec.ofInt IntKind.i64.bits x).toNat % 2:=by
  rw[BitVec.toNat_and];exact Nat.and_one_is_mod _
 show IntKind.i64.wrap ((BitVec.ofInt IntKind.i64.bits x &&& BitVec.ofInt IntKind.i64.bits 1).toNat:Int)=0∨IntKind.i64.wrap ((BitVec.ofInt IntKind.i64.bits x &&& BitVec.ofInt IntKind.i64.bits 1).toNat:Int)=1;rw[h,IntKind.wrap_i64];omega
def Okp (g0 g1 g2 n:Nat)(k:Nat):Prop:=k=g0∨k=g1∨k=g2∨n≤k
theorem box_N {α:Type}{d:Kd α}{w:World}{e:Nat}{x:α}{cs:List Value}{ok okp:Nat→Prop}(hx:Kd.FK d w okp x cs)(hokp:∀k,okp k→ok k)(hfresh:ok w.heap.size) :
 Kd.N d e (w.alloc (.cells cs.toArray e)) w.heap.size ok (.slice (some ⟨w.heap.size,0,none⟩) 1 1) [x]:=by
 have hl:=d.K_len (Kd.FK_now hx);have ho:=d.K_one (Kd.FK_now hx);have hown:=World.ownsRow_lit (base:=w.heap.size) (e:=e) (size:=d.sz) w cs.toArray 1 (Nat.le_refl _) (by decide) (by simpa using hl);refine Kd.N_made (W:=w) (rows:=[cs]) ⟨fun k hk=>by simp[Value.ownBlock]at hk;omega,cs,hown,⟨by simp[hl,Kd.raw],fun j p hj=>?_⟩⟩ (World.grownBy_alloc _ _ _) ⟨_,rfl,Nat.le_refl _⟩ rfl (fun j y c hy hc=>?_) hokp hfresh
 ·cases j with
  | succ j=>simp at hj
  | zero=>
   simp at hj;subst hj;have e1:(cs.drop (0*d.sz)).take d.sz=cs:=by rw[Nat.zero_mul,List.drop_zero,←hl,List.take_length]
   show (cs.drop (0*d.sz)).take d.sz=cs∧((cs.drop (0*d.sz)).take d.sz).length=d.sz∧∀u∈(cs.drop (0*d.sz)).take d.sz,u.oneCell'=true;rw[e1];exact⟨rfl,hl,ho⟩
 ·cases j with
  | succ j=>simp at hy
  | zero=>
   simp at hy hc;rw[←hy,←hc];exact hx
theorem Zcb {α:Type}{d:Kd α}{w:World}{e base g:Nat}{x:α}{ok:Nat→Prop}(h:Kd.N d e w base ok (.slice (some ⟨g,0,none⟩) 1 1) [x]) :
 ∃c,w.heap[g]?=some (.cells c.toArray e (0,0))∧Kd.FK d w (fun k=>ok k∧k≠g) x c:=by
 obtain⟨_,rows,hl,⟨_,inner,ho,hr⟩,hf⟩:=h
 match rows,hl with
 | [r],_=>
  have hM:=hr.2 0 r rfl;have hil:=hr.1
  rcases ho.2 with⟨h1,_⟩ | ⟨g1,c1,cur,h1,_,h3,_,_,h6,h7⟩
  ·cases h1
  ·injection h1 with h1 _ h2
   injection h1 with h1
   injection h1 with h1
   subst h1;subst h2;have e1:cur.toList=inner:=by
    rw[←h7];exact (List.take_of_length_le (by rw[Array.length_toList,h6];exact Nat.le_refl _)).symm
   have e2:(inner.drop (0*d.sz)).take d.sz=inner:=by
    rw[Nat.zero_mul,List.drop_zero,List.take_of_length_le (by rw[hil];simp[Kd.raw])]
   have e3:inner=r:=by
    have h9:(inner.drop (0*d.sz)).take d.sz=r:=hM.1;rw[e2]at h9;exact h9
   refine⟨r,?_,Kd.FK_mono (hf 0 x r rfl rfl) (fun k hk=>⟨hk.1,fun he=>hk.2 (by rw[he];rfl)⟩)⟩;rw[h3,←e3,←e1]
theorem Zbo {w:World}{g e:Nat}{cs:List Value}(h:w.heap[g]?=some (.cells cs.toArray e (0,0)))(sz:Nat):∀j u,cs[j]?=some u→w.cell? ⟨g,(0:Int).toNat*sz+j,none⟩=some u:=by
 intro j u hu;rw[show (0:Int).toNat*sz+j=j by simp,Zaa h];simpa using hu
end Go.Proofs.YtaokkliamoghbaaGreatDoor.PVpa
