/- Joined from texts of this seat, in their order. -/
import Derived.Test.YtaokkliamoghbaaGreatDoorJAt
import Derived.Test.YtaokkliamoghbaaGreatDoorJAc
import Derived.Test.YtaokkliamoghbaaGreatDoorJAu
import Derived.Deep.QuietTactic
set_option linter.unusedVariables false
set_option linter.unusedSimpArgs false
set_option linter.unusedSectionVars false
set_option linter.unusedVariables false
set_option maxRecDepth 100000
namespace Go.Proofs.YtaokkliamoghbaaGreatDoor.PVpa
open Go.RowKit Go.Proofs.YtaokkliamoghbaaGreatDoorW.PrintWords Go.Proofs.YtaokkliamoghbaaGreatDoorW.PrintLast Go.Proofs.YtaokkliamoghbaaGreatDoorW.PrintMore
open PDet (VM VOk Wf In Zbi toks number)
def Zoh (G:S26)(n:Nat)(p t kind:Int):Bool:=
 decide (0≤p∧p<n∧t<G.f0.length)&&((decide (0≤t)&&decide ((Zqd G t).f1=kind))||(decide (t=-1)&&decide (kind=0)))
theorem Zni {G:S26}{n:Nat}{p t kind:Int}(h:Zoh G n p t kind=true):0≤p∧p<n∧-1≤t∧t<G.f0.length:=by
 unfold Zoh at h;simp only[Bool.and_eq_true,Bool.or_eq_true,decide_eq_true_eq]at h;omega
theorem mayD_in {w:World}{gb:Nat}{G:S26}{n:Nat}{At As:Option Addr}{ct cs:Nat}(g0:w.cell? ⟨gb,0,none⟩=some (.slice At G.f0.length ct))(g2:w.cell? ⟨gb,4,none⟩=some (.slice As n cs))(HT:Zrw (k70.C w At G.f0.length G.f0))(p t kind:Int) :
 Calls Tryz.prog 46 #[.pointer (some ⟨gb,0,none⟩),.int .i64 p,.int .i64 t,.int .i64 kind] w fun e w'=>e=.returned (.bool (Zoh G n p t kind))∧w'=w:=by
 by_cases a1:0≤p
 rotate_left
 ·have q1:decide (p<0)=true:=decide_eq_true (by omega);have e:Zoh G n p t kind=false:=by unfold Zoh;rw[decide_eq_false (by omega)];rfl
  rw[e];clear e a1
  go_enter Tryz.func46,Tryz.ntmps46
  go_wp2
  go_ret
  exact⟨rfl,rfl⟩
 have q1:decide (p<0)=false:=decide_eq_false (by omega);by_cases a2:p<n
 rotate_left
 ·have q2:decide ((n:Int)≤p)=true:=decide_eq_true (by omega);have e:Zoh G n p t kind=false:=by unfold Zoh;rw[decide_eq_false (by omega)];rfl
  rw[e];clear e a1 a2
  go_enter Tryz.func46,Tryz.ntmps46
  go_wp2
  go_ret
  exact⟨rfl,rfl⟩
 have q2:decide ((n:Int)≤p)=false:=decide_eq_false (by omega);by_cases a3:t<G.f0.length
 rotate_left
 ·have q3:decide ((G.f0.length:Int)≤t)=true:=decide_eq_true (by omega);have e:Zoh G n p t kind=false:=by unfold Zoh;rw[decide_eq_false (by omega)];rfl
  rw[e];clear e a1 a2 a3
  go_enter Tryz.func46,Tryz.ntmps46
  go_wp2
  go_ret
  exact⟨rfl,rfl⟩
 have q3:decide ((G.f0.length:Int)≤t)=false:=decide_eq_false (by omega);have e:Zoh G n p t kind=((decide (0≤t)&&decide ((Zqd G t).f1=kind))||(decide (t=-1)&&decide (kind=0))):=by unfold Zoh;rw[decide_eq_true ⟨a1,a2,a3⟩];rfl
 rw[e];clear e a1 a2;by_cases b0:0≤t
 ·obtain⟨ad,A4,c4,A5,c5,rfl,_,k1,_⟩:=Zji HT.out t b0 a3;have r0:decide (0≤t)=true:=decide_eq_true b0;have r1:(t==-1)=false:=by simp;omega
  have r2:decide (t=-1)=false:=decide_eq_false (by omega);rw[r0,r2];change w.cell? _=some (.int .i64 (Zqd G t).f1)at k1;generalize (Zqd G t).f1=k at k1 ⊢;by_cases c:k=kind
  ·subst c
   go_enter Tryz.func46,Tryz.ntmps46
   go_wp2
   go_ret
   exact⟨by simp,rfl⟩
  ·have s1:(k==kind)=false:=by simpa using c
   go_enter Tryz.func46,Tryz.ntmps46
   go_wp2
   go_ret
   exact⟨by simp[c],rfl⟩
 ·have r0:decide (0≤t)=false:=decide_eq_false b0;rw[r0];clear b0 a3;by_cases b1:t=-1
  ·subst b1;by_cases c:kind=0
   ·subst c
    go_enter Tryz.func46,Tryz.ntmps46
    go_wp2
    go_ret
    exact⟨by simp,rfl⟩
   ·have s1:(kind==0)=false:=by simpa using c
    go_enter Tryz.func46,Tryz.ntmps46
    go_wp2
    go_ret
    exact⟨by simp[c],rfl⟩
  ·have s1:(t==-1)=false:=by simpa using b1
   go_enter Tryz.func46,Tryz.ntmps46
   go_wp2
   go_ret
   exact⟨by simp[b1],rfl⟩
theorem may_nil (w:World)(p t kind:Int):Calls Tryz.prog 46 #[.pointer none,.int .i64 p,.int .i64 t,.int .i64 kind] w fun e w'=>e=.returned (.bool false)∧w'=w:=by
 go_enter Tryz.func46,Tryz.ntmps46
 go_wp2
 go_ret
 exact⟨rfl,rfl⟩
theorem told_nil (w:World)(p t kind:Int):Calls Tryz.prog 45 #[.pointer none,.int .i64 p,.int .i64 t,.int .i64 kind] w fun e w'=>e=.returned (.int .i64 (-1))∧w'=w:=by
 have H:=Zrw.mk (may_nil w p t kind)
 go_enter Tryz.func45,Tryz.ntmps45
 go_wp2_with (go_at_call 46;(with_reducible refine H.out.mono ?_);rintro e1 w1 ⟨rfl,hw1⟩;obtain rfl:=hw1.symm)
 go_ret
 exact⟨rfl,rfl⟩
theorem int_nilD (w:World)(p t:Int):Calls Tryz.prog 15 #[.pointer none,.int .i64 p,.int .i64 t] w fun e w'=>e=.returned (.int .i64 (-1))∧w'=w:=by
 have H:=Zrw.mk (told_nil w p t 0)
 go_enter Tryz.func15,Tryz.ntmps15
 go_wp2_with (go_at_call 45;(with_reducible refine H.out.mono ?_);rintro e1 w1 ⟨rfl,hw1⟩;obtain rfl:=hw1.symm)
 go_ret
 exact⟨rfl,rfl⟩
theorem lenD_nil (w:World):Calls Tryz.prog 13 #[.pointer none] w fun e w'=>e=.returned (.int .i64 0)∧w'=w:=by
 go_enter Tryz.func13,Tryz.ntmps13
 go_wp2
 go_ret
 exact⟨rfl,rfl⟩
section
variable {D:DK}{ok:Nat→Prop}{w:World}{s:PDet.St}{ns:List (List (Int × Int))}
theorem may_D (hk:D.Ok)(h:DS D ok w ns s)(p t kind:Int):Calls Tryz.prog 46 #[.pointer (some ⟨D.gd,0,none⟩),.int .i64 p,.int .i64 t,.int .i64 kind] w fun e w'=>e=.returned (.bool (Zoh D.G s.L.length p t kind))∧w'=w:=by
 obtain⟨vs,vo,hc,hR,_⟩:=h.cell;obtain⟨As,cs,rfl,_⟩:=Kd.R_reads hR;exact mayD_in ((Zaa hc 0).trans rfl) ((Zaa hc 4).trans rfl) ⟨Kd.C_below hk.toks h.bel⟩ p t kind
theorem len_D (h:DS D ok w ns s):Calls Tryz.prog 13 #[.pointer (some ⟨D.gd,0,none⟩)] w fun e w'=>e=.returned (.int .i64 s.L.length)∧w'=w:=by
 obtain⟨vs,vo,hc,hR,_⟩:=h.cell;obtain⟨As,cs,rfl,_⟩:=Kd.R_reads hR;have g2:w.cell? ⟨D.gd,4,none⟩=some (.slice As s.L.length cs):=(Zaa hc 4).trans rfl;clear h hc hR;generalize D.gd=gd at *;generalize s.L.length=n at *
 go_enter Tryz.func13,Tryz.ntmps13
 go_wp2
 go_ret
 exact⟨rfl,rfl⟩
def Zmx (G:S26)(s:PDet.St)(p t kind:Int):Int:=if Zoh G s.L.length p t kind=true then (s.one.getD p.toNat []).getD (t+1).toNat 0 else -1
def Rows (D:DK)(s:PDet.St):Prop:=s.one.length=s.L.length∧∀r∈s.one,r.length=D.G.f0.length+1
theorem told_D (hk:D.Ok)(h:DS D ok w ns s)(hr:Rows D s)(p t kind:Int):Calls Tryz.prog 45 #[.pointer (some ⟨D.gd,0,none⟩),.int .i64 p,.int .i64 t,.int .i64 kind] w fun e w'=>e=.returned (.int .i64 (Zmx D.G s p t kind))∧w'=w:=by
 have H:=Zrw.mk (may_D hk h p t kind);unfold Zmx;cases hm:Zoh D.G s.L.length p t kind with
 | false=>
  rw[hm]at H;simp only[Bool.false_eq_true,if_false];clear h hk hr hm
  go_enter Tryz.func45,Tryz.ntmps45
  go_wp2_with (go_at_call 46;(with_reducible refine H.out.mono ?_);rintro e1 w1 ⟨rfl,hw1⟩;obtain rfl:=hw1.symm)
  go_ret
  exact⟨rfl,rfl⟩
 | true=>
  rw[hm]at H;simp only[if_true];have hp:=Zni hm;have hi:p.toNat<s.one.length:=by have:=hr.1;omega
  obtain⟨vs,vo,hc,_,hO⟩:=h.cell;obtain⟨g,cap,u,rfl,hu,hR⟩:=R_elem hO p.toNat hi;have hrl:=hr.2 _ (List.getElem_mem hi);have eg:s.one.getD p.toNat []=s.one[p.toNat]:=by rw[List.getD_eq_getElem?_getD,List.getElem?_eq_getElem hi];rfl
  rw[eg];have hon:=hr.1;generalize s.one[p.toNat]=r at *;obtain⟨A,c,rfl,_⟩:=Kd.R_reads hR;have ht:(t+1).toNat<r.length:=by omega
  obtain⟨g5,rfl,p5⟩:=Zfz hR (t+1).toNat ht;have er:r.getD (t+1).toNat 0=r[(t+1).toNat]:=by rw[List.getD_eq_getElem?_getD,List.getElem?_eq_getElem ht];rfl
  rw[er];generalize r[(t+1).toNat]=x at *;have g2:w.cell? ⟨D.gd,6,none⟩=some (.slice (some ⟨g,0,none⟩) s.one.length cap):=(Zaa hc 6).trans rfl;have hfew:=hk.few;obtain⟨t1,ht1⟩:∃t1,t1=t+1:=⟨_,rfl⟩
  have hw:wrap64 (t+1)=t1:=by unfold wrap64;omega
  have i1:0≤p:=hp.1;have i2:p<(s.one.length:Int):=by omega
  rw[←ht1]at p5;have i3:0≤t1:=by omega
  have i4:t1<(r.length:Int):=by omega
  clear h hk hr hm hc hO hR er eg hp hi ht hrl hon hfew ht1;generalize s.one.length=n at *;generalize r.length=m at *;generalize D.gd=gd at *
  go_enter Tryz.func45,Tryz.ntmps45
  go_wp2_with (go_at_call 46;(with_reducible refine H.out.mono ?_);rintro e1 w1 ⟨rfl,hw1⟩;obtain rfl:=hw1.symm)
  go_ret
  exact⟨rfl,rfl⟩
theorem int_D (hk:D.Ok)(h:DS D ok w ns s)(hr:Rows D s)(p t:Int):Calls Tryz.prog 15 #[.pointer (some ⟨D.gd,0,none⟩),.int .i64 p,.int .i64 t] w fun e w'=>e=.returned (.int .i64 (Zmx D.G s p t 0))∧w'=w:=by
 have H:=Zrw.mk (told_D hk h hr p t 0);clear h hk hr
 go_enter Tryz.func15,Tryz.ntmps15
 go_wp2_with (go_at_call 45;(with_reducible refine H.out.mono ?_);rintro e1 w1 ⟨rfl,hw1⟩;obtain rfl:=hw1.symm)
 go_ret
 exact⟨rfl,rfl⟩
theorem call_D (hk:D.Ok)(h:DS D ok w ns s)(hr:Rows D s)(p t:Int):Calls Tryz.prog 16 #[.pointer (some ⟨D.gd,0,none⟩),.int .i64 p,.int .i64 t] w fun e w'=>e=.returned (.int .i64 (Zmx D.G s p t 1))∧w'=w:=by
 have H:=Zrw.mk (told_D hk h hr p t 1);clear h hk hr
 go_enter Tryz.func16,Tryz.ntmps16
 go_wp2_with (go_at_call 45;(with_reducible refine H.out.mono ?_);rintro e1 w1 ⟨rfl,hw1⟩;obtain rfl:=hw1.symm)
 go_ret
 exact⟨rfl,rfl⟩
end
end Go.Proofs.YtaokkliamoghbaaGreatDoor.PVpa
set_option linter.unusedVariables false
namespace Go.Proofs.YtaokkliamoghbaaGreatDoor.PVpa
open Go.RowKit Go.Proofs.YtaokkliamoghbaaGreatDoorW.PrintWords Go.Proofs.YtaokkliamoghbaaGreatDoorW.PrintLast Go.Proofs.YtaokkliamoghbaaGreatDoorW.PrintMore
open PDet (VM VOk Wf In Zbi toks number)
section
variable {D:DK}{ok:Nat→Prop}{w:World}{s:PDet.St}{ns:List (List (Int × Int))}
def retI (G:S26)(s:PDet.St)(i j c t:Int):Int:=if Zoh G s.L.length i t 2=true∧Zoh G s.L.length j c 1=true then ((s.ret.find? fun e=>e.1==(i.toNat,j.toNat,c,t)).map (·.2)).getD 0 else -1
set_option maxHeartbeats 1000000 in
theorem ret_D (hk:D.Ok)(h:DS D ok w ns s)(hL:s.L.length≤1000)(i j c t:Int):Calls Tryz.prog 18 #[.pointer (some ⟨D.gd,0,none⟩),.int .i64 i,.int .i64 j,.int .i64 c,.int .i64 t] w fun e w'=>e=.returned (.int .i64 (retI D.G s i j c t))∧w'=w:=by
 have H1:=Zrw.mk (may_D hk h i t 2);have H2:=Zrw.mk (may_D hk h j c 1);unfold retI;cases hm:Zoh D.G s.L.length i t 2 with
 | false=>
  rw[hm]at H1;rw[if_neg (by simp)];clear h hk hm H2
  go_enter Tryz.func18,Tryz.ntmps18
  go_wp2_with (go_at_call 46;(with_reducible refine H1.out.mono ?_);rintro e1 w1 ⟨rfl,hw1⟩;obtain rfl:=hw1.symm)
  go_ret
  exact⟨rfl,rfl⟩
 | true=>
  have hp:=Zni hm;rw[hm]at H1;cases hm2:Zoh D.G s.L.length j c 1 with
  | false=>
   rw[hm2]at H2;rw[if_neg (by simp)];clear h hk hm hp hm2
   go_enter Tryz.func18,Tryz.ntmps18
   go_wp2_with (first | (have tok1:=0;go_at_call 46;(with_reducible refine H1.out.mono ?_);rintro e1 w1 ⟨rfl,hw1⟩;obtain rfl:=hw1.symm) | (clear tok1;go_at_call 46;(with_reducible refine H2.out.mono ?_);rintro e1 w1 ⟨rfl,hw1⟩;obtain rfl:=hw1.symm))
   go_ret
   exact⟨rfl,rfl⟩
  | true=>
   have hq:=Zni hm2;rw[hm2]at H2;rw[if_pos ⟨rfl,rfl⟩];have hfew:=hk.few;obtain⟨i',rfl⟩:∃i':Nat,i=i':=⟨i.toNat,by omega⟩
   obtain⟨j',rfl⟩:∃j':Nat,j=j':=⟨j.toNat,by omega⟩
   obtain⟨vs,vo,hc,_,_⟩:=h.cell;have g2:w.cell? ⟨D.gd,7,none⟩=some (.map (some D.br)):=(Zaa hc 7).trans rfl;obtain⟨M,hM,hMs⟩:=h.ret;obtain⟨kl,hkl⟩:=key95 (p:=(i':Int)) (q:=(j':Int)) (r:=c) (t:=t) ⟨by omega,by omega⟩ ⟨by omega,by omega⟩ ⟨by omega,by omega⟩ ⟨by omega,by omega⟩;have hlk:=hM.look keyed95 Tryz.underlying82 (show (zeroValue 3).run Tryz.prog w=.ok (.int .i64 0) w from by kernel_rfl) hkl false;have hv:=hMs i' j' c t;unfold k4 at hv;rw[hv]at hlk;rw[Int.toNat_natCast,Int.toNat_natCast];have ex:(Option.map (fun e=>Value.int .i64 e.2) (s.ret.find? fun e=>e.1==(i',j',c,t))).getD (.int .i64 0)=.int .i64 ((Option.map (·.2) (s.ret.find? fun e=>e.1==(i',j',c,t))).getD 0):=by
    cases s.ret.find? fun e=>e.1==(i',j',c,t) <;> rfl
   rw[ex]at hlk;generalize (Option.map (·.2) (s.ret.find? fun e=>e.1==(i',j',c,t))).getD 0=x at *;have HLK:=Zrw.mk hlk;clear h hk hm hm2 hp hq hc hM hMs hv ex hfew hkl hlk;generalize D.gd=gd at *;generalize D.br=br at *;clear hL
   go_enter Tryz.func18,Tryz.ntmps18
   go_wp2_with (first | (have tok1:=0;go_at_call 46;(with_reducible refine H1.out.mono ?_);rintro e1 w1 ⟨rfl,hw1⟩;obtain rfl:=hw1.symm) | (clear tok1;go_at_call 46;(with_reducible refine H2.out.mono ?_);rintro e1 w1 ⟨rfl,hw1⟩;obtain rfl:=hw1.symm) | (at_lookup;refine Zfd rfl (.tmp 26) (.tmp 31) 82 rfl br (.agg #[.int .i64 i',.int .i64 j',.int .i64 c,.int .i64 t]) (.int .i64 x) rfl rfl HLK.out ?_))
   go_ret
   exact⟨rfl,rfl⟩
end
end Go.Proofs.YtaokkliamoghbaaGreatDoor.PVpa
set_option linter.unusedVariables false
namespace Go.Proofs.YtaokkliamoghbaaGreatDoor.PVpa
open Go.RowKit Go.Proofs.YtaokkliamoghbaaGreatDoorW.PrintWords Go.Proofs.YtaokkliamoghbaaGreatDoorW.PrintLast Go.Proofs.YtaokkliamoghbaaGreatDoorW.PrintMore
open PDet (VM VOk Wf In Zbi toks number)
def Zoa (M:Mach)(best:Int)(x:Int × Int):Int:=if 0≤Zgr M x.2∧(best<0∨Zgr M x.2<best)then Zgr M x.2 else best
def ruleD (M:Mach)(l:List (Int × Int)):Int:=l.foldl (Zoa M) (-1)
theorem Zrh {α β:Type}{f:β→α→β}{b:β}{l:List α}{k:Nat}(h:k<l.length):(l.take (k+1)).foldl f b=f ((l.take k).foldl f b) l[k]:=by
 rw[List.take_succ_eq_append_getElem h,List.foldl_append]
 rfl
section
variable {D:DK}{ok:Nat→Prop}{w:World}{s:PDet.St}{ns:List (List (Int × Int))}
set_option maxHeartbeats 4000000 in
theorem rule_D (hk:D.Ok)(h:DS D ok w ns s)(i:Nat)(hi:i<s.L.length):Calls Tryz.prog 19 #[.pointer (some ⟨D.gd,0,none⟩),.int .i64 i] w fun e w'=>e=.returned (.int .i64 (ruleD D.M (s.L.getD i [])))∧Below w.heap.size w w':=by
 obtain⟨vs,vo,hc,hR,_⟩:=h.cell;have q2:w.cell? ⟨D.gd,2,none⟩=some (.pointer (some ⟨D.gb,0,none⟩)):=(Zaa hc 2).trans rfl;have hin:=h.wf _ (List.getElem_mem hi);have hrl:s.L.getD i []=s.L[i]:=by rw[List.getD_eq_getElem?_getD,List.getElem?_eq_getElem hi];rfl
 obtain⟨g,cap,u,rfl,hu,hRr⟩:=R_elem hR i hi;have q4:w.cell? ⟨D.gd,4,none⟩=some (.slice (some ⟨g,0,none⟩) s.L.length cap):=(Zaa hc 4).trans rfl;rw[hrl];generalize s.L[i]=row at *;have HRL:Zrw (row.length≤90000):=⟨by
  have h1:=PDet.ris_len hin.1 hin.2;have hfew:=hk.v.few;have h2:=Nat.mul_le_mul hfew hfew;omega⟩
 have HO:=Zrw.mk (Zcl hRr);obtain⟨A,c,rfl,_⟩:=Kd.R_reads hRr;have HRU:=Zrw.mk (fun (W:World) (hb:Below w.heap.size w W) (p:Int)=>rule_call W D.gb D.G D.M D.φ (hk.vr.below (Zae h.bel hb)) hk.ok p);have q1:decide (s.L.length≤i)=false:=decide_eq_false (by omega);have q1':decide ((s.L.length:Int)≤(i:Int))=false:=decide_eq_false (by omega);have hsm:(s.L.length:Int)<9223372036854775808∨True:=.inr trivial;obtain⟨n,hn⟩:∃n,n=s.L.length:=⟨_,rfl⟩
 rw[←hn]at *;clear hc hR hrl hin hRr h hk hsm hn;generalize D.gd=gd at *;generalize D.gb=gb at *;generalize D.M=M at *;generalize D.b0=b0 at *
 go_enter Tryz.func19,Tryz.ntmps19
 go_wp2
 go_loopw [5,32] (fun out ix wr=>∃(k:Nat) (best:Int),k≤row.length∧out=.int .i64 best∧ix=.int .i64 k∧Zrw (Below w.heap.size w wr∧(row.take k).foldl (Zoa M) (-1)=best)) (fun _ ix _=>row.length-(intOf ix).toNat)
 case atStart=>exact⟨0,_,by omega,rfl,rfl,⟨Zbr,rfl⟩⟩
 case round=>
  obtain⟨k,best,hkl,rfl,rfl,HS⟩:=hrel;by_cases hkn:k<row.length
  ·obtain⟨g5,rfl⟩:∃g5,A=some ⟨g5,0,none⟩:=by
    rcases HO.out.2 with⟨he,hz⟩ | ⟨g,cap,cur,he,_⟩
    ·omega
    ·injection he with he;exact⟨g,he⟩
   obtain⟨p0,p1⟩:=HO.out.at k hkn;rw[Zhm hkn]at p0 p1;have p0:=Zad HS.out.1 p0;have p1:=Zad HS.out.1 p1;have q2':=Zad HS.out.1 q2;have HF:Zrw ((row.take (k+1)).foldl (Zoa M) (-1)=Zoa M best row[k]):=⟨by rw[Zrh hkn,HS.out.2]⟩
   generalize row[k]=x at *;obtain⟨x1,x2⟩:=x;simp only at p0 p1;have hbx:(wr.alloc (.cells #[.int .i64 x1,.int .i64 x2] 90)).heap[wr.heap.size]?=some (.cells #[.int .i64 x1,.int .i64 x2] 90 (0,0)):=Zaj _ _;have HB:=Zrw.mk (Zab HS.out.1 (.cells #[.int .i64 x1,.int .i64 x2] 90));have y1:(wr.alloc (.cells #[.int .i64 x1,.int .i64 x2] 90)).cell? ⟨wr.heap.size,1,none⟩=some (.int .i64 x2):=(Zaa hbx 1).trans rfl;have y2:(wr.alloc (.cells #[.int .i64 x1,.int .i64 x2] 90)).cell? ⟨gd,2,none⟩=some (.pointer (some ⟨gb,0,none⟩)):=Zad (Zab HS.out.1 (.cells #[.int .i64 x1,.int .i64 x2] 90)) q2;have hd:decide (k<row.length)=true:=decide_eq_true hkn;have HKN:=Zrw.mk hkn;clear hbx
   go_wp2_with fail
   generalize wr.alloc (.cells #[.int .i64 x1,.int .i64 x2] 90)=X at *;generalize wr.heap.size=bx at *;have HRX:=Zrw.mk (fun m=>HRU.out (X.drewN m) (Zag HB.out m) x2)
   go_quiet ((go_at_call 47;exact Calls.quiet_of ((HRX.out _).mono (fun _ _ ⟨h,hd⟩=>⟨h,hd.out⟩))))
   have HF2:Zrw ((row.take (k+1)).foldl (Zoa M) (-1)=if 0≤Zgr M x2∧(best<0∨Zgr M x2<best)then Zgr M x2 else best):=⟨HF.out⟩
   have HDN:=Zrw.mk (Zag HB.out nq);have hw:=Zej hkn (Nat.le_trans HRL.out (by decide));generalize Zgr M x2=r at HF2 ⊢;clear HF HRX y1 y2 q2' p0 p1 hd HB;generalize X.drewN nq=X1 at *;by_cases c1:0≤r
   ·have d1:decide (0≤r)=true:=decide_eq_true c1;by_cases c2:best<0
    ·have d2:decide (best<0)=true:=decide_eq_true c2;have HV:Zrw ((row.take (k+1)).foldl (Zoa M) (-1)=r):=⟨by rw[HF2.out,if_pos ⟨c1,.inl c2⟩]⟩
     go_wp2
     go_roundw
     case rel=>exact⟨k+1,_,HKN.out,rfl,by rw[hw],⟨HDN.out,HV.out⟩⟩
     case measure=>rw[hw];simp only[intOf];exact Zds HKN.out
    ·have d2:decide (best<0)=false:=decide_eq_false c2;by_cases c3:r<best
     ·have d3:decide (r<best)=true:=decide_eq_true c3;have HV:Zrw ((row.take (k+1)).foldl (Zoa M) (-1)=r):=⟨by rw[HF2.out,if_pos ⟨c1,.inr c3⟩]⟩
      go_wp2
      go_roundw
      case rel=>exact⟨k+1,_,HKN.out,rfl,by rw[hw],⟨HDN.out,HV.out⟩⟩
      case measure=>rw[hw];simp only[intOf];exact Zds HKN.out
     ·have d3:decide (r<best)=false:=decide_eq_false c3;have HV:Zrw ((row.take (k+1)).foldl (Zoa M) (-1)=best):=⟨by rw[HF2.out,if_neg (fun hh=>hh.2.elim c2 c3)]⟩
      go_wp2
      go_roundw
      case rel=>exact⟨k+1,_,HKN.out,rfl,by rw[hw],⟨HDN.out,HV.out⟩⟩
      case measure=>rw[hw];simp only[intOf];exact Zds HKN.out
   ·have d1:decide (0≤r)=false:=decide_eq_false c1;have HV:Zrw ((row.take (k+1)).foldl (Zoa M) (-1)=best):=⟨by rw[HF2.out,if_neg (fun hh=>c1 hh.1)]⟩
    go_wp2
    go_roundw
    case rel=>exact⟨k+1,_,HKN.out,rfl,by rw[hw],⟨HDN.out,HV.out⟩⟩
    case measure=>rw[hw];simp only[intOf];exact Zds HKN.out
  ·have hke:k=row.length:=by omega
   subst hke;have hd:decide (row.length<row.length)=false:=decide_eq_false (by omega);have HF:Zrw (ruleD M row=best):=⟨by have:=HS.out.2;rw[List.take_length]at this;exact this⟩
   go_wp2
   go_ret
   exact⟨by rw[HF.out];rfl,HS.out.1⟩
end
end Go.Proofs.YtaokkliamoghbaaGreatDoor.PVpa
set_option linter.unusedVariables false
namespace Go.Proofs.YtaokkliamoghbaaGreatDoor.PVpa
open Go.RowKit Go.Proofs.YtaokkliamoghbaaGreatDoorW.PrintWords Go.Proofs.YtaokkliamoghbaaGreatDoorW.PrintLast Go.Proofs.YtaokkliamoghbaaGreatDoorW.PrintMore
open PDet (VM VOk Wf In Zbi toks number)
theorem eql89_nil (w:World):(binOp BinOp.eql 89 (.slice none 0 0) (.slice none 0 0)).run Tryz.prog w=.ok (.bool true) w:=by kernel_rfl
theorem eql89_some (w:World)(g n c:Nat):(binOp BinOp.eql 89 (.slice (some ⟨g,0,none⟩) n c) (.slice none 0 0)).run Tryz.prog w=.ok (.bool false) w:=by kernel_rfl
set_option maxHeartbeats 2000000 in
theorem clone_P (w:World)(b:Nat)(ok:Nat→Prop)(v:Value)(l:List (Int × Int))(h:kP.R 90 w b ok v l)(hl:l.length≤1000000) :
 Calls Tryz.prog 44 #[v] w fun e w'=>∃A' c',e=.returned (.slice A' l.length c')∧Below w.heap.size w w':=by
 rcases (Zcl h).2 with⟨he,hz⟩ | ⟨g,cap,cur,he,_⟩
 ·subst he;rw[hz];clear h;have e1:=eql89_nil
  go_enter Tryz.func44,Tryz.ntmps44
  go_wp2
  go_ret
  exact⟨none,0,rfl,Zbr⟩
 ·subst he;obtain⟨A,c,hv,hle,hC⟩:=Kd.R_reads h;injection hv with hv1 hv2 hv3
  subst hv1 hv3;have HC:=Zrw.mk hC;clear h hv2 hC;obtain⟨n,hn⟩:∃n,n=l.length:=⟨_,rfl⟩
  have HN:=Zrw.mk hn;rw[←hn]at hle ⊢;have e1:=fun w=>eql89_some w g n cap
  have HB:=Zrw.mk (Zab (Below.refl _ w) (.cells #[] 90));have HO:Zrw (kP.R 90 (w.alloc (.cells #[] 90)) w.heap.size (fun _=>True) (.slice (some ⟨w.heap.size,0,none⟩) 0 0) ([]:List (Int × Int))):=⟨Zli (l:=[]) ⟨rfl,.inr ⟨w.heap.size,0,#[],rfl,Nat.le_refl _,Zaj _ _,Nat.le_refl _,Nat.zero_le _,rfl,rfl⟩⟩ (fun _ _=>trivial)⟩
  have HCB:Zrw (kP.C (w.alloc (.cells #[] 90)) (some ⟨g,0,none⟩) n l):=⟨Kd.C_below (by rw[HN.out];exact HC.out) HB.out⟩
  have HS:Zrw (w.heap.size≤(w.alloc (.cells #[] 90)).heap.size):=⟨Zcs HB.out⟩
  have HL:Zrw (n≤1000000):=⟨by rw[hn];exact hl⟩
  clear HC hn hle hl
  go_enter Tryz.func44,Tryz.ntmps44
  go_wp2_with ((with_reducible refine Zal (b:=.append) (xs:=#[.tmp 5,.tmp 6]) rfl ?_);at_builtin;refine Kd.R_append_rows kP (w0:=w) w.heap.size rfl (.tmp 5) (.tmp 6) 89 90 (.agg #[.int .i64 0,.int .i64 0]) 16 rfl Tryz.underlying89 info53 rfl (by decide) (by omega) (.slice (some ⟨w.heap.size,0,none⟩) 0 0) ([]:List (Int × Int)) l (some ⟨g,0,none⟩) n cap (fun _=>True) (fun _=>False) rfl rfl HO.out HCB.out (fun _ _ h=>h) (fun _ h=>h.elim) (fun _ _=>trivial) HB.out HS.out (by simp only[List.length_nil];have:=HL.out;omega) ?_;intro v2 w2 ho2 hb2 hg2 hat2;obtain⟨A2,c2,rfl,_⟩:=Kd.R_reads ho2;have HB2:=Zrw.mk hb2;clear ho2 hb2 hg2 hat2)
  go_ret
  exact⟨A2,c2,by rw[HN.out];rfl,HB2.out⟩
section
variable {D:DK}{ok:Nat→Prop}{w:World}{s:PDet.St}{ns:List (List (Int × Int))}
theorem pairs_D (hk:D.Ok)(h:DS D ok w ns s)(i:Nat)(hi:i<s.L.length):Calls Tryz.prog 14 #[.pointer (some ⟨D.gd,0,none⟩),.int .i64 i] w fun e w'=>∃A' c',e=.returned (.slice A' (s.L.getD i []).length c')∧Below w.heap.size w w':=by
 obtain⟨vs,vo,hc,hR,_⟩:=h.cell;have hin:=h.wf _ (List.getElem_mem hi);have hrl:s.L.getD i []=s.L[i]:=by rw[List.getD_eq_getElem?_getD,List.getElem?_eq_getElem hi];rfl
 obtain⟨g,cap,u,rfl,hu,hRr⟩:=R_elem hR i hi;have q4:w.cell? ⟨D.gd,4,none⟩=some (.slice (some ⟨g,0,none⟩) s.L.length cap):=(Zaa hc 4).trans rfl;rw[hrl];generalize s.L[i]=row at *;have hRL:row.length≤90000:=by
  have h1:=PDet.ris_len hin.1 hin.2;have hfew:=hk.v.few;have h2:=Nat.mul_le_mul hfew hfew;omega
 have HC:=Zrw.mk (clone_P w D.b0 ok u row hRr (Nat.le_trans hRL (by decide)));have q1:decide (s.L.length≤i)=false:=decide_eq_false (by omega);have q1':decide ((s.L.length:Int)≤(i:Int))=false:=decide_eq_false (by omega);obtain⟨A,c,rfl,_⟩:=Kd.R_reads hRr;clear hc hR hrl hin hRr h hk hRL;generalize D.gd=gd at *;generalize s.L.length=n at *
 go_enter Tryz.func14,Tryz.ntmps14
 go_wp2_with (go_at_call 44;(with_reducible refine HC.out.mono ?_);rintro e1 w1 ⟨A1,c1,rfl,hb1⟩;have HB1:=Zrw.mk hb1;clear hb1)
 go_ret
 exact⟨A1,c1,rfl,HB1.out⟩
end
end Go.Proofs.YtaokkliamoghbaaGreatDoor.PVpa
set_option linter.unusedVariables false
namespace PDet
theorem Zmm (V:VM)(nm:List Zby→List Zby)(most:Nat)(m:Nat):∀n i s,¬(i+n<(close V nm most n i s).L.length∧(close V nm most n i s).large=false)→close V nm most (n+m) i s=close V nm most n i s
 | 0,i,s,h=>by
  cases m with
  | zero=>rfl
  | succ m=>
   show close V nm most (0+(m+1)) i s=s;rw[Nat.zero_add];unfold close;rw[if_neg (show ¬(i<s.L.length∧s.large=false)from h)]
 | n+1,i,s,h=>by
  rw[show n+1+m=(n+m)+1 by omega];by_cases c:i<s.L.length∧s.large=false
  ·have e:close V nm most (n+1) i s=close V nm most n (i+1) (round V nm most i s):=by
    rw[close,if_pos c]
   rw[e]at h ⊢;rw[close,if_pos c];exact Zmm V nm most m n (i+1) _ (by rwa[show i+1+n=i+(n+1) by omega])
  ·rw[close,if_neg c,close,if_neg c]
theorem table_more (V:VM)(nm:List Zby→List Zby){most:Nat}(h:0<most){n:Nat}(hn:most+2≤n):table V nm most n=table V nm most (most+2):=by
 obtain⟨m,rfl⟩:∃m,n=most+2+m:=⟨n-(most+2),by omega⟩
 refine Zmm V nm most m (most+2) 0 (first V nm most) (fun hh=>?_)
 rcases table_caps V nm (Nat.le_refl most) h (most+2)with⟨_,e1,e2⟩ | ⟨e1,_⟩
 ·have:(table V nm most (most+2)).L.length≤most:=e2;unfold table at this;omega
 ·unfold table at e1;rw[hh.2]at e1;cases e1
end PDet
namespace Go.Proofs.YtaokkliamoghbaaGreatDoor.PVpa
open Go.RowKit Go.Proofs.YtaokkliamoghbaaGreatDoorW.PrintWords Go.Proofs.YtaokkliamoghbaaGreatDoorW.PrintLast Go.Proofs.YtaokkliamoghbaaGreatDoorW.PrintMore
open PDet (VM VOk Wf In Zbi toks number)
theorem tab_caps (G:S26){x y:Nat}(h:x≤y)(hx:1≤x):(Zbz G x=Zbz G y∧(Zbz G x).large=false∧(Zbz G x).L.length≤x)∨((Zbz G x).large=true∧x<(Zbz G y).L.length):=by
 have e:Zbz G x=PDet.table (vOf G) normP x (y+2):=(PDet.table_more (vOf G) normP (by omega) (by omega)).symm;rw[e];exact PDet.table_caps (vOf G) normP h (by omega) (y+2)
theorem tab_len (G:S26){most:Nat}(h:1≤most)(hl:(Zbz G most).large=false):(Zbz G most).L.length≤most:=by
 rcases tab_caps G (Nat.le_refl most) h with⟨_,_,h2⟩ | ⟨h1,_⟩
 ·exact h2
 ·rw[hl]at h1;cases h1
theorem tab_rows {D:DK}{most:Nat}(hl:(Zbz D.G most).large=false):Rows D (Zbz D.G most):=by
 have ha:=PDet.table_at (V:=vOf D.G) (nm:=normP) (most:=most) (n:=most+2) (by omega) hl;refine⟨ha.len,fun r hr=>?_⟩;obtain⟨j,hj,rfl⟩:=List.getElem_of_mem hr;have:=(ha.row j _ (List.getElem?_eq_getElem hj)).1;exact this.trans (Zgf (M:=Zek D.G))
section
variable {w:World}{gd:Nat}{G:S26}{most:Nat}
theorem DetAt.len (h:DetAt w gd G most):Calls Tryz.prog 13 #[.pointer (some ⟨gd,0,none⟩)] w fun e w'=>e=.returned (.int .i64 (Zbz G most).L.length)∧w'=w:=by
 obtain⟨D,hk,rfl,hM,rfl,rfl,hd⟩:=h;exact len_D hd
theorem DetAt.int (h:DetAt w gd G most)(hl:(Zbz G most).large=false)(p t:Int):Calls Tryz.prog 15 #[.pointer (some ⟨gd,0,none⟩),.int .i64 p,.int .i64 t] w fun e w'=>e=.returned (.int .i64 (Zmx G (Zbz G most) p t 0))∧w'=w:=by
 obtain⟨D,hk,rfl,hM,rfl,rfl,hd⟩:=h;exact int_D hk hd (tab_rows hl) p t
theorem DetAt.call (h:DetAt w gd G most)(hl:(Zbz G most).large=false)(p t:Int):Calls Tryz.prog 16 #[.pointer (some ⟨gd,0,none⟩),.int .i64 p,.int .i64 t] w fun e w'=>e=.returned (.int .i64 (Zmx G (Zbz G most) p t 1))∧w'=w:=by
 obtain⟨D,hk,rfl,hM,rfl,rfl,hd⟩:=h;exact call_D hk hd (tab_rows hl) p t
theorem DetAt.ret (h:DetAt w gd G most)(h1:1≤most)(hl:(Zbz G most).large=false)(i j c t:Int):Calls Tryz.prog 18 #[.pointer (some ⟨gd,0,none⟩),.int .i64 i,.int .i64 j,.int .i64 c,.int .i64 t] w fun e w'=>e=.returned (.int .i64 (retI G (Zbz G most) i j c t))∧w'=w:=by
 obtain⟨D,hk,rfl,hM,rfl,rfl,hd⟩:=h;exact ret_D hk hd (by have:=tab_len D.G h1 hl;have:=hk.most;omega) i j c t
theorem DetAt.rule (h:DetAt w gd G most)(i:Nat)(hi:i<(Zbz G most).L.length):Calls Tryz.prog 19 #[.pointer (some ⟨gd,0,none⟩),.int .i64 i] w fun e w'=>e=.returned (.int .i64 (ruleD (Zek G) ((Zbz G most).L.getD i [])))∧Below w.heap.size w w':=by
 obtain⟨D,hk,rfl,hM,rfl,rfl,hd⟩:=h;rw[←hM];exact rule_D hk hd i hi
theorem BuildD.good {e:Ending}{w':World}(h:BuildD w G most e w')(hl:(Zbz G most).large=false):∃gd,e=.returned (.tuple #[.pointer (some ⟨gd,0,none⟩),.int .i64 0])∧DetAt w' gd G most∧Below w.heap.size w w':=by
 obtain⟨h1,h2⟩:=h;rw[if_neg (by rw[hl];decide)]at h2;obtain⟨gd,he,hd⟩:=h2;exact⟨gd,he,hd,h1⟩
theorem BuildD.bad {e:Ending}{w':World}(h:BuildD w G most e w')(hl:(Zbz G most).large=true):e=.returned (.tuple #[.pointer none,.int .i64 8])∧Below w.heap.size w w':=by
 obtain⟨h1,h2⟩:=h;rw[if_pos hl]at h2;exact⟨h2,h1⟩
theorem DetAt.pairs (h:DetAt w gd G most)(i:Nat)(hi:i<(Zbz G most).L.length):Calls Tryz.prog 14 #[.pointer (some ⟨gd,0,none⟩),.int .i64 i] w fun e w'=>∃A' c',e=.returned (.slice A' ((Zbz G most).L.getD i []).length c')∧Below w.heap.size w w':=by
 obtain⟨D,hk,rfl,hM,rfl,rfl,hd⟩:=h;exact pairs_D hk hd i hi
structure Peek (w:World)(gd:Nat):Prop where
 all:∃g cap u cells Zps,w.heap[gd]?=some (.cells cells 88 (0,0))∧w.cell? ⟨gd,4,none⟩=some (.slice (some ⟨g,0,none⟩) 1 cap)∧w.heap[g]?=some (.cells Zps 89 (0,0))∧w.cell? ⟨g,0,none⟩=some u∧∃b ok,kP.R 90 w b ok u []
theorem DetAt.peek (h:DetAt w gd G most)(hL:(Zbz G most).L=[[]]):Peek w gd:=by
 obtain⟨D,hk,rfl,hM,rfl,rfl,hd⟩:=h;obtain⟨vs,vo,hc,hR,_⟩:=hd.cell;rw[hL]at hR;obtain⟨g,cap,u,rfl,hu,hRr⟩:=R_elem hR 0 (by decide);obtain⟨inner,ho⟩:=Kd.R_own hR;obtain⟨Zps,h2⟩:=Zaq ho g rfl;exact⟨⟨g,cap,u,_,Zps,hc,(Zaa hc 4).trans rfl,h2,hu,_,_,hRr⟩⟩
theorem Peek.keep {W:World}(h:Peek w gd)(hk:∀(k:Nat) (cells:Array Value) (q:TypeId),w.heap[k]?=some (.cells cells q (0,0))→q≠26→W.heap[k]?=w.heap[k]?):Peek W gd:=by
 obtain⟨g,cap,u,c1,c2,h1,h2,h3,h4,b,ok,h5⟩:=h.all;have e1:=hk _ _ _ h1 (by decide);have e3:=hk _ _ _ h3 (by decide);refine⟨⟨g,cap,u,c1,c2,e1.trans h1,?_,e3.trans h3,?_,b,okT,Zei h5 (fun k _ _ _ ⟨q,hq,cells,hc⟩=>⟨trivial,hk k cells q hc (by
  rcases List.mem_cons.1 hq with e | e
  ·rw[e];decide
  ·cases e)⟩)⟩⟩
 ·rw[World.cell?_of_block (a:=⟨gd,4,none⟩) e1];exact h2
 ·rw[World.cell?_of_block (a:=⟨g,0,none⟩) e3];exact h4
theorem Peek.below {W:World}(h:Peek w gd)(hb:Below w.heap.size w W):Peek W gd:=h.keep (fun k cells q hc _=>hb.block k (Zau hc))
theorem Peek.len (h:Peek w gd):Calls Tryz.prog 13 #[.pointer (some ⟨gd,0,none⟩)] w fun e w'=>e=.returned (.int .i64 1)∧w'=w:=by
 obtain⟨g,cap,u,c1,c2,_,h2,_⟩:=h.all;clear h
 go_enter Tryz.func13,Tryz.ntmps13
 go_wp2
 go_ret
 exact⟨rfl,rfl⟩
theorem Peek.pairs (h:Peek w gd):Calls Tryz.prog 14 #[.pointer (some ⟨gd,0,none⟩),.int .i64 0] w fun e w'=>∃A' c',e=.returned (.slice A' 0 c')∧Below w.heap.size w w':=by
 obtain⟨g,cap,u,c1,c2,_,h2,_,h4,b,ok,h5⟩:=h.all;have HC:Zrw (Calls Tryz.prog 44 #[u] w fun e w'=>∃A' c',e=.returned (.slice A' 0 c')∧Below w.heap.size w w'):=⟨clone_P w b ok u [] h5 (by decide)⟩
 obtain⟨A,c,hu,_⟩:=Kd.R_reads h5;have hu:u=.slice A 0 c:=hu;subst hu;clear h h5
 go_enter Tryz.func14,Tryz.ntmps14
 go_wp2_with (go_at_call 44;(with_reducible refine HC.out.mono ?_);rintro e1 w1 ⟨A1,c1,rfl,hb1⟩;have HB1:=Zrw.mk hb1;clear hb1)
 go_ret
 exact⟨A1,c1,rfl,HB1.out⟩
end
end Go.Proofs.YtaokkliamoghbaaGreatDoor.PVpa
