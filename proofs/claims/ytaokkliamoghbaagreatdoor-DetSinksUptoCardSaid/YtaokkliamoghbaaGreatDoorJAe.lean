/- Joined from texts of this seat, in their order. -/
import Derived.Test.YtaokkliamoghbaaGreatDoorJAc
import Derived.Test.YtaokkliamoghbaaGreatDoorJAd
set_option linter.unusedVariables false
set_option linter.unusedSimpArgs false
set_option linter.unusedSectionVars false
set_option maxRecDepth 100000
namespace Go.Proofs.YtaokkliamoghbaaGreatDoor.PVpa
open Go.RowKit Go.Proofs.YtaokkliamoghbaaGreatDoorW.PrintWords Go.Proofs.YtaokkliamoghbaaGreatDoorW.PrintLast Go.Proofs.YtaokkliamoghbaaGreatDoorW.PrintMore
structure Fits2 (G:S26)(M:Mach):Prop where
 len:M.steps.length=G.f1.length
 frees:∀i:Int,0≤i→i<M.pl.length→(Zbf M.pl i).kind=1→0≤(Zbf M.pl i).rule∧(Zbf M.pl i).rule<G.f1.length
def Zpv (G:S26)(M:Mach)(t q:Int):List (Int × Int):=
 if (Zbf M.pl q).p.f0=4 then [(0,q)]else if (Zbf M.pl q).p.f0=3∧Zdd G t (Zbf M.pl q).p.f1=true then [((((Zbf M.pl q).inner.getD 0:Nat):Int),q)]else []
def Zlb (M:Mach)(p:Int):List (Int × Int):=if Ziy M p=true then [(p,p)]else []
def Zlt (G:S26)(M:Mach)(p t:Int):List (Int × Int):=if (Zbf M.pl p).kind=1 then Zkw G M t (Zbf M.pl p).rule 0 else []
def Zhc (G:S26)(M:Mach)(t:Int)(l:List Int):Nat→List (Int × Int)
 | 0=>[]
 | k+1=>Zhc G M t l k++Zpv G M t (rd l k)
def Zpw (G:S26)(M:Mach)(p t:Int):List (Int × Int):=match (Zbf M.pl p).shape with
 | none=>[]
 | some k=>if 0≤(Zer M.sh k).rule∧endB M p (some k)=true then Zkw G M t (Zer M.sh k).rule ((Zer M.sh k).step+1)else []
def rawC (G:S26)(M:Mach)(p t:Int):List (Int × Int):=Zlb M p++Zlt G M p t++Zhc G M t (Zdz M p) (Zdz M p).length++Zpw G M p t
def Zla (G:S26)(M:Mach)(p t:Int):List (Int × Int):=if Zmh G M p t 1=true then normP (rawC G M p t)else []
theorem Zpu (G:S26)(M:Mach)(t q:Int):(Zpv G M t q).length≤1:=by
 unfold Zpv
 split
 ·simp
 ·split <;> simp
theorem Zgb (G:S26)(M:Mach)(t:Int)(l:List Int)(k:Nat):(Zhc G M t l k).length≤k:=by
 induction k with
 | zero=>exact Nat.le_refl _
 | succ k ih=>show (Zhc G M t l k++_).length≤_;rw[List.length_append];have:=Zpu G M t (rd l k);omega
theorem Zjc (G:S26)(M:Mach)(t r s:Int):(Zkw G M t r s).length≤1:=by unfold Zkw;split <;> simp
theorem Zgc (M:Mach)(p:Int):(Zlb M p).length≤1:=by unfold Zlb;split <;> simp
theorem Zjf (G:S26)(M:Mach)(p t:Int):(Zlt G M p t).length≤1:=by
 unfold Zlt
 split
 ·exact Zjc _ _ _ _ _
 ·simp
theorem Zje (G:S26)(M:Mach)(p t:Int):(Zpw G M p t).length≤1:=by
 unfold Zpw
 split
 ·simp
 ·split
  ·exact Zjc _ _ _ _ _
  ·simp
def GivesP (w:World)(l:List (Int × Int))(e:Ending)(w':World):Prop:=∃v,e=.returned v∧OwnP w' w.heap.size v l∧Below w.heap.size w w'
structure Cx (w W:World)(b3 b5 b7 b9 gb:Nat)(t:Int)(cs:Array Value)(v:Value)(l:List (Int × Int)):Prop where
 bx:Bx w W b3 b5 b7 gb t v l
 c9:W.heap[b9]?=some (.cells cs 122 (0,0))
theorem Cx.below {w W W':World}{b3 b5 b7 b9 gb:Nat}{t:Int}{cs:Array Value}{v:Value}{l:List (Int × Int)}(h:Cx w W b3 b5 b7 b9 gb t cs v l)(hb:Below W.heap.size W W'):Cx w W' b3 b5 b7 b9 gb t cs v l:=⟨h.bx.below hb,Zaf h.c9 hb⟩
theorem Cx.put {w W W1:World}{b3 b5 b7 b9 gb:Nat}{t:Int}{cs:Array Value}{v v1:Value}{l l1:List (Int × Int)}(h:Cx w W b3 b5 b7 b9 gb t cs v l)(ho:OwnP W1 w.heap.size v1 l1)(hb:Below w.heap.size w W1)(hg:W.grownBy W1 v.ownBlock) :
 Cx w (W1.setCell ⟨b7,0,none⟩ v1) b3 b5 b7 b9 gb t cs v1 l1:=by
 refine⟨h.bx.put ho hb hg,?_⟩;have n9:some b9≠v.ownBlock:=Zch h.bx.own h.c9 (by decide);have n7:some b7≠v.ownBlock:=Zch h.bx.own h.bx.c7 (by decide);have k9:=Zat h.c9 hg n9;have k7:=Zat h.bx.c7 hg n7;exact Zdw k9 (p:=⟨b7,0,none⟩) (blk_ne k9 k7 (by decide)) _
theorem Bx.frozen {w W W1:World}{b3 b5 b7 gb:Nat}{t:Int}{v:Value}{l:List (Int × Int)}(h:Bx w W b3 b5 b7 gb t v l)(hg:W.grownBy W1 v.ownBlock):W1.frozen? ⟨b7,0,none⟩=false:=
 Zam (Zat h.c7 hg (Zch h.own h.c7 (by decide))) 0
theorem Bx.cell7 {w W W1:World}{b3 b5 b7 gb:Nat}{t:Int}{v:Value}{l:List (Int × Int)}(h:Bx w W b3 b5 b7 gb t v l)(hg:W.grownBy W1 v.ownBlock):W1.cell? ⟨b7,0,none⟩=some v:=
 (Zaa (Zat h.c7 hg (Zch h.own h.c7 (by decide))) 0).trans rfl
theorem Zcw {c:Code}{Q:Exit→Act→World→Prop}{a:Act}{w:World}(h:c.wp Tryz.prog Q a (w.drewN 0)):c.wp Tryz.prog Q a w:=h
theorem into_cx (w W:World)(b3 b5 b7 b9 gb:Nat)(t:Int)(cs:Array Value)(v:Value)(l:List (Int × Int))(h:Cx w W b3 b5 b7 b9 gb t cs v l)(G:S26)(M:Mach)(φ:Nat→Nat)(hv:VR w gb G M φ)(ok:M.Ok φ)(fit:Fits G M)(ht:t<G.f0.length)
 (rule step:Int) (r0:0≤rule) (r1:rule<G.f1.length) (s0:0≤step) (hl:l.length≤200000) :
 Calls Tryz.prog 130 #[.int .i64 rule,.int .i64 step,.pointer (some ⟨b3,0,none⟩),.pointer (some ⟨b5,0,none⟩),.pointer (some ⟨b7,0,none⟩)] W fun e w'=>e=.returned (.tuple #[])∧∃v',Cx w w' b3 b5 b7 b9 gb t cs v' (l++Zkw G M t rule step):=
 (into_call w W b3 b5 b7 gb t v l h.bx G M φ hv ok fit ht rule step r0 r1 s0 hl).mono fun _ _ ⟨he,v',hb,hk⟩=>⟨he,v',hb,Zie h.c9 hk (fun hh=>by
  rcases hh with hh | hh
  ·exact blk_ne h.c9 h.bx.c7 (by decide) hh
  ·exact Zch h.bx.own h.c9 (by decide) hh.symm)⟩
set_option maxHeartbeats 8000000 in
theorem call_call (w:World)(gb:Nat)(G:S26)(M:Mach)(φ:Nat→Nat)(h:VR w gb G M φ)(ok:M.Ok φ)(fit:Fits G M)(fit2:Fits2 G M)(p t:Int) :
 Calls Tryz.prog 105 #[.pointer (some ⟨gb,0,none⟩),.int .i64 p,.int .i64 t] w (GivesP w (Zla G M p t)):=by
 have hm:=Zrw.mk (fun W (hW:Below w.heap.size w W)=>Zjq W gb G M φ (h.below hW) p t 1);cases hb:Zmh G M p t 1 with
 | false=>
  have e:Zla G M p t=[]:=by unfold Zla;rw[if_neg (by simp[hb])]
  rw[hb]at hm;rw[e];clear h e hb ok
  go_enter Tryz.func105,Tryz.ntmps105
  go_wp2_with (go_at_call 101;(with_reducible refine (hm.out _ (Zab (Zab Zbr _) _)).mono ?_);rintro e w1 ⟨rfl,rfl⟩)
  go_ret
  exact⟨_,rfl,OwnP.nil _ _,Zab (Zab Zbr _) _⟩
 | true=>
  obtain⟨p0,p1,ht,_⟩:=Zed hb;have e:Zla G M p t=normP (rawC G M p t):=by unfold Zla;rw[if_pos hb]
  rw[e];rw[hb]at hm;obtain⟨At,ct,Ar,cr,Ap,cp,As,cs,Af,cf,hc,_,_,_,_,_,hp,_⟩:=h.cells;have g2:w.cell? ⟨gb,2,none⟩=some (.slice Ap M.pl.length cp):=(Zaa hc 2).trans rfl;obtain⟨ad,A1,c1,A2,c2,A3,c3,A4,c4,rfl,k0,k1,k2,k3,k4,k5,k6,k7,k8,_⟩:=Zob hp p p0 p1;rw[Zkj]at k1 k6;have HS:=Zrw.mk (fun W (hW:Below w.heap.size w W)=>Zij W gb G M φ (h.below hW) p p0 p1);have HP0:=Zrw.mk p0;have HP1:=Zrw.mk p1;have HT:=Zrw.mk ht;have HV:=Zrw.mk h;have HOK:=Zrw.mk ok;have hgb:=Zau hc;have had:=World.block_lt_of_cell? w _ k0;generalize hu1:((Zbf M.pl p).shape.map fun b=>(⟨φ b,0,none⟩:Addr))=u1 at k1;generalize ((Zbf M.pl p).inner.map fun b=>(⟨φ b,0,none⟩:Addr))=u6 at k6;have HU1:=Zrw.mk hu1;clear h e hb ok hc hp p0 p1 ht hu1
  go_enter Tryz.func105,Tryz.ntmps105
  go_upto_region 5 with (go_at_call 101;(with_reducible refine (hm.out _ (Zab (Zab Zbr _) _)).mono ?_);rintro e w1 ⟨rfl,rfl⟩)
  obtain⟨X,hX⟩:∃X,X=((w.alloc (.cells #[.pointer (some ⟨gb,0,none⟩)] 78)).alloc (.cells #[.int .i64 t] 3)).alloc (.cells #[.slice none 0 0] 35):=⟨_,rfl⟩
  have hBX:Below w.heap.size w X:=by rw[hX];exact Zab (Zab (Zab Zbr _) _) _
  have x3:X.heap[w.heap.size]?=some (.cells #[.pointer (some ⟨gb,0,none⟩)] 78 (0,0)):=by rw[hX];exact Zai (Zai (Zaj _ _) _) _
  have x5:X.heap[w.heap.size+1]?=some (.cells #[.int .i64 t] 3 (0,0)):=by
   rw[hX];have z:=Zaj (w.alloc (.cells #[.pointer (some ⟨gb,0,none⟩)] 78)) (.cells #[.int .i64 t] 3);rw[show (w.alloc (.cells #[.pointer (some ⟨gb,0,none⟩)] 78)).heap.size=w.heap.size+1 by simp]at z;exact Zai z _
  have x7:X.heap[w.heap.size+1+1]?=some (.cells #[.slice none 0 0] 35 (0,0)):=by
   rw[hX];have z:=Zaj ((w.alloc (.cells #[.pointer (some ⟨gb,0,none⟩)] 78)).alloc (.cells #[.int .i64 t] 3)) (.cells #[.slice none 0 0] 35);rw[show ((w.alloc (.cells #[.pointer (some ⟨gb,0,none⟩)] 78)).alloc (.cells #[.int .i64 t] 3)).heap.size=w.heap.size+1+1 by simp]at z;exact z
  have hsz:X.heap.size=w.heap.size+1+1+1:=by rw[hX];simp
  rw[←hX];clear hX;have HBX:Zrw (Bx w X w.heap.size (w.heap.size+1) (w.heap.size+1+1) gb t (.slice none 0 0) []):=⟨⟨x3,x5,x7,OwnP.nil _ _,hBX,by omega⟩⟩
  have y3:X.cell? ⟨w.heap.size,0,none⟩=some (.pointer (some ⟨gb,0,none⟩)):=(Zaa x3 0).trans rfl;have k2':=Zad hBX g2;have j0:=Zad hBX k0;have j1:=Zad hBX k1;have j2:=Zad hBX k2;have j3:=Zad hBX k3;have j4:=Zad hBX k4;have j5:=Zad hBX k5;have j6:=Zad hBX k6;have j7:=Zad hBX k7;have j8:=Zad hBX k8;have HB0:=Zrw.mk hBX;have p0:=HP0.out;have p1:=HP1.out;clear x3 x5 x7 g2 k0 k1 k2 k3 k4 k5 k6 k7 k8 hm hBX
  go_upto_region 6 with (fail)
  obtain⟨cs9,hcs9⟩:∃cs9:Array Value,cs9=#[.int .i64 (Zbf M.pl p).kind,.pointer u1,.int .i64 (Zbf M.pl p).p.f0,.slice A1 (Zbf M.pl p).p.f1.length c1,.slice A2 (Zbf M.pl p).p.f2.length c2,.slice A3 (Zbf M.pl p).p.f3.length c3,.pointer u6,.slice A4 (Zbf M.pl p).follow.length c4,.int .i64 (Zbf M.pl p).rule]:=⟨_,rfl⟩
  obtain⟨Y,hY⟩:∃Y,Y=X.alloc (.cells cs9 122):=⟨_,rfl⟩
  have hC:Cx w Y w.heap.size (w.heap.size+1) (w.heap.size+1+1) (w.heap.size+1+1+1) gb t cs9 (.slice none 0 0) []:=by
   rw[hY];refine⟨HBX.out.below (Zab Zbr _),?_⟩;have z:=Zaj X (.cells cs9 122);rwa[hsz]at z
  rw[hcs9]at hY;rw[←hY];have HCS:=Zrw.mk hcs9;have HC:=Zrw.mk hC;clear hY hcs9 hC j0 j1 j2 j3 j4 j5 j6 j7 j8 k2' y3 HBX hsz;have y3:Y.cell? ⟨w.heap.size,0,none⟩=some (.pointer (some ⟨gb,0,none⟩)):=(Zaa HC.out.bx.c3 0).trans rfl
  go_upto_if 29 with (go_at_call 102;(with_reducible refine (HS.out _ HC.out.bx.bel).mono ?_);rintro e w1 ⟨rfl,hw1⟩;obtain rfl:=hw1.symm;clear hw1)
  go_cut [] (fun wx=>∃v,Zrw (Cx w wx w.heap.size (w.heap.size+1) (w.heap.size+1+1) (w.heap.size+1+1+1) gb t cs9 v (Zlb M p)))
  case first=>
   cases hst:Ziy M p with
   | true=>
    have y7:Y.cell? ⟨w.heap.size+1+1,0,none⟩=some (.slice none 0 0):=(Zaa HC.out.bx.c7 0).trans rfl
    go_wp2_with ((with_reducible refine Zal (b:=.append) (xs:=#[.tmp 30,.tmp 34]) rfl ?_);at_builtin;refine appendP (w0:=w) w.heap.size rfl (.tmp 30) (.tmp 34) rfl (.slice none 0 0) [] (p,p) _ rfl rfl ?hg ?hO ?hB ?hS ?hL ?_;(case hg=>simp);(case hO=>exact HC.out.bx.own);(case hB=>exact HC.out.bx.bel);(case hS=>exact HC.out.bx.bel.size);(case hL=>simp);intro v7 w7 ho7 hb7 hg7 hat7;obtain⟨A7,c7,hv7,_⟩:=ho7.slice;rw[List.length_append,List.length_singleton]at hv7;subst hv7;have hf7:=HC.out.bx.frozen hg7;have hc7:=HC.out.bx.cell7 hg7;have HO7:=Zrw.mk ho7;have HB7:=Zrw.mk hb7;have HG7:=Zrw.mk hg7;clear ho7 hb7 hg7 hat7)
    go_meet
    refine⟨.slice A7 1 c7,⟨?_⟩⟩;rw[show Zlb M p=[]++[(p,p)] by unfold Zlb;rw[if_pos hst];rfl];exact HC.out.put HO7.out HB7.out HG7.out
   | false=>
    go_wp2
    go_meet
    exact⟨_,⟨by rw[show Zlb M p=[] by unfold Zlb;rw[if_neg (by simp[hst])]];exact HC.out⟩⟩
  case rest=>
   clear HC y3;obtain⟨v,HC⟩:=hcut;have y3:wc.cell? ⟨w.heap.size,0,none⟩=some (.pointer (some ⟨gb,0,none⟩)):=(Zaa HC.out.bx.c3 0).trans rfl;have y90:wc.cell? ⟨w.heap.size+1+1+1,0,none⟩=some (.int .i64 (Zbf M.pl p).kind):=(Zaa HC.out.c9 0).trans (by rw[HCS.out];rfl);have y98:wc.cell? ⟨w.heap.size+1+1+1,8,none⟩=some (.int .i64 (Zbf M.pl p).rule):=(Zaa HC.out.c9 8).trans (by rw[HCS.out];rfl)
   go_upto_if 38 with (fail)
   go_cut [] (fun wx=>∃v,Zrw (Cx w wx w.heap.size (w.heap.size+1) (w.heap.size+1+1) (w.heap.size+1+1+1) gb t cs9 v (Zlb M p++Zlt G M p t)))
   case first=>
    by_cases e1:(Zbf M.pl p).kind=1
    ·obtain⟨r0,r1⟩:=fit2.frees p HP0.out HP1.out e1;have HR0:=Zrw.mk r0;have HR1:=Zrw.mk r1;rw[e1]at y90;have hL:=Zgc M p;have HL:=Zrw.mk hL;clear r0 r1 hL
     go_wp2_with (go_at_call 130;(with_reducible refine (into_cx w _ w.heap.size (w.heap.size+1) (w.heap.size+1+1) (w.heap.size+1+1+1) gb t cs9 v _ HC.out G M φ HV.out HOK.out fit HT.out _ 0 HR0.out HR1.out (by omega) (by have:=HL.out;omega)).mono ?_);rintro e w5 ⟨rfl,v5,hc5⟩;have HC5:=Zrw.mk hc5;clear hc5)
     go_meet
     exact⟨v5,⟨by rw[show Zlt G M p t=Zkw G M t (Zbf M.pl p).rule 0 by unfold Zlt;rw[if_pos e1]];exact HC5.out⟩⟩
    ·have q:((Zbf M.pl p).kind==1)=false:=by simpa using e1
     go_wp2
     go_meet
     exact⟨v,⟨by rw[show Zlt G M p t=[] by unfold Zlt;rw[if_neg e1],List.append_nil];exact HC.out⟩⟩
   case rest=>
    clear HC y3 y90 y98 v;obtain⟨v,HC⟩:=hcut;have y3:wc.cell? ⟨w.heap.size,0,none⟩=some (.pointer (some ⟨gb,0,none⟩)):=(Zaa HC.out.bx.c3 0).trans rfl;have hn:=next_at w wc gb G M φ HV.out HC.out.bx.bel HOK.out p HP0.out HP1.out;obtain⟨hl,hq⟩:=Zjp HOK.out HP0.out HP1.out;have HQ:=Zrw.mk hq;have HN:=Zrw.mk hn;obtain⟨L,hLL⟩:∃L,L=Zdz M p:=⟨_,rfl⟩
    rw[←hLL]at hl HN HQ;have HLL:=Zrw.mk hLL;obtain⟨l2,hl2⟩:∃l2,l2=Zlb M p++Zlt G M p t:=⟨_,rfl⟩
    rw[←hl2]at HC;have hl2n:l2.length≤2:=by rw[hl2,List.length_append];have:=Zgc M p;have:=Zjf G M p t;omega
    have HL2:=Zrw.mk hl2;have HL2N:=Zrw.mk hl2n;clear hn hq hLL hl2 hl2n
    go_wp2_with (go_at_call 103;(with_reducible refine HN.out.mono ?_);rintro e w5 ⟨⟨A,c,rfl,hlc,hr⟩,hw5⟩;obtain rfl:=hw5.symm;clear hw5;have HLC:=Zrw.mk hlc;have HR:=Zrw.mk hr;clear hlc hr)
    clear HN y3
    go_loopw [47] (fun i wr=>∃(k:Nat) (v:Value),k≤L.length∧i=.int .i64 k∧Zrw (Cx w wr w.heap.size (w.heap.size+1) (w.heap.size+1+1) (w.heap.size+1+1+1) gb t cs9 v (l2++Zhc G M t L k))∧Zrw (Below w.heap.size w wr)) (fun i _=>L.length-(intOf i).toNat)
    case atStart=>exact⟨0,v,Nat.zero_le _,rfl,⟨by rw[show Zhc G M t L 0=[]from rfl,List.append_nil];exact HC.out⟩,⟨HC.out.bx.bel⟩⟩
    case round=>
     obtain⟨k,v,hk,rfl,HC,HBW⟩:=hrel;by_cases hkn:k<L.length
     ·have HVr:=Zrw.mk (HV.out.below HBW.out);have HRr:=Zrw.mk (Kd.C_below HR.out HBW.out);obtain⟨ad,rfl,hq0⟩:=Kd.at_int HRr.out (k:Int) (by omega) (by omega);rw[Int.toNat_natCast]at hq0;have hqr:=HQ.out (rd L k) (by simp[rd,List.getD_eq_getElem?_getD,List.getElem?_eq_getElem hkn]);obtain⟨q0,q1⟩:=hqr;obtain⟨At2,ct2,Ar2,cr2,Ap2,cp2,As2,cs2,Af2,cf2,hc2,_,_,_,_,_,hp2,_⟩:=HVr.out.cells;have g2:wr.cell? ⟨gb,2,none⟩=some (.slice Ap2 M.pl.length cp2):=(Zaa hc2 2).trans rfl;have y3:wr.cell? ⟨w.heap.size,0,none⟩=some (.pointer (some ⟨gb,0,none⟩)):=(Zaa HC.out.bx.c3 0).trans rfl;obtain⟨bd,D1,d1,D2,d2,D3,d3,D4,d4,rfl,z0,z1,z2,z3,z4,z5,z6,z7,z8,zl1,zf1,_⟩:=Zob hp2 (rd L k) q0 q1;rw[Zkj]at z1 z6;have hbox:=fun (cs:Array Value)=>(HC.out.below (Zab (Below.refl wr.heap.size wr) (.cells cs 122)))
      have HBOX:=Zrw.mk hbox;have HN12:=Zrw.mk (fun (W:World) (hW:Below w.heap.size w W)=>Zgi W gb G M φ (HV.out.below hW) t HT.out);have hlc:=Zgb G M t L k;have HLEN:Zrw ((l2++Zhc G M t L k).length≤200000):=⟨by rw[List.length_append];have:=HL2N.out;omega⟩
      have HCS2:Zrw (l2++Zhc G M t L (k+1)=(l2++Zhc G M t L k)++Zpv G M t (rd L k)):=⟨by rw[List.append_assoc];rfl⟩
      obtain⟨lk,hlk⟩:∃lk,lk=l2++Zhc G M t L k:=⟨_,rfl⟩
      rw[←hlk]at HC HLEN HCS2 HBOX;clear hlk hlc hbox hc2 hp2;have y3a:∀o,(wr.alloc o).cell? ⟨w.heap.size,0,none⟩=some (.pointer (some ⟨gb,0,none⟩)):=fun o=>(Zaa (Zai HC.out.bx.c3 o) 0).trans rfl
      have y5a:∀o,(wr.alloc o).cell? ⟨w.heap.size+1,0,none⟩=some (.int .i64 t):=fun o=>(Zaa (Zai HC.out.bx.c5 o) 0).trans rfl
      have y7a:∀o,(wr.alloc o).cell? ⟨w.heap.size+1+1,0,none⟩=some v:=fun o=>(Zaa (Zai HC.out.bx.c7 o) 0).trans rfl
      have HZL:=Zrw.mk zl1;have HZF:=Zrw.mk zf1;have HZS:Zrw ((Zbf M.pl (rd L k)).p.f1.length≤1000000):=⟨by have:=(HOK.out.follow (rd L k) q0 q1).2.1;omega⟩
      have HPIN:=Zrw.mk (HOK.out.pin (rd L k) q0 q1);have HINN:=Zrw.mk (HOK.out.inner (rd L k) q0 q1);have hck:Zpv G M t (rd L k)=if (Zbf M.pl (rd L k)).p.f0=4 then [(0,rd L k)]else if (Zbf M.pl (rd L k)).p.f0=3∧Zdd G t (Zbf M.pl (rd L k)).p.f1=true then [((((Zbf M.pl (rd L k)).inner.getD 0:Nat):Int),rd L k)]else []:=rfl
      have HCK:=Zrw.mk hck;clear zl1 zf1 hck;generalize (Zbf M.pl (rd L k)).kind=u0q at z0;generalize ((Zbf M.pl (rd L k)).shape.map fun b=>(⟨φ b,0,none⟩:Addr))=u1q at z1;generalize hu6:((Zbf M.pl (rd L k)).inner.map fun b=>(⟨φ b,0,none⟩:Addr))=u6q at z6;have HU6:=Zrw.mk hu6;clear hu6;generalize (Zbf M.pl (rd L k)).follow=u7q at z7;generalize (Zbf M.pl (rd L k)).rule=u8q at z8;generalize (Zbf M.pl (rd L k)).p.f2=u4q at z4;generalize (Zbf M.pl (rd L k)).p.f3=u5q at z5;generalize (Zbf M.pl (rd L k)).p.f1=nm at z3 HZL HZF HZS HCK;generalize (Zbf M.pl (rd L k)).p.f0=kd at z2 HPIN HCK;generalize (Zbf M.pl (rd L k)).inner=inn at HPIN HINN HU6 HCK;generalize rd L k=q at *;by_cases e4:kd=4
      ·subst e4
       go_wp2_with ((with_reducible refine Zal (b:=.append) (xs:=#[.tmp 63,.tmp 66]) rfl ?_);at_builtin;refine appendP (w0:=w) w.heap.size rfl (.tmp 63) (.tmp 66) rfl v lk ((0:Int),q) _ rfl rfl ?hg ?hO ?hB ?hS ?hL ?_;(case hg=>simp);(case hO=>exact (HBOX.out _).bx.own);(case hB=>exact (HBOX.out _).bx.bel);(case hS=>exact (HBOX.out _).bx.bel.size);(case hL=>(have:=HLEN.out;omega));intro v7 w7 ho7 hb7 hg7 hat7;obtain⟨A7,c7,hv7,_⟩:=ho7.slice;rw[List.length_append,List.length_singleton]at hv7;subst hv7;have hf7:=(HBOX.out _).bx.frozen hg7;have hc7:=(HBOX.out _).bx.cell7 hg7;have HO7:=Zrw.mk ho7;have HB7:=Zrw.mk hb7;have HG7:=Zrw.mk hg7;clear ho7 hb7 hg7 hat7)
       go_roundw
       case rel=>exact⟨k+1,_,by omega,by go_num,⟨by rw[HCS2.out,HCK.out,if_pos rfl];exact (HBOX.out _).put HO7.out HB7.out HG7.out⟩,⟨((HBOX.out _).put HO7.out HB7.out HG7.out).bx.bel⟩⟩
       case measure=>simp[intOf];omega
      ·have n4:(kd==4)=false:=by simpa using e4
       by_cases e3:kd=3
       ·subst e3;obtain⟨ki,rfl⟩:=HPIN.out rfl;have hmi:=HINN.out ki rfl;obtain⟨B1,f1,B2,f2,hbi,_⟩:=(HV.out.shapes _ _ hmi).cells;have HBI:=Zrw.mk hbi;obtain rfl:=HU6.out;clear hmi hbi;have HN13:=Zrw.mk (fun W (h1:Below wr.heap.size wr W) (h2:Below w.heap.size w W)=>HN12.out W h2 D1 d1 nm (Kd.C_below HZF.out h1) HZL.out HZS.out);have HCK':=HCK.out;rw[if_neg (by omega)]at HCK';have HCK2:=Zrw.mk HCK';clear HCK' HCK;generalize Zdd G t nm=b at HN13 HCK2;cases b
        ·go_wp2_with (go_at_call 104;(with_reducible refine (HN13.out _ (Zab Zbr _) (HBOX.out _).bx.bel).mono ?_);rintro e w4 ⟨rfl,hd⟩;have HC4:=Zrw.mk ((HBOX.out _).below hd.below);have y12:w4.cell? ⟨wr.heap.size,6,none⟩=some (.pointer (some ⟨φ ki,0,none⟩)):=Zad hd.below (by go_simp);clear hd)
         go_roundw
         case rel=>exact⟨k+1,v,by omega,by go_num,⟨by rw[HCS2.out,HCK2.out,if_neg (by simp),List.append_nil];exact HC4.out⟩,⟨HC4.out.bx.bel⟩⟩
         case measure=>simp[intOf];omega
        ·go_upto_region 17 with (go_at_call 104;(with_reducible refine (HN13.out _ (Zab Zbr _) (HBOX.out _).bx.bel).mono ?_);rintro e w4 ⟨rfl,hd⟩;have HC4:=Zrw.mk ((HBOX.out _).below hd.below);have y12:w4.cell? ⟨wr.heap.size,6,none⟩=some (.pointer (some ⟨φ ki,0,none⟩)):=Zad hd.below (by go_simp);clear hd)
         have HCX:=Zrw.mk (HC4.out.below (Zag Zbr 1));have x7:w4.cell? ⟨w.heap.size+1+1,0,none⟩=some v:=(Zaa HC4.out.bx.c7 0).trans rfl;have x0:w4.cell? ⟨φ ki,0,none⟩=some (.int .i64 (ki:Int)):=Zad HC4.out.bx.bel ((Zaa HBI.out 0).trans rfl);have x7n:∀o,((w4.drewN 1).alloc o).cell? ⟨w.heap.size+1+1,0,none⟩=some v:=fun o=>(Zaa (Zai HCX.out.bx.c7 o) 0).trans rfl
         clear y3a y5a y7a y3 hq0 z0 z1 z2 z3 z4 z5 z6 z7 z8 g2;refine Zcw ?_
         go_region_law (first | (refine Zjj (w0:=w) w.heap.size rfl (.tmp 81) (.tmp 89) rfl v lk (((ki:Nat):Int),q) _ rfl rfl ?hg ?hO ?hB ?hS (by have:=HLEN.out;omega) ?_;(case hg=>simp);(case hO=>exact HCX.out.bx.own);(case hB=>exact HCX.out.bx.bel);(case hS=>exact HCX.out.bx.bel.size);intro v7 w7 ho7 hb7 hg7 hat7;obtain⟨A7,c7,hv7,_⟩:=ho7.slice;rw[List.length_append,List.length_singleton]at hv7;subst hv7;have hf7:=HCX.out.bx.frozen hg7;have HO7:=Zrw.mk ho7;have HB7:=Zrw.mk hb7;have HG7:=Zrw.mk hg7;have hc7:=HCX.out.bx.cell7 hg7;clear ho7 hb7 hg7 hat7) | fail)
         all_goals (
          go_wp2
          go_roundw
          case rel=>exact⟨k+1,_,by omega,by go_num,⟨by rw[HCS2.out,HCK2.out,if_pos (by simp)];exact HCX.out.put HO7.out HB7.out HG7.out⟩,⟨(HCX.out.put HO7.out HB7.out HG7.out).bx.bel⟩⟩
          case measure=>simp[intOf];omega)
       ·have n3:(kd==3)=false:=by simpa using e3
        go_wp2
        go_roundw
        case rel=>exact⟨k+1,v,by omega,by go_num,⟨by rw[HCS2.out,HCK.out,if_neg e4,if_neg (by simp[e3]),List.append_nil];exact HBOX.out _⟩,⟨(HBOX.out _).bx.bel⟩⟩
        case measure=>simp[intOf];omega
     ·obtain rfl:k=L.length:=by omega
      have y91:wr.cell? ⟨w.heap.size+1+1+1,1,none⟩=some (.pointer u1):=(Zaa HC.out.c9 1).trans (by rw[HCS.out];rfl);have y3:wr.cell? ⟨w.heap.size,0,none⟩=some (.pointer (some ⟨gb,0,none⟩)):=(Zaa HC.out.bx.c3 0).trans rfl;have hlc:=Zgb G M t L L.length;have HLEN:Zrw ((l2++Zhc G M t L L.length).length≤200000):=⟨by rw[List.length_append];have:=HL2N.out;omega⟩
      have HRAW:Zrw (rawC G M p t=(l2++Zhc G M t L L.length)++Zpw G M p t):=⟨by unfold rawC;rw[HL2.out,HLL.out]⟩
      obtain⟨l3,hl3⟩:∃l3,l3=l2++Zhc G M t L L.length:=⟨_,rfl⟩
      rw[←hl3]at HC HLEN HRAW;clear hlc hl3;obtain⟨B,hB⟩:∃B:Bool,B=(match (Zbf M.pl p).shape with | none=>false | some k=>decide (0≤(Zer M.sh k).rule)&&endB M p (some k)):=⟨_,rfl⟩
      have HEND:=Zrw.mk (fun (W:World) (hW:Below w.heap.size w W)=>Znq W gb G M φ (HV.out.below hW) HOK.out p HP0.out HP1.out)
      go_upto_region 20 with (fail)
      go_cut [108] (fun s wx=>s=.bool B∧Zrw (Cx w wx w.heap.size (w.heap.size+1) (w.heap.size+1+1) (w.heap.size+1+1+1) gb t cs9 v l3))
      case first=>
       cases hsh:(Zbf M.pl p).shape with
       | none=>
        rw[hsh]at hB;have hu:=HU1.out;rw[hsh]at hu;obtain rfl:u1=none:=hu.symm;subst hB;go_wp2
        go_meet
        exact⟨rfl,HC⟩
       | some k0=>
        rw[hsh]at hB;have hu:=HU1.out;rw[hsh]at hu;obtain rfl:u1=some ⟨φ k0,0,none⟩:=hu.symm;have hm0:=HOK.out.shape p HP0.out HP1.out k0 hsh;obtain⟨B1,f1,B2,f2,hb0,_⟩:=(HV.out.shapes _ _ hm0).cells;have s4:wr.cell? ⟨φ k0,4,none⟩=some (.int .i64 (Zer M.sh k0).rule):=Zad HC.out.bx.bel ((Zaa hb0 4).trans rfl);have he:=HEND.out wr HC.out.bx.bel (some k0) (fun k' hk'=>by cases hk';exact hm0);change Calls Tryz.prog 65 #[.pointer (some ⟨gb,0,none⟩),.int .i64 p,.pointer (some ⟨φ k0,0,none⟩)] wr _ at he;have HE:=Zrw.mk he;clear he;simp only at hB;generalize endB M p (some k0)=eb at HE hB;generalize (Zer M.sh k0).rule=r at s4 hB;clear hb0 hm0;by_cases r0:0≤r
        ·have z:decide (0≤r)=true:=decide_eq_true r0;rw[z,Bool.true_and]at hB;subst hB;cases B
         all_goals
          go_wp2_with (go_at_call 65;(with_reducible refine HE.out.mono ?_);rintro e w5 ⟨rfl,hd⟩;have HC5:=Zrw.mk (HC.out.below hd.below);clear hd)
          go_meet
          exact⟨rfl,HC5⟩
        ·have z:decide (0≤r)=false:=decide_eq_false r0;rw[z,Bool.false_and]at hB;subst hB;go_wp2
         go_meet
         exact⟨rfl,HC⟩
      case rest=>
       clear HC y91 y3;obtain⟨rfl,HC⟩:=hcut;have HBB:=Zrw.mk hB;clear hB;have HD:Zrw (Zpw G M p t=if B=true then (match (Zbf M.pl p).shape with | none=>[] | some k=>Zkw G M t (Zer M.sh k).rule ((Zer M.sh k).step+1))else []):=⟨by
        rw[HBB.out];unfold Zpw;cases (Zbf M.pl p).shape with
        | none=>rfl
        | some k=>simp only[Bool.and_eq_true,decide_eq_true_eq]⟩
       go_upto_if 108 with (fail)
       go_cut [] (fun wx=>∃v,Zrw (Cx w wx w.heap.size (w.heap.size+1) (w.heap.size+1+1) (w.heap.size+1+1+1) gb t cs9 v (l3++Zpw G M p t)))
       case first=>
        cases B with
        | false=>
         go_wp2
         go_meet
         exact⟨v,⟨by rw[HD.out,if_neg (by simp),List.append_nil];exact HC.out⟩⟩
        | true=>
         cases hsh:(Zbf M.pl p).shape with
         | none=>
          have hB:=HBB.out;rw[hsh]at hB;simp at hB
         | some k0=>
          have hB:=HBB.out;have hd0:=HD.out;rw[hsh]at hB hd0;simp only[if_true]at hd0;have hr0:0≤(Zer M.sh k0).rule:=by
           have z:=hB.symm;simp only[Bool.and_eq_true,decide_eq_true_eq]at z;exact z.1
          have hu:=HU1.out;rw[hsh]at hu;obtain rfl:u1=some ⟨φ k0,0,none⟩:=hu.symm;have hm0:=HOK.out.shape p HP0.out HP1.out k0 hsh;obtain⟨B1,f1,B2,f2,hb0,_⟩:=(HV.out.shapes _ _ hm0).cells;obtain⟨o1,o2,o3⟩:=HOK.out.rules k0 _ hm0 hr0;rw[fit2.len]at o1;have s4:wc.cell? ⟨φ k0,4,none⟩=some (.int .i64 (Zer M.sh k0).rule):=Zad HC.out.bx.bel ((Zaa hb0 4).trans rfl);have s5:wc.cell? ⟨φ k0,5,none⟩=some (.int .i64 (Zer M.sh k0).step):=Zad HC.out.bx.bel ((Zaa hb0 5).trans rfl);have HD0:=Zrw.mk hd0;clear hd0 hB hu hb0 hm0;generalize (Zer M.sh k0).rule=r at *;generalize (Zer M.sh k0).step=st at *;have hw:IntKind.i64.wrap (st+1)=st+1:=by simp[IntKind.wrap,IntKind.bits,IntKind.signed];omega
          go_wp2_with fail
          refine Zcw ?_
          have HCD:=Zrw.mk (HC.out.below (Zag Zbr 1));refine Zet 10 (by kernel_rfl) (by kernel_rfl) ?_
          simp only[List.take_succ_cons,List.take_zero,List.drop_succ_cons,List.drop_zero]
          repeat still_step
          refine wpStill_nil ?_
          have HR0:=Zrw.mk hr0;have HO1:=Zrw.mk o1;have HST:Zrw (0≤st+1):=⟨by omega⟩
          go_wp2_with (go_at_call 130;(with_reducible refine (into_cx w (wc.drewN 1) w.heap.size (w.heap.size+1) (w.heap.size+1+1) (w.heap.size+1+1+1) gb t cs9 v l3 HCD.out G M φ HV.out HOK.out fit HT.out _ _ HR0.out HO1.out HST.out HLEN.out).mono ?_);rintro e w5 ⟨rfl,v5,hc5⟩;have HC5:=Zrw.mk hc5;clear hc5)
          go_meet
          exact⟨v5,⟨by rw[HD0.out];exact HC5.out⟩⟩
       case rest=>
        clear HC v;obtain⟨v,HC⟩:=hcut;rw[←HRAW.out]at HC;have hrl:(rawC G M p t).length≤200001:=by
         rw[HRAW.out,List.length_append];have:=HLEN.out;have:=Zje G M p t;omega
        have HRL:=Zrw.mk hrl;have y7:wc.cell? ⟨w.heap.size+1+1,0,none⟩=some v:=(Zaa HC.out.bx.c7 0).trans rfl
        go_wp2_with (first
         | (go_at_call 131;(with_reducible refine (sortP_call w _ v (rawC G M p t) HC.out.bx.bel HC.out.bx.own (by have:=HRL.out;omega)).mono ?_);rintro e w6 ⟨rfl,ho6,hb6,hk6⟩;have HO6:=Zrw.mk ho6;have HB6:=Zrw.mk hb6;have y76:w6.cell? ⟨w.heap.size+1+1,0,none⟩=some v:=(Zaa (Zie HC.out.bx.c7 hk6 (fun hh=>Zch HC.out.bx.own HC.out.bx.c7 (by decide) hh.symm)) 0).trans rfl;clear ho6 hb6 hk6)
         | (go_at_call 133;(with_reducible refine (Znv w _ v (sortP (rawC G M p t)) HB6.out HO6.out (by rw[Zco];have:=HRL.out;omega)).mono ?_);rintro e w8 ⟨v8,rfl,-,ho8,hb8,-⟩;have HO8:=Zrw.mk ho8;have HB8:=Zrw.mk hb8;clear ho8 hb8))
        go_ret
        exact⟨v8,rfl,HO8.out,HB8.out⟩
end Go.Proofs.YtaokkliamoghbaaGreatDoor.PVpa
