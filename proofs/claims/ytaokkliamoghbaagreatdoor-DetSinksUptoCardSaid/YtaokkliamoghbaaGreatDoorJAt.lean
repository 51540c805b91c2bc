/- Joined from texts of this seat, in their order. -/
import Derived.Test.YtaokkliamoghbaaGreatDoorJAs
import Derived.Test.YtaokkliamoghbaaGreatDoorJAq
import Derived.Test.YtaokkliamoghbaaGreatDoorJAi
import Derived.Test.YtaokkliamoghbaaGreatDoorJAm
set_option linter.unusedVariables false
set_option linter.unusedSimpArgs false
set_option linter.unusedSectionVars false
set_option linter.unusedVariables false
set_option linter.unusedSimpArgs false
set_option maxRecDepth 100000
namespace Go.Proofs.YtaokkliamoghbaaGreatDoor.PVpa
open Go.RowKit Go.Proofs.YtaokkliamoghbaaGreatDoorW.PrintWords Go.Proofs.YtaokkliamoghbaaGreatDoorW.PrintLast Go.Proofs.YtaokkliamoghbaaGreatDoorW.PrintMore
open PDet (VM VOk Wf In Zbi toks number)
abbrev okT:Nat→Prop:=fun _=>True
theorem NumE.then_ {D:DK}{ok ok1 ok2:Nat→Prop}{W W1 W2:World}{s s':PDet.St}(h:NumE D ok W W1 s)(k:NumE D ok1 W1 W2 s')(hm:∀x,ok1 x→ok2 x):NumE D ok2 W W2 s':=⟨k.ds.mono (fun x hx _=>hm x hx),h.same.trans k.same,Nat.le_trans h.size k.size⟩
theorem NumE.start {D:DK}{ok:Nat→Prop}{W:World}{s:PDet.St}(h:DS D ok W s.L s):NumE D ok W W s:=⟨h,Same3.refl _,Nat.le_refl _⟩
theorem toks_i64 {G:S26}{M:Mach}(hf:G.f0.length≤1000){k x:Int}(h:x∈toks (Zqc G M) k):I64 x∧0≤x∧x<G.f0.length:=by
 unfold toks at h;obtain⟨n,hn,rfl⟩:=List.mem_map.1 h;have hl:(Zqc G M).kinds.length=G.f0.length:=List.length_map _;have:=List.mem_range.1 (List.mem_filter.1 hn).1;rw[hl]at this;have e:Int.ofNat n=(n:Int):=rfl;rw[e];exact⟨⟨by omega,by omega⟩,by omega,by omega⟩
theorem toks_len {G:S26}{M:Mach}(hf:G.f0.length≤1000)(k:Int):(toks (Zqc G M) k).length≤1000:=by
 unfold toks;rw[List.length_map];have h1:=List.length_filter_le (fun t=>(Zqc G M).kinds.getD t 0==k) (List.range (Zqc G M).kinds.length);have hl:(Zqc G M).kinds.length=G.f0.length:=List.length_map _;rw[List.length_range]at h1;omega
theorem Znc {α:Type}{f:α→PDet.St→PDet.St}{l:List α}{a:Nat}(h:a<l.length)(s:PDet.St):PDet.runTo f (l.drop a) s=if (f l[a] s).large then f l[a] s else PDet.runTo f (l.drop (a+1)) (f l[a] s):=by
 rw[Zhb h]
 rfl
theorem Zke {α:Type}{f:α→PDet.St→PDet.St}{l:List α}{a:Nat}(h:l.length≤a)(s:PDet.St):PDet.runTo f (l.drop a) s=s:=by
 rw[List.drop_eq_nil_of_le h]
 rfl
abbrev Two (D:DK)(i j:Nat)(s:PDet.St):Prop:=PDet.Two D.V normP D.most i j s
set_option maxHeartbeats 4000000 in
theorem both_c (D : DK)(hk : D.Ok)(ht : Lib.TabBelow Tryz.prog D.b0 D.w0 "internal/strconv.uint64pow10" .u64 Lib.pow10Tab)(W : World)(s : PDet.St)(h : DS D okT W s.L s)(i j : Nat)(htwo : Two D i j s)(hlg : s.large = false) :
 Calls Tryz.prog 64 #[.pointer (some ⟨D.gd,0,none⟩),.int .i64 i,.int .i64 j] W fun e w'=>e=.returned (.tuple #[])∧NumE D okT W w' (PDet.both D.V normP D.most i j s)∧Two D i j (PDet.both D.V normP D.most i j s):=by
 obtain⟨vs,vo0,hc⟩:=h.cell;obtain⟨A1,n1,e1,_⟩:=Kd.R_reads h.toks.1;have q1:W.cell? ⟨D.gd,12,none⟩=some (.slice A1 (toks D.V 1).length n1):=(Zaa hc.1 12).trans (by rw[←e1];rfl);have hfin:=(PDet.both_all htwo).1;obtain⟨total,htl⟩:∃total,total=PDet.both D.V normP D.most i j s:=⟨_,rfl⟩
 rw[←htl]at hfin ⊢;have HTW:=Zrw.mk hfin;have HTL:Zrw (PDet.runTo (fun c=>PDet.runTo (fun t=>PDet.join2 D.V normP D.most i j c t) (toks D.V 2)) ((toks D.V 1).drop 0) s=total):=⟨htl.symm⟩
 have HK:=Zrw.mk hk;have HT:=Zrw.mk ht;have HS0:Zrw (NumE D okT W W s∧Two D i j s∧s.large=false):=⟨NumE.start h,htwo,hlg⟩
 have HTK:Zrw (∀(W':World) (s':PDet.St),DS D okT W' s'.L s'→(Kd.int .i64).R 3 W' D.b0 okT D.c1 (toks D.V 1)∧(Kd.int .i64).R 3 W' D.b0 okT D.c2 (toks D.V 2)):=⟨fun W' s' h'=>h'.toks⟩
 have HE1:=Zrw.mk e1;have HL1:=Zrw.mk (toks_len (M:=D.M) hk.few 1);have HL2:=Zrw.mk (toks_len (M:=D.M) hk.few 2);have HI1:Zrw (∀x∈toks D.V 1,I64 x):=⟨fun x hx=>(toks_i64 (M:=D.M) hk.few hx).1⟩
 have HI2:Zrw (∀x∈toks D.V 2,I64 x):=⟨fun x hx=>(toks_i64 (M:=D.M) hk.few hx).1⟩
 obtain⟨l1,hl1⟩:∃l1,l1=toks D.V 1:=⟨_,rfl⟩
 obtain⟨l2,hl2⟩:∃l2,l2=toks D.V 2:=⟨_,rfl⟩
 have HL1':Zrw (l1.length≤1000):=⟨by rw[hl1];exact HL1.out⟩
 have HL2':Zrw (l2.length≤1000):=⟨by rw[hl2];exact HL2.out⟩
 rw[←hl1]at q1;rw[←hl1,←hl2]at HTL HTK;rw[←hl1]at HI1;rw[←hl2]at HI2;clear h hc hk ht htwo hlg hfin htl e1 hl1 hl2 HL1 HL2
 go_enter Tryz.func64,Tryz.ntmps64
 go_wp2
 clear q1
 go_loopw [16] (fun ix wr=>∃(a:Nat) (s1:PDet.St),a≤l1.length∧ix=.int .i64 a∧Zrw (NumE D okT W wr s1∧Two D i j s1∧s1.large=false∧PDet.runTo (fun c=>PDet.runTo (fun t=>PDet.join2 D.V normP D.most i j c t) l2) (l1.drop a) s1=total)) (fun ix _=>l1.length-(intOf ix).toNat)
 case atStart=>exact⟨0,s,by omega,rfl,⟨HS0.out.1,HS0.out.2.1,HS0.out.2.2,HTL.out⟩⟩
 case round=>
  clear HS0 HTL;obtain⟨a,s1,hal,rfl,HS⟩:=hrel;by_cases han:a<l1.length
  ·have HAN:=Zrw.mk han;have hr1:=(HTK.out _ _ HS.out.1.ds).1;rw[HE1.out]at hr1;obtain⟨g1,rfl,p1⟩:=Zfz hr1 a han;obtain⟨vs1,vo1,hc1⟩:=HS.out.1.ds.cell;obtain⟨A2,n2,e2,_⟩:=Kd.R_reads (HTK.out _ _ HS.out.1.ds).2;have HE2:=Zrw.mk e2;have q2:wr.cell? ⟨D.gd,13,none⟩=some (.slice A2 l2.length n2):=(Zaa hc1.1 13).trans (by rw[←e2];rfl);have HC64:=Zrw.mk (HI1.out _ (List.getElem_mem han));obtain⟨mid,hmid⟩:∃mid,mid=PDet.runTo (fun t=>PDet.join2 D.V normP D.most i j l1[a] t) l2 s1:=⟨_,rfl⟩
   have HMID:Zrw (PDet.runTo (fun t=>PDet.join2 D.V normP D.most i j l1[a] t) (l2.drop 0) s1=mid):=⟨hmid.symm⟩
   have HTOT:Zrw ((if mid.large then mid else PDet.runTo (fun c=>PDet.runTo (fun t=>PDet.join2 D.V normP D.most i j c t) l2) (l1.drop (a+1)) mid)=total):=⟨by
    have:=HS.out.2.2.2;rw[Znc han]at this;rw[hmid];exact this⟩
   clear hr1 hc1 e2 hmid;generalize l1[a]=c at *;go_wp2
   clear q2 p1
   go_loopw [26] (fun ix wr=>∃(b:Nat) (s2:PDet.St),b≤l2.length∧ix=.int .i64 b∧Zrw (NumE D okT W wr s2∧Two D i j s2∧s2.large=false∧PDet.runTo (fun t=>PDet.join2 D.V normP D.most i j c t) (l2.drop b) s2=mid)) (fun ix _=>l2.length-(intOf ix).toNat)
   case atStart=>exact⟨0,s1,by omega,rfl,⟨HS.out.1,HS.out.2.1,HS.out.2.2.1,HMID.out⟩⟩
   case round=>
    clear HS HMID;obtain⟨b,s2,hbl,rfl,HS⟩:=hrel;by_cases hbn:b<l2.length
    ·have HBN:=Zrw.mk hbn;have hr2:=(HTK.out _ _ HS.out.1.ds).2;rw[HE2.out]at hr2;obtain⟨g2,rfl,p2⟩:=Zfz hr2 b hbn;have HT64:=Zrw.mk (HI2.out _ (List.getElem_mem hbn));have HNX:Zrw ((if (PDet.join2 D.V normP D.most i j c l2[b] s2).large then PDet.join2 D.V normP D.most i j c l2[b] s2 else PDet.runTo (fun t=>PDet.join2 D.V normP D.most i j c t) (l2.drop (b+1)) (PDet.join2 D.V normP D.most i j c l2[b] s2))=mid):=⟨by rw[←HS.out.2.2.2,Znc hbn]⟩
     clear hr2;generalize l2[b]=t at *;have hcap:=HS.out.2.1.1.cap HS.out.2.2.1;have hL2:s2.L.length≤1000:=by have:=HK.out.most;omega
     have HJ1:=Zrw.mk (join_c D HK.out HT.out okT wr s2 HS.out.1.ds i j HS.out.2.1.2.1 HS.out.2.1.2.2 c t HC64.out HT64.out hL2 HS.out.2.2.1);have g1':=PDet.join_good (V:=D.V) (nm:=normP) (most:=D.most) c t HS.out.2.1.1 HS.out.2.1.2.1 HS.out.2.1.2.2;have l1':=PDet.join_le (V:=D.V) (nm:=normP) (most:=D.most) i j c t s2;have HT3:Zrw (Two D i j (PDet.join D.V normP D.most i j c t s2)):=⟨g1',Nat.lt_of_lt_of_le HS.out.2.1.2.1 l1'.len,Nat.lt_of_lt_of_le HS.out.2.1.2.2 l1'.len⟩
     have HJ2:Zrw (PDet.join2 D.V normP D.most i j c t s2=if (PDet.join D.V normP D.most i j c t s2).large then PDet.join D.V normP D.most i j c t s2 else if j=i then PDet.join D.V normP D.most i j c t s2 else PDet.join D.V normP D.most j i c t (PDet.join D.V normP D.most i j c t s2)):=⟨rfl⟩
     clear hcap hL2 g1' l1';generalize PDet.join D.V normP D.most i j c t s2=s3 at *;generalize PDet.join2 D.V normP D.most i j c t s2=sj at *;cases hlg3:s3.large with
     | true=>
      have HFIN:Zrw (s3=total):=⟨by
       have e1:=HJ2.out;rw[if_pos hlg3]at e1;have e2:=HNX.out;rw[e1,if_pos hlg3]at e2;have e3:=HTOT.out;rw[←e2,if_pos hlg3]at e3;exact e3⟩
      have HLG:=Zrw.mk hlg3;clear hlg3
      go_wp2_with (go_at_call 85;(with_reducible refine HJ1.out.mono ?_);rintro e8 w8 ⟨rfl,hn8⟩;have HN8:=Zrw.mk (HS.out.1.then_ hn8 (ok2:=okT) (fun _ _=>trivial));have q8:w8.cell? ⟨D.gd,10,none⟩=some (.bool s3.large):=(by (obtain⟨_,_,hc2⟩:=hn8.ds.cell;exact (Zaa hc2.1 10).trans rfl));rw[HLG.out]at q8;clear hn8)
      (try simp only[Exit.inBlock,Exit.then])
      refine bodyPost_ret (results_none rfl _ _ _) rfl ?_
      exact⟨rfl,by rw[←HFIN.out];exact HN8.out,HTW.out⟩
     | false=>
      have HLG:=Zrw.mk hlg3;by_cases hji:j=i
      ·subst hji;have HSJ:Zrw (sj=s3):=⟨by have e1:=HJ2.out;rw[if_neg (by simp[hlg3]),if_pos rfl]at e1;exact e1⟩
       have HNX2:Zrw (PDet.runTo (fun t=>PDet.join2 D.V normP D.most j j c t) (l2.drop (b+1)) s3=mid):=⟨by have e2:=HNX.out;rw[HSJ.out,if_neg (by simp[hlg3])]at e2;exact e2⟩
       clear hlg3
       go_wp2_with (go_at_call 85;(with_reducible refine HJ1.out.mono ?_);rintro e8 w8 ⟨rfl,hn8⟩;have HN8:=Zrw.mk (HS.out.1.then_ hn8 (ok2:=okT) (fun _ _=>trivial));have q8:w8.cell? ⟨D.gd,10,none⟩=some (.bool s3.large):=(by (obtain⟨_,_,hc2⟩:=hn8.ds.cell;exact (Zaa hc2.1 10).trans rfl));rw[HLG.out]at q8;clear hn8)
       have hw:=Zej hbn (Nat.le_trans HL2'.out (by decide))
       go_roundw
       case rel=>exact⟨b+1,s3,HBN.out,by rw[hw],⟨HN8.out,HT3.out,HLG.out,HNX2.out⟩⟩
       case measure=>rw[hw];simp only[intOf];exact Zds HBN.out
      ·have hcap:=HT3.out.1.cap hlg3;have hL3:s3.L.length≤1000:=by have:=HK.out.most;omega
       have hsj:sj=PDet.join D.V normP D.most j i c t s3:=by have e1:=HJ2.out;rw[if_neg (by simp[hlg3]),if_neg hji]at e1;exact e1
       have g1':=PDet.join_good (V:=D.V) (nm:=normP) (most:=D.most) c t HT3.out.1 HT3.out.2.2 HT3.out.2.1;have l1':=PDet.join_le (V:=D.V) (nm:=normP) (most:=D.most) j i c t s3;rw[←hsj]at g1' l1';have HT4:Zrw (Two D i j sj):=⟨g1',Nat.lt_of_lt_of_le HT3.out.2.1 l1'.len,Nat.lt_of_lt_of_le HT3.out.2.2 l1'.len⟩
       have HJ3:Zrw (∀w',DS D okT w' s3.L s3→Calls Tryz.prog 85 #[.pointer (some ⟨D.gd,0,none⟩),.int .i64 j,.int .i64 i,.int .i64 c,.int .i64 t] w' fun e w''=>e=.returned (.tuple #[])∧NumE D (okN okT w') w' w'' sj):=⟨fun w' hd=>by rw[hsj];exact join_c D HK.out HT.out okT w' s3 hd j i HT3.out.2.2 HT3.out.2.1 c t HC64.out HT64.out hL3 hlg3⟩
       have qji:((j:Int)==(i:Int))=false:=by simp;omega
       have qji2:(j==i)=false:=by simpa using hji
       have tok1:True:=trivial;clear hcap hL3 hsj g1' l1' hlg3 hji;cases hlg4:sj.large with
       | true=>
        have HFIN:Zrw (sj=total):=⟨by
         have e2:=HNX.out;rw[if_pos hlg4]at e2;have e3:=HTOT.out;rw[←e2,if_pos hlg4]at e3;exact e3⟩
        have HLG4:=Zrw.mk hlg4;clear hlg4
        go_wp2_with (first | (go_at_call 85;have _t:=tok1;(with_reducible refine HJ1.out.mono ?_);rintro e8 w8 ⟨rfl,hn8⟩;have HN8:=Zrw.mk (HS.out.1.then_ hn8 (ok2:=okT) (fun _ _=>trivial));have q8:w8.cell? ⟨D.gd,10,none⟩=some (.bool s3.large):=(by (obtain⟨_,_,hc2⟩:=hn8.ds.cell;exact (Zaa hc2.1 10).trans rfl));rw[HLG.out]at q8;clear hn8 tok1) | (go_at_call 85;(with_reducible refine (HJ3.out _ HN8.out.ds).mono ?_);rintro e9 w9 ⟨rfl,hn9⟩;have HN9:=Zrw.mk (HN8.out.then_ hn9 (ok2:=okT) (fun _ _=>trivial));have q9:w9.cell? ⟨D.gd,10,none⟩=some (.bool sj.large):=(by (obtain⟨_,_,hc2⟩:=hn9.ds.cell;exact (Zaa hc2.1 10).trans rfl));rw[HLG4.out]at q9;clear hn9))
        (try simp only[Exit.inBlock,Exit.then])
        refine bodyPost_ret (results_none rfl _ _ _) rfl ?_
        exact⟨rfl,by rw[←HFIN.out];exact HN9.out,HTW.out⟩
       | false=>
        have HNX2:Zrw (PDet.runTo (fun t=>PDet.join2 D.V normP D.most i j c t) (l2.drop (b+1)) sj=mid):=⟨by have e2:=HNX.out;rw[if_neg (by simp[hlg4])]at e2;exact e2⟩
        have HLG4:=Zrw.mk hlg4;clear hlg4
        go_wp2_with (first | (go_at_call 85;have _t:=tok1;(with_reducible refine HJ1.out.mono ?_);rintro e8 w8 ⟨rfl,hn8⟩;have HN8:=Zrw.mk (HS.out.1.then_ hn8 (ok2:=okT) (fun _ _=>trivial));have q8:w8.cell? ⟨D.gd,10,none⟩=some (.bool s3.large):=(by (obtain⟨_,_,hc2⟩:=hn8.ds.cell;exact (Zaa hc2.1 10).trans rfl));rw[HLG.out]at q8;clear hn8 tok1) | (go_at_call 85;(with_reducible refine (HJ3.out _ HN8.out.ds).mono ?_);rintro e9 w9 ⟨rfl,hn9⟩;have HN9:=Zrw.mk (HN8.out.then_ hn9 (ok2:=okT) (fun _ _=>trivial));have q9:w9.cell? ⟨D.gd,10,none⟩=some (.bool sj.large):=(by (obtain⟨_,_,hc2⟩:=hn9.ds.cell;exact (Zaa hc2.1 10).trans rfl));rw[HLG4.out]at q9;clear hn9))
        have hw:=Zej hbn (Nat.le_trans HL2'.out (by decide))
        go_roundw
        case rel=>exact⟨b+1,sj,HBN.out,by rw[hw],⟨HN9.out,HT4.out,HLG4.out,HNX2.out⟩⟩
        case measure=>rw[hw];simp only[intOf];exact Zds HBN.out
    ·have hd:decide (b<l2.length)=false:=decide_eq_false hbn;have HNX:Zrw (PDet.runTo (fun c=>PDet.runTo (fun t=>PDet.join2 D.V normP D.most i j c t) l2) (l1.drop (a+1)) s2=total):=⟨by
      have e1:=HS.out.2.2.2;rw[Zke (by omega)]at e1;have e2:=HTOT.out;rw[←e1,if_neg (by simp[HS.out.2.2.1])]at e2;exact e2⟩
     go_wp2
     have hw:=Zej HAN.out (Nat.le_trans HL1'.out (by decide))
     go_roundw
     case rel=>exact⟨a+1,s2,HAN.out,by rw[hw],⟨HS.out.1,HS.out.2.1,HS.out.2.2.1,HNX.out⟩⟩
     case measure=>rw[hw];simp only[intOf];exact Zds HAN.out
  ·have hd:decide (a<l1.length)=false:=decide_eq_false han;have HFIN:Zrw (s1=total):=⟨by have e1:=HS.out.2.2.2;rw[Zke (by omega)]at e1;exact e1⟩
   go_wp2
   go_end0
   exact⟨rfl,by rw[←HFIN.out];exact HS.out.1,HTW.out⟩
end Go.Proofs.YtaokkliamoghbaaGreatDoor.PVpa
set_option linter.unusedVariables false
set_option linter.unusedSimpArgs false
namespace Go.Proofs.YtaokkliamoghbaaGreatDoor.PVpa
open Go.RowKit Go.Proofs.YtaokkliamoghbaaGreatDoorW.PrintWords Go.Proofs.YtaokkliamoghbaaGreatDoorW.PrintLast Go.Proofs.YtaokkliamoghbaaGreatDoorW.PrintMore
open PDet (VM VOk Wf In Zbi toks number)
theorem info41:(Tryz.prog.info? 41).map (fun i=>(i.zero,i.size,i.bytes))=some (some (.slice none 0 0),1,24):=by kernel_rfl
section
variable {D:DK}{ok:Nat→Prop}{W W1:World}{ns:List (List (Int × Int))}{s:PDet.St}
theorem DS.putOne (h:DS D ok W ns s)(hk:D.Ok){vs vo vo':Value}{r:List Int}(hc:DCell D ok W vs vo s)(hR:(Kd.slice 3 (Kd.int .i64)).R 41 W1 D.b0 okT vo' (s.one++[r]))(hb1:Below D.b0 D.w0 W1)(hg:W.grownBy W1 vo.ownBlock) :
 DS D okT (W1.setCell ⟨D.gd,6,none⟩ vo') ns (PDet.addRow r s)∧Kept W (W1.setCell ⟨D.gd,6,none⟩ vo') (fun k=>k=D.gd∨vo.ownBlock=some k):=by
 obtain⟨i0,i1,i2,i3,i4⟩:=h.in5;have hne:some D.gd≠vo.ownBlock:=Kd.R_ne hc.2.2 hc.1 (by decide);have hgd:=Zat hc.1 hg hne;have hblk:∀k,k<W.heap.size→k≠D.gd→some k≠vo.ownBlock→(W1.setCell ⟨D.gd,6,none⟩ vo').heap[k]?=W.heap[k]?:=fun k hk h1 h2=>(Below.heap_setCell _ _ _ k h1).trans (hg.block k hk h2)
 have hty:∀q:List Nat,88 ∉ q→41 ∉ q→∀k,ok k→D.b0≤k→k<W.heap.size→(∃q',q'∈q∧∃cells,W.heap[k]?=some (.cells cells q' (0,0)))→okT k∧(W1.setCell ⟨D.gd,6,none⟩ vo').heap[k]?=W.heap[k]?:=by
  rintro q n1 n2 k h1 _ h2 ⟨q',hq,cells,hcs⟩;refine⟨trivial,hblk k h2 ?_ (Kd.R_ne hc.2.2 hcs (fun e=>n2 (e▸hq)))⟩;rintro rfl;have this:=hc.1;rw[hcs]at this;injection this with this
  injection this with _ this
  exact n1 (this▸hq)
 have hmap:∀{kt:TypeId} {m:Nat} {M:Value→Option Value},W.mapIs Tryz.prog kt m M→(W1.setCell ⟨D.gd,6,none⟩ vo').heap[m]?=W.heap[m]?:=fun {kt m M} hM=>hblk m hM.lt (fun e=>Zbm hM hc.1 e.symm) (fun e=>by
  obtain⟨inner,ho⟩:=Kd.R_own hc.2.2;obtain⟨cells,hcs⟩:=Zaq ho m e.symm;exact Zbm hM hcs rfl)
 have hbel:Below D.b0 D.w0 (W1.setCell ⟨D.gd,6,none⟩ vo'):=hb1.setCell (p:=⟨D.gd,6,none⟩) (hk.ge _ (by simp)) vo';refine⟨⟨hbel,fun k hk=>trivial,⟨vs,vo',?_,?_,?_⟩,h.num.move (hmap h.num.choose_spec.1),h.ret.move (hmap h.ret.choose_spec.1),h.calls.off (hmap h.calls.choose_spec.1) (hty [90] (by decide) (by decide)),h.backs.off (hmap h.backs.choose_spec.1) (hty [3] (by decide) (by decide)),h.toks.off (hty [3] (by decide) (by decide)),h.wf⟩,?_⟩
 ·exact Zcd hgd 6 vo'
 ·exact Zei hc.2.1 (hty _ (by decide) (by decide))
 ·exact Kd.R_set hR hgd (by decide) 6 vo'
 ·refine⟨?_,fun k hk hn=>hblk k hk (fun e=>hn (.inl e)) (fun e=>hn (.inr e.symm))⟩;have:=hg.size;simpa[World.setCell]using this
end
theorem Zgf {G:S26}{M:Mach}:(PDet.tokRow (Zqc G M)).length=G.f0.length+1:=by
 unfold PDet.tokRow;rw[List.length_map,List.length_range];show (G.f0.map _).length+1=_;rw[List.length_map]
theorem tokRow_at {G:S26}{M:Mach}{a:Nat}(h:a<(PDet.tokRow (Zqc G M)).length):(PDet.tokRow (Zqc G M))[a]=(a:Int)-1:=by
 have h2:=h;rw[Zgf]at h2;have hl:(Zqc G M).kinds.length=G.f0.length:=List.length_map _;have e:(PDet.tokRow (Zqc G M))[a]?=some ((a:Int)-1):=by
  unfold PDet.tokRow;rw[List.getElem?_map,List.getElem?_range (by omega)]
  rfl
 rw[List.getElem?_eq_getElem h]at e;exact Option.some.inj e
theorem row_set {r:List Int}{m a:Nat}(h:r.length=a)(ha:a<m)(x:Int):(r++List.replicate (m-a) 0).set a x=(r++[x])++List.replicate (m-(a+1)) 0:=by
 obtain⟨q,hq⟩:∃q,m-a=q+1:=⟨m-a-1,by omega⟩
 rw[show m-(a+1)=q by omega,hq,List.set_append_right _ _ (by omega),h,Nat.sub_self,List.replicate_succ];simp
def RowB (W:World)(b0 gr m:Nat)(l:List Int):Prop:=W.ownsRow b0 3 1 (.slice (some ⟨gr,0,none⟩) m m) m (Zoz .i64 l)
theorem RowB.typed {W:World}{b0 gr m:Nat}{l:List Int}(h:RowB W b0 gr m l):∃cells,W.heap[gr]?=some (.cells cells 3 (0,0)):=Zaq h gr rfl
theorem RowB.same {W W1:World}{b0 gr m:Nat}{l:List Int}(h:RowB W b0 gr m l)(hs:Same3 W W1):RowB W1 b0 gr m l:=Zci h (fun k hk=>by
 obtain⟨cells,hc⟩:=Zaq h k hk;exact hs k cells hc)
theorem NumE.store {D:DK}{W W1:World}{s:PDet.St}{gr:Nat}(h:NumE D (fun k=>k≠gr) W W1 s)(hg:W.heap.size≤gr)(hb:D.b0≤gr)(a:Nat)(v:Value):NumE D (fun k=>k≠gr) W (W1.setCell ⟨gr,a,none⟩ v) s:=by
 refine⟨h.ds.move (h.ds.bel.setCell (p:=⟨gr,a,none⟩) hb v) (fun k hk _=>Below.heap_setCell _ _ _ k hk),fun k cells hc=>?_,?_⟩
 ·have hlt:=Zau hc;exact (Below.heap_setCell _ _ _ k (show k≠gr by omega)).trans (h.same k cells hc)
 ·have:=h.size;simpa[World.setCell]using this
set_option maxHeartbeats 4000000 in
theorem close_c (D : DK)(hk : D.Ok)(ht : Lib.TabBelow Tryz.prog D.b0 D.w0 "internal/strconv.uint64pow10" .u64 Lib.pow10Tab)(W : World)(s : PDet.St)(h : DS D okT W s.L s)(hgood : PDet.Good D.V normP D.most s)(hlg : s.large = false)(hone : s.one.length = 0) :
 Calls Tryz.prog 43 #[.pointer (some ⟨D.gd,0,none⟩)] W fun e w'=>e=.returned (.tuple #[])∧NumE D okT W w' (PDet.close D.V normP D.most (D.most+2) 0 s):=by
 obtain⟨total,htl⟩:∃total,total=PDet.close D.V normP D.most (D.most+2) 0 s:=⟨_,rfl⟩
 rw[←htl];have HTL:Zrw (PDet.close D.V normP D.most (D.most+2-0) 0 s=total):=⟨htl.symm⟩
 have HK:=Zrw.mk hk;have HT:=Zrw.mk ht;have HS0:Zrw (NumE D okT W W s∧PDet.Good D.V normP D.most s∧s.large=false∧s.one.length=0):=⟨NumE.start h,hgood,hlg,hone⟩
 have HW0:Zrw (D.b0≤W.heap.size):=⟨h.bel.size⟩
 obtain⟨m,hm⟩:∃m,m=D.G.f0.length:=⟨_,rfl⟩
 have HM:=Zrw.mk hm;have hfew:=hk.few;have hmk:=print_make (P:=Tryz.prog) 41 3 .i64 8 Tryz.underlying41 Ziq (by omega) (m+1) (by omega);have HMK:=Zrw.mk hmk;have HFEW:Zrw (m≤1000):=⟨by omega⟩
 clear h hk ht hgood hlg hone htl hm hfew hmk
 go_enter Tryz.func43,Tryz.ntmps43
 go_wp2
 go_loopw [2] (fun ix wr=>∃(k:Nat) (s1:PDet.St),k≤s1.L.length∧ix=.int .i64 k∧Zrw (NumE D okT W wr s1∧PDet.Good D.V normP D.most s1∧s1.large=false∧PDet.close D.V normP D.most (D.most+2-k) k s1=total∧s1.one.length=k)) (fun ix _=>D.most+1-(intOf ix).toNat)
 case atStart=>exact⟨0,s,by omega,rfl,⟨HS0.out.1,HS0.out.2.1,HS0.out.2.2.1,HTL.out,HS0.out.2.2.2⟩⟩
 case round=>
  clear HS0 HTL;obtain⟨k,s1,hkl,rfl,HS⟩:=hrel;obtain⟨vs,vo,hc⟩:=HS.out.1.ds.cell;obtain⟨A4,c4,rfl,_⟩:=Kd.R_reads hc.2.1;have q4:wr.cell? ⟨D.gd,4,none⟩=some (.slice A4 s1.L.length c4):=(Zaa hc.1 4).trans rfl;have q10:wr.cell? ⟨D.gd,10,none⟩=some (.bool false):=(Zaa hc.1 10).trans (by rw[←HS.out.2.2.1];rfl);have q0:wr.cell? ⟨D.gd,0,none⟩=some (.slice D.At m D.ct):=(Zaa hc.1 0).trans (by rw[HM.out];rfl);have hcap:=HS.out.2.1.cap HS.out.2.2.1;have HKM:Zrw (k≤D.most):=⟨by omega⟩
  have HMO:=Zrw.mk HK.out.most;clear hc hcap;by_cases hkn:k<s1.L.length
  ·have HKN:=Zrw.mk hkn;have hd:decide (k<s1.L.length)=true:=decide_eq_true hkn;obtain⟨rnd,hrnd⟩:∃rnd,rnd=PDet.round D.V normP D.most k s1:=⟨_,rfl⟩
   have HTOT:Zrw (PDet.close D.V normP D.most (D.most+2-(k+1)) (k+1) rnd=total):=⟨by
    have e:=HS.out.2.2.2.1;rw[show D.most+2-k=(D.most+2-(k+1))+1 by have:=HKM.out;omega]at e;unfold PDet.close at e;rw[if_pos ⟨hkn,HS.out.2.2.1⟩]at e;rw[hrnd];exact e⟩
   obtain⟨rt,hrt⟩:∃rt,rt=PDet.row D.V normP D.most k (PDet.tokRow D.V) [] s1:=⟨_,rfl⟩
   have HRND:Zrw (rnd=if rt.2.large then rt.2 else PDet.runTo (PDet.both D.V normP D.most k) (List.range (k+1)) (PDet.addRow rt.1 rt.2)):=⟨by rw[hrnd,hrt];rfl⟩
   have HRT:Zrw (PDet.row D.V normP D.most k ((PDet.tokRow D.V).drop 0) [] s1=rt):=⟨hrt.symm⟩
   have HN1:Zrw (NumE D (fun x=>x≠wr.heap.size) W (wr.alloc (.cells (madeCells #[.int .i64 0] (m+1)) 3)) s1):=⟨by
    have h1:=HS.out.1.ds.mono (ok':=fun x=>x≠wr.heap.size) (fun x _ hx=>by omega);have hb:Below wr.heap.size wr (wr.alloc (.cells (madeCells #[.int .i64 0] (m+1)) 3)):=Zab Zbr _;exact⟨h1.below hb,HS.out.1.same.trans (Same3.below hb),Nat.le_trans HS.out.1.size hb.size⟩⟩
   have HROW:Zrw (RowB (wr.alloc (.cells (madeCells #[.int .i64 0] (m+1)) 3)) D.b0 wr.heap.size (m+1) ([]++List.replicate (m+1-0) 0)):=⟨own_made wr D.b0 3 .i64 (m+1) HS.out.1.ds.bel.size (by have:=HFEW.out;omega)⟩
   have HGR:Zrw (W.heap.size≤wr.heap.size):=⟨HS.out.1.size⟩
   have HG1:=Zrw.mk HS.out.2.1;have HLG1:=Zrw.mk HS.out.2.2.1;have HONE:=Zrw.mk HS.out.2.2.2.2;have hmk2:(Instr.makeSlice 41 (.int .i64 ((m:Int)+1)) (.int .i64 ((m:Int)+1))).run Tryz.prog wr=.ok (.slice (some ⟨wr.heap.size,0,none⟩) (m+1) (m+1)) (wr.alloc (.cells (madeCells #[.int .i64 0] (m+1)) 3)):=HMK.out wr;have hfm:=HFEW.out;clear hrnd hrt;go_wp2
   clear q0 q4 q10 hmk2 hfm hd;generalize wr.alloc (.cells (madeCells #[.int .i64 0] (m+1)) 3)=X at *;generalize wr.heap.size=gr at *
   go_loopw [32] (fun ix wr=>∃(a:Nat) (s2:PDet.St) (r2:List Int),a≤m+1∧ix=.int .i64 a∧Zrw (r2.length=a∧NumE D (fun x=>x≠gr) W wr s2∧PDet.Good D.V normP D.most s2∧k<s2.L.length∧s2.large=false∧RowB wr D.b0 gr (m+1) (r2++List.replicate (m+1-a) 0)∧PDet.row D.V normP D.most k ((PDet.tokRow D.V).drop a) r2 s2=rt∧s2.one.length=k)) (fun ix _=>m+1-(intOf ix).toNat)
   case atStart=>exact⟨0,s1,[],by omega,rfl,⟨rfl,HN1.out,HG1.out,HKN.out,HLG1.out,HROW.out,HRT.out,HONE.out⟩⟩
   case round=>
    clear HN1 HROW HRT HG1 HLG1 HONE;obtain⟨a,s2,r2,hal,rfl,HS⟩:=hrel;by_cases han:a<m+1
    ·have HAN:=Zrw.mk han;have htl:(PDet.tokRow D.V).length=m+1:=by rw[HM.out];exact Zgf
     have htv:a<(PDet.tokRow D.V).length:=by omega
     have hta:(PDet.tokRow D.V)[a]=(a:Int)-1:=tokRow_at (G:=D.G) (M:=D.M) htv;have hstep:=HS.out.2.2.2.2.2.2.1;have HON3:Zrw ((PDet.step D.V normP D.most k ((a:Int)-1) s2).2.one.length=k):=⟨by
      have e:(PDet.step D.V normP D.most k ((a:Int)-1) s2).2.one=s2.one:=PDet.number_one (nm:=normP) (most:=D.most) _ s2;rw[e];exact HS.out.2.2.2.2.2.2.2⟩
     rw[Zhb htv,hta]at hstep;unfold PDet.row at hstep;have hcap:=HS.out.2.2.1.cap HS.out.2.2.2.2.1;have hmo:=HMO.out;have HJ:=Zrw.mk (step_c D HK.out HT.out (fun x=>x≠gr) wr s2 HS.out.2.1.ds k HS.out.2.2.2.1 ((a:Int)-1) (by omega) (by have:=HM.out;omega) (by omega) HS.out.2.2.2.2.1);have gd3:=PDet.number_good (V:=D.V) (nm:=normP) (most:=D.most) (PDet.stepOut D.V s2.L k ((a:Int)-1)) HS.out.2.2.1;have le3:=PDet.number_le (nm:=normP) (most:=D.most) (PDet.stepOut D.V s2.L k ((a:Int)-1)) s2;have HG3:Zrw (PDet.Good D.V normP D.most (PDet.step D.V normP D.most k ((a:Int)-1) s2).2):=⟨gd3⟩
     have HK3:Zrw (k<(PDet.step D.V normP D.most k ((a:Int)-1) s2).2.L.length):=⟨Nat.lt_of_lt_of_le HS.out.2.2.2.1 le3.len⟩
     have HST:=Zrw.mk hstep;have hw1:IntKind.i64.wrap ((a:Int)-1)=(a:Int)-1:=by have:=HFEW.out;simp[IntKind.wrap,IntKind.bits,IntKind.signed];omega
     have HRS:Zrw ((r2++List.replicate (m+1-a) 0).set a ((PDet.step D.V normP D.most k ((a:Int)-1) s2).1:Nat)=(r2++[((PDet.step D.V normP D.most k ((a:Int)-1) s2).1:Int)])++List.replicate (m+1-(a+1)) 0):=⟨row_set HS.out.1 han _⟩
     clear hstep hcap hmo gd3 le3 hta htl htv;generalize PDet.step D.V normP D.most k ((a:Int)-1) s2=st at *;obtain⟨nx,s3⟩:=st;simp only at HJ HG3 HK3 HST HRS HON3;have HMK3:Zrw (∀w8,NumE D (okN (fun x=>x≠gr) wr) wr w8 s3→NumE D (fun x=>x≠gr) W w8 s3∧RowB w8 D.b0 gr (m+1) (r2++List.replicate (m+1-a) 0)):=⟨fun w8 hn=>⟨HS.out.2.1.then_ hn (fun x hx=>by
      rcases hx with hx | hx
      ·exact hx
      ·obtain⟨cells,hc⟩:=HS.out.2.2.2.2.2.1.typed;have:=Zau hc;omega),HS.out.2.2.2.2.2.1.same hn.same⟩⟩
     cases hlg3:s3.large with
     | true=>
      have HLG:=Zrw.mk hlg3;have HFIN:Zrw (s3=total):=⟨by
       have e1:=HST.out;rw[if_pos hlg3]at e1;have e2:=HRND.out;rw[←e1,if_pos hlg3]at e2;have e3:=HTOT.out;rw[e2,PDet.close_large _ _ _ _ _ _ hlg3]at e3;exact e3⟩
      clear hlg3
      go_wp2_with (go_at_call 63;(with_reducible refine HJ.out.mono ?_);rintro e8 w8 ⟨rfl,hn8⟩;have HN8:=Zrw.mk (HMK3.out w8 hn8);have hoa:=own_at HN8.out.2 (a:Int) (by omega) (by omega);rw[Int.toNat_natCast]at hoa;obtain⟨o1,o2⟩:=hoa;have HN9:=Zrw.mk (HN8.out.1.store HGR.out (Nat.le_trans HW0.out HGR.out) a (.int .i64 nx));have q8:(w8.setCell ⟨gr,a,none⟩ (.int .i64 nx)).cell? ⟨D.gd,10,none⟩=some (.bool s3.large):=(by (obtain⟨_,_,hc2⟩:=HN9.out.ds.cell;exact (Zaa hc2.1 10).trans rfl));rw[HLG.out]at q8;clear hn8)
      (try simp only[Exit.inBlock,Exit.then])
      refine bodyPost_ret (results_none rfl _ _ _) rfl ?_
      exact⟨rfl,by rw[←HFIN.out];exact⟨HN9.out.ds.triv,HN9.out.same,HN9.out.size⟩⟩
     | false=>
      have HLG:=Zrw.mk hlg3;have HNX:Zrw (PDet.row D.V normP D.most k ((PDet.tokRow D.V).drop (a+1)) (r2++[(nx:Int)]) s3=rt):=⟨by have e1:=HST.out;rw[if_neg (by simp[hlg3])]at e1;exact e1⟩
      clear hlg3
      go_wp2_with (go_at_call 63;(with_reducible refine HJ.out.mono ?_);rintro e8 w8 ⟨rfl,hn8⟩;have HN8:=Zrw.mk (HMK3.out w8 hn8);have hoa:=own_at HN8.out.2 (a:Int) (by omega) (by omega);rw[Int.toNat_natCast]at hoa;obtain⟨o1,o2⟩:=hoa;have HN9:=Zrw.mk (HN8.out.1.store HGR.out (Nat.le_trans HW0.out HGR.out) a (.int .i64 nx));have HR9:Zrw (RowB (w8.setCell ⟨gr,a,none⟩ (.int .i64 nx)) D.b0 gr (m+1) ((r2++[(nx:Int)])++List.replicate (m+1-(a+1)) 0)):=⟨by (have:=(own_store HN8.out.2 (a:Int) (nx:Int)).1;rw[Int.toNat_natCast,HRS.out]at this;exact this)⟩;have q8:(w8.setCell ⟨gr,a,none⟩ (.int .i64 nx)).cell? ⟨D.gd,10,none⟩=some (.bool s3.large):=(by (obtain⟨_,_,hc2⟩:=HN9.out.ds.cell;exact (Zaa hc2.1 10).trans rfl));rw[HLG.out]at q8;clear hn8)
      have hw:=Zej han (by have:=HFEW.out;omega);clear o1 o2 q8 hw1
      go_roundw
      case rel=>exact⟨a+1,s3,r2++[(nx:Int)],HAN.out,by rw[hw],⟨by rw[List.length_append,HS.out.1];rfl,HN9.out,HG3.out,HK3.out,HLG.out,HR9.out,HNX.out,HON3.out⟩⟩
      case measure=>rw[hw];simp only[intOf];exact Zds HAN.out
    ·have hd:decide (a<m+1)=false:=decide_eq_false han;have htl:(PDet.tokRow D.V).length=m+1:=by rw[HM.out];exact Zgf
     have HRT:Zrw ((r2,s2)=rt):=⟨by
      have e:=HS.out.2.2.2.2.2.2.1;rw[List.drop_eq_nil_of_le (by omega)]at e;exact e⟩
     obtain rfl:a=m+1:=by omega
     have HRW:Zrw (RowB wr D.b0 gr (m+1) r2):=⟨by have:=HS.out.2.2.2.2.2.1;rw[Nat.sub_self,List.replicate_zero,List.append_nil]at this;exact this⟩
     have HRN:Zrw (rnd=PDet.runTo (PDet.both D.V normP D.most k) ((List.range (k+1)).drop 0) (PDet.addRow r2 s2)):=⟨by have e:=HRND.out;rw[←HRT.out,if_neg (by simp[HS.out.2.2.2.2.1])]at e;exact e⟩
     obtain⟨vs2,vo2,hc2⟩:=HS.out.2.1.ds.cell;obtain⟨A6,c6,rfl,_⟩:=Kd.R_reads hc2.2.2;have q6:wr.cell? ⟨D.gd,6,none⟩=some (.slice A6 s2.one.length c6):=(Zaa hc2.1 6).trans rfl;obtain⟨n6,hn6⟩:∃n6,n6=s2.one.length:=⟨_,rfl⟩
     have HC2:=Zrw.mk hc2;have HP2:Zrw ((Kd.int .i64).R 3 wr D.b0 (fun x=>some x≠(Value.slice A6 s2.one.length c6).ownBlock) (.slice (some ⟨gr,0,none⟩) (m+1) (m+1)) r2):=⟨by
      have hl:r2.length=m+1:=HS.out.1;have ho:wr.ownsRow D.b0 3 1 (.slice (some ⟨gr,0,none⟩) (m+1) (m+1)) r2.length (Zig (Value.int .i64) r2):=by rw[hl];exact HRW.out
      exact Kd.R_of_own ho (fun x hx=>by
       obtain⟨cells,hcs⟩:=Zaq HRW.out x hx;exact Kd.R_ne hc2.2.2 hcs (by decide))⟩
     have HO2:Zrw ((Kd.slice 3 (Kd.int .i64)).R 41 wr D.b0 okT (.slice A6 s2.one.length c6) s2.one):=⟨Kd.R_mono hc2.2.2 (fun _ _=>trivial)⟩
     have HON:Zrw (s2.one.length≤100000):=⟨by have:=HS.out.2.2.2.2.2.2.2;have:=HKM.out;have:=HMO.out;omega⟩
     rw[←hn6]at q6 HC2 HP2 HO2;have HN6:=Zrw.mk hn6;clear hc2 hn6
     go_wp2_with ((with_reducible refine Zal (b:=.append) (xs:=#[.tmp 52,.tmp 54]) rfl ?_);at_builtin;refine Kd.R_append (Kd.slice 3 (Kd.int .i64)) (w0:=D.w0) D.b0 rfl (.tmp 52) (.tmp 54) 22 41 (.slice none 0 0) 24 rfl Tryz.underlying22 info41 rfl (by decide) (by omega) (.slice A6 n6 c6) s2.one r2 [.slice (some ⟨gr,0,none⟩) (m+1) (m+1)] okT (fun x=>some x≠(Value.slice A6 n6 c6).ownBlock) rfl rfl ⟨_,rfl,HP2.out⟩ (fun x hx=>⟨trivial,hx⟩) (fun _ _=>trivial) HO2.out HS.out.2.1.ds.bel HS.out.2.1.ds.bel.size (by have:=HON.out;omega) ?_;intro v7 w7 hr7 hb7 hg7 hat7;obtain⟨A7,c7,rfl,_⟩:=Kd.R_reads hr7;have HR7:=Zrw.mk hr7;have HB7:=Zrw.mk hb7;have HG7:=Zrw.mk hg7;have k7:=Zat HC2.out.1 hg7 (Kd.R_ne HC2.out.2.2 HC2.out.1 (by decide));have hf7:=Zam k7 6;have hc7:w7.cell? ⟨D.gd,6,none⟩=some (.slice A6 n6 c6):=(Zaa k7 6).trans rfl;clear hr7 hb7 hg7 hat7 k7;refine Hid.out ?_)
     refine Lib.hid ?_
     have hput:=HS.out.2.1.ds.putOne HK.out (r:=r2) HC2.out HR7.out HB7.out HG7.out;rw[List.length_append,List.length_singleton]at hput;have HS5:Zrw (NumE D okT W (w7.setCell ⟨D.gd,6,none⟩ (.slice A7 (s2.one.length+1) c7)) (PDet.addRow r2 s2)):=⟨⟨by rw[HN6.out.symm]at hput ⊢;exact hput.1,HS.out.2.1.same.trans (Zkt hput.2 (fun x hx=>by
      rcases hx with rfl | hx
      ·exact not3 HC2.out.1 (by decide)
      ·obtain⟨inner,ho⟩:=Kd.R_own HC2.out.2.2;obtain⟨cells,hcs⟩:=Zaq ho x hx;exact not3 hcs (by decide))),Nat.le_trans HS.out.2.1.size hput.2.1⟩⟩
     have HG5:Zrw (PDet.Good D.V normP D.most (PDet.addRow r2 s2)):=⟨⟨HS.out.2.2.1.nodup,HS.out.2.2.1.named,HS.out.2.2.1.ret,HS.out.2.2.1.cap⟩⟩
     have HK5:Zrw (k<(PDet.addRow r2 s2).L.length∧(PDet.addRow r2 s2).large=false∧(PDet.addRow r2 s2).one.length=k+1):=⟨HS.out.2.2.2.1,HS.out.2.2.2.2.1,by
      show (s2.one++[r2]).length=k+1;rw[List.length_append,HS.out.2.2.2.2.2.2.2]
      rfl⟩
     clear hput HRW HP2 HO2 HON HC2 HR7 HB7 HG7 HN6 q6 hd htl;go_wp2
     clear hf7 hc7
     go_loopw [5] (fun ix wr=>∃(b:Nat) (s3:PDet.St),b≤k+1∧ix=.int .i64 b∧Zrw (NumE D okT W wr s3∧PDet.Good D.V normP D.most s3∧k<s3.L.length∧s3.large=false∧s3.one.length=k+1∧PDet.runTo (PDet.both D.V normP D.most k) ((List.range (k+1)).drop b) s3=rnd)) (fun ix _=>k+1-(intOf ix).toNat)
     case atStart=>exact⟨0,PDet.addRow r2 s2,by omega,rfl,⟨HS5.out,HG5.out,HK5.out.1,HK5.out.2.1,HK5.out.2.2,HRN.out.symm⟩⟩
     case round=>
      clear HS HS5 HG5 HK5 HRN HRT;obtain⟨b,s3,hbl,rfl,HS⟩:=hrel;by_cases hbn:b<k+1
      ·have HBN:=Zrw.mk hbn;have hd:decide (b≤k)=true:=decide_eq_true (by omega);have hrl:b<(List.range (k+1)).length:=by rw[List.length_range];exact hbn
       have HNX:Zrw ((if (PDet.both D.V normP D.most k b s3).large then PDet.both D.V normP D.most k b s3 else PDet.runTo (PDet.both D.V normP D.most k) ((List.range (k+1)).drop (b+1)) (PDet.both D.V normP D.most k b s3))=rnd):=⟨by
        have e:=HS.out.2.2.2.2.2;rw[Znc hrl,List.getElem_range]at e;exact e⟩
       have HJ:=Zrw.mk (both_c D HK.out HT.out wr s3 HS.out.1.ds k b ⟨HS.out.2.1,HS.out.2.2.1,Nat.lt_of_le_of_lt (by omega) HS.out.2.2.1⟩ HS.out.2.2.2.1);have HON4:Zrw ((PDet.both D.V normP D.most k b s3).one.length=k+1):=⟨by rw[PDet.both_one];exact HS.out.2.2.2.2.1⟩
       clear hrl;generalize PDet.both D.V normP D.most k b s3=s4 at *;cases hlg4:s4.large with
       | true=>
        have HLG:=Zrw.mk hlg4;have HFIN:Zrw (s4=total):=⟨by
         have e1:=HNX.out;rw[if_pos hlg4]at e1;have e3:=HTOT.out;rw[←e1,PDet.close_large _ _ _ _ _ _ hlg4]at e3;exact e3⟩
        clear hlg4
        go_wp2_with (go_at_call 64;(with_reducible refine HJ.out.mono ?_);rintro e8 w8 ⟨rfl,hn8,ht8⟩;have HN8:=Zrw.mk (HS.out.1.then_ hn8 (ok2:=okT) (fun _ _=>trivial));have q8:w8.cell? ⟨D.gd,10,none⟩=some (.bool s4.large):=(by (obtain⟨_,_,hc2⟩:=hn8.ds.cell;exact (Zaa hc2.1 10).trans rfl));rw[HLG.out]at q8;clear hn8 ht8)
        (try simp only[Exit.inBlock,Exit.then])
        refine bodyPost_ret (results_none rfl _ _ _) rfl ?_
        exact⟨rfl,by rw[←HFIN.out];exact HN8.out⟩
       | false=>
        have HLG:=Zrw.mk hlg4;have HNX2:Zrw (PDet.runTo (PDet.both D.V normP D.most k) ((List.range (k+1)).drop (b+1)) s4=rnd):=⟨by have e1:=HNX.out;rw[if_neg (by simp[hlg4])]at e1;exact e1⟩
        clear hlg4
        go_wp2_with (go_at_call 64;(with_reducible refine HJ.out.mono ?_);rintro e8 w8 ⟨rfl,hn8,ht8⟩;have HN8:=Zrw.mk (HS.out.1.then_ hn8 (ok2:=okT) (fun _ _=>trivial));have HT8:=Zrw.mk ht8;have q8:w8.cell? ⟨D.gd,10,none⟩=some (.bool s4.large):=(by (obtain⟨_,_,hc2⟩:=hn8.ds.cell;exact (Zaa hc2.1 10).trans rfl));rw[HLG.out]at q8;clear hn8 ht8)
        have hw:=Zej hbn (by have:=HKM.out;have:=HMO.out;omega)
        go_roundw
        case rel=>exact⟨b+1,s4,HBN.out,by rw[hw],⟨HN8.out,HT8.out.1,HT8.out.2.1,HLG.out,HON4.out,HNX2.out⟩⟩
        case measure=>rw[hw];simp only[intOf];exact Zds HBN.out
      ·have hd:decide (b≤k)=false:=decide_eq_false (by omega);have HFIN:Zrw (s3=rnd):=⟨by have e1:=HS.out.2.2.2.2.2;rw[Zke (by rw[List.length_range];omega)]at e1;exact e1⟩
       have HKM2:Zrw (k<D.most+1):=⟨by have:=HKM.out;omega⟩
       go_wp2
       have hw:=Zej HKM2.out (by have:=HMO.out;omega)
       go_roundw
       case rel=>exact⟨k+1,s3,HS.out.2.2.1,by rw[hw],⟨HS.out.1,HS.out.2.1,HS.out.2.2.2.1,by rw[HFIN.out];exact HTOT.out,HS.out.2.2.2.2.1⟩⟩
       case measure=>rw[hw];simp only[intOf];exact Zds HKM2.out
  ·have hd:decide (k<s1.L.length)=false:=decide_eq_false hkn;have HFIN:Zrw (s1=total):=⟨by
    have e:=HS.out.2.2.2.1;rw[show D.most+2-k=(D.most+1-k)+1 by have:=HKM.out;omega]at e;unfold PDet.close at e;rw[if_neg (fun h=>hkn h.1)]at e;exact e⟩
   go_wp2
   go_end0
   exact⟨rfl,by rw[←HFIN.out];exact HS.out.1⟩
end Go.Proofs.YtaokkliamoghbaaGreatDoor.PVpa
set_option linter.unusedVariables false
namespace Go.Proofs.YtaokkliamoghbaaGreatDoor.PVpa
open Go.RowKit Go.Proofs.YtaokkliamoghbaaGreatDoorW.PrintWords Go.Proofs.YtaokkliamoghbaaGreatDoorW.PrintLast Go.Proofs.YtaokkliamoghbaaGreatDoorW.PrintMore
open PDet (VM VOk In)
theorem Zow:∀l:List (Int × Int),(Zcr l).length≤l.length
 | []=>Nat.le_refl _
 | [x]=>Nat.le_refl _
 | x :: y :: r=>by
  have:=Zow (y :: r);unfold Zcr
  split
  ·simp only[List.length_cons]at *;omega
  ·simp only[List.length_cons]at *;omega
theorem normP_len (l:List (Int × Int)):(normP l).length≤l.length:=by
 have:=Zow (sortP l);rw[Zco]at this;exact this
theorem into_in {G:S26}{b:Bt}(hB:Built b G.f1.length)(t rule step:Int):∀y∈Zkw G b.mach t rule step,0≤y.1∧y.1<b.mach.pl.length∧-1≤y.2∧y.2<b.mach.pl.length:=fun y hy=>by
 unfold Zkw at hy
 split at hy
 ·rw[List.mem_singleton.1 hy];have h0:=hB.front.1;have h1:(Zlk b.mach rule).getD step.toNat 0<b.mach.pl.length:=by
   rw[List.getD_eq_getElem?_getD];cases e:(Zlk b.mach rule)[step.toNat]? with
   | none=>exact h0
   | some q=>exact (hB.fin rule.toNat q (List.mem_of_getElem? e)).2.1
  exact⟨Int.natCast_nonneg _,Int.ofNat_lt.2 h1,Int.le_refl _,by show (-1:Int)<_;omega⟩
 ·cases hy
theorem callK_in {G:S26}{b:Bt}{φ:Nat→Nat}(ok:b.mach.Ok φ)(hg:Good b.st)(t q:Int)(q0:0≤q)(q1:q<b.mach.pl.length):∀y∈Zpv G b.mach t q,0≤y.1∧y.1<b.mach.pl.length∧-1≤y.2∧y.2<b.mach.pl.length:=fun y hy=>by
 unfold Zpv at hy
 split at hy
 ·rw[List.mem_singleton.1 hy];exact⟨Int.le_refl _,by omega,by omega,q1⟩
 ·split at hy
  ·rw[List.mem_singleton.1 hy];have h1:(Zbf b.mach.pl q).inner.getD 0<b.mach.pl.length:=by
    cases e:(Zbf b.mach.pl q).inner with
    | none=>show 0<_;omega
    | some k=>exact hg.ins q.toNat k e
   exact⟨Int.natCast_nonneg _,Int.ofNat_lt.2 h1,by show (-1:Int)≤q;omega,q1⟩
  ·cases hy
theorem callC_in {G:S26}{b:Bt}{φ:Nat→Nat}(ok:b.mach.Ok φ)(hg:Good b.st)(t:Int)(l:List Int)(hl:∀q∈l,0≤q∧q<b.mach.pl.length):∀k,k≤l.length→∀y∈Zhc G b.mach t l k,0≤y.1∧y.1<b.mach.pl.length∧-1≤y.2∧y.2<b.mach.pl.length
 | 0,_,y,hy=>by cases hy
 | k+1,hk,y,hy=>by
  rcases List.mem_append.1 (show y∈Zhc G b.mach t l k++Zpv G b.mach t (rd l k)from hy)with hy | hy
  ·exact callC_in ok hg t l hl k (by omega) y hy
  ·have hm:rd l k∈l:=by
    unfold rd;rw[List.getD_eq_getElem?_getD,Int.toNat_natCast,List.getElem?_eq_getElem (by omega)];exact List.getElem_mem _
   exact callK_in ok hg t _ (hl _ hm).1 (hl _ hm).2 y hy
theorem vm_ok {G:S26}{b:Bt}{φ:Nat→Nat}(ok:b.mach.Ok φ)(hB:Built b G.f1.length)(hg:Good b.st)(hn:b.st.pl.length≤300):VOk (Zqc G b.mach) b.st.pl.length:=by
 have hpl:b.mach.pl=b.st.pl:=rfl;have h0:=hB.front.1;refine⟨fun p t=>?_,fun p t=>?_,fun p t=>?_,fun p s t=>?_,?_,hn⟩
 ·show (intL G b.mach p t).length≤200000∧∀c∈intL G b.mach p t,0≤c∧c<b.st.pl.length;unfold intL
  split
  ·rename_i hm
   have hm:=Zed hm
   split
   ·exact⟨by simp,fun c hc=>by rw[List.mem_singleton.1 hc];exact⟨hm.1,hm.2.1⟩⟩
   ·have hx:=Zjp ok hm.1 hm.2.1;have hr:=Zfa (n:=b.st.pl.length) (a:=(Zdz b.mach p).filter (okI G b.mach t)) (b:=[]) (fun q hq=>hx.2 q (List.mem_filter.1 hq).1) (fun q hq=>by cases hq);refine⟨?_,fun c hc=>hr.2 c hc⟩;have:=PDet.inc_len _ 0 b.st.pl.length (by omega) hr.1 (fun c hc=>hr.2 c hc);omega
  ·exact⟨by simp,fun c hc=>by cases hc⟩
 ·show (Zla G b.mach p t).length≤200000∧∀y∈Zla G b.mach p t,0≤y.1∧y.1<b.st.pl.length∧-1≤y.2∧y.2<b.st.pl.length;unfold Zla
  split
  ·rename_i hm
   have hm:=Zed hm;have hx:=Zjp ok hm.1 hm.2.1;refine⟨?_,fun y hy=>?_⟩
   ·refine Nat.le_trans (normP_len _) ?_
    unfold rawC;have h1:=Zgc b.mach p;have h2:=Zjf G b.mach p t;have h3:=Zgb G b.mach t (Zdz b.mach p) (Zdz b.mach p).length;have h4:=Zje G b.mach p t;simp only[List.length_append];omega
   ·rw[Zkp]at hy;unfold rawC at hy
    rcases List.mem_append.1 hy with hy | hy
    ·rcases List.mem_append.1 hy with hy | hy
     ·rcases List.mem_append.1 hy with hy | hy
      ·unfold Zlb at hy
       split at hy
       ·rw[List.mem_singleton.1 hy];exact⟨hm.1,hm.2.1,by omega,hm.2.1⟩
       ·cases hy
      ·unfold Zlt at hy
       split at hy
       ·exact into_in hB _ _ _ y hy
       ·cases hy
     ·exact callC_in ok hg t _ hx.2 _ (Nat.le_refl _) y hy
    ·unfold Zpw at hy
     split at hy
     ·cases hy
     ·split at hy
      ·exact into_in hB _ _ _ y hy
      ·cases hy
  ·exact⟨by simp,fun c hc=>by cases hc⟩
 ·show (Zdv G b.mach p t).length≤200000∧∀c∈Zdv G b.mach p t,0≤c∧c<b.st.pl.length;unfold Zdv
  split
  ·rename_i hm
   have hm:=Zed hm.1;exact⟨by simp,fun c hc=>by rw[List.mem_singleton.1 hc];exact⟨hm.1,hm.2.1⟩⟩
  ·exact⟨by simp,fun c hc=>by cases hc⟩
 ·show (retL G b.mach p s t).length≤1∧∀c∈retL G b.mach p s t,0≤c∧c<b.st.pl.length;unfold retL
  split
  ·rename_i hm
   exact⟨by simp,fun c hc=>by rw[List.mem_singleton.1 hc];exact⟨hm.2.1,hm.2.2.1⟩⟩
  ·exact⟨by simp,fun c hc=>by cases hc⟩
 ·show (Zlx b.mach).length≤200000∧∀c∈Zlx b.mach,0≤c∧c<b.st.pl.length;have key:∀k,k≤b.mach.frees.length→∀c∈Zeu b.mach k,0≤c∧c<b.st.pl.length:=fun k=>by
   induction k with
   | zero=>intro _ c hc;cases hc
   | succ k ih=>
    intro hk c hc
    rcases List.mem_append.1 (show c∈Zeu b.mach k++[Zgv b.mach k]from hc)with hc | hc
    ·exact ih (by omega) c hc
    ·rw[List.mem_singleton.1 hc];have hf:=hB.frees k (by have:=hB.n2;have:b.mach.frees.length=b.frees.length:=rfl;omega);have e:rd b.mach.frees k=b.frees.getD k 0:=by unfold rd;rw[Int.toNat_natCast];rfl
     unfold Zgv;rw[e]
     split
     ·rename_i hneg
      have h1:(b.mach.steps.getD k []).headD 0<b.st.pl.length:=by
       cases e2:b.mach.steps.getD k []with
       | nil=>exact h0
       | cons q r=>exact (hB.fin k q (by rw[show b.steps.getD k []=q :: r from e2];exact List.mem_cons_self)).2.1
      exact⟨Int.natCast_nonneg _,Int.ofNat_lt.2 h1⟩
     ·rename_i hpos
      rcases hf with hf | hf
      ·rw[hf]at hpos;omega
      ·exact⟨hf.1,hf.2.1⟩
  refine⟨?_,key _ (Nat.le_refl _)⟩;show (Zeu b.mach b.mach.frees.length).length≤200000;rw[Zhe];have:=ok.fewer.2.1;omega
end Go.Proofs.YtaokkliamoghbaaGreatDoor.PVpa
set_option linter.unusedVariables false
set_option linter.unusedSimpArgs false
namespace Go.Proofs.YtaokkliamoghbaaGreatDoor.PVpa
open Go.RowKit Go.Proofs.YtaokkliamoghbaaGreatDoorW.PrintWords Go.Proofs.YtaokkliamoghbaaGreatDoorW.PrintLast Go.Proofs.YtaokkliamoghbaaGreatDoorW.PrintMore
open PDet (VM VOk Wf In Zbi toks number)
def Zcg (V:VM)(k:Nat)(a:Nat):List Int:=((List.range a).filter fun t=>V.kinds.getD t 0==(k:Int)).map Int.ofNat
theorem Zqh (V:VM)(k a:Nat):Zcg V k (a+1)=if V.kinds.getD a 0=(k:Int)then Zcg V k a++[(a:Int)]else Zcg V k a:=by
 unfold Zcg;rw[List.range_succ,List.filter_append,List.map_append];by_cases h:V.kinds.getD a 0=(k:Int)
 ·rw[if_pos h];have:(List.filter (fun t=>V.kinds.getD t 0==(k:Int)) [a])=[a]:=by
   rw[List.filter_cons_of_pos (by simpa using h)]
   rfl
  rw[this]
  rfl
 ·rw[if_neg h];have:(List.filter (fun t=>V.kinds.getD t 0==(k:Int)) [a])=[]:=by
   rw[List.filter_cons_of_neg (by simpa using h)]
   rfl
  rw[this];simp
theorem Zih (V:VM)(k a:Nat):(Zcg V k a).length≤a:=by
 unfold Zcg;rw[List.length_map];exact Nat.le_trans (List.length_filter_le _ _) (by rw[List.length_range];exact Nat.le_refl _)
def Zrk (At Ar:Option Addr)(nt nr ct cr gb most:Nat)(bn br bc bt:Nat)(c0 c1 c2:Value):Array Value:=
 #[.slice At nt ct,.slice Ar nr cr,.pointer (some ⟨gb,0,none⟩),.int .i64 most,.slice none 0 0,.map (some bn),.slice none 0 0,.map (some br),.map (some bc),.map (some bt),.bool false,c0,c1,c2]
structure TokI (V0:World)(gd bn br bc bt:Nat)(hd:Value→Value→Value→Array Value)(V:VM)(a:Nat)(W:World)(c:Nat→Value):Prop where
 blk:W.heap[gd]?=some (.cells (hd (c 0) (c 1) (c 2)) 88 (0,0))
 bel:Below V0.heap.size V0 W
 maps:∀b∈[bn,br,bc,bt],W.heap[b]?=some (.map #[] 0)
 rows:∀q,q<3→(Kd.int .i64).R 3 W V0.heap.size okT (c q) (Zcg V q a)
 ne:∀p q,p<3→q<3→p≠q→Zqb (c p) (c q)
section
variable {V0 W W1:World}{gd bn br bc bt:Nat}{hd:Value→Value→Value→Array Value}{V:VM}{a:Nat}{c:Nat→Value}
theorem TokI.below (h:TokI V0 gd bn br bc bt hd V a W c)(hb:Below W.heap.size W W1):TokI V0 gd bn br bc bt hd V a W1 c:=
 ⟨Zaf h.blk hb,Zae h.bel hb,fun b hm=>Zaf (h.maps b hm) hb,fun q hq=>Kd.R_below (h.rows q hq) hb,h.ne⟩
theorem TokI.grown (h:TokI V0 gd bn br bc bt hd V a W c){v:Value}{b:Nat}{o:List (Int × Int)}(ho:OwnP W b v o)(hb:Below V0.heap.size V0 W1)(hg:W.grownBy W1 v.ownBlock):TokI V0 gd bn br bc bt hd V a W1 c:=
 ⟨Zat h.blk hg (Zch ho h.blk (by decide)),hb,fun b hm=>Zat (h.maps b hm) hg (fun e=>by
  obtain⟨cells,hc⟩:=Zaq ho b e.symm;rw[h.maps b hm]at hc;cases hc),fun q hq=>Zfy (h.rows q hq) ho hg,h.ne⟩
theorem TokI.push (h:TokI V0 gd bn br bc bt hd V a W c){q:Nat}(hq:q<3)(hk:V.kinds.getD a 0=(q:Int)){v:Value}(hr:(Kd.int .i64).R 3 W1 V0.heap.size okT v (Zcg V q a++[(a:Int)]))(hb:Below V0.heap.size V0 W1)(hg:W.grownBy W1 (c q).ownBlock)(hat:v.ownBlock=(c q).ownBlock∨∃b,v.ownBlock=some b∧W.heap.size≤b)
 (hgd:V0.heap.size≤gd) {c':Nat→Value} (hc':∀p,c' p=if p=q then v else c p) (hset:(hd (c 0) (c 1) (c 2)).setIfInBounds (11+q) v=hd (c' 0) (c' 1) (c' 2)):TokI V0 gd bn br bc bt hd V (a+1) (W1.setCell ⟨gd,11+q,none⟩ v) c':=by
 have hgk:=Zat h.blk hg (Kd.R_ne (h.rows q hq) h.blk (by decide));have hcq:c' q=v:=by rw[hc',if_pos rfl]
 have hcp:∀p,p≠q→c' p=c p:=fun p hp=>by rw[hc',if_neg hp]
 have nv:∀p,p<3→p≠q→Zqb v (c p):=fun p hp hpq=>Zpd (h.ne q p hq hp (Ne.symm hpq)) hat (Kd.own_of_R (h.rows p hp))
 refine⟨by rw[←hset];exact Zcd hgk (11+q) v,hb.setCell (p:=⟨gd,11+q,none⟩) hgd v,fun b hm=>?_,fun p hp=>?_,fun p r hp hr' hpr=>?_⟩
 ·have hbn:b≠gd:=fun e=>by
   have:=h.maps b hm;rw[e,h.blk]at this;cases this
  exact (Below.heap_setCell _ _ _ b hbn).trans (Zat (h.maps b hm) hg (fun e=>by
   obtain⟨cells,hc⟩:=Zaq (Kd.own_of_R (h.rows q hq)) b e.symm;rw[h.maps b hm]at hc;cases hc))
 ·rw[Zqh,hk];by_cases e:p=q
  ·subst e;rw[if_pos rfl,hcq];exact Kd.R_set hr hgk (by decide) _ _
  ·rw[if_neg (fun e2=>e (by omega)),hcp p e];have h1:(Kd.int .i64).R 3 W1 V0.heap.size okT (c p) (Zcg V p a):=Kd.R_of_own (Zci (Kd.own_of_R (h.rows p hp)) (fun k hk2=>hg.block k (Zdb (Kd.own_of_R (h.rows p hp)) k hk2) (fun e2=>h.ne p q hp hq e k hk2 e2.symm))) (fun _ _=>trivial);exact Kd.R_set h1 hgk (by decide) _ _
 ·by_cases e:p=q
  ·subst e;rw[hcq,hcp r (Ne.symm hpr)];exact nv r hr' (Ne.symm hpr)
  ·by_cases e2:r=q
   ·subst e2;rw[hcq,hcp p e];exact ne_symm (nv p hp e)
   ·rw[hcp p e,hcp r e2];exact h.ne p r hp hr' hpr
end
def Zek (G:S26):Mach:=(Zbl 9 G G.f1.length).mach
def vOf (G:S26):VM:=Zqc G (Zek G)
def Zbz (G:S26)(most:Nat):PDet.St:=PDet.table (vOf G) normP most (most+2)
def DetAt (w:World)(gd:Nat)(G:S26)(most:Nat):Prop:=∃D:DK,D.Ok∧D.G=G∧D.M=Zek G∧D.most=most∧D.gd=gd∧DS D okT w (Zbz G most).L (Zbz G most)
theorem DetAt.below {w W:World}{gd:Nat}{G:S26}{most:Nat}(h:DetAt w gd G most)(hb:Below w.heap.size w W):DetAt W gd G most:=by
 obtain⟨D,h1,h2,h3,h4,h5,h6⟩:=h;exact⟨D,h1,h2,h3,h4,h5,h6.below hb⟩
theorem dwalk0 (V0:World)(At:Option Addr)(nt ct:Nat)(Ar:Option Addr)(nr cr gb most:Nat)(V:VM) :
 TokI V0 (V0.heap.size+1+1+1+1) V0.heap.size (V0.heap.size+1) (V0.heap.size+1+1) (V0.heap.size+1+1+1) (Zrk At Ar nt nr ct cr gb most V0.heap.size (V0.heap.size+1) (V0.heap.size+1+1) (V0.heap.size+1+1+1)) V 0
  (((((V0.alloc (.map #[] 0)).alloc (.map #[] 0)).alloc (.map #[] 0)).alloc (.map #[] 0)).alloc (.cells #[.slice At nt ct,.slice Ar nr cr,.pointer (some ⟨gb,0,none⟩),.int .i64 most,.slice none 0 0,.map (some V0.heap.size),.slice none 0 0,.map (some (V0.heap.size+1)),.map (some (V0.heap.size+1+1)),.map (some (V0.heap.size+1+1+1)),.bool false,.slice none 0 0,.slice none 0 0,.slice none 0 0] 88)) (fun _=>.slice none 0 0):=by
 have hs:∀(w:World) o,(w.alloc o).heap.size=w.heap.size+1:=fun w o=>Array.size_push _
 have hn:∀(w:World) o,(w.alloc o).heap[w.heap.size]?=some o:=fun w o=>Array.getElem?_push_size
 have hk:∀(w:World) o o' k,w.heap[k]?=some o'→(w.alloc o).heap[k]?=some o':=fun w o o' k h=>by
  have hlt:=(Array.getElem?_eq_some_iff.1 h).1;show (w.heap.push o)[k]?=some o';rw[Array.getElem?_push_lt hlt,←h,Array.getElem?_eq_getElem hlt]
 refine⟨?_,Zab (Zab (Zab (Zab (Zab Zbr _) _) _) _) _,fun b hb=>?_,fun q hq=>Kd.R_nil _ _ _ _ _,fun p q _ _ _ k hk2=>?_⟩
 ·have:=hn ((((V0.alloc (.map #[] 0)).alloc (.map #[] 0)).alloc (.map #[] 0)).alloc (.map #[] 0));simp only[hs]at this;exact this _
 ·have h1:=fun o=>hn (V0.alloc (.map #[] 0)) o
  have h2:=fun o=>hn ((V0.alloc (.map #[] 0)).alloc (.map #[] 0)) o
  have h3:=fun o=>hn (((V0.alloc (.map #[] 0)).alloc (.map #[] 0)).alloc (.map #[] 0)) o
  simp only[hs]at h1 h2 h3;simp only[List.mem_cons,List.not_mem_nil,or_false]at hb
  rcases hb with rfl | rfl | rfl | rfl
  ·exact hk _ _ _ _ (hk _ _ _ _ (hk _ _ _ _ (hk _ _ _ _ (hn _ _))))
  ·exact hk _ _ _ _ (hk _ _ _ _ (hk _ _ _ _ (h1 _)))
  ·exact hk _ _ _ _ (hk _ _ _ _ (h2 _))
  ·exact hk _ _ _ _ (h3 _)
 ·cases hk2
structure GramD (G:S26):Prop where
 gram:Zmu G
 rules:RulesOk 9 G
 calls:Zog G
 few:buildN 9 G G.f1.length≤300
theorem MakeOk.gramD {n:Nat}{G:S26}(h:MakeOk n G):GramD G:=⟨h.gram,h.rulesOk,h.callsOk,by
 have h1:=h.buildN _ (Nat.le_refl _);have h2:=h.few;omega⟩
theorem dk_ok {V0:World}{G:S26}{φ:Nat→Nat}{gb:Nat}{At Ar:Option Addr}{ct cr most:Nat}(hvr:VR V0 gb G (Zek G) φ)(hok:(Zek G).Ok φ)(hG:GramD G)(hr:GramR V0 G At Ar ct cr)(hm:most≤400)(c0 c1 c2:Value) :
 (DK.mk V0 G (Zek G) φ gb At ct Ar cr most (Zbl 9 G G.f1.length).st.pl.length (V0.heap.size+1+1+1+1) V0.heap.size (V0.heap.size+1) (V0.heap.size+1+1) (V0.heap.size+1+1+1) c0 c1 c2).Ok:=by
 have hgb:=Zeg 9 G G.f1.length;refine⟨hvr,hok,build_fits 9 G hG.calls,Zrq 9 G,vm_ok hok (Zpx 9 G G.f1.length) hgb.1.st (by rw[hgb.2];exact hG.few),hr.lt,hr.toks,Nat.le_trans hG.gram.few (by decide),hm,?_,fun k hk=>?_⟩
 ·simp only[List.nodup_cons,List.mem_cons,List.not_mem_nil,or_false,not_or,List.nodup_nil,and_true,not_false_eq_true];omega
 ·simp only[List.mem_cons,List.not_mem_nil,or_false]at hk;simp only[DK.b0];omega
theorem Zib (W:World)(k:TypeId){b:Nat}(h:W.heap[b]?=some (.map #[] 0)):W.mapIs Tryz.prog k b (fun _=>none):=⟨#[],0,h,by simp,by simp,by simp⟩
theorem DS.init {D:DK}{ok:Nat→Prop}{W:World}{c:Nat→Value}(hd:TokI D.w0 D.gd D.bn D.br D.bc D.bt (Zrk D.At D.Ar D.G.f0.length D.G.f1.length D.ct D.cr D.gb D.most D.bn D.br D.bc D.bt) D.V D.G.f0.length W c)
 (h0:D.c0=c 0) (h1:D.c1=c 1) (h2:D.c2=c 2) (hok:∀k cells q,W.heap[k]?=some (.cells cells q (0,0))→q≠90→ok k) (hom:∀b∈[D.bn,D.br,D.bc,D.bt],ok b):DS D ok W [] ⟨[],[],[],false⟩:=by
 have hk:∀q:Nat,(Zcg D.V q D.G.f0.length)=PDet.toks D.V q:=fun q=>by
  unfold Zcg PDet.toks;have hl:D.V.kinds.length=D.G.f0.length:=List.length_map _;rw[hl]
 have hr:∀q,q<3→(Kd.int .i64).R 3 W D.b0 ok (c q) (PDet.toks D.V q):=fun q hq=>by
  rw[←hk q];exact Zei (hd.rows q hq) (fun k _ _ _ ⟨q',hq',cells,hc⟩=>⟨hok k cells q' hc (by
   rcases List.mem_cons.1 hq' with e | e
   ·rw[e];decide
   ·cases e),rfl⟩)
 refine⟨hd.bel,fun k hk=>?_,⟨.slice none 0 0,.slice none 0 0,?_,Kd.R_nil _ _ _ _ _,Kd.R_nil _ _ _ _ _⟩,⟨_,Zib W 9 (hd.maps _ (by simp)),fun x=>by simp⟩,⟨_,Zib W 95 (hd.maps _ (by simp)),fun i j c t=>by simp⟩,⟨_,Zib W 90 (hd.maps _ (by simp)),fun p t v hv=>by cases hv⟩,⟨_,Zib W 187 (hd.maps _ (by simp)),fun p q t v hv=>by cases hv⟩,⟨by rw[h1];exact hr 1 (by omega),by rw[h2];exact hr 2 (by omega)⟩,fun l hl=>by cases hl⟩
 ·rcases List.mem_cons.1 hk with rfl | hk
  ·exact hok _ _ _ hd.blk (by decide)
  ·exact hom k hk
 ·have:=hd.blk;unfold DK.row;rw[h0,h1,h2];exact this
end Go.Proofs.YtaokkliamoghbaaGreatDoor.PVpa
