/- Joined from texts of this seat, in their order. -/
import Derived.Test.YtaokkliamoghbaaGreatDoorJAq
import Derived.BigQuiet
import Derived.StillTailTactics
set_option linter.unusedVariables false
set_option linter.unusedSimpArgs false
set_option linter.unusedSectionVars false
set_option maxRecDepth 100000
namespace Go.Proofs.YtaokkliamoghbaaGreatDoor.PVpa
open Go.RowKit Go.Proofs.YtaokkliamoghbaaGreatDoorW.PrintWords Go.Proofs.YtaokkliamoghbaaGreatDoorW.PrintLast Go.Proofs.YtaokkliamoghbaaGreatDoorW.PrintMore
def okN (ok:Nat→Prop)(W:World):Nat→Prop:=fun k=>ok k∨W.heap.size≤k
theorem Zoj (M:Value→Option Value)(key v:Value):∃M':Value→Option Value,M' key=some v∧∀x,x≠key→M' x=M x:=by
 classical
 exact⟨fun x=>if x=key then some v else M x,by simp,fun x h=>by simp[h]⟩
section
variable {P:Program}{ops:Array Oper}{rest:List Oper}{o:Oper}{a:Act}{Q:Exit→Act→World→Prop}{w:World}
theorem Zfd (hg:o.guard=none)(m x:Operand)(t:TypeId){c:Bool}(hop:o.op=Op.lookup t m x c)(b:Nat)(key r:Value)(hm:a.eval m=.map (some b))(hx:a.eval x=key)(hrun:(Instr.lookup t (.map (some b)) key c).run P w=.ok r w)
 (hK:wpList P ops Q rest (a.put o.dst r) w):wpList P ops Q (o :: rest) a w:=by
 refine wpList_plain hg fun K' hK'=>?_
 unfold Oper.wp;simp only[execOp,hop];simp[hm,hx,hrun,Result.andThen];exact hK' _ _ hK
end
theorem OneBlk.of_below {b:Nat}{W W':World}(h:Below W.heap.size W W'):OneBlk b W W':=⟨h.size,fun k hk _=>h.block k hk⟩
theorem OneBlk.trans {b:Nat}{W W1 W2:World}(h:OneBlk b W W1)(k:OneBlk b W1 W2):OneBlk b W W2:=⟨Nat.le_trans h.size k.size,fun i hi hne=>(k.blk i (Nat.lt_of_lt_of_le hi h.size) hne).trans (h.blk i hi hne)⟩
theorem VR.of {D:DK}{ok:Nat→Prop}{W:World}{ns:List (List (Int × Int))}{s:PDet.St}(hk:D.Ok)(h:DS D ok W ns s):VR W D.gb D.G D.M D.φ:=hk.vr.below h.bel
set_option maxHeartbeats 4000000 in
theorem call_c (D:DK)(hk:D.Ok)(ok:Nat→Prop)(W:World)(ns:List (List (Int × Int)))(s:PDet.St)(h:DS D ok W ns s)(p t:Int)(hp:I64 p)(ht:I64 t) :
 Calls Tryz.prog 83 #[.pointer (some ⟨D.gd,0,none⟩),.int .i64 p,.int .i64 t] W fun e w'=>∃v,e=.returned v∧DS D (okN ok W) w' ns s∧kP.R 90 w' D.b0 (okN ok W) v (D.V.call p t)∧OneBlk D.bc W w':=by
 obtain⟨vs,vo,hc⟩:=h.cell;obtain⟨M,hM,hMv⟩:=h.calls;obtain⟨kl,hkl⟩:=key90 hp ht;have hX:=h.below (Zab Zbr (.cells #[.int .i64 p,.int .i64 t] 90));have hBX:Below W.heap.size W (W.alloc (.cells #[.int .i64 p,.int .i64 t] 90)):=Zab Zbr _;have q8:(W.alloc (.cells #[.int .i64 p,.int .i64 t] 90)).cell? ⟨D.gd,8,none⟩=some (.map (some D.bc)):=(Zaa (Zai hc.1 _) 8).trans rfl;have q2:(W.alloc (.cells #[.int .i64 p,.int .i64 t] 90)).cell? ⟨D.gd,2,none⟩=some (.pointer (some ⟨D.gb,0,none⟩)):=(Zaa (Zai hc.1 _) 2).trans rfl;have x0:(W.alloc (.cells #[.int .i64 p,.int .i64 t] 90)).cell? ⟨W.heap.size,0,none⟩=some (.int .i64 p):=(Zaa (Zaj W _) 0).trans rfl;have x1:(W.alloc (.cells #[.int .i64 p,.int .i64 t] 90)).cell? ⟨W.heap.size,1,none⟩=some (.int .i64 t):=(Zaa (Zaj W _) 1).trans rfl;have hMX:=(hM.kept (hBX.block _ hM.lt))
 have hz:∀w,(zeroValue 35).run Tryz.prog w=.ok (.slice none 0 0) w:=fun w=>by kernel_rfl
 have hlk:∀n,(Instr.lookup 83 (.map (some D.bc)) (.agg #[.int .i64 p,.int .i64 t]) true).run Tryz.prog ((W.alloc (.cells #[.int .i64 p,.int .i64 t] 90)).drewN n)=.ok (.tuple #[(M (k2 p t)).getD (.slice none 0 0),.bool (M (k2 p t)).isSome]) ((W.alloc (.cells #[.int .i64 p,.int .i64 t] 90)).drewN n):=fun n=>
  (hMX.kept rfl:((W.alloc (.cells #[.int .i64 p,.int .i64 t] 90)).drewN n).mapIs Tryz.prog 90 D.bc M).look keyed90 Tryz.underlying83 (hz _) hkl true
 have HX:=Zrw.mk hX;have HB:=Zrw.mk hBX;have HM:=Zrw.mk hMX;have HV:=Zrw.mk hMv;have HKL:=Zrw.mk hkl;clear h hc hM hX hBX hMX hMv hkl hz;cases hm:M (k2 p t)with
 | some v=>
  have HR:=Zrw.mk (HV.out _ _ _ hm);rw[hm]at hlk;simp only[Option.getD_some,Option.isSome_some]at hlk;clear hm
  go_enter Tryz.func83,Tryz.ntmps83
  go_upto_region 2 with (fail)
  generalize W.alloc (.cells #[.int .i64 p,.int .i64 t] 90)=X at *
  go_quiet (fail)
  go_wp2
  go_ret
  refine⟨_,rfl,(HX.out.below (Zag Zbr _)).mono (fun k hk _=>.inl hk),Kd.R_mono (Kd.R_below HR.out (Zag HB.out _)) (fun _ h=>.inl h),OneBlk.of_below (Zag HB.out _)⟩
 | none=>
  rw[hm]at hlk;simp only[Option.getD_none,Option.isSome_none]at hlk;clear hm;have HC:Zrw (∀W',Below (W.alloc (.cells #[.int .i64 p,.int .i64 t] 90)).heap.size (W.alloc (.cells #[.int .i64 p,.int .i64 t] 90)) W'→Calls Tryz.prog 105 #[.pointer (some ⟨D.gb,0,none⟩),.int .i64 p,.int .i64 t] W' fun e w'=>∃v,e=.returned v∧kP.R 90 w' W'.heap.size (fun _=>True) v (D.V.call p t)∧Below W'.heap.size W' w'):=⟨fun W' hW=>(call_call W' D.gb D.G D.M D.φ (((VR.of hk HX.out).below hW)) hk.ok hk.fit hk.fit2 p t).mono (fun e w' ⟨v,h1,h2,h3⟩=>⟨v,h1,Zli h2 (fun _ _=>trivial),h3⟩)⟩
  go_enter Tryz.func83,Tryz.ntmps83
  go_upto_region 2 with (fail)
  generalize W.alloc (.cells #[.int .i64 p,.int .i64 t] 90)=X at *
  go_quiet (fail)
  go_wp2_with (go_at_call 105;(with_reducible refine (HC.out _ (Zag Zbr _)).mono ?_);rintro e w2 ⟨v2,rfl,hr2,hb2⟩;have q8':w2.cell? ⟨D.gd,8,none⟩=some (.map (some D.bc)):=Zad hb2 (by exact q8);have y0:w2.cell? ⟨W.heap.size,0,none⟩=some (.int .i64 p):=Zad hb2 (by exact x0);have y1:w2.cell? ⟨W.heap.size,1,none⟩=some (.int .i64 t):=Zad hb2 (by exact x1);have HR2:=Zrw.mk hr2;have HB2:Zrw (Below X.heap.size X w2):=⟨Zae (w:=X) (Zag Zbr _) hb2⟩;clear hr2 hb2)
  have HD2:=Zrw.mk ((HX.out.below HB2.out).mono (ok':=okN ok W) (fun k hk _=>.inl hk));have HM2:=Zrw.mk (HM.out.kept (HB2.out.block _ HM.out.lt));have HBW:=Zrw.mk (Zae HB.out HB2.out);have HV2:Zrw (kP.R 90 w2 D.b0 (okN ok W) v2 (D.V.call p t)):=⟨Kd.R_lower (Kd.R_mono (Kd.R_bound HR2.out) (fun k hk=>.inr (Nat.le_trans HB.out.size hk.2.1))) (show D.b0≤_ from HX.out.bel.size)⟩
  obtain⟨M',hM1,hM2⟩:=Zoj M (k2 p t) v2;have HM1:=Zrw.mk hM1;have HM3:=Zrw.mk hM2;clear hM1 hM2 hlk x0 x1 q8 q2;refine Zcw ?_
  refine Zet 6 (by kernel_rfl) (by kernel_rfl) ?_
  simp only[List.take_succ_cons,List.take_zero,List.drop_succ_cons,List.drop_zero]
  repeat still_step
  refine wpStill_nil ?_
  go_wp2_with (at_mapUpdate;refine Zcx rfl (.tmp 34) (.tmp 35) (.tmp 36) 83 rfl 90 35 keyed90 Tryz.underlying83 D.bc M M' rfl (HM2.out.kept rfl) (k2 p t) v2 kl rfl rfl HKL.out HM1.out HM3.out ?_;intro w3 hm3 hg3;have HG3:=Zrw.mk hg3;have HM4:=Zrw.mk hm3;clear hm3 hg3)
  go_ret
  have hb3:Below w2.heap.size w2 (w2.drewN 0).drew:=⟨rfl,rfl,rfl,Nat.le_refl _,fun _ _=>rfl⟩
  have hm3:((w2.drewN 0).drew).mapIs Tryz.prog 90 D.bc M:=HM2.out.kept rfl;have hp:=DS.putCall (HD2.out.below hb3) hk HM4.out HG3.out (fun _ _ u hu=>Kd.R_mono (Kd.R_below (HV.out _ _ _ hu) (Zae HBW.out hb3)) (fun _ h=>.inl h)) HM1.out HM3.out (Kd.R_below HV2.out hb3);have ho3:=OneBlk.of_grown HG3.out;refine⟨_,rfl,hp,?_,(OneBlk.of_below (Zae HBW.out hb3)).trans ho3⟩;exact Zei (Kd.R_below HV2.out hb3) (fun k k1 _ k2 ⟨_,_,_,hc⟩=>⟨k1,ho3.blk k k2 (Zbm hm3 hc)⟩)
set_option maxHeartbeats 4000000 in
theorem back_c (D:DK)(hk:D.Ok)(ok:Nat→Prop)(W:World)(ns:List (List (Int × Int)))(s:PDet.St)(h:DS D ok W ns s)(p q t:Int)(hp:I64 p)(hq:I64 q)(ht:I64 t) :
 Calls Tryz.prog 106 #[.pointer (some ⟨D.gd,0,none⟩),.int .i64 p,.int .i64 q,.int .i64 t] W fun e w'=>∃v,e=.returned v∧DS D (okN ok W) w' ns s∧(Kd.int .i64).R 3 w' D.b0 (okN ok W) v (D.V.ret p q t)∧OneBlk D.bt W w':=by
 obtain⟨vs,vo,hc⟩:=h.cell;obtain⟨M,hM,hMv⟩:=h.backs;obtain⟨kl,hkl⟩:=key187 hp hq ht;have hX:=h.below (Zab Zbr (.cells #[.int .i64 p,.int .i64 q,.int .i64 t] 187));have hBX:Below W.heap.size W (W.alloc (.cells #[.int .i64 p,.int .i64 q,.int .i64 t] 187)):=Zab Zbr _;have q8:(W.alloc (.cells #[.int .i64 p,.int .i64 q,.int .i64 t] 187)).cell? ⟨D.gd,9,none⟩=some (.map (some D.bt)):=(Zaa (Zai hc.1 _) 9).trans rfl;have q2:(W.alloc (.cells #[.int .i64 p,.int .i64 q,.int .i64 t] 187)).cell? ⟨D.gd,2,none⟩=some (.pointer (some ⟨D.gb,0,none⟩)):=(Zaa (Zai hc.1 _) 2).trans rfl;have x0:(W.alloc (.cells #[.int .i64 p,.int .i64 q,.int .i64 t] 187)).cell? ⟨W.heap.size,0,none⟩=some (.int .i64 p):=(Zaa (Zaj W _) 0).trans rfl;have x1:(W.alloc (.cells #[.int .i64 p,.int .i64 q,.int .i64 t] 187)).cell? ⟨W.heap.size,1,none⟩=some (.int .i64 q):=(Zaa (Zaj W _) 1).trans rfl;have x2:(W.alloc (.cells #[.int .i64 p,.int .i64 q,.int .i64 t] 187)).cell? ⟨W.heap.size,2,none⟩=some (.int .i64 t):=(Zaa (Zaj W _) 2).trans rfl;have hMX:=(hM.kept (hBX.block _ hM.lt))
 have hz:∀w,(zeroValue 41).run Tryz.prog w=.ok (.slice none 0 0) w:=fun w=>by kernel_rfl
 have hlk:∀n,(Instr.lookup 84 (.map (some D.bt)) (.agg #[.int .i64 p,.int .i64 q,.int .i64 t]) true).run Tryz.prog ((W.alloc (.cells #[.int .i64 p,.int .i64 q,.int .i64 t] 187)).drewN n)=.ok (.tuple #[(M (k3 p q t)).getD (.slice none 0 0),.bool (M (k3 p q t)).isSome]) ((W.alloc (.cells #[.int .i64 p,.int .i64 q,.int .i64 t] 187)).drewN n):=fun n=>
  (hMX.kept rfl:((W.alloc (.cells #[.int .i64 p,.int .i64 q,.int .i64 t] 187)).drewN n).mapIs Tryz.prog 187 D.bt M).look keyed187 Tryz.underlying84 (hz _) hkl true
 have HX:=Zrw.mk hX;have HB:=Zrw.mk hBX;have HM:=Zrw.mk hMX;have HV:=Zrw.mk hMv;have HKL:=Zrw.mk hkl;clear h hc hM hX hBX hMX hMv hkl hz;cases hm:M (k3 p q t)with
 | some v=>
  have HR:=Zrw.mk (HV.out _ _ _ _ hm);rw[hm]at hlk;simp only[Option.getD_some,Option.isSome_some]at hlk;clear hm
  go_enter Tryz.func106,Tryz.ntmps106
  go_upto_region 2 with (fail)
  generalize W.alloc (.cells #[.int .i64 p,.int .i64 q,.int .i64 t] 187)=X at *
  go_quiet (fail)
  go_wp2
  go_ret
  refine⟨_,rfl,(HX.out.below (Zag Zbr _)).mono (fun k hk _=>.inl hk),Kd.R_mono (Kd.R_below HR.out (Zag HB.out _)) (fun _ h=>.inl h),OneBlk.of_below (Zag HB.out _)⟩
 | none=>
  rw[hm]at hlk;simp only[Option.getD_none,Option.isSome_none]at hlk;clear hm;have HC:Zrw (∀W',Below (W.alloc (.cells #[.int .i64 p,.int .i64 q,.int .i64 t] 187)).heap.size (W.alloc (.cells #[.int .i64 p,.int .i64 q,.int .i64 t] 187)) W'→Calls Tryz.prog 134 #[.pointer (some ⟨D.gb,0,none⟩),.int .i64 p,.int .i64 q,.int .i64 t] W' fun e w'=>∃v,e=.returned v∧(Kd.int .i64).R 3 w' W'.heap.size (fun _=>True) v (D.V.ret p q t)∧Below W'.heap.size W' w'):=⟨fun W' hW=>(ret_call W' D.gb D.G D.M D.φ (((VR.of hk HX.out).below hW)) hk.ok p q t)⟩
  go_enter Tryz.func106,Tryz.ntmps106
  go_upto_region 2 with (fail)
  generalize W.alloc (.cells #[.int .i64 p,.int .i64 q,.int .i64 t] 187)=X at *
  go_quiet (fail)
  go_wp2_with (go_at_call 134;(with_reducible refine (HC.out _ (Zag Zbr _)).mono ?_);rintro e w2 ⟨v2,rfl,hr2,hb2⟩;have q8':w2.cell? ⟨D.gd,9,none⟩=some (.map (some D.bt)):=Zad hb2 (by exact q8);have y0:w2.cell? ⟨W.heap.size,0,none⟩=some (.int .i64 p):=Zad hb2 (by exact x0);have y1:w2.cell? ⟨W.heap.size,1,none⟩=some (.int .i64 q):=Zad hb2 (by exact x1);have y2:w2.cell? ⟨W.heap.size,2,none⟩=some (.int .i64 t):=Zad hb2 (by exact x2);have HR2:=Zrw.mk hr2;have HB2:Zrw (Below X.heap.size X w2):=⟨Zae (w:=X) (Zag Zbr _) hb2⟩;clear hr2 hb2)
  have HD2:=Zrw.mk ((HX.out.below HB2.out).mono (ok':=okN ok W) (fun k hk _=>.inl hk));have HM2:=Zrw.mk (HM.out.kept (HB2.out.block _ HM.out.lt));have HBW:=Zrw.mk (Zae HB.out HB2.out);have HV2:Zrw ((Kd.int .i64).R 3 w2 D.b0 (okN ok W) v2 (D.V.ret p q t)):=⟨Kd.R_lower (Kd.R_mono (Kd.R_bound HR2.out) (fun k hk=>.inr (Nat.le_trans HB.out.size hk.2.1))) (show D.b0≤_ from HX.out.bel.size)⟩
  obtain⟨M',hM1,hM2⟩:=Zoj M (k3 p q t) v2;have HM1:=Zrw.mk hM1;have HM3:=Zrw.mk hM2;clear hM1 hM2 hlk x0 x1 x2 q8 q2;refine Zcw ?_
  refine Zet 6 (by kernel_rfl) (by kernel_rfl) ?_
  simp only[List.take_succ_cons,List.take_zero,List.drop_succ_cons,List.drop_zero]
  repeat still_step
  refine wpStill_nil ?_
  go_wp2_with (at_mapUpdate;refine Zcx rfl (.tmp 38) (.tmp 39) (.tmp 40) 84 rfl 187 41 keyed187 Tryz.underlying84 D.bt M M' rfl (HM2.out.kept rfl) (k3 p q t) v2 kl rfl rfl HKL.out HM1.out HM3.out ?_;intro w3 hm3 hg3;have HG3:=Zrw.mk hg3;have HM4:=Zrw.mk hm3;clear hm3 hg3)
  go_ret
  have hb3:Below w2.heap.size w2 (w2.drewN 0).drew:=⟨rfl,rfl,rfl,Nat.le_refl _,fun _ _=>rfl⟩
  have hm3:((w2.drewN 0).drew).mapIs Tryz.prog 187 D.bt M:=HM2.out.kept rfl;have hp:=DS.putBack (HD2.out.below hb3) hk HM4.out HG3.out (fun _ _ _ u hu=>Kd.R_mono (Kd.R_below (HV.out _ _ _ _ hu) (Zae HBW.out hb3)) (fun _ h=>.inl h)) HM1.out HM3.out (Kd.R_below HV2.out hb3);have ho3:=OneBlk.of_grown HG3.out;refine⟨_,rfl,hp,?_,(OneBlk.of_below (Zae HBW.out hb3)).trans ho3⟩;exact Zei (Kd.R_below HV2.out hb3) (fun k k1 _ k2 ⟨_,_,_,hc⟩=>⟨k1,ho3.blk k k2 (Zbm hm3 hc)⟩)
end Go.Proofs.YtaokkliamoghbaaGreatDoor.PVpa
set_option linter.unusedVariables false
set_option linter.unusedSimpArgs false
namespace Go.Proofs.YtaokkliamoghbaaGreatDoor.PVpa
open Go.RowKit Go.Proofs.YtaokkliamoghbaaGreatDoorW.PrintWords Go.Proofs.YtaokkliamoghbaaGreatDoorW.PrintLast Go.Proofs.YtaokkliamoghbaaGreatDoorW.PrintMore
open PDet (VM VOk Wf In Zbi toks number)
theorem info89:(Tryz.prog.info? 89).map (fun i=>(i.zero,i.size,i.bytes))=some (some (.slice none 0 0),1,24):=by kernel_rfl
section
variable {D:DK}{ok ok':Nat→Prop}{W W1:World}{ns:List (List (Int × Int))}{s:PDet.St}
theorem DS.putState (h:DS D ok W ns s)(hk:D.Ok){vs vo vs':Value}{l:List (Int × Int)}{b:Bool}(hc:DCell D ok W vs vo s)(hR:(Kd.slice 90 kP).R 89 W1 D.b0 ok' vs' (s.L++[l]))(hok:∀k,ok k→ok' k)
 (hb1:Below D.b0 D.w0 W1) (hg:W.grownBy W1 vs.ownBlock) (hwf:Zrv l∧∀x∈l,In D.n x) :
 DS D ok' ((W1.setCell ⟨D.gd,4,none⟩ vs').setCell ⟨D.gd,10,none⟩ (.bool b)) ns { s with L:=s.L++[l],large:=b }∧Kept W ((W1.setCell ⟨D.gd,4,none⟩ vs').setCell ⟨D.gd,10,none⟩ (.bool b)) (fun k=>k=D.gd∨vs.ownBlock=some k):=by
 obtain⟨i0,i1,i2,i3,i4⟩:=h.in5;have hne:some D.gd≠vs.ownBlock:=Kd.R_ne hc.2.1 hc.1 (by decide);have hgd:=Zat hc.1 hg hne;have hblk:∀k,k<W.heap.size→k≠D.gd→some k≠vs.ownBlock→((W1.setCell ⟨D.gd,4,none⟩ vs').setCell ⟨D.gd,10,none⟩ (.bool b)).heap[k]?=W.heap[k]?:=fun k hk h1 h2=>
  ((Below.heap_setCell _ _ _ k h1).trans (Below.heap_setCell _ _ _ k h1)).trans (hg.block k hk h2)
 have hty:∀q:List Nat,88 ∉ q→89 ∉ q→∀k,ok k→D.b0≤k→k<W.heap.size→(∃q',q'∈q∧∃cells,W.heap[k]?=some (.cells cells q' (0,0)))→ok' k∧((W1.setCell ⟨D.gd,4,none⟩ vs').setCell ⟨D.gd,10,none⟩ (.bool b)).heap[k]?=W.heap[k]?:=by
  rintro q n1 n2 k h1 _ h2 ⟨q',hq,cells,hcs⟩;refine⟨hok k h1,hblk k h2 ?_ (Kd.R_ne hc.2.1 hcs (fun e=>n2 (e▸hq)))⟩;rintro rfl;have this:=hc.1;rw[hcs]at this;injection this with this
  injection this with _ this
  exact n1 (this▸hq)
 have hmap:∀{kt:TypeId} {m:Nat} {M:Value→Option Value},W.mapIs Tryz.prog kt m M→((W1.setCell ⟨D.gd,4,none⟩ vs').setCell ⟨D.gd,10,none⟩ (.bool b)).heap[m]?=W.heap[m]?:=fun {kt m M} hM=>hblk m hM.lt (fun e=>Zbm hM hc.1 e.symm) (fun e=>by
  obtain⟨inner,ho⟩:=Kd.R_own hc.2.1;obtain⟨cells,hcs⟩:=Zaq ho m e.symm;exact Zbm hM hcs rfl)
 have hbel:Below D.b0 D.w0 ((W1.setCell ⟨D.gd,4,none⟩ vs').setCell ⟨D.gd,10,none⟩ (.bool b)):=(hb1.setCell (p:=⟨D.gd,4,none⟩) (hk.ge _ (by simp)) vs').setCell (p:=⟨D.gd,10,none⟩) (hk.ge _ (by simp)) _;refine⟨⟨hbel,fun k hk=>hok k (h.okb k hk),⟨vs',vo,?_,?_,?_⟩,h.num.move (hmap h.num.choose_spec.1),h.ret.move (hmap h.ret.choose_spec.1),h.calls.off (hmap h.calls.choose_spec.1) (hty [90] (by decide) (by decide)),h.backs.off (hmap h.backs.choose_spec.1) (hty [3] (by decide) (by decide)),h.toks.off (hty [3] (by decide) (by decide)),?_⟩,?_⟩
 ·exact Zcd (Zcd hgd 4 vs') 10 (.bool b)
 ·have e:∀q,q∈89 :: (Kd.slice 90 kP).E→q≠88:=by decide
  exact Kd.R_set (Kd.R_set hR hgd e 4 vs') (Zcd hgd 4 vs') e 10 _
 ·exact Zei hc.2.2 (hty _ (by decide) (by decide))
 ·intro x hx
  rcases List.mem_append.1 hx with hx | hx
  ·exact h.wf x hx
  ·rw[List.mem_singleton.1 hx];exact hwf
 ·refine⟨?_,fun k hk hn=>hblk k hk (fun e=>hn (.inl e)) (fun e=>hn (.inr e.symm))⟩;have:=hg.size;simpa[World.setCell]using this
theorem tab_at {w0 W : World}(ht : Lib.TabBelow Tryz.prog w0.heap.size w0 "internal/strconv.uint64pow10" .u64 Lib.pow10Tab)(hb : Below w0.heap.size w0 W) : TabW W := Lib.tabBelow_of_tabIs ((ht.on hb).here)
end
theorem Zkt {W W':World}{S:Nat→Prop}(h:Kept W W' S)(hS:∀k,S k→∀cells,W.heap[k]?≠some (.cells cells 3 (0,0))):Same3 W W':=fun k cells hc=>h.2 k (Zau hc) (fun hs=>hS k hs cells hc)
theorem not3 {W:World}{k:Nat}{cs:Array Value}{q:TypeId}(h:W.heap[k]?=some (.cells cs q (0,0)))(hq:q≠3):∀cells,W.heap[k]?≠some (.cells cells 3 (0,0)):=fun cells e=>by
 rw[h]at e;injection e with e
 injection e with _ e
 exact hq e
theorem In.low {n:Nat}(hn:n≤300){x:Int × Int}(h:In n x):0≤x.1∧x.1<4611686018427387904∧0≤x.2∧x.2<4611686018427387904:=⟨h.1,by have:=h.2.1;omega,h.2.2.1,by have:=h.2.2.2;omega⟩
theorem idx_snoc {L:List (List (Int × Int))}{l:List (Int × Int)}(hl:l ∉ L)(x:List (Int × Int)):(if x∈L++[l]then some (Value.int .i64 ((L++[l]).idxOf x:Nat))else none)=if x=l then some (.int .i64 (L.length:Nat))else if x∈L then some (.int .i64 (L.idxOf x:Nat))else none:=by
 by_cases e:x=l
 ·subst e;rw[if_pos (by simp),if_pos rfl,List.idxOf_append,if_neg hl];simp
 ·rw[if_neg e];by_cases e2:x∈L
  ·rw[if_pos (by simp[e2]),if_pos e2,List.idxOf_append,if_pos e2]
  ·rw[if_neg (by simp[e,e2]),if_neg e2]
theorem Same3.one {W W':World}{b:Nat}(ho:OneBlk b W W'){P:Program}{kt:TypeId}{M:Value→Option Value}(hM:W.mapIs P kt b M):Same3 W W':=fun k cells hc=>ho.blk k (Zau hc) (Zbm hM hc)
structure NumE (D:DK)(ok:Nat→Prop)(W w':World)(s:PDet.St):Prop where
 ds:DS D ok w' s.L s
 same:Same3 W w'
 size:W.heap.size≤w'.heap.size
set_option maxHeartbeats 4000000 in
theorem number_c (D : DK)(hk : D.Ok)(ht : Lib.TabBelow Tryz.prog D.b0 D.w0 "internal/strconv.uint64pow10" .u64 Lib.pow10Tab)(ok ok' : Nat → Prop)(W : World)(s : PDet.St)(h : DS D ok W s.L s)(vl : Value)(l : List (Int × Int))(ho : OwnP W D.b0 vl l)(hno : ∀ k, vl.ownBlock = some k → ¬ ok k)(hk1 : ∀ k, ok k → ok' k)(hk2 : ∀ k, vl.ownBlock = some k → ok' k)(hk3 : ∀ k, W.heap.size ≤ k → ok' k)
 (hin:∀x∈l,In D.n x) (hl:l.length≤8000000000000) (hL:s.L.length≤1000) (hlg:s.large=false) :
 Calls Tryz.prog 42 #[.pointer (some ⟨D.gd,0,none⟩),vl] W fun e w'=>e=.returned (.int .i64 ((number normP D.most l s).1:Nat))∧NumE D ok' W w' (number normP D.most l s).2:=by
 have hwf:Zrv (normP l)∧∀x∈normP l,In D.n x:=⟨Zop l,fun x hx=>hin x ((Zkp l x).1 hx)⟩
 have hlen:(normP l).length≤90000:=by
  have h1:=PDet.ris_len hwf.1 hwf.2;have h2:=Nat.mul_le_mul hk.v.few hk.v.few;omega
 obtain⟨nm,hnm⟩:∃nm:ByteArray,nm=⟨(Zbi (normP l)).toArray⟩:=⟨_,rfl⟩
 have HN:=Zrw.mk (normD_call D.w0 W vl l h.bel ho (by omega));have HD0:=Zrw.mk h;have HNO:=Zrw.mk hno;have HK1':=Zrw.mk hk1;have HK2':=Zrw.mk hk2;have HK3':=Zrw.mk hk3;clear hk1 hk2 hk3;have HWF:=Zrw.mk hwf;have HSV:Zrw (∀W',Kept W W' (fun k=>vl.ownBlock=some k)→Same3 W W'):=⟨fun W' hK=>Zkt hK (fun k hk=>by
  obtain⟨cells,hc⟩:=Zaq ho k hk;exact not3 hc (by decide))⟩
 have HNM:=Zrw.mk (fun (w1:World) (v1:Value) (o1:OwnP w1 D.b0 v1 (normP l)) (b1:Below D.b0 D.w0 w1)=>by
  have:=nameD_call w1 D.b0 v1 (normP l) o1 (fun x hx=>In.low hk.v.few (hwf.2 x hx)) (by omega) (tab_at ht b1);rw[←hnm]at this;exact this)
 have hz:∀w,(zeroValue 3).run Tryz.prog w=.ok (.int .i64 0) w:=fun w=>by kernel_rfl
 have hkey:∃kl,keyOf Tryz.prog 9 (.string nm)=some kl:=key9 nm (by
  have:=Zil (normP l) (fun x hx=>In.low hk.v.few (hwf.2 x hx));rw[hnm];show (Zbi (normP l)).toArray.size≤maxLen;rw[List.size_toArray];unfold maxLen;omega)
 obtain⟨kl,hkl⟩:=hkey;have HKL:=Zrw.mk hkl;have hnv:nameV (normP l)=.string nm:=by rw[hnm];rfl
 have HNV:=Zrw.mk hnv;have HL:=Zrw.mk hL;have HK:=Zrw.mk hk;have HLG:=Zrw.mk hlg;by_cases hmem:normP l∈s.L
 ·have e:number normP D.most l s=(s.L.idxOf (normP l),s):=by unfold number;rw[if_pos hmem]
  rw[e];simp only;have HME:=Zrw.mk hmem;generalize normP l=nl at *;obtain⟨ix,hix⟩:∃ix,ix=s.L.idxOf nl:=⟨_,rfl⟩
  have HIX:=Zrw.mk hix;rw[←hix];have HZ:=Zrw.mk hz;clear h ho hno hwf hlen hnm hkl hnv hL hk hlg e hix hmem hz hin hl ht
  go_enter Tryz.func42,Tryz.ntmps42
  go_wp2_with (first
   | (go_at_call 61;(with_reducible refine HN.out.mono ?_);rintro e1 w1 ⟨v1,rfl,he1,ho1,hb1,hk1⟩;have HO1:=Zrw.mk ho1;have HB1:=Zrw.mk hb1;have HD1:=Zrw.mk (HD0.out.move hb1 (fun k hok hlt=>hk1.2 k hlt (fun hv=>HNO.out k hv hok)));have HS1:=Zrw.mk (HSV.out w1 hk1);have HK1:=Zrw.mk hk1.1;clear he1 ho1 hb1 hk1)
   | (go_at_call 62;(with_reducible refine (HNM.out w1 v1 HO1.out HB1.out).mono ?_);rintro e2 w2 ⟨rfl,hb2⟩;have HB2:=Zrw.mk hb2;have HD2:=Zrw.mk (HD1.out.below hb2);obtain⟨vs,vo,hc2⟩:=HD2.out.cell;obtain⟨Mn,hMn,hMs⟩:=HD2.out.num;have q5:w2.cell? ⟨D.gd,5,none⟩=some (.map (some D.bn)):=(Zaa hc2.1 5).trans rfl;have hlk:=hMn.look keyed9 Tryz.underlying81 (HZ.out _) HKL.out true;rw[←HNV.out,hMs,if_pos HME.out,←HIX.out,HNV.out]at hlk;simp only[Option.getD_some,Option.isSome_some,if_true]at hlk;have HLK:=Zrw.mk hlk;clear hb2 hc2 hMn hMs hlk)
   | (at_lookup;refine Zfd rfl (.tmp 17) (.tmp 18) 81 rfl D.bn (.string nm) _ rfl rfl HLK.out ?_))
  go_ret
  exact⟨rfl,HD2.out.mono (fun k hk _=>HK1'.out k hk),HS1.out.trans (Same3.below HB2.out),Nat.le_trans HK1.out HB2.out.size⟩
 ·have e:number normP D.most l s=(s.L.length,{ s with L:=s.L++[normP l],large:=decide (D.most≤s.L.length) }):=by unfold number;rw[if_neg hmem,hlg,Bool.false_or]
  rw[e];simp only;have HME:=Zrw.mk hmem;generalize normP l=nl at *;have HZ:=Zrw.mk hz;obtain⟨n,hn⟩:∃n,n=s.L.length:=⟨_,rfl⟩
  have HNN:=Zrw.mk hn;rw[←hn];have hidx:=fun x=>idx_snoc hmem x
  have HIDX:=Zrw.mk hidx;clear h ho hno hwf hlen hnm hkl hnv hL hk hlg e hn hmem hz hin hl ht hidx
  go_enter Tryz.func42,Tryz.ntmps42
  go_wp2_with (first
   | (go_at_call 61;(with_reducible refine HN.out.mono ?_);rintro e1 w1 ⟨v1,rfl,he1,ho1,hb1,hk1⟩;obtain⟨A1,c1,rfl,_⟩:=ho1.slice;have HO1:=Zrw.mk ho1;have HB1:=Zrw.mk hb1;have HD1:=Zrw.mk (HD0.out.move hb1 (fun k hok hlt=>hk1.2 k hlt (fun hv=>HNO.out k hv hok)));have HS1:=Zrw.mk (HSV.out w1 hk1);have HK1:=Zrw.mk hk1.1;have HE1:=Zrw.mk he1;clear he1 ho1 hb1 hk1)
   | (go_at_call 62;(with_reducible refine (HNM.out w1 (.slice A1 nl.length c1) HO1.out HB1.out).mono ?_);rintro e2 w2 ⟨rfl,hb2⟩;have HB2:=Zrw.mk hb2;have HO2:=Zrw.mk (HO1.out.below hb2);have HSZ2:=Zrw.mk (Nat.le_trans HK1.out hb2.size);have HD2:Zrw (DS D ok' w2 s.L s):=⟨(HD1.out.below hb2).mono (fun k hk _=>HK1'.out k hk)⟩;obtain⟨vs,vo,hc2⟩:=HD2.out.cell;obtain⟨A2,c2,rfl,_⟩:=Kd.R_reads hc2.2.1;obtain⟨Mn,hMn,hMs⟩:=HD2.out.num;have q5:w2.cell? ⟨D.gd,5,none⟩=some (.map (some D.bn)):=(Zaa hc2.1 5).trans rfl;have q4:w2.cell? ⟨D.gd,4,none⟩=some (.slice A2 s.L.length c2):=(Zaa hc2.1 4).trans rfl;rw[←HNN.out]at q4;have hlk:=hMn.look keyed9 Tryz.underlying81 (HZ.out _) HKL.out true;rw[←HNV.out,hMs,if_neg HME.out,HNV.out]at hlk;simp only[Option.getD_none,Option.isSome_none,if_true]at hlk;have HLK:=Zrw.mk hlk;have HMN:=Zrw.mk hMn;have HMS:=Zrw.mk hMs;obtain⟨M',hM1,hM2⟩:=Zoj Mn (.string nm) (.int .i64 n);have HM1:=Zrw.mk hM1;have HM2:=Zrw.mk hM2;clear hb2 hc2 hMn hMs hlk hM1 hM2)
   | (at_lookup;refine Zfd rfl (.tmp 17) (.tmp 18) 81 rfl D.bn (.string nm) _ rfl rfl HLK.out ?_)
   | (at_mapUpdate;refine Zcx rfl (.tmp 32) (.tmp 33) (.tmp 34) 81 rfl 9 3 keyed9 Tryz.underlying81 D.bn Mn M' rfl HMN.out (.string nm) (.int .i64 n) kl rfl rfl HKL.out HM1.out HM2.out ?_;intro w3 hm3 hg3;have HD3:Zrw (DS D ok' w3 (s.L++[nl]) s):=⟨HD2.out.putNum HK.out hm3 hg3 (fun x=>by (rw[HIDX.out x];by_cases ex:x=nl;(rw[if_pos ex,ex,HNV.out,HM1.out,HNN.out]);(rw[if_neg ex,HM2.out _ (fun e=>ex (nameV_inj (e.trans HNV.out.symm))),HMS.out x])))⟩;have HO3:=Zrw.mk (OneBlk.of_grown hg3);have HS3:=Zrw.mk (Same3.one (OneBlk.of_grown hg3) HMN.out);obtain⟨vs3,vo3,hc3⟩:=HD3.out.cell;obtain⟨A3,c3,rfl,_⟩:=Kd.R_reads hc3.2.1;have q4':w3.cell? ⟨D.gd,4,none⟩=some (.slice A3 s.L.length c3):=(Zaa hc3.1 4).trans rfl;have HC3:=Zrw.mk hc3;have HP3:Zrw (kP.R 90 w3 D.b0 (fun k=>ok' k∧some k≠(Value.slice A3 s.L.length c3).ownBlock) (.slice A1 nl.length c1) nl):=⟨Zli (Zci HO2.out (fun k hk=>HO3.out.blk k (Zdb HO2.out k hk) (by (obtain⟨cells,hcs⟩:=Zaq HO2.out k hk;exact Zbm HMN.out hcs)))) (fun k hk=>⟨HK2'.out k (HE1.out▸hk),by (obtain⟨cells,hcs⟩:=Zaq HO2.out k hk;exact Kd.R_ne hc3.2.1 ((HO3.out.blk k (Zdb HO2.out k hk) (Zbm HMN.out hcs)).trans hcs) (by decide))⟩)⟩;rw[←HNN.out]at q4' HC3 HP3;clear hm3 hg3 hc3)
   | ((with_reducible refine Zal (b:=.append) (xs:=#[.tmp 39,.tmp 41]) rfl ?_);at_builtin;refine Kd.R_append (Kd.slice 90 kP) (w0:=D.w0) D.b0 rfl (.tmp 39) (.tmp 41) 85 89 (.slice none 0 0) 24 rfl Tryz.underlying85 info89 rfl (by decide) (by omega) (.slice A3 n c3) s.L nl [.slice A1 nl.length c1] ok' (fun k=>ok' k∧some k≠(Value.slice A3 n c3).ownBlock) rfl rfl ⟨_,rfl,HP3.out⟩ (fun k hk=>hk) (fun k hk=>HK3'.out k (Nat.le_trans HSZ2.out (Nat.le_trans HO3.out.size hk))) HC3.out.2.1 HD3.out.bel HD3.out.bel.size (by have:=HL.out;omega) ?_;intro v7 w7 hr7 hb7 hg7 hat7;obtain⟨A7,c7,rfl,_⟩:=Kd.R_reads hr7;have HR7:=Zrw.mk hr7;have HB7:=Zrw.mk hb7;have HG7:=Zrw.mk hg7;have k7:=Zat HC3.out.1 hg7 (Kd.R_ne HC3.out.2.1 HC3.out.1 (by decide));have hf7:=Zam k7 4;have hf8:=Zam k7 10;have hc7:w7.cell? ⟨D.gd,4,none⟩=some (.slice A3 n c3):=(Zaa k7 4).trans rfl;have hc8:w7.cell? ⟨D.gd,10,none⟩=some (.bool s.large):=(Zaa k7 10).trans rfl;have hc9:w7.cell? ⟨D.gd,3,none⟩=some (.int .i64 D.most):=(Zaa k7 3).trans rfl;rw[HLG.out]at hc8;clear hr7 hb7 hg7 hat7 k7))
  go_ret
  have hput:=HD3.out.putState HK.out (b:=decide (D.most≤n)) HC3.out HR7.out (fun _ h=>h) HB7.out HG7.out HWF.out;rw[List.length_append,List.length_singleton]at hput;refine⟨rfl,?_,?_,?_⟩
  ·exact hput.1
  ·exact HS1.out.trans ((Same3.below HB2.out).trans (HS3.out.trans (Zkt hput.2 (fun k hk=>by
    rcases hk with rfl | hk
    ·exact not3 HC3.out.1 (by decide)
    ·obtain⟨inner,ho⟩:=Kd.R_own HC3.out.2.1;obtain⟨cells,hcs⟩:=Zaq ho k hk;exact not3 hcs (by decide)))))
  ·exact Nat.le_trans HSZ2.out (Nat.le_trans HO3.out.size hput.2.1)
end Go.Proofs.YtaokkliamoghbaaGreatDoor.PVpa
set_option linter.unusedVariables false
set_option linter.unusedSimpArgs false
namespace Go.Proofs.YtaokkliamoghbaaGreatDoor.PVpa
open Go.RowKit Go.Proofs.YtaokkliamoghbaaGreatDoorW.PrintWords Go.Proofs.YtaokkliamoghbaaGreatDoorW.PrintLast Go.Proofs.YtaokkliamoghbaaGreatDoorW.PrintMore
open PDet (VM VOk Wf In Zbi toks number)
section
variable {ops:Array Oper}{rest:List Oper}{o:Oper}{a:Act}{Q:Exit→Act→World→Prop}
theorem Zle {w0 W:World}(base:Nat)(hgd:o.guard=none)(s x:Operand)(ho:o.op=.call { callee:=.builtin .append,args:=#[s,x],argTypes:=#[89,89] })(v:Value)(l:List (Int × Int))(p:Int × Int)(g:Nat)
 (hs:a.eval s=v) (hx:a.eval x=.slice (some ⟨g,0,none⟩) 1 1) (hg:g=W.heap.size) (HO:OwnP W base v l) (HB:Below base w0 W) (hbase:base≤W.heap.size) (hl:l.length≤8000000000000)
 (h:∀v1 w1,OwnP w1 base v1 (l++[p])→Below base w0 w1→W.grownBy w1 v.ownBlock→(v1.ownBlock=v.ownBlock∨∃b,v1.ownBlock=some b∧W.heap.size≤b)→wpList Tryz.prog ops Q rest (a.put o.dst v1) w1) :
 wpList Tryz.prog ops Q (o :: rest) a (W.alloc (.cells #[.int .i64 p.1,.int .i64 p.2] 90)):=by
 subst hg;refine Zcm (w0:=w0) base hgd s x 89 90 (.agg #[.int .i64 0,.int .i64 0]) 2 16 ho Tryz.underlying89 info53 rfl (by omega) (by omega) v l.length (Zbg l) (Zjd p) hs hx rfl (fun u hu=>by simp[Zjd]at hu;rcases hu with rfl | rfl <;> rfl) HO HB hbase (by omega) ?_
 intro v1 w1 h1 h2 h3 h4;refine h v1 w1 ?_ h2 h3 h4
 unfold OwnP;rw[List.length_append,List.length_singleton,show Zbg (l++[p])=Zbg l++Zjd p by simp[Zbg]];exact h1
end
theorem reps_cells {w:World}{base:Nat}{ok:Nat→Prop}{l:List (Int × Int)}{inner:List Value}(h:Reps (kP.M w base ok) 2 l inner):inner=Zbg l:=by
 apply List.ext_getElem?;intro i;have hlen:inner.length=l.length*2:=h.1;by_cases hi:i<l.length*2
 ·have hj:i / 2<l.length:=by omega
  obtain⟨c0,c1,hc,h0,h1⟩:=h.2 (i / 2) _ (List.getElem?_eq_getElem hj);have h0':c0=[.int .i64 (l[i / 2]).1]:=h0;have h1':c1=[.int .i64 (l[i / 2]).2]:=h1;subst h0' h1';obtain⟨g1,g2⟩:=Zis l (i / 2) hj;have e:∀j,j<2→inner[i / 2*2+j]?=[Value.int .i64 (l[i / 2]).1,.int .i64 (l[i / 2]).2][j]?:=fun j hj2=>by
   have e2:((inner.drop (i / 2*2)).take 2)[j]?=[Value.int .i64 (l[i / 2]).1,.int .i64 (l[i / 2]).2][j]?:=by rw[hc];rfl
   rw[List.getElem?_take,if_pos hj2,List.getElem?_drop]at e2;exact e2
  rcases Nat.mod_two_eq_zero_or_one i with h3 | h3
  ·have:=e 0 (by omega);rw[show i / 2*2+0=i by omega]at this;rw[show i / 2*2=i by omega]at g1;rw[this,g1];rfl
  ·have:=e 1 (by omega);rw[show i / 2*2+1=i by omega]at this g2;rw[this,g2];rfl
 ·rw[List.getElem?_eq_none (by omega),List.getElem?_eq_none (by rw[Zbw];omega)]
theorem Zcl {w:World}{base:Nat}{ok:Nat→Prop}{v:Value}{l:List (Int × Int)}(h:kP.R 90 w base ok v l):OwnP w base v l:=by
 obtain⟨_,inner,ho,hr⟩:=h;unfold OwnP;rw[←reps_cells hr];exact ho
theorem R_elem {α:Type}{d:Kd α}{e2 e:Nat}{w:World}{base:Nat}{ok:Nat→Prop}{v:Value}{L:List (List α)}(h:(Kd.slice e2 d).R e w base ok v L)(i:Nat)(hi:i<L.length) :
 ∃g cap u,v=.slice (some ⟨g,0,none⟩) L.length cap∧w.cell? ⟨g,i,none⟩=some u∧d.R e2 w base ok u L[i]:=by
 obtain⟨h0,inner,ho,hr⟩:=h
 rcases ho.2 with⟨_,hz⟩ | ⟨g,cap,cur,rfl,_⟩
 ·omega
 ·obtain⟨u,hu,hR⟩:=hr.2 i _ (List.getElem?_eq_getElem hi);have hiu:inner[i]?=some u:=by
   have e1:((inner.drop (i*1)).take 1)[0]?=some u:=by
    have:(inner.drop (i*(Kd.slice e2 d).sz)).take (Kd.slice e2 d).sz=[u]:=hu;have e3:(Kd.slice e2 d).sz=1:=rfl;rw[e3]at this;rw[this];rfl
   rw[List.getElem?_take,if_pos (by omega),List.getElem?_drop]at e1;simpa using e1
  refine⟨g,cap,u,rfl,?_,Kd.R_mono hR (fun _ hk=>hk.1)⟩;have:=ho.cells (g:=g) rfl i u hiu;rwa[Zif]at this
def Zii (V:VM)(t:Int)(x:Int × Int):List (Int × Int):=
 if PDet.kind V t=0 then (V.int x.2 t).map fun c=>(x.1,c)else if PDet.kind V t=1 then (V.call x.2 t).map fun c=>(c.1,c.1)else (V.bot x.2 t).map fun c=>(x.1,c)
theorem Zlw (V:VM)(L:List (List (Int × Int)))(i:Nat)(t:Int):PDet.stepOut V L i t=(L.getD i []).flatMap (Zii V t):=rfl
def okS (ok:Nat→Prop)(W0:World)(vo:Value):Nat→Prop:=fun k=>okN ok W0 k∧vo.ownBlock≠some k
structure StepI (D:DK)(ok:Nat→Prop)(W0:World)(s:PDet.St)(vrow:Value)(row:List (Int × Int))(W:World)(vo:Value)(o:List (Int × Int)):Prop where
 ds:DS D (okS ok W0 vo) W s.L s
 own:OwnP W D.b0 vo o
 new:∀k,vo.ownBlock=some k→W0.heap.size≤k
 row:kP.R 90 W D.b0 (okS ok W0 vo) vrow row
 same:Same3 W0 W
 size:W0.heap.size≤W.heap.size
section
variable {D:DK}{ok:Nat→Prop}{W0 W W1:World}{s:PDet.St}{vrow vo v1:Value}{row o:List (Int × Int)}
theorem StepI.start (h:DS D ok W s.L s)(hr:kP.R 90 W D.b0 ok vrow row):StepI D ok W s vrow row W (.slice none 0 0) []:=
 ⟨h.mono (fun k hk _=>⟨.inl hk,by simp[Value.ownBlock]⟩),OwnP.nil _ _,fun k hk=>by simp[Value.ownBlock]at hk,Kd.R_mono hr (fun k hk=>⟨.inl hk,by simp[Value.ownBlock]⟩),Same3.refl _,Nat.le_refl _⟩
theorem StepI.below (h:StepI D ok W0 s vrow row W vo o)(hb:Below W.heap.size W W1):StepI D ok W0 s vrow row W1 vo o:=
 ⟨h.ds.below hb,h.own.below hb,h.new,Kd.R_below h.row hb,h.same.trans (Same3.below hb),Nat.le_trans h.size hb.size⟩
theorem StepI.push (h:StepI D ok W0 s vrow row W vo o){o':List (Int × Int)}(HO:OwnP W1 D.b0 v1 o')(hb:Below D.b0 D.w0 W1)(hg:W.grownBy W1 vo.ownBlock)(hat:v1.ownBlock=vo.ownBlock∨∃b,v1.ownBlock=some b∧W.heap.size≤b):StepI D ok W0 s vrow row W1 v1 o':=by
 have hne:∀k,k<W.heap.size→vo.ownBlock≠some k→v1.ownBlock≠some k:=fun k hk hn=>by
  rcases hat with e | ⟨b,e,hb⟩
  ·rw[e];exact hn
  ·rw[e];intro e2;injection e2 with e2;omega
 have mv:∀k,okS ok W0 vo k→D.b0≤k→k<W.heap.size→(∃q,q∈90 :: kP.E∧∃cells,W.heap[k]?=some (.cells cells q (0,0)))→okS ok W0 v1 k∧W1.heap[k]?=W.heap[k]?:=fun k h1 _ h2 _=>⟨⟨h1.1,hne k h2 h1.2⟩,hg.block k h2 (fun e=>h1.2 e.symm)⟩
 refine⟨?_,HO,fun k hk=>?_,Zei h.row mv,fun k cells hc=>hg.block k (Zau (h.same k cells hc▸hc)) (fun e=>?_) |>.trans (h.same k cells hc),Nat.le_trans h.size hg.size⟩
 ·refine ((h.ds.mono (ok':=fun k=>okS ok W0 vo k∧k<W.heap.size) (fun k hk hlt=>⟨hk,hlt⟩)).move hb (fun k hk hlt=>hg.block k hlt (fun e=>hk.1.2 e.symm))).mono (fun k hk _=>⟨hk.1.1,hne k hk.2 hk.1.2⟩)
 ·rcases hat with e | ⟨b,e,hb2⟩
  ·exact h.new k (e▸hk)
  ·rw[e]at hk;injection hk with hk
   have:=h.size;omega
 ·obtain⟨c2,hc2⟩:=Zaq h.own k e.symm;have:=h.same k cells hc;rw[hc2]at this;rw[←this]at hc;cases hc
theorem StepI.one (h:StepI D ok W0 s vrow row W vo o)(hd:DS D (okN (okS ok W0 vo) W) W1 s.L s)(ho:OneBlk D.bc W W1):StepI D ok W0 s vrow row W1 vo o:=by
 have hM:=h.ds.calls.choose_spec.1;have hok:∀k,okN (okS ok W0 vo) W k→okS ok W0 vo k:=fun k hk=>by
  rcases hk with hk | hk
  ·exact hk
  ·exact⟨.inr (Nat.le_trans h.size hk),fun e=>by have:=Zdb h.own k e;omega⟩
 refine⟨hd.mono (fun k hk _=>hok k hk),Zci h.own (fun k hk=>?_),h.new,Zei h.row (fun k h1 _ h2 ⟨_,_,_,hc⟩=>⟨h1,ho.blk k h2 (Zbm hM hc)⟩),h.same.trans (Same3.one ho hM),Nat.le_trans h.size ho.size⟩;obtain⟨c,hc⟩:=Zaq h.own k hk;exact ho.blk k (Zau hc) (Zbm hM hc)
end
structure StepB (D:DK)(ok:Nat→Prop)(W0:World)(s:PDet.St)(vrow:Value)(row:List (Int × Int))(bx:Nat)(x:Int × Int)(W:World)(vo:Value)(o:List (Int × Int)):Prop where
 i:StepI D ok W0 s vrow row W vo o
 box:W.heap[bx]?=some (.cells #[.int .i64 x.1,.int .i64 x.2] 90 (0,0))
 ne:vo.ownBlock≠some bx
section
variable {D:DK}{ok:Nat→Prop}{W0 W W1:World}{s:PDet.St}{vrow vo v1:Value}{row o:List (Int × Int)}{bx:Nat}{x:Int × Int}
theorem StepB.new (h:StepI D ok W0 s vrow row W vo o)(x:Int × Int):StepB D ok W0 s vrow row W.heap.size x (W.alloc (.cells #[.int .i64 x.1,.int .i64 x.2] 90)) vo o:=
 ⟨h.below (Zab Zbr _),Zaj _ _,fun e=>by have:=Zdb h.own _ e;omega⟩
theorem StepB.below (h:StepB D ok W0 s vrow row bx x W vo o)(hb:Below W.heap.size W W1):StepB D ok W0 s vrow row bx x W1 vo o:=⟨h.i.below hb,Zaf h.box hb,h.ne⟩
theorem StepB.push (h:StepB D ok W0 s vrow row bx x W vo o){o':List (Int × Int)}(HO:OwnP W1 D.b0 v1 o')(hb:Below D.b0 D.w0 W1)(hg:W.grownBy W1 vo.ownBlock)(hat:v1.ownBlock=vo.ownBlock∨∃b,v1.ownBlock=some b∧W.heap.size≤b):StepB D ok W0 s vrow row bx x W1 v1 o':=by
 refine⟨h.i.push HO hb hg hat,Zat h.box hg (fun e=>h.ne e.symm),?_⟩
 rcases hat with e | ⟨b,e,hb2⟩
 ·rw[e];exact h.ne
 ·rw[e];intro e2;injection e2 with e2;have:=Zau h.box;omega
theorem StepB.one (h:StepB D ok W0 s vrow row bx x W vo o)(hd:DS D (okN (okS ok W0 vo) W) W1 s.L s)(ho:OneBlk D.bc W W1):StepB D ok W0 s vrow row bx x W1 vo o:=
 ⟨h.i.one hd ho,(ho.blk _ (Zau h.box) (Zbm h.i.ds.calls.choose_spec.1 h.box)).trans h.box,h.ne⟩
end
end Go.Proofs.YtaokkliamoghbaaGreatDoor.PVpa
set_option linter.unusedVariables false
namespace Go.Proofs.YtaokkliamoghbaaGreatDoor.PVpa
open Go.RowKit Go.Proofs.YtaokkliamoghbaaGreatDoorW.PrintWords Go.Proofs.YtaokkliamoghbaaGreatDoorW.PrintLast Go.Proofs.YtaokkliamoghbaaGreatDoorW.PrintMore
open PDet (VM VOk Wf In Zbi toks number)
theorem Zhb {α:Type}{l:List α}{k:Nat}(h:k<l.length):l.drop k=l[k] :: l.drop (k+1):=List.drop_eq_getElem_cons h
theorem Zhz {α β:Type}{l:List α}{f:α→List β}{k:Nat}(h:k<l.length):(l.drop k).flatMap f=f l[k]++(l.drop (k+1)).flatMap f:=by rw[Zhb h,List.flatMap_cons]
theorem Zjr {α:Type}{o r t:List α}(h:o++r=t){n:Nat}(ht:t.length≤n):o.length≤n:=by
 rw[←h,List.length_append]at ht;omega
theorem Zhm {l:List (Int × Int)}{k:Nat}(h:k<l.length):rdP l k=l[k]:=by simp[rdP,List.getD_eq_getElem?_getD,List.getElem?_eq_getElem h]
theorem Zfz {w:World}{base:Nat}{ok:Nat→Prop}{A:Option Addr}{n c:Nat}{l:List Int}(h:(Kd.int .i64).R 3 w base ok (.slice A n c) l)(k:Nat)(hk:k<l.length):∃g,A=some ⟨g,0,none⟩∧w.cell? ⟨g,k,none⟩=some (.int .i64 l[k]):=by
 have ho:=Kd.own_of_R h
 rcases ho.2 with⟨_,hz⟩ | ⟨g,cap,cur,he,_⟩
 ·omega
 ·injection he with he _ _
  refine⟨g,he,?_⟩;subst he;have:=ho.cells (g:=g) rfl k (.int .i64 l[k]) (by simp[Zig,List.getElem?_eq_getElem hk]);rwa[Zif]at this
theorem Zfy {W W1:World}{base b:Nat}{ok:Nat→Prop}{v vo:Value}{l:List Int}{o:List (Int × Int)}(h:(Kd.int .i64).R 3 W base ok v l)(ho:OwnP W b vo o)(hg:W.grownBy W1 vo.ownBlock):(Kd.int .i64).R 3 W1 base ok v l:=
 Zei h (fun k h1 _ h2 ⟨q,hq,cells,hc⟩=>⟨h1,hg.block k h2 (fun e=>by
  obtain⟨c2,hc2⟩:=Zaq ho k e.symm;have e2:q=3:=by
   rcases List.mem_cons.1 hq with hq | hq
   ·exact hq
   ·cases hq
  rw[hc2]at hc;rw[e2]at hc;cases hc)⟩)
theorem StepI.pairs {D:DK}{ok:Nat→Prop}{W0 W W1:World}{s:PDet.St}{vrow vo v1 u:Value}{row o:List (Int × Int)}{l:List (Int × Int)}(h:StepI D ok W0 s vrow row W vo o)(hr:kP.R 90 W D.b0 (okS ok W0 vo) u l)(hg:W.grownBy W1 vo.ownBlock)(hat:v1.ownBlock=vo.ownBlock∨∃b,v1.ownBlock=some b∧W.heap.size≤b):kP.R 90 W1 D.b0 (okS ok W0 v1) u l:=
 Zei hr (fun k h1 _ h2 _=>⟨⟨h1.1,by
  rcases hat with e | ⟨b,e,hb⟩
  ·rw[e];exact h1.2
  ·rw[e];intro e2;injection e2 with e2;omega⟩,hg.block k h2 (fun e=>h1.2 e.symm)⟩)
theorem StepI.fresh {D:DK}{ok:Nat→Prop}{W0 W W1:World}{s:PDet.St}{vrow vo u:Value}{row o:List (Int × Int)}{l:List (Int × Int)}(h:StepI D ok W0 s vrow row W vo o)(hr:kP.R 90 W1 D.b0 (okN (okS ok W0 vo) W) u l):kP.R 90 W1 D.b0 (okS ok W0 vo) u l:=
 Kd.R_mono hr (fun k hk=>by
  rcases hk with hk | hk
  ·exact hk
  ·exact⟨.inr (Nat.le_trans h.size hk),fun e=>by have:=Zdb h.own k e;omega⟩)
theorem Zej {k n:Nat}(h:k<n)(hn:n≤1000000000000):wrap64 ((k:Int)+1)=((k+1:Nat):Int):=by unfold wrap64;omega
theorem Zds {k n:Nat}(h:k<n):n-(((k+1:Nat):Int)).toNat<n-((k:Nat):Int).toNat:=by omega
theorem kind_of {G:S26}{M:Mach}{t:Int}(t0:0≤t)(t1:t<G.f0.length):PDet.kind (Zqc G M) t=(Zqd G t).f1:=by
 unfold PDet.kind;rw[if_pos t0];show (G.f0.map (·.f1)).getD t.toNat 0=_;unfold Zqd;rw[List.getD_eq_getElem?_getD,List.getD_eq_getElem?_getD,List.getElem?_map,List.getElem?_eq_getElem (show t.toNat<G.f0.length by omega)]
 rfl
set_option maxHeartbeats 8000000 in
theorem step_c (D : DK)(hk : D.Ok)(ht : Lib.TabBelow Tryz.prog D.b0 D.w0 "internal/strconv.uint64pow10" .u64 Lib.pow10Tab)(ok : Nat → Prop)(W : World)(s : PDet.St)(h : DS D ok W s.L s)(i : Nat)(hi : i < s.L.length)(t : Int)(t0 : -1 ≤ t)(t1 : t < D.G.f0.length)(hL : s.L.length ≤ 1000)(hlg : s.large = false) :
 Calls Tryz.prog 63 #[.pointer (some ⟨D.gd,0,none⟩),.int .i64 i,.int .i64 t] W fun e w'=>e=.returned (.int .i64 ((PDet.step D.V normP D.most i t s).1:Nat))∧NumE D (okN ok W) W w' (PDet.step D.V normP D.most i t s).2:=by
 obtain⟨vs,vo0,hc⟩:=h.cell;obtain⟨gs,cs,vrow,rfl,hrow,hR⟩:=R_elem hc.2.1 i hi;have q0:W.cell? ⟨D.gd,0,none⟩=some (.slice D.At D.G.f0.length D.ct):=(Zaa hc.1 0).trans rfl;have q4:W.cell? ⟨D.gd,4,none⟩=some (.slice (some ⟨gs,0,none⟩) s.L.length cs):=(Zaa hc.1 4).trans rfl;have hrl:s.L.getD i []=s.L[i]:=by rw[List.getD_eq_getElem?_getD,List.getElem?_eq_getElem hi];rfl
 have htot:=PDet.stepOut_in hk.v h.wf i t;rw[Zlw,hrl]at htot;have hstep:PDet.step D.V normP D.most i t s=number normP D.most ((s.L[i]).flatMap (Zii D.V t)) s:=by
  unfold PDet.step;rw[Zlw,hrl]
 rw[hstep];have hin:=h.wf _ (List.getElem_mem hi);generalize s.L[i]=row at *;obtain⟨total,htl⟩:∃total,total=row.flatMap (Zii D.V t):=⟨_,rfl⟩
 rw[←htl]at htot ⊢;have HST:=Zrw.mk (StepI.start h hR);obtain⟨Ar,cr,rfl,_⟩:=Kd.R_reads hR;have hTK:∀b0:0≤t,_:=fun b0=>Zji (Kd.C_below hk.toks h.bel) t b0 t1
 have HTOT:=Zrw.mk htot;have HTL:=Zrw.mk htl;have HIN:=Zrw.mk hin;have HRL:Zrw (row.length≤90000):=⟨by
  have h1:=PDet.ris_len hin.1 hin.2;have h2:=Nat.mul_le_mul hk.v.few hk.v.few;omega⟩
 have HK:=Zrw.mk hk;have HL:=Zrw.mk hL;have HT1:=Zrw.mk t1;have HKO:∀b0:0≤t,PDet.kind D.V t=(Zqd D.G t).f1:=fun b0=>kind_of b0 t1
 obtain⟨kd,hkd⟩:∃kd,kd=PDet.kind D.V t:=⟨_,rfl⟩
 have HKD:=Zrw.mk hkd;have hI64t:I64 t:=⟨by omega,by have:=hk.few;omega⟩
 have HT64:=Zrw.mk hI64t;have HNUM:=Zrw.mk (fun (w1:World) (vo:Value) (hs:StepI D ok W s (.slice Ar row.length cr) row w1 vo total)=>number_c D hk ht (okS ok W vo) (okN ok W) w1 s hs.ds vo total hs.own (fun k hk1 hk2=>hk2.2 hk1) (fun k hk1=>hk1.1) (fun k hk1=>.inr (hs.new k hk1)) (fun k hk1=>.inr (Nat.le_trans hs.size hk1)) htot.2 (by have:=htot.1;omega) hL hlg);clear h hc hR htot htl hin hk hL hlg ht hstep hrl hI64t
 go_enter Tryz.func63,Tryz.ntmps63
 go_upto_if 18 with (fail)
 go_cut [8] (fun sk wx=>sk=.int .i64 kd∧wx=W)
 case first=>
  by_cases b0:0≤t
  ·obtain⟨ad,A4,c4,A5,c5,hAt,_,k1,_⟩:=hTK b0;have k1':W.cell? ⟨(ad.add (t.toNat*6)).block,(ad.add (t.toNat*6)).off+1,none⟩=some (.int .i64 (Zqd D.G t).f1):=k1;rw[←HKO b0,←hkd]at k1';rw[hAt]at q0;have q1:decide (0≤t)=true:=decide_eq_true b0;clear hTK HKO hkd k1;go_wp2
   go_meet
   exact⟨rfl,rfl⟩
  ·have q1:decide (0≤t)=false:=decide_eq_false b0;have ek:kd=0:=by rw[hkd];unfold PDet.kind;rw[if_neg b0]
   clear hTK HKO hkd;subst ek;go_wp2
   go_meet
   exact⟨rfl,rfl⟩
 case rest=>
  obtain⟨rfl,hw⟩:=hcut;obtain rfl:=hw.symm;clear hw hTK HKO hkd;go_wp2
  go_loopw [7,36] (fun out ix wr=>∃(j:Nat) (vo:Value) (o:List (Int × Int)),j≤row.length∧out=vo∧ix=.int .i64 j∧Zrw (StepI D ok W s (.slice Ar row.length cr) row wr vo o∧o++(row.drop j).flatMap (Zii D.V t)=total)) (fun _ ix _=>row.length-(intOf ix).toNat)
  case atStart=>exact⟨0,_,[],by omega,rfl,rfl,⟨HST.out,by rw[HTL.out];rfl⟩⟩
  case round=>
   clear q0 q4 hrow;obtain⟨j,vo,o,hj,hv,rfl,HS⟩:=hrel;obtain rfl:=hv.symm;clear hv;by_cases hjn:j<row.length
   ·obtain⟨g,rfl⟩:∃g,Ar=some ⟨g,0,none⟩:=by
     rcases (Zcl HS.out.1.row).2 with⟨he,hz⟩ | ⟨g,cap,cur,he,_⟩
     ·omega
     ·injection he with he;exact⟨g,he⟩
    obtain⟨p0,p1⟩:=(Zcl HS.out.1.row).at j hjn;have HB:=Zrw.mk (StepB.new HS.out.1 (rdP row j));have HF:Zrw (o++(Zii D.V t (rdP row j)++(row.drop (j+1)).flatMap (Zii D.V t))=total):=⟨by have:=HS.out.2;rw[Zhz hjn]at this;rw[Zhm hjn];exact this⟩
    have hx64:I64 (rdP row j).2:=(by
     have hm:=HIN.out.2 (row[j]) (List.getElem_mem hjn);rw[←Zhm hjn]at hm;have:=HK.out.v.few;exact⟨by have:=hm.2.2.1;omega,by have:=hm.2.2.2;omega⟩)
    have HX64:=Zrw.mk hx64;have HJN:=Zrw.mk hjn;obtain⟨T,hT⟩:∃T,T=(row.drop (j+1)).flatMap (Zii D.V t):=⟨_,rfl⟩
    rw[←hT]at HF;have HTT:=Zrw.mk hT;clear hT hx64;generalize rdP row j=x at *;obtain⟨x1,x2⟩:=x;simp only at p0 p1 HB HX64;have y1:(wr.alloc (.cells #[.int .i64 x1,.int .i64 x2] 90)).cell? ⟨wr.heap.size,1,none⟩=some (.int .i64 x2):=(Zaa HB.out.box 1).trans rfl;have yv:(wr.alloc (.cells #[.int .i64 x1,.int .i64 x2] 90)).cell? ⟨D.gd,2,none⟩=some (.pointer (some ⟨D.gb,0,none⟩)):=(by
     obtain⟨_,_,hc2⟩:=HB.out.i.ds.cell;exact (Zaa hc2.1 2).trans rfl)
    by_cases e0:kd=0
    ·have HFX:Zrw (Zii D.V t (x1,x2)=(D.V.int x2 t).map fun c=>(x1,c)):=⟨by unfold Zii;rw[if_pos (HKD.out▸e0)]⟩
     subst e0;have HI:Zrw (∀W',Below (wr.alloc (.cells #[.int .i64 x1,.int .i64 x2] 90)).heap.size (wr.alloc (.cells #[.int .i64 x1,.int .i64 x2] 90)) W'→Calls Tryz.prog 82 #[.pointer (some ⟨D.gb,0,none⟩),.int .i64 x2,.int .i64 t] W' (Zof W' (D.V.int x2 t))):=⟨fun W' hW=>int_call W' D.gb D.G D.M D.φ ((VR.of HK.out HB.out.i.ds).below hW) HK.out.ok x2 t⟩
     have HVL:=Zrw.mk ((HK.out.v.int x2 t).1);rw[HFX.out]at HF;clear HFX;generalize D.V.int x2 t=l at *
     go_wp2_with fail
     generalize wr.alloc (.cells #[.int .i64 x1,.int .i64 x2] 90)=X at *;generalize wr.heap.size=bx at *
     go_region_law (first | (go_simp;go_at_call 82;(with_reducible refine (HI.out _ (by repeat (first | exact Zbr | refine Zag ?_ _ | refine Zdm ?_ | refine Zao ?_))).mono ?_);rintro e5 w5 ⟨v5,rfl,hr5,hb5⟩;have HB5:=Zrw.mk (HB.out.below (Zae (w:=X) (by repeat (first | exact Zbr | refine Zag ?_ _ | refine Zdm ?_ | refine Zao ?_)) hb5));obtain⟨A5,c5,rfl,_⟩:=Kd.R_reads hr5;have HR5:=Zrw.mk hr5;clear hr5 hb5) | fail)
     all_goals (
      go_simp;clear HI y1 yv p0 p1;go_wp2
      go_loopw [7,73] (fun out ix wr2=>∃(k:Nat) (vo2:Value) (o2:List (Int × Int)),k≤l.length∧out=vo2∧ix=.int .i64 k∧Zrw (StepB D ok W s (.slice (some ⟨g,0,none⟩) row.length cr) row bx (x1,x2) wr2 vo2 o2∧o2++((l.map fun c=>(x1,c)).drop k++T)=total∧∃b5,(Kd.int .i64).R 3 wr2 b5 (fun _=>True) (.slice A5 l.length c5) (l))) (fun _ ix _=>l.length-(intOf ix).toNat)
      case atStart=>exact⟨0,_,_,by omega,rfl,rfl,⟨HB5.out,HF.out,_,HR5.out⟩⟩
      case round=>
       obtain⟨k,vo2,o2,hkl,hv2,rfl,HS2⟩:=hrel;obtain rfl:=hv2.symm;clear hv2;by_cases hkn:k<l.length
       ·obtain⟨b5,hr6⟩:=HS2.out.2.2;obtain⟨g5,rfl,p5⟩:=Zfz hr6 k hkn;have HR6:=Zrw.mk hr6;have y0:wr.cell? ⟨bx,0,none⟩=some (.int .i64 x1):=(Zaa HS2.out.1.box 0).trans rfl;have HLEN:=Zrw.mk (Zjr HS2.out.2.1 HTOT.out.1);have HF2:Zrw (o2++[(x1,l[k])]++((l.map fun c=>(x1,c)).drop (k+1)++T)=total):=⟨by
         have:=HS2.out.2.1;rw[Zhb (show k<(l.map fun c=>(x1,c)).length by rw[List.length_map];exact hkn),List.getElem_map]at this;simpa using this⟩
        generalize l[k]=cc at p5 HF2;clear hr6
        go_wp2_with ((with_reducible refine Zal (b:=.append) (xs:=#[.tmp 77,.tmp 82]) rfl ?_);at_builtin;refine Zle (w0:=D.w0) D.b0 rfl (.tmp 77) (.tmp 82) rfl vo2 o2 (x1,cc) _ rfl rfl ?hg HS2.out.1.i.own HS2.out.1.i.ds.bel HS2.out.1.i.ds.bel.size (by have:=HLEN.out;omega) ?_;(case hg=>simp);intro v7 w7 ho7 hb7 hg7 hat7;have HB7:=Zrw.mk (HS2.out.1.push ho7 hb7 hg7 hat7);have HR7:=Zrw.mk (Zfy HR6.out HS2.out.1.i.own hg7);clear ho7 hb7 hg7 hat7)
        have hw:=Zej hkn (Nat.le_trans HVL.out (by decide));have HKN:=Zrw.mk hkn
        go_roundw
        case rel=>exact⟨k+1,_,_,HKN.out,rfl,by rw[hw],⟨HB7.out,HF2.out,_,HR7.out⟩⟩
        case measure=>rw[hw];simp only[intOf];exact Zds HKN.out
       ·obtain hke:k=l.length:=by omega
        have HO:Zrw (o2++T=total):=⟨by have:=HS2.out.2.1;rw[List.drop_eq_nil_of_le (by rw[List.length_map];omega),List.nil_append]at this;exact this⟩
        have hd:decide (k<l.length)=false:=decide_eq_false hkn;go_wp2
        have hw:=Zej HJN.out (Nat.le_trans HRL.out (by decide))
        go_roundw
        case rel=>exact⟨j+1,_,o2,HJN.out,rfl,by rw[hw],⟨HS2.out.1.i,by rw[←HTT.out];exact HO.out⟩⟩
        case measure=>rw[hw];simp only[intOf];exact Zds HJN.out)
    ·by_cases e1:kd=1
     ·have HFX:Zrw (Zii D.V t (x1,x2)=(D.V.call x2 t).map fun c=>(c.1,c.1)):=⟨by unfold Zii;rw[if_neg (HKD.out▸e0),if_pos (HKD.out▸e1)]⟩
      subst e1;have n0:((1:Int)==0)=false:=by decide
      clear e0;have HI:=Zrw.mk (call_c D HK.out (okS ok W vo) (wr.alloc (.cells #[.int .i64 x1,.int .i64 x2] 90)) s.L s HB.out.i.ds x2 t HX64.out HT64.out);have HVL:=Zrw.mk ((HK.out.v.call x2 t).1);rw[HFX.out]at HF;clear HFX
      go_wp2_with (go_at_call 83;(with_reducible refine HI.out.mono ?_);rintro e5 w5 ⟨v5,rfl,hd5,hr5,ho5⟩;have HB5:=Zrw.mk (HB.out.one hd5 ho5);obtain⟨A5,c5,rfl,_⟩:=Kd.R_reads hr5;have HR5:=Zrw.mk (HB.out.i.fresh hr5);refine Hid.out ?_)
      refine Lib.hid ?_
      clear hd5 hr5 ho5 HI y1 yv p0 p1;generalize wr.heap.size=bx at *;go_wp2
      go_loopw [7,93] (fun out ix wr2=>∃(k:Nat) (vo2:Value) (o2:List (Int × Int)),k≤(D.V.call x2 t).length∧out=vo2∧ix=.int .i64 k∧Zrw (StepB D ok W s (.slice (some ⟨g,0,none⟩) row.length cr) row bx (x1,x2) wr2 vo2 o2∧o2++(((D.V.call x2 t).map fun c=>(c.1,c.1)).drop k++T)=total∧kP.R 90 wr2 D.b0 (okS ok W vo2) (.slice A5 (D.V.call x2 t).length c5) (D.V.call x2 t))) (fun _ ix _=>(D.V.call x2 t).length-(intOf ix).toNat)
      case atStart=>exact⟨0,_,_,by omega,rfl,rfl,⟨HB5.out,HF.out,HR5.out⟩⟩
      case round=>
       obtain⟨k,vo2,o2,hkl,hv2,rfl,HS2⟩:=hrel;obtain rfl:=hv2.symm;clear hv2;by_cases hkn:k<(D.V.call x2 t).length
       ·obtain⟨g5,rfl⟩:∃g5,A5=some ⟨g5,0,none⟩:=by
         rcases (Zcl HS2.out.2.2).2 with⟨he,hz⟩ | ⟨g,cap,cur,he,_⟩
         ·omega
         ·injection he with he;exact⟨g,he⟩
        obtain⟨p5,p6⟩:=(Zcl HS2.out.2.2).at k hkn;have HLEN:=Zrw.mk (Zjr HS2.out.2.1 HTOT.out.1);have HF2:Zrw (o2++[((rdP (D.V.call x2 t) k).1,(rdP (D.V.call x2 t) k).1)]++(((D.V.call x2 t).map fun c=>(c.1,c.1)).drop (k+1)++T)=total):=⟨by
         have:=HS2.out.2.1;rw[Zhb (show k<((D.V.call x2 t).map fun c=>(c.1,c.1)).length by rw[List.length_map];exact hkn),List.getElem_map,←Zhm hkn]at this;simpa using this⟩
        generalize rdP (D.V.call x2 t) k=y at *;generalize D.V.call x2 t=l at *;obtain⟨z1,z2⟩:=y;simp only at p5 p6 HF2;have HB6:=Zrw.mk (HS2.out.1.below (Zab Zbr (.cells #[.int .i64 z1,.int .i64 z2] 90)));have HR6:=Zrw.mk (Kd.R_below HS2.out.2.2 (Zab Zbr (.cells #[.int .i64 z1,.int .i64 z2] 90)))
        go_wp2_with ((with_reducible refine Zal (b:=.append) (xs:=#[.tmp 97,.tmp 103]) rfl ?_);at_builtin;refine Zle (w0:=D.w0) D.b0 rfl (.tmp 97) (.tmp 103) rfl vo2 o2 (z1,z1) _ rfl rfl ?hg HB6.out.i.own HB6.out.i.ds.bel HB6.out.i.ds.bel.size (by have:=HLEN.out;omega) ?_;(case hg=>simp);intro v7 w7 ho7 hb7 hg7 hat7;have HB7:=Zrw.mk (HB6.out.push ho7 hb7 hg7 hat7);have HR7:=Zrw.mk (HB6.out.i.pairs HR6.out hg7 hat7);clear ho7 hb7 hg7 hat7)
        have hw:=Zej hkn (Nat.le_trans HVL.out (by decide));have HKN:=Zrw.mk hkn
        go_roundw
        case rel=>exact⟨k+1,_,_,HKN.out,rfl,by rw[hw],⟨HB7.out,HF2.out,HR7.out⟩⟩
        case measure=>rw[hw];simp only[intOf];exact Zds HKN.out
       ·obtain hke:k=(D.V.call x2 t).length:=by omega
        have HO:Zrw (o2++T=total):=⟨by have:=HS2.out.2.1;rw[List.drop_eq_nil_of_le (by rw[List.length_map];omega),List.nil_append]at this;exact this⟩
        have hd:decide (k<(D.V.call x2 t).length)=false:=decide_eq_false hkn;generalize D.V.call x2 t=l at *;go_wp2
        have hw:=Zej HJN.out (Nat.le_trans HRL.out (by decide))
        go_roundw
        case rel=>exact⟨j+1,_,o2,HJN.out,rfl,by rw[hw],⟨HS2.out.1.i,by rw[←HTT.out];exact HO.out⟩⟩
        case measure=>rw[hw];simp only[intOf];exact Zds HJN.out
     ·have HFX:Zrw (Zii D.V t (x1,x2)=(D.V.bot x2 t).map fun c=>(x1,c)):=⟨by unfold Zii;rw[if_neg (HKD.out▸e0),if_neg (HKD.out▸e1)]⟩
      have n0:(kd==0)=false:=by simpa using e0
      have n1:(kd==1)=false:=by simpa using e1
      clear e0 e1;have HI:Zrw (∀W',Below (wr.alloc (.cells #[.int .i64 x1,.int .i64 x2] 90)).heap.size (wr.alloc (.cells #[.int .i64 x1,.int .i64 x2] 90)) W'→Calls Tryz.prog 84 #[.pointer (some ⟨D.gb,0,none⟩),.int .i64 x2,.int .i64 t] W' (Zof W' (D.V.bot x2 t))):=⟨fun W' hW=>Zrs W' D.gb D.G D.M D.φ ((VR.of HK.out HB.out.i.ds).below hW) x2 t⟩
      have HVL:=Zrw.mk ((HK.out.v.bot x2 t).1);rw[HFX.out]at HF;clear HFX;generalize D.V.bot x2 t=l at *
      go_wp2_with fail
      generalize wr.alloc (.cells #[.int .i64 x1,.int .i64 x2] 90)=X at *;generalize wr.heap.size=bx at *
      go_region_law (first | (go_simp;go_at_call 84;(with_reducible refine (HI.out _ (by repeat (first | exact Zbr | refine Zag ?_ _ | refine Zdm ?_ | refine Zao ?_))).mono ?_);rintro e5 w5 ⟨v5,rfl,hr5,hb5⟩;have HB5:=Zrw.mk (HB.out.below (Zae (w:=X) (by repeat (first | exact Zbr | refine Zag ?_ _ | refine Zdm ?_ | refine Zao ?_)) hb5));obtain⟨A5,c5,rfl,_⟩:=Kd.R_reads hr5;have HR5:=Zrw.mk hr5;clear hr5 hb5) | fail)
      all_goals (
       go_simp;clear HI y1 yv p0 p1;go_wp2
       go_loopw [7,50] (fun out ix wr2=>∃(k:Nat) (vo2:Value) (o2:List (Int × Int)),k≤l.length∧out=vo2∧ix=.int .i64 k∧Zrw (StepB D ok W s (.slice (some ⟨g,0,none⟩) row.length cr) row bx (x1,x2) wr2 vo2 o2∧o2++((l.map fun c=>(x1,c)).drop k++T)=total∧∃b5,(Kd.int .i64).R 3 wr2 b5 (fun _=>True) (.slice A5 l.length c5) (l))) (fun _ ix _=>l.length-(intOf ix).toNat)
       case atStart=>exact⟨0,_,_,by omega,rfl,rfl,⟨HB5.out,HF.out,_,HR5.out⟩⟩
       case round=>
        obtain⟨k,vo2,o2,hkl,hv2,rfl,HS2⟩:=hrel;obtain rfl:=hv2.symm;clear hv2;by_cases hkn:k<l.length
        ·obtain⟨b5,hr6⟩:=HS2.out.2.2;obtain⟨g5,rfl,p5⟩:=Zfz hr6 k hkn;have HR6:=Zrw.mk hr6;have y0:wr.cell? ⟨bx,0,none⟩=some (.int .i64 x1):=(Zaa HS2.out.1.box 0).trans rfl;have HLEN:=Zrw.mk (Zjr HS2.out.2.1 HTOT.out.1);have HF2:Zrw (o2++[(x1,l[k])]++((l.map fun c=>(x1,c)).drop (k+1)++T)=total):=⟨by
          have:=HS2.out.2.1;rw[Zhb (show k<(l.map fun c=>(x1,c)).length by rw[List.length_map];exact hkn),List.getElem_map]at this;simpa using this⟩
         generalize l[k]=cc at p5 HF2;clear hr6
         go_wp2_with ((with_reducible refine Zal (b:=.append) (xs:=#[.tmp 54,.tmp 59]) rfl ?_);at_builtin;refine Zle (w0:=D.w0) D.b0 rfl (.tmp 54) (.tmp 59) rfl vo2 o2 (x1,cc) _ rfl rfl ?hg HS2.out.1.i.own HS2.out.1.i.ds.bel HS2.out.1.i.ds.bel.size (by have:=HLEN.out;omega) ?_;(case hg=>simp);intro v7 w7 ho7 hb7 hg7 hat7;have HB7:=Zrw.mk (HS2.out.1.push ho7 hb7 hg7 hat7);have HR7:=Zrw.mk (Zfy HR6.out HS2.out.1.i.own hg7);clear ho7 hb7 hg7 hat7)
         have hw:=Zej hkn (Nat.le_trans HVL.out (by decide));have HKN:=Zrw.mk hkn
         go_roundw
         case rel=>exact⟨k+1,_,_,HKN.out,rfl,by rw[hw],⟨HB7.out,HF2.out,_,HR7.out⟩⟩
         case measure=>rw[hw];simp only[intOf];exact Zds HKN.out
        ·obtain hke:k=l.length:=by omega
         have HO:Zrw (o2++T=total):=⟨by have:=HS2.out.2.1;rw[List.drop_eq_nil_of_le (by rw[List.length_map];omega),List.nil_append]at this;exact this⟩
         have hd:decide (k<l.length)=false:=decide_eq_false hkn;go_wp2
         have hw:=Zej HJN.out (Nat.le_trans HRL.out (by decide))
         go_roundw
         case rel=>exact⟨j+1,_,o2,HJN.out,rfl,by rw[hw],⟨HS2.out.1.i,by rw[←HTT.out];exact HO.out⟩⟩
         case measure=>rw[hw];simp only[intOf];exact Zds HJN.out)
   ·obtain rfl:j=row.length:=by omega
    have HO:Zrw (StepI D ok W s (.slice Ar row.length cr) row wr vo total):=⟨by have:=HS.out.2;rw[List.drop_length,List.flatMap_nil,List.append_nil]at this;rw[←this];exact HS.out.1⟩
    go_wp2_with (go_at_call 42;(with_reducible refine (HNUM.out _ _ HO.out).mono ?_);rintro e1 w1 ⟨rfl,hn1⟩;have HN1:=Zrw.mk hn1;clear hn1)
    go_ret
    exact⟨rfl,HN1.out.ds,HO.out.same.trans HN1.out.same,Nat.le_trans HO.out.size HN1.out.size⟩
end Go.Proofs.YtaokkliamoghbaaGreatDoor.PVpa
set_option linter.unusedVariables false
set_option linter.unusedSimpArgs false
namespace Go.Proofs.YtaokkliamoghbaaGreatDoor.PVpa
open Go.RowKit Go.Proofs.YtaokkliamoghbaaGreatDoorW.PrintWords Go.Proofs.YtaokkliamoghbaaGreatDoorW.PrintLast Go.Proofs.YtaokkliamoghbaaGreatDoorW.PrintMore
open PDet (VM VOk Wf In Zbi toks number)
def Zqe (M:Value→Option Value)(a:Int):Value:=(M (.int .i64 a)).getD (.slice none 0 0)
def Zlm (l:List (Int × Int))(a:Int):List Int:=(l.filter fun z=>z.1==a).map (·.2)
theorem insL_snoc (l:List (Int × Int))(x:Int × Int)(a:Int):Zlm (l++[x]) a=if x.1=a then Zlm l a++[x.2]else Zlm l a:=by
 unfold Zlm;rw[List.filter_append,List.map_append];by_cases h:x.1=a
 ·simp[h]
 ·simp[h]
structure InM (W:World)(bi base:Nat)(M:Value→Option Value)(l:List (Int × Int)):Prop where
 map:W.mapIs Tryz.prog 3 bi M
 rows:∀a,(Kd.int .i64).R 3 W base (fun _=>True) (Zqe M a) (Zlm l a)
 ne:∀a b,a≠b→Zqb (Zqe M a) (Zqe M b)
section
variable {W W1 W2:World}{bi base:Nat}{M M':Value→Option Value}{l:List (Int × Int)}
theorem InM.same (h:InM W bi base M l)(hs:Same3 W W1)(hb:W1.heap[bi]?=W.heap[bi]?):InM W1 bi base M l:=
 ⟨h.map.kept hb,fun a=>Zei (h.rows a) (fun k h1 _ _ ⟨q,hq,cells,hc⟩=>⟨h1,by
  have e2:q=3:=by
   rcases List.mem_cons.1 hq with hq | hq
   ·exact hq
   ·cases hq
  rw[e2]at hc;exact hs k cells hc⟩),h.ne⟩
theorem InM.below (h:InM W bi base M l)(hb:Below W.heap.size W W1):InM W1 bi base M l:=h.same (Same3.below hb) (hb.block _ h.map.lt)
theorem InM.push (h:InM W bi base M l){x:Int × Int}{v1:Value}(hr:(Kd.int .i64).R 3 W1 base (fun _=>True) v1 (Zlm l x.1++[x.2]))(hg:W.grownBy W1 (Zqe M x.1).ownBlock)(hat:v1.ownBlock=(Zqe M x.1).ownBlock∨∃b,v1.ownBlock=some b∧W.heap.size≤b)
 (hm:W2.mapIs Tryz.prog 3 bi M') (hg2:W1.grownBy W2 (some bi)) (h1:M' (.int .i64 x.1)=some v1) (h2:∀y,y≠.int .i64 x.1→M' y=M y) (hM1:W1.mapIs Tryz.prog 3 bi M):InM W2 bi base M' (l++[x]):=by
 have g0:Zqe M' x.1=v1:=by unfold Zqe;rw[h1];rfl
 have g1:∀a,a≠x.1→Zqe M' a=Zqe M a:=fun a ha=>by unfold Zqe;rw[h2 _ (by intro e;injection e with _ e;exact ha e)]
 have hs2:Same3 W1 W2:=Same3.one (.of_grown hg2) hM1;have old:∀a,a≠x.1→(Kd.int .i64).R 3 W1 base (fun _=>True) (Zqe M a) (Zlm l a):=fun a ha=>
  (Kd.R_of_own (Zci (Kd.own_of_R (h.rows a)) (fun k hk=>hg.block k (Zdb (Kd.own_of_R (h.rows a)) k hk) (fun e=>h.ne a x.1 ha k hk e.symm))) (fun _ _=>trivial))
 have to2:∀{v:Value} {q:List Int},(Kd.int .i64).R 3 W1 base (fun _=>True) v q→(Kd.int .i64).R 3 W2 base (fun _=>True) v q:=fun hq=>Kd.R_of_own (Zci (Kd.own_of_R hq) (fun k hk=>by
  obtain⟨cells,hc⟩:=Zaq (Kd.own_of_R hq) k hk;exact hs2 k cells hc)) (fun _ _=>trivial)
 have nv:∀a,a≠x.1→Zqb v1 (Zqe M a):=fun a ha=>Zpd (h.ne x.1 a (Ne.symm ha)) hat (Kd.own_of_R (h.rows a))
 refine⟨hm,fun a=>?_,fun a b hab=>?_⟩
 ·rw[insL_snoc];by_cases ha:x.1=a
  ·rw[if_pos ha,←ha,g0];exact to2 hr
  ·rw[if_neg ha,g1 a (Ne.symm ha)];exact to2 (old a (Ne.symm ha))
 ·by_cases ha:a=x.1
  ·rw[ha,g0,g1 b (fun e=>hab (ha.trans e.symm))];exact nv b (fun e=>hab (ha.trans e.symm))
  ·by_cases hb:b=x.1
   ·rw[hb,g0,g1 a ha];exact ne_symm (nv a ha)
   ·rw[g1 a ha,g1 b hb];exact h.ne a b hab
end
structure StepX (D:DK)(ok:Nat→Prop)(W0:World)(s:PDet.St)(vrow:Value)(row:List (Int × Int))(bi:Nat)(bs:List (Nat × Int × Int))(W:World)(vo:Value)(o:List (Int × Int)):Prop where
 i:StepI D ok W0 s vrow row W vo o
 bi:W.heap[bi]?=W0.heap[bi]?
 box:∀e∈bs,W.heap[e.1]?=some (.cells #[.int .i64 e.2.1,.int .i64 e.2.2] 90 (0,0))∧vo.ownBlock≠some e.1
section
variable {D:DK}{ok:Nat→Prop}{W0 W W1:World}{s:PDet.St}{vrow vo v1:Value}{row o:List (Int × Int)}{bi:Nat}{bs:List (Nat × Int × Int)}
theorem StepX.below (h:StepX D ok W0 s vrow row bi bs W vo o)(hi:bi<W0.heap.size)(hb:Below W.heap.size W W1):StepX D ok W0 s vrow row bi bs W1 vo o:=
 ⟨h.i.below hb,(hb.block _ (Nat.lt_of_lt_of_le hi h.i.size)).trans h.bi,fun e he=>⟨Zaf (h.box e he).1 hb,(h.box e he).2⟩⟩
theorem StepX.new (h:StepX D ok W0 s vrow row bi bs W vo o)(hi:bi<W0.heap.size)(x:Int × Int):StepX D ok W0 s vrow row bi ((W.heap.size,x) :: bs) (W.alloc (.cells #[.int .i64 x.1,.int .i64 x.2] 90)) vo o:=by
 have h2:=h.below hi (Zab (Below.refl _ W) (.cells #[.int .i64 x.1,.int .i64 x.2] 90));refine⟨h2.i,h2.bi,fun e he=>?_⟩
 rcases List.mem_cons.1 he with rfl | he
 ·exact⟨Zaj _ _,fun e=>by have:=Zdb h.i.own _ e;omega⟩
 ·exact h2.box e he
theorem StepX.less (h:StepX D ok W0 s vrow row bi bs W vo o){bs':List (Nat × Int × Int)}(hs:∀e∈bs',e∈bs):StepX D ok W0 s vrow row bi bs' W vo o:=⟨h.i,h.bi,fun e he=>h.box e (hs e he)⟩
theorem StepX.push (h:StepX D ok W0 s vrow row bi bs W vo o){M:Value→Option Value}{kt:TypeId}(hM:W0.mapIs Tryz.prog kt bi M){o':List (Int × Int)}(HO:OwnP W1 D.b0 v1 o')(hb:Below D.b0 D.w0 W1)(hg:W.grownBy W1 vo.ownBlock)(hat:v1.ownBlock=vo.ownBlock∨∃b,v1.ownBlock=some b∧W.heap.size≤b):StepX D ok W0 s vrow row bi bs W1 v1 o':=by
 refine⟨h.i.push HO hb hg hat,(hg.block bi (Nat.lt_of_lt_of_le hM.lt h.i.size) (fun e=>?_)).trans h.bi,fun e he=>⟨Zat (h.box e he).1 hg (fun e2=>(h.box e he).2 e2.symm),?_⟩⟩
 ·obtain⟨c,hc⟩:=Zaq h.i.own bi e.symm;exact Zbm (hM.kept h.bi) hc rfl
 ·rcases hat with e1 | ⟨b,e1,hb2⟩
  ·rw[e1];exact (h.box e he).2
  ·rw[e1];intro e2;injection e2 with e2;have:=Zau (h.box e he).1;omega
theorem StepX.one (h:StepX D ok W0 s vrow row bi bs W vo o){b:Nat}{M:Value→Option Value}{kt:TypeId}(hM:W.mapIs Tryz.prog kt b M)(hi:bi<W0.heap.size)(hne:bi≠b)(hd:DS D (okN (okS ok W0 vo) W) W1 s.L s)(ho:OneBlk b W W1):StepX D ok W0 s vrow row bi bs W1 vo o:=by
 have hok:∀k,okN (okS ok W0 vo) W k→okS ok W0 vo k:=fun k hk=>by
  rcases hk with hk | hk
  ·exact hk
  ·exact⟨.inr (Nat.le_trans h.i.size hk),fun e=>by have:=Zdb h.i.own k e;omega⟩
 refine⟨⟨hd.mono (fun k hk _=>hok k hk),Zci h.i.own (fun k hk=>?_),h.i.new,Zei h.i.row (fun k h1 _ h2 ⟨_,_,_,hc⟩=>⟨h1,ho.blk k h2 (Zbm hM hc)⟩),h.i.same.trans (Same3.one ho hM),Nat.le_trans h.i.size ho.size⟩,(ho.blk bi (Nat.lt_of_lt_of_le hi h.i.size) hne).trans h.bi,fun e he=>⟨(ho.blk _ (Zau (h.box e he).1) (Zbm hM (h.box e he).1)).trans (h.box e he).1,(h.box e he).2⟩⟩;obtain⟨c,hc⟩:=Zaq h.i.own k hk;exact ho.blk k (Zau hc) (Zbm hM hc)
end
end Go.Proofs.YtaokkliamoghbaaGreatDoor.PVpa
