/- Joined from texts of this seat, in their order. -/
import Derived.Test.YtaokkliamoghbaaGreatDoorJAd
import Derived.Test.YtaokkliamoghbaaGreatDoorProg
import Derived.Test.YtaokkliamoghbaaGreatDoorJAa
import Derived.Test.YtaokkliamoghbaaGreatDoorJAc
import Derived.Test.YtaokkliamoghbaaGreatDoorJAe
import Derived.Test.YtaokkliamoghbaaGreatDoorChecked
import Derived.Shelf.SlGeneric
import Derived.Shelf.Strconv.AppendIntPublic10
import Derived.Lib.ItoaNum
import Derived.Lib.ItoaLen
import Derived.Laws.IdiomStrings
import Derived.Maps.OwnSet
import Derived.WalkKit
import Derived.Maps.Keyed
import Derived.DeepKeys4
set_option linter.unusedVariables false
set_option linter.unusedSimpArgs false
set_option linter.unusedSectionVars false
set_option maxRecDepth 100000
namespace Go.Proofs.YtaokkliamoghbaaGreatDoor.PVpa
open Go.RowKit Go.Proofs.YtaokkliamoghbaaGreatDoorW.PrintWords Go.Proofs.YtaokkliamoghbaaGreatDoorW.PrintLast Go.Proofs.YtaokkliamoghbaaGreatDoorW.PrintMore
open Go.Shelf
open Go.Sort (grow putRow Holds flatK HoldsK putRowK SWO pdq pdq_sorts sorted_unique_holds)
set_option maxHeartbeats 1000000 in
theorem closure77 (x y:Int × Int)(W:World):Calls Tryz.prog 77 #[.agg #[.int .i64 x.1,.int .i64 x.2],.agg #[.int .i64 y.1,.int .i64 y.2]] W fun e w'=>e=.returned (.int .i64 (cmpP x y))∧∃q os',w'=grow (W.drewN q) os':=by
 unfold cmpP;obtain⟨x1,x2⟩:=x;obtain⟨y1,y2⟩:=y;show Calls Tryz.prog 77 #[.agg #[.int .i64 x1,.int .i64 x2],.agg #[.int .i64 y1,.int .i64 y2]] W fun e w'=>e=.returned (.int .i64 (orV (Lib.compareInt x1 y1) (Lib.compareInt x2 y2)))∧∃q os',w'=grow (W.drewN q) os'
 go_enter Tryz.func77,Tryz.ntmps77
 go_wp2_with fail
 obtain⟨X,hX⟩:∃X,X=(W.alloc (.cells #[.int .i64 x1,.int .i64 x2] 90)).alloc (.cells #[.int .i64 y1,.int .i64 y2] 90):=⟨_,rfl⟩
 have c0:X.cell? ⟨W.heap.size,0,none⟩=some (.int .i64 x1):=by rw[hX];go_simp
 have c1:X.cell? ⟨W.heap.size,1,none⟩=some (.int .i64 x2):=by rw[hX];go_simp
 have c2:X.cell? ⟨W.heap.size+1,0,none⟩=some (.int .i64 y1):=by rw[hX];go_simp
 have c3:X.cell? ⟨W.heap.size+1,1,none⟩=some (.int .i64 y2):=by rw[hX];go_simp
 rw[←hX];have HX:=Zrw.mk hX;clear hX;refine Zet 10 (by kernel_rfl) (by kernel_rfl) ?_
 simp only[List.take_succ_cons,List.take_zero,List.drop_succ_cons,List.drop_zero]
 repeat (first | still_step | (refine wpStill_step (fun K hK=>?_);go_simp;refine⟨_,Znx _ _ _,hK _ ?_⟩;clear hK K))
 refine wpStill_nil ?_
 go_wp2_with (go_at_call 78;(with_reducible refine (or_call X.heap.size (Lib.compareInt x1 y1) (Lib.compareInt x2 y2) _ ?h0 ?h1).mono ?_);(case h0=>go_simp);(case h1=>go_simp);rintro e w3 ⟨rfl,rfl⟩)
 go_ret
 refine⟨rfl,1,#[.cells #[.int .i64 x1,.int .i64 x2] 90 (0,0),.cells #[.int .i64 y1,.int .i64 y2] 90 (0,0),.cells #[.int .i64 (Lib.compareInt x1 y1),.int .i64 (Lib.compareInt x2 y2)] 3 (0,0)],?_⟩;rw[HX.out]
 rfl
theorem Zjh (n:Nat)(h:n<4611686018427387904)(w:World):Calls Tryz.prog 98 #[.int .u64 (n:Int)] w fun e w'=>e=.returned (.int .i64 (Lib.bitLen n:Nat))∧w'=w:=by
 have h:=Any.bits_Len (SlLaysF0.n15.bits (P:=Tryz.prog) (ρ:=Tryz.sortP_ren) { Tryz.sortP with }) (n:Int) w (by omega) (by omega);rw[Int.toNat_natCast]at h;exact h
set_option maxHeartbeats 1000000 in
theorem sortD_none (p:Option Addr)(cap:Nat)(fv:Value)(w:World):Calls Tryz.prog 76 #[.slice p 0 cap,fv] w fun e w'=>e=.returned (.tuple #[])∧w'=w:=by
 have hp:=fun lim W=>AnyF.pdqsortCmpFunc_none (P:=Tryz.prog) (ρ:=Tryz.sortP_ren) { Tryz.sortP with } p cap lim fv W
 have hp':∀lim W,Calls Tryz.prog 97 #[.slice p 0 cap,.int .i64 0,.int .i64 0,.int .i64 lim,fv] W fun e w'=>e=.returned (.tuple #[])∧w'=W:=hp
 have HL:Zrw (∀W,Calls Tryz.prog 98 #[.int .u64 0] W fun e w'=>e=.returned (.int .i64 (Lib.bitLen 0:Nat))∧w'=W):=⟨fun W=>Zjh 0 (by omega) W⟩
 have HP:=Zrw.mk hp';clear hp hp'
 go_enter Tryz.func76,Tryz.ntmps76
 go_wp2_with (first | (go_at_call 98;(with_reducible refine (HL.out _).mono ?_);rintro e w1 ⟨rfl,rfl⟩) | (go_at_call 97;(with_reducible refine (HP.out _ _).mono ?_);rintro e w1 ⟨rfl,rfl⟩))
 go_end0
 exact⟨rfl,rfl⟩
set_option maxHeartbeats 1000000 in
theorem Zql (g cap:Nat)(d:Array (Int × Int))(w:World)(hH:HoldsK Zjd 2 w g 0 d)(hlt:g<w.heap.size)(hsz:d.size<4611686018427387904) :
 Calls Tryz.prog 76 #[.slice (some ⟨g,0,none⟩) d.size cap,.func (.func 77) #[] #[]] w fun e w'=>e=.returned (.tuple #[])∧∃n os,w'=sortWorldK Zjd 2 w g 0 n (d.toList.mergeSort fun x y=>!ltP y x).toArray os:=by
 have eg:∀args w,(callFunc 77 args).run Tryz.prog w=.ok (.enter 77 args) w:=enters_of Tryz.func77 (by kernel_rfl) rfl;have hlim:Lib.bitLen d.size<4611686018427387904:=Nat.lt_of_le_of_lt (Lib.bitLen_le d.size 62 (by omega) (by omega)) (by omega);have hp:=AnyQ.pdqsortCmpFunc_all (P:=Tryz.prog) (ρ:=Tryz.sortP_ren) { Tryz.sortP with } 2 (fun w=>by kernel_rfl) (fun w=>by kernel_rfl) Zjd cmpP 77 #[] swoP g 0 cap d w eg (fun _ _ _ _ x y=>closure77 x y _) ⟨fun _=>rfl,fun x v hv=>by simp[Zjd]at hv;rcases hv with rfl | rfl <;> rfl,hH,hlt⟩ (d.size+1) 0 d.size (Lib.bitLen d.size) d w (by omega) rfl (SWK.start hH) (Nat.zero_le _) (Nat.le_refl _) hsz hlim (Or.inl rfl);have hp':Calls Tryz.prog 97 #[.slice (some ⟨g,0,none⟩) d.size cap,.int .i64 0,.int .i64 d.size,.int .i64 (Lib.bitLen d.size:Nat),.func (.func 77) #[] #[]] w fun e w'=>e=.returned (.tuple #[])∧∃n os,w'=sortWorldK Zjd 2 w g 0 n (pdq (ltOf cmpP) d 0 d.size (Lib.bitLen d.size) true true) os:=hp.mono (fun e w' ⟨he,n,os,hw⟩=>⟨he,n,os,hw⟩)
 have HL:=Zrw.mk (Zjh d.size hsz w);have HP:=Zrw.mk hp';have wr:IntKind.u64.wrap (d.size:Int)=d.size:=by simp[IntKind.wrap,IntKind.bits,IntKind.signed];omega
 have HS:Zrw (∀d',d'=pdq (ltOf cmpP) d 0 d.size (Lib.bitLen d.size) true true→d'=(d.toList.mergeSort fun x y=>!ltP y x).toArray):=⟨fun d' hd=>by
  have h:=pdq_sorts (ltOf cmpP) swoP d 0 d.size (Lib.bitLen d.size) true true (Nat.zero_le _) (Nat.le_refl _) (Or.inl rfl);rw[hd,←Zfw];refine Array.ext' ?_
  rw[List.toList_toArray];refine (sorted_unique_holds swoP (fun x y h1 h2=>?_) d _ h.1 h.2);rw[Zfw]at h1 h2;unfold ltP at h1 h2;simp at h1 h2;apply Prod.ext <;> omega⟩
 generalize pdq (ltOf cmpP) d 0 d.size (Lib.bitLen d.size) true true=d' at HP HS;have HS2:=Zrw.mk (HS.out d' rfl);generalize Lib.bitLen d.size=bl at *;clear hp hp' hlim hH HS
 go_enter Tryz.func76,Tryz.ntmps76
 go_wp2_with (first | (go_at_call 98;(with_reducible refine HL.out.mono ?_);rintro e w1 ⟨rfl,hw⟩;obtain rfl:=hw.symm;clear hw) | (go_at_call 97;(with_reducible refine HP.out.mono ?_);rintro e w1 ⟨rfl,n,os,hw⟩;have HW:=Zrw.mk hw;clear hw))
 go_end0
 exact⟨rfl,n,os,by rw[HW.out,HS2.out]⟩
theorem sortD_call (w0 w:World)(v:Value)(l:List (Int × Int))(hB:Below w0.heap.size w0 w)(h:OwnP w w0.heap.size v l)(hl:l.length≤1152921504606846976) :
 Calls Tryz.prog 76 #[v,.func (.func 77) #[] #[]] w fun e w'=>e=.returned (.tuple #[])∧OwnP w' w0.heap.size v (sortP l)∧Below w0.heap.size w0 w'∧Kept w w' (fun k=>v.ownBlock=some k):=by
 by_cases hv:v=.slice none 0 0
 ·subst hv;have hl0:l=[]:=by
   obtain⟨A,c,he,_⟩:=h.slice;injection he with _ he _
   exact List.length_eq_zero_iff.1 he.symm
  subst hl0;refine (sortD_none none 0 _ w).mono ?_
  rintro e w' ⟨rfl,rfl⟩;exact⟨rfl,by rw[show sortP []=[] by simp[sortP]];exact h,hB,Kept.refl _ _⟩
 ·obtain⟨g,cap,rfl,hg,hlt,hc,hm,hH⟩:=Zgm h hv;have hHK:HoldsK Zjd 2 w g 0 l.toArray:=by unfold HoldsK;rw[Zhy];exact hH
  have hcon:=Zql g cap l.toArray w hHK hlt (by simp;omega);refine hcon.mono ?_
  rintro e w' ⟨rfl,n,os,rfl⟩;have e1:sortWorldK Zjd 2 w g 0 n (l.toArray.toList.mergeSort fun x y=>!ltP y x).toArray os=grow (putRow id (Go.Sort.ahead w n) g 0 (Zbg (sortP l)).toArray) os:=by
   unfold sortWorldK putRowK;rw[show (l.toArray.toList.mergeSort fun x y=>!ltP y x)=sortP l from rfl,Zhy]
  rw[e1];have o1:=Zng (q:=n) (ys:=Zbg (sortP l)) h (by rw[Zbw,Zco]);have b1:=Lib.below_putRow (enc:=(id:Value→Value)) (d:=(Zbg (sortP l)).toArray) (q:=n) hB hg;have o2:=Zbx o1 (Zbv _ os);refine⟨rfl,by unfold OwnP;rw[Zco];exact o2,Zfb b1 b1.size (Zbv _ os),?_⟩;refine (Kept.trans_ (S:=fun k=>(Value.slice (some ⟨g,0,none⟩) l.length cap).ownBlock=some k) (w1:=putRow id (Go.Sort.ahead w n) g 0 (Zbg (sortP l)).toArray) ?_ ?_)
  ·refine⟨by simp[putRow,Go.Sort.mapBlock,Go.Sort.ahead],fun i hi hne=>?_⟩;have hne':g≠i:=fun he=>hne (by simp[Value.ownBlock,he])
   simp[putRow,Go.Sort.mapBlock,Go.Sort.ahead,Array.getElem?_modify,hne']
  ·exact⟨(Zbv _ os).size,fun i hi _=>(Zbv _ os).block i hi⟩
set_option maxHeartbeats 1000000 in
theorem normD_call (w0 w:World)(v:Value)(l:List (Int × Int))(hB:Below w0.heap.size w0 w)(h:OwnP w w0.heap.size v l)(hl:l.length≤1152921504606846976) :
 Calls Tryz.prog 61 #[v] w fun e w'=>∃v',e=.returned v'∧v'.ownBlock=v.ownBlock∧OwnP w' w0.heap.size v' (normP l)∧Below w0.heap.size w0 w'∧Kept w w' (fun k=>v.ownBlock=some k):=by
 have HS:=Zrw.mk (sortD_call w0 w v l hB h hl);have HC:=Zrw.mk (fun w1 b1 o1=>Znw w0 w1 v (sortP l) b1 o1 (by rw[Zco];exact hl));obtain⟨A,c,rfl,hc⟩:=h.slice;clear h hB hc hl
 go_enter Tryz.func61,Tryz.ntmps61
 go_wp2_with (first
  | (go_at_call 76;(with_reducible refine HS.out.mono ?_);rintro e w1 ⟨rfl,ho1,hb1,hk1⟩;have HO1:=Zrw.mk ho1;have HB1:=Zrw.mk hb1;have HK1:=Zrw.mk hk1;clear ho1 hb1 hk1)
  | (go_at_call 80;(with_reducible refine (HC.out _ HB1.out HO1.out).mono ?_);rintro e w2 ⟨v2,rfl,he2,ho2,hb2,hk2⟩;have HE2:=Zrw.mk he2;have HO2:=Zrw.mk ho2;have HB2:=Zrw.mk hb2;have HK2:=Zrw.mk hk2;clear he2 ho2 hb2 hk2))
 go_ret
 exact⟨_,rfl,HE2.out,HO2.out,HB2.out,Kept.trans_ HK1.out HK2.out⟩
end Go.Proofs.YtaokkliamoghbaaGreatDoor.PVpa
namespace Go.Proofs
open Go.Shelf
def Tryz.appInt_ren:Go.Shelf.Ren:=⟨fun | 176=>81 | 249=>100 | 288=>129 | 283=>153 | 284=>154 | 285=>155 | 286=>156 | 129=>128 | 317=>172 | 318=>173 | 319=>174 | 320=>175 | 337=>181 | 338=>182 | n=>n,fun | 37=>98 | 2=>2 | 3=>3 | 53=>183 | 4=>4 | 9=>9 | 171=>203 | 0=>0 | 173=>205 | 212=>220 | 51=>181 | 5=>5 | 20=>20 | 213=>221 | 46=>28 | 232=>234 | 233=>235 | n=>n,fun | 17=>1 | 18=>2 | 19=>3 | n=>n⟩
theorem Tryz.appInt:Go.Proofs.LaysM.n176 Tryz.prog Tryz.appInt_ren:={
 mixed:=by kernel_rfl
 f129:=Tryz.func128.trans (congrArg some (by kernel_rfl))
 f176:=Tryz.func81.trans (congrArg some (by kernel_rfl))
 f249:=Tryz.func100.trans (congrArg some (by kernel_rfl))
 f283:=Tryz.func153.trans (congrArg some (by kernel_rfl))
 f284:=Tryz.func154.trans (congrArg some (by kernel_rfl))
 f285:=Tryz.func155.trans (congrArg some (by kernel_rfl))
 f286:=Tryz.func156.trans (congrArg some (by kernel_rfl))
 f288:=Tryz.func129.trans (congrArg some (by kernel_rfl))
 f317:=Tryz.func172.trans (congrArg some (by kernel_rfl))
 f318:=Tryz.func173.trans (congrArg some (by kernel_rfl))
 f319:=Tryz.func174.trans (congrArg some (by kernel_rfl))
 f320:=Tryz.func175.trans (congrArg some (by kernel_rfl))
 f337:=Tryz.func181.trans (congrArg some (by kernel_rfl))
 f338:=Tryz.func182.trans (congrArg some (by kernel_rfl))
 t0:=Tryz.underlying0
 a0:=Tryz.isAgg0
 z0:=Tryz.sizeOf0
 v0:=Tryz.zeroValue0
 t2:=Tryz.underlying2
 a2:=Tryz.isAgg2
 z2:=Tryz.sizeOf2
 v2:=Tryz.zeroValue2
 t3:=Tryz.underlying3
 a3:=Tryz.isAgg3
 z3:=Tryz.sizeOf3
 v3:=Tryz.zeroValue3
 t4:=Tryz.underlying4
 a4:=Tryz.isAgg4
 z4:=Tryz.sizeOf4
 v4:=Tryz.zeroValue4
 t5:=Tryz.underlying5
 a5:=Tryz.isAgg5
 z5:=Tryz.sizeOf5
 v5:=Tryz.zeroValue5
 t9:=Tryz.underlying9
 a9:=Tryz.isAgg9
 z9:=Tryz.sizeOf9
 v9:=Tryz.zeroValue9
 t20:=Tryz.underlying20
 a20:=Tryz.isAgg20
 z20:=Tryz.sizeOf20
 v20:=Tryz.zeroValue20
 t37:=Tryz.underlying98
 a37:=Tryz.isAgg98
 z37:=Tryz.sizeOf98
 v37:=Tryz.zeroValue98
 t46:=Tryz.underlying28
 a46:=Tryz.isAgg28
 z46:=Tryz.sizeOf28
 v46:=Tryz.zeroValue28
 t51:=Tryz.underlying181
 a51:=Tryz.isAgg181
 z51:=Tryz.sizeOf181
 v51:=Tryz.zeroValue181
 t53:=Tryz.underlying183
 a53:=Tryz.isAgg183
 z53:=Tryz.sizeOf183
 v53:=Tryz.zeroValue183
 t171:=Tryz.underlying203
 a171:=Tryz.isAgg203
 z171:=Tryz.sizeOf203
 v171:=Tryz.zeroValue203
 t173:=Tryz.underlying205
 a173:=Tryz.isAgg205
 z173:=Tryz.sizeOf205
 v173:=Tryz.zeroValue205
 t212:=Tryz.underlying220
 a212:=Tryz.isAgg220
 z212:=Tryz.sizeOf220
 v212:=Tryz.zeroValue220
 t213:=Tryz.underlying221
 a213:=Tryz.isAgg221
 z213:=Tryz.sizeOf221
 t232:=Tryz.underlying234
 a232:=Tryz.isAgg234
 z232:=Tryz.sizeOf234
 v232:=Tryz.zeroValue234
 t233:=Tryz.underlying235
 a233:=Tryz.isAgg235
 z233:=Tryz.sizeOf235
 v233:=Tryz.zeroValue235
 g17:=by kernel_rfl
 g18:=by kernel_rfl
 g19:=by kernel_rfl
 i0:=by kernel_rfl
 i2:=by kernel_rfl
 i3:=by kernel_rfl
 i4:=by kernel_rfl
 i5:=by kernel_rfl
 i9:=by kernel_rfl
 i20:=by kernel_rfl
 i37:=by kernel_rfl
 i46:=by kernel_rfl
 i51:=by kernel_rfl
 i53:=by kernel_rfl
 i171:=by kernel_rfl
 i173:=by kernel_rfl
 i212:=by kernel_rfl
 i232:=by kernel_rfl
 i233:=by kernel_rfl
 m17:=by kernel_rfl
 m18:=by kernel_rfl
 m19:=by kernel_rfl }
end Go.Proofs
set_option linter.unusedVariables false
set_option linter.unusedSimpArgs false
namespace PDet
open Go.Lib
theorem Zkz:∀(n u:Nat),u≤n→∀c∈decDigits u,48≤c.toNat∧c.toNat≤57:=by
 intro n
 induction n with
 | zero=>
  intro u hu c hc;have:u=0:=by omega
  subst this;rw[decDigits,dif_pos (by omega)]at hc;rw[List.mem_singleton.1 hc]
  decide
 | succ n ih=>
  intro u hu c hc;have key:∀d,d<10→48≤(UInt8.ofNat (48+d)).toNat∧(UInt8.ofNat (48+d)).toNat≤57:=by
   intro d hd;rw[UInt8.toNat_ofNat'];omega
  rw[decDigits]at hc
  split at hc
  ·rename_i h
   rw[List.mem_singleton.1 hc];exact key u h
  ·rename_i h
   rcases List.mem_append.1 hc with hc | hc
   ·exact ih (u / 10) (by omega) c hc
   ·rw[List.mem_singleton.1 hc];exact key (u % 10) (Nat.mod_lt _ (by omega))
def val (l:List UInt8):Nat:=l.foldl (fun a c=>a*10+(c.toNat-48)) 0
theorem Zlv:∀(n u:Nat),u≤n→val (decDigits u)=u:=by
 intro n
 induction n with
 | zero=>
  intro u hu;have:u=0:=by omega
  subst this;rw[decDigits,dif_pos (by omega)]
  rfl
 | succ n ih=>
  intro u hu;have key:∀d,d<10→(UInt8.ofNat (48+d)).toNat-48=d:=by
   intro d hd;rw[UInt8.toNat_ofNat'];omega
  rw[decDigits]
  split
  ·rename_i h
   have:=key u h;simp only[val,List.foldl_cons,List.foldl_nil];omega
  ·rename_i h
   have e:=ih (u / 10) (by omega);unfold val at e ⊢;rw[List.foldl_append,e];simp only[List.foldl_cons,List.foldl_nil];rw[key (u % 10) (Nat.mod_lt _ (by omega))];omega
theorem Zml {u v:Nat}(h:decDigits u=decDigits v):u=v:=by
 rw[←Zlv u u (Nat.le_refl _),←Zlv v v (Nat.le_refl _),h]
theorem Zem (x:Int):(32:UInt8) ∉ itoa x:=by
 intro h;unfold itoa at h
 split at h
 ·rcases List.mem_cons.1 h with h | h
  ·exact absurd h (by decide)
  ·exact absurd (Zkz _ _ (Nat.le_refl _) _ h).1 (by decide)
 ·exact absurd (Zkz _ _ (Nat.le_refl _) _ h).1 (by decide)
theorem itoa_inj {x y:Int}(h:itoa x=itoa y):x=y:=by
 have hm:∀u:Nat,(45:UInt8) ∉ decDigits u:=fun u hu=>absurd (Zkz _ _ (Nat.le_refl _) _ hu).1 (by decide)
 unfold itoa at h
 split at h
 ·split at h
  ·have:=Zml (List.cons.inj h).2;omega
  ·exact absurd (h▸List.mem_cons_self) (hm y.toNat)
 ·split at h
  ·exact absurd (h.symm▸List.mem_cons_self) (hm x.toNat)
  ·have:=Zml h;omega
theorem Zrl:∀{a b r s:List UInt8},(32:UInt8) ∉ a→(32:UInt8) ∉ b→a++32 :: r=b++32 :: s→a=b∧r=s
 | [],[],r,s,_,_,h=>⟨rfl,(List.cons.inj h).2⟩
 | [],y :: b,r,s,_,hb,h=>absurd ((List.cons.inj h).1▸List.mem_cons_self) hb
 | x :: a,[],r,s,ha,_,h=>absurd ((List.cons.inj h).1.symm▸List.mem_cons_self) ha
 | x :: a,y :: b,r,s,ha,hb,h=>by
  obtain⟨e1,e2⟩:=List.cons.inj h;obtain⟨e3,e4⟩:=Zrl (fun h=>ha (List.mem_cons_of_mem _ h)) (fun h=>hb (List.mem_cons_of_mem _ h)) e2;exact⟨by rw[e1,e3],e4⟩
def Zbi:List (Int × Int)→List UInt8
 | []=>[]
 | x :: l=>itoa x.1++32 :: (itoa x.2++32 :: Zbi l)
theorem nameOf_inj:∀{l m:List (Int × Int)},Zbi l=Zbi m→l=m
 | [],[],_=>rfl
 | [],y :: m,h=>by
  unfold Zbi at h;cases e:itoa y.1 with
  | nil=>rw[e]at h;cases h
  | cons a b=>rw[e]at h;cases h
 | x :: l,[],h=>by
  unfold Zbi at h;cases e:itoa x.1 with
  | nil=>rw[e]at h;cases h
  | cons a b=>rw[e]at h;cases h
 | x :: l,y :: m,h=>by
  unfold Zbi at h;obtain⟨e1,h2⟩:=Zrl (Zem _) (Zem _) h;obtain⟨e2,h3⟩:=Zrl (Zem _) (Zem _) h2;rw[nameOf_inj h3,show x=y from Prod.ext (itoa_inj e1) (itoa_inj e2)]
theorem Zgz:∀(l:List (Int × Int)) (x:Int × Int),Zbi (l++[x])=Zbi l++(itoa x.1++32 :: (itoa x.2++[32]))
 | [],x=>rfl
 | y :: l,x=>by
  rw[List.cons_append,Zbi,Zbi,Zgz l x];simp
end PDet
namespace Go.Proofs.YtaokkliamoghbaaGreatDoor.PVpa
open Go.RowKit Go.Proofs.YtaokkliamoghbaaGreatDoorW.PrintWords Go.Proofs.YtaokkliamoghbaaGreatDoorW.PrintLast Go.Proofs.YtaokkliamoghbaaGreatDoorW.PrintMore
open PDet (Zbi Zgz)
theorem infoU8:(Tryz.prog.info? 5).map (fun i=>(i.zero,i.size,i.bytes))=some (some (.int .u8 0),1,1):=by kernel_rfl
structure Nx (w W:World)(bx:Nat)(x1 x2:Int)(b:Value)(bs:List UInt8):Prop where
 own:W.ownsRow w.heap.size 5 1 b bs.length (Lib.byteCells bs)
 bel:Below w.heap.size w W
 box:W.heap[bx]?=some (.cells #[.int .i64 x1,.int .i64 x2] 90 (0,0))
abbrev TabW (w : World) : Prop := Lib.TabBelow Tryz.prog w.heap.size w "internal/strconv.uint64pow10" .u64 Lib.pow10Tab
theorem Zlf {w W:World}{bx:Nat}{x1 x2:Int}{b:Value}{bs:List UInt8}(h:Nx w W bx x1 x2 b bs)(ht:TabW w)(i:Int)(h0:0≤i)(h1:i<4611686018427387904)(hl:bs.length≤100000000) :
 Calls Tryz.prog 81 #[b,.int .i64 i,.int .i64 10] W fun e w'=>∃v',e=.returned v'∧Nx w w' bx x1 x2 v' (bs++Lib.itoa i):=
 (show Calls Tryz.prog 81 _ _ _ from Any.strconv_AppendInt_10 Tryz.appInt w.heap.size bs.length i (by omega) (by omega) b (Lib.byteCells bs) W h.own h.bel.size (by omega) (ht.on h.bel)).mono fun e w' ⟨v',he,ho,hb,hk⟩=>⟨v',he,by rw[List.length_append,show Lib.byteCells (bs++Lib.itoa i)=Lib.byteCells bs++Lib.byteCells (Lib.itoa i) by simp[Lib.byteCells]];exact ho,h.bel.trans hb,hk bx _ h.box (by simp) (fun c fz e=>by cases e)⟩
section
variable {ops:Array Oper}{rest:List Oper}{o:Oper}{a:Act}{Q:Exit→Act→World→Prop}
theorem Zpz {w W:World}{bx:Nat}{x1 x2:Int}{b:Value}{bs:List UInt8}(hgd:o.guard=none)(s x:Operand)(ho:o.op=.call { callee:=.builtin .append,args:=#[s,x],argTypes:=#[98,98] })
 (h:Nx w W bx x1 x2 b bs) (g:Nat) (hs:a.eval s=b) (hx:a.eval x=.slice (some ⟨g,0,none⟩) 1 1) (hg:g=W.heap.size) (hl:bs.length≤100000000)
 (hK:∀v1 w1,Nx w w1 bx x1 x2 v1 (bs++[32])→wpList Tryz.prog ops Q rest (a.put o.dst v1) w1) :
 wpList Tryz.prog ops Q (o :: rest) a (W.alloc (.cells #[.int .u8 32] 5)):=by
 subst hg;have hn:(Lib.byteCells bs).length=bs.length:=Lib.byteCells_length bs;refine Zos (w0:=w) w.heap.size hgd s x 98 5 (.int .u8 0) 1 ho Tryz.underlying98 infoU8 rfl (by omega) b (Lib.byteCells bs) (.int .u8 32) hs hx rfl (by rw[hn];exact h.own) h.bel h.bel.size (by rw[hn];omega) ?_
 intro v1 w1 h1 h2 h3 h4;refine hK v1 w1 ⟨?_,h2,Zat h.box h3 (Zch h.own h.box (by decide))⟩;have e:Lib.byteCells bs++[.int .u8 32]=Lib.byteCells (bs++[32]):=by simp[Lib.byteCells]
 rw[e,Lib.byteCells_length]at h1;exact h1
end
theorem nx_string {w W:World}{b:Value}{bs:List UInt8}(h:W.ownsRow w.heap.size 5 1 b bs.length (Lib.byteCells bs))(hB:∀n,(W.drewN n).heap=W.heap):(convert 98 9 b).run Tryz.prog W=.ok (.string ⟨bs.toArray⟩) W:=by
 rcases h.2 with⟨rfl,h0⟩ | ⟨g,cap,cur,rfl,_⟩
 ·obtain rfl:bs=[]:=List.eq_nil_of_length_eq_zero h0;exact run_convert_bytes_nil W 98 5 Tryz.underlying98 Tryz.underlying5 0 0 9 Tryz.underlying9
 ·exact run_convert_bytes_back W 98 9 5 ⟨g,0,none⟩ cap bs Tryz.underlying98 Tryz.underlying5 Tryz.underlying9 (fun j hj=>h.cells (g:=g) rfl j _ (by simp[Lib.byteCells,hj]))
theorem Zil:∀(l:List (Int × Int)),(∀x∈l,0≤x.1∧x.1<4611686018427387904∧0≤x.2∧x.2<4611686018427387904)→(Zbi l).length≤44*l.length
 | [],_=>Nat.zero_le _
 | x :: r,h=>by
  have ih:=Zil r (fun y hy=>h y (List.mem_cons_of_mem _ hy));obtain⟨a,b,c,d⟩:=h x List.mem_cons_self;have l1:=Lib.itoa_length_le x.1 (by omega) (by omega);have l2:=Lib.itoa_length_le x.2 (by omega) (by omega);unfold Zbi;simp only[List.length_append,List.length_cons];omega
set_option maxHeartbeats 2000000 in
theorem nameD_call (w:World)(base:Nat)(v:Value)(l:List (Int × Int))(h:OwnP w base v l)(hin:∀x∈l,0≤x.1∧x.1<4611686018427387904∧0≤x.2∧x.2<4611686018427387904)(hl:l.length≤1000000)(ht:TabW w) :
 Calls Tryz.prog 62 #[v] w fun e w'=>e=.returned (.string ⟨(Zbi l).toArray⟩)∧Below w.heap.size w w':=by
 obtain⟨A,c,rfl,hc⟩:=h.slice;have HOW:=Zrw.mk h;have HIN:=Zrw.mk hin;have HT:=Zrw.mk ht;have HL:=Zrw.mk hl;clear h hin ht hl
 go_enter Tryz.func62,Tryz.ntmps62
 go_wp2
 go_loopw [3,8] (fun b i wr=>∃(k:Nat) (vb:Value),k≤l.length∧b=vb∧i=.int .i64 k∧Zrw (wr.ownsRow w.heap.size 5 1 vb (Zbi (l.take k)).length (Lib.byteCells (Zbi (l.take k)))∧Below w.heap.size w wr)) (fun _ i _=>l.length-(intOf i).toNat)
 case atStart=>exact⟨0,_,by omega,rfl,rfl,⟨Zqx _ _ _ _,Zbr⟩⟩
 case round=>
  obtain⟨k,vb,hk,hb,rfl,HD⟩:=hrel;obtain rfl:=hb.symm;clear hb;by_cases hkn:k<l.length
  ·obtain⟨g,rfl⟩:∃g,A=some ⟨g,0,none⟩:=by
    rcases HOW.out.2 with⟨he,hz⟩ | ⟨g,cap,cur,he,_⟩
    ·omega
    ·injection he with he;exact⟨g,he⟩
   have ho:=HOW.out.below HD.out.2;obtain⟨p0,p1⟩:=ho.at k hkn;have HNX:Zrw (Nx w (wr.alloc (.cells #[.int .i64 (rdP l k).1,.int .i64 (rdP l k).2] 90)) wr.heap.size (rdP l k).1 (rdP l k).2 vb (Zbi (l.take k))):=⟨Zbx HD.out.1 (Zab Zbr _),Zab HD.out.2 _,Zaj _ _⟩
   have HR:=Zrw.mk (HIN.out (rdP l k) (by rw[rdP,List.getD_eq_getElem?_getD,List.getElem?_eq_getElem hkn];exact List.getElem_mem _));have HN:Zrw (Zbi (l.take (k+1))=Zbi (l.take k)++(Lib.itoa (rdP l k).1++32 :: (Lib.itoa (rdP l k).2++[32]))):=⟨by rw[Zes l hkn,Zgz]⟩
   have HNL:Zrw ((Zbi (l.take k)).length≤44000000):=⟨by
    have:=Zil (l.take k) (fun x hx=>HIN.out x (List.mem_of_mem_take hx));have h2:(l.take k).length≤k:=by rw[List.length_take];omega
    have:=HL.out;omega⟩
   generalize Zbi (l.take k)=bs at HN HNX HNL HD;generalize rdP l k=x at *;obtain⟨x1,x2⟩:=x;simp only at p0 p1 HNX HN;have H1:=Zrw.mk (Zlf HNX.out HT.out x1 HR.out.1 HR.out.2.1 (by have:=HNL.out;omega));have hl1:=Lib.itoa_length_le x1 (by have:=HR.out.1;omega) (by have:=HR.out.2.1;omega);have hl2:=Lib.itoa_length_le x2 (by have:=HR.out.2.2.1;omega) (by have:=HR.out.2.2.2;omega);have HL1:=Zrw.mk hl1;have HL2:=Zrw.mk hl2;have tok1:True:=trivial;have tok2:True:=trivial;clear ho hl1 hl2
   go_wp2_with (first
    | (go_at_call 81;have _t:=tok1;(with_reducible refine H1.out.mono ?_);rintro e w1 ⟨v1,rfl,hn1⟩;have HN1:=Zrw.mk hn1;clear tok1 hn1)
    | ((with_reducible refine Zal (b:=.append) (xs:=#[.tmp 15,.tmp 16]) rfl ?_);at_builtin;refine Zpz (w:=w) rfl (.tmp 15) (.tmp 16) rfl HN1.out _ rfl rfl ?hg (by have:=HNL.out;have:=HL1.out;rw[List.length_append];omega) ?_;(case hg=>simp);intro v2 w2 hn2;have HN2:=Zrw.mk hn2;have q2:w2.cell? ⟨wr.heap.size,1,none⟩=some (.int .i64 x2):=(Zaa HN2.out.box 1).trans rfl;clear hn2)
    | (go_at_call 81;have _t:=tok2;(with_reducible refine (Zlf HN2.out HT.out x2 HR.out.2.2.1 HR.out.2.2.2 (by have:=HNL.out;have:=HL1.out;simp only[List.length_append,List.length_cons,List.length_nil];omega)).mono ?_);rintro e w3 ⟨v3,rfl,hn3⟩;have HN3:=Zrw.mk hn3;clear tok2 hn3)
    | ((with_reducible refine Zal (b:=.append) (xs:=#[.tmp 21,.tmp 22]) rfl ?_);at_builtin;refine Zpz (w:=w) rfl (.tmp 21) (.tmp 22) rfl HN3.out _ rfl rfl ?hg (by have:=HNL.out;have:=HL1.out;have:=HL2.out;simp only[List.length_append,List.length_cons,List.length_nil];omega) ?_;(case hg=>simp);intro v4 w4 hn4;have HN4:=Zrw.mk hn4;clear hn4))
   have hl:=HL.out;have hw:wrap64 ((k:Int)+1)=((k+1:Nat):Int):=(by unfold wrap64;omega)
   go_roundw
   case rel=>exact⟨k+1,_,by omega,rfl,by rw[hw],⟨by rw[HN.out];have:=HN4.out.own;simp only[List.append_assoc,List.cons_append,List.nil_append]at this;exact this,HN4.out.bel⟩⟩
   case measure=>rw[hw];simp only[intOf];omega
  ·obtain rfl:k=l.length:=by omega
   rw[List.take_length]at HD;have hcv:=nx_string HD.out.1 (fun _=>rfl);obtain⟨bs,hbs⟩:∃bs,bs=Zbi l:=⟨_,rfl⟩
   rw[←hbs]at HD hcv;have HBS:=Zrw.mk hbs;clear hbs;go_wp2
   go_ret
   exact⟨by rw[←HBS.out];rfl,HD.out.2⟩
end Go.Proofs.YtaokkliamoghbaaGreatDoor.PVpa
set_option linter.unusedVariables false
set_option linter.unusedSimpArgs false
namespace Go
open Go.Maps
open Go.ChangeMaps (setBlock heap_setBlock_same heap_setBlock_other modify_eq_set)
section
variable {P:Program}{k:TypeId}{b:Nat}{M M':Value→Option Value}{w w':World}
def World.mapIs (w:World)(P:Program)(k:TypeId)(b:Nat)(M:Value→Option Value):Prop:=
 ∃es clock,w.heap[b]?=some (.map es clock)∧(∀e∈es.toList,∃l,keyOf P k e.key=some l)∧es.toList.Pairwise (fun x y=>x.key≠y.key)∧∀x v,M x=some v↔∃e∈es.toList,e.key=x∧e.val=v
theorem World.mapIs_made (w:World)(P:Program)(k:TypeId):(w.alloc (.map #[] 0)).mapIs P k w.heap.size (fun _=>none):=
 ⟨#[],0,(MapKept.heap_alloc w _).1,by simp,by simp,by simp⟩
theorem World.mapIs.lt (h:w.mapIs P k b M):b<w.heap.size:=by
 obtain⟨es,clock,hb,_⟩:=h;exact (Array.getElem?_eq_some_iff.1 hb).1
theorem World.mapIs.kept (h:w.mapIs P k b M)(e:w'.heap[b]?=w.heap[b]?):w'.mapIs P k b M:=by
 obtain⟨es,clock,hb,r⟩:=h;exact⟨es,clock,e.trans hb,r⟩
theorem World.mapIs.grown {row:Option Nat}(h:w.mapIs P k b M)(hg:w.grownBy w' row)(hne:some b≠row):w'.mapIs P k b M:=by
 obtain⟨es,clock,hb,r⟩:=h;exact⟨es,clock,(hg.block b (Array.getElem?_eq_some_iff.1 hb).1 hne).trans hb,r⟩
theorem World.mapIs.congr (h:w.mapIs P k b M)(e:∀x,M' x=M x):w.mapIs P k b M':=by
 obtain⟨es,clock,hb,h1,h2,h3⟩:=h;exact⟨es,clock,hb,h1,h2,fun x v=>by rw[e x];exact h3 x v⟩
theorem Zkx:∀{l:List MapEntry},l.Pairwise (fun x y=>x.key≠y.key)→∀{x y:MapEntry},x∈l→y∈l→x.key=y.key→x=y
 | [],_,_,_,h,_,_=>by cases h
 | a :: l,hp,x,y,hx,hy,e=>by
  rw[List.pairwise_cons]at hp
  rcases List.mem_cons.1 hx with ex | hx
  ·rcases List.mem_cons.1 hy with ey | hy
   ·rw[ex,ey]
   ·exact absurd (ex▸e) (hp.1 y hy)
  ·rcases List.mem_cons.1 hy with ey | hy
   ·exact absurd (ey▸e).symm (hp.1 x hx)
   ·exact Zkx hp.2 hx hy e
theorem World.mapIs.look {t e:TypeId}(h:w.mapIs P k b M)(K:Keyed P k)(ht:P.underlying t=some (.map k e)){z:Value}(hz:(zeroValue e).run P w=.ok z w){key:Value}{kl:Lit}(hkey:keyOf P k key=some kl)(c:Bool) :
 (Instr.lookup t (.map (some b)) key c).run P w=.ok (if c then .tuple #[(M key).getD z,.bool (M key).isSome]else (M key).getD z) w:=by
 obtain⟨es,clock,hb,h1,h2,h3⟩:=h
 rcases K.find w hkey es.toList h1 with⟨f1,f2⟩ | ⟨j,e0,f1,f2,f3⟩
 ·have hM:M key=none:=by
   cases hm:M key with
   | none=>rfl
   | some v=>
    obtain⟨e1,he,hk,_⟩:=(h3 key v).1 hm;exact absurd hk (f2 e1 he)
  rw[hM];simp[Instr.lookup,run_underlying ht,MapKept.run_getObj_map hb,K.check w _ hkey,f1,hz,Result.andThen]
 ·have hM:M key=some e0.val:=(h3 key e0.val).2 ⟨e0,List.mem_of_getElem? f2,f3,rfl⟩;rw[hM];simp[Instr.lookup,run_underlying ht,MapKept.run_getObj_map hb,K.check w _ hkey,f1,Result.andThen]
theorem World.mapIs.store {t e:TypeId}(h:w.mapIs P k b M)(K:Keyed P k)(ht:P.underlying t=some (.map k e)){key val:Value}{kl:Lit}(hkey:keyOf P k key=some kl)(hM:M' key=some val)(hN:∀x,x≠key→M' x=M x) :
 ∃es' clock',(Instr.mapUpdate t (.map (some b)) key val).run P w=.ok () (setBlock w b (.map es' clock'))∧(setBlock w b (.map es' clock')).mapIs P k b M'∧w.grownBy (setBlock w b (.map es' clock')) (some b):=by
 obtain⟨es,clock,hb,h1,h2,h3⟩:=h;have hg:∀o,w.grownBy (setBlock w b o) (some b):=fun o=>⟨rfl,rfl,rfl,by simp[setBlock],fun i _ hi=>heap_setBlock_other hb _ (fun e=>hi (by rw[e]))⟩
 rcases K.find w hkey es.toList h1 with⟨f1,f2⟩ | ⟨j,e0,f1,f2,f3⟩
 ·refine⟨es.push ⟨key,val,clock⟩,clock+1,?_,⟨_,_,heap_setBlock_same hb _,?_,?_,?_⟩,hg _⟩
  ·simp[Instr.mapUpdate,run_underlying ht,MapKept.run_getObj_map hb,K.check w false hkey,f1,MapKept.run_setObj_map _ hb,Result.andThen,setBlock]
  ·intro x hx;simp only[Array.toList_push,List.mem_append,List.mem_singleton]at hx
   rcases hx with hx | rfl
   ·exact h1 x hx
   ·exact⟨kl,hkey⟩
  ·rw[Array.toList_push,List.pairwise_append];exact⟨h2,by simp,fun x hx y hy=>by rw[List.mem_singleton.1 hy];exact f2 x hx⟩
  ·intro x v;by_cases hx:x=key
   ·subst hx;rw[hM]
    constructor
    ·intro e;exact⟨⟨x,val,clock⟩,by simp,rfl,Option.some.inj e⟩
    ·rintro⟨e1,he,hk,hv⟩;simp only[Array.toList_push,List.mem_append,List.mem_singleton]at he
     rcases he with he | rfl
     ·exact absurd hk (f2 e1 he)
     ·rw[←hv]
   ·rw[hN x hx,h3 x v]
    constructor
    ·rintro⟨e1,he,hk,hv⟩;exact⟨e1,by simp[he],hk,hv⟩
    ·rintro⟨e1,he,hk,hv⟩;simp only[Array.toList_push,List.mem_append,List.mem_singleton]at he
     rcases he with he | rfl
     ·exact⟨e1,he,hk,hv⟩
     ·exact absurd hk.symm hx
 ·have hes:es[j]?=some e0:=by simpa using f2
  have hm0:e0∈es.toList:=List.mem_of_getElem? f2;have hlist:(es.modify j (fun e'=>{ e' with key:=key,val:=val })).toList=es.toList.set j { e0 with key:=key,val:=val }:=by rw[Array.toList_modify,modify_eq_set _ _ _ _ f2]
  have hkeys:(es.toList.set j { e0 with key:=key,val:=val }).map (fun e=>e.key)=es.toList.map (fun e=>e.key):=by
   rw[List.map_set];refine List.ext_getElem? fun i=>?_
   rw[List.getElem?_set]
   split
   ·rename_i hij
    subst hij;rw[List.getElem?_map,f2];have hjs:j<es.size:=by simpa using (List.getElem?_eq_some_iff.1 f2).1
    simp[f3,hjs]
   ·rfl
  have hp':(es.toList.set j { e0 with key:=key,val:=val }).Pairwise (fun x y=>x.key≠y.key):=by
   have:=List.pairwise_map (f:=fun e:MapEntry=>e.key) (R:=fun x y=>x≠y) (l:=es.toList.set j { e0 with key:=key,val:=val });rw[←this,hkeys,List.pairwise_map];exact h2
  have hin:({ e0 with key:=key,val:=val }:MapEntry)∈es.toList.set j { e0 with key:=key,val:=val }:=List.mem_iff_getElem.2 ⟨j,by simpa using (List.getElem?_eq_some_iff.1 f2).1,by simp⟩;have hold:∀x,x.key≠key→(x∈es.toList.set j { e0 with key:=key,val:=val }↔x∈es.toList):=by
   intro x hx
   constructor
   ·intro h
    rcases List.mem_or_eq_of_mem_set h with h | rfl
    ·exact h
    ·exact absurd rfl hx
   ·intro h;obtain⟨i,hi⟩:=List.getElem?_of_mem h
    refine List.mem_of_getElem? (i:=i) ?_
    rw[List.getElem?_set]
    split
    ·rename_i hij
     subst hij;rw[f2]at hi;cases hi
     exact absurd f3 hx
    ·exact hi
  refine⟨es.modify j (fun e'=>{ e' with key:=key,val:=val }),clock,?_,⟨_,_,heap_setBlock_same hb _,?_,?_,?_⟩,hg _⟩
  ·simp[Instr.mapUpdate,run_underlying ht,MapKept.run_getObj_map hb,K.check w false hkey,f1,hes,f3,K.stays w hkey,MapKept.run_setObj_map _ hb,Result.andThen,setBlock]
  ·intro x hx;rw[hlist]at hx;by_cases hk:x.key=key
   ·exact⟨kl,hk▸hkey⟩
   ·exact h1 x ((hold x hk).1 hx)
  ·rw[hlist];exact hp'
  ·intro x v;rw[hlist];by_cases hx:x=key
   ·subst hx;rw[hM]
    constructor
    ·intro e;exact⟨_,hin,rfl,Option.some.inj e⟩
    ·rintro⟨e1,he,hk,hv⟩;rw[←hv,Zkx hp' he hin hk]
   ·rw[hN x hx,h3 x v]
    constructor
    ·rintro⟨e1,he,hk,hv⟩;exact⟨e1,(hold e1 (by rw[hk];exact hx)).2 he,hk,hv⟩
    ·rintro⟨e1,he,hk,hv⟩;exact⟨e1,(hold e1 (by rw[hk];exact hx)).1 he,hk,hv⟩
variable {ops:Array Oper}{rest:List Oper}{o:Oper}{a:Act}{Q:Exit→Act→World→Prop}
theorem Zcx (hg:o.guard=none)(m x v:Operand)(t:TypeId)(hop:o.op=Op.mapUpdate t m x v)(k e:TypeId)(K:Keyed P k)(ht:P.underlying t=some (.map k e))(b:Nat)(M M':Value→Option Value)
 (hm:a.eval m=.map (some b)) (h:w.mapIs P k b M) (key val:Value) (kl:Lit) (hx:a.eval x=key) (hv:a.eval v=val) (hkey:keyOf P k key=some kl) (hM:M' key=some val) (hN:∀x,x≠key→M' x=M x)
 (hK:∀w',w'.mapIs P k b M'→w.grownBy w' (some b)→wpList P ops Q rest (a.put o.dst undef) w') :
 wpList P ops Q (o :: rest) a w:=by
 refine wpList_plain hg fun K' hK'=>?_
 obtain⟨es',clock',hrun,r1,r2⟩:=h.store K ht hkey hM hN;unfold Oper.wp;simp[execOp,hop,hm,hx,hv,hrun,Result.andThen];exact hK' _ _ (hK _ r1 r2)
end
end Go
namespace Go.Proofs.YtaokkliamoghbaaGreatDoor.PVpa
open Go.RowKit Go.Proofs.YtaokkliamoghbaaGreatDoorW.PrintWords Go.Proofs.YtaokkliamoghbaaGreatDoorW.PrintLast Go.Proofs.YtaokkliamoghbaaGreatDoorW.PrintMore
def kP:Kd (Int × Int):=Kd.pair (Kd.int .i64) (Kd.int .i64)
theorem kP_mk (w:World)(base:Nat)(ok:Nat→Prop)(x:Int × Int):kP.M w base ok x [.int .i64 x.1,.int .i64 x.2]:=⟨[.int .i64 x.1],[.int .i64 x.2],rfl,rfl,rfl⟩
theorem reps_P (w:World)(base:Nat)(ok:Nat→Prop):∀l:List (Int × Int),Reps (kP.M w base ok) 2 l (Zbg l)
 | []=>Reps.none _ _
 | x :: r=>Reps.front (kP_mk w base ok x) rfl (reps_P w base ok r) rfl
theorem Zli {w:World}{base:Nat}{v:Value}{l:List (Int × Int)}{ok:Nat→Prop}(h:OwnP w base v l)(ho:∀k,v.ownBlock=some k→ok k):kP.R 90 w base ok v l:=⟨ho,Zbg l,h,reps_P _ _ _ l⟩
theorem Zei {α:Type}{d:Kd α}{e:Nat}{w w1:World}{base:Nat}{ok ok':Nat→Prop}{v:Value}{xs:List α}(h:d.R e w base ok v xs)
 (hm:∀k,ok k→base≤k→k<w.heap.size→(∃q,q∈e :: d.E∧∃cells,w.heap[k]?=some (.cells cells q (0,0)))→ok' k∧w1.heap[k]?=w.heap[k]?):d.R e w1 base ok' v xs:=
 Kd.R_mono (Kd.R_move (Kd.R_bound h) (fun k hk=>(hm k hk.1 hk.2.1 hk.2.2.1 hk.2.2.2).2)) (fun k hk=>(hm k hk.1 hk.2.1 hk.2.2.1 hk.2.2.2).1)
end Go.Proofs.YtaokkliamoghbaaGreatDoor.PVpa
set_option linter.unusedVariables false
set_option linter.unusedSimpArgs false
namespace PDet
abbrev Zby:=Int × Int
structure VM where
 int:Int→Int→List Int
 call:Int→Int→List Zby
 bot:Int→Int→List Int
 ret:Int→Int→Int→List Int
 start:List Int
 kinds:List Int
structure St where
 L:List (List Zby)
 one:List (List Int)
 ret:List ((Nat × Nat × Int × Int) × Int)
 large:Bool
def number (nm:List Zby→List Zby)(most:Nat)(l:List Zby)(s:St):Nat × St:=
 if nm l∈s.L then (s.L.idxOf (nm l),s)else (s.L.length,{ s with L:=s.L++[nm l],large:=s.large||decide (most≤s.L.length) })
def kind (V:VM)(t:Int):Int:=if 0≤t then V.kinds.getD t.toNat 0 else 0
def stepOut (V:VM)(L:List (List Zby))(s:Nat)(t:Int):List Zby:=
 (L.getD s []).flatMap fun x=>
  if kind V t=0 then (V.int x.2 t).map fun c=>(x.1,c)
  else if kind V t=1 then (V.call x.2 t).map fun c=>(c.1,c.1)
  else (V.bot x.2 t).map fun c=>(x.1,c)
def joinOut (V:VM)(L:List (List Zby))(s below:Nat)(c t:Int):List Zby:=
 (L.getD below []).flatMap fun x=>(V.call x.2 c).flatMap fun y=>(((L.getD s []).filter fun z=>z.1==y.1).map (·.2)).flatMap fun b=>(V.ret b y.2 t).map fun z=>(x.1,z)
def step (V:VM)(nm:List Zby→List Zby)(most:Nat)(i:Nat)(t:Int)(s:St):Nat × St:=number nm most (stepOut V s.L i t) s
def join (V:VM)(nm:List Zby→List Zby)(most:Nat)(i j:Nat)(c t:Int)(s:St):St:=
 let r:=number nm most (joinOut V s.L i j c t) s
 { r.2 with ret:=((i,j,c,t),(r.1:Int)) :: r.2.ret }
def runTo {α:Type}(f:α→St→St):List α→St→St
 | [],s=>s
 | x :: l,s=>if (f x s).large then f x s else runTo f l (f x s)
def row (V:VM)(nm:List Zby→List Zby)(most:Nat)(i:Nat):List Int→List Int→St→List Int × St
 | [],r,s=>(r,s)
 | t :: l,r,s=>if (step V nm most i t s).2.large then (r,(step V nm most i t s).2)else row V nm most i l (r++[((step V nm most i t s).1:Int)]) (step V nm most i t s).2
def toks (V:VM)(k:Int):List Int:=((List.range V.kinds.length).filter fun t=>V.kinds.getD t 0==k).map Int.ofNat
def join2 (V:VM)(nm:List Zby→List Zby)(most:Nat)(i j:Nat)(c t:Int)(s:St):St:=
 if (join V nm most i j c t s).large then join V nm most i j c t s
 else if j=i then join V nm most i j c t s
 else join V nm most j i c t (join V nm most i j c t s)
def both (V:VM)(nm:List Zby→List Zby)(most:Nat)(i j:Nat):St→St:=
 runTo (fun c=>runTo (fun t=>join2 V nm most i j c t) (toks V 2)) (toks V 1)
def addRow (r:List Int)(s:St):St:=⟨s.L,s.one++[r],s.ret,s.large⟩
def tokRow (V:VM):List Int:=(List.range (V.kinds.length+1)).map fun t=>Int.ofNat t-1
def round (V:VM)(nm:List Zby→List Zby)(most:Nat)(i:Nat)(s:St):St:=
 let r:=row V nm most i (tokRow V) [] s
 if r.2.large then r.2 else runTo (both V nm most i) (List.range (i+1)) (addRow r.1 r.2)
def close (V:VM)(nm:List Zby→List Zby)(most:Nat):Nat→Nat→St→St
 | 0,_,s=>s
 | n+1,i,s=>if i<s.L.length∧s.large=false then close V nm most n (i+1) (round V nm most i s)else s
def first (V:VM)(nm:List Zby→List Zby)(most:Nat):St:=(number nm most (V.start.map fun p=>(p,p)) ⟨[],[],[],false⟩).2
def table (V:VM)(nm:List Zby→List Zby)(most:Nat)(n:Nat):St:=close V nm most n 0 (first V nm most)
def Rel (x:Nat)(s s':St):Prop:=(s=s'∧s.large=false∧s.L.length≤x)∨(s.large=true∧x<s.L.length∧x<s'.L.length)
def Sim (x:Nat)(f g:St→St):Prop:=∀s,s.large=false→s.L.length≤x→Rel x (f s) (g s)
def Grow (g:St→St):Prop:=∀s,s.L.length≤(g s).L.length
theorem Zgy (nm:List Zby→List Zby)(most:Nat)(l:List Zby)(s:St):s.L.length≤(number nm most l s).2.L.length:=by
 unfold number
 split <;> simp
theorem Zmd {nm:List Zby→List Zby}{x y:Nat}(h:x≤y)(l:List Zby)(s:St)(hl:s.large=false)(hL:s.L.length≤x) :
 (number nm x l s=number nm y l s∧(number nm x l s).2.large=false∧(number nm x l s).2.L.length≤x) ∨
 ((number nm x l s).2.large=true∧x<(number nm x l s).2.L.length∧x<(number nm y l s).2.L.length):=by
 unfold number
 split
 ·exact Or.inl ⟨rfl,hl,hL⟩
 ·by_cases e:s.L.length=x
  ·right
   simp[hl,e]
  ·left
   have h1:¬x≤s.L.length:=by omega
   have h2:¬y≤s.L.length:=by omega
   simp[hl,h1,h2];omega
theorem Zdk {α:Type}{f:α→St→St}(h:∀x,Grow (f x)):∀l,Grow (runTo f l)
 | [],s=>Nat.le_refl _
 | x :: l,s=>by
  unfold runTo
  split
  ·exact h x s
  ·exact Nat.le_trans (h x s) (Zdk h l _)
theorem Zhh {α:Type}{x:Nat}{f g:α→St→St}(h:∀a,Sim x (f a) (g a))(hg:∀a,Grow (g a)):∀l,Sim x (runTo f l) (runTo g l)
 | [],s=>fun hl hL=>Or.inl ⟨rfl,hl,hL⟩
 | a :: l,s=>fun hl hL=>by
  unfold runTo
  rcases h a s hl hL with⟨e,e1,e2⟩ | ⟨e,e1,e2⟩
  ·rw[←e,e1];exact Zhh h hg l _ e1 e2
  ·rw[e];refine Or.inr ⟨e,e1,?_⟩
   split
   ·exact e2
   ·exact Nat.lt_of_lt_of_le e2 (Zdk hg l _)
theorem Zfx (V:VM)(nm:List Zby→List Zby)(most i j:Nat)(c t:Int):Grow (join V nm most i j c t):=fun s=>Zgy nm most _ s
theorem join_sim (V:VM)(nm:List Zby→List Zby){x y:Nat}(h:x≤y)(i j:Nat)(c t:Int):Sim x (join V nm x i j c t) (join V nm y i j c t):=fun s hl hL=>by
 unfold join
 rcases Zmd (nm:=nm) h (joinOut V s.L i j c t) s hl hL with⟨e,e1,e2⟩ | ⟨e,e1,e2⟩
 ·exact Or.inl ⟨by rw[e],e1,e2⟩
 ·exact Or.inr ⟨e,e1,e2⟩
theorem Zip (V:VM)(nm:List Zby→List Zby)(most i j:Nat)(c t:Int):Grow (join2 V nm most i j c t):=fun s=>by
 unfold join2
 split
 ·exact Zfx ..
 ·split
  ·exact Zfx ..
  ·exact Nat.le_trans (Zfx V nm most i j c t s) (Zfx ..)
theorem join2_sim (V:VM)(nm:List Zby→List Zby){x y:Nat}(h:x≤y)(i j:Nat)(c t:Int):Sim x (join2 V nm x i j c t) (join2 V nm y i j c t):=fun s hl hL=>by
 unfold join2
 rcases join_sim V nm h i j c t s hl hL with⟨e,e1,e2⟩ | ⟨e,e1,e2⟩
 ·rw[←e,e1];simp only[Bool.false_eq_true,if_false]
  split
  ·exact Or.inl ⟨rfl,e1,e2⟩
  ·exact join_sim V nm h j i c t _ e1 e2
 ·rw[e];refine Or.inr ⟨e,e1,?_⟩
  split
  ·exact e2
  ·split
   ·exact e2
   ·exact Nat.lt_of_lt_of_le e2 (Zfx ..)
theorem Znd (V:VM)(nm:List Zby→List Zby)(most i:Nat):∀l r s,s.L.length≤(row V nm most i l r s).2.L.length
 | [],r,s=>Nat.le_refl _
 | t :: l,r,s=>by
  unfold row
  split
  ·exact Zgy ..
  ·exact Nat.le_trans (Zgy nm most _ s) (Znd V nm most i l _ _)
theorem row_sim (V:VM)(nm:List Zby→List Zby){x y:Nat}(h:x≤y)(i:Nat):∀l r s,s.large=false→s.L.length≤x →
 (row V nm x i l r s=row V nm y i l r s∧(row V nm x i l r s).2.large=false∧(row V nm x i l r s).2.L.length≤x) ∨
 ((row V nm x i l r s).2.large=true∧x<(row V nm x i l r s).2.L.length∧x<(row V nm y i l r s).2.L.length)
 | [],r,s=>fun hl hL=>Or.inl ⟨rfl,hl,hL⟩
 | t :: l,r,s=>fun hl hL=>by
  unfold row
  rcases Zmd (nm:=nm) h (stepOut V s.L i t) s hl hL with⟨e,e1,e2⟩ | ⟨e,e1,e2⟩
  ·have e':step V nm y i t s=step V nm x i t s:=e.symm;rw[e',show (step V nm x i t s).2.large=false from e1];exact row_sim V nm h i l _ _ e1 e2
  ·rw[show (step V nm x i t s).2.large=true from e];refine Or.inr ⟨e,e1,?_⟩
   split
   ·exact e2
   ·exact Nat.lt_of_lt_of_le e2 (Znd ..)
theorem Zlc (V:VM)(nm:List Zby→List Zby)(most i j:Nat):Grow (both V nm most i j):=Zdk (fun c=>Zdk (fun t=>Zip V nm most i j c t) _) _
theorem both_sim (V:VM)(nm:List Zby→List Zby){x y:Nat}(h:x≤y)(i j:Nat):Sim x (both V nm x i j) (both V nm y i j):=
 Zhh (fun c=>Zhh (fun t=>join2_sim V nm h i j c t) (fun t=>Zip V nm y i j c t) _) (fun c=>Zdk (fun t=>Zip V nm y i j c t) _) _
theorem round_grow (V:VM)(nm:List Zby→List Zby)(most i:Nat):Grow (round V nm most i):=fun s=>by
 unfold round;have:=Znd V nm most i (tokRow V) [] s;simp only
 split
 ·exact this
 ·exact Nat.le_trans this (Zdk (fun j=>Zlc V nm most i j) (List.range (i+1)) (addRow (row V nm most i (tokRow V) [] s).1 (row V nm most i (tokRow V) [] s).2))
theorem round_sim (V:VM)(nm:List Zby→List Zby){x y:Nat}(h:x≤y)(i:Nat):Sim x (round V nm x i) (round V nm y i):=fun s hl hL=>by
 unfold round
 rcases row_sim V nm h i (tokRow V) [] s hl hL with⟨e,e1,e2⟩ | ⟨e,e1,e2⟩
 ·rw[←e];simp only[e1,Bool.false_eq_true,if_false];exact Zhh (fun j=>both_sim V nm h i j) (fun j=>Zlc V nm y i j) _ (addRow (row V nm x i (tokRow V) [] s).1 (row V nm x i (tokRow V) [] s).2) e1 e2
 ·simp only[e,if_true];refine Or.inr ⟨e,e1,?_⟩
  split
  ·exact e2
  ·exact Nat.lt_of_lt_of_le e2 (Zdk (fun j=>Zlc V nm y i j) (List.range (i+1)) (addRow (row V nm y i (tokRow V) [] s).1 (row V nm y i (tokRow V) [] s).2))
theorem Zmn (V:VM)(nm:List Zby→List Zby)(most:Nat):∀n i,Grow (close V nm most n i)
 | 0,_,s=>Nat.le_refl _
 | n+1,i,s=>by
  unfold close
  split
  ·exact Nat.le_trans (round_grow V nm most i s) (Zmn V nm most n (i+1) _)
  ·exact Nat.le_refl _
theorem close_large (V:VM)(nm:List Zby→List Zby)(most:Nat):∀n i s,s.large=true→close V nm most n i s=s
 | 0,_,s,_=>rfl
 | n+1,i,s,h=>by
  unfold close;simp[h]
theorem Zpr (V:VM)(nm:List Zby→List Zby){x y:Nat}(h:x≤y):∀n i,Sim x (close V nm x n i) (close V nm y n i)
 | 0,_,s=>fun hl hL=>Or.inl ⟨rfl,hl,hL⟩
 | n+1,i,s=>fun hl hL=>by
  unfold close;by_cases c:i<s.L.length∧s.large=false
  ·rw[if_pos c,if_pos c]
   rcases round_sim V nm h i s hl hL with⟨e,e1,e2⟩ | ⟨e,e1,e2⟩
   ·rw[←e];exact Zpr V nm h n (i+1) _ e1 e2
   ·rw[close_large V nm x n (i+1) _ e];exact Or.inr ⟨e,e1,Nat.lt_of_lt_of_le e2 (Zmn ..)⟩
  ·rw[if_neg c,if_neg c];exact Or.inl ⟨rfl,hl,hL⟩
theorem table_caps (V:VM)(nm:List Zby→List Zby){x y:Nat}(h:x≤y)(hx:0<x)(n:Nat) :
 (table V nm x n=table V nm y n∧(table V nm x n).large=false∧(table V nm x n).L.length≤x) ∨
 ((table V nm x n).large=true∧x<(table V nm y n).L.length):=by
 unfold table;have hf:first V nm x=first V nm y∧(first V nm x).large=false∧(first V nm x).L.length≤x:=by
  unfold first number
  have h1:¬x≤0:=by omega
  have h2:¬y≤0:=by omega
  simp[h1,h2];omega
 rw[←hf.1]
 rcases Zpr V nm h n 0 _ hf.2.1 hf.2.2 with⟨e,e1,e2⟩ | ⟨e,e1,e2⟩
 ·exact Or.inl ⟨e,e1,e2⟩
 ·exact Or.inr ⟨e,e2⟩
end PDet
set_option linter.unusedVariables false
set_option linter.unusedSimpArgs false
namespace PDet
variable {V:VM}{nm:List Zby→List Zby}{most:Nat}
structure Le (s s':St):Prop where
 L:s.L <+: s'.L
 one:s.one <+: s'.one
 ret:∀e∈s.ret,e∈s'.ret
 large:s'.large=false→s.large=false
theorem Le.refl (s:St):Le s s:=⟨List.prefix_refl _,List.prefix_refl _,fun _ h=>h,fun h=>h⟩
theorem Le.trans {a b c:St}(h:Le a b)(k:Le b c):Le a c:=⟨h.L.trans k.L,h.one.trans k.one,fun e he=>k.ret e (h.ret e he),fun hl=>h.large (k.large hl)⟩
theorem Le.len {a b:St}(h:Le a b):a.L.length≤b.L.length:=h.L.length_le
theorem Znf {α:Type}{l l':List α}(h:l <+: l'){i:Nat}(hi:i<l.length)(d:α):l'.getD i d=l.getD i d:=by
 obtain⟨r,rfl⟩:=h;simp[List.getD_eq_getElem?_getD,List.getElem?_append_left hi]
theorem pre_get? {α:Type}{l l':List α}(h:l <+: l'){i:Nat}{x:α}(hi:l[i]?=some x):l'[i]?=some x:=by
 obtain⟨r,rfl⟩:=h;rw[List.getElem?_append_left (List.getElem?_eq_some_iff.1 hi).1];exact hi
theorem Zkb {L L':List (List Zby)}(h:L <+: L'){i:Nat}(hi:i<L.length)(t:Int):stepOut V L' i t=stepOut V L i t:=by
 unfold stepOut;rw[Znf h hi]
theorem Zkv {L L':List (List Zby)}(h:L <+: L'){i j:Nat}(hi:i<L.length)(hj:j<L.length)(c t:Int):joinOut V L' i j c t=joinOut V L i j c t:=by
 unfold joinOut;rw[Znf h hi,Znf h hj]
structure Good (V:VM)(nm:List Zby→List Zby)(most:Nat)(s:St):Prop where
 nodup:s.L.Nodup
 named:∀x∈s.L,∃l,x=nm l
 ret:∀e∈s.ret,e.1.1<s.L.length∧e.1.2.1<s.L.length∧∃k:Nat,e.2=(k:Int)∧s.L[k]?=some (nm (joinOut V s.L e.1.1 e.1.2.1 e.1.2.2.1 e.1.2.2.2))
 cap:s.large=false→s.L.length≤most
theorem number_le (l:List Zby)(s:St):Le s (number nm most l s).2:=by
 unfold number
 split
 ·exact Le.refl s
 ·exact⟨List.prefix_append _ _,List.prefix_refl _,fun _ h=>h,fun h=>by simp at h;exact h.1⟩
theorem Zpa (l:List Zby)(s:St):(number nm most l s).2.L[(number nm most l s).1]?=some (nm l):=by
 unfold number
 split
 ·rename_i h
  simp[List.getElem?_eq_getElem (List.idxOf_lt_length_of_mem h)]
 ·simp
theorem number_one (l:List Zby)(s:St):(number nm most l s).2.one=s.one:=by
 unfold number
 split <;> rfl
theorem number_ret (l:List Zby)(s:St):(number nm most l s).2.ret=s.ret:=by
 unfold number
 split <;> rfl
theorem number_good (l:List Zby){s:St}(h:Good V nm most s):Good V nm most (number nm most l s).2:=by
 have hle:=number_le (nm:=nm) (most:=most) l s;refine⟨?_,?_,?_,?_⟩
 ·unfold number
  split
  ·exact h.nodup
  ·rename_i hn
   exact List.nodup_append.2 ⟨h.nodup,by simp,fun a ha b hb=>by rw[List.mem_singleton.1 hb];intro e;exact hn (e▸ha)⟩
 ·unfold number
  split
  ·exact h.named
  ·intro x hx
   rcases List.mem_append.1 hx with hx | hx
   ·exact h.named x hx
   ·exact⟨l,List.mem_singleton.1 hx⟩
 ·rw[number_ret];intro e he;obtain⟨h1,h2,k,h3,h4⟩:=h.ret e he;exact⟨Nat.lt_of_lt_of_le h1 hle.len,Nat.lt_of_lt_of_le h2 hle.len,k,h3,by rw[Zkv hle.L h1 h2];exact pre_get? hle.L h4⟩
 ·unfold number
  split
  ·exact h.cap
  ·intro hl;simp at hl;simp;omega
theorem join_le (i j:Nat)(c t:Int)(s:St):Le s (join V nm most i j c t s):=by
 have h:=number_le (nm:=nm) (most:=most) (joinOut V s.L i j c t) s;exact⟨h.L,h.one,fun e he=>List.mem_cons_of_mem _ (h.ret e he),h.large⟩
theorem join_good {i j:Nat}(c t:Int){s:St}(h:Good V nm most s)(hi:i<s.L.length)(hj:j<s.L.length):Good V nm most (join V nm most i j c t s):=by
 have hg:=number_good (joinOut V s.L i j c t) h;have hle:=number_le (nm:=nm) (most:=most) (joinOut V s.L i j c t) s;refine⟨hg.nodup,hg.named,fun e he=>?_,hg.cap⟩
 rcases List.mem_cons.1 he with rfl | he
 ·refine⟨Nat.lt_of_lt_of_le hi hle.len,Nat.lt_of_lt_of_le hj hle.len,_,rfl,?_⟩;have:=Zpa (nm:=nm) (most:=most) (joinOut V s.L i j c t) s;show (number nm most (joinOut V s.L i j c t) s).2.L[_]?=some (nm (joinOut V (number nm most (joinOut V s.L i j c t) s).2.L i j c t));rw[Zkv hle.L hi hj];exact this
 ·exact hg.ret e he
def HasRet (i j:Nat)(c t:Int)(s:St):Prop:=∃k,((i,j,c,t),k)∈s.ret
theorem HasRet.le {i j:Nat}{c t:Int}{s s':St}(h:HasRet i j c t s)(l:Le s s'):HasRet i j c t s':=⟨h.choose,l.ret _ h.choose_spec⟩
theorem Zju (i j:Nat)(c t:Int)(s:St):HasRet i j c t (join V nm most i j c t s):=⟨_,List.mem_cons_self⟩
theorem Zff {α:Type}{f:α→St→St}(h:∀x s,Le s (f x s)):∀l s,Le s (runTo f l s)
 | [],s=>Le.refl s
 | x :: l,s=>by
  unfold runTo
  split
  ·exact h x s
  ·exact (h x s).trans (Zff h l _)
theorem Zhj {α:Type}{f:α→St→St}{I:St→Prop}{R:α→St→Prop}{C:α→Prop}(hle:∀x s,Le s (f x s))(hR:∀x s s',R x s→Le s s'→R x s')(hI:∀x s,C x→I s→I (f x s))(hm:∀x s,C x→I s→(f x s).large=false→R x (f x s)) :
 ∀l s,(∀x∈l,C x)→I s→I (runTo f l s)∧((runTo f l s).large=false→∀x∈l,R x (runTo f l s))
 | [],s,_,h=>⟨h,fun _ x hx=>by cases hx⟩
 | x :: l,s,hC,h=>by
  have hx:=hC x List.mem_cons_self;unfold runTo
  split
  ·rename_i hl
   exact⟨hI x s hx h,fun hn=>by rw[hl]at hn;cases hn⟩
  ·obtain⟨h1,h2⟩:=Zhj hle hR hI hm l (f x s) (fun y hy=>hC y (List.mem_cons_of_mem _ hy)) (hI x s hx h);refine⟨h1,fun hn y hy=>?_⟩
   rcases List.mem_cons.1 hy with rfl | hy
   ·exact hR y _ _ (hm y s hx h ((Zff hle l (f y s)).large hn)) (Zff hle l (f y s))
   ·exact h2 hn y hy
theorem Znk (i j:Nat)(c t:Int)(s:St):Le s (join2 V nm most i j c t s):=by
 unfold join2
 split
 ·exact join_le ..
 ·split
  ·exact join_le ..
  ·exact (join_le i j c t s).trans (join_le ..)
def Two (V:VM)(nm:List Zby→List Zby)(most i j:Nat)(s:St):Prop:=Good V nm most s∧i<s.L.length∧j<s.L.length
theorem join2_two {i j:Nat}(c t:Int){s:St}(h:Two V nm most i j s):Two V nm most i j (join2 V nm most i j c t s):=by
 have l1:=join_le (V:=V) (nm:=nm) (most:=most) i j c t s;have g1:=join_good c t h.1 h.2.1 h.2.2;have a1:=Nat.lt_of_lt_of_le h.2.1 l1.len;have b1:=Nat.lt_of_lt_of_le h.2.2 l1.len;have l2:=join_le (V:=V) (nm:=nm) (most:=most) j i c t (join V nm most i j c t s);unfold join2
 split
 ·exact⟨g1,a1,b1⟩
 ·split
  ·exact⟨g1,a1,b1⟩
  ·exact⟨join_good c t g1 b1 a1,Nat.lt_of_lt_of_le a1 l2.len,Nat.lt_of_lt_of_le b1 l2.len⟩
theorem join2_has (i j:Nat)(c t:Int)(s:St)(hn:(join2 V nm most i j c t s).large=false):HasRet i j c t (join2 V nm most i j c t s)∧HasRet j i c t (join2 V nm most i j c t s):=by
 have l2:=join_le (V:=V) (nm:=nm) (most:=most) j i c t (join V nm most i j c t s);unfold join2 at hn ⊢
 split at hn
 ·rename_i hl
  rw[hl]at hn;cases hn
 ·rename_i hl
  rw[if_neg hl]
  split at hn
  ·rename_i e
   rw[if_pos e];subst e;exact⟨Zju ..,Zju ..⟩
  ·rename_i e
   rw[if_neg e];exact⟨(Zju i j c t s).le l2,Zju ..⟩
theorem both_le (i j:Nat)(s:St):Le s (both V nm most i j s):=Zff (fun c s=>Zff (fun t s=>Znk i j c t s) _ s) _ s
theorem Zpl {i j:Nat}(c:Int){s:St}(h:Two V nm most i j s):Two V nm most i j (runTo (fun t=>join2 V nm most i j c t) (toks V 2) s) ∧
 ((runTo (fun t=>join2 V nm most i j c t) (toks V 2) s).large=false→∀t∈toks V 2,HasRet i j c t (runTo (fun t=>join2 V nm most i j c t) (toks V 2) s)∧HasRet j i c t (runTo (fun t=>join2 V nm most i j c t) (toks V 2) s)):=
 Zhj (f:=fun t=>join2 V nm most i j c t) (I:=Two V nm most i j) (R:=fun t s=>HasRet i j c t s∧HasRet j i c t s) (C:=fun _=>True) (fun t s=>Znk i j c t s) (fun t s s' hr hl=>⟨hr.1.le hl,hr.2.le hl⟩) (fun t s _ hs=>join2_two c t hs) (fun t s _ hs hn=>join2_has i j c t s hn) (toks V 2) s (fun _ _=>trivial) h
theorem both_all {i j:Nat}{s:St}(h:Two V nm most i j s):Two V nm most i j (both V nm most i j s)∧((both V nm most i j s).large=false→∀c∈toks V 1,∀t∈toks V 2,HasRet i j c t (both V nm most i j s)∧HasRet j i c t (both V nm most i j s)):=
 Zhj (f:=fun c=>runTo (fun t=>join2 V nm most i j c t) (toks V 2)) (I:=Two V nm most i j) (R:=fun c s=>∀t∈toks V 2,HasRet i j c t s∧HasRet j i c t s) (C:=fun _=>True)
  (fun c s=>Zff (fun t s=>Znk i j c t s) _ s) (fun c s s' hr hl t ht=>⟨(hr t ht).1.le hl,(hr t ht).2.le hl⟩)
  (fun c s _ hs=>(Zpl c hs).1) (fun c s _ hs=>(Zpl c hs).2) (toks V 1) s (fun _ _=>trivial) h
def RowOk (V:VM)(nm:List Zby→List Zby)(i:Nat)(ts:List Int)(r:List Int)(L:List (List Zby)):Prop:=
 r.length=ts.length∧∀(m:Nat) (t:Int),ts[m]?=some t→∃k:Nat,r[m]?=some (k:Int)∧L[k]?=some (nm (stepOut V L i t))
theorem RowOk.pre {i:Nat}{ts r:List Int}{L L':List (List Zby)}(h:RowOk V nm i ts r L)(hL:L <+: L')(hi:i<L.length):RowOk V nm i ts r L':=by
 refine⟨h.1,fun m t ht=>?_⟩;obtain⟨k,h1,h2⟩:=h.2 m t ht;exact⟨k,h1,(by rw[Zkb hL hi];exact pre_get? hL h2)⟩
theorem row_le (i:Nat):∀l r s,Le s (row V nm most i l r s).2
 | [],r,s=>Le.refl s
 | t :: l,r,s=>by
  unfold row
  split
  ·exact number_le ..
  ·exact (number_le (nm:=nm) (most:=most) _ s).trans (row_le i l _ _)
theorem row_one (i:Nat):∀l r s,(row V nm most i l r s).2.one=s.one
 | [],r,s=>rfl
 | t :: l,r,s=>by
  unfold row
  split
  ·exact number_one ..
  ·rw[row_one i l];exact number_one ..
theorem row_good (i:Nat):∀l r s,Good V nm most s→Good V nm most (row V nm most i l r s).2
 | [],r,s,h=>h
 | t :: l,r,s,h=>by
  unfold row
  split
  ·exact number_good _ h
  ·exact row_good i l _ _ (number_good _ h)
theorem row_ok (i:Nat):∀l done r s,i<s.L.length→RowOk V nm i done r s.L→(row V nm most i l r s).2.large=false→RowOk V nm i (done++l) (row V nm most i l r s).1 (row V nm most i l r s).2.L
 | [],done,r,s,hi,h,hn=>by
  rw[List.append_nil];exact h
 | t :: l,done,r,s,hi,h,hn=>by
  unfold row at hn ⊢;have hle:Le s (step V nm most i t s).2:=number_le (nm:=nm) (most:=most) _ s;have hat:(step V nm most i t s).2.L[(step V nm most i t s).1]?=some (nm (stepOut V s.L i t)):=Zpa (nm:=nm) (most:=most) (stepOut V s.L i t) s
  split at hn
  ·rename_i hl
   rw[hl]at hn;cases hn
  ·rename_i hl
   rw[if_neg hl];have:=row_ok i l (done++[t]) (r++[((step V nm most i t s).1:Int)]) (step V nm most i t s).2 (Nat.lt_of_lt_of_le hi hle.len) (by
    have h':=h.pre hle.L hi;refine⟨by simp[h.1],fun m u hu=>?_⟩;by_cases hm:m<done.length
    ·rw[List.getElem?_append_left hm]at hu;obtain⟨k,h1,h2⟩:=h'.2 m u hu;exact⟨k,by rw[List.getElem?_append_left (by rw[h.1];exact hm)];exact h1,h2⟩
    ·have hm2:m<(done++[t]).length:=(List.getElem?_eq_some_iff.1 hu).1;simp at hm2;have hm3:m=done.length:=by omega
     subst hm3;simp at hu;subst hu;exact⟨(step V nm most i t s).1,by rw[List.getElem?_append_right (by rw[h.1];exact Nat.le_refl _)];simp[h.1],by rw[Zkb hle.L hi];exact hat⟩) hn
   rw[List.append_assoc]at this;exact this
structure At (V:VM)(nm:List Zby→List Zby)(most i:Nat)(s:St):Prop where
 good:Good V nm most s
 le:i≤s.L.length
 len:s.one.length=i
 row:∀j r,s.one[j]?=some r→RowOk V nm j (tokRow V) r s.L
 rets:∀a b,a<i→b<i→∀c∈toks V 1,∀t∈toks V 2,HasRet a b c t s
theorem Zjs (i j:Nat)(c t:Int)(s:St):(join V nm most i j c t s).one=s.one:=number_one ..
theorem join2_one (i j:Nat)(c t:Int)(s:St):(join2 V nm most i j c t s).one=s.one:=by
 unfold join2
 split
 ·exact Zjs ..
 ·split
  ·exact Zjs ..
  ·rw[Zjs,Zjs]
theorem Zhi {α:Type}{f:α→St→St}(h:∀x s,(f x s).one=s.one):∀l s,(runTo f l s).one=s.one
 | [],s=>rfl
 | x :: l,s=>by
  unfold runTo
  split
  ·exact h x s
  ·rw[Zhi h l,h]
theorem both_one (i j:Nat)(s:St):(both V nm most i j s).one=s.one:=Zhi (fun c s=>Zhi (fun t s=>join2_one i j c t s) _ s) _ s
theorem round_at {i:Nat}{s:St}(h:At V nm most i s)(hi:i<s.L.length)(hn:(round V nm most i s).large=false):At V nm most (i+1) (round V nm most i s):=by
 unfold round at hn ⊢;have hr1:=row_le (V:=V) (nm:=nm) (most:=most) i (tokRow V) [] s;have hr2:=row_one (V:=V) (nm:=nm) (most:=most) i (tokRow V) [] s;have hr3:=row_good (V:=V) (nm:=nm) (most:=most) i (tokRow V) [] s h.good;have hr4:=row_ok (V:=V) (nm:=nm) (most:=most) i (tokRow V) [] [] s hi ⟨rfl,fun m t ht=>by simp at ht⟩;simp only at hn ⊢
 split at hn
 ·rename_i hl
  rw[hl]at hn;cases hn
 ·rename_i hl
  rw[if_neg hl];have hl':(row V nm most i (tokRow V) [] s).2.large=false:=by simpa using hl
  have hok:=hr4 hl';rw[List.nil_append]at hok;generalize row V nm most i (tokRow V) [] s=p at *;obtain⟨r,s1⟩:=p;simp only at *;have hg0:Good V nm most (addRow r s1):=⟨hr3.nodup,hr3.named,hr3.ret,hr3.cap⟩
  have hle0:Le s1 (addRow r s1):=⟨List.prefix_refl _,List.prefix_append _ _,fun _ h=>h,fun h=>h⟩
  have hi1:i<s1.L.length:=Nat.lt_of_lt_of_le hi hr1.len;obtain⟨f1,f2⟩:=Zhj (f:=both V nm most i) (I:=fun s=>Good V nm most s∧i<s.L.length) (R:=fun j s=>∀c∈toks V 1,∀t∈toks V 2,HasRet i j c t s∧HasRet j i c t s) (C:=fun j=>j≤i)
   (fun j s=>both_le i j s) (fun j s s' hr hl c hc t ht=>⟨(hr c hc t ht).1.le hl,(hr c hc t ht).2.le hl⟩)
   (fun j s hj hs=>⟨(both_all ⟨hs.1,hs.2,Nat.lt_of_le_of_lt hj hs.2⟩).1.1,(both_all ⟨hs.1,hs.2,Nat.lt_of_le_of_lt hj hs.2⟩).1.2.1⟩)
   (fun j s hj hs hn=>(both_all ⟨hs.1,hs.2,Nat.lt_of_le_of_lt hj hs.2⟩).2 hn)
   (List.range (i+1)) (addRow r s1) (fun j hj=>by rw[List.mem_range]at hj;omega) ⟨hg0,hi1⟩
  have hleE:=Zff (f:=both V nm most i) (fun j s=>both_le i j s) (List.range (i+1)) (addRow r s1);have hone:(runTo (both V nm most i) (List.range (i+1)) (addRow r s1)).one=s1.one++[r]:=Zhi (fun j s=>both_one i j s) _ _;have hf:=f2 hn;generalize runTo (both V nm most i) (List.range (i+1)) (addRow r s1)=s2 at *;have hL:s1.L <+: s2.L:=hleE.L;refine⟨f1.1,f1.2,by rw[hone,hr2];simp[h.len],fun j q hq=>?_,fun a b ha hb c hc t ht=>?_⟩
  ·rw[hone,hr2]at hq;by_cases hj:j<s.one.length
   ·rw[List.getElem?_append_left hj]at hq;exact (h.row j q hq).pre (hr1.L.trans hL) (Nat.lt_of_lt_of_le (by rw[h.len]at hj;exact hj) h.le)
   ·have hj2:=(List.getElem?_eq_some_iff.1 hq).1;simp at hj2;have hj3:j=s.one.length:=by omega
    subst hj3;simp at hq;subst hq;rw[h.len];exact hok.pre hL hi1
  ·by_cases ea:a=i
   ·subst ea;exact (hf b (List.mem_range.2 hb) c hc t ht).1
   ·by_cases eb:b=i
    ·subst eb;exact (hf a (List.mem_range.2 ha) c hc t ht).2
    ·exact (h.rets a b (by omega) (by omega) c hc t ht).le ((hr1.trans hle0).trans hleE)
theorem close_at:∀n i s,At V nm most i s→most+1≤n+i→(close V nm most n i s).large=false→At V nm most (close V nm most n i s).L.length (close V nm most n i s)
 | 0,i,s,h,hn,hl=>by
  unfold close at hl ⊢;have:=h.good.cap hl;have:=h.le;omega
 | n+1,i,s,h,hn,hl=>by
  unfold close at hl ⊢;by_cases c:i<s.L.length∧s.large=false
  ·rw[if_pos c]at hl ⊢;cases e:(round V nm most i s).large with
   | false=>exact close_at n (i+1) _ (round_at h c.1 e) (by omega) hl
   | true=>
    rw[close_large V nm most n (i+1) _ e]at hl;rw[hl]at e;cases e
  ·rw[if_neg c]at hl ⊢;have e:i=s.L.length:=by
    have:=h.le;have:¬i<s.L.length:=fun h=>c ⟨h,hl⟩
    omega
   exact e▸h
theorem first_at:At V nm most 0 (first V nm most):=by
 unfold first
 refine⟨number_good _ ⟨List.nodup_nil,by simp,by simp,by simp⟩,Nat.zero_le _,by rw[number_one];rfl,fun j r hr=>?_,fun a b ha=>by omega⟩;rw[number_one]at hr;simp at hr
theorem table_at {n:Nat}(hn:most+1≤n)(hl:(table V nm most n).large=false):At V nm most (table V nm most n).L.length (table V nm most n):=
 close_at n 0 _ first_at (by omega) hl
end PDet
set_option linter.unusedVariables false
set_option linter.unusedSimpArgs false
namespace PDet
variable {V:VM}{nm:List Zby→List Zby}{most:Nat}
theorem number_nil {s:St}(h:s.L=[[]])(hn:nm []=[]):number nm most [] s=(0,s):=by
 unfold number;rw[hn,h];simp
theorem at_nil {s:St}(h:s.L=[[]])(i:Nat):s.L.getD i []=[]:=by
 rw[h];cases i with
 | zero=>rfl
 | succ i=>simp[List.getD_eq_getElem?_getD]
theorem Zpj {s:St}(h:s.L=[[]])(i j:Nat)(c t:Int):joinOut V s.L i j c t=[]:=by
 unfold joinOut;rw[at_nil h,at_nil h]
 rfl
theorem Zjt {s:St}(hn:nm []=[])(h:s.L=[[]])(i j:Nat)(c t:Int):(join V nm most i j c t s).L=[[]]:=by
 unfold join;rw[Zpj h,number_nil h hn];exact h
theorem join2_nil {s:St}(hn:nm []=[])(h:s.L=[[]])(i j:Nat)(c t:Int):(join2 V nm most i j c t s).L=[[]]:=by
 unfold join2
 split
 ·exact Zjt hn h ..
 ·split
  ·exact Zjt hn h ..
  ·exact Zjt hn (Zjt hn h ..) ..
theorem Zkd {α:Type}{f:α→St→St}(hf:∀x s,s.L=[[]]→(f x s).L=[[]]):∀l s,s.L=[[]]→(runTo f l s).L=[[]]
 | [],s,h=>h
 | x :: l,s,h=>by
  unfold runTo
  split
  ·exact hf x s h
  ·exact Zkd hf l _ (hf x s h)
theorem both_nil {s:St}(hn:nm []=[])(h:s.L=[[]])(i j:Nat):(both V nm most i j s).L=[[]]:=
 Zkd (fun c s h=>Zkd (fun t s h=>join2_nil hn h i j c t) _ s h) _ s h
end PDet
set_option linter.unusedVariables false
set_option linter.unusedSimpArgs false
namespace PDet
open Go.Proofs.YtaokkliamoghbaaGreatDoor.PVpa
theorem inc_len:∀(l:List Int) (a b:Int),a≤b→l.Pairwise (·<·)→(∀x∈l,a≤x∧x<b)→(l.length:Int)≤b-a
 | [],a,b,h,_,_=>by simp;omega
 | x :: r,a,b,h,hp,hi=>by
  have h1:=hi x List.mem_cons_self;have hp':=List.pairwise_cons.1 hp;have:=inc_len r (x+1) b (by omega) hp'.2 (fun y hy=>⟨by have:=hp'.1 y hy;omega,(hi y (List.mem_cons_of_mem _ hy)).2⟩);rw[List.length_cons];omega
def In (n:Nat)(x:Zby):Prop:=0≤x.1∧x.1<n∧0≤x.2∧x.2<n
def code (n:Nat)(x:Zby):Int:=x.1*n+x.2
theorem code_lt {n:Nat}{x y:Zby}(hx:In n x)(hy:In n y)(h:ltP x y=true):code n x<code n y:=by
 rw[Zfv]at h;unfold code;obtain⟨a1,a2,a3,a4⟩:=hx;obtain⟨b1,b2,b3,b4⟩:=hy
 rcases h with h | ⟨h1,h2⟩
 ·have:=Int.mul_le_mul_of_nonneg_right (show x.1+1≤y.1 by omega) (show (0:Int)≤n by omega);rw[Int.add_mul,Int.one_mul]at this;omega
 ·rw[h1];omega
theorem code_in {n:Nat}{x:Zby}(hx:In n x):0≤code n x∧code n x<(n:Int)*n:=by
 unfold code;obtain⟨a1,a2,a3,a4⟩:=hx;have h1:=Int.mul_le_mul_of_nonneg_right (show x.1+1≤(n:Int) by omega) (show (0:Int)≤n by omega);have h2:=Int.mul_nonneg a1 (show (0:Int)≤n by omega);rw[Int.add_mul,Int.one_mul]at h1;omega
theorem ris_len {n:Nat}{l:List Zby}(h:Zrv l)(hi:∀x∈l,In n x):l.length≤n*n:=by
 have h1:=inc_len (l.map (code n)) 0 ((n:Int)*n) (by have:=Int.mul_nonneg (show (0:Int)≤n by omega) (show (0:Int)≤n by omega);omega) (by
  rw[List.pairwise_map];exact List.Pairwise.imp_of_mem (fun ha hb hab=>code_lt (hi _ ha) (hi _ hb) hab) h) (by intro x hx;obtain⟨y,hy,rfl⟩:=List.mem_map.1 hx;exact code_in (hi y hy))
 rw[List.length_map]at h1;have h2:((n*n:Nat):Int)=(n:Int)*n:=by simp
 omega
theorem row_len {n:Nat}{l:List Zby}(h:Zrv l)(hi:∀x∈l,In n x)(a:Int):((l.filter fun z=>z.1==a).map (·.2)).length≤n:=by
 have h1:=inc_len ((l.filter fun z=>z.1==a).map (·.2)) 0 n (by omega) (by
  rw[List.pairwise_map];refine List.Pairwise.imp_of_mem (fun {x y} ha hb hab=>?_) (h.filter _);rw[Zfv]at hab;have e1:=(List.mem_filter.1 ha).2;have e2:=(List.mem_filter.1 hb).2;simp at e1 e2;omega) (by intro x hx;obtain⟨y,hy,rfl⟩:=List.mem_map.1 hx;obtain⟨_,_,h3,h4⟩:=hi y (List.mem_filter.1 hy).1;exact⟨h3,h4⟩)
 omega
theorem Zhx {α β:Type}{f:α→List β}{b:Nat}:∀{l:List α},(∀x∈l,(f x).length≤b)→(l.flatMap f).length≤l.length*b
 | [],_=>by simp
 | x :: r,h=>by
  have h1:=h x List.mem_cons_self;have h2:=Zhx (l:=r) (fun y hy=>h y (List.mem_cons_of_mem _ hy));rw[List.flatMap_cons,List.length_append,List.length_cons,Nat.succ_mul];omega
structure VOk (V:VM)(n:Nat):Prop where
 int:∀p t,(V.int p t).length≤200000∧∀c∈V.int p t,0≤c∧c<n
 call:∀p t,(V.call p t).length≤200000∧∀y∈V.call p t,0≤y.1∧y.1<n∧-1≤y.2∧y.2<n
 bot:∀p t,(V.bot p t).length≤200000∧∀c∈V.bot p t,0≤c∧c<n
 ret:∀p s t,(V.ret p s t).length≤1∧∀c∈V.ret p s t,0≤c∧c<n
 start:V.start.length≤200000∧∀c∈V.start,0≤c∧c<n
 few:n≤300
def Wf (n:Nat)(L:List (List Zby)):Prop:=∀l∈L,Zrv l∧∀x∈l,In n x
variable {V:VM}{n most:Nat}
theorem Wf.at {L:List (List Zby)}(h:Wf n L)(s:Nat):Zrv (L.getD s [])∧∀x∈L.getD s [],In n x:=by
 rw[List.getD_eq_getElem?_getD];cases e:L[s]? with
 | none=>exact⟨List.Pairwise.nil,fun x hx=>by simp at hx⟩
 | some l=>exact h l (List.mem_of_getElem? e)
theorem Wf.len {L:List (List Zby)}(h:Wf n L)(hn:n≤300)(s:Nat):(L.getD s []).length≤90000:=by
 have h1:=h.at s;have h2:=ris_len h1.1 h1.2;have h3:=Nat.mul_le_mul hn hn;omega
theorem stepOut_in (hv:VOk V n){L:List (List Zby)}(h:Wf n L)(s:Nat)(t:Int):(stepOut V L s t).length≤18000000000∧∀x∈stepOut V L s t,In n x:=by
 have hs:=h.at s;have hl:=h.len hv.few s;unfold stepOut;refine⟨?_,fun x hx=>?_⟩
 ·have:=Zhx (l:=L.getD s []) (b:=200000) (f:=fun x=>if kind V t=0 then (V.int x.2 t).map fun c=>(x.1,c)else if kind V t=1 then (V.call x.2 t).map fun c=>(c.1,c.1)else (V.bot x.2 t).map fun c=>(x.1,c)) (fun x _=>by
   try dsimp only
   split
   ·rw[List.length_map];exact (hv.int _ _).1
   ·split
    ·rw[List.length_map];exact (hv.call _ _).1
    ·rw[List.length_map];exact (hv.bot _ _).1)
  have:=Nat.mul_le_mul_right 200000 hl;omega
 ·obtain⟨y,hy,hx⟩:=List.mem_flatMap.1 hx;obtain⟨y1,y2,y3,y4⟩:=hs.2 y hy
  split at hx
  ·obtain⟨c,hc,rfl⟩:=List.mem_map.1 hx;exact⟨y1,y2,((hv.int _ _).2 c hc).1,((hv.int _ _).2 c hc).2⟩
  ·split at hx
   ·obtain⟨c,hc,rfl⟩:=List.mem_map.1 hx;obtain⟨c1,c2,_,_⟩:=(hv.call _ _).2 c hc;exact⟨c1,c2,c1,c2⟩
   ·obtain⟨c,hc,rfl⟩:=List.mem_map.1 hx;exact⟨y1,y2,((hv.bot _ _).2 c hc).1,((hv.bot _ _).2 c hc).2⟩
theorem joinOut_wf (hv:VOk V n){L:List (List Zby)}(h:Wf n L)(s b:Nat)(c t:Int):(joinOut V L s b c t).length≤5400000000000∧∀x∈joinOut V L s b c t,In n x:=by
 have hs:=h.at s;have hb:=h.at b;have hl:=h.len hv.few b;unfold joinOut;refine⟨?_,fun x hx=>?_⟩
 ·have:=Zhx (l:=L.getD b []) (b:=200000*300) (f:=fun x=>(V.call x.2 c).flatMap fun y=>(((L.getD s []).filter fun z=>z.1==y.1).map (·.2)).flatMap fun b=>(V.ret b y.2 t).map fun z=>(x.1,z)) (fun x _=>by
   try dsimp only
   refine Nat.le_trans (Zhx (b:=300) (fun y _=>?_)) (Nat.mul_le_mul_right _ (hv.call _ _).1);refine Nat.le_trans (Zhx (b:=1) (fun z _=>?_)) ?_
   ·rw[List.length_map];exact (hv.ret _ _ _).1
   ·have:=row_len hs.1 hs.2 y.1;have:=hv.few;omega)
  have:=Nat.mul_le_mul_right (200000*300) hl;omega
 ·obtain⟨y,hy,hx⟩:=List.mem_flatMap.1 hx;obtain⟨z,hz,hx⟩:=List.mem_flatMap.1 hx;obtain⟨u,hu,hx⟩:=List.mem_flatMap.1 hx;obtain⟨q,hq,rfl⟩:=List.mem_map.1 hx;obtain⟨y1,y2,_,_⟩:=hb.2 y hy;exact⟨y1,y2,((hv.ret _ _ _).2 q hq).1,((hv.ret _ _ _).2 q hq).2⟩
end PDet
set_option linter.unusedVariables false
set_option linter.unusedSimpArgs false
namespace Go.Proofs.YtaokkliamoghbaaGreatDoor.PVpa
open Go.RowKit Go.Proofs.YtaokkliamoghbaaGreatDoorW.PrintWords Go.Proofs.YtaokkliamoghbaaGreatDoorW.PrintLast Go.Proofs.YtaokkliamoghbaaGreatDoorW.PrintMore
open PDet (VM VOk Wf In Zbi toks number)
def Zqc (G:S26)(M:Mach):VM:=⟨intL G M,Zla G M,Zdv G M,retL G M,Zlx M,G.f0.map (·.f1)⟩
def k2 (p t:Int):Value:=.agg #[.int .i64 p,.int .i64 t]
def k3 (p q t:Int):Value:=.agg #[.int .i64 p,.int .i64 q,.int .i64 t]
def k4 (i j:Nat)(c t:Int):Value:=.agg #[.int .i64 i,.int .i64 j,.int .i64 c,.int .i64 t]
def nameV (l:List (Int × Int)):Value:=.string ⟨(Zbi l).toArray⟩
theorem nameV_inj {l m:List (Int × Int)}(h:nameV l=nameV m):l=m:=by
 unfold nameV at h;injection h with h
 injection h with h
 exact PDet.nameOf_inj (by simpa using h)
structure DK where
 w0:World
 G:S26
 M:Mach
 φ:Nat→Nat
 gb:Nat
 At:Option Addr
 ct:Nat
 Ar:Option Addr
 cr:Nat
 most:Nat
 n:Nat
 gd:Nat
 bn:Nat
 br:Nat
 bc:Nat
 bt:Nat
 c0:Value
 c1:Value
 c2:Value
abbrev DK.V (D:DK):VM:=Zqc D.G D.M
abbrev DK.b0 (D:DK):Nat:=D.w0.heap.size
def DK.row (D:DK)(vs vo:Value)(large:Bool):Array Value:=
 #[.slice D.At D.G.f0.length D.ct,.slice D.Ar D.G.f1.length D.cr,.pointer (some ⟨D.gb,0,none⟩),.int .i64 D.most,vs,.map (some D.bn),vo,.map (some D.br),.map (some D.bc),.map (some D.bt),.bool large,D.c0,D.c1,D.c2]
structure DK.Ok (D:DK):Prop where
 vr:VR D.w0 D.gb D.G D.M D.φ
 ok:D.M.Ok D.φ
 fit:Fits D.G D.M
 fit2:Fits2 D.G D.M
 v:VOk D.V D.n
 lt:D.G.f0.length≤D.ct
 toks:k70.C D.w0 D.At D.G.f0.length D.G.f0
 few:D.G.f0.length≤1000
 most:D.most≤400
 nd:[D.bn,D.br,D.bc,D.bt].Nodup
 ge:∀k,k∈[D.gd,D.bn,D.br,D.bc,D.bt]→D.b0≤k
section
variable {D:DK}{ok ok':Nat→Prop}{W W':World}{ns:List (List (Int × Int))}{s:PDet.St}
def DCell (D:DK)(ok:Nat→Prop)(W:World)(vs vo:Value)(s:PDet.St):Prop:=
 W.heap[D.gd]?=some (.cells (D.row vs vo s.large) 88 (0,0))∧(Kd.slice 90 kP).R 89 W D.b0 ok vs s.L∧(Kd.slice 3 (Kd.int .i64)).R 41 W D.b0 ok vo s.one
def NumM (D:DK)(W:World)(ns:List (List (Int × Int))):Prop:=∃M,W.mapIs Tryz.prog 9 D.bn M∧∀x,M (nameV x)=if x∈ns then some (.int .i64 (ns.idxOf x))else none
def RetM (D:DK)(W:World)(r:List ((Nat × Nat × Int × Int) × Int)):Prop:=∃M,W.mapIs Tryz.prog 95 D.br M∧∀i j c t,M (k4 i j c t)=(r.find? (fun e=>e.1==(i,j,c,t))).map (fun e=>.int .i64 e.2)
def CallM (D:DK)(ok:Nat→Prop)(W:World):Prop:=∃M,W.mapIs Tryz.prog 90 D.bc M∧∀p t v,M (k2 p t)=some v→kP.R 90 W D.b0 ok v (D.V.call p t)
def BackM (D:DK)(ok:Nat→Prop)(W:World):Prop:=∃M,W.mapIs Tryz.prog 187 D.bt M∧∀p q t v,M (k3 p q t)=some v→(Kd.int .i64).R 3 W D.b0 ok v (D.V.ret p q t)
def TokD (D:DK)(ok:Nat→Prop)(W:World):Prop:=(Kd.int .i64).R 3 W D.b0 ok D.c1 (toks D.V 1)∧(Kd.int .i64).R 3 W D.b0 ok D.c2 (toks D.V 2)
structure DS (D:DK)(ok:Nat→Prop)(W:World)(ns:List (List (Int × Int)))(s:PDet.St):Prop where
 bel:Below D.b0 D.w0 W
 okb:∀k,k∈[D.gd,D.bn,D.br,D.bc,D.bt]→ok k
 cell:∃vs vo,DCell D ok W vs vo s
 num:NumM D W ns
 ret:RetM D W s.ret
 calls:CallM D ok W
 backs:BackM D ok W
 toks:TokD D ok W
 wf:Wf D.n s.L
theorem DCell.move {vs vo:Value}(h:DCell D ok W vs vo s)(hg:ok D.gd)(hm:∀k,ok k→k<W.heap.size→W'.heap[k]?=W.heap[k]?):DCell D ok W' vs vo s:=
 ⟨(hm _ hg (Zau h.1)).trans h.1,Kd.R_step h.2.1 hm,Kd.R_step h.2.2 hm⟩
theorem NumM.move (h:NumM D W ns)(hm:W'.heap[D.bn]?=W.heap[D.bn]?):NumM D W' ns:=⟨h.choose,h.choose_spec.1.kept hm,h.choose_spec.2⟩
theorem RetM.move {r:List ((Nat × Nat × Int × Int) × Int)}(h:RetM D W r)(hm:W'.heap[D.br]?=W.heap[D.br]?):RetM D W' r:=⟨h.choose,h.choose_spec.1.kept hm,h.choose_spec.2⟩
theorem CallM.off (h:CallM D ok W)(hb:W'.heap[D.bc]?=W.heap[D.bc]?)(hm:∀k,ok k→D.b0≤k→k<W.heap.size→(∃q,q∈[90]∧∃cells,W.heap[k]?=some (.cells cells q (0,0)))→ok' k∧W'.heap[k]?=W.heap[k]?):CallM D ok' W':=
 ⟨h.choose,h.choose_spec.1.kept hb,fun p t v hv=>Zei (h.choose_spec.2 p t v hv) hm⟩
theorem BackM.off (h:BackM D ok W)(hb:W'.heap[D.bt]?=W.heap[D.bt]?)(hm:∀k,ok k→D.b0≤k→k<W.heap.size→(∃q,q∈[3]∧∃cells,W.heap[k]?=some (.cells cells q (0,0)))→ok' k∧W'.heap[k]?=W.heap[k]?):BackM D ok' W':=
 ⟨h.choose,h.choose_spec.1.kept hb,fun p q t v hv=>Zei (h.choose_spec.2 p q t v hv) hm⟩
theorem TokD.off (h:TokD D ok W)(hm:∀k,ok k→D.b0≤k→k<W.heap.size→(∃q,q∈[3]∧∃cells,W.heap[k]?=some (.cells cells q (0,0)))→ok' k∧W'.heap[k]?=W.heap[k]?):TokD D ok' W':=
 ⟨Zei h.1 hm,Zei h.2 hm⟩
theorem DS.in5 (h:DS D ok W ns s):(W.heap[D.gd]?≠none)∧D.bn<W.heap.size∧D.br<W.heap.size∧D.bc<W.heap.size∧D.bt<W.heap.size:=by
 obtain⟨vs,vo,hc,_⟩:=h.cell;exact⟨by rw[hc];simp,h.num.choose_spec.1.lt,h.ret.choose_spec.1.lt,h.calls.choose_spec.1.lt,h.backs.choose_spec.1.lt⟩
theorem DS.move (h:DS D ok W ns s)(hb:Below D.b0 D.w0 W')(hm:∀k,ok k→k<W.heap.size→W'.heap[k]?=W.heap[k]?):DS D ok W' ns s:=by
 obtain⟨i0,i1,i2,i3,i4⟩:=h.in5;have hm':∀q:List Nat,∀k,ok k→D.b0≤k→k<W.heap.size→(∃q',q'∈q∧∃cells,W.heap[k]?=some (.cells cells q' (0,0)))→ok k∧W'.heap[k]?=W.heap[k]?:=fun q k h1 _ h2 _=>⟨h1,hm k h1 h2⟩
 obtain⟨vs,vo,hc⟩:=h.cell;exact⟨hb,h.okb,⟨vs,vo,hc.move (h.okb _ (by simp)) hm⟩,h.num.move (hm _ (h.okb _ (by simp)) i1),h.ret.move (hm _ (h.okb _ (by simp)) i2),h.calls.off (hm _ (h.okb _ (by simp)) i3) (hm' _),h.backs.off (hm _ (h.okb _ (by simp)) i4) (hm' _),h.toks.off (hm' _),h.wf⟩
theorem DS.below (h:DS D ok W ns s)(hb:Below W.heap.size W W'):DS D ok W' ns s:=h.move (Zae h.bel hb) (fun k _ hk=>hb.block k hk)
theorem DS.mono (h:DS D ok W ns s)(hm:∀k,ok k→k<W.heap.size→ok' k):DS D ok' W ns s:=by
 obtain⟨i0,i1,i2,i3,i4⟩:=h.in5;have hm':∀q:List Nat,∀k,ok k→D.b0≤k→k<W.heap.size→(∃q',q'∈q∧∃cells,W.heap[k]?=some (.cells cells q' (0,0)))→ok' k∧W.heap[k]?=W.heap[k]?:=fun q k h1 _ h2 _=>⟨hm k h1 h2,rfl⟩
 obtain⟨vs,vo,hc⟩:=h.cell;refine⟨h.bel,fun k hk=>hm k (h.okb k hk) ?_,⟨vs,vo,hc.1,Zei hc.2.1 (hm' _),Zei hc.2.2 (hm' _)⟩,h.num,h.ret,h.calls.off rfl (hm' _),h.backs.off rfl (hm' _),h.toks.off (hm' _),h.wf⟩;simp only[List.mem_cons,List.not_mem_nil,or_false]at hk
 rcases hk with rfl | rfl | rfl | rfl | rfl
 ·exact Zau hc.1
 ·exact i1
 ·exact i2
 ·exact i3
 ·exact i4
theorem DS.triv (h:DS D ok W ns s):DS D (fun _=>True) W ns s:=h.mono (fun _ _ _=>trivial)
theorem Zbm {b k:Nat}{P:Program}{kt:TypeId}{M:Value→Option Value}(h:W.mapIs P kt b M){cells:Array Value}{q:TypeId}{hd:Nat × Nat}(hk:W.heap[k]?=some (.cells cells q hd)):k≠b:=by
 obtain⟨es,cl,hb,_⟩:=h;rintro rfl;rw[hb]at hk;cases hk
structure OneBlk (b:Nat)(W W':World):Prop where
 size:W.heap.size≤W'.heap.size
 blk:∀k,k<W.heap.size→k≠b→W'.heap[k]?=W.heap[k]?
theorem OneBlk.of_grown {b:Nat}(h:W.grownBy W' (some b)):OneBlk b W W':=⟨h.size,fun k hk hne=>h.block k hk (fun e=>hne (Option.some.inj e))⟩
theorem Zgd {b:Nat}{w:World}{B:Nat}(h:Below B w W)(hB:B≤W.heap.size)(hg:W.grownBy W' (some b))(hb:B≤b):Below B w W':=h.grown hg hB (fun k hk=>by rw[←Option.some.inj hk];exact hb)
theorem DS.map (h:DS D ok W ns s)(hk:D.Ok){b:Nat}(hb:Below D.b0 D.w0 W')(ho:OneBlk b W W'){P:Program}{kt:TypeId}{M:Value→Option Value}(hM:W.mapIs P kt b M) :
 (∃vs vo,DCell D ok W' vs vo s)∧(b≠D.bn→NumM D W' ns)∧(b≠D.br→RetM D W' s.ret)∧(b≠D.bc→CallM D ok W')∧(b≠D.bt→BackM D ok W')∧TokD D ok W':=by
 obtain⟨i0,i1,i2,i3,i4⟩:=h.in5;have hm':∀q:List Nat,∀k,ok k→D.b0≤k→k<W.heap.size→(∃q',q'∈q∧∃cells,W.heap[k]?=some (.cells cells q' (0,0)))→ok k∧W'.heap[k]?=W.heap[k]?:=fun q k h1 _ h2 ⟨_,_,_,hc⟩=>⟨h1,ho.blk k h2 (Zbm hM hc)⟩
 obtain⟨vs,vo,hc⟩:=h.cell;exact⟨⟨vs,vo,(ho.blk _ (Zau hc.1) (Zbm hM hc.1)).trans hc.1,Zei hc.2.1 (hm' _),Zei hc.2.2 (hm' _)⟩,fun e=>h.num.move (ho.blk _ i1 (Ne.symm e)),fun e=>h.ret.move (ho.blk _ i2 (Ne.symm e)),fun e=>h.calls.off (ho.blk _ i3 (Ne.symm e)) (hm' _),fun e=>h.backs.off (ho.blk _ i4 (Ne.symm e)) (hm' _),h.toks.off (hm' _)⟩
theorem DK.Ok.ne (hk:D.Ok):D.bn≠D.br∧D.bn≠D.bc∧D.bn≠D.bt∧D.br≠D.bc∧D.br≠D.bt∧D.bc≠D.bt:=by
 have:=hk.nd;simp only[List.nodup_cons,List.mem_cons,List.not_mem_nil,or_false,not_or]at this;exact⟨this.1.1,this.1.2.1,this.1.2.2,this.2.1.1,this.2.1.2,this.2.2.1⟩
theorem DS.putNum (h:DS D ok W ns s)(hk:D.Ok){l:List (Int × Int)}{M':Value→Option Value}(hM:W'.mapIs Tryz.prog 9 D.bn M')(hg:W.grownBy W' (some D.bn))(hM':∀x,M' (nameV x)=if x∈ns++[l]then some (.int .i64 ((ns++[l]).idxOf x))else none):DS D ok W' (ns++[l]) s:=by
 obtain⟨n1,n2,n3,n4,n5,n6⟩:=hk.ne;have hb:=Zgd h.bel h.bel.size hg (hk.ge _ (by simp));obtain⟨a1,_,a2,a3,a4,a5⟩:=h.map hk hb (.of_grown hg) h.num.choose_spec.1;exact⟨hb,h.okb,a1,⟨M',hM,hM'⟩,a2 n1,a3 n2,a4 n3,a5,h.wf⟩
theorem DS.putRet (h:DS D ok W ns s)(hk:D.Ok){i j:Nat}{c t k:Int}{M M':Value→Option Value}(hM:W'.mapIs Tryz.prog 95 D.br M')(hg:W.grownBy W' (some D.br))
 (h0:∀i j c t,M (k4 i j c t)=(s.ret.find? (fun e=>e.1==(i,j,c,t))).map (fun e=>.int .i64 e.2)) (h1:M' (k4 i j c t)=some (.int .i64 k)) (h2:∀x,x≠k4 i j c t→M' x=M x):DS D ok W' ns { s with ret:=((i,j,c,t),k) :: s.ret }:=by
 obtain⟨n1,n2,n3,n4,n5,n6⟩:=hk.ne;have hb:=Zgd h.bel h.bel.size hg (hk.ge _ (by simp));obtain⟨a1,a0,_,a3,a4,a5⟩:=h.map hk hb (.of_grown hg) h.ret.choose_spec.1;refine⟨hb,h.okb,a1,a0 (Ne.symm n1),⟨M',hM,fun i' j' c' t'=>?_⟩,a3 n4,a4 n5,a5,h.wf⟩;by_cases e:(i,j,c,t)=(i',j',c',t')
 ·simp only[Prod.mk.injEq]at e;obtain⟨rfl,rfl,rfl,rfl⟩:=e;rw[h1];simp
 ·rw[h2 _ (fun e2=>e (by
   unfold k4 at e2;simp only[Value.agg.injEq,Array.mk.injEq,List.cons.injEq,Value.int.injEq,true_and,and_true]at e2;obtain⟨q1,q2,q3,q4⟩:=e2;simp only[Prod.mk.injEq];exact⟨by omega,by omega,q3.symm,q4.symm⟩)),h0]
  rw[List.find?_cons_of_neg (by simpa using e)]
theorem DS.putCall (h:DS D ok W ns s)(hk:D.Ok){p t:Int}{v:Value}{M M':Value→Option Value}(hM:W'.mapIs Tryz.prog 90 D.bc M')(hg:W.grownBy W' (some D.bc))
 (h0:∀p t v,M (k2 p t)=some v→kP.R 90 W D.b0 ok v (D.V.call p t)) (h1:M' (k2 p t)=some v) (h2:∀x,x≠k2 p t→M' x=M x) (hv:kP.R 90 W D.b0 ok v (D.V.call p t)):DS D ok W' ns s:=by
 obtain⟨n1,n2,n3,n4,n5,n6⟩:=hk.ne;have hb:=Zgd h.bel h.bel.size hg (hk.ge _ (by simp));have ho:=OneBlk.of_grown hg;have hM0:=h.calls.choose_spec.1;obtain⟨a1,a0,a2,_,a4,a5⟩:=h.map hk hb ho hM0;have mv:∀{u:Value} {l:List (Int × Int)},kP.R 90 W D.b0 ok u l→kP.R 90 W' D.b0 ok u l:=fun hu=>Zei hu (fun k k1 _ k2 ⟨_,_,_,hc⟩=>⟨k1,ho.blk k k2 (Zbm hM0 hc)⟩)
 refine⟨hb,h.okb,a1,a0 (Ne.symm n2),a2 (Ne.symm n4),⟨M',hM,fun p' t' u hu=>?_⟩,a4 n6,a5,h.wf⟩;by_cases e:(p,t)=(p',t')
 ·simp only[Prod.mk.injEq]at e;obtain⟨rfl,rfl⟩:=e;rw[h1]at hu;rw[←Option.some.inj hu];exact mv hv
 ·rw[h2 _ (fun e2=>e (by
   unfold k2 at e2;simp only[Value.agg.injEq,Array.mk.injEq,List.cons.injEq,Value.int.injEq,true_and,and_true]at e2;obtain⟨q1,q2⟩:=e2;rw[q1,q2]))]at hu
  exact mv (h0 p' t' u hu)
theorem DS.putBack (h:DS D ok W ns s)(hk:D.Ok){p q t:Int}{v:Value}{M M':Value→Option Value}(hM:W'.mapIs Tryz.prog 187 D.bt M')(hg:W.grownBy W' (some D.bt))
 (h0:∀p q t v,M (k3 p q t)=some v→(Kd.int .i64).R 3 W D.b0 ok v (D.V.ret p q t)) (h1:M' (k3 p q t)=some v) (h2:∀x,x≠k3 p q t→M' x=M x) (hv:(Kd.int .i64).R 3 W D.b0 ok v (D.V.ret p q t)):DS D ok W' ns s:=by
 obtain⟨n1,n2,n3,n4,n5,n6⟩:=hk.ne;have hb:=Zgd h.bel h.bel.size hg (hk.ge _ (by simp));have ho:=OneBlk.of_grown hg;have hM0:=h.backs.choose_spec.1;obtain⟨a1,a0,a2,a3,_,a5⟩:=h.map hk hb ho hM0;have mv:∀{u:Value} {l:List Int},(Kd.int .i64).R 3 W D.b0 ok u l→(Kd.int .i64).R 3 W' D.b0 ok u l:=fun hu=>Zei hu (fun k k1 _ k2 ⟨_,_,_,hc⟩=>⟨k1,ho.blk k k2 (Zbm hM0 hc)⟩)
 refine⟨hb,h.okb,a1,a0 (Ne.symm n3),a2 (Ne.symm n5),a3 (Ne.symm n6),⟨M',hM,fun p' q' t' u hu=>?_⟩,a5,h.wf⟩;by_cases e:(p,q,t)=(p',q',t')
 ·simp only[Prod.mk.injEq]at e;obtain⟨rfl,rfl,rfl⟩:=e;rw[h1]at hu;rw[←Option.some.inj hu];exact mv hv
 ·rw[h2 _ (fun e2=>e (by
   unfold k3 at e2;simp only[Value.agg.injEq,Array.mk.injEq,List.cons.injEq,Value.int.injEq,true_and,and_true]at e2;obtain⟨q1,q2,q3⟩:=e2;rw[q1,q2,q3]))]at hu
  exact mv (h0 p' q' t' u hu)
end
end Go.Proofs.YtaokkliamoghbaaGreatDoor.PVpa
set_option linter.unusedVariables false
set_option linter.unusedSimpArgs false
namespace Go.Proofs.YtaokkliamoghbaaGreatDoor.PVpa
open Go.Maps Go.WideMaps
def I64 (x:Int):Prop:=-9223372036854775808≤x∧x≤9223372036854775807
theorem laidOut:laidOutB Tryz.prog=true:=by kernel_rfl
theorem Zmv:∃m,Tryz.prog.types.size=m+1:=by
 have h:0<Tryz.prog.types.size:=of_decide_eq_true (by kernel_rfl);exact⟨Tryz.prog.types.size-1,by omega⟩
theorem Zrn:Tryz.prog.cellsOf 3=1:=by kernel_rfl
theorem cells90_:Tryz.prog.cellsOf 90=2:=by kernel_rfl
theorem cells187_:Tryz.prog.cellsOf 187=3:=by kernel_rfl
theorem cells95_:Tryz.prog.cellsOf 95=4:=by kernel_rfl
theorem row90:(90:TypeId)<Tryz.prog.types.size:=of_decide_eq_true (by kernel_rfl)
theorem row187:(187:TypeId)<Tryz.prog.types.size:=of_decide_eq_true (by kernel_rfl)
theorem row95:(95:TypeId)<Tryz.prog.types.size:=of_decide_eq_true (by kernel_rfl)
theorem keyed90:Keyed Tryz.prog 90:=Keyed.of_law (deep_law_laid laidOut (m:=2) (by omega) row90 (by kernel_rfl) (by rw[Tryz.underlying90]))
theorem keyed187:Keyed Tryz.prog 187:=Keyed.of_law (deep_law_laid laidOut (m:=2) (by omega) row187 (by kernel_rfl) (by rw[Tryz.underlying187]))
theorem keyed95:Keyed Tryz.prog 95:=Keyed.of_law (deep_law_laid laidOut (m:=2) (by omega) row95 (by kernel_rfl) (by rw[Tryz.underlying95]))
theorem keyed9:Keyed Tryz.prog 9:=string_keyed Tryz.underlying9
theorem keyed3:Keyed Tryz.prog 3:=int_keyed Tryz.underlying3
theorem ktype90:Tryz.prog.keyType 90=true:=by kernel_rfl
theorem ktype187:Tryz.prog.keyType 187=true:=by kernel_rfl
theorem ktype95:Tryz.prog.keyType 95=true:=by kernel_rfl
theorem wf64 {x:Int}(h:I64 x):(Lit.int .i64 x).wf=true:=by
 obtain⟨h1,h2⟩:=h;have e1:IntKind.i64.min=-9223372036854775808:=by decide
 have e2:IntKind.i64.max=9223372036854775807:=by decide
 simp only[Lit.wf,e1,e2,Bool.and_eq_true,decide_eq_true_eq];exact⟨h1,h2⟩
theorem key9 (s:ByteArray)(h:s.size≤maxLen):∃l,keyOf Tryz.prog 9 (.string s)=some l:=⟨.string s.data.toList,by simp[keyOf,mapKey,Tryz.underlying9,h]⟩
theorem key3 {p:Int}(hp:I64 p):∃l,keyOf Tryz.prog 3 (.int .i64 p)=some l:=⟨.int .i64 p,by simp[keyOf,mapKey,Tryz.underlying3,wf64 hp]⟩
theorem key90 {p t:Int}(hp:I64 p)(ht:I64 t):∃l,keyOf Tryz.prog 90 (.agg #[.int .i64 p,.int .i64 t])=some l:=by
 obtain⟨m,hm⟩:=Zmv;exact⟨.string (keyBytes [.int .i64 p,.int .i64 t]),by simp[keyOf,ktype90,Value.formed,Value.cells,Tryz.underlying90,Tryz.underlying3,cells90_,Zrn,hm,Program.keyLits,List.range,List.range.loop,wf64 hp,wf64 ht]⟩
theorem key187 {p q t:Int}(hp:I64 p)(hq:I64 q)(ht:I64 t):∃l,keyOf Tryz.prog 187 (.agg #[.int .i64 p,.int .i64 q,.int .i64 t])=some l:=by
 obtain⟨m,hm⟩:=Zmv;exact⟨.string (keyBytes [.int .i64 p,.int .i64 q,.int .i64 t]),by simp[keyOf,ktype187,Value.formed,Value.cells,Tryz.underlying187,Tryz.underlying3,cells187_,Zrn,hm,Program.keyLits,List.range,List.range.loop,wf64 hp,wf64 hq,wf64 ht]⟩
theorem key95 {p q r t:Int}(hp:I64 p)(hq:I64 q)(hr:I64 r)(ht:I64 t):∃l,keyOf Tryz.prog 95 (.agg #[.int .i64 p,.int .i64 q,.int .i64 r,.int .i64 t])=some l:=by
 obtain⟨m,hm⟩:=Zmv;exact⟨.string (keyBytes [.int .i64 p,.int .i64 q,.int .i64 r,.int .i64 t]),by simp[keyOf,ktype95,Value.formed,Value.cells,Tryz.underlying95,Tryz.underlying3,cells95_,Zrn,hm,Program.keyLits,List.range,List.range.loop,wf64 hp,wf64 hq,wf64 hr,wf64 ht]⟩
end Go.Proofs.YtaokkliamoghbaaGreatDoor.PVpa
