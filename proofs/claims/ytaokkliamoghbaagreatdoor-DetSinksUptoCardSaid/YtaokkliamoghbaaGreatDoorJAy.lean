/- Joined from texts of this seat, in their order. -/
import Derived.Test.YtaokkliamoghbaaGreatDoorJAx
import Derived.Test.YtaokkliamoghbaaGreatDoorJAo
import Derived.Test.YtaokkliamoghbaaGreatDoorJAp
import Derived.Test.YtaokkliamoghbaaGreatDoorRows
import Derived.Test.YtaokkliamoghbaaGreatDoorJAf
import Derived.Test.YtaokkliamoghbaaGreatDoorJAq
import Derived.WalkKit
import Derived.ProofKit
import Derived.OpenShut
import Derived.Deep.Matrix
import Derived.Lib.LaidTab
import Derived.Stop.LaidErr
set_option linter.unusedVariables false
set_option linter.unusedSimpArgs false
set_option linter.unusedSectionVars false
set_option linter.unusedVariables false
set_option maxRecDepth 100000
namespace Go.Proofs.YtaokkliamoghbaaGreatDoor.PVpa
open Go.RowKit Go.Proofs.YtaokkliamoghbaaGreatDoorW.PrintWords Go.Proofs.YtaokkliamoghbaaGreatDoorW.PrintLast Go.Proofs.YtaokkliamoghbaaGreatDoorW.PrintMore
theorem Zpe (w:World)(A:Option Addr)(cl:Nat)(l:List (List Int))(hl:(Kd.slice 3 (Kd.int .i64)).C w A l.length l)(hs:∀x∈l,x.length≤1048576) :
 Calls Tryz.prog 10 #[.slice A l.length cl] w fun e w'=>∃G At Ar ct cr,e=.returned (.agg #[.slice At G.f0.length ct,.slice Ar G.f1.length cr])∧MakeOk l.length G∧GramR w' G At Ar ct cr∧Below w.heap.size w w':=by
 by_cases h3:l.length≤3
 ·exact make4_call w A cl l h3 hl hs
 ·exact make6_call w A cl l h3 hl hs
theorem toldD_true (w:World)(ho:Own w)(ht:TabW w):Calls Tryz.prog 12 #[] w fun e w'=>e=.returned (.bool true)∧Below w.heap.size w w':=
 toldD_call w ho ht (fun W=>Zpe W none 0 [] (Kd.C_nil _ _) (fun x hx=>by cases hx))
theorem cap_of (n:Int):∃x:Nat,1≤x∧x≤60∧wrap64 (1+wrap64 ((IntKind.u64.wrap n).tmod 60))=(x:Int):=by
 have h0:0≤IntKind.u64.wrap n:=by
  simp only[IntKind.wrap,IntKind.signed,IntKind.bits]
  first | exact Int.emod_nonneg _ (by decide) | (split <;> omega) | omega
 obtain⟨u,hu⟩:∃u,u=IntKind.u64.wrap n:=⟨_,rfl⟩
 rw[←hu]at h0 ⊢;rw[Int.tmod_eq_emod_of_nonneg h0];have h1:=Int.emod_nonneg u (show (60:Int)≠0 by decide);have h2:=Int.emod_lt_of_pos u (show (0:Int)<60 by decide);refine⟨(1+u % 60).toNat,by omega,by omega,?_⟩;unfold wrap64;omega
set_option maxHeartbeats 8000000 in
theorem caps_law (w:World)(ho:Own w)(ht:TabW w)(A:Option Addr)(cl:Nat)(l:List (List Int))(hl:(Kd.slice 3 (Kd.int .i64)).C w A l.length l)(hs:∀x∈l,x.length≤1048576)(n1 n2:Int) :
 Calls Tryz.prog 3 #[.slice A l.length cl,.int .i64 n1,.int .i64 n2] w fun e w'=>e=.returned (.bool true)∧Below w.heap.size w w':=by
 have HO:=Zrw.mk ho;have HT:=Zrw.mk ht;have HMK:=Zrw.mk (Zpe w A cl l hl hs);clear ho ht hl hs
 go_enter Tryz.func3,Tryz.ntmps3
 go_upto_region 2 with (go_at_call 10;(with_reducible refine HMK.out.mono ?_);rintro e w1 ⟨G,At,Ar,ct,cr,rfl,hm,hg,hb1⟩;have HM:=Zrw.mk hm;have HG:=Zrw.mk hg;have HB1:=Zrw.mk hb1;clear hm hg hb1)
 have hbx:=Zab (Below.refl _ w1) (.cells #[.slice At G.f0.length ct,.slice Ar G.f1.length cr] 26);have hkx:=Zaj w1 (.cells #[.slice At G.f0.length ct,.slice Ar G.f1.length cr] 26);generalize w1.alloc (.cells #[.slice At G.f0.length ct,.slice Ar G.f1.length cr] 26)=X at *;obtain⟨g1,hg1⟩:∃g1,g1=w1.heap.size:=⟨_,rfl⟩
 rw[←hg1]at hkx ⊢;have HBX:=Zrw.mk (Zae HB1.out hbx);have HGX:=Zrw.mk (HG.out.below hbx);have HKX:=Zrw.mk hkx;clear hbx hkx hg1
 go_upto_region 3 with fail
 obtain⟨a,a1,a2,ha⟩:=cap_of n1;obtain⟨b,b1,b2,hb⟩:=cap_of n2;rw[ha,hb];clear ha hb;have q0:=(Zaa HKX.out 0).trans rfl;have q1:=(Zaa HKX.out 1).trans rfl
 go_upto_if 28 with (fail)
 go_cut [8,9] (fun s8 s9 wx=>∃x y:Nat,1≤x∧x≤y∧y≤60∧s8=.int .i64 x∧s9=.int .i64 y∧wx=X)
 case first=>
  by_cases hab:b<a
  ·have d1:decide (b<a)=true:=decide_eq_true hab;have d2:decide ((b:Int)<(a:Int))=true:=decide_eq_true (by omega);go_wp2
   go_meet
   exact⟨b,a,b1,by omega,a2,rfl,rfl,rfl⟩
  ·have d1:decide (b<a)=false:=decide_eq_false hab;have d2:decide ((b:Int)<(a:Int))=false:=decide_eq_false (by omega);go_wp2
   go_meet
   exact⟨a,b,a1,by omega,b2,rfl,rfl,rfl⟩
 case rest=>
  clear a1 a2 b1 b2;obtain⟨x,y,x1,xy,y60,rfl,rfl,hw⟩:=hcut;obtain rfl:=hw.symm;clear hw;have HX:=Zrw.mk (Zgn X At Ar ct cr G HGX.out HM.out.gramD (HO.out.below HBX.out) (tab_at HT.out HBX.out) x x1 (by omega));have HCAP:=Zrw.mk (tab_caps G xy x1);have HY:Zrw (∀W,Below X.heap.size X W→Calls Tryz.prog 11 #[.agg #[.slice At G.f0.length ct,.slice Ar G.f1.length cr],.int .i64 y] W (BuildD W G y)):=⟨fun W hb=>Zgn W At Ar ct cr G (HGX.out.below hb) HM.out.gramD (HO.out.below (Zae HBX.out hb)) (tab_at HT.out (Zae HBX.out hb)) y (by omega) (by omega)⟩
  have HTOLD:Zrw (∀W,Below X.heap.size X W→Calls Tryz.prog 12 #[] W fun e w'=>e=.returned (.bool true)∧Below W.heap.size W w'):=⟨fun W hb=>toldD_true W (HO.out.below (Zae HBX.out hb)) (tab_at HT.out (Zae HBX.out hb))⟩
  clear x1 xy y60
  rcases HCAP.out with⟨e1,e2,e3⟩ | ⟨e1,e2⟩
  ·have e4:(Zbz G y).large=false:=by rw[←e1];exact e2
   have HE4:=Zrw.mk e4;have HE2:=Zrw.mk e2;have HLY:Zrw ((Zbz G y).L.length=(Zbz G x).L.length):=⟨by rw[e1]⟩
   obtain⟨n,hn⟩:∃n,n=(Zbz G x).L.length:=⟨_,rfl⟩
   have HN:=Zrw.mk hn;rw[←hn]at e3;have d1:decide (n≤x)=true:=decide_eq_true e3;have d2:decide ((n:Int)≤(x:Int))=true:=decide_eq_true (by omega);clear e1 e2 e3 e4 hn HCAP
   go_upto_region 6 with (go_at_call 11;(with_reducible refine HX.out.mono ?_);rintro e w2 hB;obtain⟨gd,rfl,hd2,hb2⟩:=hB.good HE2.out;have HD2:=Zrw.mk hd2;have HB2:=Zrw.mk hb2;clear hB hd2 hb2)
   have KX:=Zrw.mk (Zaf HKX.out HB2.out);have q0:=(Zaa KX.out 0).trans rfl;have q1:=(Zaa KX.out 1).trans rfl
   go_upto_region 7 with (go_at_call 11;(with_reducible refine (HY.out _ HB2.out).mono ?_);rintro e w3 hB;obtain⟨gm,rfl,hd3,hb3⟩:=hB.good HE4.out;have HD3:=Zrw.mk hd3;have HD2:=Zrw.mk (HD2.out.below hb3);have HB3:=Zrw.mk (Zae HB2.out hb3);clear hB hd3 hb3)
   have HL1:Zrw (∀W,Below w3.heap.size w3 W→Calls Tryz.prog 13 #[.pointer (some ⟨gd,0,none⟩)] W fun e w'=>e=.returned (.int .i64 n)∧w'=W):=⟨fun W hb=>by rw[HN.out];exact (HD2.out.below hb).len⟩
   have HL2:Zrw (∀W,Below w3.heap.size w3 W→Calls Tryz.prog 13 #[.pointer (some ⟨gm,0,none⟩)] W fun e w'=>e=.returned (.int .i64 n)∧w'=W):=⟨fun W hb=>by rw[HN.out,←HLY.out];exact (HD3.out.below hb).len⟩
   have HTL:Zrw (∀W,Below w3.heap.size w3 W→Calls Tryz.prog 12 #[] W fun e w'=>e=.returned (.bool true)∧Below W.heap.size W w'):=⟨fun W hb=>HTOLD.out W (Zae HB3.out hb)⟩
   have HW3:=Zrw.mk (Zae HBX.out HB3.out);have HB6C:=Zrw.mk (Below.refl w3.heap.size w3);clear q0 q1
   go_wp2_with (first
    | (go_at_call 13;first
     | ((with_reducible refine (HL1.out _ HB6C.out).mono ?_);rintro e w7 ⟨rfl,hw⟩;obtain rfl:=hw.symm)
     | ((with_reducible refine (HL2.out _ HB6C.out).mono ?_);rintro e w7 ⟨rfl,hw⟩;obtain rfl:=hw.symm))
    | (go_at_call 12;(with_reducible refine (HTL.out _ HB6C.out).mono ?_);rintro e w7 ⟨rfl,hb⟩;have HB6C:=Zrw.mk (Zae HB6C.out hb);clear hb))
   go_ret
   exact⟨rfl,Zae HW3.out HB6C.out⟩
  ·have HE1:=Zrw.mk e1;cases e4:(Zbz G y).large with
   | true=>
    have HE4:=Zrw.mk e4;clear e1 e2 e4 HCAP
    go_upto_region 6 with (go_at_call 11;(with_reducible refine HX.out.mono ?_);rintro e w2 hB;obtain⟨rfl,hb2⟩:=hB.bad HE1.out;have HB2:=Zrw.mk hb2;clear hB hb2)
    have KX:=Zrw.mk (Zaf HKX.out HB2.out);have q0:=(Zaa KX.out 0).trans rfl;have q1:=(Zaa KX.out 1).trans rfl
    go_upto_region 7 with (go_at_call 11;(with_reducible refine (HY.out _ HB2.out).mono ?_);rintro e w3 hB;obtain⟨rfl,hb3⟩:=hB.bad HE4.out;have HB3:=Zrw.mk (Zae HB2.out hb3);clear hB hb3)
    have HTL:Zrw (∀W,Below w3.heap.size w3 W→Calls Tryz.prog 12 #[] W fun e w'=>e=.returned (.bool true)∧Below W.heap.size W w'):=⟨fun W hb=>HTOLD.out W (Zae HB3.out hb)⟩
    have HW3:=Zrw.mk (Zae HBX.out HB3.out);have HB6C:=Zrw.mk (Below.refl w3.heap.size w3);clear q0 q1
    go_wp2_with (first
     | (go_at_call 13;first
      | ((with_reducible refine (HL2.out _ HB6C.out).mono ?_);rintro e w7 ⟨rfl,hw⟩;obtain rfl:=hw.symm))
     | (go_at_call 12;(with_reducible refine (HTL.out _ HB6C.out).mono ?_);rintro e w7 ⟨rfl,hb⟩;have HB6C:=Zrw.mk (Zae HB6C.out hb);clear hb))
    go_ret
    exact⟨rfl,Zae HW3.out HB6C.out⟩
   | false=>
    have HE4:=Zrw.mk e4;obtain⟨n,hn⟩:∃n,n=(Zbz G y).L.length:=⟨_,rfl⟩
    have HN:=Zrw.mk hn;rw[←hn]at e2;have d1:decide (x<n)=true:=decide_eq_true e2;have d2:decide ((x:Int)<(n:Int))=true:=decide_eq_true (by omega);clear e1 e2 e4 hn HCAP
    go_upto_region 6 with (go_at_call 11;(with_reducible refine HX.out.mono ?_);rintro e w2 hB;obtain⟨rfl,hb2⟩:=hB.bad HE1.out;have HB2:=Zrw.mk hb2;clear hB hb2)
    have KX:=Zrw.mk (Zaf HKX.out HB2.out);have q0:=(Zaa KX.out 0).trans rfl;have q1:=(Zaa KX.out 1).trans rfl
    go_upto_region 7 with (go_at_call 11;(with_reducible refine (HY.out _ HB2.out).mono ?_);rintro e w3 hB;obtain⟨gm,rfl,hd3,hb3⟩:=hB.good HE4.out;have HD3:=Zrw.mk hd3;have HB3:=Zrw.mk (Zae HB2.out hb3);clear hB hd3 hb3)
    have HL2:Zrw (∀W,Below w3.heap.size w3 W→Calls Tryz.prog 13 #[.pointer (some ⟨gm,0,none⟩)] W fun e w'=>e=.returned (.int .i64 n)∧w'=W):=⟨fun W hb=>by rw[HN.out];exact (HD3.out.below hb).len⟩
    have HTL:Zrw (∀W,Below w3.heap.size w3 W→Calls Tryz.prog 12 #[] W fun e w'=>e=.returned (.bool true)∧Below W.heap.size W w'):=⟨fun W hb=>HTOLD.out W (Zae HB3.out hb)⟩
    have HW3:=Zrw.mk (Zae HBX.out HB3.out);have HB6C:=Zrw.mk (Below.refl w3.heap.size w3);clear q0 q1
    go_wp2_with (first
     | (go_at_call 13;first
      | ((with_reducible refine (HL2.out _ HB6C.out).mono ?_);rintro e w7 ⟨rfl,hw⟩;obtain rfl:=hw.symm))
     | (go_at_call 12;(with_reducible refine (HTL.out _ HB6C.out).mono ?_);rintro e w7 ⟨rfl,hb⟩;have HB6C:=Zrw.mk (Zae HB6C.out hb);clear hb))
    go_ret
    exact⟨rfl,Zae HW3.out HB6C.out⟩
end Go.Proofs.YtaokkliamoghbaaGreatDoor.PVpa
namespace Go.Proofs.YtaokkliamoghbaaGreatDoor.PVpa
open Go.ChangeShapes Go.WideShapes Go.ChangeAt Go.Deep Go.RowKit Go.Proofs.YtaokkliamoghbaaGreatDoorW.PrintWords Go.Proofs.YtaokkliamoghbaaGreatDoorW.PrintLast
theorem bk_one {H:Type}(d:DataW H):1≤Rows.uptoBulk d:=by
 cases d with
 | lit l=>cases l <;> simp[Rows.uptoBulk]
 | nil=>simp[Rows.uptoBulk]
 | ptr d=>simp[Rows.uptoBulk]
 | slice elems spare=>simp[Rows.uptoBulk]
 | agg parts=>simp[Rows.uptoBulk]
 | iface t d=>simp[Rows.uptoBulk]
 | map entries=>simp[Rows.uptoBulk]
 | held h=>simp[Rows.uptoBulk]
theorem bk_part {H:Type}{d:DataW H}{l:List (DataW H)}(h:d∈l):Rows.uptoBulk d≤Rows.uptoBulkAll l:=by
 induction l with
 | nil=>cases h
 | cons x r ih=>
  simp only[Rows.uptoBulkAll];cases List.mem_cons.1 h with
  | inl e=>subst e;omega
  | inr e=>have:=ih e;omega
theorem Zpy {H:Type}(l:List (DataW H)):l.length≤Rows.uptoBulkAll l:=by
 induction l with
 | nil=>simp[Rows.uptoBulkAll]
 | cons x r ih=>have:=bk_one x;simp only[Rows.uptoBulkAll,List.length_cons];omega
theorem bk_slice {H:Type}(elems spare:List (DataW H)):elems.length+spare.length+1≤Rows.uptoBulk (.slice elems spare):=by
 have h1:=Zpy elems;have h2:=Zpy spare;simp only[Rows.uptoBulk];omega
theorem bk_elem {H:Type}{elems spare:List (DataW H)}{d:DataW H}(h:d∈elems):Rows.uptoBulk d≤Rows.uptoBulk (.slice elems spare):=by
 have h1:=bk_part h;simp only[Rows.uptoBulk];omega
theorem bk_bound {H:Type}{l:List (DataW H)}(hk:Rows.uptoSmall H l=true):Rows.uptoBulkAll l≤1048576:=of_decide_eq_true hk
theorem Zny {H:Type}{enc:TypeId × Value→H}{P:Program}{w:World}{base:Nat}{sp:Nat→Bool}{held:Bool}{fuel:Nat}{t e:TypeId}{n:Nat}{cs:List Value}{ss:List (List UInt8)}{p:List MemPlace}
 (ht:P.underlying t=some (.array n e)) (he:P.underlying e=some .string) (hce:P.cellsOf e=1) (hct:P.cellsOf t=n)
 (h:DataW.trod enc P w base sp held fuel t cs=some (.agg (ss.map fun s=>.lit (.string s)),p)):cs=ss.map fun s=>Value.string ⟨s.toArray⟩:=by
 cases fuel with
 | zero=>simp[DataW.trod]at h
 | succ fuel=>
  simp only[DataW.trod,ht,hce,hct,Nat.mul_one]at h
  split at h
  ·rename_i hl
   obtain⟨xs,hm,hx⟩:=Option.map_eq_some_iff.1 h;have hxs:xs.map (·.1)=ss.map fun s=>(DataW.lit (.string s):DataW H):=by
    have:=congrArg Prod.fst hx;simpa using this
   have hxl:xs.length=n:=by simpa using Lib.mapM_length hm
   have hzl:ss.length=n:=by
    have:=congrArg List.length hxs;simp at this;omega
   apply List.ext_getElem?;intro i;by_cases hi:i<n
   ·obtain⟨b,hb,hf⟩:=Lib.mapM_at hm i i (by simp[hi]);obtain⟨s,hc,rfl,_⟩:=DataW.trod_string he hf;have h1:cs[i]?=some (.string s):=by
     have:=congrArg (·[0]?) hc;simpa[List.getElem?_take,List.getElem?_drop]using this
    have h2:(xs.map (·.1))[i]?=some (DataW.lit (.string s.data.toList):DataW H):=by simp[hb]
    rw[hxs]at h2;simp only[List.getElem?_map,Option.map_eq_some_iff,DataW.lit.injEq,Lit.string.injEq]at h2;obtain⟨z',hz',rfl⟩:=h2;simp[h1,hz']
   ·rw[List.getElem?_eq_none (by omega),List.getElem?_eq_none (by simp;omega)]
  ·cases h
theorem gOwn : Tryz.prog.globalNamed "gobo/gram.own" = some 0 := by kernel_rfl
theorem gOwnType:(Tryz.prog.globals[0]?).map (·.type)=some 167:=by kernel_rfl
theorem cells181:Tryz.prog.cellsOf 167=6:=by kernel_rfl
theorem cells9:Tryz.prog.cellsOf 9=1:=by kernel_rfl
theorem own_laid {W : World}(h : laidMetH Tryz.prog [("gobo/gram.own", Rows.laid_gobo_gram_own)] W) : Own W := by
 have hm : laidMet Tryz.prog (("gobo/gram.own", Rows.laid_gobo_gram_own) :: []) W := h
 obtain⟨ps,⟨g',t',cs,fuel,p,q,hg',ht',hvar,hd,_,_⟩,_⟩:=hm;obtain rfl:=Option.some.inj (gOwn.symm.trans hg');obtain rfl:=Option.some.inj (gOwnType.symm.trans ht');have hcs:=Zny (ss:=[[116,111,107],[114,117,108,101],[105,110,116],[99,97,108,108],[114,101,116],[102,114,101,101]]) Tryz.underlying167 Tryz.underlying9 cells9 cells181 hd;refine⟨rfl,by decide,fun _=>⟨⟨0,0,none⟩,rfl,fun j p hj=>⟨[.string p],rfl,rfl,fun i u hu=>?_⟩⟩⟩;have hi:i=0∧u=.string p:=by
  cases i with
  | zero=>simp at hu;exact⟨rfl,hu.symm⟩
  | succ i=>simp at hu
 obtain⟨rfl,rfl⟩:=hi;have hcell:=World.var?_cell gOwn hvar j
 have e:(Addr.add ⟨0,0,none⟩ (j*(Kd.string).sz+0))=⟨0,j,none⟩:=by
  show Addr.add ⟨0,0,none⟩ (j*1+0)=⟨0,j,none⟩
  rw[Nat.mul_one,Nat.add_zero];unfold Addr.add
  split
  ·rename_i h
   subst h
   rfl
  ·rw[Nat.zero_add]
 rw[e,hcell];have hcs':cs=(ownS.map Value.string).toArray:=by
  apply Array.ext';rw[hcs]
  rfl
 rw[hcs'];simp[hj]
theorem open_rows {H:Type}{enc:TypeId × Value→H}{W:World}{base fuel len cap:Nat}{held:Bool}{a:Option Addr}{x:DataW H × List MemPlace}
 (h:DataW.trod enc Tryz.prog W base (fun _=>true) held fuel 22 [.slice a len cap]=some x) :
 ∃l:List (List Int),len=l.length∧(Kd.slice 3 (Kd.int .i64)).C W a l.length l∧∀r∈l,r.length≤Rows.uptoBulk x.1:=by
 rcases open_int_rows Tryz.underlying22 Tryz.underlying41 Tryz.underlying3 (by kernel_rfl) (by kernel_rfl) h with⟨hcs,_⟩ | ⟨ad,len',cap',A,L,C,Z,hcs,_,hlc,hcm,hx,hr⟩
 ·simp only[List.cons.injEq,Value.slice.injEq,and_true]at hcs;obtain⟨rfl,rfl,rfl⟩:=hcs;exact⟨[],rfl,Kd.C_nil _ _,fun r hr=>by cases hr⟩
 ·simp only[List.cons.injEq,Value.slice.injEq,and_true]at hcs;obtain⟨rfl,rfl,rfl⟩:=hcs;have hll:((List.range len).map fun r=>(Z r).take (L r)).length=len:=by simp
  refine⟨(List.range len).map fun r=>(Z r).take (L r),hll.symm,⟨rfl,by rw[hll];unfold maxLen at hcm;omega,fun _=>⟨ad,rfl,fun j p hj=>?_⟩⟩,fun r hrm=>?_⟩
  ·have hjl:j<len:=by have:=(List.getElem?_eq_some_iff.1 hj).1;simpa using this
   have hp:p=(Z j).take (L j):=by
    simp[List.getElem?_map,List.getElem?_range hjl]at hj;exact hj.symm
   obtain⟨r1,r2,r3,r4,r5,r6,r7⟩:=hr j (by omega);have hpl:p.length=L j:=by rw[hp,List.length_take];omega
   refine⟨[.slice (A j) (L j) (C j)],rfl,⟨A j,C j,by rw[hpl],by rw[hpl];exact r2,rfl,by rw[hpl];unfold maxLen at r3;omega,fun hpos=>?_⟩,fun i u hu=>?_⟩
   ·cases hA:A j with
    | none=>have:=r6 hA;omega
    | some a'=>
     refine⟨a',rfl,fun i z hz=>⟨[.int .i64 z],rfl,rfl,fun m u hu=>?_⟩⟩;have hm:m=0∧u=.int .i64 z:=by
      cases m with
      | zero=>simp at hu;exact⟨rfl,hu.symm⟩
      | succ m=>simp at hu
     obtain⟨rfl,rfl⟩:=hm;have hil:i<L j:=by have:=(List.getElem?_eq_some_iff.1 hz).1;omega
     have e:i*(Kd.int IntKind.i64).sz+0=i:=by simp[Kd.int,Kd.scalar]
     rw[e,(r7 a' hA).2 i (by omega)];have hzz:(Z j)[i]?=some z:=by
      rw[hp,List.getElem?_take]at hz;simpa[hil]using hz
     rw[List.getD_eq_getElem?_getD,hzz]
     rfl
   ·have hm:i=0∧u=.slice (A j) (L j) (C j):=by
     cases i with
     | zero=>simp at hu;exact⟨rfl,hu.symm⟩
     | succ i=>simp at hu
    obtain⟨rfl,rfl⟩:=hm;have e:j*(Kd.slice 3 (Kd.int IntKind.i64)).sz+0=j:=by simp[Kd.slice]
    rw[e];exact r1
  ·obtain⟨j,hj,rfl⟩:=List.mem_map.1 hrm;have hjl:=List.mem_range.1 hj;obtain⟨r1,r2,r3,r4,r5,r6,r7⟩:=hr j (by omega);have hxe:x.1=(.slice ((List.range len).map fun r=>intRow .i64 (A r) (L r) (Z r)) ((List.range (cap-len)).map fun j=>intRow .i64 (A (len+j)) (L (len+j)) (Z (len+j)))):=by rw[hx]
   rw[hxe];refine Nat.le_trans ?_ (bk_elem (d:=intRow .i64 (A j) (L j) (Z j)) (List.mem_map.2 ⟨j,hj,rfl⟩))
   unfold intRow;cases hA:A j with
   | none=>have:=r6 hA;have h2:=bk_one (DataW.nil (H:=H));simp only[List.length_take];omega
   | some a'=>
    refine Nat.le_trans ?_ (bk_slice _ _)
    have:(lits (H:=H) IntKind.i64 ((Z j).take (L j))).length=((Z j).take (L j)).length:=by simp[lits]
    omega
end Go.Proofs.YtaokkliamoghbaaGreatDoor.PVpa
namespace Go.Proofs.YtaokkliamoghbaaGreatDoor.PVpa
open Go.ChangeShapes Go.WideShapes Go.ChangeAt Go.Deep Go.RowKit Go.Proofs.YtaokkliamoghbaaGreatDoorW.PrintWords Go.Proofs.YtaokkliamoghbaaGreatDoorW.PrintLast
abbrev laid4 : List (String × DataW Unit) := [("math/bits.deBruijn32tab", Rows.laid_math_bits_deBruijn32tab), ("math/bits.deBruijn64tab", Rows.laid_math_bits_deBruijn64tab), ("internal/strconv.uint64pow10", Rows.laid_internal_strconv_uint64pow10), ("gobo/gram.own", Rows.laid_gobo_gram_own)]
theorem laid_own {W:World}(h:laidMetH Tryz.prog laid4 W):Own W∧TabW W:=by
 have h1:laidMet Tryz.prog laid4 W:=h;have h3:=h1.tail.tail;exact⟨own_laid h3.tail,Lib.tabBelow_of_tabIs (Lib.tabIs_of_head (k:=.u64) (zs:=Lib.pow10Tab) (g:=1) (t:=220) (e:=183) (n:=20) (by kernel_rfl) (by kernel_rfl) (by kernel_rfl) (by kernel_rfl) (by kernel_rfl) (by kernel_rfl) h3)⟩
def setCells (a:Array Value):Obj→Obj
 | .cells _ t frozen=>.cells a t frozen
 | o=>o
noncomputable def laidWorld (os:Os):World:=
 { World.holding Tryz.prog os ⟨#[],#[],[]⟩with heap:=((((World.holding Tryz.prog os ⟨#[],#[],[]⟩).heap.modify 0 (setCells #[.string ⟨#[116,111,107]⟩,.string ⟨#[114,117,108,101]⟩,.string ⟨#[105,110,116]⟩,.string ⟨#[99,97,108,108]⟩,.string ⟨#[114,101,116]⟩,.string ⟨#[102,114,101,101]⟩])).modify 1 (setCells #[.int .u64 1,.int .u64 10,.int .u64 100,.int .u64 1000,.int .u64 10000,.int .u64 100000,.int .u64 1000000,.int .u64 10000000,.int .u64 100000000,.int .u64 1000000000,.int .u64 10000000000,.int .u64 100000000000,.int .u64 1000000000000,.int .u64 10000000000000,.int .u64 100000000000000,.int .u64 1000000000000000,.int .u64 10000000000000000,.int .u64 100000000000000000,.int .u64 1000000000000000000,.int .u64 10000000000000000000])).modify 2 (setCells #[.int .u8 0,.int .u8 1,.int .u8 28,.int .u8 2,.int .u8 29,.int .u8 14,.int .u8 24,.int .u8 3,.int .u8 30,.int .u8 22,.int .u8 20,.int .u8 15,.int .u8 25,.int .u8 17,.int .u8 4,.int .u8 8,.int .u8 31,.int .u8 27,.int .u8 13,.int .u8 23,.int .u8 21,.int .u8 19,.int .u8 16,.int .u8 7,.int .u8 26,.int .u8 12,.int .u8 18,.int .u8 6,.int .u8 11,.int .u8 5,.int .u8 10,.int .u8 9])).modify 3 (setCells #[.int .u8 0,.int .u8 1,.int .u8 56,.int .u8 2,.int .u8 57,.int .u8 49,.int .u8 28,.int .u8 3,.int .u8 61,.int .u8 58,.int .u8 42,.int .u8 50,.int .u8 38,.int .u8 29,.int .u8 17,.int .u8 4,.int .u8 62,.int .u8 47,.int .u8 59,.int .u8 36,.int .u8 45,.int .u8 43,.int .u8 51,.int .u8 22,.int .u8 53,.int .u8 39,.int .u8 33,.int .u8 30,.int .u8 24,.int .u8 18,.int .u8 12,.int .u8 5,.int .u8 63,.int .u8 55,.int .u8 48,.int .u8 27,.int .u8 60,.int .u8 41,.int .u8 37,.int .u8 16,.int .u8 46,.int .u8 35,.int .u8 44,.int .u8 21,.int .u8 52,.int .u8 32,.int .u8 23,.int .u8 11,.int .u8 54,.int .u8 26,.int .u8 40,.int .u8 15,.int .u8 34,.int .u8 20,.int .u8 31,.int .u8 10,.int .u8 25,.int .u8 14,.int .u8 19,.int .u8 9,.int .u8 13,.int .u8 8,.int .u8 7,.int .u8 6]) }
end Go.Proofs.YtaokkliamoghbaaGreatDoor.PVpa
