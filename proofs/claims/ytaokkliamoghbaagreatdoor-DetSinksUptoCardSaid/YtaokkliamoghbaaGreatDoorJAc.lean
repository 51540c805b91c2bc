/- Joined from texts of this seat, in their order. -/
import Derived.Test.YtaokkliamoghbaaGreatDoorJAb
import Derived.Test.YtaokkliamoghbaaGreatDoorProg
import Derived.Deep.LoopGhost
import Derived.Shelf.SlGeneric
import Derived.Shelf.SlSortCmp.WholeK
import Derived.Shelf.SlSortCmp.NoneTotal
import Derived.Shelf.SlicesG.Cmp
import Derived.StillTailTactics
import Derived.Lib.SortBridge
import Derived.Shelf.SortM.Plain
import Derived.Shelf.SortM.SortNone
import Derived.Shelf.SlicesG.CompactI
import Derived.Shelf.SlicesQ.IndexFunc
import Derived.Shelf.Spec.SlicesGrow
import Derived.Lib.OwnBridge
import Derived.Orders
import Derived.StillTail
import Derived.LaidEqlPtr
import Derived.Deep.RegionLaw
import Derived.Laws.StructEq
set_option linter.unusedVariables false
set_option linter.unusedSimpArgs false
set_option linter.unusedSectionVars false
set_option maxRecDepth 100000
namespace Go.Proofs.YtaokkliamoghbaaGreatDoor.PVpa
open Go.RowKit Go.Proofs.YtaokkliamoghbaaGreatDoorW.PrintWords Go.Proofs.YtaokkliamoghbaaGreatDoorW.PrintLast Go.Proofs.YtaokkliamoghbaaGreatDoorW.PrintMore
theorem Zep (p:Value)(c:Int)(w:World):Calls Tryz.prog 72 #[p,.bool true,.int .i64 c] w fun e w'=>e=.returned (.tuple #[])∧w'=w:=by
 go_enter Tryz.func72,Tryz.ntmps72
 go_wp2
 go_end0
 exact⟨rfl,rfl⟩
theorem class_ok (p:Value)(n:Int)(h0:0≤n)(h1:n≤31)(w:World):Calls Tryz.prog 90 #[p,.int .i64 n] w fun e w'=>e=.returned (.tuple #[])∧w'=w:=by
 have q0:decide (0≤n)=true:=decide_eq_true h0;have q1:decide (n≤31)=true:=decide_eq_true h1;clear h0 h1
 go_enter Tryz.func90,Tryz.ntmps90
 go_wp2_with (go_at_call 72;refine (Zep _ _ _).mono ?_;rintro e w1 ⟨rfl,rfl⟩)
 go_end0
 exact⟨rfl,rfl⟩
theorem Zkn (x:Int)(h0:0≤x)(h1:x<55296)(w:World):Calls Tryz.prog 184 #[.int .i32 x] w fun e w'=>e=.returned (.int .i64 x)∧w'=w:=by
 have q0:decide (x<0)=false:=decide_eq_false (by omega);have q1:decide (x<55296)=true:=decide_eq_true h1;have hw:wrap64 x=x:=by unfold wrap64;omega
 clear h0 h1
 go_enter Tryz.func184,Tryz.ntmps184
 go_wp2
 go_ret
 exact⟨congrArg (fun z=>Ending.returned (Value.int .i64 z)) hw,rfl⟩
theorem is_call (x:Int)(h0:0≤x)(h1:x<55296)(w:World):Calls Tryz.prog 189 #[.int .i32 x] w fun e w'=>e=.returned (.bool true)∧w'=w:=by
 have q0:decide (0≤x)=true:=decide_eq_true (by omega);have q1:decide (x<55296)=true:=decide_eq_true h1;clear h0 h1
 go_enter Tryz.func189,Tryz.ntmps189
 go_wp2
 go_ret
 exact⟨rfl,rfl⟩
theorem Zrt (x:Int)(h0:0≤x)(h1:x<55296)(w:World):Calls Tryz.prog 185 #[.int .i32 x] w fun e w'=>e=.returned (.int .i64 (x+1))∧w'=w:=by
 have hw:wrap64 (x+1)=x+1:=by unfold wrap64;omega
 have HN:=Zrw.mk (fun w=>Zkn x h0 h1 w);have HI:=Zrw.mk (fun w=>is_call x h0 h1 w);clear h0 h1
 go_enter Tryz.func185,Tryz.ntmps185
 go_wp2_with (first | (go_at_call 184;refine (HN.out _).mono ?_;rintro e w1 ⟨rfl,rfl⟩) | (go_at_call 189;refine (HI.out _).mono ?_;rintro e w1 ⟨rfl,rfl⟩))
 go_ret
 exact⟨congrArg (fun z=>Ending.returned (Value.int .i64 z)) hw,rfl⟩
theorem Zlu (x:Int)(h0:0≤x)(h1:x<55296)(w:World):Calls Tryz.prog 183 #[.int .i64 x] w fun e w'=>e=.returned (.int .i32 x)∧w'=w:=by
 have q1:decide (x<55296)=true:=decide_eq_true h1;have hw:wrap32 x=x:=by unfold wrap32;omega
 clear h0 h1
 go_enter Tryz.func183,Tryz.ntmps183
 go_wp2
 go_ret
 exact⟨congrArg (fun z=>Ending.returned (Value.int .i32 z)) hw,rfl⟩
def Zex:Kd Int:=Kd.iso (Kd.pair (Kd.int .i64) (Kd.int .i64)) (fun x=>(x,x+1))
theorem Zgk {w:World}{x:Int}{cs:List Value}(h:Zex.K w x cs):cs=[.int .i64 x,.int .i64 (x+1)]:=by
 obtain⟨c0,c1,rfl,h0,h1⟩:=h;have e0:c0=[.int .i64 x]:=h0;have e1:c1=[.int .i64 (x+1)]:=h1;rw[e0,e1];rfl
theorem Zhu (w:World)(base:Nat)(ok:Nat→Prop)(x:Int):Zex.M w base ok x [.int .i64 x,.int .i64 (x+1)]:=⟨[.int .i64 x],[.int .i64 (x+1)],rfl,rfl,rfl⟩
theorem Zrf:(Tryz.prog.info? 228).map (fun i=>(i.zero,i.size,i.bytes))=some (some (.agg #[.int .i64 0,.int .i64 0]),2,16):=by kernel_rfl
structure Sgl (l:List Int):Prop where
 lo:∀x∈l,0≤x∧x<55296
 gap:l.Pairwise (fun x y=>x+1<y)
 few:l.length≤2
def rgs (l:List Int):List S72:=l.map fun x=>⟨x,x⟩
def rI (l:List Int)(k:Nat):Int:=l.getD k 0
theorem rgs_at (l:List Int)(k:Nat)(hk:k<l.length):rd_T72 (rgs l) (k:Int)=⟨rI l k,rI l k⟩:=by
 unfold rd_T72 rgs rI;rw[Int.toNat_natCast,List.getD_eq_getElem?_getD,List.getD_eq_getElem?_getD,List.getElem?_map,List.getElem?_eq_getElem hk]
 rfl
theorem Sgl.at_ {l:List Int}(h:Sgl l){k:Nat}(hk:k<l.length):0≤rI l k∧rI l k<55296:=by
 unfold rI;rw[List.getD_eq_getElem?_getD,List.getElem?_eq_getElem hk];exact h.lo _ (List.getElem_mem hk)
abbrev Zca (W W':World):Prop:=Below W.heap.size W W'
theorem Zbh (w:World):Zca w w:=Zbr
theorem Zbc (w w1 w2:World)(h:Zca w w1)(k:Zca w1 w2):Zca w w2:=Zae h k
end Go.Proofs.YtaokkliamoghbaaGreatDoor.PVpa
namespace Go.Proofs
open Go.Shelf
def Tryz.sortP_ren:Go.Shelf.Ren:=⟨fun | 6=>131 | 15=>98 | 14=>97 | 28=>127 | 29=>128 | 20=>119 | 21=>120 | 22=>121 | 23=>122 | 24=>123 | 25=>124 | 26=>125 | 27=>126 | 46=>148 | 47=>149 | 48=>150 | 49=>151 | 50=>152 | 57=>171 | n=>n,fun | 22=>35 | 24=>90 | 25=>142 | 3=>3 | 39=>28 | 0=>0 | 53=>181 | 55=>183 | 4=>4 | 46=>175 | 45=>174 | 50=>102 | 5=>5 | 9=>9 | 66=>197 | 70=>201 | 76=>217 | 77=>51 | n=>n,fun | n=>n⟩
theorem Tryz.sortP:Go.Proofs.SlLaysF0.n6 Tryz.prog Tryz.sortP_ren:={
 mixed:=by kernel_rfl
 f6:=⟨Tryz.f131.name,by decide,Tryz.func131.trans (congrArg some (by kernel_rfl))⟩
 f14:=⟨Tryz.f97.name,by decide,Tryz.func97.trans (congrArg some (by kernel_rfl))⟩
 f15:=Tryz.func98.trans (congrArg some (by kernel_rfl))
 f20:=⟨Tryz.f119.name,by decide,Tryz.func119.trans (congrArg some (by kernel_rfl))⟩
 f21:=⟨Tryz.f120.name,by decide,Tryz.func120.trans (congrArg some (by kernel_rfl))⟩
 f22:=⟨Tryz.f121.name,by decide,Tryz.func121.trans (congrArg some (by kernel_rfl))⟩
 f23:=⟨Tryz.f122.name,by decide,Tryz.func122.trans (congrArg some (by kernel_rfl))⟩
 f24:=⟨Tryz.f123.name,by decide,Tryz.func123.trans (congrArg some (by kernel_rfl))⟩
 f25:=⟨Tryz.f124.name,by decide,Tryz.func124.trans (congrArg some (by kernel_rfl))⟩
 f26:=⟨Tryz.f125.name,by decide,Tryz.func125.trans (congrArg some (by kernel_rfl))⟩
 f27:=⟨Tryz.f126.name,by decide,Tryz.func126.trans (congrArg some (by kernel_rfl))⟩
 f28:=Tryz.func127.trans (congrArg some (by kernel_rfl))
 f29:=Tryz.func128.trans (congrArg some (by kernel_rfl))
 f46:=⟨Tryz.f148.name,by decide,Tryz.func148.trans (congrArg some (by kernel_rfl))⟩
 f47:=Tryz.func149.trans (congrArg some (by kernel_rfl))
 f48:=Tryz.func150.trans (congrArg some (by kernel_rfl))
 f49:=⟨Tryz.f151.name,by decide,Tryz.func151.trans (congrArg some (by kernel_rfl))⟩
 f50:=⟨Tryz.f152.name,by decide,Tryz.func152.trans (congrArg some (by kernel_rfl))⟩
 f57:=⟨Tryz.f171.name,by decide,Tryz.func171.trans (congrArg some (by kernel_rfl))⟩
 t0:=Tryz.underlying0
 a0:=Tryz.isAgg0
 z0:=Tryz.sizeOf0
 v0:=Tryz.zeroValue0
 t3:=Tryz.underlying3
 a3:=Tryz.isAgg3
 z3:=Tryz.sizeOf3
 v3:=Tryz.zeroValue3
 t4:=Tryz.underlying4
 a4:=Tryz.isAgg4
 z4:=Tryz.sizeOf4
 v4:=Tryz.zeroValue4
 t5:=Tryz.underlying5
 a5:=Tryz.isAgg5
 z5:=Tryz.sizeOf5
 v5:=Tryz.zeroValue5
 t9:=Tryz.underlying9
 a9:=Tryz.isAgg9
 z9:=Tryz.sizeOf9
 v9:=Tryz.zeroValue9
 t22:=Tryz.underlying35
 a22:=Tryz.isAgg35
 z22:=Tryz.sizeOf35
 v22:=Tryz.zeroValue35
 t25:=Tryz.underlying142
 a25:=Tryz.isAgg142
 z25:=Tryz.sizeOf142
 v25:=Tryz.zeroValue142
 t39:=Tryz.underlying28
 a39:=Tryz.isAgg28
 z39:=Tryz.sizeOf28
 v39:=Tryz.zeroValue28
 t45:=Tryz.underlying174
 a45:=Tryz.isAgg174
 z45:=Tryz.sizeOf174
 v45:=Tryz.zeroValue174
 t46:=Tryz.underlying175
 a46:=Tryz.isAgg175
 z46:=Tryz.sizeOf175
 v46:=Tryz.zeroValue175
 t50:=Tryz.underlying102
 a50:=Tryz.isAgg102
 z50:=Tryz.sizeOf102
 v50:=Tryz.zeroValue102
 t53:=Tryz.underlying181
 a53:=Tryz.isAgg181
 z53:=Tryz.sizeOf181
 v53:=Tryz.zeroValue181
 t55:=Tryz.underlying183
 a55:=Tryz.isAgg183
 z55:=Tryz.sizeOf183
 v55:=Tryz.zeroValue183
 t66:=Tryz.underlying197
 a66:=Tryz.isAgg197
 z66:=Tryz.sizeOf197
 v66:=Tryz.zeroValue197
 t70:=Tryz.underlying201
 a70:=Tryz.isAgg201
 z70:=Tryz.sizeOf201
 v70:=Tryz.zeroValue201
 t76:=Tryz.underlying217
 a76:=Tryz.isAgg217
 z76:=Tryz.sizeOf217
 v76:=Tryz.zeroValue217
 t77:=Tryz.underlying51
 a77:=Tryz.isAgg51
 z77:=Tryz.sizeOf51
 v77:=Tryz.zeroValue51 }
def Tryz.sortSpan_ren:Go.Shelf.Ren:=⟨fun | 6=>186 | 15=>98 | 14=>190 | 28=>127 | 29=>128 | 20=>191 | 21=>192 | 22=>193 | 23=>194 | 24=>195 | 25=>196 | 26=>197 | 27=>198 | 46=>199 | 47=>149 | 48=>150 | 49=>200 | 50=>201 | 57=>202 | n=>n,fun | 22=>223 | 24=>228 | 25=>232 | 3=>3 | 39=>28 | 0=>0 | 53=>181 | 55=>183 | 4=>4 | 46=>175 | 45=>174 | 50=>102 | 5=>5 | 9=>9 | 66=>197 | 70=>201 | 76=>217 | 77=>51 | n=>n,fun | n=>n⟩
theorem Tryz.sortSpan:Go.Proofs.SlLaysF0.n6 Tryz.prog Tryz.sortSpan_ren:={
 mixed:=by kernel_rfl
 f6:=⟨Tryz.f186.name,by decide,Tryz.func186.trans (congrArg some (by kernel_rfl))⟩
 f14:=⟨Tryz.f190.name,by decide,Tryz.func190.trans (congrArg some (by kernel_rfl))⟩
 f15:=Tryz.func98.trans (congrArg some (by kernel_rfl))
 f20:=⟨Tryz.f191.name,by decide,Tryz.func191.trans (congrArg some (by kernel_rfl))⟩
 f21:=⟨Tryz.f192.name,by decide,Tryz.func192.trans (congrArg some (by kernel_rfl))⟩
 f22:=⟨Tryz.f193.name,by decide,Tryz.func193.trans (congrArg some (by kernel_rfl))⟩
 f23:=⟨Tryz.f194.name,by decide,Tryz.func194.trans (congrArg some (by kernel_rfl))⟩
 f24:=⟨Tryz.f195.name,by decide,Tryz.func195.trans (congrArg some (by kernel_rfl))⟩
 f25:=⟨Tryz.f196.name,by decide,Tryz.func196.trans (congrArg some (by kernel_rfl))⟩
 f26:=⟨Tryz.f197.name,by decide,Tryz.func197.trans (congrArg some (by kernel_rfl))⟩
 f27:=⟨Tryz.f198.name,by decide,Tryz.func198.trans (congrArg some (by kernel_rfl))⟩
 f28:=Tryz.func127.trans (congrArg some (by kernel_rfl))
 f29:=Tryz.func128.trans (congrArg some (by kernel_rfl))
 f46:=⟨Tryz.f199.name,by decide,Tryz.func199.trans (congrArg some (by kernel_rfl))⟩
 f47:=Tryz.func149.trans (congrArg some (by kernel_rfl))
 f48:=Tryz.func150.trans (congrArg some (by kernel_rfl))
 f49:=⟨Tryz.f200.name,by decide,Tryz.func200.trans (congrArg some (by kernel_rfl))⟩
 f50:=⟨Tryz.f201.name,by decide,Tryz.func201.trans (congrArg some (by kernel_rfl))⟩
 f57:=⟨Tryz.f202.name,by decide,Tryz.func202.trans (congrArg some (by kernel_rfl))⟩
 t0:=Tryz.underlying0
 a0:=Tryz.isAgg0
 z0:=Tryz.sizeOf0
 v0:=Tryz.zeroValue0
 t3:=Tryz.underlying3
 a3:=Tryz.isAgg3
 z3:=Tryz.sizeOf3
 v3:=Tryz.zeroValue3
 t4:=Tryz.underlying4
 a4:=Tryz.isAgg4
 z4:=Tryz.sizeOf4
 v4:=Tryz.zeroValue4
 t5:=Tryz.underlying5
 a5:=Tryz.isAgg5
 z5:=Tryz.sizeOf5
 v5:=Tryz.zeroValue5
 t9:=Tryz.underlying9
 a9:=Tryz.isAgg9
 z9:=Tryz.sizeOf9
 v9:=Tryz.zeroValue9
 t22:=Tryz.underlying223
 a22:=Tryz.isAgg223
 z22:=Tryz.sizeOf223
 v22:=Tryz.zeroValue223
 t25:=Tryz.underlying232
 a25:=Tryz.isAgg232
 z25:=Tryz.sizeOf232
 v25:=Tryz.zeroValue232
 t39:=Tryz.underlying28
 a39:=Tryz.isAgg28
 z39:=Tryz.sizeOf28
 v39:=Tryz.zeroValue28
 t45:=Tryz.underlying174
 a45:=Tryz.isAgg174
 z45:=Tryz.sizeOf174
 v45:=Tryz.zeroValue174
 t46:=Tryz.underlying175
 a46:=Tryz.isAgg175
 z46:=Tryz.sizeOf175
 v46:=Tryz.zeroValue175
 t50:=Tryz.underlying102
 a50:=Tryz.isAgg102
 z50:=Tryz.sizeOf102
 v50:=Tryz.zeroValue102
 t53:=Tryz.underlying181
 a53:=Tryz.isAgg181
 z53:=Tryz.sizeOf181
 v53:=Tryz.zeroValue181
 t55:=Tryz.underlying183
 a55:=Tryz.isAgg183
 z55:=Tryz.sizeOf183
 v55:=Tryz.zeroValue183
 t66:=Tryz.underlying197
 a66:=Tryz.isAgg197
 z66:=Tryz.sizeOf197
 v66:=Tryz.zeroValue197
 t70:=Tryz.underlying201
 a70:=Tryz.isAgg201
 z70:=Tryz.sizeOf201
 v70:=Tryz.zeroValue201
 t76:=Tryz.underlying217
 a76:=Tryz.isAgg217
 z76:=Tryz.sizeOf217
 v76:=Tryz.zeroValue217
 t77:=Tryz.underlying51
 a77:=Tryz.isAgg51
 z77:=Tryz.sizeOf51
 v77:=Tryz.zeroValue51 }
def Tryz.cmpInt_ren:Go.Shelf.Ren:=⟨fun | 5=>79 | 7=>99 | n=>n,fun | 22=>3 | 3=>3 | 4=>4 | n=>n,fun | n=>n⟩
theorem Tryz.cmpInt:Go.Proofs.SlLaysC2.n5 Tryz.prog Tryz.cmpInt_ren:={
 mixed:=by kernel_rfl
 f5:=⟨Tryz.f79.name,by decide,Tryz.func79.trans (congrArg some (by kernel_rfl))⟩
 f7:=⟨Tryz.f99.name,by decide,Tryz.func99.trans (congrArg some (by kernel_rfl))⟩
 t3:=Tryz.underlying3
 a3:=Tryz.isAgg3
 z3:=Tryz.sizeOf3
 v3:=Tryz.zeroValue3
 t4:=Tryz.underlying4
 a4:=Tryz.isAgg4
 z4:=Tryz.sizeOf4
 v4:=Tryz.zeroValue4
 t22:=Tryz.underlying3
 a22:=Tryz.isAgg3
 z22:=Tryz.sizeOf3
 v22:=Tryz.zeroValue3 }
end Go.Proofs
namespace Go.Proofs.YtaokkliamoghbaaGreatDoor.PVpa
open Go.RowKit Go.Proofs.YtaokkliamoghbaaGreatDoorW.PrintWords Go.Proofs.YtaokkliamoghbaaGreatDoorW.PrintLast Go.Proofs.YtaokkliamoghbaaGreatDoorW.PrintMore
open Go.Sort (grow putRow Holds)
def Zjd (x:Int × Int):List Value:=[.int .i64 x.1,.int .i64 x.2]
def orV (a b:Int):Int:=if a≠0 then a else b
def cmpP (x y:Int × Int):Int:=orV (Lib.compareInt x.1 y.1) (Lib.compareInt x.2 y.2)
theorem Zet {P:Program}{id:Nat}{Q:Exit→Act→World→Prop}{a:Act}{w:World}{l:List Oper}(n:Nat)(hm:P.follows .mixedOrders=true)(hB:Region.lexTailB .any l.toArray n=true)
 (h:wpStill P l.toArray w.drew (fun a'=>wpList P l.toArray Q (l.drop n) a' w.drew) (l.take n) a):(Code.region id l.toArray true).wp P Q a w:=
 wp_region_still_tail n hm hB h
theorem Znx (x y:Int)(W:World):Calls Tryz.prog 79 #[.int .i64 x,.int .i64 y] W fun e w'=>e=.returned (.int .i64 (Lib.compareInt x y))∧w'=W:=AnyG.cmp_Compare_int Tryz.cmpInt x y W
theorem or_call (g:Nat)(a b:Int)(w:World)(h0:w.cell? ⟨g,0,none⟩=some (.int .i64 a))(h1:w.cell? ⟨g,1,none⟩=some (.int .i64 b)) :
 Calls Tryz.prog 78 #[.slice (some ⟨g,0,none⟩) 2 2] w fun e w'=>e=.returned (.int .i64 (orV a b))∧w'=w:=by
 unfold orV;by_cases ha:a=0
 ·subst ha;rw[if_neg (by simp)];by_cases hb:b=0
  ·subst hb
   go_enter Tryz.func78,Tryz.ntmps78
   go_wp2
   refine wp_loop_rounds 3 ?_
   rw[rounds_succ];go_wp2
   rw[rounds_succ];go_wp2
   rw[rounds_succ];go_wp2
   go_ret
   exact⟨rfl,rfl⟩
  ·have q:(b != 0)=true:=by simpa using hb
   go_enter Tryz.func78,Tryz.ntmps78
   go_wp2
   refine wp_loop_rounds 3 ?_
   rw[rounds_succ];go_wp2
   rw[rounds_succ];go_wp2
   go_ret
   exact⟨rfl,rfl⟩
 ·rw[if_pos ha];have q:(a != 0)=true:=by simpa using ha
  go_enter Tryz.func78,Tryz.ntmps78
  go_wp2
  refine wp_loop_rounds 3 ?_
  rw[rounds_succ];go_wp2
  go_ret
  exact⟨rfl,rfl⟩
set_option maxHeartbeats 1000000 in
theorem closure47 (x y:Int × Int)(W:World):Calls Tryz.prog 132 #[.agg #[.int .i64 x.1,.int .i64 x.2],.agg #[.int .i64 y.1,.int .i64 y.2]] W fun e w'=>e=.returned (.int .i64 (cmpP x y))∧∃q os',w'=grow (W.drewN q) os':=by
 unfold cmpP;obtain⟨x1,x2⟩:=x;obtain⟨y1,y2⟩:=y;show Calls Tryz.prog 132 #[.agg #[.int .i64 x1,.int .i64 x2],.agg #[.int .i64 y1,.int .i64 y2]] W fun e w'=>e=.returned (.int .i64 (orV (Lib.compareInt x1 y1) (Lib.compareInt x2 y2)))∧∃q os',w'=grow (W.drewN q) os'
 go_enter Tryz.func132,Tryz.ntmps132
 go_wp2_with fail
 obtain⟨X,hX⟩:∃X,X=(W.alloc (.cells #[.int .i64 x1,.int .i64 x2] 90)).alloc (.cells #[.int .i64 y1,.int .i64 y2] 90):=⟨_,rfl⟩
 have c0:X.cell? ⟨W.heap.size,0,none⟩=some (.int .i64 x1):=by rw[hX];go_simp
 have c1:X.cell? ⟨W.heap.size,1,none⟩=some (.int .i64 x2):=by rw[hX];go_simp
 have c2:X.cell? ⟨W.heap.size+1,0,none⟩=some (.int .i64 y1):=by rw[hX];go_simp
 have c3:X.cell? ⟨W.heap.size+1,1,none⟩=some (.int .i64 y2):=by rw[hX];go_simp
 rw[←hX];have HX:=Zrw.mk hX;clear hX;refine Zet 10 (by kernel_rfl) (by kernel_rfl) ?_
 simp only[List.take_succ_cons,List.take_zero,List.drop_succ_cons,List.drop_zero]
 repeat (first | still_step | (refine wpStill_step (fun K hK=>?_);go_simp;refine⟨_,Znx _ _ _,hK _ ?_⟩;clear hK K))
 refine wpStill_nil ?_
 go_wp2_with (go_at_call 78;(with_reducible refine (or_call X.heap.size (Lib.compareInt x1 y1) (Lib.compareInt x2 y2) _ ?h0 ?h1).mono ?_);(case h0=>go_simp);(case h1=>go_simp);rintro e w3 ⟨rfl,rfl⟩)
 go_ret
 refine⟨rfl,1,#[.cells #[.int .i64 x1,.int .i64 x2] 90 (0,0),.cells #[.int .i64 y1,.int .i64 y2] 90 (0,0),.cells #[.int .i64 (Lib.compareInt x1 y1),.int .i64 (Lib.compareInt x2 y2)] 3 (0,0)],?_⟩;rw[HX.out]
 rfl
end Go.Proofs.YtaokkliamoghbaaGreatDoor.PVpa
namespace Go.Proofs
open Go.Shelf
def Tryz.sortI_ren:Go.Shelf.Ren:=⟨fun | 5=>117 | 8=>98 | 7=>147 | 19=>127 | 20=>128 | 10=>162 | 11=>163 | 12=>164 | 13=>165 | 14=>166 | 15=>167 | 16=>168 | 17=>169 | 18=>170 | 30=>178 | 31=>149 | 32=>150 | 33=>179 | 34=>180 | 35=>99 | 40=>188 | n=>n,fun | 23=>41 | 25=>3 | 3=>3 | 32=>28 | 22=>41 | 0=>0 | 44=>181 | 46=>183 | 4=>4 | 36=>175 | 35=>174 | 41=>102 | 5=>5 | 9=>9 | 53=>197 | 57=>201 | 63=>217 | 64=>51 | n=>n,fun | n=>n⟩
theorem Tryz.sortI:Go.Proofs.SlLaysM.n5 Tryz.prog Tryz.sortI_ren:={
 mixed:=by kernel_rfl
 f5:=⟨Tryz.f117.name,by decide,Tryz.func117.trans (congrArg some (by kernel_rfl))⟩
 f7:=⟨Tryz.f147.name,by decide,Tryz.func147.trans (congrArg some (by kernel_rfl))⟩
 f8:=Tryz.func98.trans (congrArg some (by kernel_rfl))
 f10:=⟨Tryz.f162.name,by decide,Tryz.func162.trans (congrArg some (by kernel_rfl))⟩
 f11:=⟨Tryz.f163.name,by decide,Tryz.func163.trans (congrArg some (by kernel_rfl))⟩
 f12:=⟨Tryz.f164.name,by decide,Tryz.func164.trans (congrArg some (by kernel_rfl))⟩
 f13:=⟨Tryz.f165.name,by decide,Tryz.func165.trans (congrArg some (by kernel_rfl))⟩
 f14:=⟨Tryz.f166.name,by decide,Tryz.func166.trans (congrArg some (by kernel_rfl))⟩
 f15:=⟨Tryz.f167.name,by decide,Tryz.func167.trans (congrArg some (by kernel_rfl))⟩
 f16:=⟨Tryz.f168.name,by decide,Tryz.func168.trans (congrArg some (by kernel_rfl))⟩
 f17:=⟨Tryz.f169.name,by decide,Tryz.func169.trans (congrArg some (by kernel_rfl))⟩
 f18:=⟨Tryz.f170.name,by decide,Tryz.func170.trans (congrArg some (by kernel_rfl))⟩
 f19:=Tryz.func127.trans (congrArg some (by kernel_rfl))
 f20:=Tryz.func128.trans (congrArg some (by kernel_rfl))
 f30:=⟨Tryz.f178.name,by decide,Tryz.func178.trans (congrArg some (by kernel_rfl))⟩
 f31:=Tryz.func149.trans (congrArg some (by kernel_rfl))
 f32:=Tryz.func150.trans (congrArg some (by kernel_rfl))
 f33:=⟨Tryz.f179.name,by decide,Tryz.func179.trans (congrArg some (by kernel_rfl))⟩
 f34:=⟨Tryz.f180.name,by decide,Tryz.func180.trans (congrArg some (by kernel_rfl))⟩
 f35:=⟨Tryz.f99.name,by decide,Tryz.func99.trans (congrArg some (by kernel_rfl))⟩
 f40:=⟨Tryz.f188.name,by decide,Tryz.func188.trans (congrArg some (by kernel_rfl))⟩
 t0:=Tryz.underlying0
 a0:=Tryz.isAgg0
 z0:=Tryz.sizeOf0
 v0:=Tryz.zeroValue0
 t3:=Tryz.underlying3
 a3:=Tryz.isAgg3
 z3:=Tryz.sizeOf3
 v3:=Tryz.zeroValue3
 t4:=Tryz.underlying4
 a4:=Tryz.isAgg4
 z4:=Tryz.sizeOf4
 v4:=Tryz.zeroValue4
 t5:=Tryz.underlying5
 a5:=Tryz.isAgg5
 z5:=Tryz.sizeOf5
 v5:=Tryz.zeroValue5
 t9:=Tryz.underlying9
 a9:=Tryz.isAgg9
 z9:=Tryz.sizeOf9
 v9:=Tryz.zeroValue9
 t22:=Tryz.underlying41
 a22:=Tryz.isAgg41
 z22:=Tryz.sizeOf41
 v22:=Tryz.zeroValue41
 t23:=Tryz.underlying41
 a23:=Tryz.isAgg41
 z23:=Tryz.sizeOf41
 v23:=Tryz.zeroValue41
 t25:=Tryz.underlying3
 a25:=Tryz.isAgg3
 z25:=Tryz.sizeOf3
 v25:=Tryz.zeroValue3
 t32:=Tryz.underlying28
 a32:=Tryz.isAgg28
 z32:=Tryz.sizeOf28
 v32:=Tryz.zeroValue28
 t35:=Tryz.underlying174
 a35:=Tryz.isAgg174
 z35:=Tryz.sizeOf174
 v35:=Tryz.zeroValue174
 t36:=Tryz.underlying175
 a36:=Tryz.isAgg175
 z36:=Tryz.sizeOf175
 v36:=Tryz.zeroValue175
 t41:=Tryz.underlying102
 a41:=Tryz.isAgg102
 z41:=Tryz.sizeOf102
 v41:=Tryz.zeroValue102
 t44:=Tryz.underlying181
 a44:=Tryz.isAgg181
 z44:=Tryz.sizeOf181
 v44:=Tryz.zeroValue181
 t46:=Tryz.underlying183
 a46:=Tryz.isAgg183
 z46:=Tryz.sizeOf183
 v46:=Tryz.zeroValue183
 t53:=Tryz.underlying197
 a53:=Tryz.isAgg197
 z53:=Tryz.sizeOf197
 v53:=Tryz.zeroValue197
 t57:=Tryz.underlying201
 a57:=Tryz.isAgg201
 z57:=Tryz.sizeOf201
 v57:=Tryz.zeroValue201
 t63:=Tryz.underlying217
 a63:=Tryz.isAgg217
 z63:=Tryz.sizeOf217
 v63:=Tryz.zeroValue217
 t64:=Tryz.underlying51
 a64:=Tryz.isAgg51
 z64:=Tryz.sizeOf51
 v64:=Tryz.zeroValue51 }
def Tryz.compactI_ren:Go.Shelf.Ren:=⟨fun | 43=>118 | n=>n,fun | 22=>41 | 23=>3 | 3=>3 | 4=>4 | 0=>0 | n=>n,fun | n=>n⟩
theorem Tryz.compactI:Go.Proofs.SlLaysN.n43 Tryz.prog Tryz.compactI_ren:={
 mixed:=by kernel_rfl
 f43:=⟨Tryz.f118.name,by decide,Tryz.func118.trans (congrArg some (by kernel_rfl))⟩
 t0:=Tryz.underlying0
 a0:=Tryz.isAgg0
 z0:=Tryz.sizeOf0
 v0:=Tryz.zeroValue0
 t3:=Tryz.underlying3
 a3:=Tryz.isAgg3
 z3:=Tryz.sizeOf3
 v3:=Tryz.zeroValue3
 t4:=Tryz.underlying4
 a4:=Tryz.isAgg4
 z4:=Tryz.sizeOf4
 v4:=Tryz.zeroValue4
 t22:=Tryz.underlying41
 a22:=Tryz.isAgg41
 z22:=Tryz.sizeOf41
 v22:=Tryz.zeroValue41
 t23:=Tryz.underlying3
 a23:=Tryz.isAgg3
 z23:=Tryz.sizeOf3
 v23:=Tryz.zeroValue3
 i23:=by kernel_rfl }
def Tryz.growI_ren:Go.Shelf.Ren:=⟨fun | 4=>146 | n=>n,fun | 22=>41 | 25=>3 | 3=>3 | 4=>4 | 9=>9 | 20=>20 | 0=>0 | n=>n,fun | n=>n⟩
theorem Tryz.growI:Go.Proofs.Lays8.n4 Tryz.prog Tryz.growI_ren:={
 mixed:=by kernel_rfl
 f4:=⟨Tryz.f146.name,by decide,Tryz.func146.trans (congrArg some (by kernel_rfl))⟩
 t0:=Tryz.underlying0
 a0:=Tryz.isAgg0
 z0:=Tryz.sizeOf0
 v0:=Tryz.zeroValue0
 t3:=Tryz.underlying3
 a3:=Tryz.isAgg3
 z3:=Tryz.sizeOf3
 v3:=Tryz.zeroValue3
 t4:=Tryz.underlying4
 a4:=Tryz.isAgg4
 z4:=Tryz.sizeOf4
 v4:=Tryz.zeroValue4
 t9:=Tryz.underlying9
 a9:=Tryz.isAgg9
 z9:=Tryz.sizeOf9
 v9:=Tryz.zeroValue9
 t20:=Tryz.underlying20
 a20:=Tryz.isAgg20
 z20:=Tryz.sizeOf20
 v20:=Tryz.zeroValue20
 t22:=Tryz.underlying41
 a22:=Tryz.isAgg41
 z22:=Tryz.sizeOf41
 v22:=Tryz.zeroValue41 }
end Go.Proofs
namespace Go.Proofs.YtaokkliamoghbaaGreatDoor.PVpa
open Go.RowKit Go.Proofs.YtaokkliamoghbaaGreatDoorW.PrintWords Go.Proofs.YtaokkliamoghbaaGreatDoorW.PrintLast Go.Proofs.YtaokkliamoghbaaGreatDoorW.PrintMore
open Go.Sort (grow putRow Holds)
def Zhf (l:List Int):List Int:=l.mergeSort fun x y=>decide (x≤y)
def Zcj (a b:List Int):List Int:=Lib.compact (Zhf (a++b))
theorem Zel (l:List Int):(Zhf l).length=l.length:=List.length_mergeSort l
theorem Zbv (w:World)(os:Array Obj):Below w.heap.size w (grow w os):=
 ⟨rfl,rfl,rfl,by simp[grow],fun k hk=>by simp[grow,Array.getElem?_append_left hk]⟩
theorem Kept.trans_ {w w1 w2:World}{S:Nat→Prop}(h:Kept w w1 S)(k:Kept w1 w2 S):Kept w w2 S:=
 ⟨Nat.le_trans h.1 k.1,fun i hi hn=>(k.2 i (Nat.lt_of_lt_of_le hi h.1) hn).trans (h.2 i hi hn)⟩
theorem Zme {w:World}{base:Nat}{e:TypeId}{v:Value}{l:List Int}(h:w.ownsRow base e 1 v l.length (Zig (Value.int .i64) l))(hv:v=.slice none 0 0):l=[]:=by
 subst hv
 rcases h.2 with⟨_,e0⟩ | ⟨g,cap,cur,e0,_⟩
 ·cases l with
  | nil=>rfl
  | cons x t=>simp[Zig]at e0
 ·cases e0
theorem sort_call (w0 w:World)(v:Value)(l:List Int)(hB:Below w0.heap.size w0 w)(h:(Kd.int .i64).R 3 w w0.heap.size (fun _=>True) v l)(hl:l.length≤1000000) :
 Calls Tryz.prog 117 #[v] w fun e w'=>e=.returned (.tuple #[])∧(Kd.int .i64).R 3 w' w0.heap.size (fun _=>True) v (Zhf l)∧Below w0.heap.size w0 w'∧Kept w w' (fun k=>v.ownBlock=some k):=by
 have ho:=Kd.own_of_R h;by_cases hv:v=.slice none 0 0
 ·obtain rfl:=Zme ho hv;subst hv;refine (AnyM.slices_Sort_int_none Tryz.sortI none 0 w).mono ?_
  rintro e w' ⟨rfl,rfl⟩;exact⟨rfl,by rw[show Zhf []=[] by simp[Zhf]];exact h,hB,Kept.refl _ _⟩
 ·obtain⟨g,cap,rfl,hg,hlt,hc,hm,hn,hH⟩:=Lib.holds_of_ownsRow (enc:=Value.int .i64) (zs:=l) ho hv;refine (AnyM.slices_Sort_int Tryz.sortI g 0 cap l w hH hlt (by omega)).mono ?_
  rintro e w' ⟨rfl,n,os,rfl⟩;have o1:=Lib.ownsRow_putRow (q:=n) (k:=l.length) (ys:=Zhf l) ho (by rw[Zel]) (Nat.le_refl _);rw[List.take_of_length_le (by rw[Zel];omega)]at o1;have b1:=Lib.below_putRow (enc:=Value.int .i64) (d:=(Zhf l).toArray) (q:=n) hB hg;have o2:=Zbx o1 (Zbv _ os);have o3:World.ownsRow (grow (putRow (Value.int .i64) (Go.Sort.ahead w n) g 0 (Zhf l).toArray) os) w0.heap.size 3 1 (.slice (some ⟨g,0,none⟩) l.length cap) (Zhf l).length (Zig (Value.int .i64) (Zhf l)):=by rw[Zel];exact o2
  refine⟨rfl,Kd.R_of_own o3 (fun _ _=>trivial),Zfb b1 b1.size (Zbv _ os),?_⟩;refine (Kept.trans_ (S:=fun k=>(Value.slice (some ⟨g,0,none⟩) l.length cap).ownBlock=some k) (w1:=putRow (Value.int .i64) (Go.Sort.ahead w n) g 0 (Zhf l).toArray) ?_ ?_)
  ·refine⟨by simp[putRow,Go.Sort.mapBlock,Go.Sort.ahead],fun i hi hne=>?_⟩;have hne':g≠i:=fun he=>hne (by simp[Value.ownBlock,he])
   simp[putRow,Go.Sort.mapBlock,Go.Sort.ahead,Array.getElem?_modify,hne']
  ·exact⟨(Zbv _ os).size,fun i hi _=>(Zbv _ os).block i hi⟩
theorem Zpq (w0 w:World)(v:Value)(l:List Int)(hB:Below w0.heap.size w0 w)(h:(Kd.int .i64).R 3 w w0.heap.size (fun _=>True) v l)(hl:l.length≤1000000) :
 Calls Tryz.prog 118 #[v] w fun e w'=>∃v',e=.returned v'∧(Kd.int .i64).R 3 w' w0.heap.size (fun _=>True) v' (Lib.compact l)∧Below w0.heap.size w0 w'∧Kept w w' (fun k=>v.ownBlock=some k)∧v'.ownBlock=v.ownBlock:=by
 have ho:=Kd.own_of_R h;by_cases hv:v=.slice none 0 0
 ·obtain rfl:=Zme ho hv;subst hv;refine (AnyG.slices_Compact_int_empty Tryz.compactI none 0 w).mono ?_
  rintro e w' ⟨rfl,rfl⟩;exact⟨_,rfl,h,hB,Kept.refl _ _,rfl⟩
 ·obtain⟨g,cap,rfl,hg,hlt,hc,hm,hn,hH⟩:=Lib.holds_of_ownsRow (enc:=Value.int .i64) (zs:=l) ho hv;refine (AnyG.slices_Compact_int Tryz.compactI g 0 cap l w hH (by omega) hc).mono ?_
  rintro e w' ⟨rfl,n,rfl⟩;have hcl:=Lib.compact_length_le l;have o1:=Lib.ownsRow_putRow (q:=n) (k:=(Lib.compact l).length) (ys:=Lib.compact l++List.replicate (l.length-(Lib.compact l).length) 0) ho (by simp;omega) (by omega);rw[List.take_left]at o1;have b1:=Lib.below_putRow (enc:=Value.int .i64) (d:=(Lib.compact l++List.replicate (l.length-(Lib.compact l).length) 0).toArray) (q:=n) hB hg;refine⟨_,rfl,Kd.R_of_own o1 (fun _ _=>trivial),b1,?_,rfl⟩;refine⟨by simp[putRow,Go.Sort.mapBlock,Go.Sort.ahead],fun i hi hne=>?_⟩;have hne':g≠i:=fun he=>hne (by simp[Value.ownBlock,he])
  simp[putRow,Go.Sort.mapBlock,Go.Sort.ahead,Array.getElem?_modify,hne']
end Go.Proofs.YtaokkliamoghbaaGreatDoor.PVpa
namespace Go.Proofs.YtaokkliamoghbaaGreatDoor.PVpa
open Go.RowKit Go.Proofs.YtaokkliamoghbaaGreatDoorW.PrintWords Go.Proofs.YtaokkliamoghbaaGreatDoorW.PrintLast Go.Proofs.YtaokkliamoghbaaGreatDoorW.PrintMore
open Go.Sort (grow putRow Holds flatK HoldsK putRowK SWO)
def ltP (x y:Int × Int):Bool:=decide (x.1<y.1∨(x.1=y.1∧x.2<y.2))
theorem Zfw:ltOf cmpP=ltP:=by
 funext x y
 unfold ltOf ltP cmpP orV Lib.compareInt;by_cases h1:x.1<y.1
 ·simp[h1]
 ·by_cases h2:y.1<x.1
  ·have:¬x.1=y.1:=by omega
   simp[h1,h2,this]
  ·have:x.1=y.1:=by omega
   by_cases h3:x.2<y.2
   ·simp[this,h3]
   ·by_cases h4:y.2<x.2 <;> simp[this,h3,h4]
theorem swoP:SWO (ltOf cmpP):=by
 rw[Zfw];refine⟨fun x=>by simp[ltP],fun x y z h1 h2=>?_,fun x y z h1 h2=>?_⟩
 ·unfold ltP at *;simp at *;omega
 ·unfold ltP at *;simp at *;omega
def sortP (l:List (Int × Int)):List (Int × Int):=l.mergeSort fun x y=>!ltP y x
theorem Zco (l:List (Int × Int)):(sortP l).length=l.length:=List.length_mergeSort l
def Zbg (l:List (Int × Int)):List Value:=l.flatMap Zjd
theorem Zbw (l:List (Int × Int)):(Zbg l).length=l.length*2:=by
 induction l with
 | nil=>rfl
 | cons x r ih=>show (Zjd x++Zbg r).length=_;rw[List.length_append,ih,List.length_cons];show 2+_=_;omega
theorem Zis (l:List (Int × Int))(i:Nat)(h:i<l.length):(Zbg l)[i*2]?=some (.int .i64 l[i].1)∧(Zbg l)[i*2+1]?=some (.int .i64 l[i].2):=by
 induction l generalizing i with
 | nil=>simp at h
 | cons x r ih=>
  cases i with
  | zero=>exact⟨rfl,rfl⟩
  | succ i=>
   have:=ih i (by simpa using h);have e:∀j,(Zbg (x :: r))[j+2]?=(Zbg r)[j]?:=fun j=>by
    show (Zjd x++Zbg r)[j+2]?=_;rw[List.getElem?_append_right (by show 2≤_;omega)];show (Zbg r)[j+2-2]?=_;rw[Nat.add_sub_cancel]
   rw[show (i+1)*2=i*2+2 by omega,show i*2+2+1=(i*2+1)+2 by omega,e,e];exact this
theorem Zhy (l:List (Int × Int)):flatK Zjd 2 l.toArray=(Zbg l).toArray:=by
 apply Array.ext
 ·rw[Go.Sort.size_flatK,List.size_toArray,List.size_toArray,Zbw]
 ·intro i h1 h2;have h3:i<l.length*2:=by simpa using h1
  have e:=Go.Sort.get_flatK Zjd 2 l.toArray i (by simpa using h3);rw[getElem!_pos _ i h1]at e;rw[e];obtain⟨g1,g2⟩:=Zis l (i / 2) (by omega);have hx:l.toArray[i / 2]! = l[i / 2]'(by omega):=by rw[getElem!_pos _ _ (by simp;omega)];simp
  rw[hx,List.getElem_toArray];have h4:i % 2=0∨i % 2=1:=by omega
  rcases h4 with h4 | h4
  ·rw[h4];rw[show i / 2*2=i by omega,List.getElem?_eq_getElem (by rw[Zbw];omega)]at g1;injection g1 with g1
   rw[g1];rfl
  ·rw[h4];rw[show i / 2*2+1=i by omega,List.getElem?_eq_getElem (by rw[Zbw];omega)]at g2;injection g2 with g2
   rw[g2];rfl
def OwnP (w:World)(base:Nat)(v:Value)(l:List (Int × Int)):Prop:=w.ownsRow base 90 2 v l.length (Zbg l)
theorem OwnP.below {w w1:World}{base:Nat}{v:Value}{l:List (Int × Int)}(h:OwnP w base v l)(hb:Below w.heap.size w w1):OwnP w1 base v l:=Zbx h hb
theorem OwnP.nil (w:World)(base:Nat):OwnP w base (.slice none 0 0) []:=Zqx _ _ _ _
theorem OwnP.slice {w:World}{base:Nat}{v:Value}{l:List (Int × Int)}(h:OwnP w base v l):∃A c,v=.slice A l.length c∧l.length≤c:=by
 rcases h.2 with⟨rfl,e0⟩ | ⟨g,cap,cur,rfl,_,_,h1,_⟩
 ·exact⟨none,0,by rw[e0],by omega⟩
 ·exact⟨_,cap,rfl,h1⟩
theorem Zgm {w:World}{base:Nat}{e:TypeId}{sz:Nat}{v:Value}{n:Nat}{xs:List Value}(h:w.ownsRow base e sz v n xs)(hv:v≠.slice none 0 0) :
 ∃g cap,v=.slice (some ⟨g,0,none⟩) n cap∧base≤g∧g<w.heap.size∧n≤cap∧cap≤maxLen∧Holds id w g 0 xs.toArray:=by
 rcases h.2 with⟨e0,_⟩ | ⟨g,cap,cur,rfl,hb,hg,hn,hm,hs,ht⟩
 ·exact absurd e0 hv
 ·refine⟨g,cap,rfl,hb,Zau hg,hn,hm,fun j hj=>?_⟩;have hj':j<n*sz:=by have:=h.1;simp at hj;omega
  have hjs:j<cur.size:=by rw[hs];exact Nat.lt_of_lt_of_le hj' (Nat.mul_le_mul_right _ hn)
  refine⟨?_,by simp[World.frozen?,hg]⟩;rw[Nat.zero_add,Zaa hg j];have e1:(cur.toList.take (n*sz))[j]?=xs[j]?:=by rw[ht]
  rw[List.getElem?_take,if_pos hj',Array.getElem?_toList]at e1;rw[e1,getElem!_pos _ j hj];simp at hj;simp[hj]
theorem Zng {w:World}{base:Nat}{e:TypeId}{sz g n cap q:Nat}{xs ys:List Value}(h:w.ownsRow base e sz (.slice (some ⟨g,0,none⟩) n cap) n xs)(hy:ys.length=n*sz) :
 (putRow id (Go.Sort.ahead w q) g 0 ys.toArray).ownsRow base e sz (.slice (some ⟨g,0,none⟩) n cap) n ys:=by
 rcases h.2 with⟨e0,_⟩ | ⟨g',cap',cur,e0,hb,hg,hn,hm,hs,ht⟩
 ·cases e0
 ·injection e0 with e1 _ e3
  injection e1 with e1
  injection e1 with e1
  subst e1;subst e3;refine⟨hy,.inr ⟨g,cap,Go.Sort.putCells id 0 ys.toArray cur,rfl,hb,?_,hn,hm,by simpa[Go.Sort.putCells]using hs,?_⟩⟩
  ·simp[putRow,Go.Sort.mapBlock,Go.Sort.ahead,Array.getElem?_modify,hg,Go.Sort.onCells]
  ·apply List.ext_getElem?;intro j;have hnc:n*sz≤cap*sz:=Nat.mul_le_mul_right _ hn;rw[List.getElem?_take,Array.getElem?_toList];by_cases hj:j<n*sz
   ·have hjc:j<cur.size:=by omega
    simp only[if_pos hj,Go.Sort.putCells,Array.getElem?_mapIdx,Array.getElem?_eq_getElem hjc,Option.map_some];rw[if_pos (by simp;omega),List.getElem?_eq_getElem (by omega)];simp[getElem!_pos,show j<ys.length by omega]
   ·rw[if_neg hj,List.getElem?_eq_none (by omega)]
theorem sortP_call (w0 w:World)(v:Value)(l:List (Int × Int))(hB:Below w0.heap.size w0 w)(h:OwnP w w0.heap.size v l)(hl:l.length≤1000000) :
 Calls Tryz.prog 131 #[v,.func (.func 132) #[] #[]] w fun e w'=>e=.returned (.tuple #[])∧OwnP w' w0.heap.size v (sortP l)∧Below w0.heap.size w0 w'∧Kept w w' (fun k=>v.ownBlock=some k):=by
 by_cases hv:v=.slice none 0 0
 ·subst hv;have hl0:l=[]:=by
   obtain⟨A,c,he,_⟩:=h.slice;injection he with _ he _
   exact List.length_eq_zero_iff.1 he.symm
  subst hl0;refine (AnyF.slices_SortFunc_none Tryz.sortP none 0 _ w).mono ?_
  rintro e w' ⟨rfl,rfl⟩;exact⟨rfl,by rw[show sortP []=[] by simp[sortP]];exact h,hB,Kept.refl _ _⟩
 ·obtain⟨g,cap,rfl,hg,hlt,hc,hm,hH⟩:=Zgm h hv;have eg:∀args w,(callFunc 132 args).run Tryz.prog w=.ok (.enter 132 args) w:=enters_of Tryz.func132 (by kernel_rfl) rfl;have hHK:HoldsK Zjd 2 w g 0 l.toArray:=by unfold HoldsK;rw[Zhy];exact hH
  have hcon:=AnyQ.slices_SortFunc_total Tryz.sortP 2 (fun w=>by kernel_rfl) (fun w=>by kernel_rfl) Zjd (fun _=>rfl) (fun x v hv=>by simp[Zjd]at hv;rcases hv with rfl | rfl <;> rfl) cmpP swoP 132 #[] g 0 cap l.toArray w eg (fun _ _ _ _ x y=>closure47 x y _) hHK hlt (by simp;omega) (fun x y h1 h2=>by
   rw[Zfw]at h1 h2;unfold ltP at h1 h2;simp at h1 h2;apply Prod.ext <;> omega)
  refine (show Calls Tryz.prog 131 _ _ _ from hcon).mono ?_
  rintro e w' ⟨rfl,n,os,rfl⟩;rw[Zfw];have e1:sortWorldK Zjd 2 w g 0 n (l.toArray.toList.mergeSort fun x y=>!ltP y x).toArray os=grow (putRow id (Go.Sort.ahead w n) g 0 (Zbg (sortP l)).toArray) os:=by
   unfold sortWorldK putRowK;rw[show (l.toArray.toList.mergeSort fun x y=>!ltP y x)=sortP l from rfl,Zhy]
  rw[e1];have o1:=Zng (q:=n) (ys:=Zbg (sortP l)) h (by rw[Zbw,Zco]);have b1:=Lib.below_putRow (enc:=(id:Value→Value)) (d:=(Zbg (sortP l)).toArray) (q:=n) hB hg;have o2:=Zbx o1 (Zbv _ os);refine⟨rfl,by unfold OwnP;rw[Zco];exact o2,Zfb b1 b1.size (Zbv _ os),?_⟩;refine (Kept.trans_ (S:=fun k=>(Value.slice (some ⟨g,0,none⟩) l.length cap).ownBlock=some k) (w1:=putRow id (Go.Sort.ahead w n) g 0 (Zbg (sortP l)).toArray) ?_ ?_)
  ·refine⟨by simp[putRow,Go.Sort.mapBlock,Go.Sort.ahead],fun i hi hne=>?_⟩;have hne':g≠i:=fun he=>hne (by simp[Value.ownBlock,he])
   simp[putRow,Go.Sort.mapBlock,Go.Sort.ahead,Array.getElem?_modify,hne']
  ·exact⟨(Zbv _ os).size,fun i hi _=>(Zbv _ os).block i hi⟩
end Go.Proofs.YtaokkliamoghbaaGreatDoor.PVpa
namespace Go.Proofs.YtaokkliamoghbaaGreatDoor.PVpa
open Go.RowKit Go.Proofs.YtaokkliamoghbaaGreatDoorW.PrintWords Go.Proofs.YtaokkliamoghbaaGreatDoorW.PrintLast Go.Proofs.YtaokkliamoghbaaGreatDoorW.PrintMore
open Go.Sort (grow putRow Holds flatK HoldsK putRowK SWO)
def encS (x:Int):List Value:=[.int .i64 x,.int .i64 (x+1)]
def cmpS (x y:Int):Int:=Lib.compareInt x y
theorem closure164 (x y:Int)(W:World):Calls Tryz.prog 187 #[.agg #[.int .i64 x,.int .i64 (x+1)],.agg #[.int .i64 y,.int .i64 (y+1)]] W fun e w'=>e=.returned (.int .i64 (cmpS x y))∧∃q os',w'=grow (W.drewN q) os':=by
 unfold cmpS;generalize hx:x+1=x2;generalize hy:y+1=y2;clear hx hy
 go_enter Tryz.func187,Tryz.ntmps187
 go_wp2_with (go_at_call 79;refine (Znx _ _ _).mono ?_;rintro e w1 ⟨rfl,rfl⟩)
 go_ret
 exact⟨rfl,0,#[.cells #[.int .i64 x,.int .i64 x2] 228 (0,0),.cells #[.int .i64 y,.int .i64 y2] 228 (0,0)],rfl⟩
def ltS (x y:Int):Bool:=decide (x<y)
theorem Zkr:ltOf cmpS=ltS:=by
 funext x y
 unfold ltOf ltS cmpS Lib.compareInt;by_cases h1:x<y
 ·simp[h1]
 ·by_cases h2:y<x <;> simp[h1,h2]
theorem swoS:SWO (ltOf cmpS):=by
 rw[Zkr];refine⟨fun x=>by simp[ltS],fun x y z h1 h2=>?_,fun x y z h1 h2=>?_⟩
 ·unfold ltS at *;simp at *;omega
 ·unfold ltS at *;simp at *;omega
def Zdi (l:List Int):List Value:=l.flatMap encS
theorem Zdh (l:List Int):(Zdi l).length=l.length*2:=by
 induction l with
 | nil=>rfl
 | cons x r ih=>show (encS x++Zdi r).length=_;rw[List.length_append,ih,List.length_cons];show 2+_=_;omega
theorem Zmo (l:List Int)(i:Nat)(h:i<l.length):(Zdi l)[i*2]?=some (.int .i64 l[i])∧(Zdi l)[i*2+1]?=some (.int .i64 (l[i]+1)):=by
 induction l generalizing i with
 | nil=>simp at h
 | cons x r ih=>
  cases i with
  | zero=>exact⟨rfl,rfl⟩
  | succ i=>
   have:=ih i (by simpa using h);have e:∀j,(Zdi (x :: r))[j+2]?=(Zdi r)[j]?:=fun j=>by
    show (encS x++Zdi r)[j+2]?=_;rw[List.getElem?_append_right (by show 2≤_;omega)];show (Zdi r)[j+2-2]?=_;rw[Nat.add_sub_cancel]
   rw[show (i+1)*2=i*2+2 by omega,show i*2+2+1=(i*2+1)+2 by omega,e,e];exact this
theorem Zpm (l:List Int):flatK encS 2 l.toArray=(Zdi l).toArray:=by
 apply Array.ext
 ·rw[Go.Sort.size_flatK,List.size_toArray,List.size_toArray,Zdh]
 ·intro i h1 h2;have h3:i<l.length*2:=by simpa using h1
  have e:=Go.Sort.get_flatK encS 2 l.toArray i (by simpa using h3);rw[getElem!_pos _ i h1]at e;rw[e];obtain⟨g1,g2⟩:=Zmo l (i / 2) (by omega);have hx:l.toArray[i / 2]! = l[i / 2]'(by omega):=by rw[getElem!_pos _ _ (by simp;omega)];simp
  rw[hx];have h4:i % 2=0∨i % 2=1:=by omega
  rcases h4 with h4 | h4
  ·rw[h4];rw[show i / 2*2=i by omega,List.getElem?_eq_getElem (by rw[Zdh];omega)]at g1;injection g1 with g1
   rw[List.getElem_toArray,g1];rfl
  ·rw[h4];rw[show i / 2*2+1=i by omega,List.getElem?_eq_getElem (by rw[Zdh];omega)]at g2;injection g2 with g2
   rw[List.getElem_toArray,g2];rfl
theorem Zoq {w:World}{base:Nat}{ok:Nat→Prop}:∀{l:List Int} {cs:List Value},Reps (Zex.M w base ok) 2 l cs→cs=Zdi l
 | [],cs,h=>by
  have:=h.1;simp at this;rw[this];rfl
 | x :: l,cs,h=>by
  have h0:=h.2 0 x rfl;have h1:Zex.M w base ok x (cs.take 2):=by simpa using h0
  have e1:cs.take 2=encS x:=Zgk (Zex.K_of_M h1);have h2:Reps (Zex.M w base ok) 2 l (cs.drop 2):=⟨by rw[List.length_drop,h.1];simp;omega,fun j p hj=>by
   have:=h.2 (j+1) p (by simpa using hj);rw[List.drop_drop,show 2+j*2=(j+1)*2 by omega];exact this⟩
  rw[←List.take_append_drop 2 cs,e1,Zoq h2];rfl
theorem span_own {w:World}{base:Nat}{ok:Nat→Prop}{v:Value}{l:List Int}(h:Zex.R 228 w base ok v l):w.ownsRow base 228 2 v l.length (Zdi l):=by
 obtain⟨_,inner,ho,hr⟩:=h;rw[←Zoq hr];exact ho
theorem span_R {w:World}{base:Nat}{v:Value}{l:List Int}(h:w.ownsRow base 228 2 v l.length (Zdi l)):Zex.R 228 w base (fun _=>True) v l:=
 ⟨fun _ _=>trivial,Zdi l,h,Zdh l,fun j p hj=>by
  have hlt:j<l.length:=(List.getElem?_eq_some_iff.1 hj).1;have hp:l[j]=p:=(List.getElem?_eq_some_iff.1 hj).2;obtain⟨g1,g2⟩:=Zmo l j hlt;rw[hp]at g1 g2;have e:((Zdi l).drop (j*2)).take 2=[.int .i64 p,.int .i64 (p+1)]:=by
   apply List.ext_getElem?;intro i;rw[List.getElem?_take]
   match i with
   | 0=>simpa using g1
   | 1=>simpa[Nat.add_comm]using g2
   | i+2=>simp;omega
  show Zex.M w base _ p (((Zdi l).drop (j*2)).take 2);rw[e];exact Zhu _ _ _ _⟩
theorem Zqk (l:List Int)(h:l.Pairwise (fun x y=>x+1<y)):(l.mergeSort fun x y=>!ltS y x)=l:=by
 apply List.mergeSort_of_pairwise;exact h.imp (fun {a b} hab=>by unfold ltS;simp;omega)
theorem sortS_call (w0 w:World)(v:Value)(l:List Int)(hB:Below w0.heap.size w0 w)(h:Zex.R 228 w w0.heap.size (fun _=>True) v l)(hl:l.length≤1000000)(hr:l.Pairwise (fun x y=>x+1<y)) :
 Calls Tryz.prog 186 #[v,.func (.func 187) #[] #[]] w fun e w'=>e=.returned (.tuple #[])∧Zex.R 228 w' w0.heap.size (fun _=>True) v l∧Below w0.heap.size w0 w':=by
 have h:=span_own h;by_cases hv:v=.slice none 0 0
 ·subst hv;refine (AnyF.slices_SortFunc_none Tryz.sortSpan none 0 _ w).mono ?_
  rintro e w' ⟨rfl,rfl⟩;exact⟨rfl,span_R h,hB⟩
 ·obtain⟨g,cap,rfl,hg,hlt,hc,hm,hH⟩:=Zgm h hv;have eg:∀args w,(callFunc 187 args).run Tryz.prog w=.ok (.enter 187 args) w:=enters_of Tryz.func187 (by kernel_rfl) rfl;have hHK:HoldsK encS 2 w g 0 l.toArray:=by unfold HoldsK;rw[Zpm];exact hH
  have hcon:=AnyQ.slices_SortFunc_total Tryz.sortSpan 2 (fun w=>by kernel_rfl) (fun w=>by kernel_rfl) encS (fun _=>rfl) (fun x v hv=>by simp[encS]at hv;rcases hv with rfl | rfl <;> rfl) cmpS swoS 187 #[] g 0 cap l.toArray w eg (fun _ _ _ _ x y=>closure164 x y _) hHK hlt (by simp;omega) (fun x y h1 h2=>by
   rw[Zkr]at h1 h2;unfold ltS at h1 h2;simp at h1 h2;omega)
  refine (show Calls Tryz.prog 186 _ _ _ from hcon).mono ?_
  rintro e w' ⟨rfl,n,os,rfl⟩;rw[Zkr];have e1:sortWorldK encS 2 w g 0 n (l.toArray.toList.mergeSort fun x y=>!ltS y x).toArray os=grow (putRow id (Go.Sort.ahead w n) g 0 (Zdi l).toArray) os:=by
   unfold sortWorldK putRowK;rw[show (l.toArray.toList.mergeSort fun x y=>!ltS y x)=l from Zqk l hr,Zpm]
  rw[e1];have o1:=Zng (q:=n) (ys:=Zdi l) h (by rw[Zdh]);have b1:=Lib.below_putRow (enc:=(id:Value→Value)) (d:=(Zdi l).toArray) (q:=n) hB hg;exact⟨rfl,span_R (Zbx o1 (Zbv _ os)),Zfb b1 b1.size (Zbv _ os)⟩
end Go.Proofs.YtaokkliamoghbaaGreatDoor.PVpa
namespace Go
section
variable {P:Program}{ops:Array Oper}{md:Region.Mode}
def Zah (ops:Array Oper)(i:Nat):Option Tmp:=(ops[i]?).bind (·.dst)
def Zan (ops:Array Oper)(a0:Act)(vals:Nat→Value):List Nat→Act
 | []=>a0
 | j :: l=>(Zan ops a0 vals l).put (Zah ops j) (vals j)
def looks (ops:Array Oper)(i:Nat):List Tmp:=match ops[i]? with
 | some o=>o.looksAt ops
 | none=>[]
def Zfn (md:Region.Mode)(ops:Array Oper)(m N:Nat)(deps:Nat→List Nat):Bool:=
 Region.noSelect ops&&decide (m≤ops.size) &&
 (List.range m).all (fun i=>
  (match ops[i]? with
   | some o=>o.guard.isNone&&o.after.all fun e=>!Region.binds md e||decide (e.on<i)
   | none=>false)
  && ((deps i).all fun k=>decide (k<m)&&Region.waitsFor md ops i k)
  && ((looks ops i).all fun t=>((deps i).any fun j=>Zah ops j==some t)||((List.range m).all fun j=>Zah ops j != some t||j==i||Region.waitsFor md ops j i))
  && (match Zah ops i with | some d=>decide (d<N) | none=>true)
  && ((List.range m).all fun j=>j==i||(Zah ops i).isNone||Zah ops j != Zah ops i))
 && (decide (m=ops.size)||(Region.sinkB md ops m&&Region.chainB md ops m))
def Zbs (m n:Nat):Array Bool:=(Array.range n).map fun i=>decide (i<m)
def Zjm (listed:Array Bool):Nat→Nat
 | 0=>0
 | j+1=>Zjm listed j+(if listed.getD j true=true then 0 else 1)
theorem Zjn (a:Act)(d:Option Tmp)(v:Value):(a.put d v).tmps.size=a.tmps.size:=by cases d <;> simp[Act.put]
theorem Zeb (a:Act)(d:Option Tmp)(v:Value):(a.put d v).defers=a.defers:=by cases d <;> rfl
theorem Zdr (a0:Act)(vals:Nat→Value):∀l,(Zan ops a0 vals l).tmps.size=a0.tmps.size
 | []=>rfl
 | j :: l=>by unfold Zan;rw[Zjn,Zdr a0 vals l]
theorem Zcz (a0:Act)(vals:Nat→Value):∀l,(Zan ops a0 vals l).defers=a0.defers
 | []=>rfl
 | j :: l=>by unfold Zan;rw[Zeb,Zcz a0 vals l]
theorem Zfg (a:Act)(d:Option Tmp)(v:Value)(t:Tmp)(hd:∀e,d=some e→e<a.tmps.size):(a.put d v).tmps.getD t undef=if d=some t then v else a.tmps.getD t undef:=by
 cases d with
 | none=>simp[Act.put]
 | some e=>
  have he:=hd e rfl;by_cases h:e=t
  ·subst h;simp[Act.put,he]
  ·rw[if_neg (by simp;exact h)];simp[Act.put,Array.getElem?_setIfInBounds_ne h]
theorem put_inj {ac:Act}{d:Option Tmp}{v v':Value}(h:ac.put d v=ac.put d v')(hd:∀e,d=some e→e<ac.tmps.size)(a:Act):a.put d v=a.put d v':=by
 cases d with
 | none=>rfl
 | some e=>
  have h1:=Zfg ac (some e) v e hd;have h2:=Zfg ac (some e) v' e hd;rw[if_pos rfl]at h1 h2;rw[h]at h1;rw[h1]at h2;rw[h2]
theorem Zfk (a0:Act)(vals:Nat→Value)(t:Tmp):∀l,(∀j∈l,∀e,Zah ops j=some e→e<a0.tmps.size) →
 (∀j∈l,Zah ops j=some t→(∀k∈l,Zah ops k=some t→k=j)→(Zan ops a0 vals l).tmps.getD t undef=vals j)∧((∀j∈l,Zah ops j≠some t)→(Zan ops a0 vals l).tmps.getD t undef=a0.tmps.getD t undef)
 | [],_=>⟨(fun j hj=>(by cases hj)),fun _=>rfl⟩
 | k :: l,hs=>by
  have ih:=Zfk a0 vals t l (fun j hj=>hs j (List.mem_cons_of_mem _ hj));have hp:=Zfg (Zan ops a0 vals l) (Zah ops k) (vals k) t (fun e he=>by rw[Zdr];exact hs k List.mem_cons_self e he);refine⟨fun j hj hd hu=>?_,fun hn=>?_⟩
  ·unfold Zan;rw[hp];by_cases hk:Zah ops k=some t
   ·rw[if_pos hk];rw[hu k List.mem_cons_self hk]
   ·rw[if_neg hk]
    rcases List.mem_cons.1 hj with rfl | hj
    ·exact absurd hd hk
    ·exact ih.1 j hj hd (fun i hi=>hu i (List.mem_cons_of_mem _ hi))
  ·unfold Zan;rw[hp,if_neg (hn k List.mem_cons_self)];exact ih.2 (fun j hj=>hn j (List.mem_cons_of_mem _ hj))
theorem Zjv {listed:Array Bool}{i:Nat}(hi:listed.getD i true=false):∀n,Zjm (listed.setIfInBounds i true) n+(if i<n then 1 else 0)=Zjm listed n
 | 0=>by simp[Zjm]
 | n+1=>by
  have ih:=Zjv hi n;unfold Zjm;by_cases h:n=i
  ·subst h;have h1:(listed.setIfInBounds n true).getD n true=true:=by
    by_cases hs:n<listed.size
    ·simp[hs]
    ·simp[Array.getElem?_eq_none (Nat.le_of_not_lt hs)]
   rw[h1,hi];simp at ih ⊢;omega
  ·rw[getD_set_ne true (fun e=>h e.symm)];by_cases h2:i<n
   ·have e1:(if i<n+1 then 1 else 0)=1:=if_pos (by omega);rw[if_pos h2]at ih;rw[e1];omega
   ·have e1:(if i<n+1 then 1 else 0)=0:=if_neg (by omega);rw[if_neg h2]at ih;rw[e1];omega
theorem Zga {listed:Array Bool}:∀n,Zjm listed n=0→∀j,j<n→listed.getD j true=true
 | 0,_,j,hj=>by omega
 | n+1,h,j,hj=>by
  unfold Zjm at h;by_cases hn:listed.getD n true=true
  ·rw[if_pos hn]at h;by_cases e:j=n
   ·subst e;exact hn
   ·exact Zga n (by omega) j (by omega)
  ·rw[if_neg hn]at h;omega
theorem Zgo {listed:Array Bool}:∀n,Zjm listed n≠0→∃j,j<n∧listed.getD j true=false∧∀k,k<j→listed.getD k true=true
 | 0,h=>absurd rfl h
 | n+1,h=>by
  by_cases h0:Zjm listed n=0
  ·refine⟨n,by omega,?_,Zga n h0⟩;cases hb:listed.getD n true with
   | false=>rfl
   | true=>unfold Zjm at h;rw[h0,hb]at h;simp at h
  ·obtain⟨j,hj,h1,h2⟩:=Zgo n h0;exact⟨j,by omega,h1,h2⟩
structure GInv (md:Region.Mode)(ops:Array Oper)(m:Nat)(a0:Act)(deps:Nat→List Nat)(Φ:Nat→List Value→World→Prop)(R:World→World→Prop)(w0:World)(listed:Array Bool)(a:Act)(vals:Nat→Value)(w:World):Prop where
 size:a.tmps.size=a0.tmps.size
 defers:a.defers=a0.defers
 lsize:listed.size=ops.size
 done:∀j,j<m→listed.getD j true=true→∀d,Zah ops j=some d→a.tmps.getD d undef=vals j
 open_:∀t,(∀j,j<m→listed.getD j true=true→Zah ops j≠some t)→a.tmps.getD t undef=a0.tmps.getD t undef
 facts:∀j,j<m→listed.getD j true=true→Φ j ((j :: deps j).map vals) w
 rel:R w0 w
 tail:∀t,m≤t→t<ops.size→listed.getD t true=false
 closed:∀j,j<m→listed.getD j true=true→∀i,Region.waitsFor md ops j i=true→listed.getD i false=true
theorem Act.ext' {a b:Act}(hs:a.tmps.size=b.tmps.size)(hd:a.defers=b.defers)(h:∀t,a.tmps.getD t undef=b.tmps.getD t undef):a=b:=by
 obtain⟨x,d⟩:=a;obtain⟨y,e⟩:=b;have hd:d=e:=hd;have hs:x.size=y.size:=hs;have h:∀t:Nat,x.getD t undef=y.getD t undef:=h;subst hd;have:x=y:=Array.ext hs (fun i h1 h2=>by
  have:=h i;simpa[h1,h2]using this)
 rw[this]
theorem Zgu {Q:Exit→Act→World→Prop}{o:Oper}{a ac:Act}{w:World}{T:Value→World→Prop}{K:Act→World→Prop}(he:execOp a.eval o=execOp ac.eval o)(hd:∀e,o.dst=some e→e<ac.tmps.size)(hdef:a.defers=ac.defers)
 (hK:∀v w',T v w'→K (a.put o.dst v) w') (h:Oper.wp P o ac w (fun a' w'=>∃v,a'=ac.put o.dst v∧T v w') (fun _ _ _=>False)):Oper.wp P o a w K Q:=by
 have go:∀v w',(∃v',ac.put o.dst v=ac.put o.dst v'∧T v' w')→K (a.put o.dst v) w':=fun v w' ⟨v',e,ht⟩=>by
  rw[put_inj e hd a];exact hK v' w' ht
 unfold Oper.wp at *;rw[he];generalize (execOp ac.eval o).run P w=r at *;cases r with
 | ok n w'=>
  cases n <;> simp only[Oper.upon]at h ⊢
  case value v=>exact go v w' h
  case skip=>exact go undef w' h
  case defer d=>
   obtain⟨v,e,_⟩:=h;have:=congrArg Act.defers e;rw[Zeb,Zeb]at this;exact absurd this (by simp)
  case enter f args=>
   refine Calls.mono h fun e w'' he=>?_
   cases e with
   | returned v=>exact go v w'' he
   | panicked c=>exact (he:False).elim
   | outgrown=>obtain⟨_,_,hf⟩:=(he:LetsOut _);exact hf.elim
  case row row args=>exact Rows.mono h fun v w'' he=>go v w'' he
 | halt x w'=>
  cases x <;> simp only[Oper.upon]at h
theorem Zcn {i j:Nat}{listed:Array Bool}(hr:i∈Region.ready md ops listed)(hw:Region.waitsFor md ops i j=true):listed.getD j false=true:=by
 obtain⟨_,o,ho,hall⟩:=mem_ready.1 hr;obtain⟨o',ho',e,he,hb,hj⟩:=Region.waitsFor_spec hw;rw[ho]at ho';injection ho' with ho'
 subst ho';rw[←hj];exact hall e he hb
section main
variable {Q:Exit→Act→World→Prop}{a0:Act}{w0:World}{m N:Nat}{deps:Nat→List Nat}{Φ:Nat→List Value→World→Prop}{R:World→World→Prop}
theorem grow_go (hB:Zfn md ops m N deps=true)(hT:Region.seqB md ops (ops.size-m) m (Zbs m ops.size)=true)(hN:a0.tmps.size=N)(hRt:∀w w1 w2,R w w1→R w1 w2→R w w2)
 (stab:∀i vs w w',Φ i vs w→R w w'→Φ i vs w')
 (step:∀i o,i<m→ops[i]?=some o→∀(vals:Nat→Value) W,R w0 W→(∀j∈deps i,Φ j ((j :: deps j).map vals) W) →
  ∀K:Act→World→Prop,(∀v w',R W w'→Φ i (v :: (deps i).map vals) w'→K ((Zan ops a0 vals (deps i)).put o.dst v) w')→if Region.wanted o (yielded ops (Zan ops a0 vals (deps i)).tmps)=true then Oper.wp P o (Zan ops a0 vals (deps i)) W K (fun _ _ _=>False)else K ((Zan ops a0 vals (deps i)).put o.dst undef) W)
 (fin:∀(vals:Nat→Value) W,R w0 W→(∀j,j<m→Φ j ((j :: deps j).map vals) W)→wpList P ops Q (ops.toList.drop m) (Zan ops a0 vals (List.range m)) W) :
 ∀k listed a w vals,Zjm listed m=k→GInv md ops m a0 deps Φ R w0 listed a vals w→wpAny P md ops Q (ops.size-m+k) listed a w:=by
 simp only[Zfn,Bool.and_eq_true,Bool.or_eq_true,decide_eq_true_eq]at hB;obtain⟨⟨⟨hsel,hms⟩,hall⟩,hsink⟩:=hB;simp only[Bool.and_eq_true,List.all_eq_true,List.mem_range,decide_eq_true_eq]at hall;have hdst:∀j,j<m→∀e,Zah ops j=some e→e<a0.tmps.size:=fun j hj e he=>by
  have:=(hall j hj).1.2;rw[he]at this;rw[hN];simpa using this
 have hdis:∀i j,i<m→j<m→∀t,Zah ops i=some t→Zah ops j=some t→j=i:=fun i j hi hj t h1 h2=>by
  have:=(hall i hi).2 j hj;simp only[Bool.or_eq_true,beq_iff_eq,bne_iff_ne,ne_eq,h1,h2,Option.isNone_some,Bool.false_eq_true,or_false,not_true_eq_false]at this;exact this
 intro k
 induction k with
 | zero=>
  intro listed a w vals hc inv;have hl:=Zga m hc;have e1:listed=Zbs m ops.size:=by
   apply Array.ext
   ·simp[Zbs,inv.lsize]
   ·intro i h1 h2;have hi:i<ops.size:=by rw[←inv.lsize];exact h1
    simp only[Zbs,Array.getElem_map,Array.getElem_range];by_cases him:i<m
    ·have:=hl i him;simp[h1]at this;rw[this,decide_eq_true him]
    ·have:=inv.tail i (by omega) hi;simp[h1]at this;rw[this,decide_eq_false him]
  have e2:a=Zan ops a0 vals (List.range m):=by
   refine Act.ext' (by rw[Zdr];exact inv.size) (by rw[Zcz];exact inv.defers) (fun t=>?_);have hg:=Zfk (ops:=ops) a0 vals t (List.range m) (fun j hj=>hdst j (List.mem_range.1 hj));by_cases hx:∃j,j<m∧Zah ops j=some t
   ·obtain⟨j,hj,hd⟩:=hx;rw[hg.1 j (List.mem_range.2 hj) hd (fun i hi hd2=>hdis j i hj (List.mem_range.1 hi) t hd hd2)];exact inv.done j hj (hl j hj) t hd
   ·rw[hg.2 (fun j hj hd=>hx ⟨j,List.mem_range.1 hj,hd⟩)];exact inv.open_ t (fun j hj _ hd=>hx ⟨j,hj,hd⟩)
  rw[e1,e2];have hlen:(ops.toList.drop m).length=ops.size-m:=by simp
  have h3:=wpAny_of_seq (P:=P) (md:=md) (ops:=ops) (Q':=Q) (ops.toList.drop m) m (Zbs m ops.size) (Zan ops a0 vals (List.range m)) w (fun j=>by simp) (by rw[hlen];exact hT) (fin vals w inv.rel (fun j hj=>inv.facts j hj (hl j hj)));rw[hlen]at h3;exact h3
 | succ k ih=>
  intro listed a w vals hc inv;obtain⟨j0,hj0,hu0,hb0⟩:=Zgo m (by omega:Zjm listed m≠0);have hin:∀i,i<ops.size→listed.getD i true=true→listed.getD i false=true:=fun i hi h=>by
   have:i<listed.size:=by rw[inv.lsize];exact hi
   simp[this]at h ⊢;exact h
  refine⟨fun h0=>?_,fun i hi=>?_⟩
  ·have hr:j0∈Region.ready md ops listed:=by
    have h1:=(hall j0 hj0).1.1.1.1;cases ho:ops[j0]? with
    | none=>rw[ho]at h1;cases h1
    | some o=>
     rw[ho]at h1;simp only[Bool.and_eq_true,Array.all_eq_true_iff_forall_mem]at h1;refine mem_ready.2 ⟨hu0,o,ho,fun e he hb=>?_⟩;have h2:=h1.2 e he;rw[hb]at h2;simp at h2;exact hin _ (by omega) (hb0 _ h2)
   rw[h0]at hr;cases hr
  ·obtain⟨hui,o,ho,hafter⟩:=mem_ready.1 hi;have him:i<m:=by
    rcases Nat.lt_or_ge i m with h | h
    ·exact h
    ·exfalso
     have his:i<ops.size:=(Array.getElem?_eq_some_iff.1 ho).1
     rcases hsink with h2 | ⟨hs1,hs2⟩
     ·omega
     ·have hinv:HeadInv md ops m listed:=⟨inv.lsize,fun j oj hj hl e he hb=>?_,inv.tail⟩
      ·exact tail_waits hs1 hs2 (by omega) hinv (m-j0) j0 rfl hj0 hu0 i h hi
      ·have hjs:j<ops.size:=(Array.getElem?_eq_some_iff.1 hj).1;have hl2:listed.getD j true=true:=by
        have:j<listed.size:=by rw[inv.lsize];exact hjs
        simp[this]at hl ⊢;exact hl
       rcases Nat.lt_or_ge j m with hjm | hjm
       ·refine inv.closed j hjm hl2 e.on ?_
        unfold Region.waitsFor;rw[hj];exact Array.any_eq_true'.2 ⟨e,he,by simp[hb]⟩
       ·have:=inv.tail j hjm hjs;rw[hl2]at this;cases this
   have hfact:=hall i him;have hdl:∀j∈deps i,j<m∧listed.getD j true=true:=fun j hj=>by
    obtain⟨h2,h3⟩:=hfact.1.1.1.2 j hj;refine⟨h2,?_⟩;have h4:=Zcn hi h3;cases hb:listed.getD j true with
    | true=>rfl
    | false=>have:=getD_both hb;rw[h4]at this;cases this
   have hdo:Zah ops i=o.dst:=by unfold Zah;rw[ho];rfl
   have hlk:looks ops i=o.looksAt ops:=by unfold looks;rw[ho]
   have hsame:∀t∈o.looksAt ops,a.tmps.getD t undef=(Zan ops a0 vals (deps i)).tmps.getD t undef:=fun t ht=>by
    have h1:=hfact.1.1.2;rw[hlk]at h1;have h1:=h1 t ht;simp only[Bool.or_eq_true,List.any_eq_true,List.all_eq_true,beq_iff_eq,bne_iff_ne,ne_eq,List.mem_range]at h1;have hg:=Zfk (ops:=ops) a0 vals t (deps i) (fun j hj=>hdst j (hdl j hj).1)
    rcases h1 with⟨j,hj,hd⟩ | h2
    ·rw[hg.1 j hj hd (fun k hk hd2=>hdis j k (hdl j hj).1 (hdl k hk).1 t hd hd2)];exact inv.done j (hdl j hj).1 (hdl j hj).2 t hd
    ·have hno:∀j,j<m→listed.getD j true=true→Zah ops j≠some t:=fun j hj hlj hd=>by
      rcases h2 j hj with (h3 | h3) | h3
      ·exact h3 hd
      ·subst h3;rw[hui]at hlj;cases hlj
      ·have h5:=inv.closed j hj hlj i h3;have h4:=getD_both hui;rw[h5]at h4;cases h4
     rw[inv.open_ t hno,hg.2 (fun j hj=>hno j (hdl j hj).1 (hdl j hj).2)]
   have hgd:o.guard=none:=by
    have h1:=hfact.1.1.1.1;rw[ho]at h1;simp only[Bool.and_eq_true,Option.isNone_iff_eq_none]at h1;exact h1.1
   have hwant:∀tmps,Region.wanted o (yielded ops tmps)=true:=fun tmps=>by unfold Region.wanted;rw[hgd]
   have hnot:i ∉ deps i:=fun h=>by
    have:=(hdl i h).2;rw[hui]at this;cases this
   have hst:=step i o him ho vals w inv.rel (fun j hj=>inv.facts j (hdl j hj).1 (hdl j hj).2)
    (fun a' w'=>∃v,a'=(Zan ops a0 vals (deps i)).put o.dst v∧R w w'∧Φ i (v :: (deps i).map vals) w') (fun v w' h1 h2=>⟨v,rfl,h1,h2⟩)
   rw[if_pos (hwant _)]at hst;have hev:execOp a.eval o=execOp (Zan ops a0 vals (deps i)).eval o:=execOp_congr o (fun cs b=>Region.noSelect_spec hsel i o cs b ho) (fun x hx=>by
    cases x with
    | tmp t=>exact hsame t (List.mem_append_left _ (List.mem_filterMap.2 ⟨.tmp t,by simpa using hx,rfl⟩))
    | _=>rfl)
   unfold wpOp;simp only[ho,hwant,if_true];refine .inl (Zgu hev (fun e he=>by rw[Zdr];exact hdst i him e (hdo.trans he)) (by rw[Zcz];exact inv.defers) ?_ hst);rintro v w' ⟨hR,hΦ⟩;have hmap:∀l:List Nat,i ∉ l→l.map (fun j=>if j=i then v else vals j)=l.map vals:=fun l hl=>List.map_congr_left (fun j hj=>if_neg (fun e:j=i=>hl (by rw[←e];exact hj)))
   have his:i<listed.size:=by rw[inv.lsize];exact (Array.getElem?_eq_some_iff.1 ho).1
   have hset:∀j,(listed.setIfInBounds i true).getD j true=true→j≠i→listed.getD j true=true:=fun j hj hne=>by
    rw[getD_set_ne true (fun e=>hne e.symm)]at hj;exact hj
   refine ih (listed.setIfInBounds i true) (a.put o.dst v) w' (fun j=>if j=i then v else vals j) ?_ ⟨?_,?_,?_,?_,?_,?_,?_,?_,?_⟩
   ·have:=Zjv hui m;rw[if_pos him]at this;omega
   ·rw[Zjn];exact inv.size
   ·rw[Zeb];exact inv.defers
   ·simp[inv.lsize]
   ·intro j hj hlj d hd;rw[Zfg _ _ _ _ (fun e he=>by rw[inv.size];exact hdst i him e (hdo.trans he))];by_cases hji:j=i
    ·subst hji;rw[if_pos (hdo.symm.trans hd),if_pos rfl]
    ·rw[if_neg (fun h=>hji (hdis i j him hj d (hdo.trans h) hd)),if_neg hji];exact inv.done j hj (hset j hlj hji) d hd
   ·intro t ht;have hti:=ht i him (by simp[his]);rw[Zfg _ _ _ _ (fun e he=>by rw[inv.size];exact hdst i him e (hdo.trans he)),if_neg (fun h=>hti (hdo.trans h))];refine inv.open_ t (fun j hj hlj=>?_);by_cases hji:j=i
    ·subst hji;exact hti
    ·exact ht j hj (by rw[getD_set_ne true (fun e=>hji e.symm)];exact hlj)
   ·intro j hj hlj;by_cases hji:j=i
    ·subst hji;have e:(j :: deps j).map (fun k=>if k=j then v else vals k)=v :: (deps j).map vals:=by
      rw[List.map_cons,if_pos rfl,hmap _ hnot]
     rw[e];exact hΦ
    ·have hlj':=hset j hlj hji;rw[hmap (j :: deps j) (fun h=>by
      rcases List.mem_cons.1 h with h | h
      ·exact hji h.symm
      ·have h2:=inv.closed j hj hlj' i ((hall j hj).1.1.1.2 i h).2;have h4:=getD_both hui;rw[h2]at h4;cases h4)]
     exact stab _ _ _ _ (inv.facts j hj hlj') hR
   ·exact hRt _ _ _ inv.rel hR
   ·intro t ht ht2;rw[getD_set_ne true (by omega)];exact inv.tail t ht ht2
   ·intro j hj hlj k hk;by_cases hki:k=i
    ·subst hki;simp[his]
    ·rw[getD_set_ne false (fun e=>hki e.symm)];by_cases hji:j=i
     ·subst hji;exact Zcn hi hk
     ·exact inv.closed j hj (hset j hlj hji) k hk
end main
theorem Zlo {id:Nat}{Q:Exit→Act→World→Prop}{a0:Act}{w:World}{l:List Oper}(m N:Nat)(deps:Nat→List Nat)(Φ:Nat→List Value→World→Prop)(R:World→World→Prop)
 (hm:P.follows .mixedOrders=true) (hB:Zfn .any l.toArray m N deps=true) (hT:Region.seqB .any l.toArray (l.toArray.size-m) m (Zbs m l.toArray.size)=true) (hN:a0.tmps.size=N)
 (hRr:∀w,R w w) (hRt:∀w w1 w2,R w w1→R w1 w2→R w w2) (stab:∀i vs w w',Φ i vs w→R w w'→Φ i vs w')
 (step:∀i o,i<m→l.toArray[i]?=some o→∀(vals:Nat→Value) W,R w.drew W→(∀j∈deps i,Φ j ((j :: deps j).map vals) W) →
  ∀K:Act→World→Prop,(∀v w',R W w'→Φ i (v :: (deps i).map vals) w'→K ((Zan l.toArray a0 vals (deps i)).put o.dst v) w')→if Region.wanted o (yielded l.toArray (Zan l.toArray a0 vals (deps i)).tmps)=true then Oper.wp P o (Zan l.toArray a0 vals (deps i)) W K (fun _ _ _=>False)else K ((Zan l.toArray a0 vals (deps i)).put o.dst undef) W)
 (fin:∀(vals:Nat→Value) W,R w.drew W→(∀j,j<m→Φ j ((j :: deps j).map vals) W)→wpList P l.toArray Q (l.drop m) (Zan l.toArray a0 vals (List.range m)) W) :
 (Code.region id l.toArray true).wp P Q a0 w:=by
 refine wp_region_any hm ?_
 have hms:m≤l.toArray.size:=by
  simp only[Zfn,Bool.and_eq_true,decide_eq_true_eq]at hB;exact hB.1.1.2
 have h0:∀j,j<l.toArray.size→(Array.replicate l.toArray.size false).getD j true=false:=fun j hj=>getD_in (by simpa using hj) (getD_replicate_false _ _)
 have hc:Zjm (Array.replicate l.toArray.size false) m=m:=by
  have:∀n,n≤l.toArray.size→Zjm (Array.replicate l.toArray.size false) n=n:=fun n=>by
   induction n with
   | zero=>intro _;rfl
   | succ n ih=>intro hn;unfold Zjm;rw[ih (by omega),h0 n (by omega)];rfl
  exact this m hms
 have h:=grow_go (P:=P) (md:=.any) (ops:=l.toArray) (Q:=Q) (a0:=a0) (w0:=w.drew) (m:=m) (N:=N) (deps:=deps) (Φ:=Φ) (R:=R) hB hT hN hRt stab step (by simpa using fin) m (Array.replicate l.toArray.size false) a0 w.drew (fun _=>undef) hc
  ⟨rfl,rfl,by simp,(fun j hj hl=>by rw[h0 j (by omega)]at hl;exact absurd hl (by decide)),(fun t _=>rfl),(fun j hj hl=>by rw[h0 j (by omega)]at hl;exact absurd hl (by decide)),hRr _,(fun t ht ht2=>h0 t ht2),(fun j hj hl=>by rw[h0 j (by omega)]at hl;exact absurd hl (by decide))⟩
 have e:l.toArray.size-m+m=l.toArray.size:=by omega
 rw[e]at h;exact h
def Does (P:Program)(o:Oper)(a:Act)(W:World)(T:Value→World→Prop):Prop:=∀K:Act→World→Prop,(∀v w',T v w'→K (a.put o.dst v) w')→Oper.wp P o a W K (fun _ _ _=>False)
theorem Zac {o:Oper}{a:Act}{W W':World}{T:Value→World→Prop}{v:Value}(h:(execOp a.eval o).run P W=.ok (.value v) W')(ht:T v W'):Does P o a W T:=fun K hK=>by
 unfold Oper.wp;rw[h];exact hK v W' ht
theorem does_skip {o:Oper}{a:Act}{W W':World}{T:Value→World→Prop}(h:(execOp a.eval o).run P W=.ok .skip W')(ht:T undef W'):Does P o a W T:=fun K hK=>by
 unfold Oper.wp;rw[h];exact hK undef W' ht
theorem Zbp {o:Oper}{a:Act}{W W':World}{T:Value→World→Prop}{f:FuncId}{args:Array Value}(h:(execOp a.eval o).run P W=.ok (.enter f args) W')(hc:Calls P f args W' fun e w''=>∃v,e=.returned v∧T v w''):Does P o a W T:=fun K hK=>by
 unfold Oper.wp;rw[h];exact hc.mono fun e w'' ⟨v,e1,ht⟩=>by subst e1;exact hK v w'' ht
theorem Zpo {o:Oper}{a:Act}{W:World}{T:Value→World→Prop}(hg:o.guard=none)(h:∀K:Act→World→Prop,(∀v w',T v w'→K (a.put o.dst v) w')→if Region.wanted o (yielded ops a.tmps)=true then Oper.wp P o a W K (fun _ _ _=>False)else K (a.put o.dst undef) W):Does P o a W T:=fun K hK=>by
 have:=h K hK;have hw:Region.wanted o (yielded ops a.tmps)=true:=by unfold Region.wanted;rw[hg]
 rw[if_pos hw]at this;exact this
def AllSteps (S:Nat→Oper→Prop):Nat→List Oper→Prop
 | _,[]=>True
 | i,o :: l=>S i o∧AllSteps S (i+1) l
theorem AllSteps.at_ {S:Nat→Oper→Prop}:∀{l:List Oper} {i:Nat},AllSteps S i l→∀k o,l[k]?=some o→S (i+k) o
 | [],_,_,k,o,h=>by simp at h
 | x :: l,i,hs,0,o,h=>by
  simp at h;subst h;exact hs.1
 | x :: l,i,hs,k+1,o,h=>by
  have:=AllSteps.at_ hs.2 k o (by simpa using h);rw[show i+(k+1)=i+1+k by omega];exact this
theorem Zba {id:Nat}{Q:Exit→Act→World→Prop}{a0:Act}{w:World}{l:List Oper}(m N:Nat)(deps:Nat→List Nat)(Φ:Nat→List Value→World→Prop)(R:World→World→Prop)
 (hm:P.follows .mixedOrders=true) (hB:Zfn .any l.toArray m N deps=true) (hT:Region.seqB .any l.toArray (l.toArray.size-m) m (Zbs m l.toArray.size)=true) (hN:a0.tmps.size=N)
 (hRr:∀w,R w w) (hRt:∀w w1 w2,R w w1→R w1 w2→R w w2) (stab:∀i vs w w',Φ i vs w→R w w'→Φ i vs w')
 (steps:AllSteps (fun i o=>∀(vals:Nat→Value) W,R w.drew W→(∀j∈deps i,Φ j ((j :: deps j).map vals) W)→Does P o (Zan l.toArray a0 vals (deps i)) W (fun v w'=>R W w'∧Φ i (v :: (deps i).map vals) w')) 0 (l.take m))
 (fin:∀(vals:Nat→Value) W,R w.drew W→(∀j,j<m→Φ j ((j :: deps j).map vals) W)→wpList P l.toArray Q (l.drop m) (Zan l.toArray a0 vals (List.range m)) W) :
 (Code.region id l.toArray true).wp P Q a0 w:=by
 refine Zlo m N deps Φ R hm hB hT hN hRr hRt stab (fun i o hi ho vals W hR hd K hK=>?_) fin;have h:=AllSteps.at_ steps i o (by rw[List.getElem?_take,if_pos hi];simpa using ho) vals W hR (by simpa using hd) K
 split
 ·simp only[Nat.zero_add]at h;exact h (fun v w' ⟨h1,h2⟩=>hK v w' h1 h2)
 ·rename_i hw
  exfalso
  simp only[Zfn,Bool.and_eq_true,decide_eq_true_eq,List.all_eq_true,List.mem_range]at hB;have h1:=(hB.1.2 i hi).1.1.1.1;rw[ho]at h1;simp only[Bool.and_eq_true,Option.isNone_iff_eq_none]at h1;exact hw (by unfold Region.wanted;rw[h1.1])
end
end Go
namespace Go.Proofs.YtaokkliamoghbaaGreatDoor.PVpa
open Go.RowKit Go.Proofs.YtaokkliamoghbaaGreatDoorW.PrintWords Go.Proofs.YtaokkliamoghbaaGreatDoorW.PrintLast Go.Proofs.YtaokkliamoghbaaGreatDoorW.PrintMore
structure Mach.Ok (M:Mach)(φ:Nat→Nat):Prop where
 shape:∀i:Int,0≤i→i<M.pl.length→∀k,(Zbf M.pl i).shape=some k→(k,Zer M.sh k)∈M.sh
 inner:∀i:Int,0≤i→i<M.pl.length→∀k,(Zbf M.pl i).inner=some k→(k,Zer M.sh k)∈M.sh
 begins:∀i:Int,0≤i→i<M.pl.length→(Zbf M.pl i).kind=2→∃k,(Zbf M.pl i).shape=some k
 pin:∀i:Int,0≤i→i<M.pl.length→(Zbf M.pl i).p.f0=3→∃k,(Zbf M.pl i).inner=some k
 inj:∀k k' s s',(k,s)∈M.sh→(k',s')∈M.sh→φ k=φ k'→k=k'
 short:M.pl.length≤100000
 follow:∀i:Int,0≤i→i<M.pl.length→(Zbf M.pl i).follow.length≤100000∧(Zbf M.pl i).p.f1.length≤100000∧(Zbf M.pl i).p.f2.length≤100000∧∀q∈(Zbf M.pl i).follow,0≤q∧q<M.pl.length
 rules:∀k s,(k,s)∈M.sh→0≤s.rule→s.rule<M.steps.length∧0≤s.step∧s.step≤1000
 starts:∀i:Nat,i<M.frees.length→i<M.steps.length∧∃k r,M.steps.getD i []=k :: r
 stepsIn:∀i:Nat,∀k∈M.steps.getD i [],(k,Zer M.sh k)∈M.sh
 fewer:M.steps.length≤1000∧M.frees.length≤1000∧∀i:Nat,(M.steps.getD i []).length≤1000
 lists:∀k s,(k,s)∈M.sh→s.first.length≤100000∧s.last.length≤100000∧∀q∈s.first,0≤q∧q<M.pl.length
def Zdz (M:Mach)(p:Int):List Int:=if (Zbf M.pl p).kind=2 then (match (Zbf M.pl p).shape with | some k=>(Zer M.sh k).first | none=>[])else (Zbf M.pl p).follow
theorem next_at (w0 w:World)(gb:Nat)(G:S26)(M:Mach)(φ:Nat→Nat)(h:VR w0 gb G M φ)(hb0:Below w0.heap.size w0 w)(ok:M.Ok φ)(p:Int)(h0:0≤p)(h1:p<M.pl.length) :
 Calls Tryz.prog 103 #[.pointer (some ⟨gb,0,none⟩),.int .i64 p] w fun e w'=>(∃A c,e=.returned (.slice A (Zdz M p).length c)∧(Zdz M p).length≤c∧(Kd.int .i64).C w0 A (Zdz M p).length (Zdz M p))∧w'=w:=by
 obtain⟨At,ct,Ar,cr,Ap,cp,As,cs,Af,cf,hc,_,_,_,_,_,hp,_⟩:=h.cells;have g2:w.cell? ⟨gb,2,none⟩=some (.slice Ap M.pl.length cp):=Zad hb0 ((Zaa hc 2).trans rfl);obtain⟨ad,A1,c1,A2,c2,A3,c3,A4,c4,rfl,k0,k1,_,_,_,_,_,k7,_,_,_,_,_,l4,f4⟩:=Zob hp p h0 h1;have HS:=Zrw.mk h.shapes;have HL4:=Zrw.mk l4;have HF4:=Zrw.mk f4;have k0:=Zad hb0 k0;have k1:=Zad hb0 k1;have k7:=Zad hb0 k7;by_cases e2:(Zbf M.pl p).kind=2
 ·obtain⟨k,hk⟩:=ok.begins p h0 h1 e2;have hm:=ok.shape p h0 h1 k hk;obtain⟨B1,d1,B2,d2,hb,m1,n1,m2,n2⟩:=(HS.out k _ hm).cells;have s1:w.cell? ⟨φ k,1,none⟩=some (.slice B1 (Zer M.sh k).first.length d1):=Zad hb0 ((Zaa hb 1).trans rfl);have e:Zdz M p=(Zer M.sh k).first:=by unfold Zdz;rw[if_pos e2,hk]
  rw[hk]at k1;rw[e2]at k0;change w.cell? _=some (.pointer (some ⟨φ k,0,none⟩))at k1;have HN:=Zrw.mk n1;have HM:=Zrw.mk m1;rw[e];generalize (Zer M.sh k).first=l at s1 HN HM ⊢
  clear hc h hp hb hm hk m1 n1 m2 n2 e e2 l4 f4 ok HL4 HF4 k7 hb0 HS
  go_enter Tryz.func103,Tryz.ntmps103
  go_wp2
  go_ret
  exact⟨⟨B1,d1,rfl,HM.out,HN.out⟩,rfl⟩
 ·have e:Zdz M p=(Zbf M.pl p).follow:=by unfold Zdz;rw[if_neg e2]
  have q:((Zbf M.pl p).kind==2)=false:=by simpa using e2
  rw[e];generalize (Zbf M.pl p).kind=k at k0 q;generalize (Zbf M.pl p).follow=l at k7 HL4 HF4 ⊢;clear hc h hp l4 f4 ok e e2 k1 hb0 HS
  go_enter Tryz.func103,Tryz.ntmps103
  go_wp2
  go_ret
  exact⟨⟨A4,c4,rfl,HL4.out,HF4.out⟩,rfl⟩
theorem next_call (w:World)(gb:Nat)(G:S26)(M:Mach)(φ:Nat→Nat)(h:VR w gb G M φ)(ok:M.Ok φ)(p:Int)(h0:0≤p)(h1:p<M.pl.length) :
 Calls Tryz.prog 103 #[.pointer (some ⟨gb,0,none⟩),.int .i64 p] w fun e w'=>(∃A c,e=.returned (.slice A (Zdz M p).length c)∧(Zdz M p).length≤c∧(Kd.int .i64).C w A (Zdz M p).length (Zdz M p))∧w'=w:=
 next_at w w gb G M φ h Zbr ok p h0 h1
theorem info97:∃j,Tryz.prog.info? 126=some j∧j.size≠0:=by
 have h:(Tryz.prog.info? 126).map (fun i=>i.size)=some 6:=by kernel_rfl
 cases hi:Tryz.prog.info? 126 with
 | none=>rw[hi]at h;cases h
 | some j=>
  rw[hi]at h;have h2:j.size=6:=by injection h
  exact⟨j,rfl,by omega⟩
theorem Zom (a:Addr)(w:World):(binOp .neq 120 (.pointer (some a)) (.pointer (some a))).run Tryz.prog w=.ok (.bool false) w:=by
 obtain⟨j,hj,_⟩:=info97;have h:∀d:Nat,(Op.equalIn (d+1) 120 (.pointer (some a)) (.pointer (some a))).run Tryz.prog w=.ok true w:=fun d=>by
  simp[Op.equalIn,run_underlying Tryz.underlying120,sizeOf,typeInfo,hj,run_sameAddr_same]
 simp only[binOp];simp[Op.equal,Op.maxDepth,h 9999]
theorem Znb {a b:Addr}{ca cb:Array Value}{ta tb:TypeId}(w:World)(hne:a≠b)(ha:w.heap[a.block]?=some (.cells ca ta (0,0)))(hb:w.heap[b.block]?=some (.cells cb tb (0,0))) :
 (binOp .neq 120 (.pointer (some a)) (.pointer (some b))).run Tryz.prog w=.ok (.bool true) w:=by
 obtain⟨j,hj,hsz⟩:=info97;have h:∀d:Nat,(Op.equalIn (d+1) 120 (.pointer (some a)) (.pointer (some b))).run Tryz.prog w=.ok false w:=fun d=>by
  simp[Op.equalIn,run_underlying Tryz.underlying120,sizeOf,typeInfo,hj,hsz,run_sameAddr_other w hne ha hb]
 simp only[binOp];simp[Op.equal,Op.maxDepth,h 9999]
theorem Zon (a:Addr)(w:World):(binOp .neq 120 (.pointer none) (.pointer (some a))).run Tryz.prog w=.ok (.bool true) w:=by
 have h:∀d:Nat,(Op.equalIn (d+1) 120 (.pointer none) (.pointer (some a))).run Tryz.prog w=.ok false w:=fun d=>by
  simp[Op.equalIn,run_underlying Tryz.underlying120]
 simp only[binOp];simp[Op.equal,Op.maxDepth,h 9999]
def endB (M:Mach)(p:Int):Option Nat→Bool
 | none=>false
 | some k=>decide ((Zbf M.pl p).shape=some k)&&((decide ((Zbf M.pl p).kind=2)&&(Zer M.sh k).empty)||(decide ((Zbf M.pl p).kind=3)&&hasI (Zer M.sh k).last p))
set_option maxHeartbeats 4000000 in
theorem Znq (w:World)(gb:Nat)(G:S26)(M:Mach)(φ:Nat→Nat)(h:VR w gb G M φ)(ok:M.Ok φ)(p:Int)(h0:0≤p)(h1:p<M.pl.length)(s:Option Nat)(hs:∀k,s=some k→(k,Zer M.sh k)∈M.sh) :
 Calls Tryz.prog 65 #[.pointer (some ⟨gb,0,none⟩),.int .i64 p,ptr φ s] w fun e w'=>e=.returned (.bool (endB M p s))∧Drawn0 w w':=by
 obtain⟨At,ct,Ar,cr,Ap,cp,As,cs,Af,cf,hc,_,_,_,_,_,hp,_⟩:=h.cells;have g2:w.cell? ⟨gb,2,none⟩=some (.slice Ap M.pl.length cp):=(Zaa hc 2).trans rfl;obtain⟨ad,A1,c1,A2,c2,A3,c3,A4,c4,rfl,k0,k1,_⟩:=Zob hp p h0 h1;cases s with
 | none=>
  have e:endB M p none=false:=rfl;rw[e];cases hsh:(Zbf M.pl p).shape with
  | none=>
   rw[hsh]at k1;change w.cell? _=some (.pointer none)at k1;change Calls Tryz.prog 65 #[.pointer (some ⟨gb,0,none⟩),.int .i64 p,.pointer none] w _;clear hc h hp hsh ok hs e
   go_enter Tryz.func65,Tryz.ntmps65
   go_wp2
   go_ret
   exact⟨rfl,Drawn0.refl w⟩
  | some k=>
   rw[hsh]at k1;change w.cell? _=some (.pointer (some ⟨φ k,0,none⟩))at k1;change Calls Tryz.prog 65 #[.pointer (some ⟨gb,0,none⟩),.int .i64 p,.pointer none] w _;clear hc h hp hsh ok hs e
   go_enter Tryz.func65,Tryz.ntmps65
   go_wp2
   go_ret
   exact⟨rfl,Drawn0.refl w⟩
 | some k=>
  have hm:=hs k rfl;obtain⟨B1,d1,B2,d2,hb,m1,n1,m2,n2⟩:=(h.shapes k _ hm).cells;have s2:w.cell? ⟨φ k,2,none⟩=some (.slice B2 (Zer M.sh k).last.length d2):=(Zaa hb 2).trans rfl;have s3:w.cell? ⟨φ k,3,none⟩=some (.bool (Zer M.sh k).empty):=(Zaa hb 3).trans rfl;have HN:=Zrw.mk n2;have HM:=Zrw.mk m2;have HL:=Zrw.mk (ok.lists k _ hm).2.1;change Calls Tryz.prog 65 #[.pointer (some ⟨gb,0,none⟩),.int .i64 p,.pointer (some ⟨φ k,0,none⟩)] w _;by_cases es:(Zbf M.pl p).shape=some k
  ·have e:endB M p (some k)=((decide ((Zbf M.pl p).kind=2)&&(Zer M.sh k).empty)||(decide ((Zbf M.pl p).kind=3)&&hasI (Zer M.sh k).last p)):=by simp only[endB,decide_eq_true es,Bool.true_and]
   rw[e];rw[es]at k1;change w.cell? _=some (.pointer (some ⟨φ k,0,none⟩))at k1;have hq:=Zom ⟨φ k,0,none⟩ w;generalize (Zbf M.pl p).kind=kd at k0 ⊢;generalize (Zer M.sh k).last=l at s2 HN HM HL ⊢;generalize (Zer M.sh k).empty=b at s3 ⊢;clear hc h hp es ok hs e hm hb m1 n1 m2 n2;by_cases c2:kd=2
   ·subst c2;cases b
    all_goals
     go_enter Tryz.func65,Tryz.ntmps65
     go_wp2
     go_ret
     exact⟨rfl,Drawn0.refl w⟩
   ·have q2:(kd==2)=false:=by simpa using c2
    by_cases c3:kd=3
    ·subst c3;have ee:((decide ((3:Int)=2)&&b)||(decide ((3:Int)=3)&&hasI l p))=hasI l p:=by simp
     rw[ee];clear ee
     go_enter Tryz.func65,Tryz.ntmps65
     go_wp2_with (go_at_call 86;refine (contains_i B2 d2 l p _ HN.out HM.out (by have:=HL.out;omega)).mono ?_;rintro e w1 ⟨rfl,hd⟩;have HD:=Zrw.mk hd;clear hd)
     go_ret
     exact⟨rfl,HD.out⟩
    ·have q3:(kd==3)=false:=by simpa using c3
     have ee:((decide (kd=2)&&b)||(decide (kd=3)&&hasI l p))=false:=by simp[c2,c3]
     rw[ee];clear ee
     go_enter Tryz.func65,Tryz.ntmps65
     go_wp2
     go_ret
     exact⟨rfl,Drawn0.refl w⟩
  ·have e:endB M p (some k)=false:=by simp only[endB,decide_eq_false es,Bool.false_and]
   rw[e];cases hsh:(Zbf M.pl p).shape with
   | none=>
    rw[hsh]at k1;change w.cell? _=some (.pointer none)at k1;have hq:=Zon ⟨φ k,0,none⟩ w;clear hc h hp hsh ok hs e hm hb m1 n1 m2 n2 es s2 s3
    go_enter Tryz.func65,Tryz.ntmps65
    go_wp2
    go_ret
    exact⟨rfl,Drawn0.refl w⟩
   | some k'=>
    have hm':=ok.shape p h0 h1 k' hsh;have hne:¬φ k'=φ k:=fun he=>es (by rw[hsh,ok.inj _ _ _ _ hm' hm he])
    rw[hsh]at k1;change w.cell? _=some (.pointer (some ⟨φ k',0,none⟩))at k1;obtain⟨B1',d1',B2',d2',hb',_⟩:=(h.shapes k' _ hm').cells;have hq:=Znb (a:=⟨φ k',0,none⟩) (b:=⟨φ k,0,none⟩) w (fun he=>hne (by injection he)) hb' hb;clear hc h hp hsh ok hs e hm hb m1 n1 m2 n2 es s2 s3 hm' hb'
    go_enter Tryz.func65,Tryz.ntmps65
    go_wp2
    go_ret
    exact⟨rfl,Drawn0.refl w⟩
theorem Ziq:(Tryz.prog.info? 3).map (fun i=>(i.zero,i.size,i.bytes))=some (some (.int .i64 0),1,8):=by kernel_rfl
theorem grow_nil (n:Nat)(w:World)(hn:n≤1000000):Calls Tryz.prog 146 #[.slice none 0 0,.int .i64 n] w fun e w'=>∃v,e=.returned v∧(Kd.int .i64).R 3 w' w.heap.size (fun _=>True) v []∧Below w.heap.size w w':=by
 cases n with
 | zero=>
  refine (Any8.slices_Grow_room Tryz.growI none 0 0 0 w (by omega) (by omega) (by omega) (by omega)).mono ?_
  rintro e w' ⟨rfl,rfl⟩;exact⟨_,rfl,Kd.R_nil _ _ _ _ _,Zbr⟩
 | succ n=>
  obtain⟨i0,hi0,h⟩:∃i0,Tryz.prog.info? 3=some i0∧(i0.zero,i0.size,i0.bytes)=(some (Value.int .i64 0),1,8):=by
   have h:=Ziq;cases hi:Tryz.prog.info? 3 with
   | none=>rw[hi]at h;cases h
   | some j=>rw[hi]at h;exact⟨j,rfl,by injection h⟩
  injection h with hz h
  injection h with hs hb
  refine (Any8.slices_Grow_grow Tryz.growI i0 (.int .i64 0) hi0 hz (by omega) none 0 0 (n+1) [] w (by omega) (by omega) (by rw[hb];omega) (by omega) (by simp) (fun _=>rfl) (fun _ h=>by cases h)).mono ?_
  rintro e w' ⟨rfl,rfl⟩;refine⟨_,rfl,Kd.R_of_own ?_ (fun _ _=>trivial),Zab (Zao Zbr) _⟩;exact World.ownsRow_made w.drew _ _ (Nat.le_refl _) (grownCap_le_maxLen w _ _ _ (by unfold maxLen;omega)) (by
   have h1:=grownCap_ge w (n+1) 0 (Tryz.growI_ren.t 25);have h2:(Value.int .i64 0).cells.size=1:=rfl;rw[Array.size_append,Array.size_append,size_zeroCells,size_zeroCells,h2];simp;omega)
set_option maxHeartbeats 4000000 in
theorem Zrm (o:Nat)(A B:Option Addr)(c d:Nat)(a b:List Int)(w:World)(h0:w.cell? ⟨o,0,none⟩=some (.slice A a.length c))(h1:w.cell? ⟨o,1,none⟩=some (.slice B b.length d))
 (ha:(Kd.int .i64).C w A a.length a) (hb:(Kd.int .i64).C w B b.length b) (la:a.length≤100000) (lb:b.length≤100000) :
 Calls Tryz.prog 116 #[.slice (some ⟨o,0,none⟩) 2 2] w fun e w'=>∃v,e=.returned v∧(Kd.int .i64).R 3 w' w.heap.size (fun _=>True) v (a++b)∧Below w.heap.size w w':=by
 have HA:=Zrw.mk ha;have HB:=Zrw.mk hb;have H0:=Zrw.mk h0;have H1:=Zrw.mk h1;clear ha hb
 go_enter Tryz.func116,Tryz.ntmps116
 go_wp2
 go_loop [3,11] (fun s i=>(i=.int .i64 0∧s=.int .i64 0)∨(i=.int .i64 1∧s=.int .i64 a.length)∨(i=.int .i64 2∧s=.int .i64 ((a.length:Int)+b.length))) (fun _ i=>2-(intOf i).toNat)
 case atStart=>exact .inl ⟨rfl,rfl⟩
 case round=>
  rcases hrel with⟨rfl,rfl⟩ | ⟨rfl,rfl⟩ | ⟨rfl,rfl⟩
  ·go_wp2
   go_round
   case rel=>exact .inr (.inl ⟨rfl,by simp⟩)
   case measure=>simp[intOf]
  ·go_wp2
   go_round
   case rel=>exact .inr (.inr ⟨rfl,rfl⟩)
   case measure=>simp[intOf]
  ·go_wp2_with ((with_reducible refine Zdl (f:=146) rfl ?_);refine goesL_ (some 24) rfl rfl Tryz.func146 (by kernel_rfl) rfl #[.slice none 0 0,.int .i64 ((a.length:Int)+b.length)] rfl (by (try simp only[List.map_toArray,List.map_cons,List.map_nil]);first | done | rfl) ?_;(have hg:=grow_nil (a.length+b.length) w (by omega));(rw[Int.natCast_add]at hg);(with_reducible refine hg.mono ?_);rintro e w6 ⟨v6,rfl,ho,hb⟩;refine⟨_,rfl,?_⟩;have HO:=Zrw.mk ho;have HBB:=Zrw.mk hb;clear ho hb hg h0 h1)
   go_loopw [6,27] (fun s i wr=>(i=.int .i64 0∧Zrw ((Kd.int .i64).R 3 wr w.heap.size (fun _=>True) s [])∧Zrw (Below w.heap.size w wr))∨(i=.int .i64 1∧Zrw ((Kd.int .i64).R 3 wr w.heap.size (fun _=>True) s a)∧Zrw (Below w.heap.size w wr))∨(i=.int .i64 2∧Zrw ((Kd.int .i64).R 3 wr w.heap.size (fun _=>True) s (a++b))∧Zrw (Below w.heap.size w wr))) (fun _ i _=>2-(intOf i).toNat)
   case atStart=>exact .inl ⟨rfl,HO,HBB⟩
   case round=>
    clear HO HBB
    rcases hrel with⟨rfl,HO,HBB⟩ | ⟨rfl,HO,HBB⟩ | ⟨rfl,HO,HBB⟩
    ·have h0:=Zad HBB.out H0.out
     go_wp2_with ((with_reducible refine Zal (b:=.append) (xs:=#[.tmp 31,.tmp 32]) rfl ?_);at_builtin;refine Kd.R_append_rows (Kd.int .i64) (w0:=w) w.heap.size rfl (.tmp 31) (.tmp 32) 41 3 (.int .i64 0) 8 rfl Tryz.underlying41 Ziq rfl (by decide) (by omega) _ ([]:List Int) a _ _ _ (fun _=>True) (fun _=>False) rfl rfl ?aO ?aR (fun _ _ h=>h) (fun _ h=>h.elim) (fun _ _=>trivial) ?aB ?aS ?aL ?_;(case aR=>exact Kd.C_below HA.out HBB.out);(case aB=>exact HBB.out);(case aO=>exact HO.out);(case aS=>exact Zcs HBB.out);(case aL=>simp only[List.length_nil];omega);intro v2 w2 ho2 hb2 hg2 hat2;have HO2:=Zrw.mk ho2;have HB2:=Zrw.mk hb2;clear ho2 hb2 hg2 hat2)
     go_roundw
     case rel=>exact .inr (.inl ⟨rfl,HO2,HB2⟩)
     case measure=>simp[intOf]
    ·have h1:=Zad HBB.out H1.out
     go_wp2_with ((with_reducible refine Zal (b:=.append) (xs:=#[.tmp 31,.tmp 32]) rfl ?_);at_builtin;refine Kd.R_append_rows (Kd.int .i64) (w0:=w) w.heap.size rfl (.tmp 31) (.tmp 32) 41 3 (.int .i64 0) 8 rfl Tryz.underlying41 Ziq rfl (by decide) (by omega) _ a b _ _ _ (fun _=>True) (fun _=>False) rfl rfl ?aO ?aR (fun _ _ h=>h) (fun _ h=>h.elim) (fun _ _=>trivial) ?aB ?aS ?aL ?_;(case aR=>exact Kd.C_below HB.out HBB.out);(case aB=>exact HBB.out);(case aO=>exact HO.out);(case aS=>exact Zcs HBB.out);(case aL=>omega);intro v2 w2 ho2 hb2 hg2 hat2;have HO2:=Zrw.mk ho2;have HB2:=Zrw.mk hb2;clear ho2 hb2 hg2 hat2)
     go_roundw
     case rel=>exact .inr (.inr ⟨rfl,HO2,HB2⟩)
     case measure=>simp[intOf]
    ·go_wp2
     go_ret
     exact⟨_,rfl,HO.out,HBB.out⟩
theorem Zdq (A B:Option Addr)(c d:Nat)(a b:List Int)(w:World)(ha:(Kd.int .i64).C w A a.length a)(hb:(Kd.int .i64).C w B b.length b)(la:a.length≤100000)(lb:b.length≤100000) :
 Calls Tryz.prog 96 #[.slice A a.length c,.slice B b.length d] w fun e w'=>∃v,e=.returned v∧(Kd.int .i64).R 3 w' w.heap.size (fun _=>True) v (Zcj a b)∧Below w.heap.size w w':=by
 have HA:=Zrw.mk ha;have HB:=Zrw.mk hb;clear ha hb
 go_enter Tryz.func96,Tryz.ntmps96
 go_wp2_with (first
  | ((with_reducible refine Zdl (f:=116) rfl ?_);refine goesL_ (some 9) rfl rfl Tryz.func116 (by kernel_rfl) rfl #[.slice (some ⟨w.heap.size,0,none⟩) 2 2] rfl (by (try simp only[List.map_toArray,List.map_cons,List.map_nil]);first | done | rfl) ?_;(with_reducible refine (Zrm w.heap.size A B c d a b _ (by go_simp) (by go_simp) (Kd.C_below HA.out (Zab Zbr _)) (Kd.C_below HB.out (Zab Zbr _)) la lb).mono ?_);rintro e w6 ⟨v6,rfl,ho,hb⟩;refine⟨_,rfl,?_⟩;have HO:=Zrw.mk (Kd.R_lower ho (base':=w.heap.size) (by simp));have HBB:=Zrw.mk (Zae (Zab (Below.refl _ w) _) hb);clear ho hb)
  | ((with_reducible refine Zdl (f:=117) rfl ?_);refine goesL_ (some 11) rfl rfl Tryz.func117 (by kernel_rfl) rfl #[v6] rfl (by (try simp only[List.map_toArray,List.map_cons,List.map_nil]);first | done | rfl) ?_;(with_reducible refine (sort_call w w6 v6 (a++b) HBB.out HO.out (by rw[List.length_append];omega)).mono ?_);rintro e w7 ⟨rfl,ho,hb,_⟩;refine⟨_,rfl,?_⟩;have HO7:=Zrw.mk ho;have HBB7:=Zrw.mk hb;clear ho hb)
  | ((with_reducible refine Zdl (f:=118) rfl ?_);refine goesL_ (some 13) rfl rfl Tryz.func118 (by kernel_rfl) rfl #[v6] rfl (by (try simp only[List.map_toArray,List.map_cons,List.map_nil]);first | done | rfl) ?_;(with_reducible refine (Zpq w w7 v6 (Zhf (a++b)) HBB7.out HO7.out (by rw[Zel,List.length_append];omega)).mono ?_);rintro e w8 ⟨v8,rfl,ho,hb,_,_⟩;refine⟨_,rfl,?_⟩;have HO8:=Zrw.mk ho;have HBB8:=Zrw.mk hb;clear ho hb))
 go_ret
 exact⟨_,rfl,HO8.out,HBB8.out⟩
theorem Zed {G:S26}{M:Mach}{p t kind:Int}(h:Zmh G M p t kind=true):0≤p∧p<M.pl.length∧t<G.f0.length∧-1≤t:=by
 unfold Zmh at h;simp at h;omega
def Zof (w:World)(l:List Int)(e:Ending)(w':World):Prop:=∃v,e=.returned v∧(Kd.int .i64).R 3 w' w.heap.size (fun _=>True) v l∧Below w.heap.size w w'
theorem Zez (w:World):Zof w [] (.returned (.slice none 0 0)) w:=⟨_,rfl,Kd.R_nil _ _ _ _ _,Zbr⟩
theorem Zhw (w W:World)(hb:Below w.heap.size w W)(p:Int):Zof w [p] (.returned (.slice (some ⟨W.heap.size,0,none⟩) 1 1)) (W.alloc (.cells #[.int .i64 p] 3)):=
 ⟨_,rfl,Kd.R_of_own (own_lit W w.heap.size 3 .i64 [p] hb.size (by simp)) (fun _ _=>trivial),Zab hb _⟩
theorem one_C {W:World}{g:Nat}(hg:g=W.heap.size)(q:Int):(Kd.int .i64).C (W.alloc (.cells #[.int .i64 q] 3)) (some ⟨g,0,none⟩) 1 [q]:=by
 subst hg;exact (Kd.R_reads' (Kd.R_of_own (ok:=fun _=>True) (h1:=fun _=>rfl) (own_lit W W.heap.size 3 .i64 [q] (Nat.le_refl _) (by simp)) (fun _ _=>trivial))).2.2
theorem both_nil (A:Option Addr)(c:Nat)(a:List Int)(w:World)(ha:(Kd.int .i64).C w A a.length a)(la:a.length≤100000) :
 Calls Tryz.prog 96 #[.slice A a.length c,.slice none 0 0] w fun e w'=>∃v,e=.returned v∧(Kd.int .i64).R 3 w' w.heap.size (fun _=>True) v (Zcj a [])∧Below w.heap.size w w':=
 Zdq A none c 0 a [] w ha (Kd.C_nil _ _) la (by simp)
def Zdv (G:S26)(M:Mach)(p t:Int):List Int:=if Zmh G M p t 2=true∧(Zbf M.pl p).kind=1 then [p]else []
theorem Zrs (w:World)(gb:Nat)(G:S26)(M:Mach)(φ:Nat→Nat)(h:VR w gb G M φ)(p t:Int) :
 Calls Tryz.prog 84 #[.pointer (some ⟨gb,0,none⟩),.int .i64 p,.int .i64 t] w (Zof w (Zdv G M p t)):=by
 have hm:=Zjq w gb G M φ h p t 2;cases hb:Zmh G M p t 2 with
 | false=>
  have e:Zdv G M p t=[]:=by unfold Zdv;rw[if_neg (by simp[hb])]
  rw[hb]at hm;rw[e];clear h e hb
  go_enter Tryz.func84,Tryz.ntmps84
  go_wp2_with (go_at_call 101;refine hm.mono ?_;rintro e w1 ⟨rfl,rfl⟩;clear hm)
  go_ret
  exact Zez _
 | true=>
  obtain⟨h0,h1,_,_⟩:=Zed hb;obtain⟨At,ct,Ar,cr,Ap,cp,As,cs,Af,cf,hc,_,_,_,_,_,hp,_⟩:=h.cells;have g2:w.cell? ⟨gb,2,none⟩=some (.slice Ap M.pl.length cp):=(Zaa hc 2).trans rfl;obtain⟨ad,A1,c1,A2,c2,A3,c3,A4,c4,rfl,k0,_⟩:=Zob hp p h0 h1;rw[hb]at hm;have HM:=Zrw.mk hm;clear hm;by_cases e1:(Zbf M.pl p).kind=1
  ·have e:Zdv G M p t=[p]:=by unfold Zdv;rw[if_pos ⟨hb,e1⟩]
   rw[e];rw[e1]at k0;clear h e hb hc hp e1
   go_enter Tryz.func84,Tryz.ntmps84
   go_wp2_with (go_at_call 101;refine HM.out.mono ?_;rintro e w1 ⟨rfl,rfl⟩)
   go_ret
   exact Zhw _ _ Zbr p
  ·have e:Zdv G M p t=[]:=by unfold Zdv;rw[if_neg (by simp[hb,e1])]
   have q:((Zbf M.pl p).kind != 1)=true:=by simpa using e1
   rw[e];generalize (Zbf M.pl p).kind=k at k0 q;clear h e hb hc hp e1
   go_enter Tryz.func84,Tryz.ntmps84
   go_wp2_with (go_at_call 101;refine HM.out.mono ?_;rintro e w1 ⟨rfl,rfl⟩)
   go_ret
   exact Zez _
def okI (G:S26)(M:Mach)(t q:Int):Bool:=decide ((Zbf M.pl q).p.f0=4)||(decide ((Zbf M.pl q).p.f0=2)&&Zdd G t (Zbf M.pl q).p.f1)
def intL (G:S26)(M:Mach)(p t:Int):List Int:=if Zmh G M p t 0=true then (if Ziy M p=true then [p]else Zcj ((Zdz M p).filter (okI G M t)) [])else []
theorem Zjp {M:Mach}{φ:Nat→Nat}(ok:M.Ok φ){p:Int}(h0:0≤p)(h1:p<M.pl.length):(Zdz M p).length≤100000∧∀q∈Zdz M p,0≤q∧q<M.pl.length:=by
 unfold Zdz
 split
 ·rename_i e2
  obtain⟨k,hk⟩:=ok.begins p h0 h1 e2;rw[hk];have:=ok.lists k _ (ok.shape p h0 h1 k hk);exact⟨this.1,this.2.2⟩
 ·have:=ok.follow p h0 h1;exact⟨this.1,this.2.2.2⟩
theorem Zri {l:List Int}{f:Int→Bool}{k:Nat}(hk:k<l.length):(l.take (k+1)).filter f=(l.take k).filter f++(if f (rd l k)=true then [rd l k]else []):=by
 have e:rd l k=l[k]:=by simp[rd,List.getD_eq_getElem?_getD,List.getElem?_eq_getElem hk]
 rw[List.take_succ_eq_append_getElem hk,List.filter_append,e]
 congr 1
 by_cases c:f l[k]=true
 ·rw[if_pos c,List.filter_cons_of_pos c];rfl
 ·rw[if_neg c,List.filter_cons_of_neg c];rfl
set_option maxHeartbeats 4000000 in
theorem int_call (w:World)(gb:Nat)(G:S26)(M:Mach)(φ:Nat→Nat)(h:VR w gb G M φ)(ok:M.Ok φ)(p t:Int) :
 Calls Tryz.prog 82 #[.pointer (some ⟨gb,0,none⟩),.int .i64 p,.int .i64 t] w (Zof w (intL G M p t)):=by
 have hm:=Zjq w gb G M φ h p t 0;cases hb:Zmh G M p t 0 with
 | false=>
  have e:intL G M p t=[]:=by unfold intL;rw[if_neg (by simp[hb])]
  rw[hb]at hm;rw[e];clear h e hb
  go_enter Tryz.func82,Tryz.ntmps82
  go_wp2_with (go_at_call 101;refine hm.mono ?_;rintro e w1 ⟨rfl,rfl⟩;clear hm)
  go_ret
  exact Zez _
 | true=>
  obtain⟨h0,h1,ht,ht1⟩:=Zed hb;rw[hb]at hm;have hs:=Zij w gb G M φ h p h0 h1;cases hst:Ziy M p with
  | true=>
   have e:intL G M p t=[p]:=by unfold intL;rw[if_pos hb,if_pos hst]
   rw[e];rw[hst]at hs;clear h e hb hst
   go_enter Tryz.func82,Tryz.ntmps82
   go_wp2_with (first | (go_at_call 101;refine hm.mono ?_;rintro e w1 ⟨rfl,rfl⟩;clear hm) | (go_at_call 102;refine hs.mono ?_;rintro e w1 ⟨rfl,rfl⟩;clear hs))
   go_ret
   exact Zhw _ _ Zbr p
  | false=>
   have e:intL G M p t=Zcj ((Zdz M p).filter (okI G M t)) []:=by unfold intL;rw[if_pos hb,if_neg (by simp[hst])]
   rw[e];rw[hst]at hs;have hn:=next_call w gb G M φ h ok p h0 h1;obtain⟨hl,hq⟩:=Zjp ok h0 h1;generalize Zdz M p=L at hn hl hq ⊢;have HN:=Zrw.mk hn;have HQ:=Zrw.mk hq;have HM:=Zrw.mk hm;have HS:=Zrw.mk hs;have HV:=Zrw.mk h;have HT:=Zrw.mk ht;have HOK:=Zrw.mk ok;clear h e hb hst hn hq hm hs ht ht1 h0 h1 ok
   go_enter Tryz.func82,Tryz.ntmps82
   go_wp2_with (first | (go_at_call 101;refine HM.out.mono ?_;rintro e w1 ⟨rfl,rfl⟩;clear HM) | (go_at_call 102;refine HS.out.mono ?_;rintro e w1 ⟨rfl,rfl⟩;clear HS) | (go_at_call 103;refine HN.out.mono ?_;rintro e w1 ⟨⟨A,c,rfl,hlc,hr⟩,rfl⟩;have HLC:=Zrw.mk hlc;have HR:=Zrw.mk hr;clear HN hlc hr))
   go_loopw [7,25] (fun v i wr=>∃k:Nat,k≤L.length∧i=.int .i64 k∧Zrw ((Kd.int .i64).R 3 wr w1.heap.size (fun _=>True) v ((L.take k).filter (okI G M t)))∧Zrw (Below w1.heap.size w1 wr)) (fun _ i _=>L.length-(intOf i).toNat)
   case atStart=>exact⟨0,Nat.zero_le _,rfl,⟨Kd.R_nil _ _ _ _ _⟩,⟨Zbr⟩⟩
   case round=>
    obtain⟨k,hk,rfl,HO,HB⟩:=hrel;by_cases hkn:k<L.length
    ·have HVr:=Zrw.mk (HV.out.below HB.out);obtain⟨ad,rfl,hq0⟩:=Kd.at_int (Kd.C_below HR.out HB.out) (k:Int) (by omega) (by omega);rw[Int.toNat_natCast]at hq0;have hqr:=HQ.out (rd L k) (by simp[rd,List.getD_eq_getElem?_getD,List.getElem?_eq_getElem hkn]);have FS:=Zrw.mk (Zri (f:=okI G M t) hkn);obtain⟨At,ct,Ar,cr,Ap,cp,As,cs,Af,cf,hc,_,_,_,_,_,hp,_⟩:=HVr.out.cells;have g2:wr.cell? ⟨gb,2,none⟩=some (.slice Ap M.pl.length cp):=(Zaa hc 2).trans rfl;obtain⟨q0,q1⟩:=hqr;obtain⟨bd,A1,c1,A2,c2,A3,c3,A4,c4,rfl,_,_,k2,k3,k4,k5,_,_,_,l1,f1,_⟩:=Zob hp (rd L k) q0 q1;have HL1:=Zrw.mk l1;have HF1:=Zrw.mk f1;have HS1:=Zrw.mk (HOK.out.follow (rd L k) q0 q1).2.1;have e0:okI G M t (rd L k)=(decide ((Zbf M.pl (rd L k)).p.f0=4)||(decide ((Zbf M.pl (rd L k)).p.f0=2)&&Zdd G t (Zbf M.pl (rd L k)).p.f1)):=rfl;have FS':=FS.out;rw[e0]at FS';have FS:=Zrw.mk FS';clear FS' e0 hc hp l1 f1;have hlen:((L.take k).filter (okI G M t)).length≤100000:=Nat.le_trans (List.length_filter_le _ _) (by rw[List.length_take];omega);have HLEN:=Zrw.mk hlen;clear hlen;generalize (Zbf M.pl (rd L k)).p.f0=kd at k2 FS;generalize (Zbf M.pl (rd L k)).p.f1=nm at k3 FS HL1 HF1 HS1;generalize (Zbf M.pl (rd L k)).p.f2=nm2 at k4;generalize (Zbf M.pl (rd L k)).p.f3=nm3 at k5;generalize rd L k=q at *;obtain⟨out,hout⟩:∃out,out=(L.take k).filter (okI G M t):=⟨_,rfl⟩
     rw[←hout]at HO FS HLEN;clear hout;by_cases e4:kd=4
     ·subst e4;have FS':=FS.out;rw[show (decide ((4:Int)=4)||(decide ((4:Int)=2)&&Zdd G t nm))=true by simp,if_pos rfl]at FS';have FS2:=Zrw.mk FS';clear FS' FS
      go_wp2_with ((with_reducible refine Zal (b:=.append) (xs:=#[.tmp 52,.tmp 54]) rfl ?_);at_builtin;refine Kd.R_append_row (Value.int .i64) 0 (h1:=fun _=>rfl) (w0:=w1) w1.heap.size rfl (.tmp 52) (.tmp 54) 41 3 (.int .i64 0) 8 rfl Tryz.underlying41 Ziq rfl (by omega) u7 out [q] _ _ _ (fun _=>True) rfl rfl (fun _ _=>trivial) ?aO ?aR ?aB ?aS ?aL ?_;(case aR=>exact one_C (by simp) q);(case aO=>exact Kd.R_alloc (Kd.R_alloc HO.out _) _);(case aB=>exact Zab (Zab HB.out _) _);(case aS=>exact Zcs (Zab (Zab HB.out _) _));(case aL=>have:=HLEN.out;omega);intro v2 w2 ho2 hb2 hg2 hat2;have HO2:=Zrw.mk ho2;have HB2:=Zrw.mk hb2;clear ho2 hb2 hg2 hat2)
      go_roundw
      case rel=>exact⟨k+1,by omega,by go_num,⟨by rw[FS2.out];exact HO2.out⟩,HB2⟩
      case measure=>simp[intOf];omega
     ·have n4:(kd==4)=false:=by simpa using e4
      by_cases e2:kd=2
      ·subst e2;have hnm:=fun W (hb:Below wr.heap.size wr W)=>Zgi W gb G M φ (HVr.out.below hb) t HT.out A1 c1 nm (Kd.C_below HF1.out hb) HL1.out (by have:=HS1.out;omega)
       have FS':=FS.out;rw[show (decide ((2:Int)=4)||(decide ((2:Int)=2)&&Zdd G t nm))=Zdd G t nm by simp]at FS';have FS2:=Zrw.mk FS';clear FS' FS;generalize Zdd G t nm=b at hnm FS2;have HNM:=Zrw.mk hnm;clear hnm;cases b
       ·go_wp2_with ((go_at_call 104;(with_reducible refine (HNM.out _ (Zab Zbr _)).mono ?_);rintro e w3 ⟨rfl,hd⟩;have HON:=Zrw.mk (Kd.R_below (Kd.R_alloc HO.out _) hd.below);have HBN:=Zrw.mk (Zae (Zab HB.out _) hd.below);clear hd))
        go_roundw
        case rel=>exact⟨k+1,by omega,by go_num,⟨by rw[FS2.out,if_neg (by simp),List.append_nil];exact HON.out⟩,HBN⟩
        case measure=>simp[intOf];omega
       ·go_wp2_with (first | (go_at_call 104;(with_reducible refine (HNM.out _ (Zab Zbr _)).mono ?_);rintro e w3 ⟨rfl,hd⟩;have HON:=Zrw.mk (Kd.R_below (Kd.R_alloc HO.out _) hd.below);have HBN:=Zrw.mk (Zae (Zab HB.out _) hd.below);clear hd) | ((with_reducible refine Zal (b:=.append) (xs:=#[.tmp 52,.tmp 54]) rfl ?_);at_builtin;refine Kd.R_append_row (Value.int .i64) 0 (h1:=fun _=>rfl) (w0:=w1) w1.heap.size rfl (.tmp 52) (.tmp 54) 41 3 (.int .i64 0) 8 rfl Tryz.underlying41 Ziq rfl (by omega) u7 out [q] _ _ _ (fun _=>True) rfl rfl (fun _ _=>trivial) ?aO ?aR ?aB ?aS ?aL ?_;(case aR=>exact one_C (by simp) q);(case aO=>exact Kd.R_alloc HON.out _);(case aB=>exact Zab HBN.out _);(case aS=>exact Zcs (Zab HBN.out _));(case aL=>have:=HLEN.out;omega);intro v2 w2 ho2 hb2 hg2 hat2;have HO2:=Zrw.mk ho2;have HB2:=Zrw.mk hb2;clear ho2 hb2 hg2 hat2))
        go_roundw
        case rel=>exact⟨k+1,by omega,by go_num,⟨by rw[FS2.out];(first | rw[if_pos rfl] | rw[if_pos trivial]);exact HO2.out⟩,HB2⟩
        case measure=>simp[intOf];omega
      ·have n2:(kd==2)=false:=by simpa using e2
       have FS':=FS.out;rw[show (decide (kd=4)||(decide (kd=2)&&Zdd G t nm))=false by simp[e4,e2],if_neg (by simp),List.append_nil]at FS';have FS2:=Zrw.mk FS';clear FS' FS;have HON:=Zrw.mk HO.out;go_wp2
       go_roundw
       case rel=>exact⟨k+1,by omega,by go_num,⟨by rw[FS2.out];exact Kd.R_alloc HO.out _⟩,⟨Zab HB.out _⟩⟩
       case measure=>simp[intOf];omega
    ·obtain rfl:k=L.length:=by omega
     rw[List.take_length]at HO;have hlen:(L.filter (okI G M t)).length≤100000:=Nat.le_trans (List.length_filter_le _ _) hl;obtain⟨out,hout⟩:∃out,out=L.filter (okI G M t):=⟨_,rfl⟩
     rw[←hout]at HO hlen;have HOUT:=Zrw.mk hout;clear hout;obtain⟨A7,c7,rfl⟩:=Kd.R_slice HO.out
     go_wp2_with (go_at_call 96;(with_reducible refine (both_nil A7 c7 out _ (Kd.R_reads' HO.out).2.2 hlen).mono ?_);rintro e w3 ⟨v3,rfl,ho,hb⟩;have HO3:=Zrw.mk (Kd.R_lower ho (Zcs HB.out));have HB3:=Zrw.mk (Zae HB.out hb);clear ho hb)
     go_ret
     have z:=HO3.out;rw[HOUT.out]at z;exact⟨_,rfl,z,HB3.out⟩
def Zlk (M:Mach)(i:Int):List Nat:=M.steps.getD i.toNat []
theorem at_St {φ:Nat→Nat}{w:World}{A:Option Addr}{n:Nat}{xs:List (List Nat)}(h:Kd.C (Kd.slice 120 (Zgl φ)) w A n xs)(i:Int)(h0:0≤i)(h1:i<n) :
 ∃ad A0 c0,A=some ad∧w.cell? (ad.add i.toNat)=some (.slice A0 (xs.getD i.toNat []).length c0)∧(xs.getD i.toNat []).length≤c0∧(Zgl φ).C w A0 (xs.getD i.toNat []).length (xs.getD i.toNat []):=by
 obtain⟨ad,c,e,_,hK,hc0⟩:=Kd.C_get h ([]:List Nat) i h0 h1;have hc:∀j u,c[j]?=some u→w.cell? (ad.add (i.toNat*1+j))=some u:=hc0;obtain⟨A0,c0,rfl,l0,g0⟩:=hK;exact⟨ad,A0,c0,e,by have hq:=hc 0 _ rfl;rwa[Nat.mul_one,Nat.add_zero]at hq,l0,g0⟩
theorem at_Ptr {φ:Nat→Nat}{w:World}{A:Option Addr}{n:Nat}{xs:List Nat}(h:(Zgl φ).C w A n xs)(i:Int)(h0:0≤i)(h1:i<n):∃ad,A=some ad∧w.cell? (ad.add i.toNat)=some (.pointer (some ⟨φ (xs.getD i.toNat 0),0,none⟩)):=by
 obtain⟨ad,c,e,_,hK,hc0⟩:=Kd.C_get h (0:Nat) i h0 h1;have hc:∀j u,c[j]?=some u→w.cell? (ad.add (i.toNat*1+j))=some u:=hc0;have hK':c=[.pointer (some ⟨φ (xs.getD i.toNat 0),0,none⟩)]:=hK;subst hK';exact⟨ad,e,by have hq:=hc 0 _ rfl;rwa[Nat.mul_one,Nat.add_zero]at hq⟩
def ruleK (M:Mach)(p:Int)(k:Nat):Int:=if (Zer M.sh k).rule<0 then -1 else if (Zer M.sh k).step+1<(Zlk M (Zer M.sh k).rule).length then -1 else if endB M p (some k)=true then (Zer M.sh k).rule else -1
def Zgr (M:Mach)(p:Int):Int:=if 0≤p∧p<M.pl.length then (match (Zbf M.pl p).shape with | none=>-1 | some k=>ruleK M p k)else -1
set_option maxHeartbeats 4000000 in
theorem rule_call (w:World)(gb:Nat)(G:S26)(M:Mach)(φ:Nat→Nat)(h:VR w gb G M φ)(ok:M.Ok φ)(p:Int) :
 Calls Tryz.prog 47 #[.pointer (some ⟨gb,0,none⟩),.int .i64 p] w fun e w'=>e=.returned (.int .i64 (Zgr M p))∧Drawn0 w w':=by
 have HV:=Zrw.mk h;obtain⟨At,ct,Ar,cr,Ap,cp,As,cs,Af,cf,hc,_,_,_,_,_,hp,_,hst,_⟩:=h.cells;have g2:w.cell? ⟨gb,2,none⟩=some (.slice Ap M.pl.length cp):=(Zaa hc 2).trans rfl;by_cases a1:0≤p
 rotate_left
 ·have q1:decide (p<0)=true:=decide_eq_true (by omega);have e:Zgr M p=-1:=by unfold Zgr;rw[if_neg (by omega)]
  rw[e];clear hc h hp hst e a1 ok HV
  go_enter Tryz.func47,Tryz.ntmps47
  go_wp2
  go_ret
  exact⟨rfl,Drawn0.refl w⟩
 by_cases a2:p<M.pl.length
 rotate_left
 ·have q1:decide (p<0)=false:=decide_eq_false (by omega);have q2:decide ((M.pl.length:Int)≤p)=true:=decide_eq_true (by omega);have e:Zgr M p=-1:=by unfold Zgr;rw[if_neg (by omega)]
  rw[e];clear hc h hp hst e a1 a2 ok HV
  go_enter Tryz.func47,Tryz.ntmps47
  go_wp2
  go_ret
  exact⟨rfl,Drawn0.refl w⟩
 have q1:decide (p<0)=false:=decide_eq_false (by omega);have q2:decide ((M.pl.length:Int)≤p)=false:=decide_eq_false (by omega);obtain⟨ad,A1,c1,A2,c2,A3,c3,A4,c4,rfl,k0,k1,_⟩:=Zob hp p a1 a2;cases hsh:(Zbf M.pl p).shape with
 | none=>
  have e:Zgr M p=-1:=by unfold Zgr;rw[if_pos ⟨a1,a2⟩,hsh]
  rw[e];rw[hsh]at k1;change w.cell? _=some (.pointer none)at k1;clear hc h hp hst e hsh ok HV
  go_enter Tryz.func47,Tryz.ntmps47
  go_wp2
  go_quiet (fail)
  go_wp2
  go_ret
  exact⟨rfl,⟨_,rfl⟩⟩
 | some k=>
  have hm:=ok.shape p a1 a2 k hsh;have e:Zgr M p=ruleK M p k:=by unfold Zgr;rw[if_pos ⟨a1,a2⟩,hsh]
  rw[e];unfold ruleK;rw[hsh]at k1;change w.cell? _=some (.pointer (some ⟨φ k,0,none⟩))at k1;obtain⟨B1,d1,B2,d2,hb,m1,n1,m2,n2⟩:=(h.shapes k _ hm).cells;have s4:w.cell? ⟨φ k,4,none⟩=some (.int .i64 (Zer M.sh k).rule):=(Zaa hb 4).trans rfl;have s5:w.cell? ⟨φ k,5,none⟩=some (.int .i64 (Zer M.sh k).step):=(Zaa hb 5).trans rfl;have HE:=Zrw.mk (fun n=>Znq (w.drewN n) gb G M φ (h.below (Zag Zbr n)) ok p a1 a2 (some k) (fun k' hk'=>by cases hk';exact hm));have hr:=ok.rules k _ hm;generalize (Zer M.sh k).rule=r at s4 hr ⊢;generalize (Zer M.sh k).step=st at s5 hr ⊢;by_cases r0:r<0
  ·have z0:decide (r<0)=true:=decide_eq_true r0;rw[if_pos r0];clear hc h hp hst e hsh ok HV hr hb hm n1 m1 n2 m2 HE r0
   go_enter Tryz.func47,Tryz.ntmps47
   go_wp2
   go_quiet (fail)
   go_wp2
   go_ret
   exact⟨rfl,⟨_,rfl⟩⟩
  ·have z0:decide (r<0)=false:=decide_eq_false r0;rw[if_neg r0];obtain⟨r1,r2,r3⟩:=hr (by omega);obtain⟨sd,S0,sc,rfl,t0,_,_⟩:=at_St hst r (by omega) r1;have g3:w.cell? ⟨gb,2+1,none⟩=some (.slice (some sd) M.steps.length cs):=(Zaa hc 3).trans rfl;change w.cell? _=some (.slice S0 (Zlk M r).length sc)at t0;have hw:IntKind.i64.wrap (st+1)=st+1:=by simp[IntKind.wrap,IntKind.bits,IntKind.signed];omega
   have ru:0≤r:=by omega
   by_cases c1:st+1<(Zlk M r).length
   ·rw[if_pos c1];have z1:decide (st+1<((Zlk M r).length:Int))=true:=decide_eq_true c1;generalize (Zlk M r).length=n at *;clear hc h hp hst e hsh ok HV hb hm n1 m1 n2 m2 HE c1 r2 r3
    go_enter Tryz.func47,Tryz.ntmps47
    go_wp2
    go_quiet (fail)
    go_wp2
    go_ret
    exact⟨rfl,⟨_,rfl⟩⟩
   ·rw[if_neg c1];have z1:decide (st+1<((Zlk M r).length:Int))=false:=decide_eq_false c1;generalize (Zlk M r).length=n at *;generalize endB M p (some k)=b at HE ⊢;clear hc h hp hst e hsh ok HV hb hm n1 m1 n2 m2 c1 r2 r3;cases b
    all_goals
     go_enter Tryz.func47,Tryz.ntmps47
     go_wp2
     go_quiet ((go_at_call 65;exact Calls.quiet_of ((HE.out _).mono (fun _ _ ⟨h,hd⟩=>⟨h,hd.out⟩))))
     go_wp2
     go_ret
     exact⟨rfl,⟨_,rfl⟩⟩
def Zgv (M:Mach)(i:Nat):Int:=if rd M.frees i<0 then ((M.steps.getD i []).headD 0:Nat)else rd M.frees i
def Zeu (M:Mach):Nat→List Int
 | 0=>[]
 | k+1=>Zeu M k++[Zgv M k]
def Zlx (M:Mach):List Int:=Zeu M M.frees.length
theorem Zhe (M:Mach)(k:Nat):(Zeu M k).length=k:=by
 induction k with
 | zero=>rfl
 | succ k ih=>show (Zeu M k++[_]).length=_;rw[List.length_append,ih];rfl
set_option maxHeartbeats 4000000 in
theorem start_call (w:World)(gb:Nat)(G:S26)(M:Mach)(φ:Nat→Nat)(h:VR w gb G M φ)(ok:M.Ok φ) :
 Calls Tryz.prog 41 #[.pointer (some ⟨gb,0,none⟩)] w (Zof w (Zlx M)):=by
 have HV:=Zrw.mk h;obtain⟨At,ct,Ar,cr,Ap,cp,As,cs,Af,cf,hc,_,_,_,_,_,_,_,_,_,hf⟩:=h.cells;have g4:w.cell? ⟨gb,4,none⟩=some (.slice Af M.frees.length cf):=(Zaa hc 4).trans rfl;have HF:=Zrw.mk hf;have hfl:=ok.fewer.2.1;have HOK:=Zrw.mk ok;clear hc hf h ok
 go_enter Tryz.func41,Tryz.ntmps41
 go_wp2
 clear g4
 go_loopw [3,13] (fun v i wr=>∃k:Nat,k≤M.frees.length∧i=.int .i64 k∧Zrw ((Kd.int .i64).R 3 wr w.heap.size (fun _=>True) v (Zeu M k))∧Zrw (Below w.heap.size w wr)) (fun _ i _=>M.frees.length-(intOf i).toNat)
 case atStart=>exact⟨0,Nat.zero_le _,rfl,⟨Kd.R_nil _ _ _ _ _⟩,⟨Zbr⟩⟩
 case round=>
  obtain⟨k,hk,rfl,HO,HB⟩:=hrel;by_cases hkn:k<M.frees.length
  ·have HVr:=Zrw.mk (HV.out.below HB.out);obtain⟨At2,ct2,Ar2,cr2,Ap2,cp2,As2,cs2,Af2,cf2,hc2,_,_,_,_,_,_,_,hst,_,_⟩:=HVr.out.cells;have g3:wr.cell? ⟨gb,3,none⟩=some (.slice As2 M.steps.length cs2):=(Zaa hc2 3).trans rfl;obtain⟨ad,rfl,hq0⟩:=Kd.at_int (Kd.C_below HF.out HB.out) (k:Int) (by omega) (by omega);rw[Int.toNat_natCast]at hq0;obtain⟨hks,k0,r0,hst0⟩:=HOK.out.starts k hkn;obtain⟨sd,S0,sc,rfl,t0,_,hp0⟩:=at_St hst (k:Int) (by omega) (by omega);rw[Int.toNat_natCast]at t0 hp0;have hm:=HOK.out.stepsIn k k0 (by rw[hst0];exact List.mem_cons_self);rw[hst0]at t0 hp0;obtain⟨pd,rfl,hp1⟩:=at_Ptr hp0 0 (by omega) (by simp);obtain⟨B1,d1,B2,d2,hb,_⟩:=(HVr.out.shapes k0 _ hm).cells;have s0:wr.cell? ⟨φ k0,0,none⟩=some (.int .i64 (k0:Int)):=(Zaa hb 0).trans rfl;have hp2:wr.cell? pd=some (.pointer (some ⟨φ k0,0,none⟩)):=by
    have z:=hp1;simp only[Int.toNat_zero,List.getD_cons_zero]at z;rwa[show pd.add 0=pd from by unfold Addr.add;simp]at z
   have hlen1:0<(k0 :: r0).length:=by simp
   have hsv:Zgv M k=if rd M.frees k<0 then (k0:Int)else rd M.frees k:=by unfold Zgv;rw[hst0];rfl
   have HSV:=Zrw.mk hsv;have hsl:=Zhe M k;have HSL:=Zrw.mk (show (Zeu M k).length≤1000 by omega);clear hc2 hst hp0 hp1 hb hm hst0 hsv hsl;generalize rd M.frees k=f at hq0 HSV;generalize (k0 :: r0).length=n at t0 hlen1;by_cases c:f<0
   ·go_wp2_with ((with_reducible refine Zal (b:=.append) (xs:=#[.tmp 32,.tmp 34]) rfl ?_);at_builtin;refine Kd.R_append_row (Value.int .i64) 0 (h1:=fun _=>rfl) (w0:=w) w.heap.size rfl (.tmp 32) (.tmp 34) 41 3 (.int .i64 0) 8 rfl Tryz.underlying41 Ziq rfl (by omega) _ (Zeu M k) [(k0:Int)] _ _ _ (fun _=>True) rfl rfl (fun _ _=>trivial) ?aO ?aR ?aB ?aS ?aL ?_;(case aR=>exact one_C (by simp) _);(case aO=>exact Kd.R_alloc HO.out _);(case aB=>exact Zab HB.out _);(case aS=>exact Zcs (Zab HB.out _));(case aL=>have:=HSL.out;omega);intro v2 w2 ho2 hb2 hg2 hat2;have HO2:=Zrw.mk ho2;have HB2:=Zrw.mk hb2;clear ho2 hb2 hg2 hat2)
    go_roundw
    case rel=>exact⟨k+1,by omega,by go_num,⟨by show (Kd.int .i64).R 3 w2 w.heap.size (fun _=>True) _ (Zeu M k++[Zgv M k]);rw[HSV.out,if_pos c];exact HO2.out⟩,HB2⟩
    case measure=>simp[intOf];omega
   ·go_wp2_with ((with_reducible refine Zal (b:=.append) (xs:=#[.tmp 32,.tmp 34]) rfl ?_);at_builtin;refine Kd.R_append_row (Value.int .i64) 0 (h1:=fun _=>rfl) (w0:=w) w.heap.size rfl (.tmp 32) (.tmp 34) 41 3 (.int .i64 0) 8 rfl Tryz.underlying41 Ziq rfl (by omega) _ (Zeu M k) [f] _ _ _ (fun _=>True) rfl rfl (fun _ _=>trivial) ?aO ?aR ?aB ?aS ?aL ?_;(case aR=>exact one_C (by simp) _);(case aO=>exact Kd.R_alloc HO.out _);(case aB=>exact Zab HB.out _);(case aS=>exact Zcs (Zab HB.out _));(case aL=>have:=HSL.out;omega);intro v2 w2 ho2 hb2 hg2 hat2;have HO2:=Zrw.mk ho2;have HB2:=Zrw.mk hb2;clear ho2 hb2 hg2 hat2)
    go_roundw
    case rel=>exact⟨k+1,by omega,by go_num,⟨by show (Kd.int .i64).R 3 w2 w.heap.size (fun _=>True) _ (Zeu M k++[Zgv M k]);rw[HSV.out,if_neg c];exact HO2.out⟩,HB2⟩
    case measure=>simp[intOf];omega
  ·obtain rfl:k=M.frees.length:=by omega
   go_wp2
   go_ret
   exact⟨_,rfl,HO.out,HB.out⟩
theorem Zkj (φ:Nat→Nat)(o:Option Nat):ptr φ o=.pointer (o.map fun b=>⟨φ b,0,none⟩):=by cases o <;> rfl
theorem Znn {w W:World}{g:Nat}(hg:g=W.heap.size)(hb:Below w.heap.size w W)(p:Int):Zof w [p] (.returned (.slice (some ⟨g,0,none⟩) 1 1)) (W.alloc (.cells #[.int .i64 p] 3)):=by
 subst hg;exact Zhw w W hb p
def retB (G:S26)(M:Mach)(p sym t:Int):Bool:=
 (Ziy M sym&&decide (p=sym))||((decide ((Zbf M.pl sym).p.f0=4)&&decide (p=0))||(decide ((Zbf M.pl sym).p.f0=3)&&(Zdd G t (Zbf M.pl sym).p.f2&&endB M p (Zbf M.pl sym).inner)))
def retL (G:S26)(M:Mach)(p sym t:Int):List Int:=if Zmh G M p t 2=true∧0≤sym∧sym<M.pl.length∧retB G M p sym t=true then [sym]else []
set_option maxHeartbeats 4000000 in
theorem ret_call (w:World)(gb:Nat)(G:S26)(M:Mach)(φ:Nat→Nat)(h:VR w gb G M φ)(ok:M.Ok φ)(p sym t:Int) :
 Calls Tryz.prog 134 #[.pointer (some ⟨gb,0,none⟩),.int .i64 p,.int .i64 sym,.int .i64 t] w (Zof w (retL G M p sym t)):=by
 have hm:=Zjq w gb G M φ h p t 2;obtain⟨At,ct,Ar,cr,Ap,cp,As,cs,Af,cf,hc,_,_,_,_,_,hp,_⟩:=h.cells;have g2:w.cell? ⟨gb,2,none⟩=some (.slice Ap M.pl.length cp):=(Zaa hc 2).trans rfl;cases hb:Zmh G M p t 2 with
 | false=>
  have e:retL G M p sym t=[]:=by unfold retL;rw[if_neg (by simp[hb])]
  rw[hb]at hm;rw[e];clear h e hb hc hp ok
  go_enter Tryz.func134,Tryz.ntmps134
  go_wp2_with (go_at_call 101;refine hm.mono ?_;rintro e w1 ⟨rfl,rfl⟩;clear hm)
  go_ret
  exact Zez _
 | true=>
  obtain⟨p0,p1,ht,_⟩:=Zed hb;rw[hb]at hm;have HM:=Zrw.mk hm;clear hm;by_cases a1:0≤sym
  rotate_left
  ·have e:retL G M p sym t=[]:=by unfold retL;rw[if_neg (by omega)]
   have q1:decide (sym<0)=true:=decide_eq_true (by omega);rw[e];clear h e hb hc hp ok a1 p0 p1 ht
   go_enter Tryz.func134,Tryz.ntmps134
   go_wp2_with (go_at_call 101;refine HM.out.mono ?_;rintro e w1 ⟨rfl,rfl⟩)
   go_ret
   exact Zez _
  by_cases a2:sym<M.pl.length
  rotate_left
  ·have e:retL G M p sym t=[]:=by unfold retL;rw[if_neg (by omega)]
   have q1:decide (sym<0)=false:=decide_eq_false (by omega);have q2:decide ((M.pl.length:Int)≤sym)=true:=decide_eq_true (by omega);rw[e];clear h e hb hc hp ok a1 a2 p0 p1 ht
   go_enter Tryz.func134,Tryz.ntmps134
   go_wp2_with (go_at_call 101;refine HM.out.mono ?_;rintro e w1 ⟨rfl,rfl⟩)
   go_ret
   exact Zez _
  have q1:decide (sym<0)=false:=decide_eq_false (by omega);have q2:decide ((M.pl.length:Int)≤sym)=false:=decide_eq_false (by omega);have e:retL G M p sym t=if retB G M p sym t=true then [sym]else []:=by
   unfold retL;by_cases c:retB G M p sym t=true
   ·rw[if_pos ⟨hb,a1,a2,c⟩,if_pos c]
   ·rw[if_neg (by simp[c]),if_neg c]
  rw[e];obtain⟨ad,A1,c1,A2,c2,A3,c3,A4,c4,rfl,k0,k1,k2,k3,k4,k5,k6,k7,k8,l1,f1,l2,f2,_⟩:=Zob hp sym a1 a2;have HS:=Zrw.mk (fun W (hW:Below w.heap.size w W)=>Zij W gb G M φ (h.below hW) sym a1 a2);have HN:=Zrw.mk (fun W (hW:Below w.heap.size w W)=>Zgi W gb G M φ (h.below hW) t ht A2 c2 (Zbf M.pl sym).p.f2 (Kd.C_below f2 hW) l2 (by have:=(ok.follow sym a1 a2).2.2.1;omega));have he:=(fun W (hW:Below w.heap.size w W)=>Znq W gb G M φ (h.below hW) ok p p0 p1 (Zbf M.pl sym).inner (ok.inner sym a1 a2))
  rw[Zkj]at he;have HE:=Zrw.mk he;clear he;unfold retB;generalize (Zbf M.pl sym).kind=u0 at k0;generalize (Zbf M.pl sym).follow=u7 at k7;generalize (Zbf M.pl sym).rule=u8 at k8;generalize (Zbf M.pl sym).p.f1=u3 at k3 l1 f1;generalize Zdd G t (Zbf M.pl sym).p.f2=b2 at HN ⊢;generalize (Zbf M.pl sym).p.f2=u4 at k4 l2 f2 HN;generalize (Zbf M.pl sym).p.f3=u5 at k5;generalize endB M p (Zbf M.pl sym).inner=b3 at HE ⊢;rw[Zkj]at k1 k6;generalize ((Zbf M.pl sym).inner.map fun b=>(⟨φ b,0,none⟩:Addr))=u6 at k6 HE;generalize ((Zbf M.pl sym).shape.map fun b=>(⟨φ b,0,none⟩:Addr))=u1 at k1;generalize Ziy M sym=b1 at HS ⊢;generalize (Zbf M.pl sym).p.f0=kd at k2 ⊢;clear h e hb hc hp ok p0 p1 ht l1 f1 l2 f2;by_cases hq:b1=true∧p=sym
  ·obtain⟨rfl,rfl⟩:=hq;rw[show ((true&&decide (p=p))||((decide (kd=4)&&decide (p=0))||(decide (kd=3)&&(b2&&b3))))=true by simp,if_pos rfl]
   go_enter Tryz.func134,Tryz.ntmps134
   go_wp2_with (first | (go_at_call 101;refine HM.out.mono ?_;rintro e w1 ⟨rfl,hw1⟩;obtain rfl:=hw1.symm;clear hw1) | (go_at_call 102;(with_reducible refine (HS.out _ (Zab Zbr _)).mono ?_);rintro e w3 ⟨rfl,rfl⟩) | (go_at_call 104;(with_reducible refine (HN.out _ (Zab Zbr _)).mono ?_);rintro e w4 ⟨rfl,hd⟩;have HB4:=Zrw.mk (Zae (Zab (Below.refl w.heap.size w) _) hd.below);have hc4:=hd.below.cell (p:=⟨w.heap.size,6,none⟩) (by simp);clear hd) | (go_at_call 65;(with_reducible refine (HE.out _ HB4.out).mono ?_);rintro e w5 ⟨rfl,hd⟩;have HB5:=Zrw.mk (Zae HB4.out hd.below);clear hd))
   go_ret
   exact Znn (by simp) (Zab Zbr _) p
  ·have hq2:(b1&&decide (p=sym))=false:=by cases b1 <;> simp_all
   rw[hq2,Bool.false_or];have hq3:(b1=false)∨(b1=true∧(p==sym)=false):=by cases b1 <;> simp_all
   clear hq hq2;by_cases e4:kd=4
   ·subst e4;by_cases ep:p=0
    ·subst ep;rw[show ((decide ((4:Int)=4)&&decide ((0:Int)=0))||(decide ((4:Int)=3)&&(b2&&b3)))=true by simp,if_pos rfl]
     rcases hq3 with rfl | ⟨rfl,hne⟩
     all_goals
      go_enter Tryz.func134,Tryz.ntmps134
      go_wp2_with (first | (go_at_call 101;refine HM.out.mono ?_;rintro e w1 ⟨rfl,hw1⟩;obtain rfl:=hw1.symm;clear hw1) | (go_at_call 102;(with_reducible refine (HS.out _ (Zab Zbr _)).mono ?_);rintro e w3 ⟨rfl,rfl⟩) | (go_at_call 104;(with_reducible refine (HN.out _ (Zab Zbr _)).mono ?_);rintro e w4 ⟨rfl,hd⟩;have HB4:=Zrw.mk (Zae (Zab (Below.refl w.heap.size w) _) hd.below);have hc4:=hd.below.cell (p:=⟨w.heap.size,6,none⟩) (by simp);clear hd) | (go_at_call 65;(with_reducible refine (HE.out _ HB4.out).mono ?_);rintro e w5 ⟨rfl,hd⟩;have HB5:=Zrw.mk (Zae HB4.out hd.below);clear hd))
      go_ret
      exact Znn (by simp) (Zab Zbr _) sym
    ·rw[show ((decide ((4:Int)=4)&&decide (p=0))||(decide ((4:Int)=3)&&(b2&&b3)))=false by simp[ep],if_neg (by simp)];have n0:(p==0)=false:=by simpa using ep
     rcases hq3 with rfl | ⟨rfl,hne⟩
     all_goals
      go_enter Tryz.func134,Tryz.ntmps134
      go_wp2_with (first | (go_at_call 101;refine HM.out.mono ?_;rintro e w1 ⟨rfl,hw1⟩;obtain rfl:=hw1.symm;clear hw1) | (go_at_call 102;(with_reducible refine (HS.out _ (Zab Zbr _)).mono ?_);rintro e w3 ⟨rfl,rfl⟩) | (go_at_call 104;(with_reducible refine (HN.out _ (Zab Zbr _)).mono ?_);rintro e w4 ⟨rfl,hd⟩;have HB4:=Zrw.mk (Zae (Zab (Below.refl w.heap.size w) _) hd.below);have hc4:=hd.below.cell (p:=⟨w.heap.size,6,none⟩) (by simp);clear hd) | (go_at_call 65;(with_reducible refine (HE.out _ HB4.out).mono ?_);rintro e w5 ⟨rfl,hd⟩;have HB5:=Zrw.mk (Zae HB4.out hd.below);clear hd))
      go_ret
      exact⟨_,rfl,Kd.R_nil _ _ _ _ _,Zab Zbr _⟩
   ·have n4:(kd==4)=false:=by simpa using e4
    by_cases e3:kd=3
    ·subst e3;rw[show ((decide ((3:Int)=4)&&decide (p=0))||(decide ((3:Int)=3)&&(b2&&b3)))=(b2&&b3) by simp];cases b2
     ·rw[Bool.false_and,if_neg (by simp)]
      rcases hq3 with rfl | ⟨rfl,hne⟩
      all_goals
       go_enter Tryz.func134,Tryz.ntmps134
       go_wp2_with (first | (go_at_call 101;refine HM.out.mono ?_;rintro e w1 ⟨rfl,hw1⟩;obtain rfl:=hw1.symm;clear hw1) | (go_at_call 102;(with_reducible refine (HS.out _ (Zab Zbr _)).mono ?_);rintro e w3 ⟨rfl,rfl⟩) | (go_at_call 104;(with_reducible refine (HN.out _ (Zab Zbr _)).mono ?_);rintro e w4 ⟨rfl,hd⟩;have HB4:=Zrw.mk (Zae (Zab (Below.refl w.heap.size w) _) hd.below);have hc4:=hd.below.cell (p:=⟨w.heap.size,6,none⟩) (by simp);clear hd) | (go_at_call 65;(with_reducible refine (HE.out _ HB4.out).mono ?_);rintro e w5 ⟨rfl,hd⟩;have HB5:=Zrw.mk (Zae HB4.out hd.below);clear hd))
       go_ret
       exact⟨_,rfl,Kd.R_nil _ _ _ _ _,HB4.out⟩
     ·rw[Bool.true_and];cases b3
      ·rw[if_neg (by simp)]
       rcases hq3 with rfl | ⟨rfl,hne⟩
       all_goals
        go_enter Tryz.func134,Tryz.ntmps134
        go_wp2_with (first | (go_at_call 101;refine HM.out.mono ?_;rintro e w1 ⟨rfl,hw1⟩;obtain rfl:=hw1.symm;clear hw1) | (go_at_call 102;(with_reducible refine (HS.out _ (Zab Zbr _)).mono ?_);rintro e w3 ⟨rfl,rfl⟩) | (go_at_call 104;(with_reducible refine (HN.out _ (Zab Zbr _)).mono ?_);rintro e w4 ⟨rfl,hd⟩;have HB4:=Zrw.mk (Zae (Zab (Below.refl w.heap.size w) _) hd.below);have hc4:=hd.below.cell (p:=⟨w.heap.size,6,none⟩) (by simp);clear hd) | (go_at_call 65;(with_reducible refine (HE.out _ HB4.out).mono ?_);rintro e w5 ⟨rfl,hd⟩;have HB5:=Zrw.mk (Zae HB4.out hd.below);clear hd))
        go_ret
        exact⟨_,rfl,Kd.R_nil _ _ _ _ _,HB5.out⟩
      ·rw[if_pos rfl]
       rcases hq3 with rfl | ⟨rfl,hne⟩
       all_goals
        go_enter Tryz.func134,Tryz.ntmps134
        go_wp2_with (first | (go_at_call 101;refine HM.out.mono ?_;rintro e w1 ⟨rfl,hw1⟩;obtain rfl:=hw1.symm;clear hw1) | (go_at_call 102;(with_reducible refine (HS.out _ (Zab Zbr _)).mono ?_);rintro e w3 ⟨rfl,rfl⟩) | (go_at_call 104;(with_reducible refine (HN.out _ (Zab Zbr _)).mono ?_);rintro e w4 ⟨rfl,hd⟩;have HB4:=Zrw.mk (Zae (Zab (Below.refl w.heap.size w) _) hd.below);have hc4:=hd.below.cell (p:=⟨w.heap.size,6,none⟩) (by simp);clear hd) | (go_at_call 65;(with_reducible refine (HE.out _ HB4.out).mono ?_);rintro e w5 ⟨rfl,hd⟩;have HB5:=Zrw.mk (Zae HB4.out hd.below);clear hd))
        go_ret
        exact Zhw _ _ HB5.out sym
    ·have n3:(kd==3)=false:=by simpa using e3
     rw[show ((decide (kd=4)&&decide (p=0))||(decide (kd=3)&&(b2&&b3)))=false by simp[e4,e3],if_neg (by simp)]
     rcases hq3 with rfl | ⟨rfl,hne⟩
     all_goals
      go_enter Tryz.func134,Tryz.ntmps134
      go_wp2_with (first | (go_at_call 101;refine HM.out.mono ?_;rintro e w1 ⟨rfl,hw1⟩;obtain rfl:=hw1.symm;clear hw1) | (go_at_call 102;(with_reducible refine (HS.out _ (Zab Zbr _)).mono ?_);rintro e w3 ⟨rfl,rfl⟩) | (go_at_call 104;(with_reducible refine (HN.out _ (Zab Zbr _)).mono ?_);rintro e w4 ⟨rfl,hd⟩;have HB4:=Zrw.mk (Zae (Zab (Below.refl w.heap.size w) _) hd.below);have hc4:=hd.below.cell (p:=⟨w.heap.size,6,none⟩) (by simp);clear hd) | (go_at_call 65;(with_reducible refine (HE.out _ HB4.out).mono ?_);rintro e w5 ⟨rfl,hd⟩;have HB5:=Zrw.mk (Zae HB4.out hd.below);clear hd))
      go_ret
      exact⟨_,rfl,Kd.R_nil _ _ _ _ _,Zab Zbr _⟩
structure W0 where
 w:World
 ok:Nat→Prop
instance:Coe W0 World:=⟨W0.w⟩
abbrev W0.heap (x:W0):=x.w.heap
abbrev Ri (w0:W0)(W:World)(v:Value)(l:List Int):Prop:=(Kd.int .i64).R 3 W w0.heap.size w0.ok v l
def Same3 (W W':World):Prop:=∀(k:Nat) (cells:Array Value),W.heap[k]?=some (Obj.cells cells 3 (0,0))→W'.heap[k]?=W.heap[k]?
theorem Same3.refl (W:World):Same3 W W:=fun _ _ _=>rfl
theorem Same3.trans {W W1 W2:World}(h:Same3 W W1)(k:Same3 W1 W2):Same3 W W2:=fun i cells hi=>(k i cells ((h i cells hi).trans hi)).trans (h i cells hi)
theorem Same3.below {W W1:World}(hb:Below W.heap.size W W1):Same3 W W1:=fun k _ hk=>hb.block k (Zau hk)
theorem Ri.same {w0:W0}{W W':World}{v:Value}{l:List Int}(h:Ri w0 W v l)(hs:Same3 W W'):Ri w0 W' v l:=by
 have ho:=Kd.own_of_R h;exact Kd.R_of_own (Zci ho (fun k hk=>by obtain⟨cells,hc⟩:=Zaq ho k hk;exact hs k cells hc)) h.1
theorem Ri.C {w0:W0}{W:World}{v:Value}{l:List Int}(h:Ri w0 W v l):∃A c,v=.slice A l.length c∧l.length≤c∧(Kd.int .i64).C W A l.length l:=Kd.R_reads h
def PlS (φ:Nat→Nat)(w0:W0)(W:World)(x:Pl)(cs:List Value):Prop:=
 ∃A1 c1 A2 c2 A3 c3 v4,cs=[.int .i64 x.kind,ptr φ x.shape,.int .i64 x.p.f0,.slice A1 x.p.f1.length c1,.slice A2 x.p.f2.length c2,.slice A3 x.p.f3.length c3,ptr φ x.inner,v4,.int .i64 x.rule] ∧
  x.p.f1.length≤c1∧Kd.string.C w0 A1 x.p.f1.length x.p.f1∧x.p.f2.length≤c2∧Kd.string.C w0 A2 x.p.f2.length x.p.f2∧x.p.f3.length≤c3∧k76.C w0 A3 x.p.f3.length x.p.f3∧Ri w0 W v4 x.follow
theorem PlS.same {φ:Nat→Nat}{w0:W0}{W W':World}{x:Pl}{cs:List Value}(h:PlS φ w0 W x cs)(hs:Same3 W W'):PlS φ w0 W' x cs:=by
 obtain⟨A1,c1,A2,c2,A3,c3,v4,rfl,l1,g1,l2,g2,l3,g3,g4⟩:=h;exact⟨A1,c1,A2,c2,A3,c3,v4,rfl,l1,g1,l2,g2,l3,g3,g4.same hs⟩
theorem PlS.len {φ:Nat→Nat}{w0:W0}{W:World}{x:Pl}{cs:List Value}(h:PlS φ w0 W x cs):cs.length=9:=by
 obtain⟨A1,c1,A2,c2,A3,c3,v4,rfl,_⟩:=h
 rfl
theorem PlS.one {φ:Nat→Nat}{w0:W0}{W:World}{x:Pl}{cs:List Value}(h:PlS φ w0 W x cs):∀u∈cs,u.oneCell'=true:=by
 obtain⟨A1,c1,A2,c2,A3,c3,v4,rfl,_,_,_,_,_,_,g4⟩:=h;obtain⟨A,c,rfl,_⟩:=g4.C;intro u hu;simp only[List.mem_cons,List.not_mem_nil,or_false]at hu
 rcases hu with rfl | rfl | rfl | rfl | rfl | rfl | rfl | rfl | rfl <;> first | rfl | exact ptr_one _ _
theorem Zor {φ φ':Nat→Nat}{o:Option Nat}(h:∀k,o=some k→φ' k=φ k):ptr φ' o=ptr φ o:=by
 cases o with
 | none=>rfl
 | some k=>show Value.pointer _=Value.pointer _;rw[h k rfl]
theorem PlS.phi {φ φ':Nat→Nat}{w0:W0}{W:World}{x:Pl}{cs:List Value}(h:PlS φ w0 W x cs)(h1:∀k,x.shape=some k→φ' k=φ k)(h2:∀k,x.inner=some k→φ' k=φ k):PlS φ' w0 W x cs:=by
 obtain⟨A1,c1,A2,c2,A3,c3,v4,rfl,r⟩:=h;exact⟨A1,c1,A2,c2,A3,c3,v4,by rw[Zor h1,Zor h2],r⟩
structure ShS (w0:W0)(W:World)(b k:Nat)(s:Sh):Prop where
 ge:w0.heap.size≤b
 cells:∃v1 v2,W.heap[b]?=some (.cells #[.int .i64 (k:Int),v1,v2,.bool s.empty,.int .i64 s.rule,.int .i64 s.step] 126 (0,0))∧Ri w0 W v1 s.first∧Ri w0 W v2 s.last
def KeptV (W W':World)(gb:Nat)(v:Value):Prop:=Kept W W' (fun k=>k=gb∨v.ownBlock=some k)
def NewOr (W:World)(v v':Value):Prop:=v'.ownBlock=v.ownBlock∨∃b,v'.ownBlock=some b∧W.heap.size≤b
structure VS (w0:W0)(W:World)(gb:Nat)(h0 h1 vs vf:Value)(φ:Nat→Nat)(v:Value)(pl:List Pl)(sh:List (Nat × Sh)):Prop where
 ge:w0.heap.size≤gb
 blk:W.heap[gb]?=some (.cells #[h0,h1,v,vs,vf] 118 (0,0))
 row:OwnRow (PlS φ w0 W) 122 9 W w0.heap.size v pl
 shapes:∀k s,(k,s)∈sh→ShS w0 W (φ k) k s
 bel:Below w0.heap.size w0 W
 new:∀k,W.heap.size≤k→w0.ok k
theorem VS.ri {w0:W0}{W W':World}{gb:Nat}{h0 h1 vs vf:Value}{φ:Nat→Nat}{v:Value}{pl:List Pl}{sh:List (Nat × Sh)}(h:VS w0 W gb h0 h1 vs vf φ v pl sh){u:Value}{l:List Int}{base:Nat}(ho:(Kd.int .i64).R 3 W' base (fun _=>True) u l)(hb:W.heap.size≤base):Ri w0 W' u l:=by
 have ho2:=Kd.own_of_R ho;have h3:=Kd.own_of_R (Kd.R_lower ho (Nat.le_trans h.bel.size hb));exact Kd.R_of_own h3 (fun k hk=>h.new k (Nat.le_trans hb (World.ownsRow.lt ho2 k hk).1))
theorem VS.typed {w0:W0}{W:World}{gb:Nat}{h0 h1 vs vf:Value}{φ:Nat→Nat}{v:Value}{pl:List Pl}{sh:List (Nat × Sh)}(h:VS w0 W gb h0 h1 vs vf φ v pl sh)(k:Nat)(hk:k=gb∨v.ownBlock=some k):∃cells,W.heap[k]?=some (.cells cells 118 (0,0))∨W.heap[k]?=some (.cells cells 122 (0,0)):=by
 rcases hk with rfl | hk
 ·exact⟨_,.inl h.blk⟩
 ·obtain⟨inner,ho,_⟩:=h.row;obtain⟨cells,hc⟩:=Zaq ho k hk;exact⟨cells,.inr hc⟩
theorem VS.keep {w0:W0}{W W':World}{gb:Nat}{h0 h1 vs vf:Value}{φ:Nat→Nat}{v:Value}{pl:List Pl}{sh:List (Nat × Sh)}(h:VS w0 W gb h0 h1 vs vf φ v pl sh)(hk:KeptV W W' gb v){g:Nat}{cs:Array Value}{e:TypeId}(hg:W.heap[g]?=some (.cells cs e (0,0)))(h86:e≠118)(h90:e≠122) :
 W'.heap[g]?=some (.cells cs e (0,0)):=by
 refine Zie hg hk (fun hS=>?_);obtain⟨cells,hc⟩:=h.typed g hS
 rcases hc with hc | hc
 ·rw[hg]at hc;injection hc with hc;injection hc with _ hc;exact h86 hc
 ·rw[hg]at hc;injection hc with hc;injection hc with _ hc;exact h90 hc
theorem VS.same3 {w0:W0}{W W':World}{gb:Nat}{h0 h1 vs vf:Value}{φ:Nat→Nat}{v:Value}{pl:List Pl}{sh:List (Nat × Sh)}(h:VS w0 W gb h0 h1 vs vf φ v pl sh)(hk:KeptV W W' gb v):Same3 W W':=
 fun k cells hc=>(h.keep hk hc (by decide) (by decide)).trans hc.symm
theorem ShS.keep {w0:W0}{W W':World}{b k:Nat}{s:Sh}(h:ShS w0 W b k s)(hs:Same3 W W')(hk:∀cs,W.heap[b]?=some (.cells cs 126 (0,0))→W'.heap[b]?=W.heap[b]?):ShS w0 W' b k s:=by
 obtain⟨v1,v2,hc,r1,r2⟩:=h.cells;exact⟨h.ge,v1,v2,(hk _ hc).trans hc,r1.same hs,r2.same hs⟩
theorem VS.below {w0:W0}{W W':World}{gb:Nat}{h0 h1 vs vf:Value}{φ:Nat→Nat}{v:Value}{pl:List Pl}{sh:List (Nat × Sh)}(h:VS w0 W gb h0 h1 vs vf φ v pl sh)(hb:Below W.heap.size W W'):VS w0 W' gb h0 h1 vs vf φ v pl sh:=by
 obtain⟨inner,ho,hr⟩:=h.row;exact⟨h.ge,Zaf h.blk hb,⟨inner,Zbx ho hb,hr.imp_ (fun _ _ hp=>hp.same (Same3.below hb))⟩,fun k s hk=>(h.shapes k s hk).keep (Same3.below hb) (fun cs hc=>hb.block _ (Zau hc)),Zae h.bel hb,fun k hk=>h.new k (Nat.le_trans hb.size hk)⟩
theorem KeptV.refl (W:World)(gb:Nat)(v:Value):KeptV W W gb v:=Kept.refl _ _
theorem KeptV.of_below {W W':World}(hb:Below W.heap.size W W')(gb:Nat)(v:Value):KeptV W W' gb v:=⟨hb.size,fun i hi _=>hb.block i hi⟩
theorem KeptV.trans {W W1 W2:World}{gb:Nat}{v v1:Value}(h:KeptV W W1 gb v)(k:KeptV W1 W2 gb v1)(hn:NewOr W v v1):KeptV W W2 gb v:=
 h.then_ k (fun i hi=>by
  rcases hi with hi | hi
  ·exact .inl (.inl hi)
  ·rcases hn with hn | ⟨b,hb,hle⟩
   ·exact .inl (.inr (by rw[←hn];exact hi))
   ·rw[hb]at hi;injection hi with hi;subst hi;exact .inr hle)
theorem NewOr.refl (W:World)(v:Value):NewOr W v v:=.inl rfl
theorem NewOr.trans {W W1:World}{v v1 v2:Value}(h:NewOr W v v1)(k:NewOr W1 v1 v2)(hs:W.heap.size≤W1.heap.size):NewOr W v v2:=by
 rcases k with k | ⟨b,hb,hle⟩
 ·rcases h with h | ⟨b,hb,hle⟩
  ·exact .inl (k.trans h)
  ·exact .inr ⟨b,k.trans hb,hle⟩
 ·exact .inr ⟨b,hb,Nat.le_trans hs hle⟩
theorem VS.put {w0:W0}{W W1:World}{gb:Nat}{h0 h1 vs vf:Value}{φ:Nat→Nat}{v v1:Value}{pl pl1:List Pl}{sh:List (Nat × Sh)}(h:VS w0 W gb h0 h1 vs vf φ v pl sh)
 (ho:OwnRow (PlS φ w0 W) 122 9 W1 w0.heap.size v1 pl1) (hb:Below w0.heap.size w0 W1) (hg:W.grownBy W1 v.ownBlock) :
 VS w0 (W1.setCell ⟨gb,2,none⟩ v1) gb h0 h1 vs vf φ v1 pl1 sh∧KeptV W (W1.setCell ⟨gb,2,none⟩ v1) gb v:=by
 obtain⟨inner0,ho0,_⟩:=h.row;have ng:some gb≠v.ownBlock:=Zch ho0 h.blk (by decide);have kg:=Zat h.blk hg ng;have hk:KeptV W (W1.setCell ⟨gb,2,none⟩ v1) gb v:=⟨by have:=hg.size;simpa[World.setCell]using this,fun i hi hn=>by
  rw[Below.heap_setCell W1 ⟨gb,2,none⟩ v1 i (fun he=>hn (.inl he))];exact hg.block i hi (fun he=>hn (.inr he.symm))⟩
 have hs:=h.same3 hk;obtain⟨inner,hown,hr⟩:=ho;refine⟨⟨h.ge,?_,⟨inner,Zgx hown (p:=⟨gb,2,none⟩) (Zch hown kg (by decide)) _,hr.imp_ (fun _ _ hp=>hp.same hs)⟩,fun k s hk'=>(h.shapes k s hk').keep hs (fun cs hc=>(h.keep hk hc (by decide) (by decide)).trans hc.symm),hb.setCell h.ge _,fun k hk'=>h.new k (Nat.le_trans hk.1 hk')⟩,hk⟩;rw[Zcd kg 2 v1]
 rfl
theorem Znp (a b c d:Int)(w:World):(Op.equalIn 10000 90 (.agg #[.int .i64 a,.int .i64 b]) (.agg #[.int .i64 c,.int .i64 d])).run Tryz.prog w=.ok (a==c&&b==d) w:=by
 have u3:=Tryz.underlying3;have a3:=Tryz.isAgg3;have z3:=Tryz.sizeOf3;have h:∀n:Nat,(Op.equalIn (n+2) 90 (.agg #[.int .i64 a,.int .i64 b]) (.agg #[.int .i64 c,.int .i64 d])).run Tryz.prog w=.ok (a==c&&b==d) w:=fun n=>by
  rw[Op.equalIn];simp[run_underlying Tryz.underlying90,List.range',go_sem];by_cases h1:a=c <;> by_cases h2:b=d <;> simp[h1,h2]
 exact h 9998
theorem guard53:Tryz.prog.eqGuardType Tryz.prog.depth 90=false:=by kernel_rfl
def rdP (l:List (Int × Int))(i:Nat):Int × Int:=l.getD i (0,0)
theorem OwnP.at {w:World}{base g n c:Nat}{l:List (Int × Int)}(h:OwnP w base (.slice (some ⟨g,0,none⟩) n c) l)(i:Nat)(hi:i<l.length) :
 w.cell? ⟨g,i*2,none⟩=some (.int .i64 (rdP l i).1)∧w.cell? ⟨g,i*2+1,none⟩=some (.int .i64 (rdP l i).2):=by
 obtain⟨g',cap,he,_,_,_,_,hH⟩:=Zgm h (by intro hh;cases hh);injection he with he _ _
 injection he with he
 injection he with he
 subst he;have e:rdP l i=l[i]:=by simp[rdP,List.getD_eq_getElem?_getD,List.getElem?_eq_getElem hi]
 obtain⟨g1,g2⟩:=Zis l i hi;rw[e];have hl:=Zbw l
 constructor
 ·have z:=(hH (i*2) (by simp;omega)).1;rw[Nat.zero_add,getElem!_pos _ _ (by simp;omega)]at z;rw[z];simp[List.getElem?_eq_getElem (show i*2<(Zbg l).length by omega)]at g1;simp[g1]
 ·have z:=(hH (i*2+1) (by simp;omega)).1;rw[Nat.zero_add,getElem!_pos _ _ (by simp;omega)]at z;rw[z];simp[List.getElem?_eq_getElem (show i*2+1<(Zbg l).length by omega)]at g2;simp[g2]
theorem info53:(Tryz.prog.info? 90).map (fun i=>(i.zero,i.size,i.bytes))=some (some (.agg #[.int .i64 0,.int .i64 0]),2,16):=by kernel_rfl
section
variable {ops:Array Oper}{rest:List Oper}{o:Oper}{a:Act}{Q:Exit→Act→World→Prop}
theorem appendP {w0 W:World}(base:Nat)(hgd:o.guard=none)(s x:Operand)(ho:o.op=.call { callee:=.builtin .append,args:=#[s,x],argTypes:=#[35,35] })(v:Value)(l:List (Int × Int))(p:Int × Int)(g:Nat)
 (hs:a.eval s=v) (hx:a.eval x=.slice (some ⟨g,0,none⟩) 1 1) (hg:g=W.heap.size) (HO:OwnP W base v l) (HB:Below base w0 W) (hbase:base≤W.heap.size) (hl:l.length≤1000000)
 (h:∀v1 w1,OwnP w1 base v1 (l++[p])→Below base w0 w1→W.grownBy w1 v.ownBlock→(v1.ownBlock=v.ownBlock∨∃b,v1.ownBlock=some b∧W.heap.size≤b)→wpList Tryz.prog ops Q rest (a.put o.dst v1) w1) :
 wpList Tryz.prog ops Q (o :: rest) a (W.alloc (.cells #[.int .i64 p.1,.int .i64 p.2] 90)):=by
 subst hg;refine Zcm (w0:=w0) base hgd s x 35 90 (.agg #[.int .i64 0,.int .i64 0]) 2 16 ho Tryz.underlying35 info53 rfl (by omega) (by omega) v l.length (Zbg l) (Zjd p) hs hx rfl (fun u hu=>by simp[Zjd]at hu;rcases hu with rfl | rfl <;> rfl) HO HB hbase (by omega) ?_
 intro v1 w1 h1 h2 h3 h4;refine h v1 w1 ?_ h2 h3 h4
 unfold OwnP;rw[List.length_append,List.length_singleton,show Zbg (l++[p])=Zbg l++Zjd p by simp[Zbg]];exact h1
theorem Zjj {w0 W:World}{K:Act→World→Prop}(base:Nat)(hw:Region.wanted o (yielded ops a.tmps)=true)(s x:Operand)(ho:o.op=.call { callee:=.builtin .append,args:=#[s,x],argTypes:=#[35,35] })(v:Value)(l:List (Int × Int))(p:Int × Int)(g:Nat)
 (hs:a.eval s=v) (hx:a.eval x=.slice (some ⟨g,0,none⟩) 1 1) (hg:g=W.heap.size) (HO:OwnP W base v l) (HB:Below base w0 W) (hbase:base≤W.heap.size) (hl:l.length≤1000000)
 (h:∀v1 w1,OwnP w1 base v1 (l++[p])→Below base w0 w1→W.grownBy w1 v.ownBlock→(v1.ownBlock=v.ownBlock∨∃b,v1.ownBlock=some b∧W.heap.size≤b)→K (a.put o.dst v1) w1) :
 if Region.wanted o (yielded ops a.tmps)=true then Oper.wp Tryz.prog o a (W.alloc (.cells #[.int .i64 p.1,.int .i64 p.2] 90)) K Q else K (a.put o.dst undef) (W.alloc (.cells #[.int .i64 p.1,.int .i64 p.2] 90)):=by
 subst hg;refine Zdj (w0:=w0) base hw s x 35 90 (.agg #[.int .i64 0,.int .i64 0]) 2 16 ho Tryz.underlying35 info53 rfl (by omega) (by omega) v l.length (Zbg l) (Zjd p) hs hx rfl (fun u hu=>by simp[Zjd]at hu;rcases hu with rfl | rfl <;> rfl) HO HB hbase (by omega) ?_
 intro v1 w1 h1 h2 h3 h4;refine h v1 w1 ?_ h2 h3 h4
 unfold OwnP;rw[List.length_append,List.length_singleton,show Zbg (l++[p])=Zbg l++Zjd p by simp[Zbg]];exact h1
end
def Zcq (G:S26)(i:Int):S52:=G.f1.getD i.toNat z52
def Zgs (r:S52)(i:Int):S79:=r.f2.getD i.toNat z79
structure Fits (G:S26)(M:Mach):Prop where
 rows:∀i:Int,0≤i→i<G.f1.length→i<M.steps.length∧(Zlk M i).length=(Zcq G i).f2.length
 calls:∀i j:Int,0≤i→i<G.f1.length→0≤j→j<(Zcq G i).f2.length→(Zgs (Zcq G i) j).f0.length≤100000
 short:∀i:Int,0≤i→i<G.f1.length→(Zcq G i).f2.length≤1000
structure Bx (w W:World)(b3 b5 b7 gb:Nat)(t:Int)(v:Value)(l:List (Int × Int)):Prop where
 c3:W.heap[b3]?=some (.cells #[.pointer (some ⟨gb,0,none⟩)] 78 (0,0))
 c5:W.heap[b5]?=some (.cells #[.int .i64 t] 3 (0,0))
 c7:W.heap[b7]?=some (.cells #[v] 35 (0,0))
 own:OwnP W w.heap.size v l
 bel:Below w.heap.size w W
 ge:w.heap.size≤b7
theorem Bx.below {w W W':World}{b3 b5 b7 gb:Nat}{t:Int}{v:Value}{l:List (Int × Int)}(h:Bx w W b3 b5 b7 gb t v l)(hb:Below W.heap.size W W'):Bx w W' b3 b5 b7 gb t v l:=
 ⟨Zaf h.c3 hb,Zaf h.c5 hb,Zaf h.c7 hb,h.own.below hb,Zae h.bel hb,h.ge⟩
theorem OwnP.lt {w:World}{base:Nat}{v:Value}{l:List (Int × Int)}(h:OwnP w base v l):∀k,v.ownBlock=some k→base≤k∧k<w.heap.size:=World.ownsRow.lt h
theorem Bx.put {w W W1:World}{b3 b5 b7 gb:Nat}{t:Int}{v v1:Value}{l l1:List (Int × Int)}(h:Bx w W b3 b5 b7 gb t v l)(ho:OwnP W1 w.heap.size v1 l1)(hb:Below w.heap.size w W1)(hg:W.grownBy W1 v.ownBlock) :
 Bx w (W1.setCell ⟨b7,0,none⟩ v1) b3 b5 b7 gb t v1 l1:=by
 have n3:some b3≠v.ownBlock:=Zch h.own h.c3 (by decide);have n5:some b5≠v.ownBlock:=Zch h.own h.c5 (by decide);have n7:some b7≠v.ownBlock:=Zch h.own h.c7 (by decide);have k3:=Zat h.c3 hg n3;have k5:=Zat h.c5 hg n5;have k7:=Zat h.c7 hg n7;refine⟨?_,?_,?_,?_,hb.setCell h.ge _,h.ge⟩
 ·exact Zdw k3 (p:=⟨b7,0,none⟩) (blk_ne k3 k7 (by decide)) _
 ·exact Zdw k5 (p:=⟨b7,0,none⟩) (blk_ne k5 k7 (by decide)) _
 ·rw[Zcd k7 0 v1];rfl
 ·exact Zgx ho (p:=⟨b7,0,none⟩) (Zch ho k7 (by decide)) _
theorem kept_put {W W1:World}{b7:Nat}{v:Value}(hg:W.grownBy W1 v.ownBlock)(u:Value):Kept W (W1.setCell ⟨b7,0,none⟩ u) (fun k=>k=b7∨v.ownBlock=some k):=
 ⟨by have:=hg.size;simpa[World.setCell]using this,fun i hi hn=>by
  rw[Below.heap_setCell W1 ⟨b7,0,none⟩ u i (fun he=>hn (.inl he))];exact hg.block i hi (fun he=>hn (.inr he.symm))⟩
def Zkw (G:S26)(M:Mach)(t rule step:Int):List (Int × Int):=
 if step<(Zcq G rule).f2.length∧Zdd G t (Zgs (Zcq G rule) step).f0=true then [((((Zlk M rule).getD step.toNat 0:Nat):Int),-1)]else []
set_option maxHeartbeats 4000000 in
theorem into_call (w W:World)(b3 b5 b7 gb:Nat)(t:Int)(v:Value)(l:List (Int × Int))(h:Bx w W b3 b5 b7 gb t v l)(G:S26)(M:Mach)(φ:Nat→Nat)(hv:VR w gb G M φ)(ok:M.Ok φ)(fit:Fits G M)(ht:t<G.f0.length)
 (rule step:Int) (r0:0≤rule) (r1:rule<G.f1.length) (s0:0≤step) (hl:l.length≤200000) :
 Calls Tryz.prog 130 #[.int .i64 rule,.int .i64 step,.pointer (some ⟨b3,0,none⟩),.pointer (some ⟨b5,0,none⟩),.pointer (some ⟨b7,0,none⟩)] W fun e w'=>e=.returned (.tuple #[])∧∃v',Bx w w' b3 b5 b7 gb t v' (l++Zkw G M t rule step)∧Kept W w' (fun k=>k=b7∨v.ownBlock=some k):=by
 have hvW:=hv.below h.bel;obtain⟨At,ct,Ar,cr,Ap,cp,As,cs,Af,cf,hc,_,_,_,hr,_,_,_,hst,_,_⟩:=hvW.cells;have q3:W.cell? ⟨b3,0,none⟩=some (.pointer (some ⟨gb,0,none⟩)):=(Zaa h.c3 0).trans rfl;have q5:W.cell? ⟨b5,0,none⟩=some (.int .i64 t):=(Zaa h.c5 0).trans rfl;have q7:W.cell? ⟨b7,0,none⟩=some v:=(Zaa h.c7 0).trans rfl;have g1:W.cell? ⟨gb,1,none⟩=some (.slice Ar G.f1.length cr):=(Zaa hc 1).trans rfl;obtain⟨ad,A2,c2,rfl,_,_,k2,lk2,hk2⟩:=at_T52 hr rule r0 r1;obtain⟨f1,f2⟩:=fit.rows rule r0 r1;have f3:=fit.short rule r0 r1;change W.cell? _=some (.slice A2 (Zcq G rule).f2.length c2)at k2;change k79.C W A2 (Zcq G rule).f2.length (Zcq G rule).f2 at hk2;have HB:=Zrw.mk h;unfold Zkw;by_cases e1:step<(Zcq G rule).f2.length
 rotate_left
 ·rw[if_neg (by omega),List.append_nil];have z:decide (step<((Zcq G rule).f2.length:Int))=false:=decide_eq_false e1;generalize (Zcq G rule).f2.length=n at k2 z;clear hk2 lk2 f1 f2 f3 hc hst hvW hv hr h q5 q7 e1
  go_enter Tryz.func130,Tryz.ntmps130
  go_wp2
  go_quiet (fail)
  go_wp2
  go_end0
  exact⟨rfl,v,HB.out.below (Zag Zbr _),Nat.le_refl _,fun _ _ _=>rfl⟩
 ·have z:decide (step<((Zcq G rule).f2.length:Int))=true:=decide_eq_true e1;obtain⟨bd,A0,c0,_,_,_,_,_,_,rfl,m0,_,_,_,_,lm0,hm0,_⟩:=at_T79 hk2 step s0 e1;change W.cell? _=some (.slice A0 (Zgs (Zcq G rule) step).f0.length c0)at m0;change (Zgs (Zcq G rule) step).f0.length≤c0 at lm0;change Kd.string.C W A0 (Zgs (Zcq G rule) step).f0.length (Zgs (Zcq G rule) step).f0 at hm0;have hcl:=fit.calls rule step r0 r1 s0 e1;have HN:=Zrw.mk (fun n=>Zgi (W.drewN n) gb G M φ (hvW.below (Zag Zbr n)) t ht A0 c0 (Zgs (Zcq G rule) step).f0 (Kd.C_drewN hm0 n) lm0 (by omega));obtain⟨sd,S0,sc,rfl,t0,_,hp0⟩:=at_St hst rule r0 f1;change W.cell? _=some (.slice S0 (Zlk M rule).length sc)at t0;change (Zgl φ).C W S0 (Zlk M rule).length (Zlk M rule)at hp0;have g3:W.cell? ⟨gb,3,none⟩=some (.slice (some sd) M.steps.length cs):=(Zaa hc 3).trans rfl;obtain⟨pd,rfl,hp1⟩:=at_Ptr hp0 step s0 (by omega);have hmem:(Zlk M rule).getD step.toNat 0∈M.steps.getD rule.toNat []:=by
   show (Zlk M rule).getD step.toNat 0∈Zlk M rule;rw[List.getD_eq_getElem?_getD,List.getElem?_eq_getElem (by omega)];exact List.getElem_mem _
  have hm:=ok.stepsIn rule.toNat _ hmem;obtain⟨B1,d1,B2,d2,hb,_⟩:=(hvW.shapes _ _ hm).cells;have s0':W.cell? ⟨φ ((Zlk M rule).getD step.toNat 0),0,none⟩=some (.int .i64 (((Zlk M rule).getD step.toNat 0:Nat):Int)):=(Zaa hb 0).trans rfl;have st1:step<((Zlk M rule).length:Int):=by omega
  clear hmem hm hb hp0 hst hm0 hk2 hc hvW hv hr;generalize (Zlk M rule).getD step.toNat 0=k at hp1 s0' ⊢;generalize Zdd G t (Zgs (Zcq G rule) step).f0=b at HN ⊢;generalize (Zgs (Zcq G rule) step).f0=nm at m0 lm0 hcl HN;generalize (Zlk M rule).length=sn at t0 f2 st1;cases b
  ·rw[if_neg (by simp),List.append_nil];generalize (Zcq G rule).f2.length=n at *;clear q7 hp1 s0' t0 g3 f3 lk2 f2 st1 hl lm0 hcl f1 h
   go_enter Tryz.func130,Tryz.ntmps130
   go_wp2
   go_quiet ((go_at_call 104;exact Calls.quiet_of ((HN.out _).mono (fun _ _ ⟨h,hd⟩=>⟨h,hd.out⟩))))
   go_wp2
   go_end0
   exact⟨rfl,v,HB.out.below (Zag Zbr _),Nat.le_refl _,fun _ _ _=>rfl⟩
  ·rw[if_pos ⟨e1,rfl⟩];generalize (Zcq G rule).f2.length=n at *;have HL:=Zrw.mk hl;clear f3 lk2 f2 hl lm0 hcl h
   go_enter Tryz.func130,Tryz.ntmps130
   go_wp2
   go_quiet ((go_at_call 104;exact Calls.quiet_of ((HN.out _).mono (fun _ _ ⟨h,hd⟩=>⟨h,hd.out⟩))))
   go_wp2_with fail
   have HBX:=Zrw.mk (HB.out.below (Zag Zbr (nq+1)));have hq7n:∀o,((W.drewN (nq+1)).alloc o).cell? ⟨b7,0,none⟩=some v:=fun o=>(Zaa (Zai HBX.out.c7 o) 0).trans rfl
   go_region_law (first | (refine Zjj (w0:=w) w.heap.size rfl (.tmp 31) (.tmp 46) rfl v l (((k:Nat):Int),-1) _ rfl rfl ?hg ?hO ?hB ?hS (by have:=HL.out;omega) ?_;(case hg=>simp);(case hO=>exact HBX.out.own);(case hB=>exact HBX.out.bel);(case hS=>exact HBX.out.bel.size);intro v7 w7 ho7 hb7 hg7 hat7;obtain⟨A7,c7,hv7,_⟩:=ho7.slice;rw[List.length_append,List.length_singleton]at hv7;subst hv7;have hf7:w7.frozen? ⟨b7,0,none⟩=false:=Zam (Zat HBX.out.c7 hg7 (Zch HBX.out.own HBX.out.c7 (by decide))) 0;have HO7:=Zrw.mk ho7;have HB7:=Zrw.mk hb7;have HG7:=Zrw.mk hg7;have hc7:=(Zaa (Zat HBX.out.c7 hg7 (Zch HBX.out.own HBX.out.c7 (by decide))) 0).trans rfl;clear ho7 hb7 hg7 hat7) | fail)
   all_goals (
    go_wp2
    go_end0
    exact⟨rfl,_,HBX.out.put HO7.out HB7.out HG7.out,kept_put (W:=W.drewN (nq+1)) HG7.out _⟩)
def posP (x:Int × Int):List (Int × Int)→Nat
 | []=>0
 | y :: r=>if ltP y x=true then posP x r+1 else 0
def insP (x:Int × Int)(l:List (Int × Int)):List (Int × Int):=if posP x l<l.length∧rdP l (posP x l)=x then l else l.take (posP x l)++[x]++l.drop (posP x l)
def insR (x:Int × Int):List (Int × Int)→List (Int × Int)
 | []=>[x]
 | y :: r=>if ltP y x=true then y :: insR x r else if y=x then y :: r else x :: y :: r
theorem Znm (x:Int × Int):∀l,insP x l=insR x l
 | []=>by unfold insP insR;rw[if_neg (by simp)];rfl
 | y :: r=>by
  have ih:=Znm x r;unfold insP at ih ⊢;unfold insR posP;by_cases h:ltP y x=true
  ·rw[if_pos h,if_pos h,←ih];by_cases h2:posP x r<r.length∧rdP r (posP x r)=x
   ·rw[if_pos h2,if_pos ⟨by simpa using h2.1,h2.2⟩]
   ·rw[if_neg h2,if_neg (fun h3=>h2 ⟨by simpa using h3.1,h3.2⟩)]
    rfl
  ·rw[if_neg h,if_neg h];by_cases h2:y=x
   ·rw[if_pos h2,if_pos ⟨by simp,h2⟩]
   ·rw[if_neg h2,if_neg (fun h3=>h2 h3.2)]
    rfl
theorem mem_insP (x z:Int × Int)(l:List (Int × Int)):z∈insP x l↔z=x∨z∈l:=by
 rw[Znm]
 induction l with
 | nil=>simp[insR]
 | cons y r ih=>
  unfold insR
  split
  ·rw[List.mem_cons,ih,List.mem_cons]
   constructor
   ·rintro (h | h | h)
    ·exact .inr (.inl h)
    ·exact .inl h
    ·exact .inr (.inr h)
   ·rintro (h | h | h)
    ·exact .inr (.inl h)
    ·exact .inl h
    ·exact .inr (.inr h)
  ·split
   ·rename_i h
    constructor
    ·exact .inr
    ·rintro (h1 | h1)
     ·rw[h1,h];exact List.mem_cons_self
     ·exact h1
   ·exact List.mem_cons
def Zrv (l:List (Int × Int)):Prop:=l.Pairwise (fun x y=>ltP x y=true)
theorem Zfv (x y:Int × Int):ltP x y=true↔(x.1<y.1∨(x.1=y.1∧x.2<y.2)):=by unfold ltP;simp
theorem Zpf {x y z:Int × Int}(h:ltP x y=true)(k:ltP y z=true):ltP x z=true:=by
 rw[Zfv]at *;omega
theorem ltP_tri {x y:Int × Int}(h:¬ltP y x=true)(k:y≠x):ltP x y=true:=by
 rw[Zfv]at *
 rcases Int.lt_trichotomy x.1 y.1 with h1 | h1 | h1
 ·exact .inl h1
 ·rcases Int.lt_trichotomy x.2 y.2 with h2 | h2 | h2
  ·exact .inr ⟨h1,h2⟩
  ·exact absurd (Prod.ext h1.symm h2.symm) k
  ·exact absurd (.inr ⟨h1.symm,h2⟩) h
 ·exact absurd (.inl h1) h
theorem Zim (x:Int × Int):¬ltP x x=true:=by rw[Zfv];omega
theorem ris_insP (x:Int × Int){l:List (Int × Int)}(h:Zrv l):Zrv (insP x l):=by
 have hm:=fun r z=>mem_insP x z r
 rw[Znm]
 induction l with
 | nil=>exact List.pairwise_singleton _ _
 | cons y r ih=>
  have h2:=List.pairwise_cons.1 h;unfold insR
  split
  ·rename_i hy
   refine List.pairwise_cons.2 ⟨fun z hz=>?_,ih h2.2⟩
   rcases (hm r z).1 (by rw[Znm];exact hz)with h3 | h3
   ·rw[h3];exact hy
   ·exact h2.1 z h3
  ·rename_i hy
   split
   ·exact h
   ·rename_i hne
    refine List.pairwise_cons.2 ⟨fun z hz=>?_,h⟩;have hxy:=ltP_tri hy hne
    rcases List.mem_cons.1 hz with h3 | h3
    ·rw[h3];exact hxy
    ·exact Zpf hxy (h2.1 z h3)
theorem ris_extP:∀(a b:List (Int × Int)),Zrv a→Zrv b→(∀x,x∈a↔x∈b)→a=b
 | [],[],_,_,_=>rfl
 | [],y :: b,_,_,h=>by have:=(h y).2 List.mem_cons_self;cases this
 | x :: a,[],_,_,h=>by have:=(h x).1 List.mem_cons_self;cases this
 | x :: a,y :: b,ha,hb,h=>by
  have ha':=List.pairwise_cons.1 ha;have hb':=List.pairwise_cons.1 hb;have hxy:x=y:=by
   rcases List.mem_cons.1 ((h x).1 List.mem_cons_self)with h1 | h1
   ·exact h1
   ·rcases List.mem_cons.1 ((h y).2 List.mem_cons_self)with h2 | h2
    ·exact h2.symm
    ·exact absurd (Zpf (hb'.1 x h1) (ha'.1 y h2)) (Zim _)
  subst hxy;rw[ris_extP a b ha'.2 hb'.2 (fun z=>⟨fun hz=>?_,fun hz=>?_⟩)]
  ·rcases List.mem_cons.1 ((h z).1 (List.mem_cons_of_mem _ hz))with h1 | h1
   ·exact absurd (by have h3:=ha'.1 z hz;rwa[h1]at h3) (Zim x)
   ·exact h1
  ·rcases List.mem_cons.1 ((h z).2 (List.mem_cons_of_mem _ hz))with h1 | h1
   ·exact absurd (by have h3:=hb'.1 z hz;rwa[h1]at h3) (Zim x)
   ·exact h1
end Go.Proofs.YtaokkliamoghbaaGreatDoor.PVpa
set_option linter.unusedVariables false
set_option linter.unusedSimpArgs false
namespace Go.Proofs.YtaokkliamoghbaaGreatDoor.PVpa
def Zcr:List (Int × Int)→List (Int × Int)
 | []=>[]
 | [x]=>[x]
 | x :: y :: l=>if x=y then Zcr (y :: l)else x :: Zcr (y :: l)
def normP (l:List (Int × Int)):List (Int × Int):=Zcr (sortP l)
theorem Zht:∀(l:List (Int × Int)) (z:Int × Int),z∈Zcr l↔z∈l
 | [],z=>Iff.rfl
 | [x],z=>Iff.rfl
 | x :: y :: l,z=>by
  unfold Zcr
  split
  ·rename_i h
   rw[Zht (y :: l) z,h];simp
  ·rw[List.mem_cons,Zht (y :: l) z,List.mem_cons,List.mem_cons,List.mem_cons]
def LeP (l:List (Int × Int)):Prop:=l.Pairwise (fun x y=>¬ltP y x=true)
theorem ltP_of {x y z:Int × Int}(h:ltP x y=true)(k:¬ltP z y=true):ltP x z=true:=by
 rw[Zfv]at *;omega
theorem Zkf:∀{l:List (Int × Int)},LeP l→Zrv (Zcr l)
 | [],_=>List.Pairwise.nil
 | [x],_=>List.pairwise_singleton _ _
 | x :: y :: l,h=>by
  have h2:=List.pairwise_cons.1 h;have h3:=List.pairwise_cons.1 h2.2;unfold Zcr
  split
  ·exact Zkf h2.2
  ·rename_i hne
   refine List.pairwise_cons.2 ⟨fun z hz=>?_,Zkf h2.2⟩;have hxy:ltP x y=true:=ltP_tri (h2.1 y List.mem_cons_self) (fun e=>hne e.symm)
   rcases List.mem_cons.1 ((Zht _ z).1 hz)with e | hz
   ·rw[e];exact hxy
   ·exact ltP_of hxy (h3.1 z hz)
theorem mem_sortP (l:List (Int × Int))(z:Int × Int):z∈sortP l↔z∈l:=List.mem_mergeSort
theorem le_sortP (l:List (Int × Int)):LeP (sortP l):=by
 have:=List.pairwise_mergeSort (le:=fun x y=>!ltP y x) (fun a b c h1 h2=>by
  simp only[Bool.not_eq_true',Bool.eq_false_iff,ne_eq,Zfv]at *;omega) (fun a b=>by
  simp only[Bool.or_eq_true,Bool.not_eq_true',Bool.eq_false_iff,ne_eq,Zfv];omega) l
 exact this.imp (fun h=>by simpa using h)
theorem Zkp (l:List (Int × Int))(z:Int × Int):z∈normP l↔z∈l:=by rw[normP,Zht,mem_sortP]
theorem Zop (l:List (Int × Int)):Zrv (normP l):=Zkf (le_sortP l)
theorem Zmg:∀(l o:List (Int × Int)) (z:Int × Int),z∈l.foldl (fun o x=>insP x o) o↔z∈l∨z∈o
 | [],o,z=>by simp
 | x :: l,o,z=>by
  rw[List.foldl_cons,Zmg l,mem_insP,List.mem_cons]
  constructor
  ·rintro (h | h | h)
   ·exact .inl (.inr h)
   ·exact .inl (.inl h)
   ·exact .inr h
  ·rintro ((h | h) | h)
   ·exact .inr (.inl h)
   ·exact .inl h
   ·exact .inr (.inr h)
theorem Zly:∀(l:List (Int × Int)) {o:List (Int × Int)},Zrv o→Zrv (l.foldl (fun o x=>insP x o) o)
 | [],o,h=>h
 | x :: l,o,h=>Zly l (ris_insP x h)
theorem normP_ins (l:List (Int × Int)):normP l=l.foldl (fun o x=>insP x o) []:=
 ris_extP _ _ (Zop l) (Zly l List.Pairwise.nil) (fun z=>by rw[Zkp,Zmg];simp)
end Go.Proofs.YtaokkliamoghbaaGreatDoor.PVpa
