/- Joined from texts of this seat, in their order. -/
import Derived.Test.YtaokkliamoghbaaGreatDoorProg
import Derived.Test.YtaokkliamoghbaaGreatDoorJAa
import Derived.Below
import Derived.Deep.Draws
import Derived.Deep.AppendLies
import Derived.Maps.AppendAt
import Derived.OwnWalk
import Derived.Laws.BytesArg
import Derived.Laws.MakeOwn
import Derived.Laws.OwnMore
import Derived.Deep.OwnRows
import Derived.Tactics
import Derived.Lib.ConvBytes
import Derived.Laws.Slices
import Derived.WalkKit
import Derived.KernelRfl
import Derived.RowKit3
import Derived.Deep.LoopGhost
import Derived.Deep.QuietTactic
import Derived.BigQuiet
import Derived.WideLaws
import Derived.Deep.DeepCutAuto
import Derived.Deep.CutBlock
import Derived.Deep.RegionHeld3
import Derived.Laws.Rows
import Derived.Lib.AppendStr
import Derived.ArgAppend
import Derived.Laws.IdiomCopy
import Derived.OrdersHeld
import Derived.Laws.BitsLemmas
import Derived.RowKit
set_option linter.unusedVariables false
set_option linter.unusedSimpArgs false
set_option linter.unusedSectionVars false
set_option maxRecDepth 100000
namespace Go.Proofs.YtaokkliamoghbaaGreatDoor.PVpa
open Go.RowKit Go.Proofs.YtaokkliamoghbaaGreatDoorW.PrintWords Go.Proofs.YtaokkliamoghbaaGreatDoorW.PrintLast Go.Proofs.YtaokkliamoghbaaGreatDoorW.PrintMore
set_option linter.unusedVariables false
set_option linter.unusedSimpArgs false
theorem info70:(Tryz.prog.info? 64).map (fun i=>(i.zero,i.size,i.bytes))=some (some (.agg #[(.string ⟨#[]⟩),(.int .i64 0),(.int .i64 0),(.int .i64 0),(.slice none 0 0),(.slice none 0 0)]),6,88):=by kernel_rfl
structure S72 where
 f0:Int
 f1:Int
def z72:S72:=⟨(0:Int),(0:Int)⟩
def k72:Kd S72:=Kd.iso (Kd.pair (Kd.int .i32) (Kd.int .i32)) (fun x:S72=>(x.f0,x.f1))
theorem k72_open {w:World}{x:S72}{cs:List Value}(h:k72.K w x cs):cs=[.int .i32 x.f0,.int .i32 x.f1]:=by
 obtain⟨_,_,rfl,rfl,rfl⟩:=h;exact rfl
theorem k72_mk (w:World)(x:S72) :k72.K w x [.int .i32 x.f0,.int .i32 x.f1]:=⟨[.int .i32 x.f0],[.int .i32 x.f1],rfl,rfl,rfl⟩
theorem k72_mkM (w:World)(base:Nat)(ok:Nat→Prop)(x:S72) :k72.M w base ok x [.int .i32 x.f0,.int .i32 x.f1]:=⟨[.int .i32 x.f0],[.int .i32 x.f1],rfl,rfl,rfl⟩
theorem Zre (W:World)(ok:Nat→Prop)(x:S72):Kd.FK k72 W ok x [.int .i32 x.f0,.int .i32 x.f1]:=fun W2 _=>k72_mk W2 x
def rd_T72 (xs:List S72)(i:Int):S72:=xs.getD i.toNat z72
theorem at_T72 {w:World}{A:Option Addr}{n:Nat}{xs:List S72}(h:Kd.C k72 w A n xs)(i:Int)(h0:0≤i)(h1:i<n):∃ad ,A=some ad∧w.cell? (ad.add (i.toNat*2))=some (.int .i32 (rd_T72 xs i).f0)∧w.cell? ⟨(ad.add (i.toNat*2)).block,(ad.add (i.toNat*2)).off+1,none⟩=some (.int .i32 (rd_T72 xs i).f1):=by
 obtain⟨ad,c,e,_,hK,hc0⟩:=Kd.C_get h z72 i h0 h1;have hc:∀j u,c[j]?=some u→w.cell? (ad.add (i.toNat*2+j))=some u:=hc0;obtain rfl:=k72_open hK;exact⟨ad,e,hc 0 _ rfl,by rw[←Zaz _ _ 1 (by omega)];exact hc 1 _ rfl⟩
structure S67 where
 f0:Int
 f1:(List S72)
 f2:(List S67)
def z67:S67:=⟨(0:Int),([]:List S72),([]:List S67)⟩
def F67 (d:Kd S67):Kd S67:=Kd.iso (Kd.pair (Kd.int .i64) (Kd.pair (Kd.slice 66 k72) (Kd.slice 61 d))) (fun x:S67=>(x.f0,x.f1,x.f2))
theorem mono67:Kd.Mono F67:=Kd.mono_iso _ (Kd.mono_pair (Kd.mono_const _) (Kd.mono_pair (Kd.mono_const _) (Kd.mono_slice 61 Kd.mono_id)))
theorem sub67:Kd.Sub F67 [61,66]:=Kd.sub_iso _ (Kd.sub_pair (Kd.sub_const _ (by decide)) (Kd.sub_pair (Kd.sub_const _ (by decide)) (Kd.sub_slice 61 (by decide) Kd.sub_id)))
theorem sz67:∀n,(Kd.upto F67 3 [61,66] n).sz=3:=Kd.upto_sz (fun _=>rfl)
def k67:Kd S67:=Kd.fix F67 3 [61,66] sz67 (Kd.upto_E sub67)
theorem k67_open {w:World}{x:S67}{cs:List Value}(h:k67.K w x cs):∃A1 c1 A2 c2,cs=[.int .i64 x.f0,.slice A1 x.f1.length c1,.slice A2 x.f2.length c2]∧x.f1.length≤c1∧k72.C w A1 x.f1.length x.f1∧x.f2.length≤c2∧k67.C w A2 x.f2.length x.f2:=by
 obtain⟨n,h⟩:=h;cases n with
 | zero=>exact h.elim
 | succ n=>
  obtain⟨_,_,rfl,rfl,⟨_,_,rfl,⟨A1,c1,rfl,l1,g1⟩,⟨A2,c2,rfl,l2,g2⟩⟩⟩:=h;exact⟨A1,c1,A2,c2,rfl,l1,g1,l2,Kd.fix_C g2⟩
theorem k67_mk (w:World)(x:S67){A1:Option Addr}{c1:Nat}(l1:x.f1.length≤c1)(g1:k72.C w A1 x.f1.length x.f1){A2:Option Addr}{c2:Nat}(l2:x.f2.length≤c2)(g2:k67.C w A2 x.f2.length x.f2):k67.K w x [.int .i64 x.f0,.slice A1 x.f1.length c1,.slice A2 x.f2.length c2]:=by
 obtain⟨n2,q2⟩:=Kd.fix_C_back mono67 g2;have r2:=Kd.upto_C_le mono67 sz67 (show n2≤n2 by omega) q2;exact⟨n2+1,⟨[.int .i64 x.f0],[.slice A1 x.f1.length c1,.slice A2 x.f2.length c2],rfl,rfl,⟨[.slice A1 x.f1.length c1],[.slice A2 x.f2.length c2],rfl,⟨A1,c1,rfl,l1,g1⟩,⟨A2,c2,rfl,l2,r2⟩⟩⟩⟩
theorem k67_mkF (W:World)(ok:Nat→Prop)(x:S67){A1:Option Addr}{c1:Nat}(l1:x.f1.length≤c1)(g1:Kd.F k72 W ok A1 x.f1.length x.f1){A2:Option Addr}{c2:Nat}(l2:x.f2.length≤c2)(g2:Kd.F k67 W ok A2 x.f2.length x.f2):Kd.FK k67 W ok x [.int .i64 x.f0,.slice A1 x.f1.length c1,.slice A2 x.f2.length c2]:=fun W2 hW=>k67_mk W2 x l1 (g1 W2 hW) l2 (g2 W2 hW)
def Zhl (xs:List S67)(i:Int):S67:=xs.getD i.toNat z67
theorem at_T67 {w:World}{A:Option Addr}{n:Nat}{xs:List S67}(h:Kd.C k67 w A n xs)(i:Int)(h0:0≤i)(h1:i<n):∃ad A1 c1 A2 c2,A=some ad∧w.cell? (ad.add (i.toNat*3))=some (.int .i64 (Zhl xs i).f0)∧w.cell? ⟨(ad.add (i.toNat*3)).block,(ad.add (i.toNat*3)).off+1,none⟩=some (.slice A1 (Zhl xs i).f1.length c1)∧w.cell? ⟨(ad.add (i.toNat*3)).block,(ad.add (i.toNat*3)).off+2,none⟩=some (.slice A2 (Zhl xs i).f2.length c2)∧(Zhl xs i).f1.length≤c1∧k72.C w A1 (Zhl xs i).f1.length (Zhl xs i).f1∧(Zhl xs i).f2.length≤c2∧k67.C w A2 (Zhl xs i).f2.length (Zhl xs i).f2:=by
 obtain⟨ad,c,e,_,hK,hc0⟩:=Kd.C_get h z67 i h0 h1;have hc:∀j u,c[j]?=some u→w.cell? (ad.add (i.toNat*3+j))=some u:=hc0;obtain⟨A1,c1,A2,c2,rfl,l1,g1,l2,g2⟩:=k67_open hK;exact⟨ad,A1,c1,A2,c2,e,hc 0 _ rfl,by rw[←Zaz _ _ 1 (by omega)];exact hc 1 _ rfl,by rw[←Zaz _ _ 2 (by omega)];exact hc 2 _ rfl,l1,g1,l2,g2⟩
structure S76 where
 f0:Int
 f1:(List ByteArray)
 f2:(List ByteArray)
 f3:(List S76)
def z76:S76:=⟨(0:Int),([]:List ByteArray),([]:List ByteArray),([]:List S76)⟩
def F76 (d:Kd S76):Kd S76:=Kd.iso (Kd.pair (Kd.int .i64) (Kd.pair (Kd.slice 9 Kd.string) (Kd.pair (Kd.slice 9 Kd.string) (Kd.slice 73 d)))) (fun x:S76=>(x.f0,x.f1,x.f2,x.f3))
theorem mono76:Kd.Mono F76:=Kd.mono_iso _ (Kd.mono_pair (Kd.mono_const _) (Kd.mono_pair (Kd.mono_const _) (Kd.mono_pair (Kd.mono_const _) (Kd.mono_slice 73 Kd.mono_id))))
theorem sub76:Kd.Sub F76 [9,73]:=Kd.sub_iso _ (Kd.sub_pair (Kd.sub_const _ (by decide)) (Kd.sub_pair (Kd.sub_const _ (by decide)) (Kd.sub_pair (Kd.sub_const _ (by decide)) (Kd.sub_slice 73 (by decide) Kd.sub_id))))
theorem sz76:∀n,(Kd.upto F76 4 [9,73] n).sz=4:=Kd.upto_sz (fun _=>rfl)
def k76:Kd S76:=Kd.fix F76 4 [9,73] sz76 (Kd.upto_E sub76)
theorem Zbj {w:World}{x:S76}{cs:List Value}(h:k76.K w x cs):∃A1 c1 A2 c2 A3 c3,cs=[.int .i64 x.f0,.slice A1 x.f1.length c1,.slice A2 x.f2.length c2,.slice A3 x.f3.length c3]∧x.f1.length≤c1∧Kd.string.C w A1 x.f1.length x.f1∧x.f2.length≤c2∧Kd.string.C w A2 x.f2.length x.f2∧x.f3.length≤c3∧k76.C w A3 x.f3.length x.f3:=by
 obtain⟨n,h⟩:=h;cases n with
 | zero=>exact h.elim
 | succ n=>
  obtain⟨_,_,rfl,rfl,⟨_,_,rfl,⟨A1,c1,rfl,l1,g1⟩,⟨_,_,rfl,⟨A2,c2,rfl,l2,g2⟩,⟨A3,c3,rfl,l3,g3⟩⟩⟩⟩:=h;exact⟨A1,c1,A2,c2,A3,c3,rfl,l1,g1,l2,g2,l3,Kd.fix_C g3⟩
theorem k76_mk (w:World)(x:S76){A1:Option Addr}{c1:Nat}(l1:x.f1.length≤c1)(g1:Kd.string.C w A1 x.f1.length x.f1){A2:Option Addr}{c2:Nat}(l2:x.f2.length≤c2)(g2:Kd.string.C w A2 x.f2.length x.f2){A3:Option Addr}{c3:Nat}(l3:x.f3.length≤c3)(g3:k76.C w A3 x.f3.length x.f3):k76.K w x [.int .i64 x.f0,.slice A1 x.f1.length c1,.slice A2 x.f2.length c2,.slice A3 x.f3.length c3]:=by
 obtain⟨n3,q3⟩:=Kd.fix_C_back mono76 g3;have r3:=Kd.upto_C_le mono76 sz76 (show n3≤n3 by omega) q3;exact⟨n3+1,⟨[.int .i64 x.f0],[.slice A1 x.f1.length c1,.slice A2 x.f2.length c2,.slice A3 x.f3.length c3],rfl,rfl,⟨[.slice A1 x.f1.length c1],[.slice A2 x.f2.length c2,.slice A3 x.f3.length c3],rfl,⟨A1,c1,rfl,l1,g1⟩,⟨[.slice A2 x.f2.length c2],[.slice A3 x.f3.length c3],rfl,⟨A2,c2,rfl,l2,g2⟩,⟨A3,c3,rfl,l3,r3⟩⟩⟩⟩⟩
theorem k76_openF {W:World}{ok:Nat→Prop}{x:S76}{cs:List Value}(h:Kd.FK k76 W ok x cs):∃A1 c1 A2 c2 A3 c3,cs=[.int .i64 x.f0,.slice A1 x.f1.length c1,.slice A2 x.f2.length c2,.slice A3 x.f3.length c3]∧x.f1.length≤c1∧Kd.F Kd.string W ok A1 x.f1.length x.f1∧x.f2.length≤c2∧Kd.F Kd.string W ok A2 x.f2.length x.f2∧x.f3.length≤c3∧Kd.F k76 W ok A3 x.f3.length x.f3:=by
 obtain⟨A1,c1,A2,c2,A3,c3,rfl,l1,_,l2,_,l3,_⟩:=Zbj (Kd.FK_now h);exact⟨A1,c1,A2,c2,A3,c3,rfl,l1,(fun W' hW=>by obtain⟨A1_,c1_,A2_,c2_,A3_,c3_,he,l1_,g1_,l2_,g2_,l3_,g3_⟩:=Zbj (h W' hW);injection (Option.some.inj (show some (Value.slice A1 x.f1.length c1)=some (Value.slice A1_ x.f1.length c1_)from congrArg (fun l=>l[1]?) he))with ha_ _ _;rw[ha_];exact g1_),l2,(fun W' hW=>by obtain⟨A1_,c1_,A2_,c2_,A3_,c3_,he,l1_,g1_,l2_,g2_,l3_,g3_⟩:=Zbj (h W' hW);injection (Option.some.inj (show some (Value.slice A2 x.f2.length c2)=some (Value.slice A2_ x.f2.length c2_)from congrArg (fun l=>l[2]?) he))with ha_ _ _;rw[ha_];exact g2_),l3,(fun W' hW=>by obtain⟨A1_,c1_,A2_,c2_,A3_,c3_,he,l1_,g1_,l2_,g2_,l3_,g3_⟩:=Zbj (h W' hW);injection (Option.some.inj (show some (Value.slice A3 x.f3.length c3)=some (Value.slice A3_ x.f3.length c3_)from congrArg (fun l=>l[3]?) he))with ha_ _ _;rw[ha_];exact g3_)⟩
theorem Zku (W:World)(ok:Nat→Prop)(x:S76){A1:Option Addr}{c1:Nat}(l1:x.f1.length≤c1)(g1:Kd.F Kd.string W ok A1 x.f1.length x.f1){A2:Option Addr}{c2:Nat}(l2:x.f2.length≤c2)(g2:Kd.F Kd.string W ok A2 x.f2.length x.f2){A3:Option Addr}{c3:Nat}(l3:x.f3.length≤c3)(g3:Kd.F k76 W ok A3 x.f3.length x.f3):Kd.FK k76 W ok x [.int .i64 x.f0,.slice A1 x.f1.length c1,.slice A2 x.f2.length c2,.slice A3 x.f3.length c3]:=fun W2 hW=>k76_mk W2 x l1 (g1 W2 hW) l2 (g2 W2 hW) l3 (g3 W2 hW)
def Zak (xs:List S76)(i:Int):S76:=xs.getD i.toNat z76
theorem at_T76 {w:World}{A:Option Addr}{n:Nat}{xs:List S76}(h:Kd.C k76 w A n xs)(i:Int)(h0:0≤i)(h1:i<n):∃ad A1 c1 A2 c2 A3 c3,A=some ad∧w.cell? (ad.add (i.toNat*4))=some (.int .i64 (Zak xs i).f0)∧w.cell? ⟨(ad.add (i.toNat*4)).block,(ad.add (i.toNat*4)).off+1,none⟩=some (.slice A1 (Zak xs i).f1.length c1)∧w.cell? ⟨(ad.add (i.toNat*4)).block,(ad.add (i.toNat*4)).off+2,none⟩=some (.slice A2 (Zak xs i).f2.length c2)∧w.cell? ⟨(ad.add (i.toNat*4)).block,(ad.add (i.toNat*4)).off+3,none⟩=some (.slice A3 (Zak xs i).f3.length c3)∧(Zak xs i).f1.length≤c1∧Kd.string.C w A1 (Zak xs i).f1.length (Zak xs i).f1∧(Zak xs i).f2.length≤c2∧Kd.string.C w A2 (Zak xs i).f2.length (Zak xs i).f2∧(Zak xs i).f3.length≤c3∧k76.C w A3 (Zak xs i).f3.length (Zak xs i).f3:=by
 obtain⟨ad,c,e,_,hK,hc0⟩:=Kd.C_get h z76 i h0 h1;have hc:∀j u,c[j]?=some u→w.cell? (ad.add (i.toNat*4+j))=some u:=hc0;obtain⟨A1,c1,A2,c2,A3,c3,rfl,l1,g1,l2,g2,l3,g3⟩:=Zbj hK;exact⟨ad,A1,c1,A2,c2,A3,c3,e,hc 0 _ rfl,by rw[←Zaz _ _ 1 (by omega)];exact hc 1 _ rfl,by rw[←Zaz _ _ 2 (by omega)];exact hc 2 _ rfl,by rw[←Zaz _ _ 3 (by omega)];exact hc 3 _ rfl,l1,g1,l2,g2,l3,g3⟩
structure S70 where
 f0:ByteArray
 f1:Int
 f2:Int
 f3:S67
def z70:S70:=⟨(⟨#[]⟩:ByteArray),(0:Int),(0:Int),z67⟩
def k70:Kd S70:=Kd.iso (Kd.pair Kd.string (Kd.pair (Kd.int .i64) (Kd.pair (Kd.int .i64) k67))) (fun x:S70=>(x.f0,x.f1,x.f2,x.f3))
theorem k70_open {w:World}{x:S70}{cs:List Value}(h:k70.K w x cs):∃A4 c4 A5 c5,cs=[.string x.f0,.int .i64 x.f1,.int .i64 x.f2,.int .i64 x.f3.f0,.slice A4 x.f3.f1.length c4,.slice A5 x.f3.f2.length c5]∧x.f3.f1.length≤c4∧k72.C w A4 x.f3.f1.length x.f3.f1∧x.f3.f2.length≤c5∧k67.C w A5 x.f3.f2.length x.f3.f2:=by
 obtain⟨_,_,rfl,rfl,⟨_,_,rfl,rfl,⟨_,_,rfl,rfl,s3⟩⟩⟩:=h;obtain⟨A4,c4,A5,c5,rfl,l4,g4,l5,g5⟩:=k67_open s3;exact⟨A4,c4,A5,c5,rfl,l4,g4,l5,g5⟩
theorem k70_mk (w:World)(x:S70){A4:Option Addr}{c4:Nat}(l4:x.f3.f1.length≤c4)(g4:k72.C w A4 x.f3.f1.length x.f3.f1){A5:Option Addr}{c5:Nat}(l5:x.f3.f2.length≤c5)(g5:k67.C w A5 x.f3.f2.length x.f3.f2):k70.K w x [.string x.f0,.int .i64 x.f1,.int .i64 x.f2,.int .i64 x.f3.f0,.slice A4 x.f3.f1.length c4,.slice A5 x.f3.f2.length c5]:=⟨[.string x.f0],[.int .i64 x.f1,.int .i64 x.f2,.int .i64 x.f3.f0,.slice A4 x.f3.f1.length c4,.slice A5 x.f3.f2.length c5],rfl,rfl,⟨[.int .i64 x.f1],[.int .i64 x.f2,.int .i64 x.f3.f0,.slice A4 x.f3.f1.length c4,.slice A5 x.f3.f2.length c5],rfl,rfl,⟨[.int .i64 x.f2],[.int .i64 x.f3.f0,.slice A4 x.f3.f1.length c4,.slice A5 x.f3.f2.length c5],rfl,rfl,(k67_mk w x.f3 l4 g4 l5 g5)⟩⟩⟩
theorem Zio (W:World)(ok:Nat→Prop)(x:S70){A4:Option Addr}{c4:Nat}(l4:x.f3.f1.length≤c4)(g4:Kd.F k72 W ok A4 x.f3.f1.length x.f3.f1){A5:Option Addr}{c5:Nat}(l5:x.f3.f2.length≤c5)(g5:Kd.F k67 W ok A5 x.f3.f2.length x.f3.f2):Kd.FK k70 W ok x [.string x.f0,.int .i64 x.f1,.int .i64 x.f2,.int .i64 x.f3.f0,.slice A4 x.f3.f1.length c4,.slice A5 x.f3.f2.length c5]:=fun W2 hW=>k70_mk W2 x l4 (g4 W2 hW) l5 (g5 W2 hW)
def Zev (xs:List S70)(i:Int):S70:=xs.getD i.toNat z70
theorem Zji {w:World}{A:Option Addr}{n:Nat}{xs:List S70}(h:Kd.C k70 w A n xs)(i:Int)(h0:0≤i)(h1:i<n):∃ad A4 c4 A5 c5,A=some ad∧w.cell? (ad.add (i.toNat*6))=some (.string (Zev xs i).f0)∧w.cell? ⟨(ad.add (i.toNat*6)).block,(ad.add (i.toNat*6)).off+1,none⟩=some (.int .i64 (Zev xs i).f1)∧w.cell? ⟨(ad.add (i.toNat*6)).block,(ad.add (i.toNat*6)).off+2,none⟩=some (.int .i64 (Zev xs i).f2)∧w.cell? ⟨(ad.add (i.toNat*6)).block,(ad.add (i.toNat*6)).off+3,none⟩=some (.int .i64 (Zev xs i).f3.f0)∧w.cell? ⟨(ad.add (i.toNat*6)).block,(ad.add (i.toNat*6)).off+4,none⟩=some (.slice A4 (Zev xs i).f3.f1.length c4)∧w.cell? ⟨(ad.add (i.toNat*6)).block,(ad.add (i.toNat*6)).off+5,none⟩=some (.slice A5 (Zev xs i).f3.f2.length c5)∧(Zev xs i).f3.f1.length≤c4∧k72.C w A4 (Zev xs i).f3.f1.length (Zev xs i).f3.f1∧(Zev xs i).f3.f2.length≤c5∧k67.C w A5 (Zev xs i).f3.f2.length (Zev xs i).f3.f2:=by
 obtain⟨ad,c,e,_,hK,hc0⟩:=Kd.C_get h z70 i h0 h1;have hc:∀j u,c[j]?=some u→w.cell? (ad.add (i.toNat*6+j))=some u:=hc0;obtain⟨A4,c4,A5,c5,rfl,l4,g4,l5,g5⟩:=k70_open hK;exact⟨ad,A4,c4,A5,c5,e,hc 0 _ rfl,by rw[←Zaz _ _ 1 (by omega)];exact hc 1 _ rfl,by rw[←Zaz _ _ 2 (by omega)];exact hc 2 _ rfl,by rw[←Zaz _ _ 3 (by omega)];exact hc 3 _ rfl,by rw[←Zaz _ _ 4 (by omega)];exact hc 4 _ rfl,by rw[←Zaz _ _ 5 (by omega)];exact hc 5 _ rfl,l4,g4,l5,g5⟩
structure S79 where
 f0:(List ByteArray)
 f1:S76
def z79:S79:=⟨([]:List ByteArray),z76⟩
def k79:Kd S79:=Kd.iso (Kd.pair (Kd.slice 9 Kd.string) k76) (fun x:S79=>(x.f0,x.f1))
theorem Zcv {w:World}{x:S79}{cs:List Value}(h:k79.K w x cs):∃A0 c0 A2 c2 A3 c3 A4 c4,cs=[.slice A0 x.f0.length c0,.int .i64 x.f1.f0,.slice A2 x.f1.f1.length c2,.slice A3 x.f1.f2.length c3,.slice A4 x.f1.f3.length c4]∧x.f0.length≤c0∧Kd.string.C w A0 x.f0.length x.f0∧x.f1.f1.length≤c2∧Kd.string.C w A2 x.f1.f1.length x.f1.f1∧x.f1.f2.length≤c3∧Kd.string.C w A3 x.f1.f2.length x.f1.f2∧x.f1.f3.length≤c4∧k76.C w A4 x.f1.f3.length x.f1.f3:=by
 obtain⟨_,_,rfl,⟨A0,c0,rfl,l0,g0⟩,s1⟩:=h;obtain⟨A2,c2,A3,c3,A4,c4,rfl,l2,g2,l3,g3,l4,g4⟩:=Zbj s1;exact⟨A0,c0,A2,c2,A3,c3,A4,c4,rfl,l0,g0,l2,g2,l3,g3,l4,g4⟩
theorem k79_mk (w:World)(x:S79){A0:Option Addr}{c0:Nat}(l0:x.f0.length≤c0)(g0:Kd.string.C w A0 x.f0.length x.f0){A2:Option Addr}{c2:Nat}(l2:x.f1.f1.length≤c2)(g2:Kd.string.C w A2 x.f1.f1.length x.f1.f1){A3:Option Addr}{c3:Nat}(l3:x.f1.f2.length≤c3)(g3:Kd.string.C w A3 x.f1.f2.length x.f1.f2){A4:Option Addr}{c4:Nat}(l4:x.f1.f3.length≤c4)(g4:k76.C w A4 x.f1.f3.length x.f1.f3):k79.K w x [.slice A0 x.f0.length c0,.int .i64 x.f1.f0,.slice A2 x.f1.f1.length c2,.slice A3 x.f1.f2.length c3,.slice A4 x.f1.f3.length c4]:=⟨[.slice A0 x.f0.length c0],[.int .i64 x.f1.f0,.slice A2 x.f1.f1.length c2,.slice A3 x.f1.f2.length c3,.slice A4 x.f1.f3.length c4],rfl,⟨A0,c0,rfl,l0,g0⟩,(k76_mk w x.f1 l2 g2 l3 g3 l4 g4)⟩
theorem k79_openF {W:World}{ok:Nat→Prop}{x:S79}{cs:List Value}(h:Kd.FK k79 W ok x cs):∃A0 c0 A2 c2 A3 c3 A4 c4,cs=[.slice A0 x.f0.length c0,.int .i64 x.f1.f0,.slice A2 x.f1.f1.length c2,.slice A3 x.f1.f2.length c3,.slice A4 x.f1.f3.length c4]∧x.f0.length≤c0∧Kd.F Kd.string W ok A0 x.f0.length x.f0∧x.f1.f1.length≤c2∧Kd.F Kd.string W ok A2 x.f1.f1.length x.f1.f1∧x.f1.f2.length≤c3∧Kd.F Kd.string W ok A3 x.f1.f2.length x.f1.f2∧x.f1.f3.length≤c4∧Kd.F k76 W ok A4 x.f1.f3.length x.f1.f3:=by
 obtain⟨A0,c0,A2,c2,A3,c3,A4,c4,rfl,l0,_,l2,_,l3,_,l4,_⟩:=Zcv (Kd.FK_now h);exact⟨A0,c0,A2,c2,A3,c3,A4,c4,rfl,l0,(fun W' hW=>by obtain⟨A0_,c0_,A2_,c2_,A3_,c3_,A4_,c4_,he,l0_,g0_,l2_,g2_,l3_,g3_,l4_,g4_⟩:=Zcv (h W' hW);injection (Option.some.inj (show some (Value.slice A0 x.f0.length c0)=some (Value.slice A0_ x.f0.length c0_)from congrArg (fun l=>l[0]?) he))with ha_ _ _;rw[ha_];exact g0_),l2,(fun W' hW=>by obtain⟨A0_,c0_,A2_,c2_,A3_,c3_,A4_,c4_,he,l0_,g0_,l2_,g2_,l3_,g3_,l4_,g4_⟩:=Zcv (h W' hW);injection (Option.some.inj (show some (Value.slice A2 x.f1.f1.length c2)=some (Value.slice A2_ x.f1.f1.length c2_)from congrArg (fun l=>l[2]?) he))with ha_ _ _;rw[ha_];exact g2_),l3,(fun W' hW=>by obtain⟨A0_,c0_,A2_,c2_,A3_,c3_,A4_,c4_,he,l0_,g0_,l2_,g2_,l3_,g3_,l4_,g4_⟩:=Zcv (h W' hW);injection (Option.some.inj (show some (Value.slice A3 x.f1.f2.length c3)=some (Value.slice A3_ x.f1.f2.length c3_)from congrArg (fun l=>l[3]?) he))with ha_ _ _;rw[ha_];exact g3_),l4,(fun W' hW=>by obtain⟨A0_,c0_,A2_,c2_,A3_,c3_,A4_,c4_,he,l0_,g0_,l2_,g2_,l3_,g3_,l4_,g4_⟩:=Zcv (h W' hW);injection (Option.some.inj (show some (Value.slice A4 x.f1.f3.length c4)=some (Value.slice A4_ x.f1.f3.length c4_)from congrArg (fun l=>l[4]?) he))with ha_ _ _;rw[ha_];exact g4_)⟩
theorem Znj (W:World)(ok:Nat→Prop)(x:S79){A0:Option Addr}{c0:Nat}(l0:x.f0.length≤c0)(g0:Kd.F Kd.string W ok A0 x.f0.length x.f0){A2:Option Addr}{c2:Nat}(l2:x.f1.f1.length≤c2)(g2:Kd.F Kd.string W ok A2 x.f1.f1.length x.f1.f1){A3:Option Addr}{c3:Nat}(l3:x.f1.f2.length≤c3)(g3:Kd.F Kd.string W ok A3 x.f1.f2.length x.f1.f2){A4:Option Addr}{c4:Nat}(l4:x.f1.f3.length≤c4)(g4:Kd.F k76 W ok A4 x.f1.f3.length x.f1.f3):Kd.FK k79 W ok x [.slice A0 x.f0.length c0,.int .i64 x.f1.f0,.slice A2 x.f1.f1.length c2,.slice A3 x.f1.f2.length c3,.slice A4 x.f1.f3.length c4]:=fun W2 hW=>k79_mk W2 x l0 (g0 W2 hW) l2 (g2 W2 hW) l3 (g3 W2 hW) l4 (g4 W2 hW)
def Zct (xs:List S79)(i:Int):S79:=xs.getD i.toNat z79
theorem at_T79 {w:World}{A:Option Addr}{n:Nat}{xs:List S79}(h:Kd.C k79 w A n xs)(i:Int)(h0:0≤i)(h1:i<n):∃ad A0 c0 A2 c2 A3 c3 A4 c4,A=some ad∧w.cell? (ad.add (i.toNat*5))=some (.slice A0 (Zct xs i).f0.length c0)∧w.cell? ⟨(ad.add (i.toNat*5)).block,(ad.add (i.toNat*5)).off+1,none⟩=some (.int .i64 (Zct xs i).f1.f0)∧w.cell? ⟨(ad.add (i.toNat*5)).block,(ad.add (i.toNat*5)).off+2,none⟩=some (.slice A2 (Zct xs i).f1.f1.length c2)∧w.cell? ⟨(ad.add (i.toNat*5)).block,(ad.add (i.toNat*5)).off+3,none⟩=some (.slice A3 (Zct xs i).f1.f2.length c3)∧w.cell? ⟨(ad.add (i.toNat*5)).block,(ad.add (i.toNat*5)).off+4,none⟩=some (.slice A4 (Zct xs i).f1.f3.length c4)∧(Zct xs i).f0.length≤c0∧Kd.string.C w A0 (Zct xs i).f0.length (Zct xs i).f0∧(Zct xs i).f1.f1.length≤c2∧Kd.string.C w A2 (Zct xs i).f1.f1.length (Zct xs i).f1.f1∧(Zct xs i).f1.f2.length≤c3∧Kd.string.C w A3 (Zct xs i).f1.f2.length (Zct xs i).f1.f2∧(Zct xs i).f1.f3.length≤c4∧k76.C w A4 (Zct xs i).f1.f3.length (Zct xs i).f1.f3:=by
 obtain⟨ad,c,e,_,hK,hc0⟩:=Kd.C_get h z79 i h0 h1;have hc:∀j u,c[j]?=some u→w.cell? (ad.add (i.toNat*5+j))=some u:=hc0;obtain⟨A0,c0,A2,c2,A3,c3,A4,c4,rfl,l0,g0,l2,g2,l3,g3,l4,g4⟩:=Zcv hK;exact⟨ad,A0,c0,A2,c2,A3,c3,A4,c4,e,hc 0 _ rfl,by rw[←Zaz _ _ 1 (by omega)];exact hc 1 _ rfl,by rw[←Zaz _ _ 2 (by omega)];exact hc 2 _ rfl,by rw[←Zaz _ _ 3 (by omega)];exact hc 3 _ rfl,by rw[←Zaz _ _ 4 (by omega)];exact hc 4 _ rfl,l0,g0,l2,g2,l3,g3,l4,g4⟩
structure S52 where
 f0:Int
 f1:Bool
 f2:(List S79)
def z52:S52:=⟨(0:Int),false,([]:List S79)⟩
def k52:Kd S52:=Kd.iso (Kd.pair (Kd.int .i64) (Kd.pair Kd.bool (Kd.slice 76 k79))) (fun x:S52=>(x.f0,x.f1,x.f2))
theorem k52_open {w:World}{x:S52}{cs:List Value}(h:k52.K w x cs):∃A2 c2,cs=[.int .i64 x.f0,.bool x.f1,.slice A2 x.f2.length c2]∧x.f2.length≤c2∧k79.C w A2 x.f2.length x.f2:=by
 obtain⟨_,_,rfl,rfl,⟨_,_,rfl,rfl,⟨A2,c2,rfl,l2,g2⟩⟩⟩:=h;exact⟨A2,c2,rfl,l2,g2⟩
theorem k52_mk (w:World)(x:S52){A2:Option Addr}{c2:Nat}(l2:x.f2.length≤c2)(g2:k79.C w A2 x.f2.length x.f2):k52.K w x [.int .i64 x.f0,.bool x.f1,.slice A2 x.f2.length c2]:=⟨[.int .i64 x.f0],[.bool x.f1,.slice A2 x.f2.length c2],rfl,rfl,⟨[.bool x.f1],[.slice A2 x.f2.length c2],rfl,rfl,⟨A2,c2,rfl,l2,g2⟩⟩⟩
theorem k52_mkF (W:World)(ok:Nat→Prop)(x:S52){A2:Option Addr}{c2:Nat}(l2:x.f2.length≤c2)(g2:Kd.F k79 W ok A2 x.f2.length x.f2):Kd.FK k52 W ok x [.int .i64 x.f0,.bool x.f1,.slice A2 x.f2.length c2]:=fun W2 hW=>k52_mk W2 x l2 (g2 W2 hW)
def Zlz (xs:List S52)(i:Int):S52:=xs.getD i.toNat z52
theorem at_T52 {w:World}{A:Option Addr}{n:Nat}{xs:List S52}(h:Kd.C k52 w A n xs)(i:Int)(h0:0≤i)(h1:i<n):∃ad A2 c2,A=some ad∧w.cell? (ad.add (i.toNat*3))=some (.int .i64 (Zlz xs i).f0)∧w.cell? ⟨(ad.add (i.toNat*3)).block,(ad.add (i.toNat*3)).off+1,none⟩=some (.bool (Zlz xs i).f1)∧w.cell? ⟨(ad.add (i.toNat*3)).block,(ad.add (i.toNat*3)).off+2,none⟩=some (.slice A2 (Zlz xs i).f2.length c2)∧(Zlz xs i).f2.length≤c2∧k79.C w A2 (Zlz xs i).f2.length (Zlz xs i).f2:=by
 obtain⟨ad,c,e,_,hK,hc0⟩:=Kd.C_get h z52 i h0 h1;have hc:∀j u,c[j]?=some u→w.cell? (ad.add (i.toNat*3+j))=some u:=hc0;obtain⟨A2,c2,rfl,l2,g2⟩:=k52_open hK;exact⟨ad,A2,c2,e,hc 0 _ rfl,by rw[←Zaz _ _ 1 (by omega)];exact hc 1 _ rfl,by rw[←Zaz _ _ 2 (by omega)];exact hc 2 _ rfl,l2,g2⟩
structure S26 where
 f0:(List S70)
 f1:(List S52)
structure Pl where
 kind:Int
 shape:Option Nat
 p:S76
 inner:Option Nat
 follow:List Int
 rule:Int
structure Sh where
 first:List Int
 last:List Int
 empty:Bool
 rule:Int
 step:Int
structure Mach where
 pl:List Pl
 sh:List (Nat × Sh)
 steps:List (List Nat)
 frees:List Int
def zPl:Pl:=⟨0,none,z76,none,[],0⟩
def zSh:Sh:=⟨[],[],false,0,0⟩
def Zbf (l:List Pl)(i:Int):Pl:=l.getD i.toNat zPl
def Zer:List (Nat × Sh)→Nat→Sh
 | [],_=>zSh
 | (k,s) :: r,i=>if k=i then s else Zer r i
def ptr (φ:Nat→Nat):Option Nat→Value
 | none=>.pointer none
 | some b=>.pointer (some ⟨φ b,0,none⟩)
theorem ptr_one (φ:Nat→Nat)(o:Option Nat):(ptr φ o).oneCell'=true:=by cases o <;> rfl
def PlK (φ:Nat→Nat)(w:World)(x:Pl)(cs:List Value):Prop:=
 ∃A1 c1 A2 c2 A3 c3 A4 c4,cs=[.int .i64 x.kind,ptr φ x.shape,.int .i64 x.p.f0,.slice A1 x.p.f1.length c1,.slice A2 x.p.f2.length c2,.slice A3 x.p.f3.length c3,ptr φ x.inner,.slice A4 x.follow.length c4,.int .i64 x.rule] ∧
  x.p.f1.length≤c1∧Kd.string.C w A1 x.p.f1.length x.p.f1∧x.p.f2.length≤c2∧Kd.string.C w A2 x.p.f2.length x.p.f2∧x.p.f3.length≤c3∧k76.C w A3 x.p.f3.length x.p.f3∧x.follow.length≤c4∧(Kd.int .i64).C w A4 x.follow.length x.follow
def kPl (φ:Nat→Nat):Kd Pl where
 sz:=9
 E:=[]
 K:=PlK φ
 M:=fun _ _ _ _ _=>False
 K_len:=by
  rintro w x cs ⟨A1,c1,A2,c2,A3,c3,A4,c4,rfl,_⟩
  rfl
 K_one:=by
  rintro w x cs ⟨A1,c1,A2,c2,A3,c3,A4,c4,rfl,_⟩ u hu;simp only[List.mem_cons,List.not_mem_nil,or_false]at hu
  rcases hu with rfl | rfl | rfl | rfl | rfl | rfl | rfl | rfl | rfl <;> first | rfl | exact ptr_one _ _
 K_below:=by
  rintro w w1 x cs hb ⟨A1,c1,A2,c2,A3,c3,A4,c4,rfl,l1,g1,l2,g2,l3,g3,l4,g4⟩;exact⟨A1,c1,A2,c2,A3,c3,A4,c4,rfl,l1,Kd.C_below g1 hb,l2,Kd.C_below g2 hb,l3,Kd.C_below g3 hb,l4,Kd.C_below g4 hb⟩
 K_of_M:=fun h=>h.elim
 M_mono:=fun _ h=>h.elim
 M_bound:=fun h=>h.elim
 M_move:=fun _ h=>h.elim
 M_lower:=fun _ h=>h.elim
theorem Zob {φ:Nat→Nat}{w:World}{A:Option Addr}{n:Nat}{xs:List Pl}(h:Kd.C (kPl φ) w A n xs)(i:Int)(h0:0≤i)(h1:i<n) :
 ∃ad A1 c1 A2 c2 A3 c3 A4 c4,A=some ad∧w.cell? (ad.add (i.toNat*9))=some (.int .i64 (Zbf xs i).kind)
  ∧ w.cell? ⟨(ad.add (i.toNat*9)).block,(ad.add (i.toNat*9)).off+1,none⟩=some (ptr φ (Zbf xs i).shape)
  ∧ w.cell? ⟨(ad.add (i.toNat*9)).block,(ad.add (i.toNat*9)).off+2,none⟩=some (.int .i64 (Zbf xs i).p.f0)
  ∧ w.cell? ⟨(ad.add (i.toNat*9)).block,(ad.add (i.toNat*9)).off+3,none⟩=some (.slice A1 (Zbf xs i).p.f1.length c1)
  ∧ w.cell? ⟨(ad.add (i.toNat*9)).block,(ad.add (i.toNat*9)).off+4,none⟩=some (.slice A2 (Zbf xs i).p.f2.length c2)
  ∧ w.cell? ⟨(ad.add (i.toNat*9)).block,(ad.add (i.toNat*9)).off+5,none⟩=some (.slice A3 (Zbf xs i).p.f3.length c3)
  ∧ w.cell? ⟨(ad.add (i.toNat*9)).block,(ad.add (i.toNat*9)).off+6,none⟩=some (ptr φ (Zbf xs i).inner)
  ∧ w.cell? ⟨(ad.add (i.toNat*9)).block,(ad.add (i.toNat*9)).off+7,none⟩=some (.slice A4 (Zbf xs i).follow.length c4)
  ∧ w.cell? ⟨(ad.add (i.toNat*9)).block,(ad.add (i.toNat*9)).off+8,none⟩=some (.int .i64 (Zbf xs i).rule)
  ∧ (Zbf xs i).p.f1.length≤c1∧Kd.string.C w A1 (Zbf xs i).p.f1.length (Zbf xs i).p.f1
  ∧ (Zbf xs i).p.f2.length≤c2∧Kd.string.C w A2 (Zbf xs i).p.f2.length (Zbf xs i).p.f2
  ∧ (Zbf xs i).follow.length≤c4∧(Kd.int .i64).C w A4 (Zbf xs i).follow.length (Zbf xs i).follow:=by
 obtain⟨ad,c,e,_,hK,hc0⟩:=Kd.C_get h zPl i h0 h1;have hc:∀j u,c[j]?=some u→w.cell? (ad.add (i.toNat*9+j))=some u:=hc0;obtain⟨A1,c1,A2,c2,A3,c3,A4,c4,rfl,l1,g1,l2,g2,l3,g3,l4,g4⟩:=hK;exact⟨ad,A1,c1,A2,c2,A3,c3,A4,c4,e,hc 0 _ rfl,by rw[←Zaz _ _ 1 (by omega)];exact hc 1 _ rfl,by rw[←Zaz _ _ 2 (by omega)];exact hc 2 _ rfl,by rw[←Zaz _ _ 3 (by omega)];exact hc 3 _ rfl,
  by rw[←Zaz _ _ 4 (by omega)];exact hc 4 _ rfl,by rw[←Zaz _ _ 5 (by omega)];exact hc 5 _ rfl,by rw[←Zaz _ _ 6 (by omega)];exact hc 6 _ rfl,by rw[←Zaz _ _ 7 (by omega)];exact hc 7 _ rfl,by rw[←Zaz _ _ 8 (by omega)];exact hc 8 _ rfl,
  l1,g1,l2,g2,l4,g4⟩
structure ShAt (w:World)(b k:Nat)(s:Sh):Prop where
 cells:∃A1 c1 A2 c2,w.heap[b]?=some (.cells #[.int .i64 (k:Int),.slice A1 s.first.length c1,.slice A2 s.last.length c2,.bool s.empty,.int .i64 s.rule,.int .i64 s.step] 126 (0,0)) ∧
  s.first.length≤c1∧(Kd.int .i64).C w A1 s.first.length s.first∧s.last.length≤c2∧(Kd.int .i64).C w A2 s.last.length s.last
theorem ShAt.below {w w1:World}{b k:Nat}{s:Sh}(h:ShAt w b k s)(hb:Below w.heap.size w w1):ShAt w1 b k s:=by
 obtain⟨A1,c1,A2,c2,hc,l1,g1,l2,g2⟩:=h.cells;exact⟨A1,c1,A2,c2,Zaf hc hb,l1,Kd.C_below g1 hb,l2,Kd.C_below g2 hb⟩
def Zgl (φ:Nat→Nat):Kd Nat:=Kd.scalar (fun b=>Value.pointer (some ⟨φ b,0,none⟩)) (fun _=>rfl)
structure VR (w:World)(gb:Nat)(G:S26)(M:Mach)(φ:Nat→Nat):Prop where
 cells:∃At ct Ar cr Ap cp As cs Af cf,w.heap[gb]?=some (.cells #[.slice At G.f0.length ct,.slice Ar G.f1.length cr,.slice Ap M.pl.length cp,.slice As M.steps.length cs,.slice Af M.frees.length cf] 118 (0,0)) ∧
  G.f0.length≤ct∧k70.C w At G.f0.length G.f0∧G.f1.length≤cr∧k52.C w Ar G.f1.length G.f1∧M.pl.length≤cp∧(kPl φ).C w Ap M.pl.length M.pl ∧
  M.steps.length≤cs∧(Kd.slice 120 (Zgl φ)).C w As M.steps.length M.steps∧M.frees.length≤cf∧(Kd.int .i64).C w Af M.frees.length M.frees
 shapes:∀k s,(k,s)∈M.sh→ShAt w (φ k) k s
theorem VR.below {w w1:World}{gb:Nat}{G:S26}{M:Mach}{φ:Nat→Nat}(h:VR w gb G M φ)(hb:Below w.heap.size w w1):VR w1 gb G M φ:=by
 obtain⟨⟨At,ct,Ar,cr,Ap,cp,As,cs,Af,cf,hc,l1,g1,l2,g2,l3,g3,l4,g4,l5,g5⟩,hs⟩:=h;exact⟨⟨At,ct,Ar,cr,Ap,cp,As,cs,Af,cf,Zaf hc hb,l1,Kd.C_below g1 hb,l2,Kd.C_below g2 hb,l3,Kd.C_below g3 hb,l4,Kd.C_below g4 hb,l5,Kd.C_below g5 hb⟩,fun k s hk=>(hs k s hk).below hb⟩
def Ziy (M:Mach)(p:Int):Bool:=decide ((Zbf M.pl p).kind=0)||decide ((Zbf M.pl p).kind=1)
theorem Zij (w:World)(gb:Nat)(G:S26)(M:Mach)(φ:Nat→Nat)(h:VR w gb G M φ)(p:Int)(h0:0≤p)(h1:p<M.pl.length) :
 Calls Tryz.prog 102 #[.pointer (some ⟨gb,0,none⟩),.int .i64 p] w fun e w'=>e=.returned (.bool (Ziy M p))∧w'=w:=by
 obtain⟨At,ct,Ar,cr,Ap,cp,As,cs,Af,cf,hc,_,_,_,_,_,hp,_⟩:=h.cells;have g2:w.cell? ⟨gb,2,none⟩=some (.slice Ap M.pl.length cp):=(Zaa hc 2).trans rfl;obtain⟨ad,A1,c1,A2,c2,A3,c3,A4,c4,rfl,k0,_⟩:=Zob hp p h0 h1;clear hc h hp;unfold Ziy;generalize (Zbf M.pl p).kind=k at k0 ⊢;by_cases e0:k=0
 ·subst e0
  go_enter Tryz.func102,Tryz.ntmps102
  go_wp2
  go_ret
  exact⟨rfl,rfl⟩
 ·by_cases e1:k=1
  ·subst e1
   go_enter Tryz.func102,Tryz.ntmps102
   go_wp2
   go_ret
   exact⟨rfl,rfl⟩
  ·have q0:(k==0)=false:=by simpa using e0
   have q1:(k==1)=false:=by simpa using e1
   go_enter Tryz.func102,Tryz.ntmps102
   go_wp2
   go_ret
   exact⟨by simp[e0,e1],rfl⟩
set_option linter.unusedVariables false
set_option linter.unusedSimpArgs false
def slices_Index_string_string.l0:Nat→List ByteArray→ByteArray→Int→Int→Option (Int)
 | 0,_,_,_,_=>none
 | k+1,x0,x1,x7,x8=>if x8<x7 then (if 0≤x8 then (if x8<(x0.length:Int)then (if x1.toList=(rdOf ByteArray.empty x0 x8).toList then (some x8)else (slices_Index_string_string.l0 k x0 x1 x7 (wrap64 (x8+1))))else (none))else (none))else (some (-1))
def slices_Index_string_string.f (k:Nat)(l0:List ByteArray)(a1:ByteArray):Option (Int):=slices_Index_string_string.l0 k l0 a1 (l0.length:Int) 0
theorem slices_Index_string_string.mono_l:∀k,(∀y0 y1 y2 y3,LeO (slices_Index_string_string.l0 k y0 y1 y2 y3) (slices_Index_string_string.l0 (k+1) y0 y1 y2 y3))
 | 0=>fun _ _ _ _ r h=>by simp[slices_Index_string_string.l0]at h
 | k+1=>by
  have ih0:=slices_Index_string_string.mono_l k
  ·intro y0 y1 y2 y3;unfold slices_Index_string_string.l0
   repeat' first
   | (with_reducible exact ih0 _ _ _ _)
   | (with_reducible exact LeO.refl _)
   | (with_reducible exact LeO.none _)
   | (with_reducible refine LeO.ite ?_ ?_)
   | (with_reducible refine LeO.bind ?_ (fun _=>?_))
   | exact ih0 _ _ _ _
   | exact LeO.none _
   | refine LeO.ite ?_ ?_
   | refine LeO.bind ?_ (fun _=>?_)
theorem slices_Index_string_string.mono:∀a0 a1 k,LeO (slices_Index_string_string.f k a0 a1) (slices_Index_string_string.f (k+1) a0 a1):=by
 intro a0 a1 k;have ih0:=slices_Index_string_string.mono_l k;unfold slices_Index_string_string.f
 repeat' first
  | (with_reducible exact ih0 _ _ _ _)
  | (with_reducible exact LeO.refl _)
  | (with_reducible exact LeO.none _)
  | (with_reducible refine LeO.ite ?_ ?_)
  | (with_reducible refine LeO.bind ?_ (fun _=>?_))
  | exact ih0 _ _ _ _
  | exact LeO.none _
  | refine LeO.ite ?_ ?_
  | refine LeO.bind ?_ (fun _=>?_)
set_option maxHeartbeats 8000000 in
theorem slices_Index_string_string.calls (k:Nat)(A0:Option Addr)(c0:Nat)(l0:List ByteArray)(a1:ByteArray)(r:Int)(w:World)(hr0:Kd.C Kd.string w A0 l0.length l0)(hc0:l0.length≤c0)(h:slices_Index_string_string.f k l0 a1=some r) :
 Calls Tryz.prog 135 #[.slice A0 l0.length c0,.string a1] w fun e w'=>e=.returned (.int .i64 r)∧Drawn0 w w':=by
 have HR0:=Zrw.mk hr0;have HC0:=Zrw.mk hc0;clear hr0 hc0;have H:(slices_Index_string_string.l0 k l0 a1 (l0.length:Int) 0)=some r:=h;clear h;have H':=Zrw.mk H;clear H
 go_enter Tryz.func135,Tryz.ntmps135
 go_wp2
 go_loopg [8] k (fun kq v8 w'=>∃(x8_1:Int),v8=.int .i64 x8_1∧Zrw (slices_Index_string_string.l0 kq l0 a1 (l0.length:Int) x8_1=some r)∧Zrw (kq≤k)∧Drawn0 w w')
 case atStart=>exact⟨(0),(by first | rfl | (simp;done) | (simp[*];done)),H',⟨Nat.le_refl _⟩,by repeat (first | exact Drawn0.refl _ | apply Drawn0.step)⟩
 case round=>
  clear H'
  try clear p2
  obtain⟨x8_1,rfl,HA,HK1,⟨m1,rfl⟩⟩:=hrel;cases gk with
  | zero=>exact absurd HA.out (by simp[slices_Index_string_string.l0])
  | succ k1=>
   have H:=HA.out;clear HA;simp only[slices_Index_string_string.l0]at H;by_cases c3:x8_1<(l0.length:Int)
   ·rw[if_pos c3]at H;have c3b0:decide (x8_1<(l0.length:Int))=true:=decide_eq_true c3;clear c3;by_cases c4:0≤x8_1
    ·rw[if_pos c4]at H;have c4b0:decide (0≤x8_1)=true:=decide_eq_true c4;clear c4;by_cases c5:x8_1<(l0.length:Int)
     ·rw[if_pos c5]at H;have c5b0:decide (x8_1<(l0.length:Int))=true:=decide_eq_true c5;clear c5;by_cases c6:a1.toList=(rdOf ByteArray.empty l0 x8_1).toList
      ·rw[if_pos c6]at H;have c6b0:(a1.toList==(rdOf ByteArray.empty l0 x8_1).toList)=true:=beq_iff_eq.mpr c6;have c6b1:(a1.toList != (rdOf ByteArray.empty l0 x8_1).toList)=false:=bne_eq_false_iff_eq.mpr c6;clear c6;obtain rfl:=Option.some.inj H;have p342:0≤(x8_1:Int):=of_decide_eq_true (by first | (with_reducible assumption) | assumption);have q342:x8_1<(l0.length:Int):=of_decide_eq_true (by first | (with_reducible assumption) | assumption);obtain⟨ad342,e342,hx342_0⟩:=Kd.at_string HR0.out x8_1 p342 q342;cases e342
       replace p342:=eq_true p342
       replace q342:=eq_true q342
       go_wp2
       go_ret
       exact⟨by first | rfl | (simp;done) | (simp[*];done),by repeat (first | exact Drawn0.refl _ | apply Drawn0.step)⟩
      ·rw[if_neg c6]at H;have c6b0:(a1.toList==(rdOf ByteArray.empty l0 x8_1).toList)=false:=beq_eq_false_iff_ne.mpr c6;have c6b1:(a1.toList != (rdOf ByteArray.empty l0 x8_1).toList)=true:=bne_iff_ne.mpr c6;have H':=Zrw.mk H;clear H;have p342:0≤(x8_1:Int):=of_decide_eq_true (by first | (with_reducible assumption) | assumption);have q342:x8_1<(l0.length:Int):=of_decide_eq_true (by first | (with_reducible assumption) | assumption);obtain⟨ad342,e342,hx342_0⟩:=Kd.at_string HR0.out x8_1 p342 q342;cases e342
       replace p342:=eq_true p342
       replace q342:=eq_true q342
       go_wp2
       go_roundg k1
       case measure=>have:=HK1.out;omega
       case rel=>exact⟨(wrap64 (x8_1+1)),(by first | rfl | (simp;done) | (simp[*];done)),H',⟨by have:=HK1.out;omega⟩,by repeat (first | exact Drawn0.refl _ | apply Drawn0.step)⟩
     ·rw[if_neg c5]at H;exact absurd H (by simp)
    ·rw[if_neg c4]at H;exact absurd H (by simp)
   ·rw[if_neg c3]at H;have c3b0:decide (x8_1<(l0.length:Int))=false:=decide_eq_false c3;clear c3;obtain rfl:=Option.some.inj H;go_wp2
    go_ret
    exact⟨by first | rfl | (simp;done) | (simp[*];done),by repeat (first | exact Drawn0.refl _ | apply Drawn0.step)⟩
def slices_Contains_string_string.f (k:Nat)(l0:List ByteArray)(a1:ByteArray):Option (Bool):=(slices_Index_string_string.f k l0 a1).bind fun t343=>(some (decide (t343≥0)))
theorem slices_Contains_string_string.mono:∀a0 a1 k,LeO (slices_Contains_string_string.f k a0 a1) (slices_Contains_string_string.f (k+1) a0 a1):=by
 intro a0 a1 k;unfold slices_Contains_string_string.f
 repeat' first
  | (with_reducible exact slices_Index_string_string.mono _ _ _)
  | (with_reducible exact LeO.refl _)
  | (with_reducible exact LeO.none _)
  | (with_reducible refine LeO.ite ?_ ?_)
  | (with_reducible refine LeO.bind ?_ (fun _=>?_))
  | exact slices_Index_string_string.mono _ _ _
  | exact LeO.none _
  | refine LeO.ite ?_ ?_
  | refine LeO.bind ?_ (fun _=>?_)
set_option maxHeartbeats 8000000 in
theorem slices_Contains_string_string.calls (k:Nat)(A0:Option Addr)(c0:Nat)(l0:List ByteArray)(a1:ByteArray)(r:Bool)(w:World)(hr0:Kd.C Kd.string w A0 l0.length l0)(hc0:l0.length≤c0)(h:slices_Contains_string_string.f k l0 a1=some r) :
 Calls Tryz.prog 108 #[.slice A0 l0.length c0,.string a1] w fun e w'=>e=.returned (.bool r)∧Drawn0 w w':=by
 have HR0:=Zrw.mk hr0;have HC0:=Zrw.mk hc0;clear hr0 hc0;have H:((slices_Index_string_string.f k l0 a1).bind fun t343=>(some (decide (t343≥0))))=some r:=h;clear h
 replace H:=Option.bind_eq_some_iff.mp H
 obtain⟨t343,A30,H⟩:=H
 replace H:(some (decide (t343≥0)))=some r:=H
 have A3:=Zrw.mk A30;clear A30;obtain rfl:=Option.some.inj H
 go_enter Tryz.func108,Tryz.ntmps108
 go_wp2_with (first | ((with_reducible refine Zdl (f:=135) rfl ?_);refine goesL_ (some 7) rfl rfl Tryz.func135 (by kernel_rfl) rfl #[.slice A0 l0.length c0,.string a1] rfl (by (try simp only[List.map_toArray,List.map_cons,List.map_nil]);first | done | rfl | (simp only[List.length_drop,List.length_take];rfl)) ?_;(with_reducible refine (slices_Index_string_string.calls k _ _ l0 a1 t343 _ ?side1 ?side2 A3.out).mono ?_);(case side1=>repeat (first | exact HR0.out | (with_reducible refine Kd.C_alloc ?_ _) | (with_reducible refine Kd.C_drewN ?_ _) | (with_reducible refine Kd.C_drew ?_)));(case side2=>exact HC0.out);rintro e w' ⟨rfl,⟨nd,rfl⟩⟩;refine⟨_,rfl,?_⟩))
 go_ret
 exact⟨by first | rfl | (simp;done) | (simp[*];done),by repeat (first | exact Drawn0.refl _ | apply Drawn0.step)⟩
def slices_Index_int_int.l0:Nat→List Int→Int→Int→Int→Option (Int)
 | 0,_,_,_,_=>none
 | k+1,x0,x1,x7,x8=>if x8<x7 then (if 0≤x8 then (if x8<(x0.length:Int)then (if x1=(rd x0 x8)then (some x8)else (slices_Index_int_int.l0 k x0 x1 x7 (wrap64 (x8+1))))else (none))else (none))else (some (-1))
def slices_Index_int_int.f (k:Nat)(l0:List Int)(a1:Int):Option (Int):=slices_Index_int_int.l0 k l0 a1 (l0.length:Int) 0
theorem slices_Index_int_int.mono_l:∀k,(∀y0 y1 y2 y3,LeO (slices_Index_int_int.l0 k y0 y1 y2 y3) (slices_Index_int_int.l0 (k+1) y0 y1 y2 y3))
 | 0=>fun _ _ _ _ r h=>by simp[slices_Index_int_int.l0]at h
 | k+1=>by
  have ih0:=slices_Index_int_int.mono_l k
  ·intro y0 y1 y2 y3;unfold slices_Index_int_int.l0
   repeat' first
   | (with_reducible exact ih0 _ _ _ _)
   | (with_reducible exact LeO.refl _)
   | (with_reducible exact LeO.none _)
   | (with_reducible refine LeO.ite ?_ ?_)
   | (with_reducible refine LeO.bind ?_ (fun _=>?_))
   | exact ih0 _ _ _ _
   | exact LeO.none _
   | refine LeO.ite ?_ ?_
   | refine LeO.bind ?_ (fun _=>?_)
theorem slices_Index_int_int.mono:∀a0 a1 k,LeO (slices_Index_int_int.f k a0 a1) (slices_Index_int_int.f (k+1) a0 a1):=by
 intro a0 a1 k;have ih0:=slices_Index_int_int.mono_l k;unfold slices_Index_int_int.f
 repeat' first
  | (with_reducible exact ih0 _ _ _ _)
  | (with_reducible exact LeO.refl _)
  | (with_reducible exact LeO.none _)
  | (with_reducible refine LeO.ite ?_ ?_)
  | (with_reducible refine LeO.bind ?_ (fun _=>?_))
  | exact ih0 _ _ _ _
  | exact LeO.none _
  | refine LeO.ite ?_ ?_
  | refine LeO.bind ?_ (fun _=>?_)
set_option maxHeartbeats 8000000 in
theorem slices_Index_int_int.calls (k:Nat)(A0:Option Addr)(c0:Nat)(l0:List Int)(a1:Int)(r:Int)(w:World)(hr0:Kd.C (Kd.int .i64) w A0 l0.length l0)(hc0:l0.length≤c0)(h:slices_Index_int_int.f k l0 a1=some r) :
 Calls Tryz.prog 107 #[.slice A0 l0.length c0,.int .i64 a1] w fun e w'=>e=.returned (.int .i64 r)∧Drawn0 w w':=by
 have HR0:=Zrw.mk hr0;have HC0:=Zrw.mk hc0;clear hr0 hc0;have H:(slices_Index_int_int.l0 k l0 a1 (l0.length:Int) 0)=some r:=h;clear h;have H':=Zrw.mk H;clear H
 go_enter Tryz.func107,Tryz.ntmps107
 go_wp2
 go_loopg [8] k (fun kq v8 w'=>∃(x8_1:Int),v8=.int .i64 x8_1∧Zrw (slices_Index_int_int.l0 kq l0 a1 (l0.length:Int) x8_1=some r)∧Zrw (kq≤k)∧Drawn0 w w')
 case atStart=>exact⟨(0),(by first | rfl | (simp;done) | (simp[*];done)),H',⟨Nat.le_refl _⟩,by repeat (first | exact Drawn0.refl _ | apply Drawn0.step)⟩
 case round=>
  clear H'
  try clear p2
  obtain⟨x8_1,rfl,HA,HK1,⟨m1,rfl⟩⟩:=hrel;cases gk with
  | zero=>exact absurd HA.out (by simp[slices_Index_int_int.l0])
  | succ k1=>
   have H:=HA.out;clear HA;simp only[slices_Index_int_int.l0]at H;by_cases c3:x8_1<(l0.length:Int)
   ·rw[if_pos c3]at H;have c3b0:decide (x8_1<(l0.length:Int))=true:=decide_eq_true c3;clear c3;by_cases c4:0≤x8_1
    ·rw[if_pos c4]at H;have c4b0:decide (0≤x8_1)=true:=decide_eq_true c4;clear c4;by_cases c5:x8_1<(l0.length:Int)
     ·rw[if_pos c5]at H;have c5b0:decide (x8_1<(l0.length:Int))=true:=decide_eq_true c5;clear c5;by_cases c6:a1=(rd l0 x8_1)
      ·rw[if_pos c6]at H;have c6b0:(a1==(rd l0 x8_1))=true:=beq_iff_eq.mpr c6;have c6b1:(a1 != (rd l0 x8_1))=false:=bne_eq_false_iff_eq.mpr c6;clear c6;obtain rfl:=Option.some.inj H;have p344:0≤(x8_1:Int):=of_decide_eq_true (by first | (with_reducible assumption) | assumption);have q344:x8_1<(l0.length:Int):=of_decide_eq_true (by first | (with_reducible assumption) | assumption);obtain⟨ad344,e344,hx344_0⟩:=Kd.at_int HR0.out x8_1 p344 q344;cases e344
       replace p344:=eq_true p344
       replace q344:=eq_true q344
       go_wp2
       go_ret
       exact⟨by first | rfl | (simp;done) | (simp[*];done),by repeat (first | exact Drawn0.refl _ | apply Drawn0.step)⟩
      ·rw[if_neg c6]at H;have c6b0:(a1==(rd l0 x8_1))=false:=beq_eq_false_iff_ne.mpr c6;have c6b1:(a1 != (rd l0 x8_1))=true:=bne_iff_ne.mpr c6;have H':=Zrw.mk H;clear H;have p344:0≤(x8_1:Int):=of_decide_eq_true (by first | (with_reducible assumption) | assumption);have q344:x8_1<(l0.length:Int):=of_decide_eq_true (by first | (with_reducible assumption) | assumption);obtain⟨ad344,e344,hx344_0⟩:=Kd.at_int HR0.out x8_1 p344 q344;cases e344
       replace p344:=eq_true p344
       replace q344:=eq_true q344
       go_wp2
       go_roundg k1
       case measure=>have:=HK1.out;omega
       case rel=>exact⟨(wrap64 (x8_1+1)),(by first | rfl | (simp;done) | (simp[*];done)),H',⟨by have:=HK1.out;omega⟩,by repeat (first | exact Drawn0.refl _ | apply Drawn0.step)⟩
     ·rw[if_neg c5]at H;exact absurd H (by simp)
    ·rw[if_neg c4]at H;exact absurd H (by simp)
   ·rw[if_neg c3]at H;have c3b0:decide (x8_1<(l0.length:Int))=false:=decide_eq_false c3;clear c3;obtain rfl:=Option.some.inj H;go_wp2
    go_ret
    exact⟨by first | rfl | (simp;done) | (simp[*];done),by repeat (first | exact Drawn0.refl _ | apply Drawn0.step)⟩
def slices_Contains_int_int.f (k:Nat)(l0:List Int)(a1:Int):Option (Bool):=(slices_Index_int_int.f k l0 a1).bind fun t345=>(some (decide (t345≥0)))
theorem slices_Contains_int_int.mono:∀a0 a1 k,LeO (slices_Contains_int_int.f k a0 a1) (slices_Contains_int_int.f (k+1) a0 a1):=by
 intro a0 a1 k;unfold slices_Contains_int_int.f
 repeat' first
  | (with_reducible exact slices_Index_int_int.mono _ _ _)
  | (with_reducible exact LeO.refl _)
  | (with_reducible exact LeO.none _)
  | (with_reducible refine LeO.ite ?_ ?_)
  | (with_reducible refine LeO.bind ?_ (fun _=>?_))
  | exact slices_Index_int_int.mono _ _ _
  | exact LeO.none _
  | refine LeO.ite ?_ ?_
  | refine LeO.bind ?_ (fun _=>?_)
set_option maxHeartbeats 8000000 in
theorem slices_Contains_int_int.calls (k:Nat)(A0:Option Addr)(c0:Nat)(l0:List Int)(a1:Int)(r:Bool)(w:World)(hr0:Kd.C (Kd.int .i64) w A0 l0.length l0)(hc0:l0.length≤c0)(h:slices_Contains_int_int.f k l0 a1=some r) :
 Calls Tryz.prog 86 #[.slice A0 l0.length c0,.int .i64 a1] w fun e w'=>e=.returned (.bool r)∧Drawn0 w w':=by
 have HR0:=Zrw.mk hr0;have HC0:=Zrw.mk hc0;clear hr0 hc0;have H:((slices_Index_int_int.f k l0 a1).bind fun t345=>(some (decide (t345≥0))))=some r:=h;clear h
 replace H:=Option.bind_eq_some_iff.mp H
 obtain⟨t345,A30,H⟩:=H
 replace H:(some (decide (t345≥0)))=some r:=H
 have A3:=Zrw.mk A30;clear A30;obtain rfl:=Option.some.inj H
 go_enter Tryz.func86,Tryz.ntmps86
 go_wp2_with (first | ((with_reducible refine Zdl (f:=107) rfl ?_);refine goesL_ (some 7) rfl rfl Tryz.func107 (by kernel_rfl) rfl #[.slice A0 l0.length c0,.int .i64 a1] rfl (by (try simp only[List.map_toArray,List.map_cons,List.map_nil]);first | done | rfl | (simp only[List.length_drop,List.length_take];rfl)) ?_;(with_reducible refine (slices_Index_int_int.calls k _ _ l0 a1 t345 _ ?side1 ?side2 A3.out).mono ?_);(case side1=>repeat (first | exact HR0.out | (with_reducible refine Kd.C_alloc ?_ _) | (with_reducible refine Kd.C_drewN ?_ _) | (with_reducible refine Kd.C_drew ?_)));(case side2=>exact HC0.out);rintro e w' ⟨rfl,⟨nd,rfl⟩⟩;refine⟨_,rfl,?_⟩))
 go_ret
 exact⟨by first | rfl | (simp;done) | (simp[*];done),by repeat (first | exact Drawn0.refl _ | apply Drawn0.step)⟩
def hasI (l:List Int)(x:Int):Bool:=l.any fun y=>decide (x=y)
def hasS (l:List ByteArray)(x:ByteArray):Bool:=l.any fun y=>decide (x.toList=y.toList)
theorem EvL {α:Type}{g:Nat→Option α}{r:α}(h:∀k,g (k+1)=some r):Ev g r:=⟨1,fun k hk=>by obtain⟨m,rfl⟩:∃m,k=m+1:=⟨k-1,by omega⟩;exact h m⟩
theorem index_i (l:List Int)(x:Int)(hl:l.length≤9223372036854775806)(m:Nat):∀i:Nat,i+m=l.length→∃r:Int,Ev (fun k=>slices_Index_int_int.l0 k l x (l.length:Int) i) r∧(decide (r≥0)=hasI (l.drop i) x):=by
 induction m with
 | zero=>
  intro i hi;refine⟨-1,EvL fun k=>?_,?_⟩
  ·rw[slices_Index_int_int.l0,if_neg (by omega)]
  ·rw[List.drop_of_length_le (by omega)];rfl
 | succ m ih=>
  intro i hi;have hd:l.drop i=l[i]'(by omega) :: l.drop (i+1):=List.drop_eq_getElem_cons (by omega);have hr:rd l i=l[i]'(by omega):=by simp[rd,List.getD_eq_getElem?_getD,List.getElem?_eq_getElem (show i<l.length by omega)]
  by_cases c:x=rd l i
  ·refine⟨i,EvL fun k=>?_,?_⟩
   ·rw[slices_Index_int_int.l0,if_pos (by omega),if_pos (by omega),if_pos (by omega),if_pos c]
   ·rw[hd];have:x=l[i]'(by omega):=by rw[←hr];exact c
    unfold hasI;rw[List.any_cons,decide_eq_true this,Bool.true_or];exact decide_eq_true (by omega)
  ·obtain⟨r,hv,he⟩:=ih (i+1) (by omega);refine⟨r,Ev.step (fun k=>?_) hv,?_⟩
   ·rw[slices_Index_int_int.l0,if_pos (by omega),if_pos (by omega),if_pos (by omega),if_neg c];rw[show wrap64 ((i:Int)+1)=((i+1:Nat):Int) by unfold wrap64;omega]
   ·rw[he,hd];have:¬x=l[i]'(by omega):=by rw[←hr];exact c
    unfold hasI;rw[List.any_cons,decide_eq_false this,Bool.false_or]
theorem contains_i (A:Option Addr)(c:Nat)(l:List Int)(x:Int)(w:World)(h:(Kd.int .i64).C w A l.length l)(hc:l.length≤c)(hl:l.length≤1000000) :
 Calls Tryz.prog 86 #[.slice A l.length c,.int .i64 x] w fun e w'=>e=.returned (.bool (hasI l x))∧Drawn0 w w':=by
 obtain⟨r,hv,he⟩:=index_i l x (by omega) l.length 0 (by omega);obtain⟨k,hk⟩:=hv.rounds;have hf:slices_Contains_int_int.f k l x=some (hasI l x):=by
  unfold slices_Contains_int_int.f slices_Index_int_int.f;have hk':slices_Index_int_int.l0 k l x (l.length:Int) 0=some r:=hk;rw[hk'];simp only[Option.bind_some];rw[he];rfl
 exact slices_Contains_int_int.calls k A c l x _ w h hc hf
theorem index_s (l:List ByteArray)(x:ByteArray)(hl:l.length≤9223372036854775806)(m:Nat):∀i:Nat,i+m=l.length→∃r:Int,Ev (fun k=>slices_Index_string_string.l0 k l x (l.length:Int) i) r∧(decide (r≥0)=hasS (l.drop i) x):=by
 induction m with
 | zero=>
  intro i hi;refine⟨-1,EvL fun k=>?_,?_⟩
  ·rw[slices_Index_string_string.l0,if_neg (by omega)]
  ·rw[List.drop_of_length_le (by omega)];rfl
 | succ m ih=>
  intro i hi;have hd:l.drop i=l[i]'(by omega) :: l.drop (i+1):=List.drop_eq_getElem_cons (by omega);have hr:rdOf ByteArray.empty l i=l[i]'(by omega):=by simp[rdOf,List.getD_eq_getElem?_getD,List.getElem?_eq_getElem (show i<l.length by omega)]
  by_cases c:x.toList=(rdOf ByteArray.empty l i).toList
  ·refine⟨i,EvL fun k=>?_,?_⟩
   ·rw[slices_Index_string_string.l0,if_pos (by omega),if_pos (by omega),if_pos (by omega),if_pos c]
   ·rw[hd];have:x.toList=(l[i]'(by omega)).toList:=by rw[←hr];exact c
    unfold hasS;rw[List.any_cons,decide_eq_true this,Bool.true_or];exact decide_eq_true (by omega)
  ·obtain⟨r,hv,he⟩:=ih (i+1) (by omega);refine⟨r,Ev.step (fun k=>?_) hv,?_⟩
   ·rw[slices_Index_string_string.l0,if_pos (by omega),if_pos (by omega),if_pos (by omega),if_neg c];rw[show wrap64 ((i:Int)+1)=((i+1:Nat):Int) by unfold wrap64;omega]
   ·rw[he,hd];have:¬x.toList=(l[i]'(by omega)).toList:=by rw[←hr];exact c
    unfold hasS;rw[List.any_cons,decide_eq_false this,Bool.false_or]
theorem Zir (A:Option Addr)(c:Nat)(l:List ByteArray)(x:ByteArray)(w:World)(h:Kd.string.C w A l.length l)(hc:l.length≤c)(hl:l.length≤1000000) :
 Calls Tryz.prog 108 #[.slice A l.length c,.string x] w fun e w'=>e=.returned (.bool (hasS l x))∧Drawn0 w w':=by
 obtain⟨r,hv,he⟩:=index_s l x (by omega) l.length 0 (by omega);obtain⟨k,hk⟩:=hv.rounds;have hf:slices_Contains_string_string.f k l x=some (hasS l x):=by
  unfold slices_Contains_string_string.f slices_Index_string_string.f;have hk':slices_Index_string_string.l0 k l x (l.length:Int) 0=some r:=hk;rw[hk'];simp only[Option.bind_some];rw[he];rfl
 exact slices_Contains_string_string.calls k A c l x _ w h hc hf
def Zqd (G:S26)(t:Int):S70:=G.f0.getD t.toNat z70
def Zmh (G:S26)(M:Mach)(p t kind:Int):Bool:=
 decide (0≤p∧p<M.pl.length∧t<G.f0.length)&&((decide (0≤t)&&decide ((Zqd G t).f1=kind))||(decide (t=-1)&&decide (kind=0)))
theorem Zjq (w:World)(gb:Nat)(G:S26)(M:Mach)(φ:Nat→Nat)(h:VR w gb G M φ)(p t kind:Int) :
 Calls Tryz.prog 101 #[.pointer (some ⟨gb,0,none⟩),.int .i64 p,.int .i64 t,.int .i64 kind] w fun e w'=>e=.returned (.bool (Zmh G M p t kind))∧w'=w:=by
 obtain⟨At,ct,Ar,cr,Ap,cp,As,cs,Af,cf,hc,lt,ht,_,_,lp,hp,_⟩:=h.cells;have g0:w.cell? ⟨gb,0,none⟩=some (.slice At G.f0.length ct):=(Zaa hc 0).trans rfl;have g2:w.cell? ⟨gb,2,none⟩=some (.slice Ap M.pl.length cp):=(Zaa hc 2).trans rfl;have HT:=Zrw.mk ht;clear hc h hp lt lp ht;by_cases a1:0≤p
 rotate_left
 ·have q1:decide (p<0)=true:=decide_eq_true (by omega);have e:Zmh G M p t kind=false:=by unfold Zmh;rw[decide_eq_false (by omega)];rfl
  rw[e];clear e a1
  go_enter Tryz.func101,Tryz.ntmps101
  go_wp2
  go_ret
  exact⟨rfl,rfl⟩
 have q1:decide (p<0)=false:=decide_eq_false (by omega);by_cases a2:p<M.pl.length
 rotate_left
 ·have q2:decide ((M.pl.length:Int)≤p)=true:=decide_eq_true (by omega);have e:Zmh G M p t kind=false:=by unfold Zmh;rw[decide_eq_false (by omega)];rfl
  rw[e];clear e a1 a2
  go_enter Tryz.func101,Tryz.ntmps101
  go_wp2
  go_ret
  exact⟨rfl,rfl⟩
 have q2:decide ((M.pl.length:Int)≤p)=false:=decide_eq_false (by omega);by_cases a3:t<G.f0.length
 rotate_left
 ·have q3:decide ((G.f0.length:Int)≤t)=true:=decide_eq_true (by omega);have e:Zmh G M p t kind=false:=by unfold Zmh;rw[decide_eq_false (by omega)];rfl
  rw[e];clear e a1 a2 a3
  go_enter Tryz.func101,Tryz.ntmps101
  go_wp2
  go_ret
  exact⟨rfl,rfl⟩
 have q3:decide ((G.f0.length:Int)≤t)=false:=decide_eq_false (by omega);have e:Zmh G M p t kind=((decide (0≤t)&&decide ((Zqd G t).f1=kind))||(decide (t=-1)&&decide (kind=0))):=by unfold Zmh;rw[decide_eq_true ⟨a1,a2,a3⟩];rfl
 rw[e];clear e a1 a2;by_cases b0:0≤t
 ·obtain⟨ad,A4,c4,A5,c5,rfl,_,k1,_⟩:=Zji HT.out t b0 a3;have r0:decide (0≤t)=true:=decide_eq_true b0;have r1:(t==-1)=false:=by simp;omega
  have r2:decide (t=-1)=false:=decide_eq_false (by omega);rw[r0,r2];change w.cell? _=some (.int .i64 (Zqd G t).f1)at k1;generalize (Zqd G t).f1=k at k1 ⊢;by_cases c:k=kind
  ·subst c
   go_enter Tryz.func101,Tryz.ntmps101
   go_wp2
   go_ret
   exact⟨by simp,rfl⟩
  ·have s1:(k==kind)=false:=by simpa using c
   go_enter Tryz.func101,Tryz.ntmps101
   go_wp2
   go_ret
   exact⟨by simp[c],rfl⟩
 ·have r0:decide (0≤t)=false:=decide_eq_false b0;rw[r0];clear b0 a3;by_cases b1:t=-1
  ·subst b1;by_cases c:kind=0
   ·subst c
    go_enter Tryz.func101,Tryz.ntmps101
    go_wp2
    go_ret
    exact⟨by simp,rfl⟩
   ·have s1:(kind==0)=false:=by simpa using c
    go_enter Tryz.func101,Tryz.ntmps101
    go_wp2
    go_ret
    exact⟨by simp[c],rfl⟩
  ·have s1:(t==-1)=false:=by simpa using b1
   go_enter Tryz.func101,Tryz.ntmps101
   go_wp2
   go_ret
   exact⟨by simp[b1],rfl⟩
def Zdd (G:S26)(t:Int)(l:List ByteArray):Bool:=decide (0≤t)&&hasS l (Zqd G t).f0
theorem Zgi (w:World)(gb:Nat)(G:S26)(M:Mach)(φ:Nat→Nat)(h:VR w gb G M φ)(t:Int)(ht:t<G.f0.length)(A:Option Addr)(c:Nat)(l:List ByteArray)(hr:Kd.string.C w A l.length l)(hc0:l.length≤c)(hl:l.length≤1000000) :
 Calls Tryz.prog 104 #[.pointer (some ⟨gb,0,none⟩),.int .i64 t,.slice A l.length c] w fun e w'=>e=.returned (.bool (Zdd G t l))∧Drawn0 w w':=by
 obtain⟨At,ct,Ar,cr,Ap,cp,As,cs,Af,cf,hc,lt,htt,_⟩:=h.cells;have g0:w.cell? ⟨gb,0,none⟩=some (.slice At G.f0.length ct):=(Zaa hc 0).trans rfl;have HT:=Zrw.mk htt;have HR:=Zrw.mk hr;have HC:=Zrw.mk hc0;have HL:=Zrw.mk hl;clear hc h htt lt hr hc0 hl;by_cases b0:0≤t
 ·obtain⟨ad,A4,c4,A5,c5,rfl,k0,_⟩:=Zji HT.out t b0 ht;change w.cell? _=some (.string (Zqd G t).f0)at k0;have e:Zdd G t l=hasS l (Zqd G t).f0:=by unfold Zdd;rw[decide_eq_true b0];rfl
  rw[e];generalize (Zqd G t).f0=s at k0 ⊢;clear e
  go_enter Tryz.func104,Tryz.ntmps104
  go_wp2_with (go_at_call 108;refine (Zir A c l s _ HR.out HC.out HL.out).mono ?_;rintro e w1 ⟨rfl,hd⟩;have HD:=Zrw.mk hd;clear hd)
  go_ret
  exact⟨rfl,HD.out⟩
 ·have e:Zdd G t l=false:=by unfold Zdd;rw[decide_eq_false b0];rfl
  rw[e];have r0:decide (0≤t)=false:=decide_eq_false b0;clear e b0 ht
  go_enter Tryz.func104,Tryz.ntmps104
  go_wp2
  go_ret
  exact⟨rfl,Drawn0.refl w⟩
end Go.Proofs.YtaokkliamoghbaaGreatDoor.PVpa
