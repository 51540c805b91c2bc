/- Joined from texts of this seat, in their order. -/
import Derived.Test.YtpagbjdmiepgmaaGreatDoorProg
import Derived.Test.YtpagbjdmiepgmaaGreatDoorJAa
import Derived.Below
import Derived.Deep.Draws
import Derived.Deep.AppendLies
import Derived.Maps.AppendAt
import Derived.OwnWalk
import Derived.Laws.BytesArg
import Derived.Laws.MakeOwn
import Derived.Laws.OwnMore
import Derived.Deep.OwnRows
import Derived.Tactics
import Derived.Lib.ConvBytes
import Derived.Laws.Slices
import Derived.WalkKit
import Derived.KernelRfl
import Derived.RowKit3
import Derived.Deep.LoopGhost
import Derived.Deep.QuietTactic
import Derived.BigQuiet
import Derived.WideLaws
import Derived.Deep.DeepCutAuto
import Derived.Deep.CutBlock
import Derived.Deep.RegionHeld3
import Derived.Laws.Rows
import Derived.Lib.AppendStr
import Derived.ArgAppend
import Derived.Laws.IdiomCopy
import Derived.OrdersHeld
import Derived.Laws.BitsLemmas
import Derived.RowKit
import Derived.Shelf.SlGeneric
import Derived.Shelf.SlSortCmp.WholeK
import Derived.Shelf.SlSortCmp.NoneTotal
import Derived.Shelf.SlicesG.Cmp
import Derived.StillTailTactics
import Derived.Lib.SortBridge
import Derived.Shelf.SortM.Plain
import Derived.Shelf.SortM.SortNone
import Derived.Shelf.SlicesG.CompactI
import Derived.Shelf.SlicesQ.IndexFunc
import Derived.Shelf.Spec.SlicesGrow
import Derived.Lib.OwnBridge
import Derived.Orders
import Derived.StillTail
import Derived.LaidEqlPtr
import Derived.Deep.RegionLaw
import Derived.Laws.StructEq
set_option linter.unusedVariables false
set_option linter.unusedSimpArgs false
set_option linter.unusedSectionVars false
set_option maxRecDepth 100000
namespace Go.Proofs.YtpagbjdmiepgmaaGreatDoor.PVpa
open Go.RowKit Go.Proofs.YtpagbjdmiepgmaaGreatDoorW.PrintWords Go.Proofs.YtpagbjdmiepgmaaGreatDoorW.PrintLast Go.Proofs.YtpagbjdmiepgmaaGreatDoorW.PrintMore
set_option linter.unusedVariables false
set_option linter.unusedSimpArgs false
theorem info70:(Tryz.prog.info? 70).map (fun i=>(i.zero,i.size,i.bytes))=some (some (.agg #[(.string ⟨#[]⟩),(.int .i64 0),(.int .i64 0),(.int .i64 0),(.slice none 0 0),(.slice none 0 0)]),6,88):=by kernel_rfl
structure S72 where
 f0:Int
 f1:Int
def z72:S72:=⟨(0:Int),(0:Int)⟩
def k72:Kd S72:=Kd.iso (Kd.pair (Kd.int .i32) (Kd.int .i32)) (fun x:S72=>(x.f0,x.f1))
theorem k72_open {w:World}{x:S72}{cs:List Value}(h:k72.K w x cs):cs=[.int .i32 x.f0,.int .i32 x.f1]:=by
 obtain⟨_,_,rfl,rfl,rfl⟩:=h;exact rfl
theorem k72_mk (w:World)(x:S72) :k72.K w x [.int .i32 x.f0,.int .i32 x.f1]:=⟨[.int .i32 x.f0],[.int .i32 x.f1],rfl,rfl,rfl⟩
theorem k72_mkM (w:World)(base:Nat)(ok:Nat→Prop)(x:S72) :k72.M w base ok x [.int .i32 x.f0,.int .i32 x.f1]:=⟨[.int .i32 x.f0],[.int .i32 x.f1],rfl,rfl,rfl⟩
theorem Ztw (W:World)(ok:Nat→Prop)(x:S72):Kd.FK k72 W ok x [.int .i32 x.f0,.int .i32 x.f1]:=fun W2 _=>k72_mk W2 x
def rd_T72 (xs:List S72)(i:Int):S72:=xs.getD i.toNat z72
theorem at_T72 {w:World}{A:Option Addr}{n:Nat}{xs:List S72}(h:Kd.C k72 w A n xs)(i:Int)(h0:0≤i)(h1:i<n):∃ad ,A=some ad∧w.cell? (ad.add (i.toNat*2))=some (.int .i32 (rd_T72 xs i).f0)∧w.cell? ⟨(ad.add (i.toNat*2)).block,(ad.add (i.toNat*2)).off+1,none⟩=some (.int .i32 (rd_T72 xs i).f1):=by
 obtain⟨ad,c,e,_,hK,hc0⟩:=Kd.C_get h z72 i h0 h1;have hc:∀j u,c[j]?=some u→w.cell? (ad.add (i.toNat*2+j))=some u:=hc0;obtain rfl:=k72_open hK;exact⟨ad,e,hc 0 _ rfl,by rw[←Zbb _ _ 1 (by omega)];exact hc 1 _ rfl⟩
structure S67 where
 f0:Int
 f1:(List S72)
 f2:(List S67)
def z67:S67:=⟨(0:Int),([]:List S72),([]:List S67)⟩
def F67 (d:Kd S67):Kd S67:=Kd.iso (Kd.pair (Kd.int .i64) (Kd.pair (Kd.slice 72 k72) (Kd.slice 67 d))) (fun x:S67=>(x.f0,x.f1,x.f2))
theorem mono67:Kd.Mono F67:=Kd.mono_iso _ (Kd.mono_pair (Kd.mono_const _) (Kd.mono_pair (Kd.mono_const _) (Kd.mono_slice 67 Kd.mono_id)))
theorem sub67:Kd.Sub F67 [67,72]:=Kd.sub_iso _ (Kd.sub_pair (Kd.sub_const _ (by decide)) (Kd.sub_pair (Kd.sub_const _ (by decide)) (Kd.sub_slice 67 (by decide) Kd.sub_id)))
theorem sz67:∀n,(Kd.upto F67 3 [67,72] n).sz=3:=Kd.upto_sz (fun _=>rfl)
def k67:Kd S67:=Kd.fix F67 3 [67,72] sz67 (Kd.upto_E sub67)
theorem k67_open {w:World}{x:S67}{cs:List Value}(h:k67.K w x cs):∃A1 c1 A2 c2,cs=[.int .i64 x.f0,.slice A1 x.f1.length c1,.slice A2 x.f2.length c2]∧x.f1.length≤c1∧k72.C w A1 x.f1.length x.f1∧x.f2.length≤c2∧k67.C w A2 x.f2.length x.f2:=by
 obtain⟨n,h⟩:=h;cases n with
 | zero=>exact h.elim
 | succ n=>
  obtain⟨_,_,rfl,rfl,⟨_,_,rfl,⟨A1,c1,rfl,l1,g1⟩,⟨A2,c2,rfl,l2,g2⟩⟩⟩:=h;exact⟨A1,c1,A2,c2,rfl,l1,g1,l2,Kd.fix_C g2⟩
theorem k67_mk (w:World)(x:S67){A1:Option Addr}{c1:Nat}(l1:x.f1.length≤c1)(g1:k72.C w A1 x.f1.length x.f1){A2:Option Addr}{c2:Nat}(l2:x.f2.length≤c2)(g2:k67.C w A2 x.f2.length x.f2):k67.K w x [.int .i64 x.f0,.slice A1 x.f1.length c1,.slice A2 x.f2.length c2]:=by
 obtain⟨n2,q2⟩:=Kd.fix_C_back mono67 g2;have r2:=Kd.upto_C_le mono67 sz67 (show n2≤n2 by omega) q2;exact⟨n2+1,⟨[.int .i64 x.f0],[.slice A1 x.f1.length c1,.slice A2 x.f2.length c2],rfl,rfl,⟨[.slice A1 x.f1.length c1],[.slice A2 x.f2.length c2],rfl,⟨A1,c1,rfl,l1,g1⟩,⟨A2,c2,rfl,l2,r2⟩⟩⟩⟩
theorem k67_mkF (W:World)(ok:Nat→Prop)(x:S67){A1:Option Addr}{c1:Nat}(l1:x.f1.length≤c1)(g1:Kd.F k72 W ok A1 x.f1.length x.f1){A2:Option Addr}{c2:Nat}(l2:x.f2.length≤c2)(g2:Kd.F k67 W ok A2 x.f2.length x.f2):Kd.FK k67 W ok x [.int .i64 x.f0,.slice A1 x.f1.length c1,.slice A2 x.f2.length c2]:=fun W2 hW=>k67_mk W2 x l1 (g1 W2 hW) l2 (g2 W2 hW)
def Zjf (xs:List S67)(i:Int):S67:=xs.getD i.toNat z67
theorem at_T67 {w:World}{A:Option Addr}{n:Nat}{xs:List S67}(h:Kd.C k67 w A n xs)(i:Int)(h0:0≤i)(h1:i<n):∃ad A1 c1 A2 c2,A=some ad∧w.cell? (ad.add (i.toNat*3))=some (.int .i64 (Zjf xs i).f0)∧w.cell? ⟨(ad.add (i.toNat*3)).block,(ad.add (i.toNat*3)).off+1,none⟩=some (.slice A1 (Zjf xs i).f1.length c1)∧w.cell? ⟨(ad.add (i.toNat*3)).block,(ad.add (i.toNat*3)).off+2,none⟩=some (.slice A2 (Zjf xs i).f2.length c2)∧(Zjf xs i).f1.length≤c1∧k72.C w A1 (Zjf xs i).f1.length (Zjf xs i).f1∧(Zjf xs i).f2.length≤c2∧k67.C w A2 (Zjf xs i).f2.length (Zjf xs i).f2:=by
 obtain⟨ad,c,e,_,hK,hc0⟩:=Kd.C_get h z67 i h0 h1;have hc:∀j u,c[j]?=some u→w.cell? (ad.add (i.toNat*3+j))=some u:=hc0;obtain⟨A1,c1,A2,c2,rfl,l1,g1,l2,g2⟩:=k67_open hK;exact⟨ad,A1,c1,A2,c2,e,hc 0 _ rfl,by rw[←Zbb _ _ 1 (by omega)];exact hc 1 _ rfl,by rw[←Zbb _ _ 2 (by omega)];exact hc 2 _ rfl,l1,g1,l2,g2⟩
structure S76 where
 f0:Int
 f1:(List ByteArray)
 f2:(List ByteArray)
 f3:(List S76)
def z76:S76:=⟨(0:Int),([]:List ByteArray),([]:List ByteArray),([]:List S76)⟩
def F76 (d:Kd S76):Kd S76:=Kd.iso (Kd.pair (Kd.int .i64) (Kd.pair (Kd.slice 9 Kd.string) (Kd.pair (Kd.slice 9 Kd.string) (Kd.slice 76 d)))) (fun x:S76=>(x.f0,x.f1,x.f2,x.f3))
theorem mono76:Kd.Mono F76:=Kd.mono_iso _ (Kd.mono_pair (Kd.mono_const _) (Kd.mono_pair (Kd.mono_const _) (Kd.mono_pair (Kd.mono_const _) (Kd.mono_slice 76 Kd.mono_id))))
theorem sub76:Kd.Sub F76 [9,76]:=Kd.sub_iso _ (Kd.sub_pair (Kd.sub_const _ (by decide)) (Kd.sub_pair (Kd.sub_const _ (by decide)) (Kd.sub_pair (Kd.sub_const _ (by decide)) (Kd.sub_slice 76 (by decide) Kd.sub_id))))
theorem sz76:∀n,(Kd.upto F76 4 [9,76] n).sz=4:=Kd.upto_sz (fun _=>rfl)
def k76:Kd S76:=Kd.fix F76 4 [9,76] sz76 (Kd.upto_E sub76)
theorem Zcb {w:World}{x:S76}{cs:List Value}(h:k76.K w x cs):∃A1 c1 A2 c2 A3 c3,cs=[.int .i64 x.f0,.slice A1 x.f1.length c1,.slice A2 x.f2.length c2,.slice A3 x.f3.length c3]∧x.f1.length≤c1∧Kd.string.C w A1 x.f1.length x.f1∧x.f2.length≤c2∧Kd.string.C w A2 x.f2.length x.f2∧x.f3.length≤c3∧k76.C w A3 x.f3.length x.f3:=by
 obtain⟨n,h⟩:=h;cases n with
 | zero=>exact h.elim
 | succ n=>
  obtain⟨_,_,rfl,rfl,⟨_,_,rfl,⟨A1,c1,rfl,l1,g1⟩,⟨_,_,rfl,⟨A2,c2,rfl,l2,g2⟩,⟨A3,c3,rfl,l3,g3⟩⟩⟩⟩:=h;exact⟨A1,c1,A2,c2,A3,c3,rfl,l1,g1,l2,g2,l3,Kd.fix_C g3⟩
theorem k76_mk (w:World)(x:S76){A1:Option Addr}{c1:Nat}(l1:x.f1.length≤c1)(g1:Kd.string.C w A1 x.f1.length x.f1){A2:Option Addr}{c2:Nat}(l2:x.f2.length≤c2)(g2:Kd.string.C w A2 x.f2.length x.f2){A3:Option Addr}{c3:Nat}(l3:x.f3.length≤c3)(g3:k76.C w A3 x.f3.length x.f3):k76.K w x [.int .i64 x.f0,.slice A1 x.f1.length c1,.slice A2 x.f2.length c2,.slice A3 x.f3.length c3]:=by
 obtain⟨n3,q3⟩:=Kd.fix_C_back mono76 g3;have r3:=Kd.upto_C_le mono76 sz76 (show n3≤n3 by omega) q3;exact⟨n3+1,⟨[.int .i64 x.f0],[.slice A1 x.f1.length c1,.slice A2 x.f2.length c2,.slice A3 x.f3.length c3],rfl,rfl,⟨[.slice A1 x.f1.length c1],[.slice A2 x.f2.length c2,.slice A3 x.f3.length c3],rfl,⟨A1,c1,rfl,l1,g1⟩,⟨[.slice A2 x.f2.length c2],[.slice A3 x.f3.length c3],rfl,⟨A2,c2,rfl,l2,g2⟩,⟨A3,c3,rfl,l3,r3⟩⟩⟩⟩⟩
theorem k76_openF {W:World}{ok:Nat→Prop}{x:S76}{cs:List Value}(h:Kd.FK k76 W ok x cs):∃A1 c1 A2 c2 A3 c3,cs=[.int .i64 x.f0,.slice A1 x.f1.length c1,.slice A2 x.f2.length c2,.slice A3 x.f3.length c3]∧x.f1.length≤c1∧Kd.F Kd.string W ok A1 x.f1.length x.f1∧x.f2.length≤c2∧Kd.F Kd.string W ok A2 x.f2.length x.f2∧x.f3.length≤c3∧Kd.F k76 W ok A3 x.f3.length x.f3:=by
 obtain⟨A1,c1,A2,c2,A3,c3,rfl,l1,_,l2,_,l3,_⟩:=Zcb (Kd.FK_now h);exact⟨A1,c1,A2,c2,A3,c3,rfl,l1,(fun W' hW=>by obtain⟨A1_,c1_,A2_,c2_,A3_,c3_,he,l1_,g1_,l2_,g2_,l3_,g3_⟩:=Zcb (h W' hW);injection (Option.some.inj (show some (Value.slice A1 x.f1.length c1)=some (Value.slice A1_ x.f1.length c1_)from congrArg (fun l=>l[1]?) he))with ha_ _ _;rw[ha_];exact g1_),l2,(fun W' hW=>by obtain⟨A1_,c1_,A2_,c2_,A3_,c3_,he,l1_,g1_,l2_,g2_,l3_,g3_⟩:=Zcb (h W' hW);injection (Option.some.inj (show some (Value.slice A2 x.f2.length c2)=some (Value.slice A2_ x.f2.length c2_)from congrArg (fun l=>l[2]?) he))with ha_ _ _;rw[ha_];exact g2_),l3,(fun W' hW=>by obtain⟨A1_,c1_,A2_,c2_,A3_,c3_,he,l1_,g1_,l2_,g2_,l3_,g3_⟩:=Zcb (h W' hW);injection (Option.some.inj (show some (Value.slice A3 x.f3.length c3)=some (Value.slice A3_ x.f3.length c3_)from congrArg (fun l=>l[3]?) he))with ha_ _ _;rw[ha_];exact g3_)⟩
theorem Zmk (W:World)(ok:Nat→Prop)(x:S76){A1:Option Addr}{c1:Nat}(l1:x.f1.length≤c1)(g1:Kd.F Kd.string W ok A1 x.f1.length x.f1){A2:Option Addr}{c2:Nat}(l2:x.f2.length≤c2)(g2:Kd.F Kd.string W ok A2 x.f2.length x.f2){A3:Option Addr}{c3:Nat}(l3:x.f3.length≤c3)(g3:Kd.F k76 W ok A3 x.f3.length x.f3):Kd.FK k76 W ok x [.int .i64 x.f0,.slice A1 x.f1.length c1,.slice A2 x.f2.length c2,.slice A3 x.f3.length c3]:=fun W2 hW=>k76_mk W2 x l1 (g1 W2 hW) l2 (g2 W2 hW) l3 (g3 W2 hW)
def Zaj (xs:List S76)(i:Int):S76:=xs.getD i.toNat z76
theorem at_T76 {w:World}{A:Option Addr}{n:Nat}{xs:List S76}(h:Kd.C k76 w A n xs)(i:Int)(h0:0≤i)(h1:i<n):∃ad A1 c1 A2 c2 A3 c3,A=some ad∧w.cell? (ad.add (i.toNat*4))=some (.int .i64 (Zaj xs i).f0)∧w.cell? ⟨(ad.add (i.toNat*4)).block,(ad.add (i.toNat*4)).off+1,none⟩=some (.slice A1 (Zaj xs i).f1.length c1)∧w.cell? ⟨(ad.add (i.toNat*4)).block,(ad.add (i.toNat*4)).off+2,none⟩=some (.slice A2 (Zaj xs i).f2.length c2)∧w.cell? ⟨(ad.add (i.toNat*4)).block,(ad.add (i.toNat*4)).off+3,none⟩=some (.slice A3 (Zaj xs i).f3.length c3)∧(Zaj xs i).f1.length≤c1∧Kd.string.C w A1 (Zaj xs i).f1.length (Zaj xs i).f1∧(Zaj xs i).f2.length≤c2∧Kd.string.C w A2 (Zaj xs i).f2.length (Zaj xs i).f2∧(Zaj xs i).f3.length≤c3∧k76.C w A3 (Zaj xs i).f3.length (Zaj xs i).f3:=by
 obtain⟨ad,c,e,_,hK,hc0⟩:=Kd.C_get h z76 i h0 h1;have hc:∀j u,c[j]?=some u→w.cell? (ad.add (i.toNat*4+j))=some u:=hc0;obtain⟨A1,c1,A2,c2,A3,c3,rfl,l1,g1,l2,g2,l3,g3⟩:=Zcb hK;exact⟨ad,A1,c1,A2,c2,A3,c3,e,hc 0 _ rfl,by rw[←Zbb _ _ 1 (by omega)];exact hc 1 _ rfl,by rw[←Zbb _ _ 2 (by omega)];exact hc 2 _ rfl,by rw[←Zbb _ _ 3 (by omega)];exact hc 3 _ rfl,l1,g1,l2,g2,l3,g3⟩
structure S70 where
 f0:ByteArray
 f1:Int
 f2:Int
 f3:S67
def z70:S70:=⟨(⟨#[]⟩:ByteArray),(0:Int),(0:Int),z67⟩
def k70:Kd S70:=Kd.iso (Kd.pair Kd.string (Kd.pair (Kd.int .i64) (Kd.pair (Kd.int .i64) k67))) (fun x:S70=>(x.f0,x.f1,x.f2,x.f3))
theorem k70_open {w:World}{x:S70}{cs:List Value}(h:k70.K w x cs):∃A4 c4 A5 c5,cs=[.string x.f0,.int .i64 x.f1,.int .i64 x.f2,.int .i64 x.f3.f0,.slice A4 x.f3.f1.length c4,.slice A5 x.f3.f2.length c5]∧x.f3.f1.length≤c4∧k72.C w A4 x.f3.f1.length x.f3.f1∧x.f3.f2.length≤c5∧k67.C w A5 x.f3.f2.length x.f3.f2:=by
 obtain⟨_,_,rfl,rfl,⟨_,_,rfl,rfl,⟨_,_,rfl,rfl,s3⟩⟩⟩:=h;obtain⟨A4,c4,A5,c5,rfl,l4,g4,l5,g5⟩:=k67_open s3;exact⟨A4,c4,A5,c5,rfl,l4,g4,l5,g5⟩
theorem k70_mk (w:World)(x:S70){A4:Option Addr}{c4:Nat}(l4:x.f3.f1.length≤c4)(g4:k72.C w A4 x.f3.f1.length x.f3.f1){A5:Option Addr}{c5:Nat}(l5:x.f3.f2.length≤c5)(g5:k67.C w A5 x.f3.f2.length x.f3.f2):k70.K w x [.string x.f0,.int .i64 x.f1,.int .i64 x.f2,.int .i64 x.f3.f0,.slice A4 x.f3.f1.length c4,.slice A5 x.f3.f2.length c5]:=⟨[.string x.f0],[.int .i64 x.f1,.int .i64 x.f2,.int .i64 x.f3.f0,.slice A4 x.f3.f1.length c4,.slice A5 x.f3.f2.length c5],rfl,rfl,⟨[.int .i64 x.f1],[.int .i64 x.f2,.int .i64 x.f3.f0,.slice A4 x.f3.f1.length c4,.slice A5 x.f3.f2.length c5],rfl,rfl,⟨[.int .i64 x.f2],[.int .i64 x.f3.f0,.slice A4 x.f3.f1.length c4,.slice A5 x.f3.f2.length c5],rfl,rfl,(k67_mk w x.f3 l4 g4 l5 g5)⟩⟩⟩
theorem Zka (W:World)(ok:Nat→Prop)(x:S70){A4:Option Addr}{c4:Nat}(l4:x.f3.f1.length≤c4)(g4:Kd.F k72 W ok A4 x.f3.f1.length x.f3.f1){A5:Option Addr}{c5:Nat}(l5:x.f3.f2.length≤c5)(g5:Kd.F k67 W ok A5 x.f3.f2.length x.f3.f2):Kd.FK k70 W ok x [.string x.f0,.int .i64 x.f1,.int .i64 x.f2,.int .i64 x.f3.f0,.slice A4 x.f3.f1.length c4,.slice A5 x.f3.f2.length c5]:=fun W2 hW=>k70_mk W2 x l4 (g4 W2 hW) l5 (g5 W2 hW)
def Zge (xs:List S70)(i:Int):S70:=xs.getD i.toNat z70
theorem Zmw {w:World}{A:Option Addr}{n:Nat}{xs:List S70}(h:Kd.C k70 w A n xs)(i:Int)(h0:0≤i)(h1:i<n):∃ad A4 c4 A5 c5,A=some ad∧w.cell? (ad.add (i.toNat*6))=some (.string (Zge xs i).f0)∧w.cell? ⟨(ad.add (i.toNat*6)).block,(ad.add (i.toNat*6)).off+1,none⟩=some (.int .i64 (Zge xs i).f1)∧w.cell? ⟨(ad.add (i.toNat*6)).block,(ad.add (i.toNat*6)).off+2,none⟩=some (.int .i64 (Zge xs i).f2)∧w.cell? ⟨(ad.add (i.toNat*6)).block,(ad.add (i.toNat*6)).off+3,none⟩=some (.int .i64 (Zge xs i).f3.f0)∧w.cell? ⟨(ad.add (i.toNat*6)).block,(ad.add (i.toNat*6)).off+4,none⟩=some (.slice A4 (Zge xs i).f3.f1.length c4)∧w.cell? ⟨(ad.add (i.toNat*6)).block,(ad.add (i.toNat*6)).off+5,none⟩=some (.slice A5 (Zge xs i).f3.f2.length c5)∧(Zge xs i).f3.f1.length≤c4∧k72.C w A4 (Zge xs i).f3.f1.length (Zge xs i).f3.f1∧(Zge xs i).f3.f2.length≤c5∧k67.C w A5 (Zge xs i).f3.f2.length (Zge xs i).f3.f2:=by
 obtain⟨ad,c,e,_,hK,hc0⟩:=Kd.C_get h z70 i h0 h1;have hc:∀j u,c[j]?=some u→w.cell? (ad.add (i.toNat*6+j))=some u:=hc0;obtain⟨A4,c4,A5,c5,rfl,l4,g4,l5,g5⟩:=k70_open hK;exact⟨ad,A4,c4,A5,c5,e,hc 0 _ rfl,by rw[←Zbb _ _ 1 (by omega)];exact hc 1 _ rfl,by rw[←Zbb _ _ 2 (by omega)];exact hc 2 _ rfl,by rw[←Zbb _ _ 3 (by omega)];exact hc 3 _ rfl,by rw[←Zbb _ _ 4 (by omega)];exact hc 4 _ rfl,by rw[←Zbb _ _ 5 (by omega)];exact hc 5 _ rfl,l4,g4,l5,g5⟩
structure S79 where
 f0:(List ByteArray)
 f1:S76
def z79:S79:=⟨([]:List ByteArray),z76⟩
def k79:Kd S79:=Kd.iso (Kd.pair (Kd.slice 9 Kd.string) k76) (fun x:S79=>(x.f0,x.f1))
theorem Zed {w:World}{x:S79}{cs:List Value}(h:k79.K w x cs):∃A0 c0 A2 c2 A3 c3 A4 c4,cs=[.slice A0 x.f0.length c0,.int .i64 x.f1.f0,.slice A2 x.f1.f1.length c2,.slice A3 x.f1.f2.length c3,.slice A4 x.f1.f3.length c4]∧x.f0.length≤c0∧Kd.string.C w A0 x.f0.length x.f0∧x.f1.f1.length≤c2∧Kd.string.C w A2 x.f1.f1.length x.f1.f1∧x.f1.f2.length≤c3∧Kd.string.C w A3 x.f1.f2.length x.f1.f2∧x.f1.f3.length≤c4∧k76.C w A4 x.f1.f3.length x.f1.f3:=by
 obtain⟨_,_,rfl,⟨A0,c0,rfl,l0,g0⟩,s1⟩:=h;obtain⟨A2,c2,A3,c3,A4,c4,rfl,l2,g2,l3,g3,l4,g4⟩:=Zcb s1;exact⟨A0,c0,A2,c2,A3,c3,A4,c4,rfl,l0,g0,l2,g2,l3,g3,l4,g4⟩
theorem k79_mk (w:World)(x:S79){A0:Option Addr}{c0:Nat}(l0:x.f0.length≤c0)(g0:Kd.string.C w A0 x.f0.length x.f0){A2:Option Addr}{c2:Nat}(l2:x.f1.f1.length≤c2)(g2:Kd.string.C w A2 x.f1.f1.length x.f1.f1){A3:Option Addr}{c3:Nat}(l3:x.f1.f2.length≤c3)(g3:Kd.string.C w A3 x.f1.f2.length x.f1.f2){A4:Option Addr}{c4:Nat}(l4:x.f1.f3.length≤c4)(g4:k76.C w A4 x.f1.f3.length x.f1.f3):k79.K w x [.slice A0 x.f0.length c0,.int .i64 x.f1.f0,.slice A2 x.f1.f1.length c2,.slice A3 x.f1.f2.length c3,.slice A4 x.f1.f3.length c4]:=⟨[.slice A0 x.f0.length c0],[.int .i64 x.f1.f0,.slice A2 x.f1.f1.length c2,.slice A3 x.f1.f2.length c3,.slice A4 x.f1.f3.length c4],rfl,⟨A0,c0,rfl,l0,g0⟩,(k76_mk w x.f1 l2 g2 l3 g3 l4 g4)⟩
theorem k79_openF {W:World}{ok:Nat→Prop}{x:S79}{cs:List Value}(h:Kd.FK k79 W ok x cs):∃A0 c0 A2 c2 A3 c3 A4 c4,cs=[.slice A0 x.f0.length c0,.int .i64 x.f1.f0,.slice A2 x.f1.f1.length c2,.slice A3 x.f1.f2.length c3,.slice A4 x.f1.f3.length c4]∧x.f0.length≤c0∧Kd.F Kd.string W ok A0 x.f0.length x.f0∧x.f1.f1.length≤c2∧Kd.F Kd.string W ok A2 x.f1.f1.length x.f1.f1∧x.f1.f2.length≤c3∧Kd.F Kd.string W ok A3 x.f1.f2.length x.f1.f2∧x.f1.f3.length≤c4∧Kd.F k76 W ok A4 x.f1.f3.length x.f1.f3:=by
 obtain⟨A0,c0,A2,c2,A3,c3,A4,c4,rfl,l0,_,l2,_,l3,_,l4,_⟩:=Zed (Kd.FK_now h);exact⟨A0,c0,A2,c2,A3,c3,A4,c4,rfl,l0,(fun W' hW=>by obtain⟨A0_,c0_,A2_,c2_,A3_,c3_,A4_,c4_,he,l0_,g0_,l2_,g2_,l3_,g3_,l4_,g4_⟩:=Zed (h W' hW);injection (Option.some.inj (show some (Value.slice A0 x.f0.length c0)=some (Value.slice A0_ x.f0.length c0_)from congrArg (fun l=>l[0]?) he))with ha_ _ _;rw[ha_];exact g0_),l2,(fun W' hW=>by obtain⟨A0_,c0_,A2_,c2_,A3_,c3_,A4_,c4_,he,l0_,g0_,l2_,g2_,l3_,g3_,l4_,g4_⟩:=Zed (h W' hW);injection (Option.some.inj (show some (Value.slice A2 x.f1.f1.length c2)=some (Value.slice A2_ x.f1.f1.length c2_)from congrArg (fun l=>l[2]?) he))with ha_ _ _;rw[ha_];exact g2_),l3,(fun W' hW=>by obtain⟨A0_,c0_,A2_,c2_,A3_,c3_,A4_,c4_,he,l0_,g0_,l2_,g2_,l3_,g3_,l4_,g4_⟩:=Zed (h W' hW);injection (Option.some.inj (show some (Value.slice A3 x.f1.f2.length c3)=some (Value.slice A3_ x.f1.f2.length c3_)from congrArg (fun l=>l[3]?) he))with ha_ _ _;rw[ha_];exact g3_),l4,(fun W' hW=>by obtain⟨A0_,c0_,A2_,c2_,A3_,c3_,A4_,c4_,he,l0_,g0_,l2_,g2_,l3_,g3_,l4_,g4_⟩:=Zed (h W' hW);injection (Option.some.inj (show some (Value.slice A4 x.f1.f3.length c4)=some (Value.slice A4_ x.f1.f3.length c4_)from congrArg (fun l=>l[4]?) he))with ha_ _ _;rw[ha_];exact g4_)⟩
theorem Zpi (W:World)(ok:Nat→Prop)(x:S79){A0:Option Addr}{c0:Nat}(l0:x.f0.length≤c0)(g0:Kd.F Kd.string W ok A0 x.f0.length x.f0){A2:Option Addr}{c2:Nat}(l2:x.f1.f1.length≤c2)(g2:Kd.F Kd.string W ok A2 x.f1.f1.length x.f1.f1){A3:Option Addr}{c3:Nat}(l3:x.f1.f2.length≤c3)(g3:Kd.F Kd.string W ok A3 x.f1.f2.length x.f1.f2){A4:Option Addr}{c4:Nat}(l4:x.f1.f3.length≤c4)(g4:Kd.F k76 W ok A4 x.f1.f3.length x.f1.f3):Kd.FK k79 W ok x [.slice A0 x.f0.length c0,.int .i64 x.f1.f0,.slice A2 x.f1.f1.length c2,.slice A3 x.f1.f2.length c3,.slice A4 x.f1.f3.length c4]:=fun W2 hW=>k79_mk W2 x l0 (g0 W2 hW) l2 (g2 W2 hW) l3 (g3 W2 hW) l4 (g4 W2 hW)
def Zdg (xs:List S79)(i:Int):S79:=xs.getD i.toNat z79
theorem Zoq {w:World}{A:Option Addr}{n:Nat}{xs:List S79}(h:Kd.C k79 w A n xs)(i:Int)(h0:0≤i)(h1:i<n):∃ad A0 c0 A2 c2 A3 c3 A4 c4,A=some ad∧w.cell? (ad.add (i.toNat*5))=some (.slice A0 (Zdg xs i).f0.length c0)∧w.cell? ⟨(ad.add (i.toNat*5)).block,(ad.add (i.toNat*5)).off+1,none⟩=some (.int .i64 (Zdg xs i).f1.f0)∧w.cell? ⟨(ad.add (i.toNat*5)).block,(ad.add (i.toNat*5)).off+2,none⟩=some (.slice A2 (Zdg xs i).f1.f1.length c2)∧w.cell? ⟨(ad.add (i.toNat*5)).block,(ad.add (i.toNat*5)).off+3,none⟩=some (.slice A3 (Zdg xs i).f1.f2.length c3)∧w.cell? ⟨(ad.add (i.toNat*5)).block,(ad.add (i.toNat*5)).off+4,none⟩=some (.slice A4 (Zdg xs i).f1.f3.length c4)∧(Zdg xs i).f0.length≤c0∧Kd.string.C w A0 (Zdg xs i).f0.length (Zdg xs i).f0∧(Zdg xs i).f1.f1.length≤c2∧Kd.string.C w A2 (Zdg xs i).f1.f1.length (Zdg xs i).f1.f1∧(Zdg xs i).f1.f2.length≤c3∧Kd.string.C w A3 (Zdg xs i).f1.f2.length (Zdg xs i).f1.f2∧(Zdg xs i).f1.f3.length≤c4∧k76.C w A4 (Zdg xs i).f1.f3.length (Zdg xs i).f1.f3:=by
 obtain⟨ad,c,e,_,hK,hc0⟩:=Kd.C_get h z79 i h0 h1;have hc:∀j u,c[j]?=some u→w.cell? (ad.add (i.toNat*5+j))=some u:=hc0;obtain⟨A0,c0,A2,c2,A3,c3,A4,c4,rfl,l0,g0,l2,g2,l3,g3,l4,g4⟩:=Zed hK;exact⟨ad,A0,c0,A2,c2,A3,c3,A4,c4,e,hc 0 _ rfl,by rw[←Zbb _ _ 1 (by omega)];exact hc 1 _ rfl,by rw[←Zbb _ _ 2 (by omega)];exact hc 2 _ rfl,by rw[←Zbb _ _ 3 (by omega)];exact hc 3 _ rfl,by rw[←Zbb _ _ 4 (by omega)];exact hc 4 _ rfl,l0,g0,l2,g2,l3,g3,l4,g4⟩
structure S52 where
 f0:Int
 f1:Bool
 f2:(List S79)
def z52:S52:=⟨(0:Int),false,([]:List S79)⟩
def k52:Kd S52:=Kd.iso (Kd.pair (Kd.int .i64) (Kd.pair Kd.bool (Kd.slice 79 k79))) (fun x:S52=>(x.f0,x.f1,x.f2))
theorem k52_open {w:World}{x:S52}{cs:List Value}(h:k52.K w x cs):∃A2 c2,cs=[.int .i64 x.f0,.bool x.f1,.slice A2 x.f2.length c2]∧x.f2.length≤c2∧k79.C w A2 x.f2.length x.f2:=by
 obtain⟨_,_,rfl,rfl,⟨_,_,rfl,rfl,⟨A2,c2,rfl,l2,g2⟩⟩⟩:=h;exact⟨A2,c2,rfl,l2,g2⟩
theorem k52_mk (w:World)(x:S52){A2:Option Addr}{c2:Nat}(l2:x.f2.length≤c2)(g2:k79.C w A2 x.f2.length x.f2):k52.K w x [.int .i64 x.f0,.bool x.f1,.slice A2 x.f2.length c2]:=⟨[.int .i64 x.f0],[.bool x.f1,.slice A2 x.f2.length c2],rfl,rfl,⟨[.bool x.f1],[.slice A2 x.f2.length c2],rfl,rfl,⟨A2,c2,rfl,l2,g2⟩⟩⟩
theorem k52_mkF (W:World)(ok:Nat→Prop)(x:S52){A2:Option Addr}{c2:Nat}(l2:x.f2.length≤c2)(g2:Kd.F k79 W ok A2 x.f2.length x.f2):Kd.FK k52 W ok x [.int .i64 x.f0,.bool x.f1,.slice A2 x.f2.length c2]:=fun W2 hW=>k52_mk W2 x l2 (g2 W2 hW)
def Zoc (xs:List S52)(i:Int):S52:=xs.getD i.toNat z52
theorem Zmx {w:World}{A:Option Addr}{n:Nat}{xs:List S52}(h:Kd.C k52 w A n xs)(i:Int)(h0:0≤i)(h1:i<n):∃ad A2 c2,A=some ad∧w.cell? (ad.add (i.toNat*3))=some (.int .i64 (Zoc xs i).f0)∧w.cell? ⟨(ad.add (i.toNat*3)).block,(ad.add (i.toNat*3)).off+1,none⟩=some (.bool (Zoc xs i).f1)∧w.cell? ⟨(ad.add (i.toNat*3)).block,(ad.add (i.toNat*3)).off+2,none⟩=some (.slice A2 (Zoc xs i).f2.length c2)∧(Zoc xs i).f2.length≤c2∧k79.C w A2 (Zoc xs i).f2.length (Zoc xs i).f2:=by
 obtain⟨ad,c,e,_,hK,hc0⟩:=Kd.C_get h z52 i h0 h1;have hc:∀j u,c[j]?=some u→w.cell? (ad.add (i.toNat*3+j))=some u:=hc0;obtain⟨A2,c2,rfl,l2,g2⟩:=k52_open hK;exact⟨ad,A2,c2,e,hc 0 _ rfl,by rw[←Zbb _ _ 1 (by omega)];exact hc 1 _ rfl,by rw[←Zbb _ _ 2 (by omega)];exact hc 2 _ rfl,l2,g2⟩
structure S26 where
 f0:(List S70)
 f1:(List S52)
structure Pl where
 kind:Int
 shape:Option Nat
 p:S76
 inner:Option Nat
 follow:List Int
 rule:Int
structure Sh where
 first:List Int
 last:List Int
 empty:Bool
 rule:Int
 step:Int
structure Mach where
 pl:List Pl
 sh:List (Nat × Sh)
 steps:List (List Nat)
 frees:List Int
def zPl:Pl:=⟨0,none,z76,none,[],0⟩
def zSh:Sh:=⟨[],[],false,0,0⟩
def Zbe (l:List Pl)(i:Int):Pl:=l.getD i.toNat zPl
def Zec:List (Nat × Sh)→Nat→Sh
 | [],_=>zSh
 | (k,s) :: r,i=>if k=i then s else Zec r i
def ptr (φ:Nat→Nat):Option Nat→Value
 | none=>.pointer none
 | some b=>.pointer (some ⟨φ b,0,none⟩)
theorem ptr_one (φ:Nat→Nat)(o:Option Nat):(ptr φ o).oneCell'=true:=by cases o <;> rfl
def PlK (φ:Nat→Nat)(w:World)(x:Pl)(cs:List Value):Prop:=
 ∃A1 c1 A2 c2 A3 c3 A4 c4,cs=[.int .i64 x.kind,ptr φ x.shape,.int .i64 x.p.f0,.slice A1 x.p.f1.length c1,.slice A2 x.p.f2.length c2,.slice A3 x.p.f3.length c3,ptr φ x.inner,.slice A4 x.follow.length c4,.int .i64 x.rule] ∧
  x.p.f1.length≤c1∧Kd.string.C w A1 x.p.f1.length x.p.f1∧x.p.f2.length≤c2∧Kd.string.C w A2 x.p.f2.length x.p.f2∧x.p.f3.length≤c3∧k76.C w A3 x.p.f3.length x.p.f3∧x.follow.length≤c4∧(Kd.int .i64).C w A4 x.follow.length x.follow
def kPl (φ:Nat→Nat):Kd Pl where
 sz:=9
 E:=[]
 K:=PlK φ
 M:=fun _ _ _ _ _=>False
 K_len:=by
  rintro w x cs ⟨A1,c1,A2,c2,A3,c3,A4,c4,rfl,_⟩
  rfl
 K_one:=by
  rintro w x cs ⟨A1,c1,A2,c2,A3,c3,A4,c4,rfl,_⟩ u hu;simp only[List.mem_cons,List.not_mem_nil,or_false]at hu
  rcases hu with rfl | rfl | rfl | rfl | rfl | rfl | rfl | rfl | rfl <;> first | rfl | exact ptr_one _ _
 K_below:=by
  rintro w w1 x cs hb ⟨A1,c1,A2,c2,A3,c3,A4,c4,rfl,l1,g1,l2,g2,l3,g3,l4,g4⟩;exact⟨A1,c1,A2,c2,A3,c3,A4,c4,rfl,l1,Kd.C_below g1 hb,l2,Kd.C_below g2 hb,l3,Kd.C_below g3 hb,l4,Kd.C_below g4 hb⟩
 K_of_M:=fun h=>h.elim
 M_mono:=fun _ h=>h.elim
 M_bound:=fun h=>h.elim
 M_move:=fun _ h=>h.elim
 M_lower:=fun _ h=>h.elim
theorem Zpx {φ:Nat→Nat}{w:World}{A:Option Addr}{n:Nat}{xs:List Pl}(h:Kd.C (kPl φ) w A n xs)(i:Int)(h0:0≤i)(h1:i<n) :
 ∃ad A1 c1 A2 c2 A3 c3 A4 c4,A=some ad∧w.cell? (ad.add (i.toNat*9))=some (.int .i64 (Zbe xs i).kind)
  ∧ w.cell? ⟨(ad.add (i.toNat*9)).block,(ad.add (i.toNat*9)).off+1,none⟩=some (ptr φ (Zbe xs i).shape)
  ∧ w.cell? ⟨(ad.add (i.toNat*9)).block,(ad.add (i.toNat*9)).off+2,none⟩=some (.int .i64 (Zbe xs i).p.f0)
  ∧ w.cell? ⟨(ad.add (i.toNat*9)).block,(ad.add (i.toNat*9)).off+3,none⟩=some (.slice A1 (Zbe xs i).p.f1.length c1)
  ∧ w.cell? ⟨(ad.add (i.toNat*9)).block,(ad.add (i.toNat*9)).off+4,none⟩=some (.slice A2 (Zbe xs i).p.f2.length c2)
  ∧ w.cell? ⟨(ad.add (i.toNat*9)).block,(ad.add (i.toNat*9)).off+5,none⟩=some (.slice A3 (Zbe xs i).p.f3.length c3)
  ∧ w.cell? ⟨(ad.add (i.toNat*9)).block,(ad.add (i.toNat*9)).off+6,none⟩=some (ptr φ (Zbe xs i).inner)
  ∧ w.cell? ⟨(ad.add (i.toNat*9)).block,(ad.add (i.toNat*9)).off+7,none⟩=some (.slice A4 (Zbe xs i).follow.length c4)
  ∧ w.cell? ⟨(ad.add (i.toNat*9)).block,(ad.add (i.toNat*9)).off+8,none⟩=some (.int .i64 (Zbe xs i).rule)
  ∧ (Zbe xs i).p.f1.length≤c1∧Kd.string.C w A1 (Zbe xs i).p.f1.length (Zbe xs i).p.f1
  ∧ (Zbe xs i).p.f2.length≤c2∧Kd.string.C w A2 (Zbe xs i).p.f2.length (Zbe xs i).p.f2
  ∧ (Zbe xs i).follow.length≤c4∧(Kd.int .i64).C w A4 (Zbe xs i).follow.length (Zbe xs i).follow:=by
 obtain⟨ad,c,e,_,hK,hc0⟩:=Kd.C_get h zPl i h0 h1;have hc:∀j u,c[j]?=some u→w.cell? (ad.add (i.toNat*9+j))=some u:=hc0;obtain⟨A1,c1,A2,c2,A3,c3,A4,c4,rfl,l1,g1,l2,g2,l3,g3,l4,g4⟩:=hK;exact⟨ad,A1,c1,A2,c2,A3,c3,A4,c4,e,hc 0 _ rfl,by rw[←Zbb _ _ 1 (by omega)];exact hc 1 _ rfl,by rw[←Zbb _ _ 2 (by omega)];exact hc 2 _ rfl,by rw[←Zbb _ _ 3 (by omega)];exact hc 3 _ rfl,
  by rw[←Zbb _ _ 4 (by omega)];exact hc 4 _ rfl,by rw[←Zbb _ _ 5 (by omega)];exact hc 5 _ rfl,by rw[←Zbb _ _ 6 (by omega)];exact hc 6 _ rfl,by rw[←Zbb _ _ 7 (by omega)];exact hc 7 _ rfl,by rw[←Zbb _ _ 8 (by omega)];exact hc 8 _ rfl,
  l1,g1,l2,g2,l4,g4⟩
structure ShAt (w:World)(b k:Nat)(s:Sh):Prop where
 cells:∃A1 c1 A2 c2,w.heap[b]?=some (.cells #[.int .i64 (k:Int),.slice A1 s.first.length c1,.slice A2 s.last.length c2,.bool s.empty,.int .i64 s.rule,.int .i64 s.step] 97 (0,0)) ∧
  s.first.length≤c1∧(Kd.int .i64).C w A1 s.first.length s.first∧s.last.length≤c2∧(Kd.int .i64).C w A2 s.last.length s.last
theorem ShAt.below {w w1:World}{b k:Nat}{s:Sh}(h:ShAt w b k s)(hb:Below w.heap.size w w1):ShAt w1 b k s:=by
 obtain⟨A1,c1,A2,c2,hc,l1,g1,l2,g2⟩:=h.cells;exact⟨A1,c1,A2,c2,Zag hc hb,l1,Kd.C_below g1 hb,l2,Kd.C_below g2 hb⟩
def Zic (φ:Nat→Nat):Kd Nat:=Kd.scalar (fun b=>Value.pointer (some ⟨φ b,0,none⟩)) (fun _=>rfl)
structure VR (w:World)(gb:Nat)(G:S26)(M:Mach)(φ:Nat→Nat):Prop where
 cells:∃At ct Ar cr Ap cp As cs Af cf,w.heap[gb]?=some (.cells #[.slice At G.f0.length ct,.slice Ar G.f1.length cr,.slice Ap M.pl.length cp,.slice As M.steps.length cs,.slice Af M.frees.length cf] 86 (0,0)) ∧
  G.f0.length≤ct∧k70.C w At G.f0.length G.f0∧G.f1.length≤cr∧k52.C w Ar G.f1.length G.f1∧M.pl.length≤cp∧(kPl φ).C w Ap M.pl.length M.pl ∧
  M.steps.length≤cs∧(Kd.slice 88 (Zic φ)).C w As M.steps.length M.steps∧M.frees.length≤cf∧(Kd.int .i64).C w Af M.frees.length M.frees
 shapes:∀k s,(k,s)∈M.sh→ShAt w (φ k) k s
theorem VR.below {w w1:World}{gb:Nat}{G:S26}{M:Mach}{φ:Nat→Nat}(h:VR w gb G M φ)(hb:Below w.heap.size w w1):VR w1 gb G M φ:=by
 obtain⟨⟨At,ct,Ar,cr,Ap,cp,As,cs,Af,cf,hc,l1,g1,l2,g2,l3,g3,l4,g4,l5,g5⟩,hs⟩:=h;exact⟨⟨At,ct,Ar,cr,Ap,cp,As,cs,Af,cf,Zag hc hb,l1,Kd.C_below g1 hb,l2,Kd.C_below g2 hb,l3,Kd.C_below g3 hb,l4,Kd.C_below g4 hb,l5,Kd.C_below g5 hb⟩,fun k s hk=>(hs k s hk).below hb⟩
def Zgy (M:Mach)(p:Int):Bool:=decide ((Zbe M.pl p).kind=0)||decide ((Zbe M.pl p).kind=1)
theorem len_call (w:World)(gb:Nat)(G:S26)(M:Mach)(φ:Nat→Nat)(h:VR w gb G M φ) :
 Calls Tryz.prog 10 #[.pointer (some ⟨gb,0,none⟩)] w fun e w'=>e=.returned (.int .i64 M.pl.length)∧w'=w:=by
 obtain⟨At,ct,Ar,cr,Ap,cp,As,cs,Af,cf,hc,_⟩:=h.cells;have h1:w.cell? ⟨gb,2,none⟩=some (.slice Ap M.pl.length cp):=(Zac hc 2).trans rfl;clear hc h
 go_enter Tryz.func10,Tryz.ntmps10
 go_wp2
 go_ret
 exact⟨rfl,rfl⟩
theorem len_nil (w:World):Calls Tryz.prog 10 #[.pointer none] w fun e w'=>e=.returned (.int .i64 0)∧w'=w:=by
 go_enter Tryz.func10,Tryz.ntmps10
 go_wp2
 go_ret
 exact⟨rfl,rfl⟩
theorem Zjx (w:World)(gb:Nat)(G:S26)(M:Mach)(φ:Nat→Nat)(h:VR w gb G M φ)(p:Int)(h0:0≤p)(h1:p<M.pl.length) :
 Calls Tryz.prog 36 #[.pointer (some ⟨gb,0,none⟩),.int .i64 p] w fun e w'=>e=.returned (.bool (Zgy M p))∧w'=w:=by
 obtain⟨At,ct,Ar,cr,Ap,cp,As,cs,Af,cf,hc,_,_,_,_,_,hp,_⟩:=h.cells;have g2:w.cell? ⟨gb,2,none⟩=some (.slice Ap M.pl.length cp):=(Zac hc 2).trans rfl;obtain⟨ad,A1,c1,A2,c2,A3,c3,A4,c4,rfl,k0,_⟩:=Zpx hp p h0 h1;clear hc h hp;unfold Zgy;generalize (Zbe M.pl p).kind=k at k0 ⊢;by_cases e0:k=0
 ·subst e0
  go_enter Tryz.func36,Tryz.ntmps36
  go_wp2
  go_ret
  exact⟨rfl,rfl⟩
 ·by_cases e1:k=1
  ·subst e1
   go_enter Tryz.func36,Tryz.ntmps36
   go_wp2
   go_ret
   exact⟨rfl,rfl⟩
  ·have q0:(k==0)=false:=by simpa using e0
   have q1:(k==1)=false:=by simpa using e1
   go_enter Tryz.func36,Tryz.ntmps36
   go_wp2
   go_ret
   exact⟨by simp[e0,e1],rfl⟩
set_option linter.unusedVariables false
set_option linter.unusedSimpArgs false
def slices_Index_string_string.l0:Nat→List ByteArray→ByteArray→Int→Int→Option (Int)
 | 0,_,_,_,_=>none
 | k+1,x0,x1,x7,x8=>if x8<x7 then (if 0≤x8 then (if x8<(x0.length:Int)then (if x1.toList=(rdOf ByteArray.empty x0 x8).toList then (some x8)else (slices_Index_string_string.l0 k x0 x1 x7 (wrap64 (x8+1))))else (none))else (none))else (some (-1))
def slices_Index_string_string.f (k:Nat)(l0:List ByteArray)(a1:ByteArray):Option (Int):=slices_Index_string_string.l0 k l0 a1 (l0.length:Int) 0
theorem slices_Index_string_string.mono_l:∀k,(∀y0 y1 y2 y3,LeO (slices_Index_string_string.l0 k y0 y1 y2 y3) (slices_Index_string_string.l0 (k+1) y0 y1 y2 y3))
 | 0=>fun _ _ _ _ r h=>by simp[slices_Index_string_string.l0]at h
 | k+1=>by
  have ih0:=slices_Index_string_string.mono_l k
  ·intro y0 y1 y2 y3;unfold slices_Index_string_string.l0
   repeat' first
   | (with_reducible exact ih0 _ _ _ _)
   | (with_reducible exact LeO.refl _)
   | (with_reducible exact LeO.none _)
   | (with_reducible refine LeO.ite ?_ ?_)
   | (with_reducible refine LeO.bind ?_ (fun _=>?_))
   | exact ih0 _ _ _ _
   | exact LeO.none _
   | refine LeO.ite ?_ ?_
   | refine LeO.bind ?_ (fun _=>?_)
theorem slices_Index_string_string.mono:∀a0 a1 k,LeO (slices_Index_string_string.f k a0 a1) (slices_Index_string_string.f (k+1) a0 a1):=by
 intro a0 a1 k;have ih0:=slices_Index_string_string.mono_l k;unfold slices_Index_string_string.f
 repeat' first
  | (with_reducible exact ih0 _ _ _ _)
  | (with_reducible exact LeO.refl _)
  | (with_reducible exact LeO.none _)
  | (with_reducible refine LeO.ite ?_ ?_)
  | (with_reducible refine LeO.bind ?_ (fun _=>?_))
  | exact ih0 _ _ _ _
  | exact LeO.none _
  | refine LeO.ite ?_ ?_
  | refine LeO.bind ?_ (fun _=>?_)
set_option maxHeartbeats 8000000 in
theorem slices_Index_string_string.calls (k:Nat)(A0:Option Addr)(c0:Nat)(l0:List ByteArray)(a1:ByteArray)(r:Int)(w:World)(hr0:Kd.C Kd.string w A0 l0.length l0)(hc0:l0.length≤c0)(h:slices_Index_string_string.f k l0 a1=some r) :
 Calls Tryz.prog 93 #[.slice A0 l0.length c0,.string a1] w fun e w'=>e=.returned (.int .i64 r)∧Drawn0 w w':=by
 have HR0:=Zaa.mk hr0;have HC0:=Zaa.mk hc0;clear hr0 hc0;have H:(slices_Index_string_string.l0 k l0 a1 (l0.length:Int) 0)=some r:=h;clear h;have H':=Zaa.mk H;clear H
 go_enter Tryz.func93,Tryz.ntmps93
 go_wp2
 go_loopg [8] k (fun kq v8 w'=>∃(x8_1:Int),v8=.int .i64 x8_1∧Zaa (slices_Index_string_string.l0 kq l0 a1 (l0.length:Int) x8_1=some r)∧Zaa (kq≤k)∧Drawn0 w w')
 case atStart=>exact⟨(0),(by first | rfl | (simp;done) | (simp[*];done)),H',⟨Nat.le_refl _⟩,by repeat (first | exact Drawn0.refl _ | apply Drawn0.step)⟩
 case round=>
  clear H'
  try clear p2
  obtain⟨x8_1,rfl,HA,HK1,⟨m1,rfl⟩⟩:=hrel;cases gk with
  | zero=>exact absurd HA.out (by simp[slices_Index_string_string.l0])
  | succ k1=>
   have H:=HA.out;clear HA;simp only[slices_Index_string_string.l0]at H;by_cases c3:x8_1<(l0.length:Int)
   ·rw[if_pos c3]at H;have c3b0:decide (x8_1<(l0.length:Int))=true:=decide_eq_true c3;clear c3;by_cases c4:0≤x8_1
    ·rw[if_pos c4]at H;have c4b0:decide (0≤x8_1)=true:=decide_eq_true c4;clear c4;by_cases c5:x8_1<(l0.length:Int)
     ·rw[if_pos c5]at H;have c5b0:decide (x8_1<(l0.length:Int))=true:=decide_eq_true c5;clear c5;by_cases c6:a1.toList=(rdOf ByteArray.empty l0 x8_1).toList
      ·rw[if_pos c6]at H;have c6b0:(a1.toList==(rdOf ByteArray.empty l0 x8_1).toList)=true:=beq_iff_eq.mpr c6;have c6b1:(a1.toList != (rdOf ByteArray.empty l0 x8_1).toList)=false:=bne_eq_false_iff_eq.mpr c6;clear c6;obtain rfl:=Option.some.inj H;have p342:0≤(x8_1:Int):=of_decide_eq_true (by first | (with_reducible assumption) | assumption);have q342:x8_1<(l0.length:Int):=of_decide_eq_true (by first | (with_reducible assumption) | assumption);obtain⟨ad342,e342,hx342_0⟩:=Kd.at_string HR0.out x8_1 p342 q342;cases e342
       replace p342:=eq_true p342
       replace q342:=eq_true q342
       go_wp2
       go_ret
       exact⟨by first | rfl | (simp;done) | (simp[*];done),by repeat (first | exact Drawn0.refl _ | apply Drawn0.step)⟩
      ·rw[if_neg c6]at H;have c6b0:(a1.toList==(rdOf ByteArray.empty l0 x8_1).toList)=false:=beq_eq_false_iff_ne.mpr c6;have c6b1:(a1.toList != (rdOf ByteArray.empty l0 x8_1).toList)=true:=bne_iff_ne.mpr c6;have H':=Zaa.mk H;clear H;have p342:0≤(x8_1:Int):=of_decide_eq_true (by first | (with_reducible assumption) | assumption);have q342:x8_1<(l0.length:Int):=of_decide_eq_true (by first | (with_reducible assumption) | assumption);obtain⟨ad342,e342,hx342_0⟩:=Kd.at_string HR0.out x8_1 p342 q342;cases e342
       replace p342:=eq_true p342
       replace q342:=eq_true q342
       go_wp2
       go_roundg k1
       case measure=>have:=HK1.out;omega
       case rel=>exact⟨(wrap64 (x8_1+1)),(by first | rfl | (simp;done) | (simp[*];done)),H',⟨by have:=HK1.out;omega⟩,by repeat (first | exact Drawn0.refl _ | apply Drawn0.step)⟩
     ·rw[if_neg c5]at H;exact absurd H (by simp)
    ·rw[if_neg c4]at H;exact absurd H (by simp)
   ·rw[if_neg c3]at H;have c3b0:decide (x8_1<(l0.length:Int))=false:=decide_eq_false c3;clear c3;obtain rfl:=Option.some.inj H;go_wp2
    go_ret
    exact⟨by first | rfl | (simp;done) | (simp[*];done),by repeat (first | exact Drawn0.refl _ | apply Drawn0.step)⟩
def slices_Contains_string_string.f (k:Nat)(l0:List ByteArray)(a1:ByteArray):Option (Bool):=(slices_Index_string_string.f k l0 a1).bind fun t343=>(some (decide (t343≥0)))
theorem slices_Contains_string_string.mono:∀a0 a1 k,LeO (slices_Contains_string_string.f k a0 a1) (slices_Contains_string_string.f (k+1) a0 a1):=by
 intro a0 a1 k;unfold slices_Contains_string_string.f
 repeat' first
  | (with_reducible exact slices_Index_string_string.mono _ _ _)
  | (with_reducible exact LeO.refl _)
  | (with_reducible exact LeO.none _)
  | (with_reducible refine LeO.ite ?_ ?_)
  | (with_reducible refine LeO.bind ?_ (fun _=>?_))
  | exact slices_Index_string_string.mono _ _ _
  | exact LeO.none _
  | refine LeO.ite ?_ ?_
  | refine LeO.bind ?_ (fun _=>?_)
set_option maxHeartbeats 8000000 in
theorem slices_Contains_string_string.calls (k:Nat)(A0:Option Addr)(c0:Nat)(l0:List ByteArray)(a1:ByteArray)(r:Bool)(w:World)(hr0:Kd.C Kd.string w A0 l0.length l0)(hc0:l0.length≤c0)(h:slices_Contains_string_string.f k l0 a1=some r) :
 Calls Tryz.prog 66 #[.slice A0 l0.length c0,.string a1] w fun e w'=>e=.returned (.bool r)∧Drawn0 w w':=by
 have HR0:=Zaa.mk hr0;have HC0:=Zaa.mk hc0;clear hr0 hc0;have H:((slices_Index_string_string.f k l0 a1).bind fun t343=>(some (decide (t343≥0))))=some r:=h;clear h
 replace H:=Option.bind_eq_some_iff.mp H
 obtain⟨t343,A30,H⟩:=H
 replace H:(some (decide (t343≥0)))=some r:=H
 have A3:=Zaa.mk A30;clear A30;obtain rfl:=Option.some.inj H
 go_enter Tryz.func66,Tryz.ntmps66
 go_wp2_with (first | ((with_reducible refine Zet (f:=93) rfl ?_);refine goesL_ (some 7) rfl rfl Tryz.func93 (by kernel_rfl) rfl #[.slice A0 l0.length c0,.string a1] rfl (by (try simp only[List.map_toArray,List.map_cons,List.map_nil]);first | done | rfl | (simp only[List.length_drop,List.length_take];rfl)) ?_;(with_reducible refine (slices_Index_string_string.calls k _ _ l0 a1 t343 _ ?side1 ?side2 A3.out).mono ?_);(case side1=>repeat (first | exact HR0.out | (with_reducible refine Kd.C_alloc ?_ _) | (with_reducible refine Kd.C_drewN ?_ _) | (with_reducible refine Kd.C_drew ?_)));(case side2=>exact HC0.out);rintro e w' ⟨rfl,⟨nd,rfl⟩⟩;refine⟨_,rfl,?_⟩))
 go_ret
 exact⟨by first | rfl | (simp;done) | (simp[*];done),by repeat (first | exact Drawn0.refl _ | apply Drawn0.step)⟩
def slices_Index_int_int.l0:Nat→List Int→Int→Int→Int→Option (Int)
 | 0,_,_,_,_=>none
 | k+1,x0,x1,x7,x8=>if x8<x7 then (if 0≤x8 then (if x8<(x0.length:Int)then (if x1=(rd x0 x8)then (some x8)else (slices_Index_int_int.l0 k x0 x1 x7 (wrap64 (x8+1))))else (none))else (none))else (some (-1))
def slices_Index_int_int.f (k:Nat)(l0:List Int)(a1:Int):Option (Int):=slices_Index_int_int.l0 k l0 a1 (l0.length:Int) 0
theorem slices_Index_int_int.mono_l:∀k,(∀y0 y1 y2 y3,LeO (slices_Index_int_int.l0 k y0 y1 y2 y3) (slices_Index_int_int.l0 (k+1) y0 y1 y2 y3))
 | 0=>fun _ _ _ _ r h=>by simp[slices_Index_int_int.l0]at h
 | k+1=>by
  have ih0:=slices_Index_int_int.mono_l k
  ·intro y0 y1 y2 y3;unfold slices_Index_int_int.l0
   repeat' first
   | (with_reducible exact ih0 _ _ _ _)
   | (with_reducible exact LeO.refl _)
   | (with_reducible exact LeO.none _)
   | (with_reducible refine LeO.ite ?_ ?_)
   | (with_reducible refine LeO.bind ?_ (fun _=>?_))
   | exact ih0 _ _ _ _
   | exact LeO.none _
   | refine LeO.ite ?_ ?_
   | refine LeO.bind ?_ (fun _=>?_)
theorem slices_Index_int_int.mono:∀a0 a1 k,LeO (slices_Index_int_int.f k a0 a1) (slices_Index_int_int.f (k+1) a0 a1):=by
 intro a0 a1 k;have ih0:=slices_Index_int_int.mono_l k;unfold slices_Index_int_int.f
 repeat' first
  | (with_reducible exact ih0 _ _ _ _)
  | (with_reducible exact LeO.refl _)
  | (with_reducible exact LeO.none _)
  | (with_reducible refine LeO.ite ?_ ?_)
  | (with_reducible refine LeO.bind ?_ (fun _=>?_))
  | exact ih0 _ _ _ _
  | exact LeO.none _
  | refine LeO.ite ?_ ?_
  | refine LeO.bind ?_ (fun _=>?_)
set_option maxHeartbeats 8000000 in
theorem slices_Index_int_int.calls (k:Nat)(A0:Option Addr)(c0:Nat)(l0:List Int)(a1:Int)(r:Int)(w:World)(hr0:Kd.C (Kd.int .i64) w A0 l0.length l0)(hc0:l0.length≤c0)(h:slices_Index_int_int.f k l0 a1=some r) :
 Calls Tryz.prog 96 #[.slice A0 l0.length c0,.int .i64 a1] w fun e w'=>e=.returned (.int .i64 r)∧Drawn0 w w':=by
 have HR0:=Zaa.mk hr0;have HC0:=Zaa.mk hc0;clear hr0 hc0;have H:(slices_Index_int_int.l0 k l0 a1 (l0.length:Int) 0)=some r:=h;clear h;have H':=Zaa.mk H;clear H
 go_enter Tryz.func96,Tryz.ntmps96
 go_wp2
 go_loopg [8] k (fun kq v8 w'=>∃(x8_1:Int),v8=.int .i64 x8_1∧Zaa (slices_Index_int_int.l0 kq l0 a1 (l0.length:Int) x8_1=some r)∧Zaa (kq≤k)∧Drawn0 w w')
 case atStart=>exact⟨(0),(by first | rfl | (simp;done) | (simp[*];done)),H',⟨Nat.le_refl _⟩,by repeat (first | exact Drawn0.refl _ | apply Drawn0.step)⟩
 case round=>
  clear H'
  try clear p2
  obtain⟨x8_1,rfl,HA,HK1,⟨m1,rfl⟩⟩:=hrel;cases gk with
  | zero=>exact absurd HA.out (by simp[slices_Index_int_int.l0])
  | succ k1=>
   have H:=HA.out;clear HA;simp only[slices_Index_int_int.l0]at H;by_cases c3:x8_1<(l0.length:Int)
   ·rw[if_pos c3]at H;have c3b0:decide (x8_1<(l0.length:Int))=true:=decide_eq_true c3;clear c3;by_cases c4:0≤x8_1
    ·rw[if_pos c4]at H;have c4b0:decide (0≤x8_1)=true:=decide_eq_true c4;clear c4;by_cases c5:x8_1<(l0.length:Int)
     ·rw[if_pos c5]at H;have c5b0:decide (x8_1<(l0.length:Int))=true:=decide_eq_true c5;clear c5;by_cases c6:a1=(rd l0 x8_1)
      ·rw[if_pos c6]at H;have c6b0:(a1==(rd l0 x8_1))=true:=beq_iff_eq.mpr c6;have c6b1:(a1 != (rd l0 x8_1))=false:=bne_eq_false_iff_eq.mpr c6;clear c6;obtain rfl:=Option.some.inj H;have p344:0≤(x8_1:Int):=of_decide_eq_true (by first | (with_reducible assumption) | assumption);have q344:x8_1<(l0.length:Int):=of_decide_eq_true (by first | (with_reducible assumption) | assumption);obtain⟨ad344,e344,hx344_0⟩:=Kd.at_int HR0.out x8_1 p344 q344;cases e344
       replace p344:=eq_true p344
       replace q344:=eq_true q344
       go_wp2
       go_ret
       exact⟨by first | rfl | (simp;done) | (simp[*];done),by repeat (first | exact Drawn0.refl _ | apply Drawn0.step)⟩
      ·rw[if_neg c6]at H;have c6b0:(a1==(rd l0 x8_1))=false:=beq_eq_false_iff_ne.mpr c6;have c6b1:(a1 != (rd l0 x8_1))=true:=bne_iff_ne.mpr c6;have H':=Zaa.mk H;clear H;have p344:0≤(x8_1:Int):=of_decide_eq_true (by first | (with_reducible assumption) | assumption);have q344:x8_1<(l0.length:Int):=of_decide_eq_true (by first | (with_reducible assumption) | assumption);obtain⟨ad344,e344,hx344_0⟩:=Kd.at_int HR0.out x8_1 p344 q344;cases e344
       replace p344:=eq_true p344
       replace q344:=eq_true q344
       go_wp2
       go_roundg k1
       case measure=>have:=HK1.out;omega
       case rel=>exact⟨(wrap64 (x8_1+1)),(by first | rfl | (simp;done) | (simp[*];done)),H',⟨by have:=HK1.out;omega⟩,by repeat (first | exact Drawn0.refl _ | apply Drawn0.step)⟩
     ·rw[if_neg c5]at H;exact absurd H (by simp)
    ·rw[if_neg c4]at H;exact absurd H (by simp)
   ·rw[if_neg c3]at H;have c3b0:decide (x8_1<(l0.length:Int))=false:=decide_eq_false c3;clear c3;obtain rfl:=Option.some.inj H;go_wp2
    go_ret
    exact⟨by first | rfl | (simp;done) | (simp[*];done),by repeat (first | exact Drawn0.refl _ | apply Drawn0.step)⟩
def slices_Contains_int_int.f (k:Nat)(l0:List Int)(a1:Int):Option (Bool):=(slices_Index_int_int.f k l0 a1).bind fun t345=>(some (decide (t345≥0)))
theorem slices_Contains_int_int.mono:∀a0 a1 k,LeO (slices_Contains_int_int.f k a0 a1) (slices_Contains_int_int.f (k+1) a0 a1):=by
 intro a0 a1 k;unfold slices_Contains_int_int.f
 repeat' first
  | (with_reducible exact slices_Index_int_int.mono _ _ _)
  | (with_reducible exact LeO.refl _)
  | (with_reducible exact LeO.none _)
  | (with_reducible refine LeO.ite ?_ ?_)
  | (with_reducible refine LeO.bind ?_ (fun _=>?_))
  | exact slices_Index_int_int.mono _ _ _
  | exact LeO.none _
  | refine LeO.ite ?_ ?_
  | refine LeO.bind ?_ (fun _=>?_)
set_option maxHeartbeats 8000000 in
theorem slices_Contains_int_int.calls (k:Nat)(A0:Option Addr)(c0:Nat)(l0:List Int)(a1:Int)(r:Bool)(w:World)(hr0:Kd.C (Kd.int .i64) w A0 l0.length l0)(hc0:l0.length≤c0)(h:slices_Contains_int_int.f k l0 a1=some r) :
 Calls Tryz.prog 70 #[.slice A0 l0.length c0,.int .i64 a1] w fun e w'=>e=.returned (.bool r)∧Drawn0 w w':=by
 have HR0:=Zaa.mk hr0;have HC0:=Zaa.mk hc0;clear hr0 hc0;have H:((slices_Index_int_int.f k l0 a1).bind fun t345=>(some (decide (t345≥0))))=some r:=h;clear h
 replace H:=Option.bind_eq_some_iff.mp H
 obtain⟨t345,A30,H⟩:=H
 replace H:(some (decide (t345≥0)))=some r:=H
 have A3:=Zaa.mk A30;clear A30;obtain rfl:=Option.some.inj H
 go_enter Tryz.func70,Tryz.ntmps70
 go_wp2_with (first | ((with_reducible refine Zet (f:=96) rfl ?_);refine goesL_ (some 7) rfl rfl Tryz.func96 (by kernel_rfl) rfl #[.slice A0 l0.length c0,.int .i64 a1] rfl (by (try simp only[List.map_toArray,List.map_cons,List.map_nil]);first | done | rfl | (simp only[List.length_drop,List.length_take];rfl)) ?_;(with_reducible refine (slices_Index_int_int.calls k _ _ l0 a1 t345 _ ?side1 ?side2 A3.out).mono ?_);(case side1=>repeat (first | exact HR0.out | (with_reducible refine Kd.C_alloc ?_ _) | (with_reducible refine Kd.C_drewN ?_ _) | (with_reducible refine Kd.C_drew ?_)));(case side2=>exact HC0.out);rintro e w' ⟨rfl,⟨nd,rfl⟩⟩;refine⟨_,rfl,?_⟩))
 go_ret
 exact⟨by first | rfl | (simp;done) | (simp[*];done),by repeat (first | exact Drawn0.refl _ | apply Drawn0.step)⟩
def hasI (l:List Int)(x:Int):Bool:=l.any fun y=>decide (x=y)
def hasS (l:List ByteArray)(x:ByteArray):Bool:=l.any fun y=>decide (x.toList=y.toList)
theorem EvL {α:Type}{g:Nat→Option α}{r:α}(h:∀k,g (k+1)=some r):Ev g r:=⟨1,fun k hk=>by obtain⟨m,rfl⟩:∃m,k=m+1:=⟨k-1,by omega⟩;exact h m⟩
theorem index_i (l:List Int)(x:Int)(hl:l.length≤9223372036854775806)(m:Nat):∀i:Nat,i+m=l.length→∃r:Int,Ev (fun k=>slices_Index_int_int.l0 k l x (l.length:Int) i) r∧(decide (r≥0)=hasI (l.drop i) x):=by
 induction m with
 | zero=>
  intro i hi;refine⟨-1,EvL fun k=>?_,?_⟩
  ·rw[slices_Index_int_int.l0,if_neg (by omega)]
  ·rw[List.drop_of_length_le (by omega)];rfl
 | succ m ih=>
  intro i hi;have hd:l.drop i=l[i]'(by omega) :: l.drop (i+1):=List.drop_eq_getElem_cons (by omega);have hr:rd l i=l[i]'(by omega):=by simp[rd,List.getD_eq_getElem?_getD,List.getElem?_eq_getElem (show i<l.length by omega)]
  by_cases c:x=rd l i
  ·refine⟨i,EvL fun k=>?_,?_⟩
   ·rw[slices_Index_int_int.l0,if_pos (by omega),if_pos (by omega),if_pos (by omega),if_pos c]
   ·rw[hd];have:x=l[i]'(by omega):=by rw[←hr];exact c
    unfold hasI;rw[List.any_cons,decide_eq_true this,Bool.true_or];exact decide_eq_true (by omega)
  ·obtain⟨r,hv,he⟩:=ih (i+1) (by omega);refine⟨r,Ev.step (fun k=>?_) hv,?_⟩
   ·rw[slices_Index_int_int.l0,if_pos (by omega),if_pos (by omega),if_pos (by omega),if_neg c];rw[show wrap64 ((i:Int)+1)=((i+1:Nat):Int) by unfold wrap64;omega]
   ·rw[he,hd];have:¬x=l[i]'(by omega):=by rw[←hr];exact c
    unfold hasI;rw[List.any_cons,decide_eq_false this,Bool.false_or]
theorem contains_i (A:Option Addr)(c:Nat)(l:List Int)(x:Int)(w:World)(h:(Kd.int .i64).C w A l.length l)(hc:l.length≤c)(hl:l.length≤1000000) :
 Calls Tryz.prog 70 #[.slice A l.length c,.int .i64 x] w fun e w'=>e=.returned (.bool (hasI l x))∧Drawn0 w w':=by
 obtain⟨r,hv,he⟩:=index_i l x (by omega) l.length 0 (by omega);obtain⟨k,hk⟩:=hv.rounds;have hf:slices_Contains_int_int.f k l x=some (hasI l x):=by
  unfold slices_Contains_int_int.f slices_Index_int_int.f;have hk':slices_Index_int_int.l0 k l x (l.length:Int) 0=some r:=hk;rw[hk'];simp only[Option.bind_some];rw[he];rfl
 exact slices_Contains_int_int.calls k A c l x _ w h hc hf
theorem index_s (l:List ByteArray)(x:ByteArray)(hl:l.length≤9223372036854775806)(m:Nat):∀i:Nat,i+m=l.length→∃r:Int,Ev (fun k=>slices_Index_string_string.l0 k l x (l.length:Int) i) r∧(decide (r≥0)=hasS (l.drop i) x):=by
 induction m with
 | zero=>
  intro i hi;refine⟨-1,EvL fun k=>?_,?_⟩
  ·rw[slices_Index_string_string.l0,if_neg (by omega)]
  ·rw[List.drop_of_length_le (by omega)];rfl
 | succ m ih=>
  intro i hi;have hd:l.drop i=l[i]'(by omega) :: l.drop (i+1):=List.drop_eq_getElem_cons (by omega);have hr:rdOf ByteArray.empty l i=l[i]'(by omega):=by simp[rdOf,List.getD_eq_getElem?_getD,List.getElem?_eq_getElem (show i<l.length by omega)]
  by_cases c:x.toList=(rdOf ByteArray.empty l i).toList
  ·refine⟨i,EvL fun k=>?_,?_⟩
   ·rw[slices_Index_string_string.l0,if_pos (by omega),if_pos (by omega),if_pos (by omega),if_pos c]
   ·rw[hd];have:x.toList=(l[i]'(by omega)).toList:=by rw[←hr];exact c
    unfold hasS;rw[List.any_cons,decide_eq_true this,Bool.true_or];exact decide_eq_true (by omega)
  ·obtain⟨r,hv,he⟩:=ih (i+1) (by omega);refine⟨r,Ev.step (fun k=>?_) hv,?_⟩
   ·rw[slices_Index_string_string.l0,if_pos (by omega),if_pos (by omega),if_pos (by omega),if_neg c];rw[show wrap64 ((i:Int)+1)=((i+1:Nat):Int) by unfold wrap64;omega]
   ·rw[he,hd];have:¬x.toList=(l[i]'(by omega)).toList:=by rw[←hr];exact c
    unfold hasS;rw[List.any_cons,decide_eq_false this,Bool.false_or]
theorem Zkd (A:Option Addr)(c:Nat)(l:List ByteArray)(x:ByteArray)(w:World)(h:Kd.string.C w A l.length l)(hc:l.length≤c)(hl:l.length≤1000000) :
 Calls Tryz.prog 66 #[.slice A l.length c,.string x] w fun e w'=>e=.returned (.bool (hasS l x))∧Drawn0 w w':=by
 obtain⟨r,hv,he⟩:=index_s l x (by omega) l.length 0 (by omega);obtain⟨k,hk⟩:=hv.rounds;have hf:slices_Contains_string_string.f k l x=some (hasS l x):=by
  unfold slices_Contains_string_string.f slices_Index_string_string.f;have hk':slices_Index_string_string.l0 k l x (l.length:Int) 0=some r:=hk;rw[hk'];simp only[Option.bind_some];rw[he];rfl
 exact slices_Contains_string_string.calls k A c l x _ w h hc hf
def Zow (G:S26)(t:Int):S70:=G.f0.getD t.toNat z70
def Zja (G:S26)(M:Mach)(p t kind:Int):Bool:=
 decide (0≤p∧p<M.pl.length∧t<G.f0.length)&&((decide (0≤t)&&decide ((Zow G t).f1=kind))||(decide (t=-1)&&decide (kind=0)))
theorem Zlc (w:World)(gb:Nat)(G:S26)(M:Mach)(φ:Nat→Nat)(h:VR w gb G M φ)(p t kind:Int) :
 Calls Tryz.prog 35 #[.pointer (some ⟨gb,0,none⟩),.int .i64 p,.int .i64 t,.int .i64 kind] w fun e w'=>e=.returned (.bool (Zja G M p t kind))∧w'=w:=by
 obtain⟨At,ct,Ar,cr,Ap,cp,As,cs,Af,cf,hc,lt,ht,_,_,lp,hp,_⟩:=h.cells;have g0:w.cell? ⟨gb,0,none⟩=some (.slice At G.f0.length ct):=(Zac hc 0).trans rfl;have g2:w.cell? ⟨gb,2,none⟩=some (.slice Ap M.pl.length cp):=(Zac hc 2).trans rfl;have HT:=Zaa.mk ht;clear hc h hp lt lp ht;by_cases a1:0≤p
 rotate_left
 ·have q1:decide (p<0)=true:=decide_eq_true (by omega);have e:Zja G M p t kind=false:=by unfold Zja;rw[decide_eq_false (by omega)];rfl
  rw[e];clear e a1
  go_enter Tryz.func35,Tryz.ntmps35
  go_wp2
  go_ret
  exact⟨rfl,rfl⟩
 have q1:decide (p<0)=false:=decide_eq_false (by omega);by_cases a2:p<M.pl.length
 rotate_left
 ·have q2:decide ((M.pl.length:Int)≤p)=true:=decide_eq_true (by omega);have e:Zja G M p t kind=false:=by unfold Zja;rw[decide_eq_false (by omega)];rfl
  rw[e];clear e a1 a2
  go_enter Tryz.func35,Tryz.ntmps35
  go_wp2
  go_ret
  exact⟨rfl,rfl⟩
 have q2:decide ((M.pl.length:Int)≤p)=false:=decide_eq_false (by omega);by_cases a3:t<G.f0.length
 rotate_left
 ·have q3:decide ((G.f0.length:Int)≤t)=true:=decide_eq_true (by omega);have e:Zja G M p t kind=false:=by unfold Zja;rw[decide_eq_false (by omega)];rfl
  rw[e];clear e a1 a2 a3
  go_enter Tryz.func35,Tryz.ntmps35
  go_wp2
  go_ret
  exact⟨rfl,rfl⟩
 have q3:decide ((G.f0.length:Int)≤t)=false:=decide_eq_false (by omega);have e:Zja G M p t kind=((decide (0≤t)&&decide ((Zow G t).f1=kind))||(decide (t=-1)&&decide (kind=0))):=by unfold Zja;rw[decide_eq_true ⟨a1,a2,a3⟩];rfl
 rw[e];clear e a1 a2;by_cases b0:0≤t
 ·obtain⟨ad,A4,c4,A5,c5,rfl,_,k1,_⟩:=Zmw HT.out t b0 a3;have r0:decide (0≤t)=true:=decide_eq_true b0;have r1:(t==-1)=false:=by simp;omega
  have r2:decide (t=-1)=false:=decide_eq_false (by omega);rw[r0,r2];change w.cell? _=some (.int .i64 (Zow G t).f1)at k1;generalize (Zow G t).f1=k at k1 ⊢;by_cases c:k=kind
  ·subst c
   go_enter Tryz.func35,Tryz.ntmps35
   go_wp2
   go_ret
   exact⟨by simp,rfl⟩
  ·have s1:(k==kind)=false:=by simpa using c
   go_enter Tryz.func35,Tryz.ntmps35
   go_wp2
   go_ret
   exact⟨by simp[c],rfl⟩
 ·have r0:decide (0≤t)=false:=decide_eq_false b0;rw[r0];clear b0 a3;by_cases b1:t=-1
  ·subst b1;by_cases c:kind=0
   ·subst c
    go_enter Tryz.func35,Tryz.ntmps35
    go_wp2
    go_ret
    exact⟨by simp,rfl⟩
   ·have s1:(kind==0)=false:=by simpa using c
    go_enter Tryz.func35,Tryz.ntmps35
    go_wp2
    go_ret
    exact⟨by simp[c],rfl⟩
  ·have s1:(t==-1)=false:=by simpa using b1
   go_enter Tryz.func35,Tryz.ntmps35
   go_wp2
   go_ret
   exact⟨by simp[b1],rfl⟩
def Zdp (G:S26)(t:Int)(l:List ByteArray):Bool:=decide (0≤t)&&hasS l (Zow G t).f0
theorem Zia (w:World)(gb:Nat)(G:S26)(M:Mach)(φ:Nat→Nat)(h:VR w gb G M φ)(t:Int)(ht:t<G.f0.length)(A:Option Addr)(c:Nat)(l:List ByteArray)(hr:Kd.string.C w A l.length l)(hc0:l.length≤c)(hl:l.length≤1000000) :
 Calls Tryz.prog 38 #[.pointer (some ⟨gb,0,none⟩),.int .i64 t,.slice A l.length c] w fun e w'=>e=.returned (.bool (Zdp G t l))∧Drawn0 w w':=by
 obtain⟨At,ct,Ar,cr,Ap,cp,As,cs,Af,cf,hc,lt,htt,_⟩:=h.cells;have g0:w.cell? ⟨gb,0,none⟩=some (.slice At G.f0.length ct):=(Zac hc 0).trans rfl;have HT:=Zaa.mk htt;have HR:=Zaa.mk hr;have HC:=Zaa.mk hc0;have HL:=Zaa.mk hl;clear hc h htt lt hr hc0 hl;by_cases b0:0≤t
 ·obtain⟨ad,A4,c4,A5,c5,rfl,k0,_⟩:=Zmw HT.out t b0 ht;change w.cell? _=some (.string (Zow G t).f0)at k0;have e:Zdp G t l=hasS l (Zow G t).f0:=by unfold Zdp;rw[decide_eq_true b0];rfl
  rw[e];generalize (Zow G t).f0=s at k0 ⊢;clear e
  go_enter Tryz.func38,Tryz.ntmps38
  go_wp2_with (go_at_call 66;refine (Zkd A c l s _ HR.out HC.out HL.out).mono ?_;rintro e w1 ⟨rfl,hd⟩;have HD:=Zaa.mk hd;clear hd)
  go_ret
  exact⟨rfl,HD.out⟩
 ·have e:Zdp G t l=false:=by unfold Zdp;rw[decide_eq_false b0];rfl
  rw[e];have r0:decide (0≤t)=false:=decide_eq_false b0;clear e b0 ht
  go_enter Tryz.func38,Tryz.ntmps38
  go_wp2
  go_ret
  exact⟨rfl,Drawn0.refl w⟩
theorem Zfx (p:Value)(c:Int)(w:World):Calls Tryz.prog 61 #[p,.bool true,.int .i64 c] w fun e w'=>e=.returned (.tuple #[])∧w'=w:=by
 go_enter Tryz.func61,Tryz.ntmps61
 go_wp2
 go_end0
 exact⟨rfl,rfl⟩
theorem class_ok (p:Value)(n:Int)(h0:0≤n)(h1:n≤31)(w:World):Calls Tryz.prog 86 #[p,.int .i64 n] w fun e w'=>e=.returned (.tuple #[])∧w'=w:=by
 have q0:decide (0≤n)=true:=decide_eq_true h0;have q1:decide (n≤31)=true:=decide_eq_true h1;clear h0 h1
 go_enter Tryz.func86,Tryz.ntmps86
 go_wp2_with (go_at_call 61;refine (Zfx _ _ _).mono ?_;rintro e w1 ⟨rfl,rfl⟩)
 go_end0
 exact⟨rfl,rfl⟩
theorem Zmc (x:Int)(h0:0≤x)(h1:x<55296)(w:World):Calls Tryz.prog 161 #[.int .i32 x] w fun e w'=>e=.returned (.int .i64 x)∧w'=w:=by
 have q0:decide (x<0)=false:=decide_eq_false (by omega);have q1:decide (x<55296)=true:=decide_eq_true h1;have hw:wrap64 x=x:=by unfold wrap64;omega
 clear h0 h1
 go_enter Tryz.func161,Tryz.ntmps161
 go_wp2
 go_ret
 exact⟨congrArg (fun z=>Ending.returned (Value.int .i64 z)) hw,rfl⟩
theorem is_call (x:Int)(h0:0≤x)(h1:x<55296)(w:World):Calls Tryz.prog 165 #[.int .i32 x] w fun e w'=>e=.returned (.bool true)∧w'=w:=by
 have q0:decide (0≤x)=true:=decide_eq_true (by omega);have q1:decide (x<55296)=true:=decide_eq_true h1;clear h0 h1
 go_enter Tryz.func165,Tryz.ntmps165
 go_wp2
 go_ret
 exact⟨rfl,rfl⟩
theorem Zuk (x:Int)(h0:0≤x)(h1:x<55296)(w:World):Calls Tryz.prog 162 #[.int .i32 x] w fun e w'=>e=.returned (.int .i64 (x+1))∧w'=w:=by
 have hw:wrap64 (x+1)=x+1:=by unfold wrap64;omega
 have HN:=Zaa.mk (fun w=>Zmc x h0 h1 w);have HI:=Zaa.mk (fun w=>is_call x h0 h1 w);clear h0 h1
 go_enter Tryz.func162,Tryz.ntmps162
 go_wp2_with (first | (go_at_call 161;refine (HN.out _).mono ?_;rintro e w1 ⟨rfl,rfl⟩) | (go_at_call 165;refine (HI.out _).mono ?_;rintro e w1 ⟨rfl,rfl⟩))
 go_ret
 exact⟨congrArg (fun z=>Ending.returned (Value.int .i64 z)) hw,rfl⟩
theorem Znr (x:Int)(h0:0≤x)(h1:x<55296)(w:World):Calls Tryz.prog 160 #[.int .i64 x] w fun e w'=>e=.returned (.int .i32 x)∧w'=w:=by
 have q1:decide (x<55296)=true:=decide_eq_true h1;have hw:wrap32 x=x:=by unfold wrap32;omega
 clear h0 h1
 go_enter Tryz.func160,Tryz.ntmps160
 go_wp2
 go_ret
 exact⟨congrArg (fun z=>Ending.returned (Value.int .i32 z)) hw,rfl⟩
def Zgj:Kd Int:=Kd.iso (Kd.pair (Kd.int .i64) (Kd.int .i64)) (fun x=>(x,x+1))
theorem Zib {w:World}{x:Int}{cs:List Value}(h:Zgj.K w x cs):cs=[.int .i64 x,.int .i64 (x+1)]:=by
 obtain⟨c0,c1,rfl,h0,h1⟩:=h;have e0:c0=[.int .i64 x]:=h0;have e1:c1=[.int .i64 (x+1)]:=h1;rw[e0,e1];rfl
theorem Zjm (w:World)(base:Nat)(ok:Nat→Prop)(x:Int):Zgj.M w base ok x [.int .i64 x,.int .i64 (x+1)]:=⟨[.int .i64 x],[.int .i64 (x+1)],rfl,rfl,rfl⟩
theorem Ztz:(Tryz.prog.info? 217).map (fun i=>(i.zero,i.size,i.bytes))=some (some (.agg #[.int .i64 0,.int .i64 0]),2,16):=by kernel_rfl
structure Sgl (l:List Int):Prop where
 lo:∀x∈l,0≤x∧x<55296
 gap:l.Pairwise (fun x y=>x+1<y)
 few:l.length≤2
def rgs (l:List Int):List S72:=l.map fun x=>⟨x,x⟩
def rI (l:List Int)(k:Nat):Int:=l.getD k 0
theorem rgs_at (l:List Int)(k:Nat)(hk:k<l.length):rd_T72 (rgs l) (k:Int)=⟨rI l k,rI l k⟩:=by
 unfold rd_T72 rgs rI;rw[Int.toNat_natCast,List.getD_eq_getElem?_getD,List.getD_eq_getElem?_getD,List.getElem?_map,List.getElem?_eq_getElem hk]
 rfl
theorem Sgl.at_ {l:List Int}(h:Sgl l){k:Nat}(hk:k<l.length):0≤rI l k∧rI l k<55296:=by
 unfold rI;rw[List.getD_eq_getElem?_getD,List.getElem?_eq_getElem hk];exact h.lo _ (List.getElem_mem hk)
abbrev Zca (W W':World):Prop:=Below W.heap.size W W'
theorem Zbk (w:World):Zca w w:=Zbr
theorem Zbf (w w1 w2:World)(h:Zca w w1)(k:Zca w1 w2):Zca w w2:=Zaf h k
end Go.Proofs.YtpagbjdmiepgmaaGreatDoor.PVpa
namespace Go.Proofs
open Go.Shelf
def Tryz.sortP_ren:Go.Shelf.Ren:=⟨fun | 6=>46 | 15=>72 | 14=>71 | 28=>105 | 29=>106 | 20=>97 | 21=>98 | 22=>99 | 23=>100 | 24=>101 | 25=>102 | 26=>103 | 27=>104 | 46=>129 | 47=>130 | 48=>131 | 49=>132 | 50=>133 | 57=>150 | n=>n,fun | 22=>42 | 24=>53 | 25=>111 | 3=>3 | 39=>46 | 0=>0 | 53=>171 | 55=>173 | 4=>4 | 46=>164 | 45=>163 | 50=>168 | 5=>5 | 9=>9 | 66=>190 | 70=>194 | 76=>205 | 77=>81 | n=>n,fun | n=>n⟩
theorem Tryz.sortP:Go.Proofs.SlLaysF0.n6 Tryz.prog Tryz.sortP_ren:={
 mixed:=by kernel_rfl
 f6:=⟨Tryz.f46.name,by decide,Tryz.func46.trans (congrArg some (by kernel_rfl))⟩
 f14:=⟨Tryz.f71.name,by decide,Tryz.func71.trans (congrArg some (by kernel_rfl))⟩
 f15:=Tryz.func72.trans (congrArg some (by kernel_rfl))
 f20:=⟨Tryz.f97.name,by decide,Tryz.func97.trans (congrArg some (by kernel_rfl))⟩
 f21:=⟨Tryz.f98.name,by decide,Tryz.func98.trans (congrArg some (by kernel_rfl))⟩
 f22:=⟨Tryz.f99.name,by decide,Tryz.func99.trans (congrArg some (by kernel_rfl))⟩
 f23:=⟨Tryz.f100.name,by decide,Tryz.func100.trans (congrArg some (by kernel_rfl))⟩
 f24:=⟨Tryz.f101.name,by decide,Tryz.func101.trans (congrArg some (by kernel_rfl))⟩
 f25:=⟨Tryz.f102.name,by decide,Tryz.func102.trans (congrArg some (by kernel_rfl))⟩
 f26:=⟨Tryz.f103.name,by decide,Tryz.func103.trans (congrArg some (by kernel_rfl))⟩
 f27:=⟨Tryz.f104.name,by decide,Tryz.func104.trans (congrArg some (by kernel_rfl))⟩
 f28:=Tryz.func105.trans (congrArg some (by kernel_rfl))
 f29:=Tryz.func106.trans (congrArg some (by kernel_rfl))
 f46:=⟨Tryz.f129.name,by decide,Tryz.func129.trans (congrArg some (by kernel_rfl))⟩
 f47:=Tryz.func130.trans (congrArg some (by kernel_rfl))
 f48:=Tryz.func131.trans (congrArg some (by kernel_rfl))
 f49:=⟨Tryz.f132.name,by decide,Tryz.func132.trans (congrArg some (by kernel_rfl))⟩
 f50:=⟨Tryz.f133.name,by decide,Tryz.func133.trans (congrArg some (by kernel_rfl))⟩
 f57:=⟨Tryz.f150.name,by decide,Tryz.func150.trans (congrArg some (by kernel_rfl))⟩
 t0:=Tryz.underlying0
 a0:=Tryz.isAgg0
 z0:=Tryz.sizeOf0
 v0:=Tryz.zeroValue0
 t3:=Tryz.underlying3
 a3:=Tryz.isAgg3
 z3:=Tryz.sizeOf3
 v3:=Tryz.zeroValue3
 t4:=Tryz.underlying4
 a4:=Tryz.isAgg4
 z4:=Tryz.sizeOf4
 v4:=Tryz.zeroValue4
 t5:=Tryz.underlying5
 a5:=Tryz.isAgg5
 z5:=Tryz.sizeOf5
 v5:=Tryz.zeroValue5
 t9:=Tryz.underlying9
 a9:=Tryz.isAgg9
 z9:=Tryz.sizeOf9
 v9:=Tryz.zeroValue9
 t22:=Tryz.underlying42
 a22:=Tryz.isAgg42
 z22:=Tryz.sizeOf42
 v22:=Tryz.zeroValue42
 t25:=Tryz.underlying111
 a25:=Tryz.isAgg111
 z25:=Tryz.sizeOf111
 v25:=Tryz.zeroValue111
 t39:=Tryz.underlying46
 a39:=Tryz.isAgg46
 z39:=Tryz.sizeOf46
 v39:=Tryz.zeroValue46
 t45:=Tryz.underlying163
 a45:=Tryz.isAgg163
 z45:=Tryz.sizeOf163
 v45:=Tryz.zeroValue163
 t46:=Tryz.underlying164
 a46:=Tryz.isAgg164
 z46:=Tryz.sizeOf164
 v46:=Tryz.zeroValue164
 t50:=Tryz.underlying168
 a50:=Tryz.isAgg168
 z50:=Tryz.sizeOf168
 v50:=Tryz.zeroValue168
 t53:=Tryz.underlying171
 a53:=Tryz.isAgg171
 z53:=Tryz.sizeOf171
 v53:=Tryz.zeroValue171
 t55:=Tryz.underlying173
 a55:=Tryz.isAgg173
 z55:=Tryz.sizeOf173
 v55:=Tryz.zeroValue173
 t66:=Tryz.underlying190
 a66:=Tryz.isAgg190
 z66:=Tryz.sizeOf190
 v66:=Tryz.zeroValue190
 t70:=Tryz.underlying194
 a70:=Tryz.isAgg194
 z70:=Tryz.sizeOf194
 v70:=Tryz.zeroValue194
 t76:=Tryz.underlying205
 a76:=Tryz.isAgg205
 z76:=Tryz.sizeOf205
 v76:=Tryz.zeroValue205
 t77:=Tryz.underlying81
 a77:=Tryz.isAgg81
 z77:=Tryz.sizeOf81
 v77:=Tryz.zeroValue81 }
def Tryz.sortSpan_ren:Go.Shelf.Ren:=⟨fun | 6=>163 | 15=>72 | 14=>166 | 28=>105 | 29=>106 | 20=>167 | 21=>168 | 22=>169 | 23=>170 | 24=>171 | 25=>172 | 26=>173 | 27=>174 | 46=>175 | 47=>130 | 48=>131 | 49=>176 | 50=>177 | 57=>178 | n=>n,fun | 22=>214 | 24=>217 | 25=>221 | 3=>3 | 39=>46 | 0=>0 | 53=>171 | 55=>173 | 4=>4 | 46=>164 | 45=>163 | 50=>168 | 5=>5 | 9=>9 | 66=>190 | 70=>194 | 76=>205 | 77=>81 | n=>n,fun | n=>n⟩
theorem Tryz.sortSpan:Go.Proofs.SlLaysF0.n6 Tryz.prog Tryz.sortSpan_ren:={
 mixed:=by kernel_rfl
 f6:=⟨Tryz.f163.name,by decide,Tryz.func163.trans (congrArg some (by kernel_rfl))⟩
 f14:=⟨Tryz.f166.name,by decide,Tryz.func166.trans (congrArg some (by kernel_rfl))⟩
 f15:=Tryz.func72.trans (congrArg some (by kernel_rfl))
 f20:=⟨Tryz.f167.name,by decide,Tryz.func167.trans (congrArg some (by kernel_rfl))⟩
 f21:=⟨Tryz.f168.name,by decide,Tryz.func168.trans (congrArg some (by kernel_rfl))⟩
 f22:=⟨Tryz.f169.name,by decide,Tryz.func169.trans (congrArg some (by kernel_rfl))⟩
 f23:=⟨Tryz.f170.name,by decide,Tryz.func170.trans (congrArg some (by kernel_rfl))⟩
 f24:=⟨Tryz.f171.name,by decide,Tryz.func171.trans (congrArg some (by kernel_rfl))⟩
 f25:=⟨Tryz.f172.name,by decide,Tryz.func172.trans (congrArg some (by kernel_rfl))⟩
 f26:=⟨Tryz.f173.name,by decide,Tryz.func173.trans (congrArg some (by kernel_rfl))⟩
 f27:=⟨Tryz.f174.name,by decide,Tryz.func174.trans (congrArg some (by kernel_rfl))⟩
 f28:=Tryz.func105.trans (congrArg some (by kernel_rfl))
 f29:=Tryz.func106.trans (congrArg some (by kernel_rfl))
 f46:=⟨Tryz.f175.name,by decide,Tryz.func175.trans (congrArg some (by kernel_rfl))⟩
 f47:=Tryz.func130.trans (congrArg some (by kernel_rfl))
 f48:=Tryz.func131.trans (congrArg some (by kernel_rfl))
 f49:=⟨Tryz.f176.name,by decide,Tryz.func176.trans (congrArg some (by kernel_rfl))⟩
 f50:=⟨Tryz.f177.name,by decide,Tryz.func177.trans (congrArg some (by kernel_rfl))⟩
 f57:=⟨Tryz.f178.name,by decide,Tryz.func178.trans (congrArg some (by kernel_rfl))⟩
 t0:=Tryz.underlying0
 a0:=Tryz.isAgg0
 z0:=Tryz.sizeOf0
 v0:=Tryz.zeroValue0
 t3:=Tryz.underlying3
 a3:=Tryz.isAgg3
 z3:=Tryz.sizeOf3
 v3:=Tryz.zeroValue3
 t4:=Tryz.underlying4
 a4:=Tryz.isAgg4
 z4:=Tryz.sizeOf4
 v4:=Tryz.zeroValue4
 t5:=Tryz.underlying5
 a5:=Tryz.isAgg5
 z5:=Tryz.sizeOf5
 v5:=Tryz.zeroValue5
 t9:=Tryz.underlying9
 a9:=Tryz.isAgg9
 z9:=Tryz.sizeOf9
 v9:=Tryz.zeroValue9
 t22:=Tryz.underlying214
 a22:=Tryz.isAgg214
 z22:=Tryz.sizeOf214
 v22:=Tryz.zeroValue214
 t25:=Tryz.underlying221
 a25:=Tryz.isAgg221
 z25:=Tryz.sizeOf221
 v25:=Tryz.zeroValue221
 t39:=Tryz.underlying46
 a39:=Tryz.isAgg46
 z39:=Tryz.sizeOf46
 v39:=Tryz.zeroValue46
 t45:=Tryz.underlying163
 a45:=Tryz.isAgg163
 z45:=Tryz.sizeOf163
 v45:=Tryz.zeroValue163
 t46:=Tryz.underlying164
 a46:=Tryz.isAgg164
 z46:=Tryz.sizeOf164
 v46:=Tryz.zeroValue164
 t50:=Tryz.underlying168
 a50:=Tryz.isAgg168
 z50:=Tryz.sizeOf168
 v50:=Tryz.zeroValue168
 t53:=Tryz.underlying171
 a53:=Tryz.isAgg171
 z53:=Tryz.sizeOf171
 v53:=Tryz.zeroValue171
 t55:=Tryz.underlying173
 a55:=Tryz.isAgg173
 z55:=Tryz.sizeOf173
 v55:=Tryz.zeroValue173
 t66:=Tryz.underlying190
 a66:=Tryz.isAgg190
 z66:=Tryz.sizeOf190
 v66:=Tryz.zeroValue190
 t70:=Tryz.underlying194
 a70:=Tryz.isAgg194
 z70:=Tryz.sizeOf194
 v70:=Tryz.zeroValue194
 t76:=Tryz.underlying205
 a76:=Tryz.isAgg205
 z76:=Tryz.sizeOf205
 v76:=Tryz.zeroValue205
 t77:=Tryz.underlying81
 a77:=Tryz.isAgg81
 z77:=Tryz.sizeOf81
 v77:=Tryz.zeroValue81 }
def Tryz.cmpInt_ren:Go.Shelf.Ren:=⟨fun | 5=>49 | 7=>73 | n=>n,fun | 22=>3 | 3=>3 | 4=>4 | n=>n,fun | n=>n⟩
theorem Tryz.cmpInt:Go.Proofs.SlLaysC2.n5 Tryz.prog Tryz.cmpInt_ren:={
 mixed:=by kernel_rfl
 f5:=⟨Tryz.f49.name,by decide,Tryz.func49.trans (congrArg some (by kernel_rfl))⟩
 f7:=⟨Tryz.f73.name,by decide,Tryz.func73.trans (congrArg some (by kernel_rfl))⟩
 t3:=Tryz.underlying3
 a3:=Tryz.isAgg3
 z3:=Tryz.sizeOf3
 v3:=Tryz.zeroValue3
 t4:=Tryz.underlying4
 a4:=Tryz.isAgg4
 z4:=Tryz.sizeOf4
 v4:=Tryz.zeroValue4
 t22:=Tryz.underlying3
 a22:=Tryz.isAgg3
 z22:=Tryz.sizeOf3
 v22:=Tryz.zeroValue3 }
end Go.Proofs
namespace Go.Proofs.YtpagbjdmiepgmaaGreatDoor.PVpa
open Go.RowKit Go.Proofs.YtpagbjdmiepgmaaGreatDoorW.PrintWords Go.Proofs.YtpagbjdmiepgmaaGreatDoorW.PrintLast Go.Proofs.YtpagbjdmiepgmaaGreatDoorW.PrintMore
open Go.Sort (grow putRow Holds)
def Zud (x:Int × Int):List Value:=[.int .i64 x.1,.int .i64 x.2]
def orV (a b:Int):Int:=if a≠0 then a else b
def cmpP (x y:Int × Int):Int:=orV (Lib.compareInt x.1 y.1) (Lib.compareInt x.2 y.2)
theorem Znv {P:Program}{id:Nat}{Q:Exit→Act→World→Prop}{a:Act}{w:World}{l:List Oper}(n:Nat)(hm:P.follows .mixedOrders=true)(hB:Region.lexTailB .any l.toArray n=true)
 (h:wpStill P l.toArray w.drew (fun a'=>wpList P l.toArray Q (l.drop n) a' w.drew) (l.take n) a):(Code.region id l.toArray true).wp P Q a w:=
 wp_region_still_tail n hm hB h
theorem cmp_call (x y:Int)(W:World):Calls Tryz.prog 49 #[.int .i64 x,.int .i64 y] W fun e w'=>e=.returned (.int .i64 (Lib.compareInt x y))∧w'=W:=AnyG.cmp_Compare_int Tryz.cmpInt x y W
theorem or_call (g:Nat)(a b:Int)(w:World)(h0:w.cell? ⟨g,0,none⟩=some (.int .i64 a))(h1:w.cell? ⟨g,1,none⟩=some (.int .i64 b)) :
 Calls Tryz.prog 48 #[.slice (some ⟨g,0,none⟩) 2 2] w fun e w'=>e=.returned (.int .i64 (orV a b))∧w'=w:=by
 unfold orV;by_cases ha:a=0
 ·subst ha;rw[if_neg (by simp)];by_cases hb:b=0
  ·subst hb
   go_enter Tryz.func48,Tryz.ntmps48
   go_wp2
   refine wp_loop_rounds 3 ?_
   rw[rounds_succ];go_wp2
   rw[rounds_succ];go_wp2
   rw[rounds_succ];go_wp2
   go_ret
   exact⟨rfl,rfl⟩
  ·have q:(b != 0)=true:=by simpa using hb
   go_enter Tryz.func48,Tryz.ntmps48
   go_wp2
   refine wp_loop_rounds 3 ?_
   rw[rounds_succ];go_wp2
   rw[rounds_succ];go_wp2
   go_ret
   exact⟨rfl,rfl⟩
 ·rw[if_pos ha];have q:(a != 0)=true:=by simpa using ha
  go_enter Tryz.func48,Tryz.ntmps48
  go_wp2
  refine wp_loop_rounds 3 ?_
  rw[rounds_succ];go_wp2
  go_ret
  exact⟨rfl,rfl⟩
set_option maxHeartbeats 1000000 in
theorem closure47 (x y:Int × Int)(W:World):Calls Tryz.prog 47 #[.agg #[.int .i64 x.1,.int .i64 x.2],.agg #[.int .i64 y.1,.int .i64 y.2]] W fun e w'=>e=.returned (.int .i64 (cmpP x y))∧∃q os',w'=grow (W.drewN q) os':=by
 unfold cmpP;obtain⟨x1,x2⟩:=x;obtain⟨y1,y2⟩:=y;show Calls Tryz.prog 47 #[.agg #[.int .i64 x1,.int .i64 x2],.agg #[.int .i64 y1,.int .i64 y2]] W fun e w'=>e=.returned (.int .i64 (orV (Lib.compareInt x1 y1) (Lib.compareInt x2 y2)))∧∃q os',w'=grow (W.drewN q) os'
 go_enter Tryz.func47,Tryz.ntmps47
 go_wp2_with fail
 obtain⟨X,hX⟩:∃X,X=(W.alloc (.cells #[.int .i64 x1,.int .i64 x2] 53)).alloc (.cells #[.int .i64 y1,.int .i64 y2] 53):=⟨_,rfl⟩
 have c0:X.cell? ⟨W.heap.size,0,none⟩=some (.int .i64 x1):=by rw[hX];go_simp
 have c1:X.cell? ⟨W.heap.size,1,none⟩=some (.int .i64 x2):=by rw[hX];go_simp
 have c2:X.cell? ⟨W.heap.size+1,0,none⟩=some (.int .i64 y1):=by rw[hX];go_simp
 have c3:X.cell? ⟨W.heap.size+1,1,none⟩=some (.int .i64 y2):=by rw[hX];go_simp
 rw[←hX];have HX:=Zaa.mk hX;clear hX;refine Znv 10 (by kernel_rfl) (by kernel_rfl) ?_
 simp only[List.take_succ_cons,List.take_zero,List.drop_succ_cons,List.drop_zero]
 repeat (first | still_step | (refine wpStill_step (fun K hK=>?_);go_simp;refine⟨_,cmp_call _ _ _,hK _ ?_⟩;clear hK K))
 refine wpStill_nil ?_
 go_wp2_with (go_at_call 48;(with_reducible refine (or_call X.heap.size (Lib.compareInt x1 y1) (Lib.compareInt x2 y2) _ ?h0 ?h1).mono ?_);(case h0=>go_simp);(case h1=>go_simp);rintro e w3 ⟨rfl,rfl⟩)
 go_ret
 refine⟨rfl,1,#[.cells #[.int .i64 x1,.int .i64 x2] 53 (0,0),.cells #[.int .i64 y1,.int .i64 y2] 53 (0,0),.cells #[.int .i64 (Lib.compareInt x1 y1),.int .i64 (Lib.compareInt x2 y2)] 3 (0,0)],?_⟩;rw[HX.out]
 rfl
end Go.Proofs.YtpagbjdmiepgmaaGreatDoor.PVpa
namespace Go.Proofs
open Go.Shelf
def Tryz.sortI_ren:Go.Shelf.Ren:=⟨fun | 5=>68 | 8=>72 | 7=>95 | 19=>105 | 20=>106 | 10=>120 | 11=>121 | 12=>122 | 13=>123 | 14=>124 | 15=>125 | 16=>126 | 17=>127 | 18=>128 | 30=>147 | 31=>130 | 32=>131 | 33=>148 | 34=>149 | 35=>73 | 40=>157 | n=>n,fun | 23=>35 | 25=>3 | 3=>3 | 32=>46 | 22=>35 | 0=>0 | 44=>171 | 46=>173 | 4=>4 | 36=>164 | 35=>163 | 41=>168 | 5=>5 | 9=>9 | 53=>190 | 57=>194 | 63=>205 | 64=>81 | n=>n,fun | n=>n⟩
theorem Tryz.sortI:Go.Proofs.SlLaysM.n5 Tryz.prog Tryz.sortI_ren:={
 mixed:=by kernel_rfl
 f5:=⟨Tryz.f68.name,by decide,Tryz.func68.trans (congrArg some (by kernel_rfl))⟩
 f7:=⟨Tryz.f95.name,by decide,Tryz.func95.trans (congrArg some (by kernel_rfl))⟩
 f8:=Tryz.func72.trans (congrArg some (by kernel_rfl))
 f10:=⟨Tryz.f120.name,by decide,Tryz.func120.trans (congrArg some (by kernel_rfl))⟩
 f11:=⟨Tryz.f121.name,by decide,Tryz.func121.trans (congrArg some (by kernel_rfl))⟩
 f12:=⟨Tryz.f122.name,by decide,Tryz.func122.trans (congrArg some (by kernel_rfl))⟩
 f13:=⟨Tryz.f123.name,by decide,Tryz.func123.trans (congrArg some (by kernel_rfl))⟩
 f14:=⟨Tryz.f124.name,by decide,Tryz.func124.trans (congrArg some (by kernel_rfl))⟩
 f15:=⟨Tryz.f125.name,by decide,Tryz.func125.trans (congrArg some (by kernel_rfl))⟩
 f16:=⟨Tryz.f126.name,by decide,Tryz.func126.trans (congrArg some (by kernel_rfl))⟩
 f17:=⟨Tryz.f127.name,by decide,Tryz.func127.trans (congrArg some (by kernel_rfl))⟩
 f18:=⟨Tryz.f128.name,by decide,Tryz.func128.trans (congrArg some (by kernel_rfl))⟩
 f19:=Tryz.func105.trans (congrArg some (by kernel_rfl))
 f20:=Tryz.func106.trans (congrArg some (by kernel_rfl))
 f30:=⟨Tryz.f147.name,by decide,Tryz.func147.trans (congrArg some (by kernel_rfl))⟩
 f31:=Tryz.func130.trans (congrArg some (by kernel_rfl))
 f32:=Tryz.func131.trans (congrArg some (by kernel_rfl))
 f33:=⟨Tryz.f148.name,by decide,Tryz.func148.trans (congrArg some (by kernel_rfl))⟩
 f34:=⟨Tryz.f149.name,by decide,Tryz.func149.trans (congrArg some (by kernel_rfl))⟩
 f35:=⟨Tryz.f73.name,by decide,Tryz.func73.trans (congrArg some (by kernel_rfl))⟩
 f40:=⟨Tryz.f157.name,by decide,Tryz.func157.trans (congrArg some (by kernel_rfl))⟩
 t0:=Tryz.underlying0
 a0:=Tryz.isAgg0
 z0:=Tryz.sizeOf0
 v0:=Tryz.zeroValue0
 t3:=Tryz.underlying3
 a3:=Tryz.isAgg3
 z3:=Tryz.sizeOf3
 v3:=Tryz.zeroValue3
 t4:=Tryz.underlying4
 a4:=Tryz.isAgg4
 z4:=Tryz.sizeOf4
 v4:=Tryz.zeroValue4
 t5:=Tryz.underlying5
 a5:=Tryz.isAgg5
 z5:=Tryz.sizeOf5
 v5:=Tryz.zeroValue5
 t9:=Tryz.underlying9
 a9:=Tryz.isAgg9
 z9:=Tryz.sizeOf9
 v9:=Tryz.zeroValue9
 t22:=Tryz.underlying35
 a22:=Tryz.isAgg35
 z22:=Tryz.sizeOf35
 v22:=Tryz.zeroValue35
 t23:=Tryz.underlying35
 a23:=Tryz.isAgg35
 z23:=Tryz.sizeOf35
 v23:=Tryz.zeroValue35
 t25:=Tryz.underlying3
 a25:=Tryz.isAgg3
 z25:=Tryz.sizeOf3
 v25:=Tryz.zeroValue3
 t32:=Tryz.underlying46
 a32:=Tryz.isAgg46
 z32:=Tryz.sizeOf46
 v32:=Tryz.zeroValue46
 t35:=Tryz.underlying163
 a35:=Tryz.isAgg163
 z35:=Tryz.sizeOf163
 v35:=Tryz.zeroValue163
 t36:=Tryz.underlying164
 a36:=Tryz.isAgg164
 z36:=Tryz.sizeOf164
 v36:=Tryz.zeroValue164
 t41:=Tryz.underlying168
 a41:=Tryz.isAgg168
 z41:=Tryz.sizeOf168
 v41:=Tryz.zeroValue168
 t44:=Tryz.underlying171
 a44:=Tryz.isAgg171
 z44:=Tryz.sizeOf171
 v44:=Tryz.zeroValue171
 t46:=Tryz.underlying173
 a46:=Tryz.isAgg173
 z46:=Tryz.sizeOf173
 v46:=Tryz.zeroValue173
 t53:=Tryz.underlying190
 a53:=Tryz.isAgg190
 z53:=Tryz.sizeOf190
 v53:=Tryz.zeroValue190
 t57:=Tryz.underlying194
 a57:=Tryz.isAgg194
 z57:=Tryz.sizeOf194
 v57:=Tryz.zeroValue194
 t63:=Tryz.underlying205
 a63:=Tryz.isAgg205
 z63:=Tryz.sizeOf205
 v63:=Tryz.zeroValue205
 t64:=Tryz.underlying81
 a64:=Tryz.isAgg81
 z64:=Tryz.sizeOf81
 v64:=Tryz.zeroValue81 }
def Tryz.compactI_ren:Go.Shelf.Ren:=⟨fun | 43=>69 | n=>n,fun | 22=>35 | 23=>3 | 3=>3 | 4=>4 | 0=>0 | n=>n,fun | n=>n⟩
theorem Tryz.compactI:Go.Proofs.SlLaysN.n43 Tryz.prog Tryz.compactI_ren:={
 mixed:=by kernel_rfl
 f43:=⟨Tryz.f69.name,by decide,Tryz.func69.trans (congrArg some (by kernel_rfl))⟩
 t0:=Tryz.underlying0
 a0:=Tryz.isAgg0
 z0:=Tryz.sizeOf0
 v0:=Tryz.zeroValue0
 t3:=Tryz.underlying3
 a3:=Tryz.isAgg3
 z3:=Tryz.sizeOf3
 v3:=Tryz.zeroValue3
 t4:=Tryz.underlying4
 a4:=Tryz.isAgg4
 z4:=Tryz.sizeOf4
 v4:=Tryz.zeroValue4
 t22:=Tryz.underlying35
 a22:=Tryz.isAgg35
 z22:=Tryz.sizeOf35
 v22:=Tryz.zeroValue35
 t23:=Tryz.underlying3
 a23:=Tryz.isAgg3
 z23:=Tryz.sizeOf3
 v23:=Tryz.zeroValue3
 i23:=by kernel_rfl }
def Tryz.growI_ren:Go.Shelf.Ren:=⟨fun | 4=>94 | n=>n,fun | 22=>35 | 25=>3 | 3=>3 | 4=>4 | 9=>9 | 20=>20 | 0=>0 | n=>n,fun | n=>n⟩
theorem Tryz.growI:Go.Proofs.Lays8.n4 Tryz.prog Tryz.growI_ren:={
 mixed:=by kernel_rfl
 f4:=⟨Tryz.f94.name,by decide,Tryz.func94.trans (congrArg some (by kernel_rfl))⟩
 t0:=Tryz.underlying0
 a0:=Tryz.isAgg0
 z0:=Tryz.sizeOf0
 v0:=Tryz.zeroValue0
 t3:=Tryz.underlying3
 a3:=Tryz.isAgg3
 z3:=Tryz.sizeOf3
 v3:=Tryz.zeroValue3
 t4:=Tryz.underlying4
 a4:=Tryz.isAgg4
 z4:=Tryz.sizeOf4
 v4:=Tryz.zeroValue4
 t9:=Tryz.underlying9
 a9:=Tryz.isAgg9
 z9:=Tryz.sizeOf9
 v9:=Tryz.zeroValue9
 t20:=Tryz.underlying20
 a20:=Tryz.isAgg20
 z20:=Tryz.sizeOf20
 v20:=Tryz.zeroValue20
 t22:=Tryz.underlying35
 a22:=Tryz.isAgg35
 z22:=Tryz.sizeOf35
 v22:=Tryz.zeroValue35 }
end Go.Proofs
namespace Go.Proofs.YtpagbjdmiepgmaaGreatDoor.PVpa
open Go.RowKit Go.Proofs.YtpagbjdmiepgmaaGreatDoorW.PrintWords Go.Proofs.YtpagbjdmiepgmaaGreatDoorW.PrintLast Go.Proofs.YtpagbjdmiepgmaaGreatDoorW.PrintMore
open Go.Sort (grow putRow Holds)
def Zim (l:List Int):List Int:=l.mergeSort fun x y=>decide (x≤y)
def Zay (a b:List Int):List Int:=Lib.compact (Zim (a++b))
theorem Zft (l:List Int):(Zim l).length=l.length:=List.length_mergeSort l
theorem Zdn (w:World)(os:Array Obj):Below w.heap.size w (grow w os):=
 ⟨rfl,rfl,rfl,by simp[grow],fun k hk=>by simp[grow,Array.getElem?_append_left hk]⟩
theorem Kept.trans_ {w w1 w2:World}{S:Nat→Prop}(h:Kept w w1 S)(k:Kept w1 w2 S):Kept w w2 S:=
 ⟨Nat.le_trans h.1 k.1,fun i hi hn=>(k.2 i (Nat.lt_of_lt_of_le hi h.1) hn).trans (h.2 i hi hn)⟩
theorem Zog {w:World}{base:Nat}{e:TypeId}{v:Value}{l:List Int}(h:w.ownsRow base e 1 v l.length (Zkq (Value.int .i64) l))(hv:v=.slice none 0 0):l=[]:=by
 subst hv
 rcases h.2 with⟨_,e0⟩ | ⟨g,cap,cur,e0,_⟩
 ·cases l with
  | nil=>rfl
  | cons x t=>simp[Zkq]at e0
 ·cases e0
theorem sort_call (w0 w:World)(v:Value)(l:List Int)(hB:Below w0.heap.size w0 w)(h:(Kd.int .i64).R 3 w w0.heap.size (fun _=>True) v l)(hl:l.length≤1000000) :
 Calls Tryz.prog 68 #[v] w fun e w'=>e=.returned (.tuple #[])∧(Kd.int .i64).R 3 w' w0.heap.size (fun _=>True) v (Zim l)∧Below w0.heap.size w0 w'∧Kept w w' (fun k=>v.ownBlock=some k):=by
 have ho:=Kd.own_of_R h;by_cases hv:v=.slice none 0 0
 ·obtain rfl:=Zog ho hv;subst hv;refine (AnyM.slices_Sort_int_none Tryz.sortI none 0 w).mono ?_
  rintro e w' ⟨rfl,rfl⟩;exact⟨rfl,by rw[show Zim []=[] by simp[Zim]];exact h,hB,Kept.refl _ _⟩
 ·obtain⟨g,cap,rfl,hg,hlt,hc,hm,hn,hH⟩:=Lib.holds_of_ownsRow (enc:=Value.int .i64) (zs:=l) ho hv;refine (AnyM.slices_Sort_int Tryz.sortI g 0 cap l w hH hlt (by omega)).mono ?_
  rintro e w' ⟨rfl,n,os,rfl⟩;have o1:=Lib.ownsRow_putRow (q:=n) (k:=l.length) (ys:=Zim l) ho (by rw[Zft]) (Nat.le_refl _);rw[List.take_of_length_le (by rw[Zft];omega)]at o1;have b1:=Lib.below_putRow (enc:=Value.int .i64) (d:=(Zim l).toArray) (q:=n) hB hg;have o2:=Zcu o1 (Zdn _ os);have o3:World.ownsRow (grow (putRow (Value.int .i64) (Go.Sort.ahead w n) g 0 (Zim l).toArray) os) w0.heap.size 3 1 (.slice (some ⟨g,0,none⟩) l.length cap) (Zim l).length (Zkq (Value.int .i64) (Zim l)):=by rw[Zft];exact o2
  refine⟨rfl,Kd.R_of_own o3 (fun _ _=>trivial),Zik b1 b1.size (Zdn _ os),?_⟩;refine (Kept.trans_ (S:=fun k=>(Value.slice (some ⟨g,0,none⟩) l.length cap).ownBlock=some k) (w1:=putRow (Value.int .i64) (Go.Sort.ahead w n) g 0 (Zim l).toArray) ?_ ?_)
  ·refine⟨by simp[putRow,Go.Sort.mapBlock,Go.Sort.ahead],fun i hi hne=>?_⟩;have hne':g≠i:=fun he=>hne (by simp[Value.ownBlock,he])
   simp[putRow,Go.Sort.mapBlock,Go.Sort.ahead,Array.getElem?_modify,hne']
  ·exact⟨(Zdn _ os).size,fun i hi _=>(Zdn _ os).block i hi⟩
theorem Zrz (w0 w:World)(v:Value)(l:List Int)(hB:Below w0.heap.size w0 w)(h:(Kd.int .i64).R 3 w w0.heap.size (fun _=>True) v l)(hl:l.length≤1000000) :
 Calls Tryz.prog 69 #[v] w fun e w'=>∃v',e=.returned v'∧(Kd.int .i64).R 3 w' w0.heap.size (fun _=>True) v' (Lib.compact l)∧Below w0.heap.size w0 w'∧Kept w w' (fun k=>v.ownBlock=some k)∧v'.ownBlock=v.ownBlock:=by
 have ho:=Kd.own_of_R h;by_cases hv:v=.slice none 0 0
 ·obtain rfl:=Zog ho hv;subst hv;refine (AnyG.slices_Compact_int_empty Tryz.compactI none 0 w).mono ?_
  rintro e w' ⟨rfl,rfl⟩;exact⟨_,rfl,h,hB,Kept.refl _ _,rfl⟩
 ·obtain⟨g,cap,rfl,hg,hlt,hc,hm,hn,hH⟩:=Lib.holds_of_ownsRow (enc:=Value.int .i64) (zs:=l) ho hv;refine (AnyG.slices_Compact_int Tryz.compactI g 0 cap l w hH (by omega) hc).mono ?_
  rintro e w' ⟨rfl,n,rfl⟩;have hcl:=Lib.compact_length_le l;have o1:=Lib.ownsRow_putRow (q:=n) (k:=(Lib.compact l).length) (ys:=Lib.compact l++List.replicate (l.length-(Lib.compact l).length) 0) ho (by simp;omega) (by omega);rw[List.take_left]at o1;have b1:=Lib.below_putRow (enc:=Value.int .i64) (d:=(Lib.compact l++List.replicate (l.length-(Lib.compact l).length) 0).toArray) (q:=n) hB hg;refine⟨_,rfl,Kd.R_of_own o1 (fun _ _=>trivial),b1,?_,rfl⟩;refine⟨by simp[putRow,Go.Sort.mapBlock,Go.Sort.ahead],fun i hi hne=>?_⟩;have hne':g≠i:=fun he=>hne (by simp[Value.ownBlock,he])
  simp[putRow,Go.Sort.mapBlock,Go.Sort.ahead,Array.getElem?_modify,hne']
end Go.Proofs.YtpagbjdmiepgmaaGreatDoor.PVpa
namespace Go.Proofs.YtpagbjdmiepgmaaGreatDoor.PVpa
open Go.RowKit Go.Proofs.YtpagbjdmiepgmaaGreatDoorW.PrintWords Go.Proofs.YtpagbjdmiepgmaaGreatDoorW.PrintLast Go.Proofs.YtpagbjdmiepgmaaGreatDoorW.PrintMore
open Go.Sort (grow putRow Holds flatK HoldsK putRowK SWO)
def ltP (x y:Int × Int):Bool:=decide (x.1<y.1∨(x.1=y.1∧x.2<y.2))
theorem Zmi:ltOf cmpP=ltP:=by
 funext x y
 unfold ltOf ltP cmpP orV Lib.compareInt;by_cases h1:x.1<y.1
 ·simp[h1]
 ·by_cases h2:y.1<x.1
  ·have:¬x.1=y.1:=by omega
   simp[h1,h2,this]
  ·have:x.1=y.1:=by omega
   by_cases h3:x.2<y.2
   ·simp[this,h3]
   ·by_cases h4:y.2<x.2 <;> simp[this,h3,h4]
theorem swoP:SWO (ltOf cmpP):=by
 rw[Zmi];refine⟨fun x=>by simp[ltP],fun x y z h1 h2=>?_,fun x y z h1 h2=>?_⟩
 ·unfold ltP at *;simp at *;omega
 ·unfold ltP at *;simp at *;omega
def sortP (l:List (Int × Int)):List (Int × Int):=l.mergeSort fun x y=>!ltP y x
theorem Zfs (l:List (Int × Int)):(sortP l).length=l.length:=List.length_mergeSort l
def Zdf (l:List (Int × Int)):List Value:=l.flatMap Zud
theorem Zem (l:List (Int × Int)):(Zdf l).length=l.length*2:=by
 induction l with
 | nil=>rfl
 | cons x r ih=>show (Zud x++Zdf r).length=_;rw[List.length_append,ih,List.length_cons];show 2+_=_;omega
theorem Zoo (l:List (Int × Int))(i:Nat)(h:i<l.length):(Zdf l)[i*2]?=some (.int .i64 l[i].1)∧(Zdf l)[i*2+1]?=some (.int .i64 l[i].2):=by
 induction l generalizing i with
 | nil=>simp at h
 | cons x r ih=>
  cases i with
  | zero=>exact⟨rfl,rfl⟩
  | succ i=>
   have:=ih i (by simpa using h);have e:∀j,(Zdf (x :: r))[j+2]?=(Zdf r)[j]?:=fun j=>by
    show (Zud x++Zdf r)[j+2]?=_;rw[List.getElem?_append_right (by show 2≤_;omega)];show (Zdf r)[j+2-2]?=_;rw[Nat.add_sub_cancel]
   rw[show (i+1)*2=i*2+2 by omega,show i*2+2+1=(i*2+1)+2 by omega,e,e];exact this
theorem Zrs (l:List (Int × Int)):flatK Zud 2 l.toArray=(Zdf l).toArray:=by
 apply Array.ext
 ·rw[Go.Sort.size_flatK,List.size_toArray,List.size_toArray,Zem]
 ·intro i h1 h2;have h3:i<l.length*2:=by simpa using h1
  have e:=Go.Sort.get_flatK Zud 2 l.toArray i (by simpa using h3);rw[getElem!_pos _ i h1]at e;rw[e];obtain⟨g1,g2⟩:=Zoo l (i / 2) (by omega);have hx:l.toArray[i / 2]! = l[i / 2]'(by omega):=by rw[getElem!_pos _ _ (by simp;omega)];simp
  rw[hx,List.getElem_toArray];have h4:i % 2=0∨i % 2=1:=by omega
  rcases h4 with h4 | h4
  ·rw[h4];rw[show i / 2*2=i by omega,List.getElem?_eq_getElem (by rw[Zem];omega)]at g1;injection g1 with g1
   rw[g1];rfl
  ·rw[h4];rw[show i / 2*2+1=i by omega,List.getElem?_eq_getElem (by rw[Zem];omega)]at g2;injection g2 with g2
   rw[g2];rfl
def OwnP (w:World)(base:Nat)(v:Value)(l:List (Int × Int)):Prop:=w.ownsRow base 53 2 v l.length (Zdf l)
theorem OwnP.below {w w1:World}{base:Nat}{v:Value}{l:List (Int × Int)}(h:OwnP w base v l)(hb:Below w.heap.size w w1):OwnP w1 base v l:=Zcu h hb
theorem OwnP.nil (w:World)(base:Nat):OwnP w base (.slice none 0 0) []:=own_nil _ _ _ _
theorem OwnP.slice {w:World}{base:Nat}{v:Value}{l:List (Int × Int)}(h:OwnP w base v l):∃A c,v=.slice A l.length c∧l.length≤c:=by
 rcases h.2 with⟨rfl,e0⟩ | ⟨g,cap,cur,rfl,_,_,h1,_⟩
 ·exact⟨none,0,by rw[e0],by omega⟩
 ·exact⟨_,cap,rfl,h1⟩
theorem Zkb {w:World}{base:Nat}{e:TypeId}{sz:Nat}{v:Value}{n:Nat}{xs:List Value}(h:w.ownsRow base e sz v n xs)(hv:v≠.slice none 0 0) :
 ∃g cap,v=.slice (some ⟨g,0,none⟩) n cap∧base≤g∧g<w.heap.size∧n≤cap∧cap≤maxLen∧Holds id w g 0 xs.toArray:=by
 rcases h.2 with⟨e0,_⟩ | ⟨g,cap,cur,rfl,hb,hg,hn,hm,hs,ht⟩
 ·exact absurd e0 hv
 ·refine⟨g,cap,rfl,hb,Zbj hg,hn,hm,fun j hj=>?_⟩;have hj':j<n*sz:=by have:=h.1;simp at hj;omega
  have hjs:j<cur.size:=by rw[hs];exact Nat.lt_of_lt_of_le hj' (Nat.mul_le_mul_right _ hn)
  refine⟨?_,by simp[World.frozen?,hg]⟩;rw[Nat.zero_add,Zac hg j];have e1:(cur.toList.take (n*sz))[j]?=xs[j]?:=by rw[ht]
  rw[List.getElem?_take,if_pos hj',Array.getElem?_toList]at e1;rw[e1,getElem!_pos _ j hj];simp at hj;simp[hj]
theorem owns_put {w:World}{base:Nat}{e:TypeId}{sz g n cap q:Nat}{xs ys:List Value}(h:w.ownsRow base e sz (.slice (some ⟨g,0,none⟩) n cap) n xs)(hy:ys.length=n*sz) :
 (putRow id (Go.Sort.ahead w q) g 0 ys.toArray).ownsRow base e sz (.slice (some ⟨g,0,none⟩) n cap) n ys:=by
 rcases h.2 with⟨e0,_⟩ | ⟨g',cap',cur,e0,hb,hg,hn,hm,hs,ht⟩
 ·cases e0
 ·injection e0 with e1 _ e3
  injection e1 with e1
  injection e1 with e1
  subst e1;subst e3;refine⟨hy,.inr ⟨g,cap,Go.Sort.putCells id 0 ys.toArray cur,rfl,hb,?_,hn,hm,by simpa[Go.Sort.putCells]using hs,?_⟩⟩
  ·simp[putRow,Go.Sort.mapBlock,Go.Sort.ahead,Array.getElem?_modify,hg,Go.Sort.onCells]
  ·apply List.ext_getElem?;intro j;have hnc:n*sz≤cap*sz:=Nat.mul_le_mul_right _ hn;rw[List.getElem?_take,Array.getElem?_toList];by_cases hj:j<n*sz
   ·have hjc:j<cur.size:=by omega
    simp only[if_pos hj,Go.Sort.putCells,Array.getElem?_mapIdx,Array.getElem?_eq_getElem hjc,Option.map_some];rw[if_pos (by simp;omega),List.getElem?_eq_getElem (by omega)];simp[getElem!_pos,show j<ys.length by omega]
   ·rw[if_neg hj,List.getElem?_eq_none (by omega)]
theorem sortP_call (w0 w:World)(v:Value)(l:List (Int × Int))(hB:Below w0.heap.size w0 w)(h:OwnP w w0.heap.size v l)(hl:l.length≤1000000) :
 Calls Tryz.prog 46 #[v,.func (.func 47) #[] #[]] w fun e w'=>e=.returned (.tuple #[])∧OwnP w' w0.heap.size v (sortP l)∧Below w0.heap.size w0 w'∧Kept w w' (fun k=>v.ownBlock=some k):=by
 by_cases hv:v=.slice none 0 0
 ·subst hv;have hl0:l=[]:=by
   obtain⟨A,c,he,_⟩:=h.slice;injection he with _ he _
   exact List.length_eq_zero_iff.1 he.symm
  subst hl0;refine (AnyF.slices_SortFunc_none Tryz.sortP none 0 _ w).mono ?_
  rintro e w' ⟨rfl,rfl⟩;exact⟨rfl,by rw[show sortP []=[] by simp[sortP]];exact h,hB,Kept.refl _ _⟩
 ·obtain⟨g,cap,rfl,hg,hlt,hc,hm,hH⟩:=Zkb h hv;have eg:∀args w,(callFunc 47 args).run Tryz.prog w=.ok (.enter 47 args) w:=enters_of Tryz.func47 (by kernel_rfl) rfl;have hHK:HoldsK Zud 2 w g 0 l.toArray:=by unfold HoldsK;rw[Zrs];exact hH
  have hcon:=AnyQ.slices_SortFunc_total Tryz.sortP 2 (fun w=>by kernel_rfl) (fun w=>by kernel_rfl) Zud (fun _=>rfl) (fun x v hv=>by simp[Zud]at hv;rcases hv with rfl | rfl <;> rfl) cmpP swoP 47 #[] g 0 cap l.toArray w eg (fun _ _ _ _ x y=>closure47 x y _) hHK hlt (by simp;omega) (fun x y h1 h2=>by
   rw[Zmi]at h1 h2;unfold ltP at h1 h2;simp at h1 h2;apply Prod.ext <;> omega)
  refine (show Calls Tryz.prog 46 _ _ _ from hcon).mono ?_
  rintro e w' ⟨rfl,n,os,rfl⟩;rw[Zmi];have e1:sortWorldK Zud 2 w g 0 n (l.toArray.toList.mergeSort fun x y=>!ltP y x).toArray os=grow (putRow id (Go.Sort.ahead w n) g 0 (Zdf (sortP l)).toArray) os:=by
   unfold sortWorldK putRowK;rw[show (l.toArray.toList.mergeSort fun x y=>!ltP y x)=sortP l from rfl,Zrs]
  rw[e1];have o1:=owns_put (q:=n) (ys:=Zdf (sortP l)) h (by rw[Zem,Zfs]);have b1:=Lib.below_putRow (enc:=(id:Value→Value)) (d:=(Zdf (sortP l)).toArray) (q:=n) hB hg;have o2:=Zcu o1 (Zdn _ os);refine⟨rfl,by unfold OwnP;rw[Zfs];exact o2,Zik b1 b1.size (Zdn _ os),?_⟩;refine (Kept.trans_ (S:=fun k=>(Value.slice (some ⟨g,0,none⟩) l.length cap).ownBlock=some k) (w1:=putRow id (Go.Sort.ahead w n) g 0 (Zdf (sortP l)).toArray) ?_ ?_)
  ·refine⟨by simp[putRow,Go.Sort.mapBlock,Go.Sort.ahead],fun i hi hne=>?_⟩;have hne':g≠i:=fun he=>hne (by simp[Value.ownBlock,he])
   simp[putRow,Go.Sort.mapBlock,Go.Sort.ahead,Array.getElem?_modify,hne']
  ·exact⟨(Zdn _ os).size,fun i hi _=>(Zdn _ os).block i hi⟩
end Go.Proofs.YtpagbjdmiepgmaaGreatDoor.PVpa
namespace Go.Proofs.YtpagbjdmiepgmaaGreatDoor.PVpa
open Go.RowKit Go.Proofs.YtpagbjdmiepgmaaGreatDoorW.PrintWords Go.Proofs.YtpagbjdmiepgmaaGreatDoorW.PrintLast Go.Proofs.YtpagbjdmiepgmaaGreatDoorW.PrintMore
open Go.Sort (grow putRow Holds flatK HoldsK putRowK SWO)
def encS (x:Int):List Value:=[.int .i64 x,.int .i64 (x+1)]
def cmpS (x y:Int):Int:=Lib.compareInt x y
theorem closure164 (x y:Int)(W:World):Calls Tryz.prog 164 #[.agg #[.int .i64 x,.int .i64 (x+1)],.agg #[.int .i64 y,.int .i64 (y+1)]] W fun e w'=>e=.returned (.int .i64 (cmpS x y))∧∃q os',w'=grow (W.drewN q) os':=by
 unfold cmpS;generalize hx:x+1=x2;generalize hy:y+1=y2;clear hx hy
 go_enter Tryz.func164,Tryz.ntmps164
 go_wp2_with (go_at_call 49;refine (cmp_call _ _ _).mono ?_;rintro e w1 ⟨rfl,rfl⟩)
 go_ret
 exact⟨rfl,0,#[.cells #[.int .i64 x,.int .i64 x2] 217 (0,0),.cells #[.int .i64 y,.int .i64 y2] 217 (0,0)],rfl⟩
def ltS (x y:Int):Bool:=decide (x<y)
theorem Zmh:ltOf cmpS=ltS:=by
 funext x y
 unfold ltOf ltS cmpS Lib.compareInt;by_cases h1:x<y
 ·simp[h1]
 ·by_cases h2:y<x <;> simp[h1,h2]
theorem swoS:SWO (ltOf cmpS):=by
 rw[Zmh];refine⟨fun x=>by simp[ltS],fun x y z h1 h2=>?_,fun x y z h1 h2=>?_⟩
 ·unfold ltS at *;simp at *;omega
 ·unfold ltS at *;simp at *;omega
def Zep (l:List Int):List Value:=l.flatMap encS
theorem Zel (l:List Int):(Zep l).length=l.length*2:=by
 induction l with
 | nil=>rfl
 | cons x r ih=>show (encS x++Zep r).length=_;rw[List.length_append,ih,List.length_cons];show 2+_=_;omega
theorem Zon (l:List Int)(i:Nat)(h:i<l.length):(Zep l)[i*2]?=some (.int .i64 l[i])∧(Zep l)[i*2+1]?=some (.int .i64 (l[i]+1)):=by
 induction l generalizing i with
 | nil=>simp at h
 | cons x r ih=>
  cases i with
  | zero=>exact⟨rfl,rfl⟩
  | succ i=>
   have:=ih i (by simpa using h);have e:∀j,(Zep (x :: r))[j+2]?=(Zep r)[j]?:=fun j=>by
    show (encS x++Zep r)[j+2]?=_;rw[List.getElem?_append_right (by show 2≤_;omega)];show (Zep r)[j+2-2]?=_;rw[Nat.add_sub_cancel]
   rw[show (i+1)*2=i*2+2 by omega,show i*2+2+1=(i*2+1)+2 by omega,e,e];exact this
theorem Zrr (l:List Int):flatK encS 2 l.toArray=(Zep l).toArray:=by
 apply Array.ext
 ·rw[Go.Sort.size_flatK,List.size_toArray,List.size_toArray,Zel]
 ·intro i h1 h2;have h3:i<l.length*2:=by simpa using h1
  have e:=Go.Sort.get_flatK encS 2 l.toArray i (by simpa using h3);rw[getElem!_pos _ i h1]at e;rw[e];obtain⟨g1,g2⟩:=Zon l (i / 2) (by omega);have hx:l.toArray[i / 2]! = l[i / 2]'(by omega):=by rw[getElem!_pos _ _ (by simp;omega)];simp
  rw[hx];have h4:i % 2=0∨i % 2=1:=by omega
  rcases h4 with h4 | h4
  ·rw[h4];rw[show i / 2*2=i by omega,List.getElem?_eq_getElem (by rw[Zel];omega)]at g1;injection g1 with g1
   rw[List.getElem_toArray,g1];rfl
  ·rw[h4];rw[show i / 2*2+1=i by omega,List.getElem?_eq_getElem (by rw[Zel];omega)]at g2;injection g2 with g2
   rw[List.getElem_toArray,g2];rfl
theorem Zqp {w:World}{base:Nat}{ok:Nat→Prop}:∀{l:List Int} {cs:List Value},Reps (Zgj.M w base ok) 2 l cs→cs=Zep l
 | [],cs,h=>by
  have:=h.1;simp at this;rw[this];rfl
 | x :: l,cs,h=>by
  have h0:=h.2 0 x rfl;have h1:Zgj.M w base ok x (cs.take 2):=by simpa using h0
  have e1:cs.take 2=encS x:=Zib (Zgj.K_of_M h1);have h2:Reps (Zgj.M w base ok) 2 l (cs.drop 2):=⟨by rw[List.length_drop,h.1];simp;omega,fun j p hj=>by
   have:=h.2 (j+1) p (by simpa using hj);rw[List.drop_drop,show 2+j*2=(j+1)*2 by omega];exact this⟩
  rw[←List.take_append_drop 2 cs,e1,Zqp h2];rfl
theorem span_own {w:World}{base:Nat}{ok:Nat→Prop}{v:Value}{l:List Int}(h:Zgj.R 217 w base ok v l):w.ownsRow base 217 2 v l.length (Zep l):=by
 obtain⟨_,inner,ho,hr⟩:=h;rw[←Zqp hr];exact ho
theorem span_R {w:World}{base:Nat}{v:Value}{l:List Int}(h:w.ownsRow base 217 2 v l.length (Zep l)):Zgj.R 217 w base (fun _=>True) v l:=
 ⟨fun _ _=>trivial,Zep l,h,Zel l,fun j p hj=>by
  have hlt:j<l.length:=(List.getElem?_eq_some_iff.1 hj).1;have hp:l[j]=p:=(List.getElem?_eq_some_iff.1 hj).2;obtain⟨g1,g2⟩:=Zon l j hlt;rw[hp]at g1 g2;have e:((Zep l).drop (j*2)).take 2=[.int .i64 p,.int .i64 (p+1)]:=by
   apply List.ext_getElem?;intro i;rw[List.getElem?_take]
   match i with
   | 0=>simpa using g1
   | 1=>simpa[Nat.add_comm]using g2
   | i+2=>simp;omega
  show Zgj.M w base _ p (((Zep l).drop (j*2)).take 2);rw[e];exact Zjm _ _ _ _⟩
theorem Zsr (l:List Int)(h:l.Pairwise (fun x y=>x+1<y)):(l.mergeSort fun x y=>!ltS y x)=l:=by
 apply List.mergeSort_of_pairwise;exact h.imp (fun {a b} hab=>by unfold ltS;simp;omega)
theorem sortS_call (w0 w:World)(v:Value)(l:List Int)(hB:Below w0.heap.size w0 w)(h:Zgj.R 217 w w0.heap.size (fun _=>True) v l)(hl:l.length≤1000000)(hr:l.Pairwise (fun x y=>x+1<y)) :
 Calls Tryz.prog 163 #[v,.func (.func 164) #[] #[]] w fun e w'=>e=.returned (.tuple #[])∧Zgj.R 217 w' w0.heap.size (fun _=>True) v l∧Below w0.heap.size w0 w':=by
 have h:=span_own h;by_cases hv:v=.slice none 0 0
 ·subst hv;refine (AnyF.slices_SortFunc_none Tryz.sortSpan none 0 _ w).mono ?_
  rintro e w' ⟨rfl,rfl⟩;exact⟨rfl,span_R h,hB⟩
 ·obtain⟨g,cap,rfl,hg,hlt,hc,hm,hH⟩:=Zkb h hv;have eg:∀args w,(callFunc 164 args).run Tryz.prog w=.ok (.enter 164 args) w:=enters_of Tryz.func164 (by kernel_rfl) rfl;have hHK:HoldsK encS 2 w g 0 l.toArray:=by unfold HoldsK;rw[Zrr];exact hH
  have hcon:=AnyQ.slices_SortFunc_total Tryz.sortSpan 2 (fun w=>by kernel_rfl) (fun w=>by kernel_rfl) encS (fun _=>rfl) (fun x v hv=>by simp[encS]at hv;rcases hv with rfl | rfl <;> rfl) cmpS swoS 164 #[] g 0 cap l.toArray w eg (fun _ _ _ _ x y=>closure164 x y _) hHK hlt (by simp;omega) (fun x y h1 h2=>by
   rw[Zmh]at h1 h2;unfold ltS at h1 h2;simp at h1 h2;omega)
  refine (show Calls Tryz.prog 163 _ _ _ from hcon).mono ?_
  rintro e w' ⟨rfl,n,os,rfl⟩;rw[Zmh];have e1:sortWorldK encS 2 w g 0 n (l.toArray.toList.mergeSort fun x y=>!ltS y x).toArray os=grow (putRow id (Go.Sort.ahead w n) g 0 (Zep l).toArray) os:=by
   unfold sortWorldK putRowK;rw[show (l.toArray.toList.mergeSort fun x y=>!ltS y x)=l from Zsr l hr,Zrr]
  rw[e1];have o1:=owns_put (q:=n) (ys:=Zep l) h (by rw[Zel]);have b1:=Lib.below_putRow (enc:=(id:Value→Value)) (d:=(Zep l).toArray) (q:=n) hB hg;exact⟨rfl,span_R (Zcu o1 (Zdn _ os)),Zik b1 b1.size (Zdn _ os)⟩
end Go.Proofs.YtpagbjdmiepgmaaGreatDoor.PVpa
namespace Go
section
variable {P:Program}{ops:Array Oper}{md:Region.Mode}
def Zai (ops:Array Oper)(i:Nat):Option Tmp:=(ops[i]?).bind (·.dst)
def Zao (ops:Array Oper)(a0:Act)(vals:Nat→Value):List Nat→Act
 | []=>a0
 | j :: l=>(Zao ops a0 vals l).put (Zai ops j) (vals j)
def looks (ops:Array Oper)(i:Nat):List Tmp:=match ops[i]? with
 | some o=>o.looksAt ops
 | none=>[]
def Zhc (md:Region.Mode)(ops:Array Oper)(m N:Nat)(deps:Nat→List Nat):Bool:=
 Region.noSelect ops&&decide (m≤ops.size) &&
 (List.range m).all (fun i=>
  (match ops[i]? with
   | some o=>o.guard.isNone&&o.after.all fun e=>!Region.binds md e||decide (e.on<i)
   | none=>false)
  && ((deps i).all fun k=>decide (k<m)&&Region.waitsFor md ops i k)
  && ((looks ops i).all fun t=>((deps i).any fun j=>Zai ops j==some t)||((List.range m).all fun j=>Zai ops j != some t||j==i||Region.waitsFor md ops j i))
  && (match Zai ops i with | some d=>decide (d<N) | none=>true)
  && ((List.range m).all fun j=>j==i||(Zai ops i).isNone||Zai ops j != Zai ops i))
 && (decide (m=ops.size)||(Region.sinkB md ops m&&Region.chainB md ops m))
def Zbv (m n:Nat):Array Bool:=(Array.range n).map fun i=>decide (i<m)
def Zjb (listed:Array Bool):Nat→Nat
 | 0=>0
 | j+1=>Zjb listed j+(if listed.getD j true=true then 0 else 1)
theorem Zjh (a:Act)(d:Option Tmp)(v:Value):(a.put d v).tmps.size=a.tmps.size:=by cases d <;> simp[Act.put]
theorem Zer (a:Act)(d:Option Tmp)(v:Value):(a.put d v).defers=a.defers:=by cases d <;> rfl
theorem Zdl (a0:Act)(vals:Nat→Value):∀l,(Zao ops a0 vals l).tmps.size=a0.tmps.size
 | []=>rfl
 | j :: l=>by unfold Zao;rw[Zjh,Zdl a0 vals l]
theorem Zdj (a0:Act)(vals:Nat→Value):∀l,(Zao ops a0 vals l).defers=a0.defers
 | []=>rfl
 | j :: l=>by unfold Zao;rw[Zer,Zdj a0 vals l]
theorem Zfl (a:Act)(d:Option Tmp)(v:Value)(t:Tmp)(hd:∀e,d=some e→e<a.tmps.size):(a.put d v).tmps.getD t undef=if d=some t then v else a.tmps.getD t undef:=by
 cases d with
 | none=>simp[Act.put]
 | some e=>
  have he:=hd e rfl;by_cases h:e=t
  ·subst h;simp[Act.put,he]
  ·rw[if_neg (by simp;exact h)];simp[Act.put,Array.getElem?_setIfInBounds_ne h]
theorem put_inj {ac:Act}{d:Option Tmp}{v v':Value}(h:ac.put d v=ac.put d v')(hd:∀e,d=some e→e<ac.tmps.size)(a:Act):a.put d v=a.put d v':=by
 cases d with
 | none=>rfl
 | some e=>
  have h1:=Zfl ac (some e) v e hd;have h2:=Zfl ac (some e) v' e hd;rw[if_pos rfl]at h1 h2;rw[h]at h1;rw[h1]at h2;rw[h2]
theorem Zff (a0:Act)(vals:Nat→Value)(t:Tmp):∀l,(∀j∈l,∀e,Zai ops j=some e→e<a0.tmps.size) →
 (∀j∈l,Zai ops j=some t→(∀k∈l,Zai ops k=some t→k=j)→(Zao ops a0 vals l).tmps.getD t undef=vals j)∧((∀j∈l,Zai ops j≠some t)→(Zao ops a0 vals l).tmps.getD t undef=a0.tmps.getD t undef)
 | [],_=>⟨(fun j hj=>(by cases hj)),fun _=>rfl⟩
 | k :: l,hs=>by
  have ih:=Zff a0 vals t l (fun j hj=>hs j (List.mem_cons_of_mem _ hj));have hp:=Zfl (Zao ops a0 vals l) (Zai ops k) (vals k) t (fun e he=>by rw[Zdl];exact hs k List.mem_cons_self e he);refine⟨fun j hj hd hu=>?_,fun hn=>?_⟩
  ·unfold Zao;rw[hp];by_cases hk:Zai ops k=some t
   ·rw[if_pos hk];rw[hu k List.mem_cons_self hk]
   ·rw[if_neg hk]
    rcases List.mem_cons.1 hj with rfl | hj
    ·exact absurd hd hk
    ·exact ih.1 j hj hd (fun i hi=>hu i (List.mem_cons_of_mem _ hi))
  ·unfold Zao;rw[hp,if_neg (hn k List.mem_cons_self)];exact ih.2 (fun j hj=>hn j (List.mem_cons_of_mem _ hj))
theorem Zjr {listed:Array Bool}{i:Nat}(hi:listed.getD i true=false):∀n,Zjb (listed.setIfInBounds i true) n+(if i<n then 1 else 0)=Zjb listed n
 | 0=>by simp[Zjb]
 | n+1=>by
  have ih:=Zjr hi n;unfold Zjb;by_cases h:n=i
  ·subst h;have h1:(listed.setIfInBounds n true).getD n true=true:=by
    by_cases hs:n<listed.size
    ·simp[hs]
    ·simp[Array.getElem?_eq_none (Nat.le_of_not_lt hs)]
   rw[h1,hi];simp at ih ⊢;omega
  ·rw[getD_set_ne true (fun e=>h e.symm)];by_cases h2:i<n
   ·have e1:(if i<n+1 then 1 else 0)=1:=if_pos (by omega);rw[if_pos h2]at ih;rw[e1];omega
   ·have e1:(if i<n+1 then 1 else 0)=0:=if_neg (by omega);rw[if_neg h2]at ih;rw[e1];omega
theorem Zgk {listed:Array Bool}:∀n,Zjb listed n=0→∀j,j<n→listed.getD j true=true
 | 0,_,j,hj=>by omega
 | n+1,h,j,hj=>by
  unfold Zjb at h;by_cases hn:listed.getD n true=true
  ·rw[if_pos hn]at h;by_cases e:j=n
   ·subst e;exact hn
   ·exact Zgk n (by omega) j (by omega)
  ·rw[if_neg hn]at h;omega
theorem Zgl {listed:Array Bool}:∀n,Zjb listed n≠0→∃j,j<n∧listed.getD j true=false∧∀k,k<j→listed.getD k true=true
 | 0,h=>absurd rfl h
 | n+1,h=>by
  by_cases h0:Zjb listed n=0
  ·refine⟨n,by omega,?_,Zgk n h0⟩;cases hb:listed.getD n true with
   | false=>rfl
   | true=>unfold Zjb at h;rw[h0,hb]at h;simp at h
  ·obtain⟨j,hj,h1,h2⟩:=Zgl n h0;exact⟨j,by omega,h1,h2⟩
structure GInv (md:Region.Mode)(ops:Array Oper)(m:Nat)(a0:Act)(deps:Nat→List Nat)(Φ:Nat→List Value→World→Prop)(R:World→World→Prop)(w0:World)(listed:Array Bool)(a:Act)(vals:Nat→Value)(w:World):Prop where
 size:a.tmps.size=a0.tmps.size
 defers:a.defers=a0.defers
 lsize:listed.size=ops.size
 done:∀j,j<m→listed.getD j true=true→∀d,Zai ops j=some d→a.tmps.getD d undef=vals j
 open_:∀t,(∀j,j<m→listed.getD j true=true→Zai ops j≠some t)→a.tmps.getD t undef=a0.tmps.getD t undef
 facts:∀j,j<m→listed.getD j true=true→Φ j ((j :: deps j).map vals) w
 rel:R w0 w
 tail:∀t,m≤t→t<ops.size→listed.getD t true=false
 closed:∀j,j<m→listed.getD j true=true→∀i,Region.waitsFor md ops j i=true→listed.getD i false=true
theorem Act.ext' {a b:Act}(hs:a.tmps.size=b.tmps.size)(hd:a.defers=b.defers)(h:∀t,a.tmps.getD t undef=b.tmps.getD t undef):a=b:=by
 obtain⟨x,d⟩:=a;obtain⟨y,e⟩:=b;have hd:d=e:=hd;have hs:x.size=y.size:=hs;have h:∀t:Nat,x.getD t undef=y.getD t undef:=h;subst hd;have:x=y:=Array.ext hs (fun i h1 h2=>by
  have:=h i;simpa[h1,h2]using this)
 rw[this]
theorem Zgo {Q:Exit→Act→World→Prop}{o:Oper}{a ac:Act}{w:World}{T:Value→World→Prop}{K:Act→World→Prop}(he:execOp a.eval o=execOp ac.eval o)(hd:∀e,o.dst=some e→e<ac.tmps.size)(hdef:a.defers=ac.defers)
 (hK:∀v w',T v w'→K (a.put o.dst v) w') (h:Oper.wp P o ac w (fun a' w'=>∃v,a'=ac.put o.dst v∧T v w') (fun _ _ _=>False)):Oper.wp P o a w K Q:=by
 have go:∀v w',(∃v',ac.put o.dst v=ac.put o.dst v'∧T v' w')→K (a.put o.dst v) w':=fun v w' ⟨v',e,ht⟩=>by
  rw[put_inj e hd a];exact hK v' w' ht
 unfold Oper.wp at *;rw[he];generalize (execOp ac.eval o).run P w=r at *;cases r with
 | ok n w'=>
  cases n <;> simp only[Oper.upon]at h ⊢
  case value v=>exact go v w' h
  case skip=>exact go undef w' h
  case defer d=>
   obtain⟨v,e,_⟩:=h;have:=congrArg Act.defers e;rw[Zer,Zer]at this;exact absurd this (by simp)
  case enter f args=>
   refine Calls.mono h fun e w'' he=>?_
   cases e with
   | returned v=>exact go v w'' he
   | panicked c=>exact (he:False).elim
   | outgrown=>obtain⟨_,_,hf⟩:=(he:LetsOut _);exact hf.elim
  case row row args=>exact Rows.mono h fun v w'' he=>go v w'' he
 | halt x w'=>
  cases x <;> simp only[Oper.upon]at h
theorem Zct {i j:Nat}{listed:Array Bool}(hr:i∈Region.ready md ops listed)(hw:Region.waitsFor md ops i j=true):listed.getD j false=true:=by
 obtain⟨_,o,ho,hall⟩:=mem_ready.1 hr;obtain⟨o',ho',e,he,hb,hj⟩:=Region.waitsFor_spec hw;rw[ho]at ho';injection ho' with ho'
 subst ho';rw[←hj];exact hall e he hb
section main
variable {Q:Exit→Act→World→Prop}{a0:Act}{w0:World}{m N:Nat}{deps:Nat→List Nat}{Φ:Nat→List Value→World→Prop}{R:World→World→Prop}
theorem grow_go (hB:Zhc md ops m N deps=true)(hT:Region.seqB md ops (ops.size-m) m (Zbv m ops.size)=true)(hN:a0.tmps.size=N)(hRt:∀w w1 w2,R w w1→R w1 w2→R w w2)
 (stab:∀i vs w w',Φ i vs w→R w w'→Φ i vs w')
 (step:∀i o,i<m→ops[i]?=some o→∀(vals:Nat→Value) W,R w0 W→(∀j∈deps i,Φ j ((j :: deps j).map vals) W) →
  ∀K:Act→World→Prop,(∀v w',R W w'→Φ i (v :: (deps i).map vals) w'→K ((Zao ops a0 vals (deps i)).put o.dst v) w')→if Region.wanted o (yielded ops (Zao ops a0 vals (deps i)).tmps)=true then Oper.wp P o (Zao ops a0 vals (deps i)) W K (fun _ _ _=>False)else K ((Zao ops a0 vals (deps i)).put o.dst undef) W)
 (fin:∀(vals:Nat→Value) W,R w0 W→(∀j,j<m→Φ j ((j :: deps j).map vals) W)→wpList P ops Q (ops.toList.drop m) (Zao ops a0 vals (List.range m)) W) :
 ∀k listed a w vals,Zjb listed m=k→GInv md ops m a0 deps Φ R w0 listed a vals w→wpAny P md ops Q (ops.size-m+k) listed a w:=by
 simp only[Zhc,Bool.and_eq_true,Bool.or_eq_true,decide_eq_true_eq]at hB;obtain⟨⟨⟨hsel,hms⟩,hall⟩,hsink⟩:=hB;simp only[Bool.and_eq_true,List.all_eq_true,List.mem_range,decide_eq_true_eq]at hall;have hdst:∀j,j<m→∀e,Zai ops j=some e→e<a0.tmps.size:=fun j hj e he=>by
  have:=(hall j hj).1.2;rw[he]at this;rw[hN];simpa using this
 have hdis:∀i j,i<m→j<m→∀t,Zai ops i=some t→Zai ops j=some t→j=i:=fun i j hi hj t h1 h2=>by
  have:=(hall i hi).2 j hj;simp only[Bool.or_eq_true,beq_iff_eq,bne_iff_ne,ne_eq,h1,h2,Option.isNone_some,Bool.false_eq_true,or_false,not_true_eq_false]at this;exact this
 intro k
 induction k with
 | zero=>
  intro listed a w vals hc inv;have hl:=Zgk m hc;have e1:listed=Zbv m ops.size:=by
   apply Array.ext
   ·simp[Zbv,inv.lsize]
   ·intro i h1 h2;have hi:i<ops.size:=by rw[←inv.lsize];exact h1
    simp only[Zbv,Array.getElem_map,Array.getElem_range];by_cases him:i<m
    ·have:=hl i him;simp[h1]at this;rw[this,decide_eq_true him]
    ·have:=inv.tail i (by omega) hi;simp[h1]at this;rw[this,decide_eq_false him]
  have e2:a=Zao ops a0 vals (List.range m):=by
   refine Act.ext' (by rw[Zdl];exact inv.size) (by rw[Zdj];exact inv.defers) (fun t=>?_);have hg:=Zff (ops:=ops) a0 vals t (List.range m) (fun j hj=>hdst j (List.mem_range.1 hj));by_cases hx:∃j,j<m∧Zai ops j=some t
   ·obtain⟨j,hj,hd⟩:=hx;rw[hg.1 j (List.mem_range.2 hj) hd (fun i hi hd2=>hdis j i hj (List.mem_range.1 hi) t hd hd2)];exact inv.done j hj (hl j hj) t hd
   ·rw[hg.2 (fun j hj hd=>hx ⟨j,List.mem_range.1 hj,hd⟩)];exact inv.open_ t (fun j hj _ hd=>hx ⟨j,hj,hd⟩)
  rw[e1,e2];have hlen:(ops.toList.drop m).length=ops.size-m:=by simp
  have h3:=wpAny_of_seq (P:=P) (md:=md) (ops:=ops) (Q':=Q) (ops.toList.drop m) m (Zbv m ops.size) (Zao ops a0 vals (List.range m)) w (fun j=>by simp) (by rw[hlen];exact hT) (fin vals w inv.rel (fun j hj=>inv.facts j hj (hl j hj)));rw[hlen]at h3;exact h3
 | succ k ih=>
  intro listed a w vals hc inv;obtain⟨j0,hj0,hu0,hb0⟩:=Zgl m (by omega:Zjb listed m≠0);have hin:∀i,i<ops.size→listed.getD i true=true→listed.getD i false=true:=fun i hi h=>by
   have:i<listed.size:=by rw[inv.lsize];exact hi
   simp[this]at h ⊢;exact h
  refine⟨fun h0=>?_,fun i hi=>?_⟩
  ·have hr:j0∈Region.ready md ops listed:=by
    have h1:=(hall j0 hj0).1.1.1.1;cases ho:ops[j0]? with
    | none=>rw[ho]at h1;cases h1
    | some o=>
     rw[ho]at h1;simp only[Bool.and_eq_true,Array.all_eq_true_iff_forall_mem]at h1;refine mem_ready.2 ⟨hu0,o,ho,fun e he hb=>?_⟩;have h2:=h1.2 e he;rw[hb]at h2;simp at h2;exact hin _ (by omega) (hb0 _ h2)
   rw[h0]at hr;cases hr
  ·obtain⟨hui,o,ho,hafter⟩:=mem_ready.1 hi;have him:i<m:=by
    rcases Nat.lt_or_ge i m with h | h
    ·exact h
    ·exfalso
     have his:i<ops.size:=(Array.getElem?_eq_some_iff.1 ho).1
     rcases hsink with h2 | ⟨hs1,hs2⟩
     ·omega
     ·have hinv:HeadInv md ops m listed:=⟨inv.lsize,fun j oj hj hl e he hb=>?_,inv.tail⟩
      ·exact tail_waits hs1 hs2 (by omega) hinv (m-j0) j0 rfl hj0 hu0 i h hi
      ·have hjs:j<ops.size:=(Array.getElem?_eq_some_iff.1 hj).1;have hl2:listed.getD j true=true:=by
        have:j<listed.size:=by rw[inv.lsize];exact hjs
        simp[this]at hl ⊢;exact hl
       rcases Nat.lt_or_ge j m with hjm | hjm
       ·refine inv.closed j hjm hl2 e.on ?_
        unfold Region.waitsFor;rw[hj];exact Array.any_eq_true'.2 ⟨e,he,by simp[hb]⟩
       ·have:=inv.tail j hjm hjs;rw[hl2]at this;cases this
   have hfact:=hall i him;have hdl:∀j∈deps i,j<m∧listed.getD j true=true:=fun j hj=>by
    obtain⟨h2,h3⟩:=hfact.1.1.1.2 j hj;refine⟨h2,?_⟩;have h4:=Zct hi h3;cases hb:listed.getD j true with
    | true=>rfl
    | false=>have:=getD_both hb;rw[h4]at this;cases this
   have hdo:Zai ops i=o.dst:=by unfold Zai;rw[ho];rfl
   have hlk:looks ops i=o.looksAt ops:=by unfold looks;rw[ho]
   have hsame:∀t∈o.looksAt ops,a.tmps.getD t undef=(Zao ops a0 vals (deps i)).tmps.getD t undef:=fun t ht=>by
    have h1:=hfact.1.1.2;rw[hlk]at h1;have h1:=h1 t ht;simp only[Bool.or_eq_true,List.any_eq_true,List.all_eq_true,beq_iff_eq,bne_iff_ne,ne_eq,List.mem_range]at h1;have hg:=Zff (ops:=ops) a0 vals t (deps i) (fun j hj=>hdst j (hdl j hj).1)
    rcases h1 with⟨j,hj,hd⟩ | h2
    ·rw[hg.1 j hj hd (fun k hk hd2=>hdis j k (hdl j hj).1 (hdl k hk).1 t hd hd2)];exact inv.done j (hdl j hj).1 (hdl j hj).2 t hd
    ·have hno:∀j,j<m→listed.getD j true=true→Zai ops j≠some t:=fun j hj hlj hd=>by
      rcases h2 j hj with (h3 | h3) | h3
      ·exact h3 hd
      ·subst h3;rw[hui]at hlj;cases hlj
      ·have h5:=inv.closed j hj hlj i h3;have h4:=getD_both hui;rw[h5]at h4;cases h4
     rw[inv.open_ t hno,hg.2 (fun j hj=>hno j (hdl j hj).1 (hdl j hj).2)]
   have hgd:o.guard=none:=by
    have h1:=hfact.1.1.1.1;rw[ho]at h1;simp only[Bool.and_eq_true,Option.isNone_iff_eq_none]at h1;exact h1.1
   have hwant:∀tmps,Region.wanted o (yielded ops tmps)=true:=fun tmps=>by unfold Region.wanted;rw[hgd]
   have hnot:i ∉ deps i:=fun h=>by
    have:=(hdl i h).2;rw[hui]at this;cases this
   have hst:=step i o him ho vals w inv.rel (fun j hj=>inv.facts j (hdl j hj).1 (hdl j hj).2)
    (fun a' w'=>∃v,a'=(Zao ops a0 vals (deps i)).put o.dst v∧R w w'∧Φ i (v :: (deps i).map vals) w') (fun v w' h1 h2=>⟨v,rfl,h1,h2⟩)
   rw[if_pos (hwant _)]at hst;have hev:execOp a.eval o=execOp (Zao ops a0 vals (deps i)).eval o:=execOp_congr o (fun cs b=>Region.noSelect_spec hsel i o cs b ho) (fun x hx=>by
    cases x with
    | tmp t=>exact hsame t (List.mem_append_left _ (List.mem_filterMap.2 ⟨.tmp t,by simpa using hx,rfl⟩))
    | _=>rfl)
   unfold wpOp;simp only[ho,hwant,if_true];refine .inl (Zgo hev (fun e he=>by rw[Zdl];exact hdst i him e (hdo.trans he)) (by rw[Zdj];exact inv.defers) ?_ hst);rintro v w' ⟨hR,hΦ⟩;have hmap:∀l:List Nat,i ∉ l→l.map (fun j=>if j=i then v else vals j)=l.map vals:=fun l hl=>List.map_congr_left (fun j hj=>if_neg (fun e:j=i=>hl (by rw[←e];exact hj)))
   have his:i<listed.size:=by rw[inv.lsize];exact (Array.getElem?_eq_some_iff.1 ho).1
   have hset:∀j,(listed.setIfInBounds i true).getD j true=true→j≠i→listed.getD j true=true:=fun j hj hne=>by
    rw[getD_set_ne true (fun e=>hne e.symm)]at hj;exact hj
   refine ih (listed.setIfInBounds i true) (a.put o.dst v) w' (fun j=>if j=i then v else vals j) ?_ ⟨?_,?_,?_,?_,?_,?_,?_,?_,?_⟩
   ·have:=Zjr hui m;rw[if_pos him]at this;omega
   ·rw[Zjh];exact inv.size
   ·rw[Zer];exact inv.defers
   ·simp[inv.lsize]
   ·intro j hj hlj d hd;rw[Zfl _ _ _ _ (fun e he=>by rw[inv.size];exact hdst i him e (hdo.trans he))];by_cases hji:j=i
    ·subst hji;rw[if_pos (hdo.symm.trans hd),if_pos rfl]
    ·rw[if_neg (fun h=>hji (hdis i j him hj d (hdo.trans h) hd)),if_neg hji];exact inv.done j hj (hset j hlj hji) d hd
   ·intro t ht;have hti:=ht i him (by simp[his]);rw[Zfl _ _ _ _ (fun e he=>by rw[inv.size];exact hdst i him e (hdo.trans he)),if_neg (fun h=>hti (hdo.trans h))];refine inv.open_ t (fun j hj hlj=>?_);by_cases hji:j=i
    ·subst hji;exact hti
    ·exact ht j hj (by rw[getD_set_ne true (fun e=>hji e.symm)];exact hlj)
   ·intro j hj hlj;by_cases hji:j=i
    ·subst hji;have e:(j :: deps j).map (fun k=>if k=j then v else vals k)=v :: (deps j).map vals:=by
      rw[List.map_cons,if_pos rfl,hmap _ hnot]
     rw[e];exact hΦ
    ·have hlj':=hset j hlj hji;rw[hmap (j :: deps j) (fun h=>by
      rcases List.mem_cons.1 h with h | h
      ·exact hji h.symm
      ·have h2:=inv.closed j hj hlj' i ((hall j hj).1.1.1.2 i h).2;have h4:=getD_both hui;rw[h2]at h4;cases h4)]
     exact stab _ _ _ _ (inv.facts j hj hlj') hR
   ·exact hRt _ _ _ inv.rel hR
   ·intro t ht ht2;rw[getD_set_ne true (by omega)];exact inv.tail t ht ht2
   ·intro j hj hlj k hk;by_cases hki:k=i
    ·subst hki;simp[his]
    ·rw[getD_set_ne false (fun e=>hki e.symm)];by_cases hji:j=i
     ·subst hji;exact Zct hi hk
     ·exact inv.closed j hj (hset j hlj hji) k hk
end main
theorem Znm {id:Nat}{Q:Exit→Act→World→Prop}{a0:Act}{w:World}{l:List Oper}(m N:Nat)(deps:Nat→List Nat)(Φ:Nat→List Value→World→Prop)(R:World→World→Prop)
 (hm:P.follows .mixedOrders=true) (hB:Zhc .any l.toArray m N deps=true) (hT:Region.seqB .any l.toArray (l.toArray.size-m) m (Zbv m l.toArray.size)=true) (hN:a0.tmps.size=N)
 (hRr:∀w,R w w) (hRt:∀w w1 w2,R w w1→R w1 w2→R w w2) (stab:∀i vs w w',Φ i vs w→R w w'→Φ i vs w')
 (step:∀i o,i<m→l.toArray[i]?=some o→∀(vals:Nat→Value) W,R w.drew W→(∀j∈deps i,Φ j ((j :: deps j).map vals) W) →
  ∀K:Act→World→Prop,(∀v w',R W w'→Φ i (v :: (deps i).map vals) w'→K ((Zao l.toArray a0 vals (deps i)).put o.dst v) w')→if Region.wanted o (yielded l.toArray (Zao l.toArray a0 vals (deps i)).tmps)=true then Oper.wp P o (Zao l.toArray a0 vals (deps i)) W K (fun _ _ _=>False)else K ((Zao l.toArray a0 vals (deps i)).put o.dst undef) W)
 (fin:∀(vals:Nat→Value) W,R w.drew W→(∀j,j<m→Φ j ((j :: deps j).map vals) W)→wpList P l.toArray Q (l.drop m) (Zao l.toArray a0 vals (List.range m)) W) :
 (Code.region id l.toArray true).wp P Q a0 w:=by
 refine wp_region_any hm ?_
 have hms:m≤l.toArray.size:=by
  simp only[Zhc,Bool.and_eq_true,decide_eq_true_eq]at hB;exact hB.1.1.2
 have h0:∀j,j<l.toArray.size→(Array.replicate l.toArray.size false).getD j true=false:=fun j hj=>getD_in (by simpa using hj) (getD_replicate_false _ _)
 have hc:Zjb (Array.replicate l.toArray.size false) m=m:=by
  have:∀n,n≤l.toArray.size→Zjb (Array.replicate l.toArray.size false) n=n:=fun n=>by
   induction n with
   | zero=>intro _;rfl
   | succ n ih=>intro hn;unfold Zjb;rw[ih (by omega),h0 n (by omega)];rfl
  exact this m hms
 have h:=grow_go (P:=P) (md:=.any) (ops:=l.toArray) (Q:=Q) (a0:=a0) (w0:=w.drew) (m:=m) (N:=N) (deps:=deps) (Φ:=Φ) (R:=R) hB hT hN hRt stab step (by simpa using fin) m (Array.replicate l.toArray.size false) a0 w.drew (fun _=>undef) hc
  ⟨rfl,rfl,by simp,(fun j hj hl=>by rw[h0 j (by omega)]at hl;exact absurd hl (by decide)),(fun t _=>rfl),(fun j hj hl=>by rw[h0 j (by omega)]at hl;exact absurd hl (by decide)),hRr _,(fun t ht ht2=>h0 t ht2),(fun j hj hl=>by rw[h0 j (by omega)]at hl;exact absurd hl (by decide))⟩
 have e:l.toArray.size-m+m=l.toArray.size:=by omega
 rw[e]at h;exact h
def Does (P:Program)(o:Oper)(a:Act)(W:World)(T:Value→World→Prop):Prop:=∀K:Act→World→Prop,(∀v w',T v w'→K (a.put o.dst v) w')→Oper.wp P o a W K (fun _ _ _=>False)
theorem Zad {o:Oper}{a:Act}{W W':World}{T:Value→World→Prop}{v:Value}(h:(execOp a.eval o).run P W=.ok (.value v) W')(ht:T v W'):Does P o a W T:=fun K hK=>by
 unfold Oper.wp;rw[h];exact hK v W' ht
theorem Zjq {o:Oper}{a:Act}{W W':World}{T:Value→World→Prop}(h:(execOp a.eval o).run P W=.ok .skip W')(ht:T undef W'):Does P o a W T:=fun K hK=>by
 unfold Oper.wp;rw[h];exact hK undef W' ht
theorem Zbi {o:Oper}{a:Act}{W W':World}{T:Value→World→Prop}{f:FuncId}{args:Array Value}(h:(execOp a.eval o).run P W=.ok (.enter f args) W')(hc:Calls P f args W' fun e w''=>∃v,e=.returned v∧T v w''):Does P o a W T:=fun K hK=>by
 unfold Oper.wp;rw[h];exact hc.mono fun e w'' ⟨v,e1,ht⟩=>by subst e1;exact hK v w'' ht
theorem Zrv {o:Oper}{a:Act}{W:World}{T:Value→World→Prop}(hg:o.guard=none)(h:∀K:Act→World→Prop,(∀v w',T v w'→K (a.put o.dst v) w')→if Region.wanted o (yielded ops a.tmps)=true then Oper.wp P o a W K (fun _ _ _=>False)else K (a.put o.dst undef) W):Does P o a W T:=fun K hK=>by
 have:=h K hK;have hw:Region.wanted o (yielded ops a.tmps)=true:=by unfold Region.wanted;rw[hg]
 rw[if_pos hw]at this;exact this
def AllSteps (S:Nat→Oper→Prop):Nat→List Oper→Prop
 | _,[]=>True
 | i,o :: l=>S i o∧AllSteps S (i+1) l
theorem AllSteps.at_ {S:Nat→Oper→Prop}:∀{l:List Oper} {i:Nat},AllSteps S i l→∀k o,l[k]?=some o→S (i+k) o
 | [],_,_,k,o,h=>by simp at h
 | x :: l,i,hs,0,o,h=>by
  simp at h;subst h;exact hs.1
 | x :: l,i,hs,k+1,o,h=>by
  have:=AllSteps.at_ hs.2 k o (by simpa using h);rw[show i+(k+1)=i+1+k by omega];exact this
theorem Zbq {id:Nat}{Q:Exit→Act→World→Prop}{a0:Act}{w:World}{l:List Oper}(m N:Nat)(deps:Nat→List Nat)(Φ:Nat→List Value→World→Prop)(R:World→World→Prop)
 (hm:P.follows .mixedOrders=true) (hB:Zhc .any l.toArray m N deps=true) (hT:Region.seqB .any l.toArray (l.toArray.size-m) m (Zbv m l.toArray.size)=true) (hN:a0.tmps.size=N)
 (hRr:∀w,R w w) (hRt:∀w w1 w2,R w w1→R w1 w2→R w w2) (stab:∀i vs w w',Φ i vs w→R w w'→Φ i vs w')
 (steps:AllSteps (fun i o=>∀(vals:Nat→Value) W,R w.drew W→(∀j∈deps i,Φ j ((j :: deps j).map vals) W)→Does P o (Zao l.toArray a0 vals (deps i)) W (fun v w'=>R W w'∧Φ i (v :: (deps i).map vals) w')) 0 (l.take m))
 (fin:∀(vals:Nat→Value) W,R w.drew W→(∀j,j<m→Φ j ((j :: deps j).map vals) W)→wpList P l.toArray Q (l.drop m) (Zao l.toArray a0 vals (List.range m)) W) :
 (Code.region id l.toArray true).wp P Q a0 w:=by
 refine Znm m N deps Φ R hm hB hT hN hRr hRt stab (fun i o hi ho vals W hR hd K hK=>?_) fin;have h:=AllSteps.at_ steps i o (by rw[List.getElem?_take,if_pos hi];simpa using ho) vals W hR (by simpa using hd) K
 split
 ·simp only[Nat.zero_add]at h;exact h (fun v w' ⟨h1,h2⟩=>hK v w' h1 h2)
 ·rename_i hw
  exfalso
  simp only[Zhc,Bool.and_eq_true,decide_eq_true_eq,List.all_eq_true,List.mem_range]at hB;have h1:=(hB.1.2 i hi).1.1.1.1;rw[ho]at h1;simp only[Bool.and_eq_true,Option.isNone_iff_eq_none]at h1;exact hw (by unfold Region.wanted;rw[h1.1])
end
end Go
namespace Go.Proofs.YtpagbjdmiepgmaaGreatDoor.PVpa
open Go.RowKit Go.Proofs.YtpagbjdmiepgmaaGreatDoorW.PrintWords Go.Proofs.YtpagbjdmiepgmaaGreatDoorW.PrintLast Go.Proofs.YtpagbjdmiepgmaaGreatDoorW.PrintMore
structure Mach.Ok (M:Mach)(φ:Nat→Nat):Prop where
 shape:∀i:Int,0≤i→i<M.pl.length→∀k,(Zbe M.pl i).shape=some k→(k,Zec M.sh k)∈M.sh
 inner:∀i:Int,0≤i→i<M.pl.length→∀k,(Zbe M.pl i).inner=some k→(k,Zec M.sh k)∈M.sh
 begins:∀i:Int,0≤i→i<M.pl.length→(Zbe M.pl i).kind=2→∃k,(Zbe M.pl i).shape=some k
 pin:∀i:Int,0≤i→i<M.pl.length→(Zbe M.pl i).p.f0=3→∃k,(Zbe M.pl i).inner=some k
 inj:∀k k' s s',(k,s)∈M.sh→(k',s')∈M.sh→φ k=φ k'→k=k'
 short:M.pl.length≤100000
 follow:∀i:Int,0≤i→i<M.pl.length→(Zbe M.pl i).follow.length≤100000∧(Zbe M.pl i).p.f1.length≤100000∧(Zbe M.pl i).p.f2.length≤100000∧∀q∈(Zbe M.pl i).follow,0≤q∧q<M.pl.length
 rules:∀k s,(k,s)∈M.sh→0≤s.rule→s.rule<M.steps.length∧0≤s.step∧s.step≤1000
 starts:∀i:Nat,i<M.frees.length→i<M.steps.length∧∃k r,M.steps.getD i []=k :: r
 stepsIn:∀i:Nat,∀k∈M.steps.getD i [],(k,Zec M.sh k)∈M.sh
 fewer:M.steps.length≤1000∧M.frees.length≤1000∧∀i:Nat,(M.steps.getD i []).length≤1000
 lists:∀k s,(k,s)∈M.sh→s.first.length≤100000∧s.last.length≤100000∧∀q∈s.first,0≤q∧q<M.pl.length
def Zdo (M:Mach)(p:Int):List Int:=if (Zbe M.pl p).kind=2 then (match (Zbe M.pl p).shape with | some k=>(Zec M.sh k).first | none=>[])else (Zbe M.pl p).follow
theorem next_at (w0 w:World)(gb:Nat)(G:S26)(M:Mach)(φ:Nat→Nat)(h:VR w0 gb G M φ)(hb0:Below w0.heap.size w0 w)(ok:M.Ok φ)(p:Int)(h0:0≤p)(h1:p<M.pl.length) :
 Calls Tryz.prog 37 #[.pointer (some ⟨gb,0,none⟩),.int .i64 p] w fun e w'=>(∃A c,e=.returned (.slice A (Zdo M p).length c)∧(Zdo M p).length≤c∧(Kd.int .i64).C w0 A (Zdo M p).length (Zdo M p))∧w'=w:=by
 obtain⟨At,ct,Ar,cr,Ap,cp,As,cs,Af,cf,hc,_,_,_,_,_,hp,_⟩:=h.cells;have g2:w.cell? ⟨gb,2,none⟩=some (.slice Ap M.pl.length cp):=Zab hb0 ((Zac hc 2).trans rfl);obtain⟨ad,A1,c1,A2,c2,A3,c3,A4,c4,rfl,k0,k1,_,_,_,_,_,k7,_,_,_,_,_,l4,f4⟩:=Zpx hp p h0 h1;have HS:=Zaa.mk h.shapes;have HL4:=Zaa.mk l4;have HF4:=Zaa.mk f4;have k0:=Zab hb0 k0;have k1:=Zab hb0 k1;have k7:=Zab hb0 k7;by_cases e2:(Zbe M.pl p).kind=2
 ·obtain⟨k,hk⟩:=ok.begins p h0 h1 e2;have hm:=ok.shape p h0 h1 k hk;obtain⟨B1,d1,B2,d2,hb,m1,n1,m2,n2⟩:=(HS.out k _ hm).cells;have s1:w.cell? ⟨φ k,1,none⟩=some (.slice B1 (Zec M.sh k).first.length d1):=Zab hb0 ((Zac hb 1).trans rfl);have e:Zdo M p=(Zec M.sh k).first:=by unfold Zdo;rw[if_pos e2,hk]
  rw[hk]at k1;rw[e2]at k0;change w.cell? _=some (.pointer (some ⟨φ k,0,none⟩))at k1;have HN:=Zaa.mk n1;have HM:=Zaa.mk m1;rw[e];generalize (Zec M.sh k).first=l at s1 HN HM ⊢
  clear hc h hp hb hm hk m1 n1 m2 n2 e e2 l4 f4 ok HL4 HF4 k7 hb0 HS
  go_enter Tryz.func37,Tryz.ntmps37
  go_wp2
  go_ret
  exact⟨⟨B1,d1,rfl,HM.out,HN.out⟩,rfl⟩
 ·have e:Zdo M p=(Zbe M.pl p).follow:=by unfold Zdo;rw[if_neg e2]
  have q:((Zbe M.pl p).kind==2)=false:=by simpa using e2
  rw[e];generalize (Zbe M.pl p).kind=k at k0 q;generalize (Zbe M.pl p).follow=l at k7 HL4 HF4 ⊢;clear hc h hp l4 f4 ok e e2 k1 hb0 HS
  go_enter Tryz.func37,Tryz.ntmps37
  go_wp2
  go_ret
  exact⟨⟨A4,c4,rfl,HL4.out,HF4.out⟩,rfl⟩
theorem next_call (w:World)(gb:Nat)(G:S26)(M:Mach)(φ:Nat→Nat)(h:VR w gb G M φ)(ok:M.Ok φ)(p:Int)(h0:0≤p)(h1:p<M.pl.length) :
 Calls Tryz.prog 37 #[.pointer (some ⟨gb,0,none⟩),.int .i64 p] w fun e w'=>(∃A c,e=.returned (.slice A (Zdo M p).length c)∧(Zdo M p).length≤c∧(Kd.int .i64).C w A (Zdo M p).length (Zdo M p))∧w'=w:=
 next_at w w gb G M φ h Zbr ok p h0 h1
theorem info97:∃j,Tryz.prog.info? 97=some j∧j.size≠0:=by
 have h:(Tryz.prog.info? 97).map (fun i=>i.size)=some 6:=by kernel_rfl
 cases hi:Tryz.prog.info? 97 with
 | none=>rw[hi]at h;cases h
 | some j=>
  rw[hi]at h;have h2:j.size=6:=by injection h
  exact⟨j,rfl,by omega⟩
theorem Zqk (a:Addr)(w:World):(binOp .neq 88 (.pointer (some a)) (.pointer (some a))).run Tryz.prog w=.ok (.bool false) w:=by
 obtain⟨j,hj,_⟩:=info97;have h:∀d:Nat,(Op.equalIn (d+1) 88 (.pointer (some a)) (.pointer (some a))).run Tryz.prog w=.ok true w:=fun d=>by
  simp[Op.equalIn,run_underlying Tryz.underlying88,sizeOf,typeInfo,hj,run_sameAddr_same]
 simp only[binOp];simp[Op.equal,Op.maxDepth,h 9999]
theorem Zpb {a b:Addr}{ca cb:Array Value}{ta tb:TypeId}(w:World)(hne:a≠b)(ha:w.heap[a.block]?=some (.cells ca ta (0,0)))(hb:w.heap[b.block]?=some (.cells cb tb (0,0))) :
 (binOp .neq 88 (.pointer (some a)) (.pointer (some b))).run Tryz.prog w=.ok (.bool true) w:=by
 obtain⟨j,hj,hsz⟩:=info97;have h:∀d:Nat,(Op.equalIn (d+1) 88 (.pointer (some a)) (.pointer (some b))).run Tryz.prog w=.ok false w:=fun d=>by
  simp[Op.equalIn,run_underlying Tryz.underlying88,sizeOf,typeInfo,hj,hsz,run_sameAddr_other w hne ha hb]
 simp only[binOp];simp[Op.equal,Op.maxDepth,h 9999]
theorem Zql (a:Addr)(w:World):(binOp .neq 88 (.pointer none) (.pointer (some a))).run Tryz.prog w=.ok (.bool true) w:=by
 have h:∀d:Nat,(Op.equalIn (d+1) 88 (.pointer none) (.pointer (some a))).run Tryz.prog w=.ok false w:=fun d=>by
  simp[Op.equalIn,run_underlying Tryz.underlying88]
 simp only[binOp];simp[Op.equal,Op.maxDepth,h 9999]
def Zom (M:Mach)(p:Int):Option Nat→Bool
 | none=>false
 | some k=>decide ((Zbe M.pl p).shape=some k)&&((decide ((Zbe M.pl p).kind=2)&&(Zec M.sh k).empty)||(decide ((Zbe M.pl p).kind=3)&&hasI (Zec M.sh k).last p))
set_option maxHeartbeats 4000000 in
theorem Zpp (w:World)(gb:Nat)(G:S26)(M:Mach)(φ:Nat→Nat)(h:VR w gb G M φ)(ok:M.Ok φ)(p:Int)(h0:0≤p)(h1:p<M.pl.length)(s:Option Nat)(hs:∀k,s=some k→(k,Zec M.sh k)∈M.sh) :
 Calls Tryz.prog 45 #[.pointer (some ⟨gb,0,none⟩),.int .i64 p,ptr φ s] w fun e w'=>e=.returned (.bool (Zom M p s))∧Drawn0 w w':=by
 obtain⟨At,ct,Ar,cr,Ap,cp,As,cs,Af,cf,hc,_,_,_,_,_,hp,_⟩:=h.cells;have g2:w.cell? ⟨gb,2,none⟩=some (.slice Ap M.pl.length cp):=(Zac hc 2).trans rfl;obtain⟨ad,A1,c1,A2,c2,A3,c3,A4,c4,rfl,k0,k1,_⟩:=Zpx hp p h0 h1;cases s with
 | none=>
  have e:Zom M p none=false:=rfl;rw[e];cases hsh:(Zbe M.pl p).shape with
  | none=>
   rw[hsh]at k1;change w.cell? _=some (.pointer none)at k1;change Calls Tryz.prog 45 #[.pointer (some ⟨gb,0,none⟩),.int .i64 p,.pointer none] w _;clear hc h hp hsh ok hs e
   go_enter Tryz.func45,Tryz.ntmps45
   go_wp2
   go_ret
   exact⟨rfl,Drawn0.refl w⟩
  | some k=>
   rw[hsh]at k1;change w.cell? _=some (.pointer (some ⟨φ k,0,none⟩))at k1;change Calls Tryz.prog 45 #[.pointer (some ⟨gb,0,none⟩),.int .i64 p,.pointer none] w _;clear hc h hp hsh ok hs e
   go_enter Tryz.func45,Tryz.ntmps45
   go_wp2
   go_ret
   exact⟨rfl,Drawn0.refl w⟩
 | some k=>
  have hm:=hs k rfl;obtain⟨B1,d1,B2,d2,hb,m1,n1,m2,n2⟩:=(h.shapes k _ hm).cells;have s2:w.cell? ⟨φ k,2,none⟩=some (.slice B2 (Zec M.sh k).last.length d2):=(Zac hb 2).trans rfl;have s3:w.cell? ⟨φ k,3,none⟩=some (.bool (Zec M.sh k).empty):=(Zac hb 3).trans rfl;have HN:=Zaa.mk n2;have HM:=Zaa.mk m2;have HL:=Zaa.mk (ok.lists k _ hm).2.1;change Calls Tryz.prog 45 #[.pointer (some ⟨gb,0,none⟩),.int .i64 p,.pointer (some ⟨φ k,0,none⟩)] w _;by_cases es:(Zbe M.pl p).shape=some k
  ·have e:Zom M p (some k)=((decide ((Zbe M.pl p).kind=2)&&(Zec M.sh k).empty)||(decide ((Zbe M.pl p).kind=3)&&hasI (Zec M.sh k).last p)):=by simp only[Zom,decide_eq_true es,Bool.true_and]
   rw[e];rw[es]at k1;change w.cell? _=some (.pointer (some ⟨φ k,0,none⟩))at k1;have hq:=Zqk ⟨φ k,0,none⟩ w;generalize (Zbe M.pl p).kind=kd at k0 ⊢;generalize (Zec M.sh k).last=l at s2 HN HM HL ⊢;generalize (Zec M.sh k).empty=b at s3 ⊢;clear hc h hp es ok hs e hm hb m1 n1 m2 n2;by_cases c2:kd=2
   ·subst c2;cases b
    all_goals
     go_enter Tryz.func45,Tryz.ntmps45
     go_wp2
     go_ret
     exact⟨rfl,Drawn0.refl w⟩
   ·have q2:(kd==2)=false:=by simpa using c2
    by_cases c3:kd=3
    ·subst c3;have ee:((decide ((3:Int)=2)&&b)||(decide ((3:Int)=3)&&hasI l p))=hasI l p:=by simp
     rw[ee];clear ee
     go_enter Tryz.func45,Tryz.ntmps45
     go_wp2_with (go_at_call 70;refine (contains_i B2 d2 l p _ HN.out HM.out (by have:=HL.out;omega)).mono ?_;rintro e w1 ⟨rfl,hd⟩;have HD:=Zaa.mk hd;clear hd)
     go_ret
     exact⟨rfl,HD.out⟩
    ·have q3:(kd==3)=false:=by simpa using c3
     have ee:((decide (kd=2)&&b)||(decide (kd=3)&&hasI l p))=false:=by simp[c2,c3]
     rw[ee];clear ee
     go_enter Tryz.func45,Tryz.ntmps45
     go_wp2
     go_ret
     exact⟨rfl,Drawn0.refl w⟩
  ·have e:Zom M p (some k)=false:=by simp only[Zom,decide_eq_false es,Bool.false_and]
   rw[e];cases hsh:(Zbe M.pl p).shape with
   | none=>
    rw[hsh]at k1;change w.cell? _=some (.pointer none)at k1;have hq:=Zql ⟨φ k,0,none⟩ w;clear hc h hp hsh ok hs e hm hb m1 n1 m2 n2 es s2 s3
    go_enter Tryz.func45,Tryz.ntmps45
    go_wp2
    go_ret
    exact⟨rfl,Drawn0.refl w⟩
   | some k'=>
    have hm':=ok.shape p h0 h1 k' hsh;have hne:¬φ k'=φ k:=fun he=>es (by rw[hsh,ok.inj _ _ _ _ hm' hm he])
    rw[hsh]at k1;change w.cell? _=some (.pointer (some ⟨φ k',0,none⟩))at k1;obtain⟨B1',d1',B2',d2',hb',_⟩:=(h.shapes k' _ hm').cells;have hq:=Zpb (a:=⟨φ k',0,none⟩) (b:=⟨φ k,0,none⟩) w (fun he=>hne (by injection he)) hb' hb;clear hc h hp hsh ok hs e hm hb m1 n1 m2 n2 es s2 s3 hm' hb'
    go_enter Tryz.func45,Tryz.ntmps45
    go_wp2
    go_ret
    exact⟨rfl,Drawn0.refl w⟩
theorem Zho:(Tryz.prog.info? 3).map (fun i=>(i.zero,i.size,i.bytes))=some (some (.int .i64 0),1,8):=by kernel_rfl
theorem grow_nil (n:Nat)(w:World)(hn:n≤1000000):Calls Tryz.prog 94 #[.slice none 0 0,.int .i64 n] w fun e w'=>∃v,e=.returned v∧(Kd.int .i64).R 3 w' w.heap.size (fun _=>True) v []∧Below w.heap.size w w':=by
 cases n with
 | zero=>
  refine (Any8.slices_Grow_room Tryz.growI none 0 0 0 w (by omega) (by omega) (by omega) (by omega)).mono ?_
  rintro e w' ⟨rfl,rfl⟩;exact⟨_,rfl,Kd.R_nil _ _ _ _ _,Zbr⟩
 | succ n=>
  obtain⟨i0,hi0,h⟩:∃i0,Tryz.prog.info? 3=some i0∧(i0.zero,i0.size,i0.bytes)=(some (Value.int .i64 0),1,8):=by
   have h:=Zho;cases hi:Tryz.prog.info? 3 with
   | none=>rw[hi]at h;cases h
   | some j=>rw[hi]at h;exact⟨j,rfl,by injection h⟩
  injection h with hz h
  injection h with hs hb
  refine (Any8.slices_Grow_grow Tryz.growI i0 (.int .i64 0) hi0 hz (by omega) none 0 0 (n+1) [] w (by omega) (by omega) (by rw[hb];omega) (by omega) (by simp) (fun _=>rfl) (fun _ h=>by cases h)).mono ?_
  rintro e w' ⟨rfl,rfl⟩;refine⟨_,rfl,Kd.R_of_own ?_ (fun _ _=>trivial),Zae (Zam Zbr) _⟩;exact World.ownsRow_made w.drew _ _ (Nat.le_refl _) (grownCap_le_maxLen w _ _ _ (by unfold maxLen;omega)) (by
   have h1:=grownCap_ge w (n+1) 0 (Tryz.growI_ren.t 25);have h2:(Value.int .i64 0).cells.size=1:=rfl;rw[Array.size_append,Array.size_append,size_zeroCells,size_zeroCells,h2];simp;omega)
set_option maxHeartbeats 4000000 in
theorem Zuf (o:Nat)(A B:Option Addr)(c d:Nat)(a b:List Int)(w:World)(h0:w.cell? ⟨o,0,none⟩=some (.slice A a.length c))(h1:w.cell? ⟨o,1,none⟩=some (.slice B b.length d))
 (ha:(Kd.int .i64).C w A a.length a) (hb:(Kd.int .i64).C w B b.length b) (la:a.length≤100000) (lb:b.length≤100000) :
 Calls Tryz.prog 67 #[.slice (some ⟨o,0,none⟩) 2 2] w fun e w'=>∃v,e=.returned v∧(Kd.int .i64).R 3 w' w.heap.size (fun _=>True) v (a++b)∧Below w.heap.size w w':=by
 have HA:=Zaa.mk ha;have HB:=Zaa.mk hb;have H0:=Zaa.mk h0;have H1:=Zaa.mk h1;clear ha hb
 go_enter Tryz.func67,Tryz.ntmps67
 go_wp2
 go_loop [3,11] (fun s i=>(i=.int .i64 0∧s=.int .i64 0)∨(i=.int .i64 1∧s=.int .i64 a.length)∨(i=.int .i64 2∧s=.int .i64 ((a.length:Int)+b.length))) (fun _ i=>2-(intOf i).toNat)
 case atStart=>exact .inl ⟨rfl,rfl⟩
 case round=>
  rcases hrel with⟨rfl,rfl⟩ | ⟨rfl,rfl⟩ | ⟨rfl,rfl⟩
  ·go_wp2
   go_round
   case rel=>exact .inr (.inl ⟨rfl,by simp⟩)
   case measure=>simp[intOf]
  ·go_wp2
   go_round
   case rel=>exact .inr (.inr ⟨rfl,rfl⟩)
   case measure=>simp[intOf]
  ·go_wp2_with ((with_reducible refine Zet (f:=94) rfl ?_);refine goesL_ (some 24) rfl rfl Tryz.func94 (by kernel_rfl) rfl #[.slice none 0 0,.int .i64 ((a.length:Int)+b.length)] rfl (by (try simp only[List.map_toArray,List.map_cons,List.map_nil]);first | done | rfl) ?_;(have hg:=grow_nil (a.length+b.length) w (by omega));(rw[Int.natCast_add]at hg);(with_reducible refine hg.mono ?_);rintro e w6 ⟨v6,rfl,ho,hb⟩;refine⟨_,rfl,?_⟩;have HO:=Zaa.mk ho;have HBB:=Zaa.mk hb;clear ho hb hg h0 h1)
   go_loopw [6,27] (fun s i wr=>(i=.int .i64 0∧Zaa ((Kd.int .i64).R 3 wr w.heap.size (fun _=>True) s [])∧Zaa (Below w.heap.size w wr))∨(i=.int .i64 1∧Zaa ((Kd.int .i64).R 3 wr w.heap.size (fun _=>True) s a)∧Zaa (Below w.heap.size w wr))∨(i=.int .i64 2∧Zaa ((Kd.int .i64).R 3 wr w.heap.size (fun _=>True) s (a++b))∧Zaa (Below w.heap.size w wr))) (fun _ i _=>2-(intOf i).toNat)
   case atStart=>exact .inl ⟨rfl,HO,HBB⟩
   case round=>
    clear HO HBB
    rcases hrel with⟨rfl,HO,HBB⟩ | ⟨rfl,HO,HBB⟩ | ⟨rfl,HO,HBB⟩
    ·have h0:=Zab HBB.out H0.out
     go_wp2_with ((with_reducible refine Zas (b:=.append) (xs:=#[.tmp 31,.tmp 32]) rfl ?_);at_builtin;refine Kd.R_append_rows (Kd.int .i64) (w0:=w) w.heap.size rfl (.tmp 31) (.tmp 32) 35 3 (.int .i64 0) 8 rfl Tryz.underlying35 Zho rfl (by decide) (by omega) _ ([]:List Int) a _ _ _ (fun _=>True) (fun _=>False) rfl rfl ?aO ?aR (fun _ _ h=>h) (fun _ h=>h.elim) (fun _ _=>trivial) ?aB ?aS ?aL ?_;(case aR=>exact Kd.C_below HA.out HBB.out);(case aB=>exact HBB.out);(case aO=>exact HO.out);(case aS=>exact Zdm HBB.out);(case aL=>simp only[List.length_nil];omega);intro v2 w2 ho2 hb2 hg2 hat2;have HO2:=Zaa.mk ho2;have HB2:=Zaa.mk hb2;clear ho2 hb2 hg2 hat2)
     go_roundw
     case rel=>exact .inr (.inl ⟨rfl,HO2,HB2⟩)
     case measure=>simp[intOf]
    ·have h1:=Zab HBB.out H1.out
     go_wp2_with ((with_reducible refine Zas (b:=.append) (xs:=#[.tmp 31,.tmp 32]) rfl ?_);at_builtin;refine Kd.R_append_rows (Kd.int .i64) (w0:=w) w.heap.size rfl (.tmp 31) (.tmp 32) 35 3 (.int .i64 0) 8 rfl Tryz.underlying35 Zho rfl (by decide) (by omega) _ a b _ _ _ (fun _=>True) (fun _=>False) rfl rfl ?aO ?aR (fun _ _ h=>h) (fun _ h=>h.elim) (fun _ _=>trivial) ?aB ?aS ?aL ?_;(case aR=>exact Kd.C_below HB.out HBB.out);(case aB=>exact HBB.out);(case aO=>exact HO.out);(case aS=>exact Zdm HBB.out);(case aL=>omega);intro v2 w2 ho2 hb2 hg2 hat2;have HO2:=Zaa.mk ho2;have HB2:=Zaa.mk hb2;clear ho2 hb2 hg2 hat2)
     go_roundw
     case rel=>exact .inr (.inr ⟨rfl,HO2,HB2⟩)
     case measure=>simp[intOf]
    ·go_wp2
     go_ret
     exact⟨_,rfl,HO.out,HBB.out⟩
theorem Zey (A B:Option Addr)(c d:Nat)(a b:List Int)(w:World)(ha:(Kd.int .i64).C w A a.length a)(hb:(Kd.int .i64).C w B b.length b)(la:a.length≤100000)(lb:b.length≤100000) :
 Calls Tryz.prog 39 #[.slice A a.length c,.slice B b.length d] w fun e w'=>∃v,e=.returned v∧(Kd.int .i64).R 3 w' w.heap.size (fun _=>True) v (Zay a b)∧Below w.heap.size w w':=by
 have HA:=Zaa.mk ha;have HB:=Zaa.mk hb;clear ha hb
 go_enter Tryz.func39,Tryz.ntmps39
 go_wp2_with (first
  | ((with_reducible refine Zet (f:=67) rfl ?_);refine goesL_ (some 9) rfl rfl Tryz.func67 (by kernel_rfl) rfl #[.slice (some ⟨w.heap.size,0,none⟩) 2 2] rfl (by (try simp only[List.map_toArray,List.map_cons,List.map_nil]);first | done | rfl) ?_;(with_reducible refine (Zuf w.heap.size A B c d a b _ (by go_simp) (by go_simp) (Kd.C_below HA.out (Zae Zbr _)) (Kd.C_below HB.out (Zae Zbr _)) la lb).mono ?_);rintro e w6 ⟨v6,rfl,ho,hb⟩;refine⟨_,rfl,?_⟩;have HO:=Zaa.mk (Kd.R_lower ho (base':=w.heap.size) (by simp));have HBB:=Zaa.mk (Zaf (Zae (Below.refl _ w) _) hb);clear ho hb)
  | ((with_reducible refine Zet (f:=68) rfl ?_);refine goesL_ (some 11) rfl rfl Tryz.func68 (by kernel_rfl) rfl #[v6] rfl (by (try simp only[List.map_toArray,List.map_cons,List.map_nil]);first | done | rfl) ?_;(with_reducible refine (sort_call w w6 v6 (a++b) HBB.out HO.out (by rw[List.length_append];omega)).mono ?_);rintro e w7 ⟨rfl,ho,hb,_⟩;refine⟨_,rfl,?_⟩;have HO7:=Zaa.mk ho;have HBB7:=Zaa.mk hb;clear ho hb)
  | ((with_reducible refine Zet (f:=69) rfl ?_);refine goesL_ (some 13) rfl rfl Tryz.func69 (by kernel_rfl) rfl #[v6] rfl (by (try simp only[List.map_toArray,List.map_cons,List.map_nil]);first | done | rfl) ?_;(with_reducible refine (Zrz w w7 v6 (Zim (a++b)) HBB7.out HO7.out (by rw[Zft,List.length_append];omega)).mono ?_);rintro e w8 ⟨v8,rfl,ho,hb,_,_⟩;refine⟨_,rfl,?_⟩;have HO8:=Zaa.mk ho;have HBB8:=Zaa.mk hb;clear ho hb))
 go_ret
 exact⟨_,rfl,HO8.out,HBB8.out⟩
theorem Zgh {G:S26}{M:Mach}{p t kind:Int}(h:Zja G M p t kind=true):0≤p∧p<M.pl.length∧t<G.f0.length∧-1≤t:=by
 unfold Zja at h;simp at h;omega
def Zea (w:World)(l:List Int)(e:Ending)(w':World):Prop:=∃v,e=.returned v∧(Kd.int .i64).R 3 w' w.heap.size (fun _=>True) v l∧Below w.heap.size w w'
theorem Zcv (w:World):Zea w [] (.returned (.slice none 0 0)) w:=⟨_,rfl,Kd.R_nil _ _ _ _ _,Zbr⟩
theorem Zdq (w W:World)(hb:Below w.heap.size w W)(p:Int):Zea w [p] (.returned (.slice (some ⟨W.heap.size,0,none⟩) 1 1)) (W.alloc (.cells #[.int .i64 p] 3)):=
 ⟨_,rfl,Kd.R_of_own (own_lit W w.heap.size 3 .i64 [p] hb.size (by simp)) (fun _ _=>trivial),Zae hb _⟩
theorem one_C {W:World}{g:Nat}(hg:g=W.heap.size)(q:Int):(Kd.int .i64).C (W.alloc (.cells #[.int .i64 q] 3)) (some ⟨g,0,none⟩) 1 [q]:=by
 subst hg;exact (Kd.R_reads' (Kd.R_of_own (ok:=fun _=>True) (h1:=fun _=>rfl) (own_lit W W.heap.size 3 .i64 [q] (Nat.le_refl _) (by simp)) (fun _ _=>trivial))).2.2
theorem both_nil (A:Option Addr)(c:Nat)(a:List Int)(w:World)(ha:(Kd.int .i64).C w A a.length a)(la:a.length≤100000) :
 Calls Tryz.prog 39 #[.slice A a.length c,.slice none 0 0] w fun e w'=>∃v,e=.returned v∧(Kd.int .i64).R 3 w' w.heap.size (fun _=>True) v (Zay a [])∧Below w.heap.size w w':=
 Zey A none c 0 a [] w ha (Kd.C_nil _ _) la (by simp)
def Zdu (G:S26)(M:Mach)(p t:Int):List Int:=if Zja G M p t 2=true∧(Zbe M.pl p).kind=1 then [p]else []
theorem Zmt (w:World)(gb:Nat)(G:S26)(M:Mach)(φ:Nat→Nat)(h:VR w gb G M φ)(p t:Int) :
 Calls Tryz.prog 20 #[.pointer (some ⟨gb,0,none⟩),.int .i64 p,.int .i64 t] w (Zea w (Zdu G M p t)):=by
 have hm:=Zlc w gb G M φ h p t 2;cases hb:Zja G M p t 2 with
 | false=>
  have e:Zdu G M p t=[]:=by unfold Zdu;rw[if_neg (by simp[hb])]
  rw[hb]at hm;rw[e];clear h e hb
  go_enter Tryz.func20,Tryz.ntmps20
  go_wp2_with (go_at_call 35;refine hm.mono ?_;rintro e w1 ⟨rfl,rfl⟩;clear hm)
  go_ret
  exact Zcv _
 | true=>
  obtain⟨h0,h1,_,_⟩:=Zgh hb;obtain⟨At,ct,Ar,cr,Ap,cp,As,cs,Af,cf,hc,_,_,_,_,_,hp,_⟩:=h.cells;have g2:w.cell? ⟨gb,2,none⟩=some (.slice Ap M.pl.length cp):=(Zac hc 2).trans rfl;obtain⟨ad,A1,c1,A2,c2,A3,c3,A4,c4,rfl,k0,_⟩:=Zpx hp p h0 h1;rw[hb]at hm;have HM:=Zaa.mk hm;clear hm;by_cases e1:(Zbe M.pl p).kind=1
  ·have e:Zdu G M p t=[p]:=by unfold Zdu;rw[if_pos ⟨hb,e1⟩]
   rw[e];rw[e1]at k0;clear h e hb hc hp e1
   go_enter Tryz.func20,Tryz.ntmps20
   go_wp2_with (go_at_call 35;refine HM.out.mono ?_;rintro e w1 ⟨rfl,rfl⟩)
   go_ret
   exact Zdq _ _ Zbr p
  ·have e:Zdu G M p t=[]:=by unfold Zdu;rw[if_neg (by simp[hb,e1])]
   have q:((Zbe M.pl p).kind != 1)=true:=by simpa using e1
   rw[e];generalize (Zbe M.pl p).kind=k at k0 q;clear h e hb hc hp e1
   go_enter Tryz.func20,Tryz.ntmps20
   go_wp2_with (go_at_call 35;refine HM.out.mono ?_;rintro e w1 ⟨rfl,rfl⟩)
   go_ret
   exact Zcv _
def okI (G:S26)(M:Mach)(t q:Int):Bool:=decide ((Zbe M.pl q).p.f0=4)||(decide ((Zbe M.pl q).p.f0=2)&&Zdp G t (Zbe M.pl q).p.f1)
def Ztx (G:S26)(M:Mach)(p t:Int):List Int:=if Zja G M p t 0=true then (if Zgy M p=true then [p]else Zay ((Zdo M p).filter (okI G M t)) [])else []
theorem Zhy {M:Mach}{φ:Nat→Nat}(ok:M.Ok φ){p:Int}(h0:0≤p)(h1:p<M.pl.length):(Zdo M p).length≤100000∧∀q∈Zdo M p,0≤q∧q<M.pl.length:=by
 unfold Zdo
 split
 ·rename_i e2
  obtain⟨k,hk⟩:=ok.begins p h0 h1 e2;rw[hk];have:=ok.lists k _ (ok.shape p h0 h1 k hk);exact⟨this.1,this.2.2⟩
 ·have:=ok.follow p h0 h1;exact⟨this.1,this.2.2.2⟩
theorem Zmn {l:List Int}{f:Int→Bool}{k:Nat}(hk:k<l.length):(l.take (k+1)).filter f=(l.take k).filter f++(if f (rd l k)=true then [rd l k]else []):=by
 have e:rd l k=l[k]:=by simp[rd,List.getD_eq_getElem?_getD,List.getElem?_eq_getElem hk]
 rw[List.take_succ_eq_append_getElem hk,List.filter_append,e]
 congr 1
 by_cases c:f l[k]=true
 ·rw[if_pos c,List.filter_cons_of_pos c];rfl
 ·rw[if_neg c,List.filter_cons_of_neg c];rfl
set_option maxHeartbeats 4000000 in
theorem int_call (w:World)(gb:Nat)(G:S26)(M:Mach)(φ:Nat→Nat)(h:VR w gb G M φ)(ok:M.Ok φ)(p t:Int) :
 Calls Tryz.prog 13 #[.pointer (some ⟨gb,0,none⟩),.int .i64 p,.int .i64 t] w (Zea w (Ztx G M p t)):=by
 have hm:=Zlc w gb G M φ h p t 0;cases hb:Zja G M p t 0 with
 | false=>
  have e:Ztx G M p t=[]:=by unfold Ztx;rw[if_neg (by simp[hb])]
  rw[hb]at hm;rw[e];clear h e hb
  go_enter Tryz.func13,Tryz.ntmps13
  go_wp2_with (go_at_call 35;refine hm.mono ?_;rintro e w1 ⟨rfl,rfl⟩;clear hm)
  go_ret
  exact Zcv _
 | true=>
  obtain⟨h0,h1,ht,ht1⟩:=Zgh hb;rw[hb]at hm;have hs:=Zjx w gb G M φ h p h0 h1;cases hst:Zgy M p with
  | true=>
   have e:Ztx G M p t=[p]:=by unfold Ztx;rw[if_pos hb,if_pos hst]
   rw[e];rw[hst]at hs;clear h e hb hst
   go_enter Tryz.func13,Tryz.ntmps13
   go_wp2_with (first | (go_at_call 35;refine hm.mono ?_;rintro e w1 ⟨rfl,rfl⟩;clear hm) | (go_at_call 36;refine hs.mono ?_;rintro e w1 ⟨rfl,rfl⟩;clear hs))
   go_ret
   exact Zdq _ _ Zbr p
  | false=>
   have e:Ztx G M p t=Zay ((Zdo M p).filter (okI G M t)) []:=by unfold Ztx;rw[if_pos hb,if_neg (by simp[hst])]
   rw[e];rw[hst]at hs;have hn:=next_call w gb G M φ h ok p h0 h1;obtain⟨hl,hq⟩:=Zhy ok h0 h1;generalize Zdo M p=L at hn hl hq ⊢;have HN:=Zaa.mk hn;have HQ:=Zaa.mk hq;have HM:=Zaa.mk hm;have HS:=Zaa.mk hs;have HV:=Zaa.mk h;have HT:=Zaa.mk ht;have HOK:=Zaa.mk ok;clear h e hb hst hn hq hm hs ht ht1 h0 h1 ok
   go_enter Tryz.func13,Tryz.ntmps13
   go_wp2_with (first | (go_at_call 35;refine HM.out.mono ?_;rintro e w1 ⟨rfl,rfl⟩;clear HM) | (go_at_call 36;refine HS.out.mono ?_;rintro e w1 ⟨rfl,rfl⟩;clear HS) | (go_at_call 37;refine HN.out.mono ?_;rintro e w1 ⟨⟨A,c,rfl,hlc,hr⟩,rfl⟩;have HLC:=Zaa.mk hlc;have HR:=Zaa.mk hr;clear HN hlc hr))
   go_loopw [7,25] (fun v i wr=>∃k:Nat,k≤L.length∧i=.int .i64 k∧Zaa ((Kd.int .i64).R 3 wr w1.heap.size (fun _=>True) v ((L.take k).filter (okI G M t)))∧Zaa (Below w1.heap.size w1 wr)) (fun _ i _=>L.length-(intOf i).toNat)
   case atStart=>exact⟨0,Nat.zero_le _,rfl,⟨Kd.R_nil _ _ _ _ _⟩,⟨Zbr⟩⟩
   case round=>
    obtain⟨k,hk,rfl,HO,HB⟩:=hrel;by_cases hkn:k<L.length
    ·have HVr:=Zaa.mk (HV.out.below HB.out);obtain⟨ad,rfl,hq0⟩:=Kd.at_int (Kd.C_below HR.out HB.out) (k:Int) (by omega) (by omega);rw[Int.toNat_natCast]at hq0;have hqr:=HQ.out (rd L k) (by simp[rd,List.getD_eq_getElem?_getD,List.getElem?_eq_getElem hkn]);have FS:=Zaa.mk (Zmn (f:=okI G M t) hkn);obtain⟨At,ct,Ar,cr,Ap,cp,As,cs,Af,cf,hc,_,_,_,_,_,hp,_⟩:=HVr.out.cells;have g2:wr.cell? ⟨gb,2,none⟩=some (.slice Ap M.pl.length cp):=(Zac hc 2).trans rfl;obtain⟨q0,q1⟩:=hqr;obtain⟨bd,A1,c1,A2,c2,A3,c3,A4,c4,rfl,_,_,k2,k3,k4,k5,_,_,_,l1,f1,_⟩:=Zpx hp (rd L k) q0 q1;have HL1:=Zaa.mk l1;have HF1:=Zaa.mk f1;have HS1:=Zaa.mk (HOK.out.follow (rd L k) q0 q1).2.1;have e0:okI G M t (rd L k)=(decide ((Zbe M.pl (rd L k)).p.f0=4)||(decide ((Zbe M.pl (rd L k)).p.f0=2)&&Zdp G t (Zbe M.pl (rd L k)).p.f1)):=rfl;have FS':=FS.out;rw[e0]at FS';have FS:=Zaa.mk FS';clear FS' e0 hc hp l1 f1;have hlen:((L.take k).filter (okI G M t)).length≤100000:=Nat.le_trans (List.length_filter_le _ _) (by rw[List.length_take];omega);have HLEN:=Zaa.mk hlen;clear hlen;generalize (Zbe M.pl (rd L k)).p.f0=kd at k2 FS;generalize (Zbe M.pl (rd L k)).p.f1=nm at k3 FS HL1 HF1 HS1;generalize (Zbe M.pl (rd L k)).p.f2=nm2 at k4;generalize (Zbe M.pl (rd L k)).p.f3=nm3 at k5;generalize rd L k=q at *;obtain⟨out,hout⟩:∃out,out=(L.take k).filter (okI G M t):=⟨_,rfl⟩
     rw[←hout]at HO FS HLEN;clear hout;by_cases e4:kd=4
     ·subst e4;have FS':=FS.out;rw[show (decide ((4:Int)=4)||(decide ((4:Int)=2)&&Zdp G t nm))=true by simp,if_pos rfl]at FS';have FS2:=Zaa.mk FS';clear FS' FS
      go_wp2_with ((with_reducible refine Zas (b:=.append) (xs:=#[.tmp 52,.tmp 54]) rfl ?_);at_builtin;refine Kd.R_append_row (Value.int .i64) 0 (h1:=fun _=>rfl) (w0:=w1) w1.heap.size rfl (.tmp 52) (.tmp 54) 35 3 (.int .i64 0) 8 rfl Tryz.underlying35 Zho rfl (by omega) u7 out [q] _ _ _ (fun _=>True) rfl rfl (fun _ _=>trivial) ?aO ?aR ?aB ?aS ?aL ?_;(case aR=>exact one_C (by simp) q);(case aO=>exact Kd.R_alloc (Kd.R_alloc HO.out _) _);(case aB=>exact Zae (Zae HB.out _) _);(case aS=>exact Zdm (Zae (Zae HB.out _) _));(case aL=>have:=HLEN.out;omega);intro v2 w2 ho2 hb2 hg2 hat2;have HO2:=Zaa.mk ho2;have HB2:=Zaa.mk hb2;clear ho2 hb2 hg2 hat2)
      go_roundw
      case rel=>exact⟨k+1,by omega,by go_num,⟨by rw[FS2.out];exact HO2.out⟩,HB2⟩
      case measure=>simp[intOf];omega
     ·have n4:(kd==4)=false:=by simpa using e4
      by_cases e2:kd=2
      ·subst e2;have hnm:=fun W (hb:Below wr.heap.size wr W)=>Zia W gb G M φ (HVr.out.below hb) t HT.out A1 c1 nm (Kd.C_below HF1.out hb) HL1.out (by have:=HS1.out;omega)
       have FS':=FS.out;rw[show (decide ((2:Int)=4)||(decide ((2:Int)=2)&&Zdp G t nm))=Zdp G t nm by simp]at FS';have FS2:=Zaa.mk FS';clear FS' FS;generalize Zdp G t nm=b at hnm FS2;have HNM:=Zaa.mk hnm;clear hnm;cases b
       ·go_wp2_with ((go_at_call 38;(with_reducible refine (HNM.out _ (Zae Zbr _)).mono ?_);rintro e w3 ⟨rfl,hd⟩;have HON:=Zaa.mk (Kd.R_below (Kd.R_alloc HO.out _) hd.below);have HBN:=Zaa.mk (Zaf (Zae HB.out _) hd.below);clear hd))
        go_roundw
        case rel=>exact⟨k+1,by omega,by go_num,⟨by rw[FS2.out,if_neg (by simp),List.append_nil];exact HON.out⟩,HBN⟩
        case measure=>simp[intOf];omega
       ·go_wp2_with (first | (go_at_call 38;(with_reducible refine (HNM.out _ (Zae Zbr _)).mono ?_);rintro e w3 ⟨rfl,hd⟩;have HON:=Zaa.mk (Kd.R_below (Kd.R_alloc HO.out _) hd.below);have HBN:=Zaa.mk (Zaf (Zae HB.out _) hd.below);clear hd) | ((with_reducible refine Zas (b:=.append) (xs:=#[.tmp 52,.tmp 54]) rfl ?_);at_builtin;refine Kd.R_append_row (Value.int .i64) 0 (h1:=fun _=>rfl) (w0:=w1) w1.heap.size rfl (.tmp 52) (.tmp 54) 35 3 (.int .i64 0) 8 rfl Tryz.underlying35 Zho rfl (by omega) u7 out [q] _ _ _ (fun _=>True) rfl rfl (fun _ _=>trivial) ?aO ?aR ?aB ?aS ?aL ?_;(case aR=>exact one_C (by simp) q);(case aO=>exact Kd.R_alloc HON.out _);(case aB=>exact Zae HBN.out _);(case aS=>exact Zdm (Zae HBN.out _));(case aL=>have:=HLEN.out;omega);intro v2 w2 ho2 hb2 hg2 hat2;have HO2:=Zaa.mk ho2;have HB2:=Zaa.mk hb2;clear ho2 hb2 hg2 hat2))
        go_roundw
        case rel=>exact⟨k+1,by omega,by go_num,⟨by rw[FS2.out];(first | rw[if_pos rfl] | rw[if_pos trivial]);exact HO2.out⟩,HB2⟩
        case measure=>simp[intOf];omega
      ·have n2:(kd==2)=false:=by simpa using e2
       have FS':=FS.out;rw[show (decide (kd=4)||(decide (kd=2)&&Zdp G t nm))=false by simp[e4,e2],if_neg (by simp),List.append_nil]at FS';have FS2:=Zaa.mk FS';clear FS' FS;have HON:=Zaa.mk HO.out;go_wp2
       go_roundw
       case rel=>exact⟨k+1,by omega,by go_num,⟨by rw[FS2.out];exact Kd.R_alloc HO.out _⟩,⟨Zae HB.out _⟩⟩
       case measure=>simp[intOf];omega
    ·obtain rfl:k=L.length:=by omega
     rw[List.take_length]at HO;have hlen:(L.filter (okI G M t)).length≤100000:=Nat.le_trans (List.length_filter_le _ _) hl;obtain⟨out,hout⟩:∃out,out=L.filter (okI G M t):=⟨_,rfl⟩
     rw[←hout]at HO hlen;have HOUT:=Zaa.mk hout;clear hout;obtain⟨A7,c7,rfl⟩:=Kd.R_slice HO.out
     go_wp2_with (go_at_call 39;(with_reducible refine (both_nil A7 c7 out _ (Kd.R_reads' HO.out).2.2 hlen).mono ?_);rintro e w3 ⟨v3,rfl,ho,hb⟩;have HO3:=Zaa.mk (Kd.R_lower ho (Zdm HB.out));have HB3:=Zaa.mk (Zaf HB.out hb);clear ho hb)
     go_ret
     have z:=HO3.out;rw[HOUT.out]at z;exact⟨_,rfl,z,HB3.out⟩
def Zkv (M:Mach)(i:Int):List Nat:=M.steps.getD i.toNat []
theorem at_St {φ:Nat→Nat}{w:World}{A:Option Addr}{n:Nat}{xs:List (List Nat)}(h:Kd.C (Kd.slice 88 (Zic φ)) w A n xs)(i:Int)(h0:0≤i)(h1:i<n) :
 ∃ad A0 c0,A=some ad∧w.cell? (ad.add i.toNat)=some (.slice A0 (xs.getD i.toNat []).length c0)∧(xs.getD i.toNat []).length≤c0∧(Zic φ).C w A0 (xs.getD i.toNat []).length (xs.getD i.toNat []):=by
 obtain⟨ad,c,e,_,hK,hc0⟩:=Kd.C_get h ([]:List Nat) i h0 h1;have hc:∀j u,c[j]?=some u→w.cell? (ad.add (i.toNat*1+j))=some u:=hc0;obtain⟨A0,c0,rfl,l0,g0⟩:=hK;exact⟨ad,A0,c0,e,by have hq:=hc 0 _ rfl;rwa[Nat.mul_one,Nat.add_zero]at hq,l0,g0⟩
theorem at_Ptr {φ:Nat→Nat}{w:World}{A:Option Addr}{n:Nat}{xs:List Nat}(h:(Zic φ).C w A n xs)(i:Int)(h0:0≤i)(h1:i<n):∃ad,A=some ad∧w.cell? (ad.add i.toNat)=some (.pointer (some ⟨φ (xs.getD i.toNat 0),0,none⟩)):=by
 obtain⟨ad,c,e,_,hK,hc0⟩:=Kd.C_get h (0:Nat) i h0 h1;have hc:∀j u,c[j]?=some u→w.cell? (ad.add (i.toNat*1+j))=some u:=hc0;have hK':c=[.pointer (some ⟨φ (xs.getD i.toNat 0),0,none⟩)]:=hK;subst hK';exact⟨ad,e,by have hq:=hc 0 _ rfl;rwa[Nat.mul_one,Nat.add_zero]at hq⟩
def Zqm (M:Mach)(p:Int)(k:Nat):Int:=if (Zec M.sh k).rule<0 then -1 else if (Zec M.sh k).step+1<(Zkv M (Zec M.sh k).rule).length then -1 else if Zom M p (some k)=true then (Zec M.sh k).rule else -1
def Zhh (M:Mach)(p:Int):Int:=if 0≤p∧p<M.pl.length then (match (Zbe M.pl p).shape with | none=>-1 | some k=>Zqm M p k)else -1
theorem rule_nil (w:World)(p:Int):Calls Tryz.prog 22 #[.pointer none,.int .i64 p] w fun e w'=>e=.returned (.int .i64 (-1))∧w'=w:=by
 go_enter Tryz.func22,Tryz.ntmps22
 go_wp2
 go_ret
 exact⟨rfl,rfl⟩
set_option maxHeartbeats 4000000 in
theorem Zlo (w:World)(gb:Nat)(G:S26)(M:Mach)(φ:Nat→Nat)(h:VR w gb G M φ)(ok:M.Ok φ)(p:Int) :
 Calls Tryz.prog 22 #[.pointer (some ⟨gb,0,none⟩),.int .i64 p] w fun e w'=>e=.returned (.int .i64 (Zhh M p))∧Drawn0 w w':=by
 have HV:=Zaa.mk h;obtain⟨At,ct,Ar,cr,Ap,cp,As,cs,Af,cf,hc,_,_,_,_,_,hp,_,hst,_⟩:=h.cells;have g2:w.cell? ⟨gb,2,none⟩=some (.slice Ap M.pl.length cp):=(Zac hc 2).trans rfl;by_cases a1:0≤p
 rotate_left
 ·have q1:decide (p<0)=true:=decide_eq_true (by omega);have e:Zhh M p=-1:=by unfold Zhh;rw[if_neg (by omega)]
  rw[e];clear hc h hp hst e a1 ok HV
  go_enter Tryz.func22,Tryz.ntmps22
  go_wp2
  go_ret
  exact⟨rfl,Drawn0.refl w⟩
 by_cases a2:p<M.pl.length
 rotate_left
 ·have q1:decide (p<0)=false:=decide_eq_false (by omega);have q2:decide ((M.pl.length:Int)≤p)=true:=decide_eq_true (by omega);have e:Zhh M p=-1:=by unfold Zhh;rw[if_neg (by omega)]
  rw[e];clear hc h hp hst e a1 a2 ok HV
  go_enter Tryz.func22,Tryz.ntmps22
  go_wp2
  go_ret
  exact⟨rfl,Drawn0.refl w⟩
 have q1:decide (p<0)=false:=decide_eq_false (by omega);have q2:decide ((M.pl.length:Int)≤p)=false:=decide_eq_false (by omega);obtain⟨ad,A1,c1,A2,c2,A3,c3,A4,c4,rfl,k0,k1,_⟩:=Zpx hp p a1 a2;cases hsh:(Zbe M.pl p).shape with
 | none=>
  have e:Zhh M p=-1:=by unfold Zhh;rw[if_pos ⟨a1,a2⟩,hsh]
  rw[e];rw[hsh]at k1;change w.cell? _=some (.pointer none)at k1;clear hc h hp hst e hsh ok HV
  go_enter Tryz.func22,Tryz.ntmps22
  go_wp2
  go_quiet (fail)
  go_wp2
  go_ret
  exact⟨rfl,⟨_,rfl⟩⟩
 | some k=>
  have hm:=ok.shape p a1 a2 k hsh;have e:Zhh M p=Zqm M p k:=by unfold Zhh;rw[if_pos ⟨a1,a2⟩,hsh]
  rw[e];unfold Zqm;rw[hsh]at k1;change w.cell? _=some (.pointer (some ⟨φ k,0,none⟩))at k1;obtain⟨B1,d1,B2,d2,hb,m1,n1,m2,n2⟩:=(h.shapes k _ hm).cells;have s4:w.cell? ⟨φ k,4,none⟩=some (.int .i64 (Zec M.sh k).rule):=(Zac hb 4).trans rfl;have s5:w.cell? ⟨φ k,5,none⟩=some (.int .i64 (Zec M.sh k).step):=(Zac hb 5).trans rfl;have HE:=Zaa.mk (fun n=>Zpp (w.drewN n) gb G M φ (h.below (Zah Zbr n)) ok p a1 a2 (some k) (fun k' hk'=>by cases hk';exact hm));have hr:=ok.rules k _ hm;generalize (Zec M.sh k).rule=r at s4 hr ⊢;generalize (Zec M.sh k).step=st at s5 hr ⊢;by_cases r0:r<0
  ·have z0:decide (r<0)=true:=decide_eq_true r0;rw[if_pos r0];clear hc h hp hst e hsh ok HV hr hb hm n1 m1 n2 m2 HE r0
   go_enter Tryz.func22,Tryz.ntmps22
   go_wp2
   go_quiet (fail)
   go_wp2
   go_ret
   exact⟨rfl,⟨_,rfl⟩⟩
  ·have z0:decide (r<0)=false:=decide_eq_false r0;rw[if_neg r0];obtain⟨r1,r2,r3⟩:=hr (by omega);obtain⟨sd,S0,sc,rfl,t0,_,_⟩:=at_St hst r (by omega) r1;have g3:w.cell? ⟨gb,2+1,none⟩=some (.slice (some sd) M.steps.length cs):=(Zac hc 3).trans rfl;change w.cell? _=some (.slice S0 (Zkv M r).length sc)at t0;have hw:IntKind.i64.wrap (st+1)=st+1:=by simp[IntKind.wrap,IntKind.bits,IntKind.signed];omega
   have ru:0≤r:=by omega
   by_cases c1:st+1<(Zkv M r).length
   ·rw[if_pos c1];have z1:decide (st+1<((Zkv M r).length:Int))=true:=decide_eq_true c1;generalize (Zkv M r).length=n at *;clear hc h hp hst e hsh ok HV hb hm n1 m1 n2 m2 HE c1 r2 r3
    go_enter Tryz.func22,Tryz.ntmps22
    go_wp2
    go_quiet (fail)
    go_wp2
    go_ret
    exact⟨rfl,⟨_,rfl⟩⟩
   ·rw[if_neg c1];have z1:decide (st+1<((Zkv M r).length:Int))=false:=decide_eq_false c1;generalize (Zkv M r).length=n at *;generalize Zom M p (some k)=b at HE ⊢;clear hc h hp hst e hsh ok HV hb hm n1 m1 n2 m2 c1 r2 r3;cases b
    all_goals
     go_enter Tryz.func22,Tryz.ntmps22
     go_wp2
     go_quiet ((go_at_call 45;exact Calls.quiet_of ((HE.out _).mono (fun _ _ ⟨h,hd⟩=>⟨h,hd.out⟩))))
     go_wp2
     go_ret
     exact⟨rfl,⟨_,rfl⟩⟩
def Zhf (M:Mach)(i:Nat):Int:=if rd M.frees i<0 then ((M.steps.getD i []).headD 0:Nat)else rd M.frees i
def Zgc (M:Mach):Nat→List Int
 | 0=>[]
 | k+1=>Zgc M k++[Zhf M k]
def startL (M:Mach):List Int:=Zgc M M.frees.length
theorem Zoy (M:Mach)(k:Nat):(Zgc M k).length=k:=by
 induction k with
 | zero=>rfl
 | succ k ih=>show (Zgc M k++[_]).length=_;rw[List.length_append,ih];rfl
set_option maxHeartbeats 4000000 in
theorem Znz (w:World)(gb:Nat)(G:S26)(M:Mach)(φ:Nat→Nat)(h:VR w gb G M φ)(ok:M.Ok φ) :
 Calls Tryz.prog 12 #[.pointer (some ⟨gb,0,none⟩)] w (Zea w (startL M)):=by
 have HV:=Zaa.mk h;obtain⟨At,ct,Ar,cr,Ap,cp,As,cs,Af,cf,hc,_,_,_,_,_,_,_,_,_,hf⟩:=h.cells;have g4:w.cell? ⟨gb,4,none⟩=some (.slice Af M.frees.length cf):=(Zac hc 4).trans rfl;have HF:=Zaa.mk hf;have hfl:=ok.fewer.2.1;have HOK:=Zaa.mk ok;clear hc hf h ok
 go_enter Tryz.func12,Tryz.ntmps12
 go_wp2
 clear g4
 go_loopw [3,13] (fun v i wr=>∃k:Nat,k≤M.frees.length∧i=.int .i64 k∧Zaa ((Kd.int .i64).R 3 wr w.heap.size (fun _=>True) v (Zgc M k))∧Zaa (Below w.heap.size w wr)) (fun _ i _=>M.frees.length-(intOf i).toNat)
 case atStart=>exact⟨0,Nat.zero_le _,rfl,⟨Kd.R_nil _ _ _ _ _⟩,⟨Zbr⟩⟩
 case round=>
  obtain⟨k,hk,rfl,HO,HB⟩:=hrel;by_cases hkn:k<M.frees.length
  ·have HVr:=Zaa.mk (HV.out.below HB.out);obtain⟨At2,ct2,Ar2,cr2,Ap2,cp2,As2,cs2,Af2,cf2,hc2,_,_,_,_,_,_,_,hst,_,_⟩:=HVr.out.cells;have g3:wr.cell? ⟨gb,3,none⟩=some (.slice As2 M.steps.length cs2):=(Zac hc2 3).trans rfl;obtain⟨ad,rfl,hq0⟩:=Kd.at_int (Kd.C_below HF.out HB.out) (k:Int) (by omega) (by omega);rw[Int.toNat_natCast]at hq0;obtain⟨hks,k0,r0,hst0⟩:=HOK.out.starts k hkn;obtain⟨sd,S0,sc,rfl,t0,_,hp0⟩:=at_St hst (k:Int) (by omega) (by omega);rw[Int.toNat_natCast]at t0 hp0;have hm:=HOK.out.stepsIn k k0 (by rw[hst0];exact List.mem_cons_self);rw[hst0]at t0 hp0;obtain⟨pd,rfl,hp1⟩:=at_Ptr hp0 0 (by omega) (by simp);obtain⟨B1,d1,B2,d2,hb,_⟩:=(HVr.out.shapes k0 _ hm).cells;have s0:wr.cell? ⟨φ k0,0,none⟩=some (.int .i64 (k0:Int)):=(Zac hb 0).trans rfl;have hp2:wr.cell? pd=some (.pointer (some ⟨φ k0,0,none⟩)):=by
    have z:=hp1;simp only[Int.toNat_zero,List.getD_cons_zero]at z;rwa[show pd.add 0=pd from by unfold Addr.add;simp]at z
   have hlen1:0<(k0 :: r0).length:=by simp
   have hsv:Zhf M k=if rd M.frees k<0 then (k0:Int)else rd M.frees k:=by unfold Zhf;rw[hst0];rfl
   have HSV:=Zaa.mk hsv;have hsl:=Zoy M k;have HSL:=Zaa.mk (show (Zgc M k).length≤1000 by omega);clear hc2 hst hp0 hp1 hb hm hst0 hsv hsl;generalize rd M.frees k=f at hq0 HSV;generalize (k0 :: r0).length=n at t0 hlen1;by_cases c:f<0
   ·go_wp2_with ((with_reducible refine Zas (b:=.append) (xs:=#[.tmp 32,.tmp 34]) rfl ?_);at_builtin;refine Kd.R_append_row (Value.int .i64) 0 (h1:=fun _=>rfl) (w0:=w) w.heap.size rfl (.tmp 32) (.tmp 34) 35 3 (.int .i64 0) 8 rfl Tryz.underlying35 Zho rfl (by omega) _ (Zgc M k) [(k0:Int)] _ _ _ (fun _=>True) rfl rfl (fun _ _=>trivial) ?aO ?aR ?aB ?aS ?aL ?_;(case aR=>exact one_C (by simp) _);(case aO=>exact Kd.R_alloc HO.out _);(case aB=>exact Zae HB.out _);(case aS=>exact Zdm (Zae HB.out _));(case aL=>have:=HSL.out;omega);intro v2 w2 ho2 hb2 hg2 hat2;have HO2:=Zaa.mk ho2;have HB2:=Zaa.mk hb2;clear ho2 hb2 hg2 hat2)
    go_roundw
    case rel=>exact⟨k+1,by omega,by go_num,⟨by show (Kd.int .i64).R 3 w2 w.heap.size (fun _=>True) _ (Zgc M k++[Zhf M k]);rw[HSV.out,if_pos c];exact HO2.out⟩,HB2⟩
    case measure=>simp[intOf];omega
   ·go_wp2_with ((with_reducible refine Zas (b:=.append) (xs:=#[.tmp 32,.tmp 34]) rfl ?_);at_builtin;refine Kd.R_append_row (Value.int .i64) 0 (h1:=fun _=>rfl) (w0:=w) w.heap.size rfl (.tmp 32) (.tmp 34) 35 3 (.int .i64 0) 8 rfl Tryz.underlying35 Zho rfl (by omega) _ (Zgc M k) [f] _ _ _ (fun _=>True) rfl rfl (fun _ _=>trivial) ?aO ?aR ?aB ?aS ?aL ?_;(case aR=>exact one_C (by simp) _);(case aO=>exact Kd.R_alloc HO.out _);(case aB=>exact Zae HB.out _);(case aS=>exact Zdm (Zae HB.out _));(case aL=>have:=HSL.out;omega);intro v2 w2 ho2 hb2 hg2 hat2;have HO2:=Zaa.mk ho2;have HB2:=Zaa.mk hb2;clear ho2 hb2 hg2 hat2)
    go_roundw
    case rel=>exact⟨k+1,by omega,by go_num,⟨by show (Kd.int .i64).R 3 w2 w.heap.size (fun _=>True) _ (Zgc M k++[Zhf M k]);rw[HSV.out,if_neg c];exact HO2.out⟩,HB2⟩
    case measure=>simp[intOf];omega
  ·obtain rfl:k=M.frees.length:=by omega
   go_wp2
   go_ret
   exact⟨_,rfl,HO.out,HB.out⟩
theorem Zlw (φ:Nat→Nat)(o:Option Nat):ptr φ o=.pointer (o.map fun b=>⟨φ b,0,none⟩):=by cases o <;> rfl
theorem Zpn {w W:World}{g:Nat}(hg:g=W.heap.size)(hb:Below w.heap.size w W)(p:Int):Zea w [p] (.returned (.slice (some ⟨g,0,none⟩) 1 1)) (W.alloc (.cells #[.int .i64 p] 3)):=by
 subst hg;exact Zdq w W hb p
def retB (G:S26)(M:Mach)(p sym t:Int):Bool:=
 (Zgy M sym&&decide (p=sym))||((decide ((Zbe M.pl sym).p.f0=4)&&decide (p=0))||(decide ((Zbe M.pl sym).p.f0=3)&&(Zdp G t (Zbe M.pl sym).p.f2&&Zom M p (Zbe M.pl sym).inner)))
def Zqd (G:S26)(M:Mach)(p sym t:Int):List Int:=if Zja G M p t 2=true∧0≤sym∧sym<M.pl.length∧retB G M p sym t=true then [sym]else []
set_option maxHeartbeats 4000000 in
theorem ret_call (w:World)(gb:Nat)(G:S26)(M:Mach)(φ:Nat→Nat)(h:VR w gb G M φ)(ok:M.Ok φ)(p sym t:Int) :
 Calls Tryz.prog 18 #[.pointer (some ⟨gb,0,none⟩),.int .i64 p,.int .i64 sym,.int .i64 t] w (Zea w (Zqd G M p sym t)):=by
 have hm:=Zlc w gb G M φ h p t 2;obtain⟨At,ct,Ar,cr,Ap,cp,As,cs,Af,cf,hc,_,_,_,_,_,hp,_⟩:=h.cells;have g2:w.cell? ⟨gb,2,none⟩=some (.slice Ap M.pl.length cp):=(Zac hc 2).trans rfl;cases hb:Zja G M p t 2 with
 | false=>
  have e:Zqd G M p sym t=[]:=by unfold Zqd;rw[if_neg (by simp[hb])]
  rw[hb]at hm;rw[e];clear h e hb hc hp ok
  go_enter Tryz.func18,Tryz.ntmps18
  go_wp2_with (go_at_call 35;refine hm.mono ?_;rintro e w1 ⟨rfl,rfl⟩;clear hm)
  go_ret
  exact Zcv _
 | true=>
  obtain⟨p0,p1,ht,_⟩:=Zgh hb;rw[hb]at hm;have HM:=Zaa.mk hm;clear hm;by_cases a1:0≤sym
  rotate_left
  ·have e:Zqd G M p sym t=[]:=by unfold Zqd;rw[if_neg (by omega)]
   have q1:decide (sym<0)=true:=decide_eq_true (by omega);rw[e];clear h e hb hc hp ok a1 p0 p1 ht
   go_enter Tryz.func18,Tryz.ntmps18
   go_wp2_with (go_at_call 35;refine HM.out.mono ?_;rintro e w1 ⟨rfl,rfl⟩)
   go_ret
   exact Zcv _
  by_cases a2:sym<M.pl.length
  rotate_left
  ·have e:Zqd G M p sym t=[]:=by unfold Zqd;rw[if_neg (by omega)]
   have q1:decide (sym<0)=false:=decide_eq_false (by omega);have q2:decide ((M.pl.length:Int)≤sym)=true:=decide_eq_true (by omega);rw[e];clear h e hb hc hp ok a1 a2 p0 p1 ht
   go_enter Tryz.func18,Tryz.ntmps18
   go_wp2_with (go_at_call 35;refine HM.out.mono ?_;rintro e w1 ⟨rfl,rfl⟩)
   go_ret
   exact Zcv _
  have q1:decide (sym<0)=false:=decide_eq_false (by omega);have q2:decide ((M.pl.length:Int)≤sym)=false:=decide_eq_false (by omega);have e:Zqd G M p sym t=if retB G M p sym t=true then [sym]else []:=by
   unfold Zqd;by_cases c:retB G M p sym t=true
   ·rw[if_pos ⟨hb,a1,a2,c⟩,if_pos c]
   ·rw[if_neg (by simp[c]),if_neg c]
  rw[e];obtain⟨ad,A1,c1,A2,c2,A3,c3,A4,c4,rfl,k0,k1,k2,k3,k4,k5,k6,k7,k8,l1,f1,l2,f2,_⟩:=Zpx hp sym a1 a2;have HS:=Zaa.mk (fun W (hW:Below w.heap.size w W)=>Zjx W gb G M φ (h.below hW) sym a1 a2);have HN:=Zaa.mk (fun W (hW:Below w.heap.size w W)=>Zia W gb G M φ (h.below hW) t ht A2 c2 (Zbe M.pl sym).p.f2 (Kd.C_below f2 hW) l2 (by have:=(ok.follow sym a1 a2).2.2.1;omega));have he:=(fun W (hW:Below w.heap.size w W)=>Zpp W gb G M φ (h.below hW) ok p p0 p1 (Zbe M.pl sym).inner (ok.inner sym a1 a2))
  rw[Zlw]at he;have HE:=Zaa.mk he;clear he;unfold retB;generalize (Zbe M.pl sym).kind=u0 at k0;generalize (Zbe M.pl sym).follow=u7 at k7;generalize (Zbe M.pl sym).rule=u8 at k8;generalize (Zbe M.pl sym).p.f1=u3 at k3 l1 f1;generalize Zdp G t (Zbe M.pl sym).p.f2=b2 at HN ⊢;generalize (Zbe M.pl sym).p.f2=u4 at k4 l2 f2 HN;generalize (Zbe M.pl sym).p.f3=u5 at k5;generalize Zom M p (Zbe M.pl sym).inner=b3 at HE ⊢;rw[Zlw]at k1 k6;generalize ((Zbe M.pl sym).inner.map fun b=>(⟨φ b,0,none⟩:Addr))=u6 at k6 HE;generalize ((Zbe M.pl sym).shape.map fun b=>(⟨φ b,0,none⟩:Addr))=u1 at k1;generalize Zgy M sym=b1 at HS ⊢;generalize (Zbe M.pl sym).p.f0=kd at k2 ⊢;clear h e hb hc hp ok p0 p1 ht l1 f1 l2 f2;by_cases hq:b1=true∧p=sym
  ·obtain⟨rfl,rfl⟩:=hq;rw[show ((true&&decide (p=p))||((decide (kd=4)&&decide (p=0))||(decide (kd=3)&&(b2&&b3))))=true by simp,if_pos rfl]
   go_enter Tryz.func18,Tryz.ntmps18
   go_wp2_with (first | (go_at_call 35;refine HM.out.mono ?_;rintro e w1 ⟨rfl,hw1⟩;obtain rfl:=hw1.symm;clear hw1) | (go_at_call 36;(with_reducible refine (HS.out _ (Zae Zbr _)).mono ?_);rintro e w3 ⟨rfl,rfl⟩) | (go_at_call 38;(with_reducible refine (HN.out _ (Zae Zbr _)).mono ?_);rintro e w4 ⟨rfl,hd⟩;have HB4:=Zaa.mk (Zaf (Zae (Below.refl w.heap.size w) _) hd.below);have hc4:=hd.below.cell (p:=⟨w.heap.size,6,none⟩) (by simp);clear hd) | (go_at_call 45;(with_reducible refine (HE.out _ HB4.out).mono ?_);rintro e w5 ⟨rfl,hd⟩;have HB5:=Zaa.mk (Zaf HB4.out hd.below);clear hd))
   go_ret
   exact Zpn (by simp) (Zae Zbr _) p
  ·have hq2:(b1&&decide (p=sym))=false:=by cases b1 <;> simp_all
   rw[hq2,Bool.false_or];have hq3:(b1=false)∨(b1=true∧(p==sym)=false):=by cases b1 <;> simp_all
   clear hq hq2;by_cases e4:kd=4
   ·subst e4;by_cases ep:p=0
    ·subst ep;rw[show ((decide ((4:Int)=4)&&decide ((0:Int)=0))||(decide ((4:Int)=3)&&(b2&&b3)))=true by simp,if_pos rfl]
     rcases hq3 with rfl | ⟨rfl,hne⟩
     all_goals
      go_enter Tryz.func18,Tryz.ntmps18
      go_wp2_with (first | (go_at_call 35;refine HM.out.mono ?_;rintro e w1 ⟨rfl,hw1⟩;obtain rfl:=hw1.symm;clear hw1) | (go_at_call 36;(with_reducible refine (HS.out _ (Zae Zbr _)).mono ?_);rintro e w3 ⟨rfl,rfl⟩) | (go_at_call 38;(with_reducible refine (HN.out _ (Zae Zbr _)).mono ?_);rintro e w4 ⟨rfl,hd⟩;have HB4:=Zaa.mk (Zaf (Zae (Below.refl w.heap.size w) _) hd.below);have hc4:=hd.below.cell (p:=⟨w.heap.size,6,none⟩) (by simp);clear hd) | (go_at_call 45;(with_reducible refine (HE.out _ HB4.out).mono ?_);rintro e w5 ⟨rfl,hd⟩;have HB5:=Zaa.mk (Zaf HB4.out hd.below);clear hd))
      go_ret
      exact Zpn (by simp) (Zae Zbr _) sym
    ·rw[show ((decide ((4:Int)=4)&&decide (p=0))||(decide ((4:Int)=3)&&(b2&&b3)))=false by simp[ep],if_neg (by simp)];have n0:(p==0)=false:=by simpa using ep
     rcases hq3 with rfl | ⟨rfl,hne⟩
     all_goals
      go_enter Tryz.func18,Tryz.ntmps18
      go_wp2_with (first | (go_at_call 35;refine HM.out.mono ?_;rintro e w1 ⟨rfl,hw1⟩;obtain rfl:=hw1.symm;clear hw1) | (go_at_call 36;(with_reducible refine (HS.out _ (Zae Zbr _)).mono ?_);rintro e w3 ⟨rfl,rfl⟩) | (go_at_call 38;(with_reducible refine (HN.out _ (Zae Zbr _)).mono ?_);rintro e w4 ⟨rfl,hd⟩;have HB4:=Zaa.mk (Zaf (Zae (Below.refl w.heap.size w) _) hd.below);have hc4:=hd.below.cell (p:=⟨w.heap.size,6,none⟩) (by simp);clear hd) | (go_at_call 45;(with_reducible refine (HE.out _ HB4.out).mono ?_);rintro e w5 ⟨rfl,hd⟩;have HB5:=Zaa.mk (Zaf HB4.out hd.below);clear hd))
      go_ret
      exact⟨_,rfl,Kd.R_nil _ _ _ _ _,Zae Zbr _⟩
   ·have n4:(kd==4)=false:=by simpa using e4
    by_cases e3:kd=3
    ·subst e3;rw[show ((decide ((3:Int)=4)&&decide (p=0))||(decide ((3:Int)=3)&&(b2&&b3)))=(b2&&b3) by simp];cases b2
     ·rw[Bool.false_and,if_neg (by simp)]
      rcases hq3 with rfl | ⟨rfl,hne⟩
      all_goals
       go_enter Tryz.func18,Tryz.ntmps18
       go_wp2_with (first | (go_at_call 35;refine HM.out.mono ?_;rintro e w1 ⟨rfl,hw1⟩;obtain rfl:=hw1.symm;clear hw1) | (go_at_call 36;(with_reducible refine (HS.out _ (Zae Zbr _)).mono ?_);rintro e w3 ⟨rfl,rfl⟩) | (go_at_call 38;(with_reducible refine (HN.out _ (Zae Zbr _)).mono ?_);rintro e w4 ⟨rfl,hd⟩;have HB4:=Zaa.mk (Zaf (Zae (Below.refl w.heap.size w) _) hd.below);have hc4:=hd.below.cell (p:=⟨w.heap.size,6,none⟩) (by simp);clear hd) | (go_at_call 45;(with_reducible refine (HE.out _ HB4.out).mono ?_);rintro e w5 ⟨rfl,hd⟩;have HB5:=Zaa.mk (Zaf HB4.out hd.below);clear hd))
       go_ret
       exact⟨_,rfl,Kd.R_nil _ _ _ _ _,HB4.out⟩
     ·rw[Bool.true_and];cases b3
      ·rw[if_neg (by simp)]
       rcases hq3 with rfl | ⟨rfl,hne⟩
       all_goals
        go_enter Tryz.func18,Tryz.ntmps18
        go_wp2_with (first | (go_at_call 35;refine HM.out.mono ?_;rintro e w1 ⟨rfl,hw1⟩;obtain rfl:=hw1.symm;clear hw1) | (go_at_call 36;(with_reducible refine (HS.out _ (Zae Zbr _)).mono ?_);rintro e w3 ⟨rfl,rfl⟩) | (go_at_call 38;(with_reducible refine (HN.out _ (Zae Zbr _)).mono ?_);rintro e w4 ⟨rfl,hd⟩;have HB4:=Zaa.mk (Zaf (Zae (Below.refl w.heap.size w) _) hd.below);have hc4:=hd.below.cell (p:=⟨w.heap.size,6,none⟩) (by simp);clear hd) | (go_at_call 45;(with_reducible refine (HE.out _ HB4.out).mono ?_);rintro e w5 ⟨rfl,hd⟩;have HB5:=Zaa.mk (Zaf HB4.out hd.below);clear hd))
        go_ret
        exact⟨_,rfl,Kd.R_nil _ _ _ _ _,HB5.out⟩
      ·rw[if_pos rfl]
       rcases hq3 with rfl | ⟨rfl,hne⟩
       all_goals
        go_enter Tryz.func18,Tryz.ntmps18
        go_wp2_with (first | (go_at_call 35;refine HM.out.mono ?_;rintro e w1 ⟨rfl,hw1⟩;obtain rfl:=hw1.symm;clear hw1) | (go_at_call 36;(with_reducible refine (HS.out _ (Zae Zbr _)).mono ?_);rintro e w3 ⟨rfl,rfl⟩) | (go_at_call 38;(with_reducible refine (HN.out _ (Zae Zbr _)).mono ?_);rintro e w4 ⟨rfl,hd⟩;have HB4:=Zaa.mk (Zaf (Zae (Below.refl w.heap.size w) _) hd.below);have hc4:=hd.below.cell (p:=⟨w.heap.size,6,none⟩) (by simp);clear hd) | (go_at_call 45;(with_reducible refine (HE.out _ HB4.out).mono ?_);rintro e w5 ⟨rfl,hd⟩;have HB5:=Zaa.mk (Zaf HB4.out hd.below);clear hd))
        go_ret
        exact Zdq _ _ HB5.out sym
    ·have n3:(kd==3)=false:=by simpa using e3
     rw[show ((decide (kd=4)&&decide (p=0))||(decide (kd=3)&&(b2&&b3)))=false by simp[e4,e3],if_neg (by simp)]
     rcases hq3 with rfl | ⟨rfl,hne⟩
     all_goals
      go_enter Tryz.func18,Tryz.ntmps18
      go_wp2_with (first | (go_at_call 35;refine HM.out.mono ?_;rintro e w1 ⟨rfl,hw1⟩;obtain rfl:=hw1.symm;clear hw1) | (go_at_call 36;(with_reducible refine (HS.out _ (Zae Zbr _)).mono ?_);rintro e w3 ⟨rfl,rfl⟩) | (go_at_call 38;(with_reducible refine (HN.out _ (Zae Zbr _)).mono ?_);rintro e w4 ⟨rfl,hd⟩;have HB4:=Zaa.mk (Zaf (Zae (Below.refl w.heap.size w) _) hd.below);have hc4:=hd.below.cell (p:=⟨w.heap.size,6,none⟩) (by simp);clear hd) | (go_at_call 45;(with_reducible refine (HE.out _ HB4.out).mono ?_);rintro e w5 ⟨rfl,hd⟩;have HB5:=Zaa.mk (Zaf HB4.out hd.below);clear hd))
      go_ret
      exact⟨_,rfl,Kd.R_nil _ _ _ _ _,Zae Zbr _⟩
structure W0 where
 w:World
 ok:Nat→Prop
instance:Coe W0 World:=⟨W0.w⟩
abbrev W0.heap (x:W0):=x.w.heap
abbrev Ri (w0:W0)(W:World)(v:Value)(l:List Int):Prop:=(Kd.int .i64).R 3 W w0.heap.size w0.ok v l
def Same3 (W W':World):Prop:=∀(k:Nat) (cells:Array Value),W.heap[k]?=some (Obj.cells cells 3 (0,0))→W'.heap[k]?=W.heap[k]?
theorem Same3.refl (W:World):Same3 W W:=fun _ _ _=>rfl
theorem Same3.trans {W W1 W2:World}(h:Same3 W W1)(k:Same3 W1 W2):Same3 W W2:=fun i cells hi=>(k i cells ((h i cells hi).trans hi)).trans (h i cells hi)
theorem Same3.below {W W1:World}(hb:Below W.heap.size W W1):Same3 W W1:=fun k _ hk=>hb.block k (Zbj hk)
theorem Ri.same {w0:W0}{W W':World}{v:Value}{l:List Int}(h:Ri w0 W v l)(hs:Same3 W W'):Ri w0 W' v l:=by
 have ho:=Kd.own_of_R h;exact Kd.R_of_own (Zek ho (fun k hk=>by obtain⟨cells,hc⟩:=Zbs ho k hk;exact hs k cells hc)) h.1
theorem Ri.C {w0:W0}{W:World}{v:Value}{l:List Int}(h:Ri w0 W v l):∃A c,v=.slice A l.length c∧l.length≤c∧(Kd.int .i64).C W A l.length l:=Kd.R_reads h
def PlS (φ:Nat→Nat)(w0:W0)(W:World)(x:Pl)(cs:List Value):Prop:=
 ∃A1 c1 A2 c2 A3 c3 v4,cs=[.int .i64 x.kind,ptr φ x.shape,.int .i64 x.p.f0,.slice A1 x.p.f1.length c1,.slice A2 x.p.f2.length c2,.slice A3 x.p.f3.length c3,ptr φ x.inner,v4,.int .i64 x.rule] ∧
  x.p.f1.length≤c1∧Kd.string.C w0 A1 x.p.f1.length x.p.f1∧x.p.f2.length≤c2∧Kd.string.C w0 A2 x.p.f2.length x.p.f2∧x.p.f3.length≤c3∧k76.C w0 A3 x.p.f3.length x.p.f3∧Ri w0 W v4 x.follow
theorem PlS.same {φ:Nat→Nat}{w0:W0}{W W':World}{x:Pl}{cs:List Value}(h:PlS φ w0 W x cs)(hs:Same3 W W'):PlS φ w0 W' x cs:=by
 obtain⟨A1,c1,A2,c2,A3,c3,v4,rfl,l1,g1,l2,g2,l3,g3,g4⟩:=h;exact⟨A1,c1,A2,c2,A3,c3,v4,rfl,l1,g1,l2,g2,l3,g3,g4.same hs⟩
theorem PlS.len {φ:Nat→Nat}{w0:W0}{W:World}{x:Pl}{cs:List Value}(h:PlS φ w0 W x cs):cs.length=9:=by
 obtain⟨A1,c1,A2,c2,A3,c3,v4,rfl,_⟩:=h
 rfl
theorem PlS.one {φ:Nat→Nat}{w0:W0}{W:World}{x:Pl}{cs:List Value}(h:PlS φ w0 W x cs):∀u∈cs,u.oneCell'=true:=by
 obtain⟨A1,c1,A2,c2,A3,c3,v4,rfl,_,_,_,_,_,_,g4⟩:=h;obtain⟨A,c,rfl,_⟩:=g4.C;intro u hu;simp only[List.mem_cons,List.not_mem_nil,or_false]at hu
 rcases hu with rfl | rfl | rfl | rfl | rfl | rfl | rfl | rfl | rfl <;> first | rfl | exact ptr_one _ _
theorem Zqx {φ φ':Nat→Nat}{o:Option Nat}(h:∀k,o=some k→φ' k=φ k):ptr φ' o=ptr φ o:=by
 cases o with
 | none=>rfl
 | some k=>show Value.pointer _=Value.pointer _;rw[h k rfl]
theorem PlS.phi {φ φ':Nat→Nat}{w0:W0}{W:World}{x:Pl}{cs:List Value}(h:PlS φ w0 W x cs)(h1:∀k,x.shape=some k→φ' k=φ k)(h2:∀k,x.inner=some k→φ' k=φ k):PlS φ' w0 W x cs:=by
 obtain⟨A1,c1,A2,c2,A3,c3,v4,rfl,r⟩:=h;exact⟨A1,c1,A2,c2,A3,c3,v4,by rw[Zqx h1,Zqx h2],r⟩
structure ShS (w0:W0)(W:World)(b k:Nat)(s:Sh):Prop where
 ge:w0.heap.size≤b
 cells:∃v1 v2,W.heap[b]?=some (.cells #[.int .i64 (k:Int),v1,v2,.bool s.empty,.int .i64 s.rule,.int .i64 s.step] 97 (0,0))∧Ri w0 W v1 s.first∧Ri w0 W v2 s.last
def KeptV (W W':World)(gb:Nat)(v:Value):Prop:=Kept W W' (fun k=>k=gb∨v.ownBlock=some k)
def NewOr (W:World)(v v':Value):Prop:=v'.ownBlock=v.ownBlock∨∃b,v'.ownBlock=some b∧W.heap.size≤b
structure VS (w0:W0)(W:World)(gb:Nat)(h0 h1 vs vf:Value)(φ:Nat→Nat)(v:Value)(pl:List Pl)(sh:List (Nat × Sh)):Prop where
 ge:w0.heap.size≤gb
 blk:W.heap[gb]?=some (.cells #[h0,h1,v,vs,vf] 86 (0,0))
 row:OwnRow (PlS φ w0 W) 90 9 W w0.heap.size v pl
 shapes:∀k s,(k,s)∈sh→ShS w0 W (φ k) k s
 bel:Below w0.heap.size w0 W
 new:∀k,W.heap.size≤k→w0.ok k
theorem VS.ri {w0:W0}{W W':World}{gb:Nat}{h0 h1 vs vf:Value}{φ:Nat→Nat}{v:Value}{pl:List Pl}{sh:List (Nat × Sh)}(h:VS w0 W gb h0 h1 vs vf φ v pl sh){u:Value}{l:List Int}{base:Nat}(ho:(Kd.int .i64).R 3 W' base (fun _=>True) u l)(hb:W.heap.size≤base):Ri w0 W' u l:=by
 have ho2:=Kd.own_of_R ho;have h3:=Kd.own_of_R (Kd.R_lower ho (Nat.le_trans h.bel.size hb));exact Kd.R_of_own h3 (fun k hk=>h.new k (Nat.le_trans hb (World.ownsRow.lt ho2 k hk).1))
theorem VS.typed {w0:W0}{W:World}{gb:Nat}{h0 h1 vs vf:Value}{φ:Nat→Nat}{v:Value}{pl:List Pl}{sh:List (Nat × Sh)}(h:VS w0 W gb h0 h1 vs vf φ v pl sh)(k:Nat)(hk:k=gb∨v.ownBlock=some k):∃cells,W.heap[k]?=some (.cells cells 86 (0,0))∨W.heap[k]?=some (.cells cells 90 (0,0)):=by
 rcases hk with rfl | hk
 ·exact⟨_,.inl h.blk⟩
 ·obtain⟨inner,ho,_⟩:=h.row;obtain⟨cells,hc⟩:=Zbs ho k hk;exact⟨cells,.inr hc⟩
theorem VS.keep {w0:W0}{W W':World}{gb:Nat}{h0 h1 vs vf:Value}{φ:Nat→Nat}{v:Value}{pl:List Pl}{sh:List (Nat × Sh)}(h:VS w0 W gb h0 h1 vs vf φ v pl sh)(hk:KeptV W W' gb v){g:Nat}{cs:Array Value}{e:TypeId}(hg:W.heap[g]?=some (.cells cs e (0,0)))(h86:e≠86)(h90:e≠90) :
 W'.heap[g]?=some (.cells cs e (0,0)):=by
 refine Zij hg hk (fun hS=>?_);obtain⟨cells,hc⟩:=h.typed g hS
 rcases hc with hc | hc
 ·rw[hg]at hc;injection hc with hc;injection hc with _ hc;exact h86 hc
 ·rw[hg]at hc;injection hc with hc;injection hc with _ hc;exact h90 hc
theorem VS.same3 {w0:W0}{W W':World}{gb:Nat}{h0 h1 vs vf:Value}{φ:Nat→Nat}{v:Value}{pl:List Pl}{sh:List (Nat × Sh)}(h:VS w0 W gb h0 h1 vs vf φ v pl sh)(hk:KeptV W W' gb v):Same3 W W':=
 fun k cells hc=>(h.keep hk hc (by decide) (by decide)).trans hc.symm
theorem ShS.keep {w0:W0}{W W':World}{b k:Nat}{s:Sh}(h:ShS w0 W b k s)(hs:Same3 W W')(hk:∀cs,W.heap[b]?=some (.cells cs 97 (0,0))→W'.heap[b]?=W.heap[b]?):ShS w0 W' b k s:=by
 obtain⟨v1,v2,hc,r1,r2⟩:=h.cells;exact⟨h.ge,v1,v2,(hk _ hc).trans hc,r1.same hs,r2.same hs⟩
theorem VS.below {w0:W0}{W W':World}{gb:Nat}{h0 h1 vs vf:Value}{φ:Nat→Nat}{v:Value}{pl:List Pl}{sh:List (Nat × Sh)}(h:VS w0 W gb h0 h1 vs vf φ v pl sh)(hb:Below W.heap.size W W'):VS w0 W' gb h0 h1 vs vf φ v pl sh:=by
 obtain⟨inner,ho,hr⟩:=h.row;exact⟨h.ge,Zag h.blk hb,⟨inner,Zcu ho hb,hr.imp_ (fun _ _ hp=>hp.same (Same3.below hb))⟩,fun k s hk=>(h.shapes k s hk).keep (Same3.below hb) (fun cs hc=>hb.block _ (Zbj hc)),Zaf h.bel hb,fun k hk=>h.new k (Nat.le_trans hb.size hk)⟩
theorem KeptV.refl (W:World)(gb:Nat)(v:Value):KeptV W W gb v:=Kept.refl _ _
theorem KeptV.of_below {W W':World}(hb:Below W.heap.size W W')(gb:Nat)(v:Value):KeptV W W' gb v:=⟨hb.size,fun i hi _=>hb.block i hi⟩
theorem KeptV.trans {W W1 W2:World}{gb:Nat}{v v1:Value}(h:KeptV W W1 gb v)(k:KeptV W1 W2 gb v1)(hn:NewOr W v v1):KeptV W W2 gb v:=
 h.then_ k (fun i hi=>by
  rcases hi with hi | hi
  ·exact .inl (.inl hi)
  ·rcases hn with hn | ⟨b,hb,hle⟩
   ·exact .inl (.inr (by rw[←hn];exact hi))
   ·rw[hb]at hi;injection hi with hi;subst hi;exact .inr hle)
theorem NewOr.refl (W:World)(v:Value):NewOr W v v:=.inl rfl
theorem NewOr.trans {W W1:World}{v v1 v2:Value}(h:NewOr W v v1)(k:NewOr W1 v1 v2)(hs:W.heap.size≤W1.heap.size):NewOr W v v2:=by
 rcases k with k | ⟨b,hb,hle⟩
 ·rcases h with h | ⟨b,hb,hle⟩
  ·exact .inl (k.trans h)
  ·exact .inr ⟨b,k.trans hb,hle⟩
 ·exact .inr ⟨b,hb,Nat.le_trans hs hle⟩
theorem VS.put {w0:W0}{W W1:World}{gb:Nat}{h0 h1 vs vf:Value}{φ:Nat→Nat}{v v1:Value}{pl pl1:List Pl}{sh:List (Nat × Sh)}(h:VS w0 W gb h0 h1 vs vf φ v pl sh)
 (ho:OwnRow (PlS φ w0 W) 90 9 W1 w0.heap.size v1 pl1) (hb:Below w0.heap.size w0 W1) (hg:W.grownBy W1 v.ownBlock) :
 VS w0 (W1.setCell ⟨gb,2,none⟩ v1) gb h0 h1 vs vf φ v1 pl1 sh∧KeptV W (W1.setCell ⟨gb,2,none⟩ v1) gb v:=by
 obtain⟨inner0,ho0,_⟩:=h.row;have ng:some gb≠v.ownBlock:=Zcn ho0 h.blk (by decide);have kg:=Zby h.blk hg ng;have hk:KeptV W (W1.setCell ⟨gb,2,none⟩ v1) gb v:=⟨by have:=hg.size;simpa[World.setCell]using this,fun i hi hn=>by
  rw[Below.heap_setCell W1 ⟨gb,2,none⟩ v1 i (fun he=>hn (.inl he))];exact hg.block i hi (fun he=>hn (.inr he.symm))⟩
 have hs:=h.same3 hk;obtain⟨inner,hown,hr⟩:=ho;refine⟨⟨h.ge,?_,⟨inner,Zfm hown (p:=⟨gb,2,none⟩) (Zcn hown kg (by decide)) _,hr.imp_ (fun _ _ hp=>hp.same hs)⟩,fun k s hk'=>(h.shapes k s hk').keep hs (fun cs hc=>(h.keep hk hc (by decide) (by decide)).trans hc.symm),hb.setCell h.ge _,fun k hk'=>h.new k (Nat.le_trans hk.1 hk')⟩,hk⟩;rw[Zef kg 2 v1]
 rfl
theorem Zuc (a b c d:Int)(w:World):(Op.equalIn 10000 53 (.agg #[.int .i64 a,.int .i64 b]) (.agg #[.int .i64 c,.int .i64 d])).run Tryz.prog w=.ok (a==c&&b==d) w:=by
 have u3:=Tryz.underlying3;have a3:=Tryz.isAgg3;have z3:=Tryz.sizeOf3;have h:∀n:Nat,(Op.equalIn (n+2) 53 (.agg #[.int .i64 a,.int .i64 b]) (.agg #[.int .i64 c,.int .i64 d])).run Tryz.prog w=.ok (a==c&&b==d) w:=fun n=>by
  rw[Op.equalIn];simp[run_underlying Tryz.underlying53,List.range',go_sem];by_cases h1:a=c <;> by_cases h2:b=d <;> simp[h1,h2]
 exact h 9998
theorem Zua:Tryz.prog.eqGuardType Tryz.prog.depth 53=false:=by kernel_rfl
def rdP (l:List (Int × Int))(i:Nat):Int × Int:=l.getD i (0,0)
theorem OwnP.at {w:World}{base g n c:Nat}{l:List (Int × Int)}(h:OwnP w base (.slice (some ⟨g,0,none⟩) n c) l)(i:Nat)(hi:i<l.length) :
 w.cell? ⟨g,i*2,none⟩=some (.int .i64 (rdP l i).1)∧w.cell? ⟨g,i*2+1,none⟩=some (.int .i64 (rdP l i).2):=by
 obtain⟨g',cap,he,_,_,_,_,hH⟩:=Zkb h (by intro hh;cases hh);injection he with he _ _
 injection he with he
 injection he with he
 subst he;have e:rdP l i=l[i]:=by simp[rdP,List.getD_eq_getElem?_getD,List.getElem?_eq_getElem hi]
 obtain⟨g1,g2⟩:=Zoo l i hi;rw[e];have hl:=Zem l
 constructor
 ·have z:=(hH (i*2) (by simp;omega)).1;rw[Nat.zero_add,getElem!_pos _ _ (by simp;omega)]at z;rw[z];simp[List.getElem?_eq_getElem (show i*2<(Zdf l).length by omega)]at g1;simp[g1]
 ·have z:=(hH (i*2+1) (by simp;omega)).1;rw[Nat.zero_add,getElem!_pos _ _ (by simp;omega)]at z;rw[z];simp[List.getElem?_eq_getElem (show i*2+1<(Zdf l).length by omega)]at g2;simp[g2]
set_option maxHeartbeats 1000000 in
theorem Zpt (base:Nat)(w:World)(v:Value)(l:List (Int × Int))(h:OwnP w base v l)(hne:∀i,i+1<l.length→rdP l i≠rdP l (i+1))(hl:l.length≤1000000) :
 Calls Tryz.prog 50 #[v] w fun e w'=>e=.returned v∧Drawn0 w w':=by
 obtain⟨A,c,rfl,hc⟩:=h.slice;by_cases h2:l.length<2
 ·have q:decide ((l.length:Int)<2)=true:=decide_eq_true (by omega);clear h hne hc
  go_enter Tryz.func50,Tryz.ntmps50
  go_wp2
  go_ret
  exact⟨rfl,Drawn0.refl w⟩
 ·have q:decide ((l.length:Int)<2)=false:=decide_eq_false (by omega);obtain⟨g,rfl⟩:∃g,A=some ⟨g,0,none⟩:=by
   rcases h.2 with⟨he,hz⟩ | ⟨g,cap,cur,he,_⟩
   ·omega
   ·injection he with he;exact⟨g,he⟩
  have HOW:=Zaa.mk h;have HNE:=Zaa.mk hne;clear h hne
  go_enter Tryz.func50,Tryz.ntmps50
  go_wp2
  clear q
  go_loopw [3] (fun i wr=>∃k:Nat,1≤k∧k≤l.length∧i=.int .i64 k∧Zaa (Drawn0 w wr)) (fun i _=>l.length-(intOf i).toNat)
  case atStart=>exact⟨1,by omega,by omega,rfl,⟨Drawn0.refl w⟩⟩
  case round=>
   obtain⟨k,k1,hk,rfl,HD⟩:=hrel;by_cases hkn:k<l.length
   ·have ho:=HOW.out.below HD.out.below;obtain⟨p0,p1⟩:=ho.at k hkn;obtain⟨p2,p3⟩:=ho.at (k-1) (by omega);have hn:=HNE.out (k-1) (by omega);rw[show k-1+1=k by omega]at hn;have ee:=Zuc (rdP l k).1 (rdP l k).2 (rdP l (k-1)).1 (rdP l (k-1)).2;have hb:((rdP l k).1==(rdP l (k-1)).1&&(rdP l k).2==(rdP l (k-1)).2)=false:=by
     cases hh:((rdP l k).1==(rdP l (k-1)).1&&(rdP l k).2==(rdP l (k-1)).2)with
     | false=>rfl
     | true=>
      simp at hh;exact absurd (Prod.ext hh.1.symm hh.2.symm) hn
    rw[hb]at ee;generalize rdP l k=x at *;generalize rdP l (k-1)=y at *;obtain⟨x1,x2⟩:=x;obtain⟨y1,y2⟩:=y;simp only at p0 p1 p2 p3 ee;have hg:=Zua;have hw1:IntKind.i64.wrap ((k:Int)-1)=(k:Int)-1:=by simp[IntKind.wrap,IntKind.bits,IntKind.signed];omega
    have hw2:0≤(k:Int)-1:=by omega
    have hw3:(k:Int)-1<l.length:=by omega
    clear ho hn hb;go_wp2
    go_quiet (fail)
    go_wp2
    go_roundw
    case rel=>exact⟨k+1,by omega,by omega,by go_num,⟨HD.out.step _⟩⟩
    case measure=>simp[intOf];omega
   ·obtain rfl:k=l.length:=by omega
    go_wp2
    go_ret
    exact⟨rfl,HD.out⟩
theorem Zha:(Tryz.prog.info? 53).map (fun i=>(i.zero,i.size,i.bytes))=some (some (.agg #[.int .i64 0,.int .i64 0]),2,16):=by kernel_rfl
section
variable {ops:Array Oper}{rest:List Oper}{o:Oper}{a:Act}{Q:Exit→Act→World→Prop}
theorem appendP {w0 W:World}(base:Nat)(hgd:o.guard=none)(s x:Operand)(ho:o.op=.call { callee:=.builtin .append,args:=#[s,x],argTypes:=#[42,42] })(v:Value)(l:List (Int × Int))(p:Int × Int)(g:Nat)
 (hs:a.eval s=v) (hx:a.eval x=.slice (some ⟨g,0,none⟩) 1 1) (hg:g=W.heap.size) (HO:OwnP W base v l) (HB:Below base w0 W) (hbase:base≤W.heap.size) (hl:l.length≤1000000)
 (h:∀v1 w1,OwnP w1 base v1 (l++[p])→Below base w0 w1→W.grownBy w1 v.ownBlock→(v1.ownBlock=v.ownBlock∨∃b,v1.ownBlock=some b∧W.heap.size≤b)→wpList Tryz.prog ops Q rest (a.put o.dst v1) w1) :
 wpList Tryz.prog ops Q (o :: rest) a (W.alloc (.cells #[.int .i64 p.1,.int .i64 p.2] 53)):=by
 subst hg;refine Zej (w0:=w0) base hgd s x 42 53 (.agg #[.int .i64 0,.int .i64 0]) 2 16 ho Tryz.underlying42 Zha rfl (by omega) (by omega) v l.length (Zdf l) (Zud p) hs hx rfl (fun u hu=>by simp[Zud]at hu;rcases hu with rfl | rfl <;> rfl) HO HB hbase (by omega) ?_
 intro v1 w1 h1 h2 h3 h4;refine h v1 w1 ?_ h2 h3 h4
 unfold OwnP;rw[List.length_append,List.length_singleton,show Zdf (l++[p])=Zdf l++Zud p by simp[Zdf]];exact h1
theorem Zkt {w0 W:World}{K:Act→World→Prop}(base:Nat)(hw:Region.wanted o (yielded ops a.tmps)=true)(s x:Operand)(ho:o.op=.call { callee:=.builtin .append,args:=#[s,x],argTypes:=#[42,42] })(v:Value)(l:List (Int × Int))(p:Int × Int)(g:Nat)
 (hs:a.eval s=v) (hx:a.eval x=.slice (some ⟨g,0,none⟩) 1 1) (hg:g=W.heap.size) (HO:OwnP W base v l) (HB:Below base w0 W) (hbase:base≤W.heap.size) (hl:l.length≤1000000)
 (h:∀v1 w1,OwnP w1 base v1 (l++[p])→Below base w0 w1→W.grownBy w1 v.ownBlock→(v1.ownBlock=v.ownBlock∨∃b,v1.ownBlock=some b∧W.heap.size≤b)→K (a.put o.dst v1) w1) :
 if Region.wanted o (yielded ops a.tmps)=true then Oper.wp Tryz.prog o a (W.alloc (.cells #[.int .i64 p.1,.int .i64 p.2] 53)) K Q else K (a.put o.dst undef) (W.alloc (.cells #[.int .i64 p.1,.int .i64 p.2] 53)):=by
 subst hg;refine Zeq (w0:=w0) base hw s x 42 53 (.agg #[.int .i64 0,.int .i64 0]) 2 16 ho Tryz.underlying42 Zha rfl (by omega) (by omega) v l.length (Zdf l) (Zud p) hs hx rfl (fun u hu=>by simp[Zud]at hu;rcases hu with rfl | rfl <;> rfl) HO HB hbase (by omega) ?_
 intro v1 w1 h1 h2 h3 h4;refine h v1 w1 ?_ h2 h3 h4
 unfold OwnP;rw[List.length_append,List.length_singleton,show Zdf (l++[p])=Zdf l++Zud p by simp[Zdf]];exact h1
end
def Zbm (G:S26)(i:Int):S52:=G.f1.getD i.toNat z52
def Zei (r:S52)(i:Int):S79:=r.f2.getD i.toNat z79
structure Fits (G:S26)(M:Mach):Prop where
 rows:∀i:Int,0≤i→i<G.f1.length→i<M.steps.length∧(Zkv M i).length=(Zbm G i).f2.length
 calls:∀i j:Int,0≤i→i<G.f1.length→0≤j→j<(Zbm G i).f2.length→(Zei (Zbm G i) j).f0.length≤100000
 short:∀i:Int,0≤i→i<G.f1.length→(Zbm G i).f2.length≤1000
structure Bx (w W:World)(b3 b5 b7 gb:Nat)(t:Int)(v:Value)(l:List (Int × Int)):Prop where
 c3:W.heap[b3]?=some (.cells #[.pointer (some ⟨gb,0,none⟩)] 28 (0,0))
 c5:W.heap[b5]?=some (.cells #[.int .i64 t] 3 (0,0))
 c7:W.heap[b7]?=some (.cells #[v] 42 (0,0))
 own:OwnP W w.heap.size v l
 bel:Below w.heap.size w W
 ge:w.heap.size≤b7
theorem Bx.below {w W W':World}{b3 b5 b7 gb:Nat}{t:Int}{v:Value}{l:List (Int × Int)}(h:Bx w W b3 b5 b7 gb t v l)(hb:Below W.heap.size W W'):Bx w W' b3 b5 b7 gb t v l:=
 ⟨Zag h.c3 hb,Zag h.c5 hb,Zag h.c7 hb,h.own.below hb,Zaf h.bel hb,h.ge⟩
theorem OwnP.lt {w:World}{base:Nat}{v:Value}{l:List (Int × Int)}(h:OwnP w base v l):∀k,v.ownBlock=some k→base≤k∧k<w.heap.size:=World.ownsRow.lt h
theorem Bx.put {w W W1:World}{b3 b5 b7 gb:Nat}{t:Int}{v v1:Value}{l l1:List (Int × Int)}(h:Bx w W b3 b5 b7 gb t v l)(ho:OwnP W1 w.heap.size v1 l1)(hb:Below w.heap.size w W1)(hg:W.grownBy W1 v.ownBlock) :
 Bx w (W1.setCell ⟨b7,0,none⟩ v1) b3 b5 b7 gb t v1 l1:=by
 have n3:some b3≠v.ownBlock:=Zcn h.own h.c3 (by decide);have n5:some b5≠v.ownBlock:=Zcn h.own h.c5 (by decide);have n7:some b7≠v.ownBlock:=Zcn h.own h.c7 (by decide);have k3:=Zby h.c3 hg n3;have k5:=Zby h.c5 hg n5;have k7:=Zby h.c7 hg n7;refine⟨?_,?_,?_,?_,hb.setCell h.ge _,h.ge⟩
 ·exact Zdv k3 (p:=⟨b7,0,none⟩) (Zmu k3 k7 (by decide)) _
 ·exact Zdv k5 (p:=⟨b7,0,none⟩) (Zmu k5 k7 (by decide)) _
 ·rw[Zef k7 0 v1];rfl
 ·exact Zfm ho (p:=⟨b7,0,none⟩) (Zcn ho k7 (by decide)) _
theorem kept_put {W W1:World}{b7:Nat}{v:Value}(hg:W.grownBy W1 v.ownBlock)(u:Value):Kept W (W1.setCell ⟨b7,0,none⟩ u) (fun k=>k=b7∨v.ownBlock=some k):=
 ⟨by have:=hg.size;simpa[World.setCell]using this,fun i hi hn=>by
  rw[Below.heap_setCell W1 ⟨b7,0,none⟩ u i (fun he=>hn (.inl he))];exact hg.block i hi (fun he=>hn (.inr he.symm))⟩
def Zhn (G:S26)(M:Mach)(t rule step:Int):List (Int × Int):=
 if step<(Zbm G rule).f2.length∧Zdp G t (Zei (Zbm G rule) step).f0=true then [((((Zkv M rule).getD step.toNat 0:Nat):Int),-1)]else []
set_option maxHeartbeats 4000000 in
theorem into_call (w W:World)(b3 b5 b7 gb:Nat)(t:Int)(v:Value)(l:List (Int × Int))(h:Bx w W b3 b5 b7 gb t v l)(G:S26)(M:Mach)(φ:Nat→Nat)(hv:VR w gb G M φ)(ok:M.Ok φ)(fit:Fits G M)(ht:t<G.f0.length)
 (rule step:Int) (r0:0≤rule) (r1:rule<G.f1.length) (s0:0≤step) (hl:l.length≤200000) :
 Calls Tryz.prog 44 #[.int .i64 rule,.int .i64 step,.pointer (some ⟨b3,0,none⟩),.pointer (some ⟨b5,0,none⟩),.pointer (some ⟨b7,0,none⟩)] W fun e w'=>e=.returned (.tuple #[])∧∃v',Bx w w' b3 b5 b7 gb t v' (l++Zhn G M t rule step)∧Kept W w' (fun k=>k=b7∨v.ownBlock=some k):=by
 have hvW:=hv.below h.bel;obtain⟨At,ct,Ar,cr,Ap,cp,As,cs,Af,cf,hc,_,_,_,hr,_,_,_,hst,_,_⟩:=hvW.cells;have q3:W.cell? ⟨b3,0,none⟩=some (.pointer (some ⟨gb,0,none⟩)):=(Zac h.c3 0).trans rfl;have q5:W.cell? ⟨b5,0,none⟩=some (.int .i64 t):=(Zac h.c5 0).trans rfl;have q7:W.cell? ⟨b7,0,none⟩=some v:=(Zac h.c7 0).trans rfl;have g1:W.cell? ⟨gb,1,none⟩=some (.slice Ar G.f1.length cr):=(Zac hc 1).trans rfl;obtain⟨ad,A2,c2,rfl,_,_,k2,lk2,hk2⟩:=Zmx hr rule r0 r1;obtain⟨f1,f2⟩:=fit.rows rule r0 r1;have f3:=fit.short rule r0 r1;change W.cell? _=some (.slice A2 (Zbm G rule).f2.length c2)at k2;change k79.C W A2 (Zbm G rule).f2.length (Zbm G rule).f2 at hk2;have HB:=Zaa.mk h;unfold Zhn;by_cases e1:step<(Zbm G rule).f2.length
 rotate_left
 ·rw[if_neg (by omega),List.append_nil];have z:decide (step<((Zbm G rule).f2.length:Int))=false:=decide_eq_false e1;generalize (Zbm G rule).f2.length=n at k2 z;clear hk2 lk2 f1 f2 f3 hc hst hvW hv hr h q5 q7 e1
  go_enter Tryz.func44,Tryz.ntmps44
  go_wp2
  go_quiet (fail)
  go_wp2
  go_end0
  exact⟨rfl,v,HB.out.below (Zah Zbr _),Nat.le_refl _,fun _ _ _=>rfl⟩
 ·have z:decide (step<((Zbm G rule).f2.length:Int))=true:=decide_eq_true e1;obtain⟨bd,A0,c0,_,_,_,_,_,_,rfl,m0,_,_,_,_,lm0,hm0,_⟩:=Zoq hk2 step s0 e1;change W.cell? _=some (.slice A0 (Zei (Zbm G rule) step).f0.length c0)at m0;change (Zei (Zbm G rule) step).f0.length≤c0 at lm0;change Kd.string.C W A0 (Zei (Zbm G rule) step).f0.length (Zei (Zbm G rule) step).f0 at hm0;have hcl:=fit.calls rule step r0 r1 s0 e1;have HN:=Zaa.mk (fun n=>Zia (W.drewN n) gb G M φ (hvW.below (Zah Zbr n)) t ht A0 c0 (Zei (Zbm G rule) step).f0 (Kd.C_drewN hm0 n) lm0 (by omega));obtain⟨sd,S0,sc,rfl,t0,_,hp0⟩:=at_St hst rule r0 f1;change W.cell? _=some (.slice S0 (Zkv M rule).length sc)at t0;change (Zic φ).C W S0 (Zkv M rule).length (Zkv M rule)at hp0;have g3:W.cell? ⟨gb,3,none⟩=some (.slice (some sd) M.steps.length cs):=(Zac hc 3).trans rfl;obtain⟨pd,rfl,hp1⟩:=at_Ptr hp0 step s0 (by omega);have hmem:(Zkv M rule).getD step.toNat 0∈M.steps.getD rule.toNat []:=by
   show (Zkv M rule).getD step.toNat 0∈Zkv M rule;rw[List.getD_eq_getElem?_getD,List.getElem?_eq_getElem (by omega)];exact List.getElem_mem _
  have hm:=ok.stepsIn rule.toNat _ hmem;obtain⟨B1,d1,B2,d2,hb,_⟩:=(hvW.shapes _ _ hm).cells;have s0':W.cell? ⟨φ ((Zkv M rule).getD step.toNat 0),0,none⟩=some (.int .i64 (((Zkv M rule).getD step.toNat 0:Nat):Int)):=(Zac hb 0).trans rfl;have st1:step<((Zkv M rule).length:Int):=by omega
  clear hmem hm hb hp0 hst hm0 hk2 hc hvW hv hr;generalize (Zkv M rule).getD step.toNat 0=k at hp1 s0' ⊢;generalize Zdp G t (Zei (Zbm G rule) step).f0=b at HN ⊢;generalize (Zei (Zbm G rule) step).f0=nm at m0 lm0 hcl HN;generalize (Zkv M rule).length=sn at t0 f2 st1;cases b
  ·rw[if_neg (by simp),List.append_nil];generalize (Zbm G rule).f2.length=n at *;clear q7 hp1 s0' t0 g3 f3 lk2 f2 st1 hl lm0 hcl f1 h
   go_enter Tryz.func44,Tryz.ntmps44
   go_wp2
   go_quiet ((go_at_call 38;exact Calls.quiet_of ((HN.out _).mono (fun _ _ ⟨h,hd⟩=>⟨h,hd.out⟩))))
   go_wp2
   go_end0
   exact⟨rfl,v,HB.out.below (Zah Zbr _),Nat.le_refl _,fun _ _ _=>rfl⟩
  ·rw[if_pos ⟨e1,rfl⟩];generalize (Zbm G rule).f2.length=n at *;have HL:=Zaa.mk hl;clear f3 lk2 f2 hl lm0 hcl h
   go_enter Tryz.func44,Tryz.ntmps44
   go_wp2
   go_quiet ((go_at_call 38;exact Calls.quiet_of ((HN.out _).mono (fun _ _ ⟨h,hd⟩=>⟨h,hd.out⟩))))
   go_wp2_with fail
   have HBX:=Zaa.mk (HB.out.below (Zah Zbr (nq+1)));have hq7n:∀o,((W.drewN (nq+1)).alloc o).cell? ⟨b7,0,none⟩=some v:=fun o=>(Zac (Zan HBX.out.c7 o) 0).trans rfl
   go_region_law (first | (refine Zkt (w0:=w) w.heap.size rfl (.tmp 31) (.tmp 46) rfl v l (((k:Nat):Int),-1) _ rfl rfl ?hg ?hO ?hB ?hS (by have:=HL.out;omega) ?_;(case hg=>simp);(case hO=>exact HBX.out.own);(case hB=>exact HBX.out.bel);(case hS=>exact HBX.out.bel.size);intro v7 w7 ho7 hb7 hg7 hat7;obtain⟨A7,c7,hv7,_⟩:=ho7.slice;rw[List.length_append,List.length_singleton]at hv7;subst hv7;have hf7:w7.frozen? ⟨b7,0,none⟩=false:=Zat (Zby HBX.out.c7 hg7 (Zcn HBX.out.own HBX.out.c7 (by decide))) 0;have HO7:=Zaa.mk ho7;have HB7:=Zaa.mk hb7;have HG7:=Zaa.mk hg7;have hc7:=(Zac (Zby HBX.out.c7 hg7 (Zcn HBX.out.own HBX.out.c7 (by decide))) 0).trans rfl;clear ho7 hb7 hg7 hat7) | fail)
   all_goals (
    go_wp2
    go_end0
    exact⟨rfl,_,HBX.out.put HO7.out HB7.out HG7.out,kept_put (W:=W.drewN (nq+1)) HG7.out _⟩)
structure Fits2 (G:S26)(M:Mach):Prop where
 len:M.steps.length=G.f1.length
 frees:∀i:Int,0≤i→i<M.pl.length→(Zbe M.pl i).kind=1→0≤(Zbe M.pl i).rule∧(Zbe M.pl i).rule<G.f1.length
def Zkx (G:S26)(M:Mach)(t q:Int):List (Int × Int):=
 if (Zbe M.pl q).p.f0=4 then [(0,q)]else if (Zbe M.pl q).p.f0=3∧Zdp G t (Zbe M.pl q).p.f1=true then [((((Zbe M.pl q).inner.getD 0:Nat):Int),q)]else []
def Zkf (M:Mach)(p:Int):List (Int × Int):=if Zgy M p=true then [(p,p)]else []
def Zgw (G:S26)(M:Mach)(p t:Int):List (Int × Int):=if (Zbe M.pl p).kind=1 then Zhn G M t (Zbe M.pl p).rule 0 else []
def Zgv (G:S26)(M:Mach)(t:Int)(l:List Int):Nat→List (Int × Int)
 | 0=>[]
 | k+1=>Zgv G M t l k++Zkx G M t (rd l k)
def Ziy (G:S26)(M:Mach)(p t:Int):List (Int × Int):=match (Zbe M.pl p).shape with
 | none=>[]
 | some k=>if 0≤(Zec M.sh k).rule∧Zom M p (some k)=true then Zhn G M t (Zec M.sh k).rule ((Zec M.sh k).step+1)else []
def Zqv (G:S26)(M:Mach)(p t:Int):List (Int × Int):=Zkf M p++Zgw G M p t++Zgv G M t (Zdo M p) (Zdo M p).length++Ziy G M p t
def Zix (G:S26)(M:Mach)(p t:Int):List (Int × Int):=if Zja G M p t 1=true then sortP (Zqv G M p t)else []
theorem Zsd (G:S26)(M:Mach)(t q:Int):(Zkx G M t q).length≤1:=by
 unfold Zkx
 split
 ·simp
 ·split <;> simp
theorem Zhr (G:S26)(M:Mach)(t:Int)(l:List Int)(k:Nat):(Zgv G M t l k).length≤k:=by
 induction k with
 | zero=>exact Nat.le_refl _
 | succ k ih=>show (Zgv G M t l k++_).length≤_;rw[List.length_append];have:=Zsd G M t (rd l k);omega
theorem Zkp (G:S26)(M:Mach)(t r s:Int):(Zhn G M t r s).length≤1:=by unfold Zhn;split <;> simp
theorem Zhs (M:Mach)(p:Int):(Zkf M p).length≤1:=by unfold Zkf;split <;> simp
theorem Zks (G:S26)(M:Mach)(p t:Int):(Zgw G M p t).length≤1:=by
 unfold Zgw
 split
 ·exact Zkp _ _ _ _ _
 ·simp
theorem Zkr (G:S26)(M:Mach)(p t:Int):(Ziy G M p t).length≤1:=by
 unfold Ziy
 split
 ·simp
 ·split
  ·exact Zkp _ _ _ _ _
  ·simp
theorem sortP_neq {l:List (Int × Int)}(h:l.Nodup):∀i,i+1<(sortP l).length→rdP (sortP l) i≠rdP (sortP l) (i+1):=by
 intro i hi he;have hn:(sortP l).Nodup:=(List.mergeSort_perm l _).nodup_iff.2 h;have e1:rdP (sortP l) i=(sortP l)[i]'(by omega):=by simp[rdP,List.getD_eq_getElem?_getD,List.getElem?_eq_getElem (show i<(sortP l).length by omega)]
 have e2:rdP (sortP l) (i+1)=(sortP l)[i+1]'hi:=by simp[rdP,List.getD_eq_getElem?_getD,List.getElem?_eq_getElem hi]
 rw[e1,e2]at he;exact List.pairwise_iff_getElem.1 hn i (i+1) (by omega) hi (by omega) he
def GivesP (w:World)(l:List (Int × Int))(e:Ending)(w':World):Prop:=∃v,e=.returned v∧OwnP w' w.heap.size v l∧Below w.heap.size w w'
structure Cx (w W:World)(b3 b5 b7 b9 gb:Nat)(t:Int)(cs:Array Value)(v:Value)(l:List (Int × Int)):Prop where
 bx:Bx w W b3 b5 b7 gb t v l
 c9:W.heap[b9]?=some (.cells cs 90 (0,0))
theorem Cx.below {w W W':World}{b3 b5 b7 b9 gb:Nat}{t:Int}{cs:Array Value}{v:Value}{l:List (Int × Int)}(h:Cx w W b3 b5 b7 b9 gb t cs v l)(hb:Below W.heap.size W W'):Cx w W' b3 b5 b7 b9 gb t cs v l:=⟨h.bx.below hb,Zag h.c9 hb⟩
theorem Cx.put {w W W1:World}{b3 b5 b7 b9 gb:Nat}{t:Int}{cs:Array Value}{v v1:Value}{l l1:List (Int × Int)}(h:Cx w W b3 b5 b7 b9 gb t cs v l)(ho:OwnP W1 w.heap.size v1 l1)(hb:Below w.heap.size w W1)(hg:W.grownBy W1 v.ownBlock) :
 Cx w (W1.setCell ⟨b7,0,none⟩ v1) b3 b5 b7 b9 gb t cs v1 l1:=by
 refine⟨h.bx.put ho hb hg,?_⟩;have n9:some b9≠v.ownBlock:=Zcn h.bx.own h.c9 (by decide);have n7:some b7≠v.ownBlock:=Zcn h.bx.own h.bx.c7 (by decide);have k9:=Zby h.c9 hg n9;have k7:=Zby h.bx.c7 hg n7;exact Zdv k9 (p:=⟨b7,0,none⟩) (Zmu k9 k7 (by decide)) _
theorem Bx.frozen {w W W1:World}{b3 b5 b7 gb:Nat}{t:Int}{v:Value}{l:List (Int × Int)}(h:Bx w W b3 b5 b7 gb t v l)(hg:W.grownBy W1 v.ownBlock):W1.frozen? ⟨b7,0,none⟩=false:=
 Zat (Zby h.c7 hg (Zcn h.own h.c7 (by decide))) 0
theorem Bx.cell7 {w W W1:World}{b3 b5 b7 gb:Nat}{t:Int}{v:Value}{l:List (Int × Int)}(h:Bx w W b3 b5 b7 gb t v l)(hg:W.grownBy W1 v.ownBlock):W1.cell? ⟨b7,0,none⟩=some v:=
 (Zac (Zby h.c7 hg (Zcn h.own h.c7 (by decide))) 0).trans rfl
theorem Zdb {c:Code}{Q:Exit→Act→World→Prop}{a:Act}{w:World}(h:c.wp Tryz.prog Q a (w.drewN 0)):c.wp Tryz.prog Q a w:=h
theorem into_cx (w W:World)(b3 b5 b7 b9 gb:Nat)(t:Int)(cs:Array Value)(v:Value)(l:List (Int × Int))(h:Cx w W b3 b5 b7 b9 gb t cs v l)(G:S26)(M:Mach)(φ:Nat→Nat)(hv:VR w gb G M φ)(ok:M.Ok φ)(fit:Fits G M)(ht:t<G.f0.length)
 (rule step:Int) (r0:0≤rule) (r1:rule<G.f1.length) (s0:0≤step) (hl:l.length≤200000) :
 Calls Tryz.prog 44 #[.int .i64 rule,.int .i64 step,.pointer (some ⟨b3,0,none⟩),.pointer (some ⟨b5,0,none⟩),.pointer (some ⟨b7,0,none⟩)] W fun e w'=>e=.returned (.tuple #[])∧∃v',Cx w w' b3 b5 b7 b9 gb t cs v' (l++Zhn G M t rule step):=
 (into_call w W b3 b5 b7 gb t v l h.bx G M φ hv ok fit ht rule step r0 r1 s0 hl).mono fun _ _ ⟨he,v',hb,hk⟩=>⟨he,v',hb,Zij h.c9 hk (fun hh=>by
  rcases hh with hh | hh
  ·exact Zmu h.c9 h.bx.c7 (by decide) hh
  ·exact Zcn h.bx.own h.c9 (by decide) hh.symm)⟩
set_option maxHeartbeats 8000000 in
theorem Zsb (w:World)(gb:Nat)(G:S26)(M:Mach)(φ:Nat→Nat)(h:VR w gb G M φ)(ok:M.Ok φ)(fit:Fits G M)(fit2:Fits2 G M)(p t:Int)(nod:(Zqv G M p t).Nodup) :
 Calls Tryz.prog 16 #[.pointer (some ⟨gb,0,none⟩),.int .i64 p,.int .i64 t] w (GivesP w (Zix G M p t)):=by
 have hm:=Zaa.mk (fun W (hW:Below w.heap.size w W)=>Zlc W gb G M φ (h.below hW) p t 1);cases hb:Zja G M p t 1 with
 | false=>
  have e:Zix G M p t=[]:=by unfold Zix;rw[if_neg (by simp[hb])]
  rw[hb]at hm;rw[e];clear h e hb nod ok
  go_enter Tryz.func16,Tryz.ntmps16
  go_wp2_with (go_at_call 35;(with_reducible refine (hm.out _ (Zae (Zae Zbr _) _)).mono ?_);rintro e w1 ⟨rfl,rfl⟩)
  go_ret
  exact⟨_,rfl,OwnP.nil _ _,Zae (Zae Zbr _) _⟩
 | true=>
  obtain⟨p0,p1,ht,_⟩:=Zgh hb;have e:Zix G M p t=sortP (Zqv G M p t):=by unfold Zix;rw[if_pos hb]
  rw[e];rw[hb]at hm;obtain⟨At,ct,Ar,cr,Ap,cp,As,cs,Af,cf,hc,_,_,_,_,_,hp,_⟩:=h.cells;have g2:w.cell? ⟨gb,2,none⟩=some (.slice Ap M.pl.length cp):=(Zac hc 2).trans rfl;obtain⟨ad,A1,c1,A2,c2,A3,c3,A4,c4,rfl,k0,k1,k2,k3,k4,k5,k6,k7,k8,_⟩:=Zpx hp p p0 p1;rw[Zlw]at k1 k6;have HS:=Zaa.mk (fun W (hW:Below w.heap.size w W)=>Zjx W gb G M φ (h.below hW) p p0 p1);have HP0:=Zaa.mk p0;have HP1:=Zaa.mk p1;have HT:=Zaa.mk ht;have HV:=Zaa.mk h;have HOK:=Zaa.mk ok;have HNOD:=Zaa.mk nod;have hgb:=Zbj hc;have had:=World.block_lt_of_cell? w _ k0;generalize hu1:((Zbe M.pl p).shape.map fun b=>(⟨φ b,0,none⟩:Addr))=u1 at k1;generalize ((Zbe M.pl p).inner.map fun b=>(⟨φ b,0,none⟩:Addr))=u6 at k6;have HU1:=Zaa.mk hu1;clear h e hb nod ok hc hp p0 p1 ht hu1
  go_enter Tryz.func16,Tryz.ntmps16
  go_upto_region 5 with (go_at_call 35;(with_reducible refine (hm.out _ (Zae (Zae Zbr _) _)).mono ?_);rintro e w1 ⟨rfl,rfl⟩)
  obtain⟨X,hX⟩:∃X,X=((w.alloc (.cells #[.pointer (some ⟨gb,0,none⟩)] 28)).alloc (.cells #[.int .i64 t] 3)).alloc (.cells #[.slice none 0 0] 42):=⟨_,rfl⟩
  have hBX:Below w.heap.size w X:=by rw[hX];exact Zae (Zae (Zae Zbr _) _) _
  have x3:X.heap[w.heap.size]?=some (.cells #[.pointer (some ⟨gb,0,none⟩)] 28 (0,0)):=by rw[hX];exact Zan (Zan (Zaq _ _) _) _
  have x5:X.heap[w.heap.size+1]?=some (.cells #[.int .i64 t] 3 (0,0)):=by
   rw[hX];have z:=Zaq (w.alloc (.cells #[.pointer (some ⟨gb,0,none⟩)] 28)) (.cells #[.int .i64 t] 3);rw[show (w.alloc (.cells #[.pointer (some ⟨gb,0,none⟩)] 28)).heap.size=w.heap.size+1 by simp]at z;exact Zan z _
  have x7:X.heap[w.heap.size+1+1]?=some (.cells #[.slice none 0 0] 42 (0,0)):=by
   rw[hX];have z:=Zaq ((w.alloc (.cells #[.pointer (some ⟨gb,0,none⟩)] 28)).alloc (.cells #[.int .i64 t] 3)) (.cells #[.slice none 0 0] 42);rw[show ((w.alloc (.cells #[.pointer (some ⟨gb,0,none⟩)] 28)).alloc (.cells #[.int .i64 t] 3)).heap.size=w.heap.size+1+1 by simp]at z;exact z
  have hsz:X.heap.size=w.heap.size+1+1+1:=by rw[hX];simp
  rw[←hX];clear hX;have HBX:Zaa (Bx w X w.heap.size (w.heap.size+1) (w.heap.size+1+1) gb t (.slice none 0 0) []):=⟨⟨x3,x5,x7,OwnP.nil _ _,hBX,by omega⟩⟩
  have y3:X.cell? ⟨w.heap.size,0,none⟩=some (.pointer (some ⟨gb,0,none⟩)):=(Zac x3 0).trans rfl;have k2':=Zab hBX g2;have j0:=Zab hBX k0;have j1:=Zab hBX k1;have j2:=Zab hBX k2;have j3:=Zab hBX k3;have j4:=Zab hBX k4;have j5:=Zab hBX k5;have j6:=Zab hBX k6;have j7:=Zab hBX k7;have j8:=Zab hBX k8;have HB0:=Zaa.mk hBX;have p0:=HP0.out;have p1:=HP1.out;clear x3 x5 x7 g2 k0 k1 k2 k3 k4 k5 k6 k7 k8 hm hBX
  go_upto_region 6 with (fail)
  obtain⟨cs9,hcs9⟩:∃cs9:Array Value,cs9=#[.int .i64 (Zbe M.pl p).kind,.pointer u1,.int .i64 (Zbe M.pl p).p.f0,.slice A1 (Zbe M.pl p).p.f1.length c1,.slice A2 (Zbe M.pl p).p.f2.length c2,.slice A3 (Zbe M.pl p).p.f3.length c3,.pointer u6,.slice A4 (Zbe M.pl p).follow.length c4,.int .i64 (Zbe M.pl p).rule]:=⟨_,rfl⟩
  obtain⟨Y,hY⟩:∃Y,Y=X.alloc (.cells cs9 90):=⟨_,rfl⟩
  have hC:Cx w Y w.heap.size (w.heap.size+1) (w.heap.size+1+1) (w.heap.size+1+1+1) gb t cs9 (.slice none 0 0) []:=by
   rw[hY];refine⟨HBX.out.below (Zae Zbr _),?_⟩;have z:=Zaq X (.cells cs9 90);rwa[hsz]at z
  rw[hcs9]at hY;rw[←hY];have HCS:=Zaa.mk hcs9;have HC:=Zaa.mk hC;clear hY hcs9 hC j0 j1 j2 j3 j4 j5 j6 j7 j8 k2' y3 HBX hsz;have y3:Y.cell? ⟨w.heap.size,0,none⟩=some (.pointer (some ⟨gb,0,none⟩)):=(Zac HC.out.bx.c3 0).trans rfl
  go_upto_if 29 with (go_at_call 36;(with_reducible refine (HS.out _ HC.out.bx.bel).mono ?_);rintro e w1 ⟨rfl,hw1⟩;obtain rfl:=hw1.symm;clear hw1)
  go_cut [] (fun wx=>∃v,Zaa (Cx w wx w.heap.size (w.heap.size+1) (w.heap.size+1+1) (w.heap.size+1+1+1) gb t cs9 v (Zkf M p)))
  case first=>
   cases hst:Zgy M p with
   | true=>
    have y7:Y.cell? ⟨w.heap.size+1+1,0,none⟩=some (.slice none 0 0):=(Zac HC.out.bx.c7 0).trans rfl
    go_wp2_with ((with_reducible refine Zas (b:=.append) (xs:=#[.tmp 30,.tmp 34]) rfl ?_);at_builtin;refine appendP (w0:=w) w.heap.size rfl (.tmp 30) (.tmp 34) rfl (.slice none 0 0) [] (p,p) _ rfl rfl ?hg ?hO ?hB ?hS ?hL ?_;(case hg=>simp);(case hO=>exact HC.out.bx.own);(case hB=>exact HC.out.bx.bel);(case hS=>exact HC.out.bx.bel.size);(case hL=>simp);intro v7 w7 ho7 hb7 hg7 hat7;obtain⟨A7,c7,hv7,_⟩:=ho7.slice;rw[List.length_append,List.length_singleton]at hv7;subst hv7;have hf7:=HC.out.bx.frozen hg7;have hc7:=HC.out.bx.cell7 hg7;have HO7:=Zaa.mk ho7;have HB7:=Zaa.mk hb7;have HG7:=Zaa.mk hg7;clear ho7 hb7 hg7 hat7)
    go_meet
    refine⟨.slice A7 1 c7,⟨?_⟩⟩;rw[show Zkf M p=[]++[(p,p)] by unfold Zkf;rw[if_pos hst];rfl];exact HC.out.put HO7.out HB7.out HG7.out
   | false=>
    go_wp2
    go_meet
    exact⟨_,⟨by rw[show Zkf M p=[] by unfold Zkf;rw[if_neg (by simp[hst])]];exact HC.out⟩⟩
  case rest=>
   clear HC y3;obtain⟨v,HC⟩:=hcut;have y3:wc.cell? ⟨w.heap.size,0,none⟩=some (.pointer (some ⟨gb,0,none⟩)):=(Zac HC.out.bx.c3 0).trans rfl;have y90:wc.cell? ⟨w.heap.size+1+1+1,0,none⟩=some (.int .i64 (Zbe M.pl p).kind):=(Zac HC.out.c9 0).trans (by rw[HCS.out];rfl);have y98:wc.cell? ⟨w.heap.size+1+1+1,8,none⟩=some (.int .i64 (Zbe M.pl p).rule):=(Zac HC.out.c9 8).trans (by rw[HCS.out];rfl)
   go_upto_if 38 with (fail)
   go_cut [] (fun wx=>∃v,Zaa (Cx w wx w.heap.size (w.heap.size+1) (w.heap.size+1+1) (w.heap.size+1+1+1) gb t cs9 v (Zkf M p++Zgw G M p t)))
   case first=>
    by_cases e1:(Zbe M.pl p).kind=1
    ·obtain⟨r0,r1⟩:=fit2.frees p HP0.out HP1.out e1;have HR0:=Zaa.mk r0;have HR1:=Zaa.mk r1;rw[e1]at y90;have hL:=Zhs M p;have HL:=Zaa.mk hL;clear r0 r1 hL
     go_wp2_with (go_at_call 44;(with_reducible refine (into_cx w _ w.heap.size (w.heap.size+1) (w.heap.size+1+1) (w.heap.size+1+1+1) gb t cs9 v _ HC.out G M φ HV.out HOK.out fit HT.out _ 0 HR0.out HR1.out (by omega) (by have:=HL.out;omega)).mono ?_);rintro e w5 ⟨rfl,v5,hc5⟩;have HC5:=Zaa.mk hc5;clear hc5)
     go_meet
     exact⟨v5,⟨by rw[show Zgw G M p t=Zhn G M t (Zbe M.pl p).rule 0 by unfold Zgw;rw[if_pos e1]];exact HC5.out⟩⟩
    ·have q:((Zbe M.pl p).kind==1)=false:=by simpa using e1
     go_wp2
     go_meet
     exact⟨v,⟨by rw[show Zgw G M p t=[] by unfold Zgw;rw[if_neg e1],List.append_nil];exact HC.out⟩⟩
   case rest=>
    clear HC y3 y90 y98 v;obtain⟨v,HC⟩:=hcut;have y3:wc.cell? ⟨w.heap.size,0,none⟩=some (.pointer (some ⟨gb,0,none⟩)):=(Zac HC.out.bx.c3 0).trans rfl;have hn:=next_at w wc gb G M φ HV.out HC.out.bx.bel HOK.out p HP0.out HP1.out;obtain⟨hl,hq⟩:=Zhy HOK.out HP0.out HP1.out;have HQ:=Zaa.mk hq;have HN:=Zaa.mk hn;obtain⟨L,hLL⟩:∃L,L=Zdo M p:=⟨_,rfl⟩
    rw[←hLL]at hl HN HQ;have HLL:=Zaa.mk hLL;obtain⟨l2,hl2⟩:∃l2,l2=Zkf M p++Zgw G M p t:=⟨_,rfl⟩
    rw[←hl2]at HC;have hl2n:l2.length≤2:=by rw[hl2,List.length_append];have:=Zhs M p;have:=Zks G M p t;omega
    have HL2:=Zaa.mk hl2;have HL2N:=Zaa.mk hl2n;clear hn hq hLL hl2 hl2n
    go_wp2_with (go_at_call 37;(with_reducible refine HN.out.mono ?_);rintro e w5 ⟨⟨A,c,rfl,hlc,hr⟩,hw5⟩;obtain rfl:=hw5.symm;clear hw5;have HLC:=Zaa.mk hlc;have HR:=Zaa.mk hr;clear hlc hr)
    clear HN y3
    go_loopw [47] (fun i wr=>∃(k:Nat) (v:Value),k≤L.length∧i=.int .i64 k∧Zaa (Cx w wr w.heap.size (w.heap.size+1) (w.heap.size+1+1) (w.heap.size+1+1+1) gb t cs9 v (l2++Zgv G M t L k))∧Zaa (Below w.heap.size w wr)) (fun i _=>L.length-(intOf i).toNat)
    case atStart=>exact⟨0,v,Nat.zero_le _,rfl,⟨by rw[show Zgv G M t L 0=[]from rfl,List.append_nil];exact HC.out⟩,⟨HC.out.bx.bel⟩⟩
    case round=>
     obtain⟨k,v,hk,rfl,HC,HBW⟩:=hrel;by_cases hkn:k<L.length
     ·have HVr:=Zaa.mk (HV.out.below HBW.out);have HRr:=Zaa.mk (Kd.C_below HR.out HBW.out);obtain⟨ad,rfl,hq0⟩:=Kd.at_int HRr.out (k:Int) (by omega) (by omega);rw[Int.toNat_natCast]at hq0;have hqr:=HQ.out (rd L k) (by simp[rd,List.getD_eq_getElem?_getD,List.getElem?_eq_getElem hkn]);obtain⟨q0,q1⟩:=hqr;obtain⟨At2,ct2,Ar2,cr2,Ap2,cp2,As2,cs2,Af2,cf2,hc2,_,_,_,_,_,hp2,_⟩:=HVr.out.cells;have g2:wr.cell? ⟨gb,2,none⟩=some (.slice Ap2 M.pl.length cp2):=(Zac hc2 2).trans rfl;have y3:wr.cell? ⟨w.heap.size,0,none⟩=some (.pointer (some ⟨gb,0,none⟩)):=(Zac HC.out.bx.c3 0).trans rfl;obtain⟨bd,D1,d1,D2,d2,D3,d3,D4,d4,rfl,z0,z1,z2,z3,z4,z5,z6,z7,z8,zl1,zf1,_⟩:=Zpx hp2 (rd L k) q0 q1;rw[Zlw]at z1 z6;have hbox:=fun (cs:Array Value)=>(HC.out.below (Zae (Below.refl wr.heap.size wr) (.cells cs 90)))
      have HBOX:=Zaa.mk hbox;have HN12:=Zaa.mk (fun (W:World) (hW:Below w.heap.size w W)=>Zia W gb G M φ (HV.out.below hW) t HT.out);have hlc:=Zhr G M t L k;have HLEN:Zaa ((l2++Zgv G M t L k).length≤200000):=⟨by rw[List.length_append];have:=HL2N.out;omega⟩
      have HCS2:Zaa (l2++Zgv G M t L (k+1)=(l2++Zgv G M t L k)++Zkx G M t (rd L k)):=⟨by rw[List.append_assoc];rfl⟩
      obtain⟨lk,hlk⟩:∃lk,lk=l2++Zgv G M t L k:=⟨_,rfl⟩
      rw[←hlk]at HC HLEN HCS2 HBOX;clear hlk hlc hbox hc2 hp2;have y3a:∀o,(wr.alloc o).cell? ⟨w.heap.size,0,none⟩=some (.pointer (some ⟨gb,0,none⟩)):=fun o=>(Zac (Zan HC.out.bx.c3 o) 0).trans rfl
      have y5a:∀o,(wr.alloc o).cell? ⟨w.heap.size+1,0,none⟩=some (.int .i64 t):=fun o=>(Zac (Zan HC.out.bx.c5 o) 0).trans rfl
      have y7a:∀o,(wr.alloc o).cell? ⟨w.heap.size+1+1,0,none⟩=some v:=fun o=>(Zac (Zan HC.out.bx.c7 o) 0).trans rfl
      have HZL:=Zaa.mk zl1;have HZF:=Zaa.mk zf1;have HZS:Zaa ((Zbe M.pl (rd L k)).p.f1.length≤1000000):=⟨by have:=(HOK.out.follow (rd L k) q0 q1).2.1;omega⟩
      have HPIN:=Zaa.mk (HOK.out.pin (rd L k) q0 q1);have HINN:=Zaa.mk (HOK.out.inner (rd L k) q0 q1);have hck:Zkx G M t (rd L k)=if (Zbe M.pl (rd L k)).p.f0=4 then [(0,rd L k)]else if (Zbe M.pl (rd L k)).p.f0=3∧Zdp G t (Zbe M.pl (rd L k)).p.f1=true then [((((Zbe M.pl (rd L k)).inner.getD 0:Nat):Int),rd L k)]else []:=rfl
      have HCK:=Zaa.mk hck;clear zl1 zf1 hck;generalize (Zbe M.pl (rd L k)).kind=u0q at z0;generalize ((Zbe M.pl (rd L k)).shape.map fun b=>(⟨φ b,0,none⟩:Addr))=u1q at z1;generalize hu6:((Zbe M.pl (rd L k)).inner.map fun b=>(⟨φ b,0,none⟩:Addr))=u6q at z6;have HU6:=Zaa.mk hu6;clear hu6;generalize (Zbe M.pl (rd L k)).follow=u7q at z7;generalize (Zbe M.pl (rd L k)).rule=u8q at z8;generalize (Zbe M.pl (rd L k)).p.f2=u4q at z4;generalize (Zbe M.pl (rd L k)).p.f3=u5q at z5;generalize (Zbe M.pl (rd L k)).p.f1=nm at z3 HZL HZF HZS HCK;generalize (Zbe M.pl (rd L k)).p.f0=kd at z2 HPIN HCK;generalize (Zbe M.pl (rd L k)).inner=inn at HPIN HINN HU6 HCK;generalize rd L k=q at *;by_cases e4:kd=4
      ·subst e4
       go_wp2_with ((with_reducible refine Zas (b:=.append) (xs:=#[.tmp 63,.tmp 66]) rfl ?_);at_builtin;refine appendP (w0:=w) w.heap.size rfl (.tmp 63) (.tmp 66) rfl v lk ((0:Int),q) _ rfl rfl ?hg ?hO ?hB ?hS ?hL ?_;(case hg=>simp);(case hO=>exact (HBOX.out _).bx.own);(case hB=>exact (HBOX.out _).bx.bel);(case hS=>exact (HBOX.out _).bx.bel.size);(case hL=>(have:=HLEN.out;omega));intro v7 w7 ho7 hb7 hg7 hat7;obtain⟨A7,c7,hv7,_⟩:=ho7.slice;rw[List.length_append,List.length_singleton]at hv7;subst hv7;have hf7:=(HBOX.out _).bx.frozen hg7;have hc7:=(HBOX.out _).bx.cell7 hg7;have HO7:=Zaa.mk ho7;have HB7:=Zaa.mk hb7;have HG7:=Zaa.mk hg7;clear ho7 hb7 hg7 hat7)
       go_roundw
       case rel=>exact⟨k+1,_,by omega,by go_num,⟨by rw[HCS2.out,HCK.out,if_pos rfl];exact (HBOX.out _).put HO7.out HB7.out HG7.out⟩,⟨((HBOX.out _).put HO7.out HB7.out HG7.out).bx.bel⟩⟩
       case measure=>simp[intOf];omega
      ·have n4:(kd==4)=false:=by simpa using e4
       by_cases e3:kd=3
       ·subst e3;obtain⟨ki,rfl⟩:=HPIN.out rfl;have hmi:=HINN.out ki rfl;obtain⟨B1,f1,B2,f2,hbi,_⟩:=(HV.out.shapes _ _ hmi).cells;have HBI:=Zaa.mk hbi;obtain rfl:=HU6.out;clear hmi hbi;have HN13:=Zaa.mk (fun W (h1:Below wr.heap.size wr W) (h2:Below w.heap.size w W)=>HN12.out W h2 D1 d1 nm (Kd.C_below HZF.out h1) HZL.out HZS.out);have HCK':=HCK.out;rw[if_neg (by omega)]at HCK';have HCK2:=Zaa.mk HCK';clear HCK' HCK;generalize Zdp G t nm=b at HN13 HCK2;cases b
        ·go_wp2_with (go_at_call 38;(with_reducible refine (HN13.out _ (Zae Zbr _) (HBOX.out _).bx.bel).mono ?_);rintro e w4 ⟨rfl,hd⟩;have HC4:=Zaa.mk ((HBOX.out _).below hd.below);have y12:w4.cell? ⟨wr.heap.size,6,none⟩=some (.pointer (some ⟨φ ki,0,none⟩)):=Zab hd.below (by go_simp);clear hd)
         go_roundw
         case rel=>exact⟨k+1,v,by omega,by go_num,⟨by rw[HCS2.out,HCK2.out,if_neg (by simp),List.append_nil];exact HC4.out⟩,⟨HC4.out.bx.bel⟩⟩
         case measure=>simp[intOf];omega
        ·go_upto_region 17 with (go_at_call 38;(with_reducible refine (HN13.out _ (Zae Zbr _) (HBOX.out _).bx.bel).mono ?_);rintro e w4 ⟨rfl,hd⟩;have HC4:=Zaa.mk ((HBOX.out _).below hd.below);have y12:w4.cell? ⟨wr.heap.size,6,none⟩=some (.pointer (some ⟨φ ki,0,none⟩)):=Zab hd.below (by go_simp);clear hd)
         have HCX:=Zaa.mk (HC4.out.below (Zah Zbr 1));have x7:w4.cell? ⟨w.heap.size+1+1,0,none⟩=some v:=(Zac HC4.out.bx.c7 0).trans rfl;have x0:w4.cell? ⟨φ ki,0,none⟩=some (.int .i64 (ki:Int)):=Zab HC4.out.bx.bel ((Zac HBI.out 0).trans rfl);have x7n:∀o,((w4.drewN 1).alloc o).cell? ⟨w.heap.size+1+1,0,none⟩=some v:=fun o=>(Zac (Zan HCX.out.bx.c7 o) 0).trans rfl
         clear y3a y5a y7a y3 hq0 z0 z1 z2 z3 z4 z5 z6 z7 z8 g2;refine Zdb ?_
         go_region_law (first | (refine Zkt (w0:=w) w.heap.size rfl (.tmp 81) (.tmp 89) rfl v lk (((ki:Nat):Int),q) _ rfl rfl ?hg ?hO ?hB ?hS (by have:=HLEN.out;omega) ?_;(case hg=>simp);(case hO=>exact HCX.out.bx.own);(case hB=>exact HCX.out.bx.bel);(case hS=>exact HCX.out.bx.bel.size);intro v7 w7 ho7 hb7 hg7 hat7;obtain⟨A7,c7,hv7,_⟩:=ho7.slice;rw[List.length_append,List.length_singleton]at hv7;subst hv7;have hf7:=HCX.out.bx.frozen hg7;have HO7:=Zaa.mk ho7;have HB7:=Zaa.mk hb7;have HG7:=Zaa.mk hg7;have hc7:=HCX.out.bx.cell7 hg7;clear ho7 hb7 hg7 hat7) | fail)
         all_goals (
          go_wp2
          go_roundw
          case rel=>exact⟨k+1,_,by omega,by go_num,⟨by rw[HCS2.out,HCK2.out,if_pos (by simp)];exact HCX.out.put HO7.out HB7.out HG7.out⟩,⟨(HCX.out.put HO7.out HB7.out HG7.out).bx.bel⟩⟩
          case measure=>simp[intOf];omega)
       ·have n3:(kd==3)=false:=by simpa using e3
        go_wp2
        go_roundw
        case rel=>exact⟨k+1,v,by omega,by go_num,⟨by rw[HCS2.out,HCK.out,if_neg e4,if_neg (by simp[e3]),List.append_nil];exact HBOX.out _⟩,⟨(HBOX.out _).bx.bel⟩⟩
        case measure=>simp[intOf];omega
     ·obtain rfl:k=L.length:=by omega
      have y91:wr.cell? ⟨w.heap.size+1+1+1,1,none⟩=some (.pointer u1):=(Zac HC.out.c9 1).trans (by rw[HCS.out];rfl);have y3:wr.cell? ⟨w.heap.size,0,none⟩=some (.pointer (some ⟨gb,0,none⟩)):=(Zac HC.out.bx.c3 0).trans rfl;have hlc:=Zhr G M t L L.length;have HLEN:Zaa ((l2++Zgv G M t L L.length).length≤200000):=⟨by rw[List.length_append];have:=HL2N.out;omega⟩
      have HRAW:Zaa (Zqv G M p t=(l2++Zgv G M t L L.length)++Ziy G M p t):=⟨by unfold Zqv;rw[HL2.out,HLL.out]⟩
      obtain⟨l3,hl3⟩:∃l3,l3=l2++Zgv G M t L L.length:=⟨_,rfl⟩
      rw[←hl3]at HC HLEN HRAW;clear hlc hl3;obtain⟨B,hB⟩:∃B:Bool,B=(match (Zbe M.pl p).shape with | none=>false | some k=>decide (0≤(Zec M.sh k).rule)&&Zom M p (some k)):=⟨_,rfl⟩
      have HEND:=Zaa.mk (fun (W:World) (hW:Below w.heap.size w W)=>Zpp W gb G M φ (HV.out.below hW) HOK.out p HP0.out HP1.out)
      go_upto_region 20 with (fail)
      go_cut [108] (fun s wx=>s=.bool B∧Zaa (Cx w wx w.heap.size (w.heap.size+1) (w.heap.size+1+1) (w.heap.size+1+1+1) gb t cs9 v l3))
      case first=>
       cases hsh:(Zbe M.pl p).shape with
       | none=>
        rw[hsh]at hB;have hu:=HU1.out;rw[hsh]at hu;obtain rfl:u1=none:=hu.symm;subst hB;go_wp2
        go_meet
        exact⟨rfl,HC⟩
       | some k0=>
        rw[hsh]at hB;have hu:=HU1.out;rw[hsh]at hu;obtain rfl:u1=some ⟨φ k0,0,none⟩:=hu.symm;have hm0:=HOK.out.shape p HP0.out HP1.out k0 hsh;obtain⟨B1,f1,B2,f2,hb0,_⟩:=(HV.out.shapes _ _ hm0).cells;have s4:wr.cell? ⟨φ k0,4,none⟩=some (.int .i64 (Zec M.sh k0).rule):=Zab HC.out.bx.bel ((Zac hb0 4).trans rfl);have he:=HEND.out wr HC.out.bx.bel (some k0) (fun k' hk'=>by cases hk';exact hm0);change Calls Tryz.prog 45 #[.pointer (some ⟨gb,0,none⟩),.int .i64 p,.pointer (some ⟨φ k0,0,none⟩)] wr _ at he;have HE:=Zaa.mk he;clear he;simp only at hB;generalize Zom M p (some k0)=eb at HE hB;generalize (Zec M.sh k0).rule=r at s4 hB;clear hb0 hm0;by_cases r0:0≤r
        ·have z:decide (0≤r)=true:=decide_eq_true r0;rw[z,Bool.true_and]at hB;subst hB;cases B
         all_goals
          go_wp2_with (go_at_call 45;(with_reducible refine HE.out.mono ?_);rintro e w5 ⟨rfl,hd⟩;have HC5:=Zaa.mk (HC.out.below hd.below);clear hd)
          go_meet
          exact⟨rfl,HC5⟩
        ·have z:decide (0≤r)=false:=decide_eq_false r0;rw[z,Bool.false_and]at hB;subst hB;go_wp2
         go_meet
         exact⟨rfl,HC⟩
      case rest=>
       clear HC y91 y3;obtain⟨rfl,HC⟩:=hcut;have HBB:=Zaa.mk hB;clear hB;have HD:Zaa (Ziy G M p t=if B=true then (match (Zbe M.pl p).shape with | none=>[] | some k=>Zhn G M t (Zec M.sh k).rule ((Zec M.sh k).step+1))else []):=⟨by
        rw[HBB.out];unfold Ziy;cases (Zbe M.pl p).shape with
        | none=>rfl
        | some k=>simp only[Bool.and_eq_true,decide_eq_true_eq]⟩
       go_upto_if 108 with (fail)
       go_cut [] (fun wx=>∃v,Zaa (Cx w wx w.heap.size (w.heap.size+1) (w.heap.size+1+1) (w.heap.size+1+1+1) gb t cs9 v (l3++Ziy G M p t)))
       case first=>
        cases B with
        | false=>
         go_wp2
         go_meet
         exact⟨v,⟨by rw[HD.out,if_neg (by simp),List.append_nil];exact HC.out⟩⟩
        | true=>
         cases hsh:(Zbe M.pl p).shape with
         | none=>
          have hB:=HBB.out;rw[hsh]at hB;simp at hB
         | some k0=>
          have hB:=HBB.out;have hd0:=HD.out;rw[hsh]at hB hd0;simp only[if_true]at hd0;have hr0:0≤(Zec M.sh k0).rule:=by
           have z:=hB.symm;simp only[Bool.and_eq_true,decide_eq_true_eq]at z;exact z.1
          have hu:=HU1.out;rw[hsh]at hu;obtain rfl:u1=some ⟨φ k0,0,none⟩:=hu.symm;have hm0:=HOK.out.shape p HP0.out HP1.out k0 hsh;obtain⟨B1,f1,B2,f2,hb0,_⟩:=(HV.out.shapes _ _ hm0).cells;obtain⟨o1,o2,o3⟩:=HOK.out.rules k0 _ hm0 hr0;rw[fit2.len]at o1;have s4:wc.cell? ⟨φ k0,4,none⟩=some (.int .i64 (Zec M.sh k0).rule):=Zab HC.out.bx.bel ((Zac hb0 4).trans rfl);have s5:wc.cell? ⟨φ k0,5,none⟩=some (.int .i64 (Zec M.sh k0).step):=Zab HC.out.bx.bel ((Zac hb0 5).trans rfl);have HD0:=Zaa.mk hd0;clear hd0 hB hu hb0 hm0;generalize (Zec M.sh k0).rule=r at *;generalize (Zec M.sh k0).step=st at *;have hw:IntKind.i64.wrap (st+1)=st+1:=by simp[IntKind.wrap,IntKind.bits,IntKind.signed];omega
          go_wp2_with fail
          refine Zdb ?_
          have HCD:=Zaa.mk (HC.out.below (Zah Zbr 1));refine Znv 10 (by kernel_rfl) (by kernel_rfl) ?_
          simp only[List.take_succ_cons,List.take_zero,List.drop_succ_cons,List.drop_zero]
          repeat still_step
          refine wpStill_nil ?_
          have HR0:=Zaa.mk hr0;have HO1:=Zaa.mk o1;have HST:Zaa (0≤st+1):=⟨by omega⟩
          go_wp2_with (go_at_call 44;(with_reducible refine (into_cx w (wc.drewN 1) w.heap.size (w.heap.size+1) (w.heap.size+1+1) (w.heap.size+1+1+1) gb t cs9 v l3 HCD.out G M φ HV.out HOK.out fit HT.out _ _ HR0.out HO1.out HST.out HLEN.out).mono ?_);rintro e w5 ⟨rfl,v5,hc5⟩;have HC5:=Zaa.mk hc5;clear hc5)
          go_meet
          exact⟨v5,⟨by rw[HD0.out];exact HC5.out⟩⟩
       case rest=>
        clear HC v;obtain⟨v,HC⟩:=hcut;rw[←HRAW.out]at HC;have hrl:(Zqv G M p t).length≤200001:=by
         rw[HRAW.out,List.length_append];have:=HLEN.out;have:=Zkr G M p t;omega
        have HRL:=Zaa.mk hrl;have y7:wc.cell? ⟨w.heap.size+1+1,0,none⟩=some v:=(Zac HC.out.bx.c7 0).trans rfl
        go_wp2_with (first
         | (go_at_call 46;(with_reducible refine (sortP_call w _ v (Zqv G M p t) HC.out.bx.bel HC.out.bx.own (by have:=HRL.out;omega)).mono ?_);rintro e w6 ⟨rfl,ho6,hb6,hk6⟩;have HO6:=Zaa.mk ho6;have HB6:=Zaa.mk hb6;have y76:w6.cell? ⟨w.heap.size+1+1,0,none⟩=some v:=(Zac (Zij HC.out.bx.c7 hk6 (fun hh=>Zcn HC.out.bx.own HC.out.bx.c7 (by decide) hh.symm)) 0).trans rfl;clear ho6 hb6 hk6)
         | (go_at_call 50;(with_reducible refine (Zpt w.heap.size _ v (sortP (Zqv G M p t)) HO6.out (sortP_neq HNOD.out) (by rw[Zfs];have:=HRL.out;omega)).mono ?_);rintro e w8 ⟨rfl,hd8⟩;have HO8:=Zaa.mk (HO6.out.below hd8.below);have HB8:=Zaa.mk (Zaf HB6.out hd8.below);clear hd8))
        go_ret
        exact⟨v,rfl,HO8.out,HB8.out⟩
theorem info90:(Tryz.prog.info? 90).map (fun i=>(i.zero,i.size,i.bytes))=some (some (.agg #[.int .i64 0,.pointer none,.int .i64 0,.slice none 0 0,.slice none 0 0,.slice none 0 0,.pointer none,.slice none 0 0,.int .i64 0]),9,136):=by kernel_rfl
section
variable {ops:Array Oper}{o:Oper}{a:Act}{Q:Exit→Act→World→Prop}
theorem addV_step {w0:W0}{W:World}{K:Act→World→Prop}{gb:Nat}{h0 h1 vs vf:Value}{φ:Nat→Nat}{v:Value}{pl:List Pl}{sh:List (Nat × Sh)}(hw:Region.wanted o (yielded ops a.tmps)=true)(s x:Operand)(ho:o.op=.call { callee:=.builtin .append,args:=#[s,x],argTypes:=#[83,83] })
 (h:VS w0 W gb h0 h1 vs vf φ v pl sh) (p:Pl) (cs:List Value) (hp:PlS φ w0 W p cs) (g:Nat)
 (hs:a.eval s=v) (hx:a.eval x=.slice (some ⟨g,0,none⟩) 1 1) (hg:g=W.heap.size) (hl:pl.length≤1000000)
 (hK:∀v1 w1,OwnRow (PlS φ w0 W) 90 9 w1 w0.heap.size v1 (pl++[p])→Below w0.heap.size w0 w1→W.grownBy w1 v.ownBlock→(v1.ownBlock=v.ownBlock∨∃b,v1.ownBlock=some b∧W.heap.size≤b)→K (a.put o.dst v1) w1) :
 if Region.wanted o (yielded ops a.tmps)=true then Oper.wp Tryz.prog o a (W.alloc (.cells cs.toArray 90)) K Q else K (a.put o.dst undef) (W.alloc (.cells cs.toArray 90)):=by
 subst hg;exact OwnRow.append_step (w0:=w0) w0.heap.size hw s x 83 90 _ 9 136 ho Tryz.underlying83 info90 rfl (by omega) (by omega) v pl p cs hs hx hp hp.len hp.one h.row h.bel h.bel.size (by omega) hK
end
def PlV (φ:Nat→Nat)(w0:W0)(W:World)(x:Pl)(v:Value):Prop:=∃cs,v=.agg cs.toArray∧PlS φ w0 W x cs
theorem VS.cell2 {w0:W0}{W:World}{gb:Nat}{h0 h1 vs vf:Value}{φ:Nat→Nat}{v:Value}{pl:List Pl}{sh:List (Nat × Sh)}(h:VS w0 W gb h0 h1 vs vf φ v pl sh):W.cell? ⟨gb,2,none⟩=some v:=(Zac h.blk 2).trans rfl
theorem VS.grown2 {w0:W0}{W W1:World}{gb:Nat}{h0 h1 vs vf:Value}{φ:Nat→Nat}{v:Value}{pl:List Pl}{sh:List (Nat × Sh)}(h:VS w0 W gb h0 h1 vs vf φ v pl sh)(hg:W.grownBy W1 v.ownBlock):W1.frozen? ⟨gb,2,none⟩=false∧W1.cell? ⟨gb,2,none⟩=some v:=by
 obtain⟨inner,ho,_⟩:=h.row;have k:=Zby h.blk hg (Zcn ho h.blk (by decide));exact⟨Zat k 2,(Zac k 2).trans rfl⟩
set_option maxHeartbeats 4000000 in
theorem Zil (w0:W0)(W:World)(gb:Nat)(h0 h1 vs vf:Value)(φ:Nat→Nat)(v:Value)(pl:List Pl)(sh:List (Nat × Sh))(h:VS w0 W gb h0 h1 vs vf φ v pl sh)(x:Pl)(vx:Value)(hx:PlV φ w0 W x vx)(hl:pl.length≤100000) :
 Calls Tryz.prog 32 #[.pointer (some ⟨gb,0,none⟩),vx] W fun e w'=>e=.returned (.int .i64 (pl.length:Int))∧∃v',VS w0 w' gb h0 h1 vs vf φ v' (pl++[x]) sh∧KeptV W w' gb v∧NewOr W v v':=by
 obtain⟨cs,rfl,hx0⟩:=hx;have HP:=Zaa.mk hx0;obtain⟨A1,c1,A2,c2,A3,c3,v4,rfl,l1,g1,l2,g2,l3,g3,g4⟩:=hx0;obtain⟨A4,c4,rfl,l4,_⟩:=g4.C;obtain⟨A,c,hv,lc⟩:=h.row.slice_;have HH:=Zaa.mk h;have q2:=h.cell2;rw[Zlw,Zlw]at HP ⊢;generalize (x.shape.map fun b=>(⟨φ b,0,none⟩:Addr))=o1 at HP ⊢;generalize (x.inner.map fun b=>(⟨φ b,0,none⟩:Addr))=o2 at HP ⊢;have HL:=Zaa.mk hl;clear h g1 g2 g3 g4 l1 l2 l3 hl
 go_enter Tryz.func32,Tryz.ntmps32
 go_wp2_with fail
 have HBX:=Zaa.mk (HH.out.below (Zae (Below.refl _ W) (.cells #[.int .i64 x.kind,.pointer o1,.int .i64 x.p.f0,.slice A1 x.p.f1.length c1,.slice A2 x.p.f2.length c2,.slice A3 x.p.f3.length c3,.pointer o2,.slice A4 x.follow.length c4,.int .i64 x.rule] 90)));have hg:(W.alloc (.cells #[.int .i64 x.kind,.pointer o1,.int .i64 x.p.f0,.slice A1 x.p.f1.length c1,.slice A2 x.p.f2.length c2,.slice A3 x.p.f3.length c3,.pointer o2,.slice A4 x.follow.length c4,.int .i64 x.rule] 90)).heap[W.heap.size]?=some _:=Zaq W _;have HP2:=Zaa.mk (HP.out.same (Same3.below (Zae (Below.refl _ W) (.cells #[.int .i64 x.kind,.pointer o1,.int .i64 x.p.f0,.slice A1 x.p.f1.length c1,.slice A2 x.p.f2.length c2,.slice A3 x.p.f3.length c3,.pointer o2,.slice A4 x.follow.length c4,.int .i64 x.rule] 90))));have HK:=Zaa.mk (KeptV.of_below (Zae (Below.refl _ W) (.cells #[.int .i64 x.kind,.pointer o1,.int .i64 x.p.f0,.slice A1 x.p.f1.length c1,.slice A2 x.p.f2.length c2,.slice A3 x.p.f3.length c3,.pointer o2,.slice A4 x.follow.length c4,.int .i64 x.rule] 90)) gb v);generalize W.alloc (.cells #[.int .i64 x.kind,.pointer o1,.int .i64 x.p.f0,.slice A1 x.p.f1.length c1,.slice A2 x.p.f2.length c2,.slice A3 x.p.f3.length c3,.pointer o2,.slice A4 x.follow.length c4,.int .i64 x.rule] 90)=X at *;have r0:=(Zac hg 0).trans rfl;have r1:=(Zac hg 1).trans rfl;have r2:=(Zac hg 2).trans rfl;have r3:=(Zac hg 3).trans rfl;have r4:=(Zac hg 4).trans rfl;have r5:=(Zac hg 5).trans rfl;have r6:=(Zac hg 6).trans rfl;have r7:=(Zac hg 7).trans rfl;have r8:=(Zac hg 8).trans rfl;generalize W.heap.size=bg at *;have hq2:∀o,((X.drewN 1).alloc o).cell? ⟨gb,2,none⟩=some v:=fun o=>(Zac (Zan HBX.out.blk o) 2).trans rfl
 have hq3:=HBX.out.cell2;have HBY:=Zaa.mk (HBX.out.below (Zah (Below.refl _ X) 1));subst hv;clear hg;refine Zdb ?_
 go_region_law (first | (refine addV_step rfl (.tmp 9) (.tmp 11) rfl HBY.out x _ (HP2.out.same (Same3.below (Zah (Below.refl _ X) 1))) _ rfl rfl ?hg (by have:=HL.out;omega) ?_;(case hg=>simp);intro v7 w7 ho7 hb7 hg7 hat7;obtain⟨A7,c7,hv7,_⟩:=ho7.slice_;rw[List.length_append,List.length_singleton]at hv7;subst hv7;have ⟨hf7,hc7⟩:=HBY.out.grown2 hg7;have HO7:=Zaa.mk ho7;have HB7:=Zaa.mk hb7;have HG7:=Zaa.mk hg7;have HA7:=Zaa.mk hat7;clear ho7 hb7 hg7 hat7) | fail)
 all_goals (
  go_wp2
  go_ret)
 all_goals (
  have hput:=HBY.out.put HO7.out HB7.out HG7.out;have hl9:=HL.out;exact⟨by simp;unfold wrap64;omega,_,hput.1,HK.out.trans (v1:=.slice A pl.length c) hput.2 (NewOr.refl _ _),NewOr.trans (NewOr.refl W _) HA7.out HK.out.1⟩)
end Go.Proofs.YtpagbjdmiepgmaaGreatDoor.PVpa
