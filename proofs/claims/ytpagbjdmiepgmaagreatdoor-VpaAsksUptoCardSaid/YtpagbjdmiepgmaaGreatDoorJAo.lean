/- Joined from texts of this seat, in their order. -/
import Derived.Test.YtpagbjdmiepgmaaGreatDoorJAj
import Derived.Test.YtpagbjdmiepgmaaGreatDoorJAd
import Derived.Test.YtpagbjdmiepgmaaGreatDoorJAl
import Derived.Test.YtpagbjdmiepgmaaGreatDoorJAm
import Derived.Test.YtpagbjdmiepgmaaGreatDoorJAn
import Derived.Test.YtpagbjdmiepgmaaGreatDoorJAf
import Derived.Test.YtpagbjdmiepgmaaGreatDoorRows
import Derived.Test.YtpagbjdmiepgmaaGreatDoorJAc
import Derived.WalkKit
import Derived.ProofKit
import Derived.OpenShut
import Derived.Deep.Matrix
import Derived.Lib.LaidTab
set_option linter.unusedVariables false
set_option linter.unusedSimpArgs false
set_option linter.unusedSectionVars false
namespace Go.Proofs.YtpagbjdmiepgmaaGreatDoor.PVpa
open Go.RowKit Go.Proofs.YtpagbjdmiepgmaaGreatDoorW.PrintWords Go.Proofs.YtpagbjdmiepgmaaGreatDoorW.PrintLast Go.Proofs.YtpagbjdmiepgmaaGreatDoorW.PrintMore
theorem Mk.patK {a0 a1 a2:List ByteArray}:∀{D N:Nat} {p:S76},Mk a0 a1 a2 D N p→Zum D p
 | 0,_,_,_=>trivial
 | D+1,N,p,h=>by
  refine⟨?_,fun hk=>?_,fun hk=>?_,fun hk=>?_⟩
  ·rcases h with⟨h0,_⟩ | ⟨h0,_⟩ | ⟨h0,_⟩ | ⟨h0,_⟩ | ⟨h0,_⟩ <;> omega
  ·rcases h with⟨h0,_⟩ | ⟨h0,_⟩ | ⟨_,_,_,x,n,h3,h4,_⟩ | ⟨h0,_⟩ | ⟨h0,_⟩
   ·omega
   ·omega
   ·rw[h3];exact h4.patK
   ·omega
   ·omega
  ·rcases h with⟨h0,_⟩ | ⟨h0,_⟩ | ⟨h0,_⟩ | ⟨h0,_⟩ | ⟨_,_,_,x,y,n,m,h3,h4,h5,_⟩
   ·omega
   ·omega
   ·omega
   ·omega
   ·rw[h3];exact⟨h4.patK,h5.patK⟩
  ·rcases h with⟨h0,_⟩ | ⟨h0,_⟩ | ⟨h0,_⟩ | ⟨_,_,_,x,n,h3,h4,_⟩ | ⟨h0,_⟩
   ·omega
   ·omega
   ·omega
   ·rw[h3];exact h4.patK
   ·omega
theorem MakeOk.patK {n:Nat}{G:S26}(h:MakeOk n G):∀i k:Nat,i<G.f1.length→k<(Zbm G i).f2.length→Zum 9 (Zei (Zbm G i) k).f1:=fun i k hi hk=>by
 obtain⟨a1,a2,s1,s2,hr⟩:=h.rule i hi;obtain⟨D,N,hm,hD,_⟩:=(hr.steps k hk).pat;have h1:=(hm.mono hD).patK;rw[←Zgr]at h1;exact h1
theorem MakeOk.buildN9 {n:Nat}{G:S26}(h:MakeOk n G):PVpa.buildN 9 G G.f1.length≤90000:=by
 have h1:=h.buildN _ (Nat.le_refl _);have h2:=h.few;omega
structure TwoM (G:S26)(M:Mach)(φ:Nat→Nat)(its:List S94)(ss:List Int)(gv gr:Nat)(w:World):Prop where
 vr:VR w gv G M φ
 rr:RR w gr G its ss
 tw:Twin G M φ its
 items:ItsOk its
 fits:Fits G M
 fits2:Fits2 G M
 cq:CallQ G its (bgM M)
 st:ss=startL M
section
variable {G:S26}{M:Mach}{φ:Nat→Nat}{its:List S94}{ss:List Int}{gv gr:Nat}{w W:World}
theorem TwoM.below (h:TwoM G M φ its ss gv gr w)(hb:Below w.heap.size w W):TwoM G M φ its ss gv gr W:=⟨h.vr.below hb,h.rr.below hb,h.tw,h.items,h.fits,h.fits2,h.cq,h.st⟩
theorem Twin.callQ (h:Twin G M φ its)(hc:Zqc G):CallQ G its (bgM M):=by
 have hl:its.length=M.pl.length:=h.rel.len;have hrow:∀r:Int,0≤r→Zbm G ((r.toNat:Nat):Int)=Zbm G r:=fun r _=>by unfold Zbm;rw[Int.toNat_natCast]
 refine⟨fun q q0 q1 hk=>?_,fun q q0 q1 n0 n1 h5=>?_,fun r s r0 r1 s0 s1 q hb=>?_,fun r s r0 r1 s0 s1=>Nat.le_trans (hc.calls r s r0 r1 s0 s1) (by decide)⟩
 ·have q1:q<M.pl.length:=by omega
  have hi:=h.it q0 q1;rw[hi.kind]at hk;have hf:=h.frees q q0 q1 hk;rw[hi.free hk];have h1:=(h.one (Zbe M.pl q).rule.toNat (by omega)).1;rw[hrow _ hf.1]at h1;exact⟨hf.1,hf.2,h1⟩
 ·have q1:q<M.pl.length:=by omega
  rw[(h.it q0 q1).kind]at n0 n1
  rcases h.knd q q0 q1 with⟨h2,_⟩ | ⟨_,k,hsh⟩
  ·omega
  ·obtain⟨e5,e6,_⟩:=h.shape q0 q1 hsh;rw[e5]at h5 ⊢;rw[e6]
   rcases h.keys k _ (h.ok.shape q q0 q1 k hsh)with hr | ⟨i,j,hi,hri,hj,hsj,_⟩
   ·omega
   ·have:=(h.one i hi).2;omega
 ·have hb':Zng its ((r.toNat:Nat):Int) ((s.toNat:Nat):Int) q:=by rw[Int.toNat_of_nonneg r0,Int.toNat_of_nonneg s0];exact hb
  have h1:=begin_eq h (i:=r.toNat) (j:=s.toNat) (by omega) (by rw[hrow r r0];omega) hb';rw[Int.toNat_of_nonneg r0,Int.toNat_of_nonneg s0]at h1;exact h1
theorem Twin.kinds (h:Twin G M φ its):∀i:Int,0≤i→i<M.pl.length→0≤(Zbe M.pl i).kind∧(Zbe M.pl i).kind≤3:=fun i h0 h1=>by
 rcases h.knd i h0 h1 with⟨h2,_⟩ | ⟨h2,_⟩ <;> omega
theorem TwoM.len (h:TwoM G M φ its ss gv gr w):Calls Tryz.prog 10 #[.pointer (some ⟨gv,0,none⟩)] w fun e w'=>e=.returned (.int .i64 its.length)∧w'=w:=by
 have hl:its.length=M.pl.length:=h.tw.rel.len;rw[hl];exact len_call w gv G M φ h.vr
theorem TwoM.start (h:TwoM G M φ its ss gv gr w):Calls Tryz.prog 12 #[.pointer (some ⟨gv,0,none⟩)] w (Zea w ss):=by
 rw[h.st];exact Znz w gv G M φ h.vr h.tw.ok
theorem TwoM.rule (h:TwoM G M φ its ss gv gr w)(p:Int):Calls Tryz.prog 22 #[.pointer (some ⟨gv,0,none⟩),.int .i64 p] w fun e w'=>e=.returned (.int .i64 (Zhh M p))∧Below w.heap.size w w':=
 (Zlo w gv G M φ h.vr h.tw.ok p).mono (fun _ _ ⟨h1,h2⟩=>⟨h1,h2.below⟩)
theorem TwoM.rrule (h:TwoM G M φ its ss gv gr w)(p:Int):Calls Tryz.prog 23 #[.pointer (some ⟨gr,0,none⟩),.int .i64 p] w fun e w'=>e=.returned (.int .i64 (Zhh M p))∧Below w.heap.size w w':=by
 rw[←rule_eq h.tw p];exact (Zqr w gr G its ss h.rr h.tw.hrl (fun r=>Nat.le_trans (h.tw.hst r) (by decide)) p).mono (fun _ _ ⟨h1,h2⟩=>⟨h1,h2.below⟩)
theorem TwoM.int (h:TwoM G M φ its ss gv gr w)(p t:Int):Calls Tryz.prog 13 #[.pointer (some ⟨gv,0,none⟩),.int .i64 p,.int .i64 t] w (Zea w (Ztx G M p t)):=int_call w gv G M φ h.vr h.tw.ok p t
theorem TwoM.rint (h:TwoM G M φ its ss gv gr w)(p t:Int):Calls Tryz.prog 14 #[.pointer (some ⟨gr,0,none⟩),.int .i64 p,.int .i64 t] w (Zea w (Ztx G M p t)):=by
 rw[←int_eq h.tw.ok h.tw.rel h.tw.good h.tw.kinds p t];exact Zsx w gr G its ss h.rr h.items p t
theorem TwoM.call (h:TwoM G M φ its ss gv gr w)(p t:Int):Calls Tryz.prog 16 #[.pointer (some ⟨gv,0,none⟩),.int .i64 p,.int .i64 t] w (Znf w (Zix G M p t)):=
 (Zsb w gv G M φ h.vr h.tw.ok h.fits h.fits2 p t (Zqu h.tw p t)).mono (fun _ _ ⟨v,h1,h2,h3⟩=>⟨v,h1,R_of_ownP h2,h3⟩)
theorem TwoM.rcall (h:TwoM G M φ its ss gv gr w)(p t:Int):Calls Tryz.prog 17 #[.pointer (some ⟨gr,0,none⟩),.int .i64 p,.int .i64 t] w (Znf w (Zix G M p t)):=by
 rw[←call_eq h.tw p t];exact Zqt w gr G its ss h.rr h.items (bgM M) h.cq p t
theorem TwoM.ret (h:TwoM G M φ its ss gv gr w)(p s t:Int):Calls Tryz.prog 18 #[.pointer (some ⟨gv,0,none⟩),.int .i64 p,.int .i64 s,.int .i64 t] w (Zea w (Zqd G M p s t)):=ret_call w gv G M φ h.vr h.tw.ok p s t
theorem TwoM.rret (h:TwoM G M φ its ss gv gr w)(p s t:Int):Calls Tryz.prog 19 #[.pointer (some ⟨gr,0,none⟩),.int .i64 p,.int .i64 s,.int .i64 t] w (Zea w (Zqd G M p s t)):=by
 rw[←ret_eq h.tw p s t];exact Zsw w gr G its ss h.rr h.items (by rw[(h.tw.it (p:=0) (by omega) (by have:=h.tw.first.1;omega)).kind];exact h.tw.first.2) p s t
theorem TwoM.bottom (h:TwoM G M φ its ss gv gr w)(p t:Int):Calls Tryz.prog 20 #[.pointer (some ⟨gv,0,none⟩),.int .i64 p,.int .i64 t] w (Zea w (Zdu G M p t)):=Zmt w gv G M φ h.vr p t
theorem TwoM.rbottom (h:TwoM G M φ its ss gv gr w)(p t:Int):Calls Tryz.prog 21 #[.pointer (some ⟨gr,0,none⟩),.int .i64 p,.int .i64 t] w (Zea w (Zdu G M p t)):=by
 rw[←bottom_eq h.tw.rel p t];exact Znn w gr G its ss h.rr p t
theorem TwoM.intLen (h:TwoM G M φ its ss gv gr w)(p t:Int):(Ztx G M p t).length≤1000000:=by
 rw[←int_eq h.tw.ok h.tw.rel h.tw.good h.tw.kinds p t];unfold intR
 split
 ·rename_i hm
  split
  ·simp
  ·have hp:=Zld hm.1;have h1:=(h.items.nx p hp.1 hp.2).len;have h2:=h.items.len;have h3:=List.length_filter_le (okR G its t) (Zak its p).f2;omega
 ·simp
theorem TwoM.callLen (h:TwoM G M φ its ss gv gr w)(p t:Int):(Zix G M p t).length≤1000000:=by
 unfold Zix
 split
 ·rename_i hm
  obtain⟨p0,p1,_⟩:=Zgh hm;rw[Zfs];unfold Zqv;have h1:=Zhs M p;have h2:=Zks G M p t;have h3:=Zhr G M t (Zdo M p) (Zdo M p).length;have h4:=Zkr G M p t;have h5:=(Zhy h.tw.ok p0 p1).1;simp only[List.length_append];omega
 ·simp
theorem retLen (G:S26)(M:Mach)(p s t:Int):(Zqd G M p s t).length≤1000000:=by unfold Zqd;split <;> simp
theorem Zsf (G:S26)(M:Mach)(p t:Int):(Zdu G M p t).length≤1000000:=by unfold Zdu;split <;> simp
end
theorem two_of {N:Nat}{G:S26}(hm:MakeOk N G){φ:Nat→Nat}{w1 w2:World}{gv gr:Nat}{At Ar:Option Addr}{ct cr:Nat}{vs v:Value}{its:List S94}(hg:GramR w1 G At Ar ct cr)(hv:VR w1 gv G (Zaw 9 G G.f1.length).mach φ)(ok:(Zaw 9 G G.f1.length).mach.Ok φ)
 (hb:RB w1 w2 gr (.slice At G.f0.length ct) (.slice Ar G.f1.length cr) vs v (Zaw 9 G G.f1.length).st its (Zdi 9 G G.f1.length)):TwoM G (Zaw 9 G G.f1.length).mach φ its (Zdi 9 G G.f1.length) gv gr w2:=by
 have hbel:Below w1.heap.size w1 w2:=hb.mach.bel;have h1:∀i:Nat,i<G.f1.length→1≤(Zbm G i).f2.length∧(Zbm G i).f2.length≤1000:=fun i hi=>by
  have h1:=hm.gram.rules i hi;rw[←Zgr]at h1;exact⟨h1.one,Nat.le_trans h1.few (by decide)⟩
 have htw:Twin G (Zaw 9 G G.f1.length).mach φ its:=twin_of ok hb.rel hb.kb h1;have hfew:(Zaw 9 G G.f1.length).mach.pl.length≤90000:=by
  show (Zaw 9 G G.f1.length).st.pl.length≤90000;rw[(Zcy 9 G G.f1.length).2];exact hm.buildN9
 exact⟨hv.below hbel,hb.read hg.lt hg.toks hg.lr hg.rules,htw,items_ok ok hb.rel htw.good hfew,Zop 9 G hm.callsOk,Ziz 9 G,htw.callQ hm.callsOk,(starts_eq 9 G _ (fun i hi=>(h1 i hi).1)).symm⟩
end Go.Proofs.YtpagbjdmiepgmaaGreatDoor.PVpa
namespace Go.Proofs.YtpagbjdmiepgmaaGreatDoor.PVpa
open Go.ChangeShapes Go.WideShapes Go.ChangeAt Go.Deep Go.RowKit Go.Proofs.YtpagbjdmiepgmaaGreatDoorW.PrintWords Go.Proofs.YtpagbjdmiepgmaaGreatDoorW.PrintLast
theorem bk_one {H:Type}(d:DataW H):1≤Rows.uptoBulk d:=by
 cases d with
 | lit l=>cases l <;> simp[Rows.uptoBulk]
 | nil=>simp[Rows.uptoBulk]
 | ptr d=>simp[Rows.uptoBulk]
 | slice elems spare=>simp[Rows.uptoBulk]
 | agg parts=>simp[Rows.uptoBulk]
 | iface t d=>simp[Rows.uptoBulk]
 | map entries=>simp[Rows.uptoBulk]
 | held h=>simp[Rows.uptoBulk]
theorem bk_part {H:Type}{d:DataW H}{l:List (DataW H)}(h:d∈l):Rows.uptoBulk d≤Rows.uptoBulkAll l:=by
 induction l with
 | nil=>cases h
 | cons x r ih=>
  simp only[Rows.uptoBulkAll];cases List.mem_cons.1 h with
  | inl e=>subst e;omega
  | inr e=>have:=ih e;omega
theorem Zsg {H:Type}(l:List (DataW H)):l.length≤Rows.uptoBulkAll l:=by
 induction l with
 | nil=>simp[Rows.uptoBulkAll]
 | cons x r ih=>have:=bk_one x;simp only[Rows.uptoBulkAll,List.length_cons];omega
theorem bk_slice {H:Type}(elems spare:List (DataW H)):elems.length+spare.length+1≤Rows.uptoBulk (.slice elems spare):=by
 have h1:=Zsg elems;have h2:=Zsg spare;simp only[Rows.uptoBulk];omega
theorem bk_elem {H:Type}{elems spare:List (DataW H)}{d:DataW H}(h:d∈elems):Rows.uptoBulk d≤Rows.uptoBulk (.slice elems spare):=by
 have h1:=bk_part h;simp only[Rows.uptoBulk];omega
theorem bk_bound {H:Type}{l:List (DataW H)}(hk:Rows.uptoSmall H l=true):Rows.uptoBulkAll l≤1048576:=of_decide_eq_true hk
theorem Zpu {H:Type}{enc:TypeId × Value→H}{P:Program}{w:World}{base:Nat}{sp:Nat→Bool}{held:Bool}{fuel:Nat}{t e:TypeId}{n:Nat}{cs:List Value}{ss:List (List UInt8)}{p:List MemPlace}
 (ht:P.underlying t=some (.array n e)) (he:P.underlying e=some .string) (hce:P.cellsOf e=1) (hct:P.cellsOf t=n)
 (h:DataW.trod enc P w base sp held fuel t cs=some (.agg (ss.map fun s=>.lit (.string s)),p)):cs=ss.map fun s=>Value.string ⟨s.toArray⟩:=by
 cases fuel with
 | zero=>simp[DataW.trod]at h
 | succ fuel=>
  simp only[DataW.trod,ht,hce,hct,Nat.mul_one]at h
  split at h
  ·rename_i hl
   obtain⟨xs,hm,hx⟩:=Option.map_eq_some_iff.1 h;have hxs:xs.map (·.1)=ss.map fun s=>(DataW.lit (.string s):DataW H):=by
    have:=congrArg Prod.fst hx;simpa using this
   have hxl:xs.length=n:=by simpa using Lib.mapM_length hm
   have hzl:ss.length=n:=by
    have:=congrArg List.length hxs;simp at this;omega
   apply List.ext_getElem?;intro i;by_cases hi:i<n
   ·obtain⟨b,hb,hf⟩:=Lib.mapM_at hm i i (by simp[hi]);obtain⟨s,hc,rfl,_⟩:=DataW.trod_string he hf;have h1:cs[i]?=some (.string s):=by
     have:=congrArg (·[0]?) hc;simpa[List.getElem?_take,List.getElem?_drop]using this
    have h2:(xs.map (·.1))[i]?=some (DataW.lit (.string s.data.toList):DataW H):=by simp[hb]
    rw[hxs]at h2;simp only[List.getElem?_map,Option.map_eq_some_iff,DataW.lit.injEq,Lit.string.injEq]at h2;obtain⟨z',hz',rfl⟩:=h2;simp[h1,hz']
   ·rw[List.getElem?_eq_none (by omega),List.getElem?_eq_none (by simp;omega)]
  ·cases h
theorem gOwn : Tryz.prog.globalNamed "gobo/gram.own" = some 0 := by kernel_rfl
theorem gOwnType:(Tryz.prog.globals[0]?).map (·.type)=some 181:=by kernel_rfl
theorem cells181:Tryz.prog.cellsOf 181=6:=by kernel_rfl
theorem cells9:Tryz.prog.cellsOf 9=1:=by kernel_rfl
theorem own_laid {W : World}(h : laidMetH Tryz.prog [("gobo/gram.own", Rows.laid_gobo_gram_own)] W) : Own W := by
 have hm : laidMet Tryz.prog (("gobo/gram.own", Rows.laid_gobo_gram_own) :: []) W := h
 obtain⟨ps,⟨g',t',cs,fuel,p,q,hg',ht',hvar,hd,_,_⟩,_⟩:=hm;obtain rfl:=Option.some.inj (gOwn.symm.trans hg');obtain rfl:=Option.some.inj (gOwnType.symm.trans ht');have hcs:=Zpu (ss:=[[116,111,107],[114,117,108,101],[105,110,116],[99,97,108,108],[114,101,116],[102,114,101,101]]) Tryz.underlying181 Tryz.underlying9 cells9 cells181 hd;refine⟨rfl,by decide,fun _=>⟨⟨0,0,none⟩,rfl,fun j p hj=>⟨[.string p],rfl,rfl,fun i u hu=>?_⟩⟩⟩;have hi:i=0∧u=.string p:=by
  cases i with
  | zero=>simp at hu;exact⟨rfl,hu.symm⟩
  | succ i=>simp at hu
 obtain⟨rfl,rfl⟩:=hi;have hcell:=World.var?_cell gOwn hvar j
 have e:(Addr.add ⟨0,0,none⟩ (j*(Kd.string).sz+0))=⟨0,j,none⟩:=by
  show Addr.add ⟨0,0,none⟩ (j*1+0)=⟨0,j,none⟩
  rw[Nat.mul_one,Nat.add_zero];unfold Addr.add
  split
  ·rename_i h
   subst h
   rfl
  ·rw[Nat.zero_add]
 rw[e,hcell];have hcs':cs=(ownS.map Value.string).toArray:=by
  apply Array.ext';rw[hcs]
  rfl
 rw[hcs'];simp[hj]
theorem open_rows {H:Type}{enc:TypeId × Value→H}{W:World}{base fuel len cap:Nat}{held:Bool}{a:Option Addr}{x:DataW H × List MemPlace}
 (h:DataW.trod enc Tryz.prog W base (fun _=>true) held fuel 22 [.slice a len cap]=some x) :
 ∃l:List (List Int),len=l.length∧(Kd.slice 3 (Kd.int .i64)).C W a l.length l∧∀r∈l,r.length≤Rows.uptoBulk x.1:=by
 rcases open_int_rows Tryz.underlying22 Tryz.underlying35 Tryz.underlying3 (by kernel_rfl) (by kernel_rfl) h with⟨hcs,_⟩ | ⟨ad,len',cap',A,L,C,Z,hcs,_,hlc,hcm,hx,hr⟩
 ·simp only[List.cons.injEq,Value.slice.injEq,and_true]at hcs;obtain⟨rfl,rfl,rfl⟩:=hcs;exact⟨[],rfl,Kd.C_nil _ _,fun r hr=>by cases hr⟩
 ·simp only[List.cons.injEq,Value.slice.injEq,and_true]at hcs;obtain⟨rfl,rfl,rfl⟩:=hcs;have hll:((List.range len).map fun r=>(Z r).take (L r)).length=len:=by simp
  refine⟨(List.range len).map fun r=>(Z r).take (L r),hll.symm,⟨rfl,by rw[hll];unfold maxLen at hcm;omega,fun _=>⟨ad,rfl,fun j p hj=>?_⟩⟩,fun r hrm=>?_⟩
  ·have hjl:j<len:=by have:=(List.getElem?_eq_some_iff.1 hj).1;simpa using this
   have hp:p=(Z j).take (L j):=by
    simp[List.getElem?_map,List.getElem?_range hjl]at hj;exact hj.symm
   obtain⟨r1,r2,r3,r4,r5,r6,r7⟩:=hr j (by omega);have hpl:p.length=L j:=by rw[hp,List.length_take];omega
   refine⟨[.slice (A j) (L j) (C j)],rfl,⟨A j,C j,by rw[hpl],by rw[hpl];exact r2,rfl,by rw[hpl];unfold maxLen at r3;omega,fun hpos=>?_⟩,fun i u hu=>?_⟩
   ·cases hA:A j with
    | none=>have:=r6 hA;omega
    | some a'=>
     refine⟨a',rfl,fun i z hz=>⟨[.int .i64 z],rfl,rfl,fun m u hu=>?_⟩⟩;have hm:m=0∧u=.int .i64 z:=by
      cases m with
      | zero=>simp at hu;exact⟨rfl,hu.symm⟩
      | succ m=>simp at hu
     obtain⟨rfl,rfl⟩:=hm;have hil:i<L j:=by have:=(List.getElem?_eq_some_iff.1 hz).1;omega
     have e:i*(Kd.int IntKind.i64).sz+0=i:=by simp[Kd.int,Kd.scalar]
     rw[e,(r7 a' hA).2 i (by omega)];have hzz:(Z j)[i]?=some z:=by
      rw[hp,List.getElem?_take]at hz;simpa[hil]using hz
     rw[List.getD_eq_getElem?_getD,hzz]
     rfl
   ·have hm:i=0∧u=.slice (A j) (L j) (C j):=by
     cases i with
     | zero=>simp at hu;exact⟨rfl,hu.symm⟩
     | succ i=>simp at hu
    obtain⟨rfl,rfl⟩:=hm;have e:j*(Kd.slice 3 (Kd.int IntKind.i64)).sz+0=j:=by simp[Kd.slice]
    rw[e];exact r1
  ·obtain⟨j,hj,rfl⟩:=List.mem_map.1 hrm;have hjl:=List.mem_range.1 hj;obtain⟨r1,r2,r3,r4,r5,r6,r7⟩:=hr j (by omega);have hxe:x.1=(.slice ((List.range len).map fun r=>intRow .i64 (A r) (L r) (Z r)) ((List.range (cap-len)).map fun j=>intRow .i64 (A (len+j)) (L (len+j)) (Z (len+j)))):=by rw[hx]
   rw[hxe];refine Nat.le_trans ?_ (bk_elem (d:=intRow .i64 (A j) (L j) (Z j)) (List.mem_map.2 ⟨j,hj,rfl⟩))
   unfold intRow;cases hA:A j with
   | none=>have:=r6 hA;have h2:=bk_one (DataW.nil (H:=H));simp only[List.length_take];omega
   | some a'=>
    refine Nat.le_trans ?_ (bk_slice _ _)
    have:(lits (H:=H) IntKind.i64 ((Z j).take (L j))).length=((Z j).take (L j)).length:=by simp[lits]
    omega
end Go.Proofs.YtpagbjdmiepgmaaGreatDoor.PVpa
