/- Joined from texts of this seat, in their order. -/
import Derived.Below
import Derived.Deep.Draws
import Derived.Deep.AppendLies
import Derived.Maps.AppendAt
import Derived.OwnWalk
import Derived.Laws.BytesArg
import Derived.Laws.MakeOwn
import Derived.Laws.OwnMore
import Derived.Deep.OwnRows
import Derived.Tactics
import Derived.Lib.ConvBytes
import Derived.Laws.Slices
import Derived.WalkKit
import Derived.KernelRfl
import Derived.RowKit3
import Derived.Deep.LoopGhost
import Derived.Deep.QuietTactic
import Derived.BigQuiet
import Derived.WideLaws
import Derived.Deep.DeepCutAuto
import Derived.Deep.CutBlock
import Derived.Deep.RegionHeld3
import Derived.Laws.Rows
import Derived.Lib.AppendStr
import Derived.ArgAppend
import Derived.Laws.IdiomCopy
import Derived.RowKit
import Derived.OrdersHeld
import Derived.Laws.BitsLemmas
import Derived.Laws.StructEq
set_option linter.unusedVariables false
set_option linter.unusedSimpArgs false
set_option linter.unusedSectionVars false
set_option linter.unusedVariables false
set_option linter.unusedSimpArgs false
namespace Go.RowKit
theorem Zbr {B:Nat}{w:World}:Below B w w:=Below.refl B w
end Go.RowKit
namespace Go.Proofs.YtaokkliamoghbaaGreatDoorW.PrintWords
open Go.RowKit
structure Zrw (p:Prop):Prop where mk :: (out:p)
structure Drawn0 (w w':World):Prop where mk :: (out:∃n,w'=w.drewN n)
theorem Drawn0.refl (w:World):Drawn0 w w:=⟨⟨0,rfl⟩⟩
theorem Drawn0.step {w w':World}(h:Drawn0 w w')(n:Nat):Drawn0 w (w'.drewN n):=by
 obtain⟨m,rfl⟩:=h;exact⟨⟨m+n,World.drewN_drewN ..⟩⟩
theorem Drawn0.grown {w w':World}(h:Drawn0 w w'):Grown w w':=by
 obtain⟨n,rfl⟩:=h
 induction n with
 | zero=>exact Grown.refl _
 | succ n ih=>rw[←World.drew_drewN];exact Grown.drew ih
theorem Drawn0.below {w w':World}(h:Drawn0 w w'):Below w.heap.size w w':=by
 obtain⟨n,rfl⟩:=h
 induction n with
 | zero=>exact Zbr
 | succ n ih=>rw[←World.drew_drewN];exact ih.drew
def rd (xs:List Int)(i:Int):Int:=xs.getD i.toNat 0
def bt (s:ByteArray)(i:Int):Int:=if h:i.toNat<s.size then ((s[i.toNat]'h).toNat:Int)else 0
def Zoz (k:IntKind)(xs:List Int):List Value:=xs.map fun x=>.int k x
theorem Zab {w W:World}(h:Below w.heap.size w W)(o:Obj):Below w.heap.size w (W.alloc o):=h.alloc h.size o
theorem Zao {B:Nat}{w W:World}(h:Below B w W):Below B w W.drew:=⟨h.os,h.tape,h.output,h.size,h.block⟩
theorem Zag {B:Nat}{w W:World}(h:Below B w W)(n:Nat):Below B w (W.drewN n):=⟨h.os,h.tape,h.output,h.size,h.block⟩
theorem Zfb {B:Nat}{w w1 w2:World}(h:Below B w w1)(hB:B≤w1.heap.size)(k:Below w1.heap.size w1 w2):Below B w w2:=
 h.trans ⟨k.os,k.tape,k.output,k.size,fun i hi=>k.block i (Nat.lt_of_lt_of_le hi hB)⟩
theorem Zlr {w w1:World}(h:Below w.heap.size w w1)(row:Option Nat):w.grownBy w1 row:=⟨h.os,h.tape,h.output,h.size,fun i hi _=>h.block i hi⟩
theorem Zad {w w1:World}(h:Below w.heap.size w w1){a:Addr}{v:Value}(hc:w.cell? a=some v):w1.cell? a=some v:=(h.cell (World.block_lt_of_cell? w a hc)).trans hc
theorem Zif (g j:Nat):(⟨g,0,none⟩:Addr).add j=⟨g,j,none⟩:=by unfold Addr.add;split <;> simp_all
def ReadsInt (w:World)(k:IntKind)(A:Option Addr)(n:Nat)(xs:List Int):Prop:=
 xs.length=n∧n≤9223372036854775807∧(0<n→∃ad,A=some ad∧∀j,j<n→w.cell? (ad.add j)=some (.int k (xs.getD j 0)))
theorem ReadsInt.at_ {w:World}{k:IntKind}{A:Option Addr}{n:Nat}{xs:List Int}(h:ReadsInt w k A n xs)(i:Int)(h0:0≤i)(h1:i<n):∃ad,A=some ad∧w.cell? (ad.add i.toNat)=some (.int k (rd xs i)):=by
 obtain⟨ad,e,hc⟩:=h.2.2 (by omega);exact⟨ad,e,hc _ (by omega)⟩
theorem ReadsInt.below {w w1:World}{k:IntKind}{A:Option Addr}{n:Nat}{xs:List Int}(h:ReadsInt w k A n xs)(hb:Below w.heap.size w w1):ReadsInt w1 k A n xs:=
 ⟨h.1,h.2.1,fun hn=>by
  obtain⟨ad,e,hc⟩:=h.2.2 hn;exact⟨ad,e,fun j hj=>Zad hb (hc j hj)⟩⟩
theorem Zqx (W:World)(base:Nat)(e:TypeId)(size:Nat):W.ownsRow base e size (.slice none 0 0) 0 []:=⟨by simp,.inl ⟨rfl,rfl⟩⟩
theorem Zdo {w:World}{base:Nat}{e:TypeId}{size n:Nat}{v:Value}{xs:List Value}(h:w.ownsRow base e size v n xs)(k:Nat)(hk:v.ownBlock=some k):base≤k:=by
 rcases h.2 with⟨rfl,_⟩ | ⟨g,cap,cur,rfl,hb,_⟩
 ·simp[Value.ownBlock]at hk
 ·have:g=k:=by simpa[Value.ownBlock]using hk
  omega
theorem Zdb {w:World}{base:Nat}{e:TypeId}{size n:Nat}{v:Value}{xs:List Value}(h:w.ownsRow base e size v n xs)(k:Nat)(hk:v.ownBlock=some k):k<w.heap.size:=by
 rcases h.2 with⟨rfl,_⟩ | ⟨g,cap,cur,rfl,hb,hh,_⟩
 ·simp[Value.ownBlock]at hk
 ·have:g=k:=by simpa[Value.ownBlock]using hk
  subst this;exact (Array.getElem?_eq_some_iff.1 hh).1
theorem Zbx {w w1:World}{base:Nat}{e:TypeId}{size n:Nat}{v:Value}{xs:List Value}(h:w.ownsRow base e size v n xs)(hb:Below w.heap.size w w1):w1.ownsRow base e size v n xs:=
 h.kept (Zlr hb none) (by cases v.ownBlock <;> simp)
theorem own_other {w w1:World}{base:Nat}{e:TypeId}{size n:Nat}{v:Value}{xs:List Value}(h:w.ownsRow base e size v n xs){row:Option Nat}(hg:w.grownBy w1 row)(hne:v.ownBlock=none∨v.ownBlock≠row):w1.ownsRow base e size v n xs:=h.kept hg hne
theorem Zox {w:World}{base n:Nat}{e:TypeId}{size:Nat}{v:Value}{xs:List Value}(h:w.ownsRow base e size v n xs):∃A c,v=.slice A n c:=by
 rcases h.2 with⟨rfl,rfl⟩ | ⟨g,cap,cur,rfl,_⟩
 ·exact⟨none,0,rfl⟩
 ·exact⟨_,cap,rfl⟩
section
variable {P:Program}{ops:Array Oper}{rest:List Oper}{o:Oper}{a:Act}{Q:Exit→Act→World→Prop}
theorem Zos {w0 W:World}(base:Nat)(hgd:o.guard=none)(s x:Operand)(t e:TypeId)(z:Value)(bytes:Nat)
 (ho:o.op=.call { callee:=.builtin .append,args:=#[s,x],argTypes:=#[t,t] })
 (ht:P.underlying t=some (.slice e)) (hinfo:(P.info? e).map (fun i=>(i.zero,i.size,i.bytes))=some (some z,1,bytes)) (hz:z.cells.size=1) (hb0:0<bytes)
 (v:Value) (xs:List Value) (y:Value) (hs:a.eval s=v) (hx:a.eval x=.slice (some ⟨W.heap.size,0,none⟩) 1 1) (h1:y.oneCell'=true)
 (HO:W.ownsRow base e 1 v xs.length xs) (HB:Below base w0 W) (hbase:base≤W.heap.size) (hl:(xs.length+1)*bytes≤140737488355328)
 (h:∀v1 w1,w1.ownsRow base e 1 v1 (xs++[y]).length (xs++[y])→Below base w0 w1→W.grownBy w1 v.ownBlock→(v1.ownBlock=v.ownBlock∨∃b,v1.ownBlock=some b∧W.heap.size≤b)→wpList P ops Q rest (a.put o.dst v1) w1) :
 wpList P ops Q (o :: rest) a (W.alloc (.cells #[y] e)):=by
 obtain⟨i0,hi,hzz⟩:=Option.map_eq_some_iff.1 hinfo;simp only[Prod.mk.injEq]at hzz;obtain⟨hz0,hz1,hz2⟩:=hzz;have hlen:xs.length+1≤140737488355328:=Nat.le_trans (Nat.le_mul_of_pos_right _ hb0) hl;refine wpList_append_own_at (W.alloc (.cells #[y] e)) hgd s x t ho base e i0 z 1 bytes ht hi hz0 hz1 hz2 hz (by omega) v xs.length xs hs (HO.alloc _) ⟨W.heap.size,0,none⟩ 1 1 [y] hx rfl
  (World.news_of_block (cs:=#[y]) (t:=e) (fr:=(0,0)) (heap_alloc_new W _)) (by simpa using h1) (by simp only[maxLen];omega) hl (by simp;omega) ?_
 intro v1 w1 hown hg _ hat;refine h v1 w1 (by simpa using hown) ((HB.alloc hbase _).grown hg (by simp;omega) (Zdo HO)) (World.grownBy.trans (World.grownBy_alloc W _ _) hg) ?_
 rcases hat with hat | hat
 ·exact .inl hat
 ·exact .inr ⟨_,hat,by simp⟩
end
section
variable {P:Program}
theorem print_make (t e:TypeId)(k:IntKind)(bytes:Nat)(ht:P.underlying t=some (.slice e))(hinfo:(P.info? e).map (fun i=>(i.zero,i.size,i.bytes))=some (some (.int k 0),1,bytes))(hb0:0<bytes)
 (m:Nat) (hn:m*bytes≤281474976710656) :
 ∀W:World,(Instr.makeSlice t (.int .i64 (m:Int)) (.int .i64 (m:Int))).run P W=.ok (.slice (some ⟨W.heap.size,0,none⟩) m m) (W.alloc (.cells (madeCells #[.int k 0] m) e)):=by
 intro W;have hm:m≤281474976710656:=Nat.le_trans (Nat.le_mul_of_pos_right _ hb0) hn;exact run_make_row' t e (.int k 0) bytes ht hinfo rfl .i64 .i64 m (by rw[Nat.mul_comm];exact hn) (by omega) W
end
theorem own_made (W:World)(base:Nat)(e:TypeId)(k:IntKind)(m:Nat)(hb:base≤W.heap.size)(hm:m≤9223372036854775807) :
 (W.alloc (.cells (madeCells #[.int k 0] m) e)).ownsRow base e 1 (.slice (some ⟨W.heap.size,0,none⟩) m m) m (Zoz k (List.replicate m 0)):=by
 have h:=World.ownsRow_lit (base:=base) (e:=e) (size:=1) W (madeCells #[.int k 0] m) m hb (by simpa[maxLen]using hm) (by simp[size_madeCells]);have hl:(madeCells #[Value.int k 0] m).toList=Zoz k (List.replicate m 0):=by
  apply List.ext_getElem
  ·simp[Zoz,madeCells]
  ·intro i h1 h2;simp[Zoz,madeCells,Nat.mod_one]
 rwa[hl]at h
theorem own_lit (W:World)(base:Nat)(e:TypeId)(k:IntKind)(xs:List Int)(hb:base≤W.heap.size)(hm:xs.length≤9223372036854775807) :
 (W.alloc (.cells (Zoz k xs).toArray e)).ownsRow base e 1 (.slice (some ⟨W.heap.size,0,none⟩) xs.length xs.length) xs.length (Zoz k xs):=by
 have h:=World.ownsRow_lit (base:=base) (e:=e) (size:=1) W (Zoz k xs).toArray xs.length hb (by simpa[maxLen]using hm) (by simp[Zoz]);simpa using h
theorem own_at {W:World}{base g n cap:Nat}{e:TypeId}{k:IntKind}{xs:List Int}(h:W.ownsRow base e 1 (.slice (some ⟨g,0,none⟩) n cap) n (Zoz k xs))(i:Int)(h0:0≤i)(h1:i<n) :
 W.cell? ⟨g,i.toNat,none⟩=some (.int k (rd xs i))∧W.frozen? ⟨g,i.toNat,none⟩=false:=by
 have hl:xs.length=n:=by have:=h.1;simp[Zoz]at this;exact this
 constructor
 ·have hc:=h.cells (g:=g) rfl i.toNat (.int k (rd xs i)) (by simp[Zoz,rd,List.getElem?_eq_getElem (show i.toNat<xs.length by omega),List.getD_eq_getElem?_getD]);rwa[Zif]at hc
 ·rcases h.2 with⟨h',_⟩ | ⟨g',cap',cur,h',_,hh,_⟩
  ·cases h'
  ·have:g=g':=by injection h' with h';injection h' with h';injection h' with h'
   subst this;simp[World.frozen?,hh]
theorem own_store {W:World}{base g n cap:Nat}{e:TypeId}{k:IntKind}{xs:List Int}(h:W.ownsRow base e 1 (.slice (some ⟨g,0,none⟩) n cap) n (Zoz k xs))(i x:Int) :
 (W.setCell ⟨g,i.toNat,none⟩ (.int k x)).ownsRow base e 1 (.slice (some ⟨g,0,none⟩) n cap) n (Zoz k (xs.set i.toNat x))∧W.grownBy (W.setCell ⟨g,i.toNat,none⟩ (.int k x)) (some g):=by
 have hs:=h.stored i.toNat (.int k x);have he:(Zoz k xs).set i.toNat (.int k x)=Zoz k (xs.set i.toNat x):=by simp[Zoz,List.map_set]
 rwa[he]at hs
def LeO {α:Type}(a b:Option α):Prop:=∀r,a=some r→b=some r
theorem LeO.refl {α:Type}(a:Option α):LeO a a:=fun _ h=>h
theorem LeO.none {α:Type}(b:Option α):LeO Option.none b:=fun _ h=>by cases h
theorem LeO.trans {α:Type}{a b c:Option α}(h:LeO a b)(k:LeO b c):LeO a c:=fun r hr=>k r (h r hr)
theorem LeO.ite {α:Type}{c:Prop} [Decidable c] {a a' b b':Option α}(h:LeO a a')(k:LeO b b'):LeO (if c then a else b) (if c then a' else b'):=by
 split
 ·exact h
 ·exact k
theorem LeO.bind {α β:Type}{a a':Option α}{f f':α→Option β}(h:LeO a a')(k:∀x,LeO (f x) (f' x)):LeO (a.bind f) (a'.bind f'):=by
 intro r hr;obtain⟨x,hx,hf⟩:=Option.bind_eq_some_iff.1 hr;exact Option.bind_eq_some_iff.2 ⟨x,h x hx,k x r hf⟩
theorem LeO.map {α β:Type}{a a':Option α}(f:α→β)(h:LeO a a'):LeO (a.map f) (a'.map f):=by
 intro r hr;obtain⟨x,hx,hf⟩:=Option.map_eq_some_iff.1 hr;exact Option.map_eq_some_iff.2 ⟨x,h x hx,hf⟩
theorem Zko {α:Type}{g:Nat→Option α}(h:∀k,LeO (g k) (g (k+1)))(k:Nat):∀j,LeO (g k) (g (k+j))
 | 0=>LeO.refl _
 | j+1=>(Zko h k j).trans (h (k+j))
theorem at_rounds {α:Type}{g:Nat→Option α}(h:∀k,LeO (g k) (g (k+1))){k k':Nat}(hk:k≤k'){r:α}(hr:g k=some r):g k'=some r:=by
 have:=Zko h k (k'-k) r hr;rwa[Nat.add_sub_cancel' hk]at this
def Reps {α:Type}(R:α→List Value→Prop)(size:Nat)(ps:List α)(cs:List Value):Prop:=
 cs.length=ps.length*size∧∀j p,ps[j]?=some p→R p ((cs.drop (j*size)).take size)
theorem Reps.none {α:Type}(R:α→List Value→Prop)(size:Nat):Reps R size [] []:=⟨by simp,fun j p h=>by simp at h⟩
theorem Reps.snoc {α:Type}{R:α→List Value→Prop}{size:Nat}{ps:List α}{cs c:List Value}{p:α}(h:Reps R size ps cs)(hp:R p c)(hc:c.length=size):Reps R size (ps++[p]) (cs++c):=by
 refine⟨by rw[List.length_append,h.1,hc,List.length_append,List.length_singleton,Nat.add_mul,Nat.one_mul],fun j q hq=>?_⟩
 rcases Nat.lt_or_ge j ps.length with hj | hj
 ·rw[List.getElem?_append_left hj]at hq;have h1:j*size+size≤cs.length:=by rw[h.1,←Nat.succ_mul];exact Nat.mul_le_mul_right _ hj
  have h2:=h.2 j q hq;rw[List.drop_append_of_le_length (by omega),List.take_append_of_le_length (by rw[List.length_drop];omega)];exact h2
 ·have hj':j=ps.length:=by
   have:=(List.getElem?_eq_some_iff.1 hq).1;rw[List.length_append,List.length_singleton]at this;omega
  subst hj';have hq':p=q:=by simpa using hq
  subst hq';rw[←h.1,List.drop_left,←hc,List.take_length];exact hp
theorem Reps.imp_ {α:Type}{R R':α→List Value→Prop}{size:Nat}{ps:List α}{cs:List Value}(h:Reps R size ps cs)(hR:∀p c,R p c→R' p c):Reps R' size ps cs:=⟨h.1,fun j p hj=>hR _ _ (h.2 j p hj)⟩
def ReadsRow {α:Type}(R:α→List Value→Prop)(size:Nat)(w:World)(A:Option Addr)(n:Nat)(ps:List α):Prop:=
 ps.length=n∧n≤9223372036854775807∧(0<n→∃ad,A=some ad∧∀j p,ps[j]?=some p→∃c,c.length=size∧R p c∧∀i u,c[i]?=some u→w.cell? (ad.add (j*size+i))=some u)
theorem ReadsRow.get_ {α:Type}{R:α→List Value→Prop}{size:Nat}{w:World}{A:Option Addr}{n:Nat}{ps:List α}(h:ReadsRow R size w A n ps)(d:α)(i:Int)(h0:0≤i)(h1:i<n) :
 ∃ad c,A=some ad∧c.length=size∧R (ps.getD i.toNat d) c∧∀j u,c[j]?=some u→w.cell? (ad.add (i.toNat*size+j))=some u:=by
 obtain⟨ad,e,hc⟩:=h.2.2 (by omega);have hl:i.toNat<ps.length:=by have:=h.1;omega
 obtain⟨c,hs,hr,hcell⟩:=hc i.toNat _ (List.getElem?_eq_getElem hl);refine⟨ad,c,e,hs,?_,hcell⟩;rw[List.getD_eq_getElem?_getD,List.getElem?_eq_getElem hl];exact hr
theorem ReadsRow.imp_ {α:Type}{R R':α→List Value→Prop}{size:Nat}{w w1:World}{A:Option Addr}{n:Nat}{ps:List α}(h:ReadsRow R size w A n ps)(hb:Below w.heap.size w w1)(hR:∀p c,R p c→R' p c):ReadsRow R' size w1 A n ps:=
 ⟨h.1,h.2.1,fun hn=>by
  obtain⟨ad,e,hc⟩:=h.2.2 hn;refine⟨ad,e,fun j p hj=>?_⟩;obtain⟨c,hs,hr,hcell⟩:=hc j p hj;exact⟨c,hs,hR _ _ hr,fun i u hu=>Zad hb (hcell i u hu)⟩⟩
theorem Znh {α:Type}{R:α→List Value→Prop}{w:World}{base n size:Nat}{e:TypeId}{v:Value}{ps:List α}{cs:List Value}(h:w.ownsRow base e size v n cs)(hR:Reps R size ps cs)(hn:ps.length=n) :
 ∃A c,v=.slice A n c∧ReadsRow R size w A n ps:=by
 rcases Nat.eq_zero_or_pos n with h0 | h0
 ·rcases h.2 with⟨rfl,rfl⟩ | ⟨g,cap,cur,rfl,_⟩
  ·exact⟨none,0,rfl,hn,by omega,fun hp=>absurd hp (by omega)⟩
  ·exact⟨_,cap,rfl,hn,by omega,fun hp=>absurd hp (by omega)⟩
 ·obtain⟨g,cap,rfl,_,_⟩:=h.form h0;have hm:n≤9223372036854775807:=by
   rcases h.2 with⟨_,h1⟩ | ⟨g',cap',cur,he,_,_,h1,h2,_⟩
   ·omega
   ·simp only[maxLen]at h2;omega
  refine⟨_,cap,rfl,hn,hm,fun _=>⟨_,rfl,fun j p hj=>⟨(cs.drop (j*size)).take size,?_,hR.2 j p hj,fun i u hu=>?_⟩⟩⟩
  ·have hjl:=(List.getElem?_eq_some_iff.1 hj).1;have h1:j*size+size≤cs.length:=by rw[hR.1,←Nat.succ_mul];exact Nat.mul_le_mul_right _ hjl
   rw[List.length_take,List.length_drop];omega
  ·refine h.cells (g:=g) rfl _ u ?_
   rw[List.getElem?_take]at hu
   split at hu
   ·rw[List.getElem?_drop]at hu;exact hu
   ·cases hu
theorem Zaz (ad:Addr)(m j:Nat)(hj:0<j):ad.add (m+j)=⟨(ad.add m).block,(ad.add m).off+j,none⟩:=by
 unfold Addr.add;by_cases hm:m=0
 ·subst hm;simp[Nat.ne_of_gt hj]
 ·simp[hm,Nat.add_assoc]
section
variable {P:Program}{ops:Array Oper}{rest:List Oper}{o:Oper}{a:Act}{Q:Exit→Act→World→Prop}
theorem Zcm {w0 W:World}(base:Nat)(hgd:o.guard=none)(s x:Operand)(t e:TypeId)(z:Value)(size bytes:Nat)
 (ho:o.op=.call { callee:=.builtin .append,args:=#[s,x],argTypes:=#[t,t] })
 (ht:P.underlying t=some (.slice e)) (hinfo:(P.info? e).map (fun i=>(i.zero,i.size,i.bytes))=some (some z,size,bytes)) (hz:z.cells.size=size) (hs0:0<size) (hb0:0<bytes)
 (v:Value) (n:Nat) (xs ys:List Value) (hs:a.eval s=v) (hx:a.eval x=.slice (some ⟨W.heap.size,0,none⟩) 1 1) (hys:ys.length=size) (h1:∀u∈ys,u.oneCell'=true)
 (HO:W.ownsRow base e size v n xs) (HB:Below base w0 W) (hbase:base≤W.heap.size) (hl:(n+1)*bytes≤140737488355328)
 (h:∀v1 w1,w1.ownsRow base e size v1 (n+1) (xs++ys)→Below base w0 w1→W.grownBy w1 v.ownBlock→(v1.ownBlock=v.ownBlock∨∃b,v1.ownBlock=some b∧W.heap.size≤b)→wpList P ops Q rest (a.put o.dst v1) w1) :
 wpList P ops Q (o :: rest) a (W.alloc (.cells ys.toArray e)):=by
 obtain⟨i0,hi,hzz⟩:=Option.map_eq_some_iff.1 hinfo;simp only[Prod.mk.injEq]at hzz;obtain⟨hz0,hz1,hz2⟩:=hzz;have hlen:n+1≤140737488355328:=Nat.le_trans (Nat.le_mul_of_pos_right _ hb0) hl;refine wpList_append_own_at (W.alloc (.cells ys.toArray e)) hgd s x t ho base e i0 z size bytes ht hi hz0 hz1 hz2 hz hs0 v n xs hs (HO.alloc _) ⟨W.heap.size,0,none⟩ 1 1 ys hx (by rw[hys];simp)
  (by simpa using World.news_of_block (cs:=ys.toArray) (t:=e) (fr:=(0,0)) (heap_alloc_new W (.cells ys.toArray e))) h1 (by simp only[maxLen];omega) hl (by simp;omega) ?_
 intro v1 w1 hown hg _ hat;refine h v1 w1 hown ((HB.alloc hbase _).grown hg (by simp;omega) (Zdo HO)) (World.grownBy.trans (World.grownBy_alloc W _ _) hg) ?_
 rcases hat with hat | hat
 ·exact .inl hat
 ·exact .inr ⟨_,hat,by simp⟩
end
theorem Zch {w:World}{base:Nat}{e t:TypeId}{size n g:Nat}{v:Value}{xs:List Value}{cs:Array Value}(h:w.ownsRow base e size v n xs)(hg:w.heap[g]?=some (.cells cs t (0,0)))(hne:e≠t):some g≠v.ownBlock:=by
 rcases h.2 with⟨rfl,_⟩ | ⟨g',cap,cur,rfl,_,hh,_⟩
 ·simp[Value.ownBlock]
 ·intro he;have:g=g':=by simpa[Value.ownBlock]using he
  subst this;rw[hg]at hh;injection hh with hh
  injection hh with _ ht
  exact hne ht.symm
theorem Zgx {w:World}{base:Nat}{e:TypeId}{size n:Nat}{v:Value}{xs:List Value}(h:w.ownsRow base e size v n xs){p:Addr}(hne:some p.block≠v.ownBlock)(u:Value):(w.setCell p u).ownsRow base e size v n xs:=by
 obtain⟨h1,h2⟩:=h;refine⟨h1,?_⟩
 rcases h2 with h2 | ⟨g,cap,cur,rfl,hg,hh,r⟩
 ·exact .inl h2
 ·exact .inr ⟨g,cap,cur,rfl,hg,by rw[Below.heap_setCell _ _ _ _ (fun e=>hne (by rw[e];rfl))];exact hh,r⟩
theorem Zcd {w:World}{g:Nat}{t:TypeId}{cs:Array Value}(h:w.heap[g]?=some (.cells cs t (0,0)))(i:Nat)(u:Value):(w.setCell ⟨g,i,none⟩ u).heap[g]?=some (.cells (cs.setIfInBounds i u) t (0,0)):=by
 simp[World.setCell,Array.getElem?_modify,h]
theorem Zdw {w:World}{g:Nat}{t:TypeId}{cs:Array Value}(h:w.heap[g]?=some (.cells cs t (0,0))){p:Addr}(hp:g≠p.block)(u:Value):(w.setCell p u).heap[g]?=some (.cells cs t (0,0)):=(Below.heap_setCell w p u g hp).trans h
theorem Zau {w:World}{g:Nat}{o:Obj}(h:w.heap[g]?=some o):g<w.heap.size:=(Array.getElem?_eq_some_iff.1 h).1
theorem Zaa {w:World}{g:Nat}{t:TypeId}{cs:Array Value}(h:w.heap[g]?=some (.cells cs t (0,0)))(i:Nat):w.cell? ⟨g,i,none⟩=cs[i]?:=cell_of_row w g i cs t (0,0) h
theorem Zam {w:World}{g:Nat}{t:TypeId}{cs:Array Value}(h:w.heap[g]?=some (.cells cs t (0,0)))(i:Nat):w.frozen? ⟨g,i,none⟩=false:=by simp[World.frozen?,h]
theorem Zat {w w1:World}{g:Nat}{o:Obj}{row:Option Nat}(h:w.heap[g]?=some o)(hg:w.grownBy w1 row)(hne:some g≠row):w1.heap[g]?=some o:=(hg.block g (Zau h) hne).trans h
theorem blk_ne {w:World}{g g':Nat}{t t':TypeId}{cs cs':Array Value}(h:w.heap[g]?=some (.cells cs t (0,0)))(h':w.heap[g']?=some (.cells cs' t' (0,0)))(hne:t≠t'):g≠g':=by
 rintro rfl;rw[h]at h';injection h' with h'
 injection h' with _ ht
 exact hne ht
def KeepBut (w w':World)(g:Nat)(row:Option Nat):Prop:=w.heap.size≤w'.heap.size∧∀i,i<w.heap.size→i≠g→some i≠row→w'.heap[i]?=w.heap[i]?
theorem KeepBut.refl (w:World)(g:Nat)(row:Option Nat):KeepBut w w g row:=⟨Nat.le_refl _,fun _ _ _ _=>rfl⟩
theorem KeepBut.of_grown {w w1:World}{row:Option Nat}(h:w.grownBy w1 row)(g:Nat):KeepBut w w1 g row:=⟨h.size,fun i hi _ hr=>h.block i hi hr⟩
theorem KeepBut.of_below {w w1:World}(h:Below w.heap.size w w1)(g:Nat)(row:Option Nat):KeepBut w w1 g row:=⟨h.size,fun i hi _ _=>h.block i hi⟩
theorem KeepBut.set_ {w w1:World}{g:Nat}{row:Option Nat}(h:KeepBut w w1 g row)(j:Nat)(u:Value):KeepBut w (w1.setCell ⟨g,j,none⟩ u) g row:=
 ⟨by simpa[World.setCell]using h.1,fun i hi hg hr=>(Below.heap_setCell w1 ⟨g,j,none⟩ u i hg).trans (h.2 i hi hg hr)⟩
theorem KeepBut.trans {w w1 w2:World}{g:Nat}{row row1:Option Nat}(h:KeepBut w w1 g row)(k:KeepBut w1 w2 g row1)(hr:row1=row∨∃b,row1=some b∧w.heap.size≤b):KeepBut w w2 g row:=
 ⟨Nat.le_trans h.1 k.1,fun i hi hg hn=>by
  refine (k.2 i (Nat.lt_of_lt_of_le hi h.1) hg ?_).trans (h.2 i hi hg hn)
  rcases hr with rfl | ⟨b,rfl,hb⟩
  ·exact hn
  ·intro e;injection e with e
   omega⟩
theorem KeepBut.blk {w w1:World}{g g':Nat}{row:Option Nat}{o:Obj}(h:KeepBut w w1 g row)(hb:w.heap[g']?=some o)(hg:g'≠g)(hr:some g'≠row):w1.heap[g']?=some o:=(h.2 g' (Zau hb) hg hr).trans hb
theorem KeepBut.own {w w1:World}{g:Nat}{row:Option Nat}{base:Nat}{e:TypeId}{size n:Nat}{v:Value}{xs:List Value}(h:KeepBut w w1 g row)(ho:w.ownsRow base e size v n xs)(hg:v.ownBlock≠some g)(hr:v.ownBlock=none∨v.ownBlock≠row):w1.ownsRow base e size v n xs:=by
 obtain⟨h1,h2⟩:=ho;refine⟨h1,?_⟩
 rcases h2 with h2 | ⟨b,cap,cur,rfl,hb,hh,r⟩
 ·exact .inl h2
 ·refine .inr ⟨b,cap,cur,rfl,hb,h.blk hh ?_ ?_,r⟩
  ·intro e;exact hg (by rw[←e];rfl)
  ·rcases hr with hr | hr
   ·simp[Value.ownBlock]at hr
   ·exact hr
def Ev {α:Type}(g:Nat→Option α)(r:α):Prop:=∃K,∀k,K≤k→g k=some r
theorem Ev.of {α:Type}{g:Nat→Option α}{r:α}(hg:∀k,LeO (g k) (g (k+1))){k:Nat}(h:g k=some r):Ev g r:=⟨k,fun _ hk=>at_rounds hg hk h⟩
theorem Ev.now {α:Type}(r:α):Ev (fun _=>some r) r:=⟨0,fun _ _=>rfl⟩
theorem Ev.rounds {α:Type}{g:Nat→Option α}{r:α}(h:Ev g r):∃k,g k=some r:=by
 obtain⟨K,h⟩:=h;exact⟨K,h K (Nat.le_refl _)⟩
theorem Ev.bind {α β:Type}{g:Nat→Option α}{f:Nat→α→Option β}{a:α}{r:β}(h:Ev g a)(k:Ev (fun n=>f n a) r):Ev (fun n=>(g n).bind (f n)) r:=by
 obtain⟨K,h⟩:=h;obtain⟨K',k⟩:=k;refine⟨max K K',fun n hn=>?_⟩;have h1:=h n (by omega);have h2:=k n (by omega);simp only[h1,Option.bind_some];exact h2
theorem Ev.step {α:Type}{g f:Nat→Option α}{r:α}(h:∀k,g (k+1)=f k)(k:Ev f r):Ev g r:=by
 obtain⟨K,k⟩:=k;refine⟨K+1,fun n hn=>?_⟩;obtain⟨m,rfl⟩:∃m,n=m+1:=⟨n-1,by omega⟩
 rw[h];exact k m (by omega)
theorem Ev.congr {α:Type}{g f:Nat→Option α}{r:α}(h:∀k,g k=f k)(k:Ev f r):Ev g r:=by
 obtain⟨K,k⟩:=k;exact⟨K,fun n hn=>(h n).trans (k n hn)⟩
section
variable {P:Program}{ops:Array Oper}{o:Oper}{a:Act}{Q:Exit→Act→World→Prop}{K:Act→World→Prop}
theorem Zdj {w0 W:World}(base:Nat)(hw:Region.wanted o (yielded ops a.tmps)=true)(s x:Operand)(t e:TypeId)(z:Value)(size bytes:Nat)
 (ho:o.op=.call { callee:=.builtin .append,args:=#[s,x],argTypes:=#[t,t] })
 (ht:P.underlying t=some (.slice e)) (hinfo:(P.info? e).map (fun i=>(i.zero,i.size,i.bytes))=some (some z,size,bytes)) (hz:z.cells.size=size) (hs0:0<size) (hb0:0<bytes)
 (v:Value) (n:Nat) (xs ys:List Value) (hs:a.eval s=v) (hx:a.eval x=.slice (some ⟨W.heap.size,0,none⟩) 1 1) (hys:ys.length=size) (h1:∀u∈ys,u.oneCell'=true)
 (HO:W.ownsRow base e size v n xs) (HB:Below base w0 W) (hbase:base≤W.heap.size) (hl:(n+1)*bytes≤140737488355328)
 (h:∀v1 w1,w1.ownsRow base e size v1 (n+1) (xs++ys)→Below base w0 w1→W.grownBy w1 v.ownBlock→(v1.ownBlock=v.ownBlock∨∃b,v1.ownBlock=some b∧W.heap.size≤b)→K (a.put o.dst v1) w1) :
 if Region.wanted o (yielded ops a.tmps)=true then Oper.wp P o a (W.alloc (.cells ys.toArray e)) K Q else K (a.put o.dst undef) (W.alloc (.cells ys.toArray e)):=by
 obtain⟨i0,hi,hzz⟩:=Option.map_eq_some_iff.1 hinfo;simp only[Prod.mk.injEq]at hzz;obtain⟨hz0,hz1,hz2⟩:=hzz;have hlen:n+1≤140737488355328:=Nat.le_trans (Nat.le_mul_of_pos_right _ hb0) hl;rw[if_pos hw];obtain⟨v1,w1,hr,hown,hg,_,hat⟩:=run_append_own_at (P:=P) (W.alloc (.cells ys.toArray e)) base t o.type e i0 z size bytes ht hi hz0 hz1 hz2 hz hs0 v n xs (HO.alloc _) ⟨W.heap.size,0,none⟩ 1 1 ys (by rw[hys];simp)
  (by simpa using World.news_of_block (cs:=ys.toArray) (t:=e) (fr:=(0,0)) (heap_alloc_new W (.cells ys.toArray e))) h1 (by simp only[maxLen];omega) hl (by simp;omega)
 unfold Oper.wp execOp;simp only[ho,resolve,invoke,builtin,Sem.run_bind,Sem.run_pure,Result.andThen_ok,List.map_toArray,List.map_cons,List.map_nil,hs,hx,hr];refine h v1 w1 hown ((HB.alloc hbase _).grown hg (by simp;omega) (Zdo HO)) (World.grownBy.trans (World.grownBy_alloc W _ _) hg) ?_
 rcases hat with hat | hat
 ·exact .inl hat
 ·exact .inr ⟨_,hat,by simp⟩
end
theorem own_weaken {w:World}{base base':Nat}{e:TypeId}{size n:Nat}{v:Value}{xs:List Value}(h:w.ownsRow base e size v n xs)(hb:base'≤base):w.ownsRow base' e size v n xs:=by
 obtain⟨h1,h2⟩:=h;refine⟨h1,?_⟩
 rcases h2 with h2 | ⟨g,cap,cur,rfl,hg,r⟩
 ·exact .inl h2
 ·exact .inr ⟨g,cap,cur,rfl,Nat.le_trans hb hg,r⟩
section
variable {α:Type}{enc:α→Value}{d:α}
def Zig (enc:α→Value)(xs:List α):List Value:=xs.map enc
def rdOf (d:α)(xs:List α)(i:Int):α:=xs.getD i.toNat d
theorem Zky (xs:List α):(Zig enc xs).length=xs.length:=by simp[Zig]
theorem encs_get (xs:List α)(j:Nat)(h:j<xs.length):(Zig enc xs)[j]?=some (enc (xs.getD j d)):=by
 simp[Zig,List.getElem?_eq_getElem h,List.getD_eq_getElem?_getD]
def ReadsOf (enc:α→Value)(d:α)(w:World)(A:Option Addr)(n:Nat)(xs:List α):Prop:=
 xs.length=n∧n≤9223372036854775807∧(0<n→∃ad,A=some ad∧∀j,j<n→w.cell? (ad.add j)=some (enc (xs.getD j d)))
theorem ReadsOf.at_ {w:World}{A:Option Addr}{n:Nat}{xs:List α}(h:ReadsOf enc d w A n xs)(i:Int)(h0:0≤i)(h1:i<n):∃ad,A=some ad∧w.cell? (ad.add i.toNat)=some (enc (rdOf d xs i)):=by
 obtain⟨ad,e,hc⟩:=h.2.2 (by omega);exact⟨ad,e,hc _ (by omega)⟩
theorem ReadsOf.below {w w1:World}{A:Option Addr}{n:Nat}{xs:List α}(h:ReadsOf enc d w A n xs)(hb:Below w.heap.size w w1):ReadsOf enc d w1 A n xs:=
 ⟨h.1,h.2.1,fun hn=>by
  obtain⟨ad,e,hc⟩:=h.2.2 hn;exact⟨ad,e,fun j hj=>Zad hb (hc j hj)⟩⟩
end
section
variable {α:Type}{P:Program}{ops:Array Oper}{rest:List Oper}{o:Oper}{a:Act}{Q:Exit→Act→World→Prop}
theorem Zgw {w0 W:World}(enc:α→Value)(d:α)(base:Nat)(hgd:o.guard=none)(s x:Operand)(t e:TypeId)(z:Value)(bytes:Nat)
 (ho:o.op=.call { callee:=.builtin .append,args:=#[s,x],argTypes:=#[t,t] })
 (ht:P.underlying t=some (.slice e)) (hinfo:(P.info? e).map (fun i=>(i.zero,i.size,i.bytes))=some (some z,1,bytes)) (hz:z.cells.size=1) (hb0:0<bytes) (h1:∀x:α,(enc x).oneCell'=true)
 (v:Value) (xs ys:List α) (A:Option Addr) (m c:Nat) (hs:a.eval s=v) (hx:a.eval x=.slice A m c)
 (HO:W.ownsRow base e 1 v xs.length (Zig enc xs)) (HR:ReadsOf enc d W A m ys) (HB:Below base w0 W) (hbase:base≤W.heap.size) (hl:(xs.length+m)*bytes≤140737488355328)
 (h:∀v1 w1,w1.ownsRow base e 1 v1 (xs++ys).length (Zig enc (xs++ys))→Below base w0 w1→W.grownBy w1 v.ownBlock→(v1.ownBlock=v.ownBlock∨∃b,v1.ownBlock=some b∧W.heap.size≤b)→wpList P ops Q rest (a.put o.dst v1) w1) :
 wpList P ops Q (o :: rest) a W:=by
 obtain⟨i0,hi,hzz⟩:=Option.map_eq_some_iff.1 hinfo;simp only[Prod.mk.injEq]at hzz;obtain⟨hz0,hz1,hz2⟩:=hzz;have hm:ys.length=m:=HR.1;have hlen:xs.length+m≤140737488355328:=Nat.le_trans (Nat.le_mul_of_pos_right _ hb0) hl;have hrun:∃v1 w1,(Builtin.append_ #[t,t] o.type #[v,.slice A m c]).run P W=.ok v1 w1∧w1.ownsRow base e 1 v1 (xs++ys).length (Zig enc (xs++ys))∧W.grownBy w1 v.ownBlock∧(v1.ownBlock=v.ownBlock∨v1.ownBlock=some W.heap.size):=by
  rcases A with _ | ad
  ·have h0:m=0:=by
    rcases Nat.eq_zero_or_pos m with h0 | h0
    ·exact h0
    ·obtain⟨ad,h,_⟩:=HR.2.2 h0;cases h
   subst h0;obtain rfl:ys=[]:=List.eq_nil_of_length_eq_zero hm;refine⟨v,W,?_,by simpa using HO,World.grownBy.refl W _,.inl rfl⟩
   rcases HO.2 with⟨rfl,hn⟩ | ⟨g,cap,cur,rfl,_,_,hnc,_⟩
   ·simp[Builtin.append_,run_underlying ht,sizeOf,typeInfo,hi,Builtin.lenOf,Builtin.firstCells]
   ·simp[Builtin.append_,run_underlying ht,sizeOf,typeInfo,hi,Builtin.lenOf,Builtin.firstCells,hnc,storeCells]
  ·have hcells:∀j u,(Zig enc ys)[j]?=some u→W.cell? (ad.add j)=some u:=by
    intro j u hu;have hj:j<ys.length:=by
     rcases Nat.lt_or_ge j ys.length with h | h
     ·exact h
     ·simp[Zig,List.getElem?_eq_none h]at hu
    obtain⟨ad',h',hc⟩:=HR.2.2 (by omega);injection h' with h'
    subst h';rw[encs_get (d:=d) ys j hj]at hu;rw[←hu];exact hc j (by omega)
   obtain⟨v1,w1,hr,h2,h3,_,h5⟩:=run_append_own_at (P:=P) W base t o.type e i0 z 1 bytes ht hi hz0 hz1 hz2 hz (by omega) v xs.length (Zig enc xs) HO ad m c (Zig enc ys) (by simp[Zig,hm]) hcells
    (by intro u hu;simp only[Zig,List.mem_map]at hu;obtain⟨q,_,rfl⟩:=hu;exact h1 q) (by simp only[maxLen];omega) hl hbase
   exact⟨v1,w1,hr,by simpa[Zig,hm]using h2,h3,h5⟩
 obtain⟨v1,w1,hr,hown,hg,hat⟩:=hrun;refine wpList_plain hgd fun K hK=>?_
 unfold Oper.wp execOp;simp only[ho,resolve,invoke,builtin,Sem.run_bind,Sem.run_pure,Result.andThen_ok,List.map_toArray,List.map_cons,List.map_nil,hs,hx,hr];refine hK _ _ (h v1 w1 hown (HB.grown hg hbase (Zdo HO)) hg ?_)
 rcases hat with hat | hat
 ·exact .inl hat
 ·exact .inr ⟨_,hat,Nat.le_refl _⟩
end
def Zqb (v v':Value):Prop:=∀k,v.ownBlock=some k→v'.ownBlock≠some k
theorem ne_symm {v v':Value}(h:Zqb v v'):Zqb v' v:=fun k hk hk'=>h k hk' hk
theorem Zpd {W:World}{v v1 v':Value}{base n size:Nat}{e:TypeId}{xs:List Value}(h:Zqb v v')(hat:v1.ownBlock=v.ownBlock∨∃b,v1.ownBlock=some b∧W.heap.size≤b)(ho:W.ownsRow base e size v' n xs):Zqb v1 v':=by
 intro k hk hk'
 rcases hat with hat | ⟨b,hb,hle⟩
 ·exact h k (hat▸hk) hk'
 ·have:=Zdb ho k hk';rw[hb]at hk;injection hk with hk
  omega
theorem Zai {w:World}{g:Nat}{o:Obj}(h:w.heap[g]?=some o)(o':Obj):(w.alloc o').heap[g]?=some o:=(Below.heap_alloc w o' g (Zau h)).trans h
theorem Zaf {w w1:World}{g:Nat}{o:Obj}(h:w.heap[g]?=some o)(hb:Below w.heap.size w w1):w1.heap[g]?=some o:=(hb.block g (Zau h)).trans h
theorem Zaj (w:World)(o:Obj):(w.alloc o).heap[w.heap.size]?=some o:=heap_alloc_new w o
theorem own_le {w:World}{base n m c size:Nat}{e:TypeId}{A:Option Addr}{xs:List Value}(h:w.ownsRow base e size (.slice A m c) n xs):m≤c:=by
 rcases h.2 with⟨he,_⟩ | ⟨g,cap,cur,he,_,_,hnc,_⟩
 ·injection he with _ h2 h3
  omega
 ·injection he with _ h2 h3
  omega
def OwnRow {α:Type}(R:α→List Value→Prop)(e:TypeId)(size:Nat)(w:World)(base:Nat)(v:Value)(ps:List α):Prop:=
 ∃inner,w.ownsRow base e size v ps.length inner∧Reps R size ps inner
section
variable {α:Type}{R R':α→List Value→Prop}{e:TypeId}{size:Nat}{w w1:World}{base:Nat}{v:Value}{ps:List α}
theorem OwnRow.none_ (R:α→List Value→Prop)(e:TypeId)(size:Nat)(w:World)(base:Nat):OwnRow R e size w base (.slice none 0 0) []:=⟨[],Zqx _ _ _ _,Reps.none _ _⟩
theorem OwnRow.imp_ (h:OwnRow R e size w base v ps)(hR:∀p c,R p c→R' p c):OwnRow R' e size w base v ps:=by
 obtain⟨inner,ho,hr⟩:=h;exact⟨inner,ho,hr.imp_ hR⟩
theorem OwnRow.below (h:OwnRow R e size w base v ps)(hb:Below w.heap.size w w1):OwnRow R e size w1 base v ps:=by
 obtain⟨inner,ho,hr⟩:=h;exact⟨inner,Zbx ho hb,hr⟩
theorem OwnRow.other (h:OwnRow R e size w base v ps){row:Option Nat}(hg:w.grownBy w1 row)(hne:v.ownBlock=none∨v.ownBlock≠row):OwnRow R e size w1 base v ps:=by
 obtain⟨inner,ho,hr⟩:=h;exact⟨inner,own_other ho hg hne,hr⟩
theorem OwnRow.set_ (h:OwnRow R e size w base v ps){g:Nat}{t:TypeId}{cells:Array Value}(hb:w.heap[g]?=some (.cells cells t (0,0)))(ht:e≠t)(j:Nat)(u:Value):OwnRow R e size (w.setCell ⟨g,j,none⟩ u) base v ps:=by
 obtain⟨inner,ho,hr⟩:=h;exact⟨inner,Zgx ho (Zch ho hb ht) u,hr⟩
theorem OwnRow.keep (h:OwnRow R e size w base v ps){g:Nat}{t:TypeId}{cells:Array Value}(hb:w.heap[g]?=some (.cells cells t (0,0)))(ht:e≠t)(hk:KeepBut w w1 g none):OwnRow R e size w1 base v ps:=by
 obtain⟨inner,ho,hr⟩:=h;exact⟨inner,hk.own ho (Ne.symm (Zch ho hb ht)) (by cases v.ownBlock <;> simp),hr⟩
theorem OwnRow.slice_ (h:OwnRow R e size w base v ps):∃A c,v=.slice A ps.length c∧ps.length≤c:=by
 obtain⟨inner,ho,hr⟩:=h;obtain⟨A,c,rfl⟩:=Zox ho;exact⟨A,c,rfl,own_le ho⟩
theorem OwnRow.reads (h:OwnRow R e size w base v ps):∃A c,v=.slice A ps.length c∧ps.length≤c∧ReadsRow R size w A ps.length ps:=by
 obtain⟨inner,ho,hr⟩:=h;obtain⟨A,c,rfl,hrow⟩:=Znh ho hr rfl;exact⟨A,c,rfl,own_le ho,hrow⟩
theorem OwnRow.ne_block (h:OwnRow R e size w base v ps){g:Nat}{t:TypeId}{cells:Array Value}(hb:w.heap[g]?=some (.cells cells t (0,0)))(ht:e≠t):some g≠v.ownBlock:=by
 obtain⟨inner,ho,hr⟩:=h;exact Zch ho hb ht
theorem OwnRow.lit (W:World)(base:Nat){inner:List Value}(hr:Reps R size ps inner)(hb:base≤W.heap.size)(hm:ps.length≤9223372036854775807) :
 OwnRow R e size (W.alloc (.cells inner.toArray e)) base (.slice (some ⟨W.heap.size,0,none⟩) ps.length ps.length) ps:=by
 have h:=World.ownsRow_lit (base:=base) (e:=e) (size:=size) W inner.toArray ps.length hb (by simpa[maxLen]using hm) (by simpa using hr.1);exact⟨inner,by simpa using h,hr⟩
end
section
variable {P:Program}{ops:Array Oper}{rest:List Oper}{o:Oper}{a:Act}{Q:Exit→Act→World→Prop}{α:Type}{R:α→List Value→Prop}
theorem OwnRow.append {w0 W:World}(base:Nat)(hgd:o.guard=none)(s x:Operand)(t e:TypeId)(z:Value)(size bytes:Nat)
 (ho:o.op=.call { callee:=.builtin .append,args:=#[s,x],argTypes:=#[t,t] })
 (ht:P.underlying t=some (.slice e)) (hinfo:(P.info? e).map (fun i=>(i.zero,i.size,i.bytes))=some (some z,size,bytes)) (hz:z.cells.size=size) (hs0:0<size) (hb0:0<bytes)
 (v:Value) (ps:List α) (p:α) (cs:List Value) (hs:a.eval s=v) (hx:a.eval x=.slice (some ⟨W.heap.size,0,none⟩) 1 1) (hp:R p cs) (hcs:cs.length=size) (h1:∀u∈cs,u.oneCell'=true)
 (HO:OwnRow R e size W base v ps) (HB:Below base w0 W) (hbase:base≤W.heap.size) (hl:(ps.length+1)*bytes≤140737488355328)
 (h:∀v1 w1,OwnRow R e size w1 base v1 (ps++[p])→Below base w0 w1→W.grownBy w1 v.ownBlock→(v1.ownBlock=v.ownBlock∨∃b,v1.ownBlock=some b∧W.heap.size≤b)→wpList P ops Q rest (a.put o.dst v1) w1) :
 wpList P ops Q (o :: rest) a (W.alloc (.cells cs.toArray e)):=by
 obtain⟨inner,hown,hr⟩:=HO;refine Zcm base hgd s x t e z size bytes ho ht hinfo hz hs0 hb0 v ps.length inner cs hs hx hcs h1 hown HB hbase hl ?_
 intro v1 w1 hown1 hb1 hg1 hat1;exact h v1 w1 ⟨inner++cs,by rw[List.length_append,List.length_singleton];exact hown1,hr.snoc hp hcs⟩ hb1 hg1 hat1
end
section
variable {P:Program}{ops:Array Oper}{o:Oper}{a:Act}{Q:Exit→Act→World→Prop}{K:Act→World→Prop}{α:Type}{R:α→List Value→Prop}
theorem OwnRow.append_step {w0 W:World}(base:Nat)(hw:Region.wanted o (yielded ops a.tmps)=true)(s x:Operand)(t e:TypeId)(z:Value)(size bytes:Nat)
 (ho:o.op=.call { callee:=.builtin .append,args:=#[s,x],argTypes:=#[t,t] })
 (ht:P.underlying t=some (.slice e)) (hinfo:(P.info? e).map (fun i=>(i.zero,i.size,i.bytes))=some (some z,size,bytes)) (hz:z.cells.size=size) (hs0:0<size) (hb0:0<bytes)
 (v:Value) (ps:List α) (p:α) (cs:List Value) (hs:a.eval s=v) (hx:a.eval x=.slice (some ⟨W.heap.size,0,none⟩) 1 1) (hp:R p cs) (hcs:cs.length=size) (h1:∀u∈cs,u.oneCell'=true)
 (HO:OwnRow R e size W base v ps) (HB:Below base w0 W) (hbase:base≤W.heap.size) (hl:(ps.length+1)*bytes≤140737488355328)
 (h:∀v1 w1,OwnRow R e size w1 base v1 (ps++[p])→Below base w0 w1→W.grownBy w1 v.ownBlock→(v1.ownBlock=v.ownBlock∨∃b,v1.ownBlock=some b∧W.heap.size≤b)→K (a.put o.dst v1) w1) :
 if Region.wanted o (yielded ops a.tmps)=true then Oper.wp P o a (W.alloc (.cells cs.toArray e)) K Q else K (a.put o.dst undef) (W.alloc (.cells cs.toArray e)):=by
 obtain⟨inner,hown,hr⟩:=HO;refine Zdj base hw s x t e z size bytes ho ht hinfo hz hs0 hb0 v ps.length inner cs hs hx hcs h1 hown HB hbase hl ?_
 intro v1 w1 hown1 hb1 hg1 hat1;exact h v1 w1 ⟨inner++cs,by rw[List.length_append,List.length_singleton];exact hown1,hr.snoc hp hcs⟩ hb1 hg1 hat1
end
theorem ReadsRow.inner_ {α:Type}{R:α→List Value→Prop}{size:Nat}{w:World}{ad:Addr}{n:Nat}{ps:List α}(h:ReadsRow R size w (some ad) n ps) :
 ∃inner,Reps R size ps inner∧∀j u,inner[j]?=some u→w.cell? (ad.add j)=some u:=by
 have key:∀m,m≤ps.length→∃inner,Reps R size (ps.take m) inner∧∀j u,inner[j]?=some u→w.cell? (ad.add j)=some u:=by
  intro m
  induction m with
  | zero=>exact fun _=>⟨[],Reps.none _ _,fun j u hu=>by simp at hu⟩
  | succ m ih=>
   intro hm;obtain⟨inner,hr,hc⟩:=ih (by omega);obtain⟨ad',he,hcell⟩:=h.2.2 (by have:=h.1;omega);injection he with he
   subst he;obtain⟨c,hcl,hp,hcc⟩:=hcell m _ (List.getElem?_eq_getElem (show m<ps.length by omega));refine⟨inner++c,?_,fun j u hu=>?_⟩
   ·rw[List.take_succ_eq_append_getElem (show m<ps.length by omega)];exact hr.snoc hp hcl
   ·have hil:inner.length=m*size:=by rw[hr.1,List.length_take,Nat.min_eq_left (by omega)]
    rcases Nat.lt_or_ge j inner.length with hj | hj
    ·rw[List.getElem?_append_left hj]at hu;exact hc j u hu
    ·rw[List.getElem?_append_right hj]at hu;have:=hcc (j-inner.length) u hu;rwa[hil,Nat.add_sub_cancel' (by omega)]at this
 obtain⟨inner,hr,hc⟩:=key ps.length (Nat.le_refl _);rw[List.take_length]at hr;exact⟨inner,hr,hc⟩
structure Kd (α:Type) where
 sz:Nat
 E:List Nat
 K:World→α→List Value→Prop
 M:World→Nat→(Nat→Prop)→α→List Value→Prop
 K_len:∀{w x cs},K w x cs→cs.length=sz
 K_one:∀{w x cs},K w x cs→∀u∈cs,u.oneCell'=true
 K_below:∀{w w1:World} {x cs},Below w.heap.size w w1→K w x cs→K w1 x cs
 K_of_M:∀{w base ok x cs},M w base ok x cs→K w x cs
 M_mono:∀{w base ok ok' x cs},(∀k,ok k→ok' k)→M w base ok x cs→M w base ok' x cs
 M_bound:∀{w:World} {base ok x cs},M w base ok x cs→M w base (fun k=>ok k∧base≤k∧k<w.heap.size∧∃q,q∈E∧∃cells,w.heap[k]?=some (.cells cells q (0,0))) x cs
 M_move:∀{w w1:World} {base ok x cs},(∀k,ok k→w1.heap[k]?=w.heap[k]?)→M w base ok x cs→M w1 base ok x cs
 M_lower:∀{w base base' ok x cs},base'≤base→M w base ok x cs→M w base' ok x cs
theorem Zci {w w1:World}{base:Nat}{e:TypeId}{size n:Nat}{v:Value}{xs:List Value}(h:w.ownsRow base e size v n xs)(hm:∀k,v.ownBlock=some k→w1.heap[k]?=w.heap[k]?):w1.ownsRow base e size v n xs:=by
 obtain⟨h1,h2⟩:=h;refine⟨h1,?_⟩
 rcases h2 with h2 | ⟨g,cap,cur,rfl,hg,hh,r⟩
 ·exact .inl h2
 ·exact .inr ⟨g,cap,cur,rfl,hg,(hm g (by simp[Value.ownBlock])).trans hh,r⟩
theorem Zaq {w:World}{base:Nat}{e:TypeId}{size n:Nat}{v:Value}{xs:List Value}(h:w.ownsRow base e size v n xs)(k:Nat)(hk:v.ownBlock=some k):∃cells,w.heap[k]?=some (.cells cells e (0,0)):=by
 rcases h.2 with⟨rfl,_⟩ | ⟨g,cap,cur,rfl,hg,hh,r⟩
 ·simp[Value.ownBlock]at hk
 ·have:g=k:=by simpa[Value.ownBlock]using hk
  subst this;exact⟨cur,hh⟩
namespace Kd
def C {α:Type}(d:Kd α)(w:World)(A:Option Addr)(n:Nat)(xs:List α):Prop:=ReadsRow (d.K w) d.sz w A n xs
def R {α:Type}(d:Kd α)(e:Nat)(w:World)(base:Nat)(ok:Nat→Prop)(v:Value)(xs:List α):Prop:=
 (∀k,v.ownBlock=some k→ok k)∧OwnRow (d.M w base (fun k=>ok k∧some k≠v.ownBlock)) e d.sz w base v xs
section
variable {α:Type}{d:Kd α}{e:Nat}{w w1:World}{base:Nat}{ok ok':Nat→Prop}{v:Value}{xs:List α}
theorem C_below {A:Option Addr}{n:Nat}(h:d.C w A n xs)(hb:Below w.heap.size w w1):d.C w1 A n xs:=ReadsRow.imp_ h hb (fun _ _ hp=>d.K_below hb hp)
theorem R_nil (d:Kd α)(e:Nat)(w:World)(base:Nat)(ok:Nat→Prop):d.R e w base ok (.slice none 0 0) []:=⟨fun k hk=>by simp[Value.ownBlock]at hk,OwnRow.none_ _ _ _ _ _⟩
theorem R_mono (h:d.R e w base ok v xs)(hok:∀k,ok k→ok' k):d.R e w base ok' v xs:=⟨fun k hk=>hok k (h.1 k hk),h.2.imp_ (fun _ _ hp=>d.M_mono (fun k hk=>⟨hok k hk.1,hk.2⟩) hp)⟩
theorem R_bound (h:d.R e w base ok v xs):d.R e w base (fun k=>ok k∧base≤k∧k<w.heap.size∧∃q,q∈e :: d.E∧∃cells,w.heap[k]?=some (.cells cells q (0,0))) v xs:=by
 obtain⟨h0,inner,ho,hr⟩:=h;refine⟨fun k hk=>?_,inner,ho,hr.imp_ (fun _ _ hp=>d.M_mono (fun k hk=>?_) (d.M_bound hp))⟩
 ·obtain⟨cells,hc⟩:=Zaq ho k hk;exact⟨h0 k hk,Zdo ho k hk,Zdb ho k hk,e,List.mem_cons_self,cells,hc⟩
 ·obtain⟨⟨h1,h2⟩,h3,h4,q,hq,hc⟩:=hk;exact⟨⟨h1,h3,h4,q,List.mem_cons_of_mem _ hq,hc⟩,h2⟩
theorem R_move (h:d.R e w base ok v xs)(hm:∀k,ok k→w1.heap[k]?=w.heap[k]?):d.R e w1 base ok v xs:=by
 obtain⟨h0,inner,ho,hr⟩:=h;exact⟨h0,inner,Zci ho (fun k hk=>hm k (h0 k hk)),hr.imp_ (fun _ _ hp=>d.M_move (fun k hk=>hm k hk.1) hp)⟩
theorem R_lower {base':Nat}(h:d.R e w base ok v xs)(hb:base'≤base):d.R e w base' ok v xs:=by
 obtain⟨h0,inner,ho,hr⟩:=h;exact⟨h0,inner,own_weaken ho hb,hr.imp_ (fun _ _ hp=>d.M_lower hb hp)⟩
theorem R_step (h:d.R e w base ok v xs)(hm:∀k,ok k→k<w.heap.size→w1.heap[k]?=w.heap[k]?):d.R e w1 base ok v xs:=
 R_mono (R_move (R_bound h) (fun k hk=>hm k hk.1 hk.2.2.1)) (fun _ hk=>hk.1)
theorem M_step {x:α}{cs:List Value}(h:d.M w base ok x cs)(hm:∀k,ok k→k<w.heap.size→w1.heap[k]?=w.heap[k]?):d.M w1 base ok x cs:=
 d.M_mono (fun _ hk=>hk.1) (d.M_move (fun k hk=>hm k hk.1 hk.2.2.1) (d.M_bound h))
theorem R_below (h:d.R e w base ok v xs)(hb:Below w.heap.size w w1):d.R e w1 base ok v xs:=R_step h (fun k _ hk=>hb.block k hk)
theorem R_grown (h:d.R e w base ok v xs){row:Option Nat}(hg:w.grownBy w1 row)(hok:∀k,ok k→some k≠row):d.R e w1 base ok v xs:=R_step h (fun k ho hk=>hg.block k hk (hok k ho))
theorem R_far (h:d.R e w base ok v xs){p:Addr}(hok:∀k,ok k→k≠p.block)(u:Value):d.R e (w.setCell p u) base ok v xs:=R_step h (fun k ho _=>Below.heap_setCell w p u k (hok k ho))
theorem R_types (h:d.R e w base ok v xs){g t:Nat}{cells:Array Value}(hb:w.heap[g]?=some (.cells cells t (0,0)))(ht:∀q,q∈e :: d.E→q≠t):d.R e w base (fun k=>ok k∧k≠g) v xs:=
 R_mono (R_bound h) (fun k hk=>⟨hk.1,by
  obtain⟨_,_,_,q,hq,cells',hc⟩:=hk;rintro rfl;rw[hc]at hb;injection hb with hb
  injection hb with _ hb
  exact ht q hq hb⟩)
theorem R_set (h:d.R e w base ok v xs){g t:Nat}{cells:Array Value}(hb:w.heap[g]?=some (.cells cells t (0,0)))(ht:∀q,q∈e :: d.E→q≠t)(j:Nat)(u:Value):d.R e (w.setCell ⟨g,j,none⟩ u) base ok v xs:=
 R_mono (R_far (p:=⟨g,j,none⟩) (R_types h hb ht) (fun _ hk=>hk.2) u) (fun _ hk=>hk.1)
theorem R_reads (h:d.R e w base ok v xs):∃A c,v=.slice A xs.length c∧xs.length≤c∧d.C w A xs.length xs:=by
 obtain⟨A,c,he,hl,hr⟩:=OwnRow.reads h.2;exact⟨A,c,he,hl,hr.imp_ Zbr (fun _ _ hp=>d.K_of_M hp)⟩
theorem R_slice (h:d.R e w base ok v xs):∃A c,v=.slice A xs.length c:=by
 obtain⟨A,c,he,_⟩:=R_reads h;exact⟨A,c,he⟩
theorem R_own (h:d.R e w base ok v xs):∃inner,w.ownsRow base e d.sz v xs.length inner:=by
 obtain⟨_,inner,ho,_⟩:=h;exact⟨inner,ho⟩
theorem R_ne (h:d.R e w base ok v xs){g t:Nat}{cells:Array Value}(hb:w.heap[g]?=some (.cells cells t (0,0)))(ht:e≠t):some g≠v.ownBlock:=OwnRow.ne_block h.2 hb ht
end
def scalar {α:Type}(enc:α→Value)(h1:∀x,(enc x).oneCell'=true):Kd α where
 sz:=1
 E:=[]
 K:=fun _ x cs=>cs=[enc x]
 M:=fun _ _ _ x cs=>cs=[enc x]
 K_len:=fun h=>by rw[h];rfl
 K_one:=fun h u hu=>by
  rw[h]at hu;rw[List.mem_singleton.1 hu];exact h1 _
 K_below:=fun _ h=>h
 K_of_M:=fun h=>h
 M_mono:=fun _ h=>h
 M_bound:=fun h=>h
 M_move:=fun _ h=>h
 M_lower:=fun _ h=>h
def int (k:IntKind):Kd Int:=scalar (Value.int k) (fun _=>rfl)
def bool:Kd Bool:=scalar Value.bool (fun _=>rfl)
def string:Kd ByteArray:=scalar Value.string (fun _=>rfl)
def slice {α:Type}(e:Nat)(d:Kd α):Kd (List α) where
 sz:=1
 E:=e :: d.E
 K:=fun w xs cs=>∃A c,cs=[.slice A xs.length c]∧xs.length≤c∧d.C w A xs.length xs
 M:=fun w base ok xs cs=>∃v,cs=[v]∧d.R e w base ok v xs
 K_len:=by
  rintro w x cs ⟨A,c,rfl,_⟩
  rfl
 K_one:=by
  rintro w x cs ⟨A,c,rfl,_⟩ u hu;rw[List.mem_singleton.1 hu]
  rfl
 K_below:=by
  rintro w w1 x cs hb ⟨A,c,rfl,hl,hr⟩;exact⟨A,c,rfl,hl,C_below hr hb⟩
 K_of_M:=by
  rintro w base ok x cs ⟨v,rfl,h⟩;obtain⟨A,c,rfl,hl,hr⟩:=R_reads h;exact⟨A,c,rfl,hl,hr⟩
 M_mono:=by
  rintro w base ok ok' x cs hok ⟨v,rfl,h⟩;exact⟨v,rfl,R_mono h hok⟩
 M_bound:=by
  rintro w base ok x cs ⟨v,rfl,h⟩;exact⟨v,rfl,R_bound h⟩
 M_move:=by
  rintro w w1 base ok x cs hm ⟨v,rfl,h⟩;exact⟨v,rfl,R_move h hm⟩
 M_lower:=by
  rintro w base base' ok x cs hb ⟨v,rfl,h⟩;exact⟨v,rfl,R_lower h hb⟩
def pair {α β:Type}(a:Kd α)(b:Kd β):Kd (α × β) where
 sz:=a.sz+b.sz
 E:=a.E++b.E
 K:=fun w x cs=>∃c0 c1,cs=c0++c1∧a.K w x.1 c0∧b.K w x.2 c1
 M:=fun w base ok x cs=>∃c0 c1,cs=c0++c1∧a.M w base ok x.1 c0∧b.M w base ok x.2 c1
 K_len:=by
  rintro w x cs ⟨c0,c1,rfl,h0,h1⟩;rw[List.length_append,a.K_len h0,b.K_len h1]
 K_one:=by
  rintro w x cs ⟨c0,c1,rfl,h0,h1⟩ u hu
  rcases List.mem_append.1 hu with hu | hu
  ·exact a.K_one h0 u hu
  ·exact b.K_one h1 u hu
 K_below:=by
  rintro w w1 x cs hb ⟨c0,c1,rfl,h0,h1⟩;exact⟨c0,c1,rfl,a.K_below hb h0,b.K_below hb h1⟩
 K_of_M:=by
  rintro w base ok x cs ⟨c0,c1,rfl,h0,h1⟩;exact⟨c0,c1,rfl,a.K_of_M h0,b.K_of_M h1⟩
 M_mono:=by
  rintro w base ok ok' x cs hok ⟨c0,c1,rfl,h0,h1⟩;exact⟨c0,c1,rfl,a.M_mono hok h0,b.M_mono hok h1⟩
 M_bound:=by
  rintro w base ok x cs ⟨c0,c1,rfl,h0,h1⟩;refine⟨c0,c1,rfl,a.M_mono ?_ (a.M_bound h0),b.M_mono ?_ (b.M_bound h1)⟩
  ·rintro k ⟨h2,h3,h4,q,hq,hc⟩;exact⟨h2,h3,h4,q,List.mem_append_left _ hq,hc⟩
  ·rintro k ⟨h2,h3,h4,q,hq,hc⟩;exact⟨h2,h3,h4,q,List.mem_append_right _ hq,hc⟩
 M_move:=by
  rintro w w1 base ok x cs hm ⟨c0,c1,rfl,h0,h1⟩;exact⟨c0,c1,rfl,a.M_move hm h0,b.M_move hm h1⟩
 M_lower:=by
  rintro w base base' ok x cs hb ⟨c0,c1,rfl,h0,h1⟩;exact⟨c0,c1,rfl,a.M_lower hb h0,b.M_lower hb h1⟩
def iso {α β:Type}(d:Kd α)(f:β→α):Kd β where
 sz:=d.sz
 E:=d.E
 K:=fun w x cs=>d.K w (f x) cs
 M:=fun w base ok x cs=>d.M w base ok (f x) cs
 K_len:=d.K_len
 K_one:=d.K_one
 K_below:=d.K_below
 K_of_M:=d.K_of_M
 M_mono:=d.M_mono
 M_bound:=d.M_bound
 M_move:=d.M_move
 M_lower:=d.M_lower
def bot {α:Type}(sz:Nat)(E:List Nat):Kd α where
 sz:=sz
 E:=E
 K:=fun _ _ _=>False
 M:=fun _ _ _ _ _=>False
 K_len:=fun h=>h.elim
 K_one:=fun h=>h.elim
 K_below:=fun _ h=>h
 K_of_M:=fun h=>h
 M_mono:=fun _ h=>h
 M_bound:=fun h=>h
 M_move:=fun _ h=>h
 M_lower:=fun _ h=>h
def upto {α:Type}(F:Kd α→Kd α)(sz:Nat)(E:List Nat):Nat→Kd α
 | 0=>bot sz E
 | n+1=>F (upto F sz E n)
def fix {α:Type}(F:Kd α→Kd α)(sz:Nat)(E:List Nat)(hs:∀n,(upto F sz E n).sz=sz)(hE:∀n q,q∈(upto F sz E n).E→q∈E):Kd α where
 sz:=sz
 E:=E
 K:=fun w x cs=>∃n,(upto F sz E n).K w x cs
 M:=fun w base ok x cs=>∃n,(upto F sz E n).M w base ok x cs
 K_len:=by
  rintro w x cs ⟨n,h⟩;rw[(upto F sz E n).K_len h,hs n]
 K_one:=by
  rintro w x cs ⟨n,h⟩;exact (upto F sz E n).K_one h
 K_below:=by
  rintro w w1 x cs hb ⟨n,h⟩;exact⟨n,(upto F sz E n).K_below hb h⟩
 K_of_M:=by
  rintro w base ok x cs ⟨n,h⟩;exact⟨n,(upto F sz E n).K_of_M h⟩
 M_mono:=by
  rintro w base ok ok' x cs hok ⟨n,h⟩;exact⟨n,(upto F sz E n).M_mono hok h⟩
 M_bound:=by
  rintro w base ok x cs ⟨n,h⟩;refine⟨n,(upto F sz E n).M_mono ?_ ((upto F sz E n).M_bound h)⟩;rintro k ⟨h2,h3,h4,q,hq,hc⟩;exact⟨h2,h3,h4,q,hE n q hq,hc⟩
 M_move:=by
  rintro w w1 base ok x cs hm ⟨n,h⟩;exact⟨n,(upto F sz E n).M_move hm h⟩
 M_lower:=by
  rintro w base base' ok x cs hb ⟨n,h⟩;exact⟨n,(upto F sz E n).M_lower hb h⟩
theorem C_get {α:Type}{d:Kd α}{w:World}{A:Option Addr}{n:Nat}{xs:List α}(h:d.C w A n xs)(z:α)(i:Int)(h0:0≤i)(h1:i<n) :
 ∃ad c,A=some ad∧c.length=d.sz∧d.K w (xs.getD i.toNat z) c∧∀j u,c[j]?=some u→w.cell? (ad.add (i.toNat*d.sz+j))=some u:=ReadsRow.get_ h z i h0 h1
theorem Zms {α:Type}{d:Kd α}{e base:Nat}{ok okp:Nat→Prop}{W w1:World}{v v1:Value}{xs:List α}{p:α}{inner cs:List Value}(h0:∀k,v.ownBlock=some k→ok k)(hr:Reps (d.M W base (fun k=>ok k∧some k≠v.ownBlock)) d.sz xs inner)(hp:d.M W base okp p cs)(hokp:∀k,okp k→ok k∧some k≠v.ownBlock)(hfresh:∀k,W.heap.size≤k→ok k)
 (hown:w1.ownsRow base e d.sz v1 (xs.length+1) (inner++cs)) (hg:W.grownBy w1 v.ownBlock) (hat:v1.ownBlock=v.ownBlock∨∃b,v1.ownBlock=some b∧W.heap.size≤b):d.R e w1 base ok v1 (xs++[p]):=by
 have hne:∀k,some k≠v.ownBlock→k<W.heap.size→some k≠v1.ownBlock:=by
  intro k hk hlt
  rcases hat with hat | ⟨b,hb,hle⟩
  ·rw[hat];exact hk
  ·rw[hb];intro he;injection he with he
   omega
 have step:∀{q:α} {c:List Value} {o:Nat→Prop},d.M W base o q c→(∀k,o k→ok k∧some k≠v.ownBlock)→d.M w1 base (fun k=>ok k∧some k≠v1.ownBlock) q c:=by
  intro q c o hq ho;have h1:=d.M_move (w1:=w1) (fun k hk=>hg.block k hk.2.2.1 (ho k hk.1).2) (d.M_bound hq);exact d.M_mono (fun k hk=>⟨(ho k hk.1).1,hne k (ho k hk.1).2 hk.2.2.1⟩) h1
 refine⟨fun k hk=>?_,inner++cs,by rw[List.length_append,List.length_singleton];exact hown,?_⟩
 ·rcases hat with hat | ⟨b,hb,hle⟩
  ·exact h0 k (hat▸hk)
  ·rw[hb]at hk;injection hk with hk
   exact hfresh k (by omega)
 ·exact (hr.imp_ (fun _ _ hq=>step hq (fun _ hk=>hk))).snoc (step hp hokp) (d.K_len (d.K_of_M hp))
section
variable {P:Program}{ops:Array Oper}{rest:List Oper}{o:Oper}{a:Act}{Q:Exit→Act→World→Prop}{α:Type}
theorem R_append (d:Kd α){w0 W:World}(base:Nat)(hgd:o.guard=none)(s x:Operand)(t e:TypeId)(z:Value)(bytes:Nat)
 (ho:o.op=.call { callee:=.builtin .append,args:=#[s,x],argTypes:=#[t,t] })
 (ht:P.underlying t=some (.slice e)) (hinfo:(P.info? e).map (fun i=>(i.zero,i.size,i.bytes))=some (some z,d.sz,bytes)) (hz:z.cells.size=d.sz) (hs0:0<d.sz) (hb0:0<bytes)
 (v:Value) (xs:List α) (p:α) (cs:List Value) (ok okp:Nat→Prop) (hs:a.eval s=v) (hx:a.eval x=.slice (some ⟨W.heap.size,0,none⟩) 1 1) (hp:d.M W base okp p cs) (hokp:∀k,okp k→ok k∧some k≠v.ownBlock) (hfresh:∀k,W.heap.size≤k→ok k)
 (HO:d.R e W base ok v xs) (HB:Below base w0 W) (hbase:base≤W.heap.size) (hl:(xs.length+1)*bytes≤140737488355328)
 (h:∀v1 w1,d.R e w1 base ok v1 (xs++[p])→Below base w0 w1→W.grownBy w1 v.ownBlock→(v1.ownBlock=v.ownBlock∨∃b,v1.ownBlock=some b∧W.heap.size≤b)→wpList P ops Q rest (a.put o.dst v1) w1) :
 wpList P ops Q (o :: rest) a (W.alloc (.cells cs.toArray e)):=by
 obtain⟨h0,inner,hown,hr⟩:=HO;refine Zcm base hgd s x t e z d.sz bytes ho ht hinfo hz hs0 hb0 v xs.length inner cs hs hx (d.K_len (d.K_of_M hp)) (d.K_one (d.K_of_M hp)) hown HB hbase hl ?_
 intro v1 w1 hown1 hb1 hg1 hat1;exact h v1 w1 (Zms h0 hr hp hokp hfresh hown1 hg1 hat1) hb1 hg1 hat1
end
section
variable {P:Program}{ops:Array Oper}{o:Oper}{a:Act}{Q:Exit→Act→World→Prop}{Kc:Act→World→Prop}{α:Type}
theorem R_append_step (d:Kd α){w0 W:World}(base:Nat)(hw:Region.wanted o (yielded ops a.tmps)=true)(s x:Operand)(t e:TypeId)(z:Value)(bytes:Nat)
 (ho:o.op=.call { callee:=.builtin .append,args:=#[s,x],argTypes:=#[t,t] })
 (ht:P.underlying t=some (.slice e)) (hinfo:(P.info? e).map (fun i=>(i.zero,i.size,i.bytes))=some (some z,d.sz,bytes)) (hz:z.cells.size=d.sz) (hs0:0<d.sz) (hb0:0<bytes)
 (v:Value) (xs:List α) (p:α) (cs:List Value) (ok okp:Nat→Prop) (hs:a.eval s=v) (hx:a.eval x=.slice (some ⟨W.heap.size,0,none⟩) 1 1) (hp:d.M W base okp p cs) (hokp:∀k,okp k→ok k∧some k≠v.ownBlock) (hfresh:∀k,W.heap.size≤k→ok k)
 (HO:d.R e W base ok v xs) (HB:Below base w0 W) (hbase:base≤W.heap.size) (hl:(xs.length+1)*bytes≤140737488355328)
 (h:∀v1 w1,d.R e w1 base ok v1 (xs++[p])→Below base w0 w1→W.grownBy w1 v.ownBlock→(v1.ownBlock=v.ownBlock∨∃b,v1.ownBlock=some b∧W.heap.size≤b)→Kc (a.put o.dst v1) w1) :
 if Region.wanted o (yielded ops a.tmps)=true then Oper.wp P o a (W.alloc (.cells cs.toArray e)) Kc Q else Kc (a.put o.dst undef) (W.alloc (.cells cs.toArray e)):=by
 obtain⟨h0,inner,hown,hr⟩:=HO;refine Zdj base hw s x t e z d.sz bytes ho ht hinfo hz hs0 hb0 v xs.length inner cs hs hx (d.K_len (d.K_of_M hp)) (d.K_one (d.K_of_M hp)) hown HB hbase hl ?_
 intro v1 w1 hown1 hb1 hg1 hat1;exact h v1 w1 (Zms h0 hr hp hokp hfresh hown1 hg1 hat1) hb1 hg1 hat1
end
theorem Zqo {α:Type}{enc:α→Value}(xs:List α):Reps (fun (x:α) (cs:List Value)=>cs=[enc x]) 1 xs (Zig enc xs):=by
 refine⟨by simp[Zig],fun j p hj=>?_⟩;obtain⟨hl,hp⟩:=List.getElem?_eq_some_iff.1 hj
 have hl':j<(Zig enc xs).length:=by rw[Zky];exact hl
 rw[Nat.mul_one,List.drop_eq_getElem_cons hl'];simp[Zig,hp]
theorem R_of_own {α:Type}{enc:α→Value}{h1:∀x,(enc x).oneCell'=true}{e:Nat}{w:World}{base:Nat}{ok:Nat→Prop}{v:Value}{xs:List α}(ho:w.ownsRow base e 1 v xs.length (Zig enc xs))(hok:∀k,v.ownBlock=some k→ok k):(scalar enc h1).R e w base ok v xs:=⟨hok,Zig enc xs,ho,Zqo xs⟩
theorem own_of_R {α:Type}{enc:α→Value}{h1:∀x,(enc x).oneCell'=true}{e:Nat}{w:World}{base:Nat}{ok:Nat→Prop}{v:Value}{xs:List α}(h:(scalar enc h1).R e w base ok v xs):w.ownsRow base e 1 v xs.length (Zig enc xs):=by
 obtain⟨_,inner,ho,hr⟩:=h;have:inner=Zig enc xs:=by
  apply List.ext_getElem?;intro j
  rcases Nat.lt_or_ge j xs.length with hj | hj
  ·have h2:=hr.2 j _ (List.getElem?_eq_getElem hj);have hl:j<inner.length:=by have:=hr.1;simp[scalar]at this;omega
   have h3:(inner.drop (j*1)).take 1=[enc xs[j]]:=h2;rw[Nat.mul_one,List.drop_eq_getElem_cons hl]at h3;have h4:inner[j]=enc xs[j]:=by
    have h5:=congrArg List.head? h3;rw[List.take_succ_cons]at h5;exact Option.some.inj h5
   rw[List.getElem?_eq_getElem hl,h4];simp[Zig,List.getElem?_eq_getElem hj]
  ·have h3:inner.length=xs.length:=by have:=hr.1;simp[scalar]at this;omega
   rw[List.getElem?_eq_none (by omega),List.getElem?_eq_none (by rw[Zky];omega)]
 rw[←this];exact ho
theorem reads_of_C {α:Type}{enc:α→Value}{d:α}{h1:∀x,(enc x).oneCell'=true}{w:World}{A:Option Addr}{n:Nat}{xs:List α}(h:(scalar enc h1).C w A n xs):ReadsOf enc d w A n xs:=by
 refine⟨h.1,h.2.1,fun hn=>?_⟩;obtain⟨ad,e,hc⟩:=h.2.2 hn;refine⟨ad,e,fun j hj=>?_⟩;have hl:j<xs.length:=by have:=h.1;omega
 obtain⟨c,_,hK,hcell⟩:=hc j _ (List.getElem?_eq_getElem hl);have hK':c=[enc xs[j]]:=hK;subst hK';have:=hcell 0 _ rfl;simpa[scalar,List.getD_eq_getElem?_getD,List.getElem?_eq_getElem hl]using this
end Kd
namespace Kd
structure Mono {α β:Type}(F:Kd α→Kd β):Prop where
 sz:∀d d':Kd α,d.sz=d'.sz→(F d).sz=(F d').sz
 K:∀d d':Kd α,d.sz=d'.sz→(∀w x cs,d.K w x cs→d'.K w x cs)→∀w x cs,(F d).K w x cs→(F d').K w x cs
 M:∀d d':Kd α,d.sz=d'.sz→(∀w base ok x cs,d.M w base ok x cs→d'.M w base ok x cs)→∀w base ok x cs,(F d).M w base ok x cs→(F d').M w base ok x cs
theorem mono_const {α β:Type}(k:Kd β):Mono (fun _:Kd α=>k):=⟨fun _ _ _=>rfl,fun _ _ _ _ _ _ _ h=>h,fun _ _ _ _ _ _ _ _ _ h=>h⟩
theorem mono_id {α:Type}:Mono (fun d:Kd α=>d):=⟨fun _ _ h=>h,fun _ _ _ h=>h,fun _ _ _ h=>h⟩
theorem C_imp {α:Type}{d d':Kd α}(hs:d.sz=d'.sz)(h:∀w x cs,d.K w x cs→d'.K w x cs){w:World}{A:Option Addr}{n:Nat}{xs:List α}(hc:d.C w A n xs):d'.C w A n xs:=by
 unfold C at hc ⊢;rw[←hs];exact hc.imp_ Zbr (fun _ _ hp=>h _ _ _ hp)
theorem R_imp {α:Type}{d d':Kd α}(hs:d.sz=d'.sz)(h:∀w base ok x cs,d.M w base ok x cs→d'.M w base ok x cs){e:Nat}{w:World}{base:Nat}{ok:Nat→Prop}{v:Value}{xs:List α}(hr:d.R e w base ok v xs):d'.R e w base ok v xs:=by
 unfold R at hr ⊢;rw[←hs];exact⟨hr.1,hr.2.imp_ (fun _ _ hp=>h _ _ _ _ _ hp)⟩
theorem mono_slice {α β:Type}(e:Nat){G:Kd α→Kd β}(hG:Mono G):Mono (fun d=>slice e (G d)):=by
 refine⟨fun _ _ _=>rfl,?_,?_⟩
 ·rintro d d' hs h w x cs ⟨A,c,rfl,hl,hr⟩;exact⟨A,c,rfl,hl,C_imp (hG.sz d d' hs) (hG.K d d' hs h) hr⟩
 ·rintro d d' hs h w base ok x cs ⟨v,rfl,hr⟩;exact⟨v,rfl,R_imp (hG.sz d d' hs) (hG.M d d' hs h) hr⟩
theorem mono_pair {α β γ:Type}{G:Kd α→Kd β}{H:Kd α→Kd γ}(hG:Mono G)(hH:Mono H):Mono (fun d=>pair (G d) (H d)):=by
 refine⟨fun d d' hs=>?_,?_,?_⟩
 ·show (G d).sz+(H d).sz=(G d').sz+(H d').sz;rw[hG.sz d d' hs,hH.sz d d' hs]
 ·rintro d d' hs h w x cs ⟨c0,c1,rfl,h0,h1⟩;exact⟨c0,c1,rfl,hG.K d d' hs h _ _ _ h0,hH.K d d' hs h _ _ _ h1⟩
 ·rintro d d' hs h w base ok x cs ⟨c0,c1,rfl,h0,h1⟩;exact⟨c0,c1,rfl,hG.M d d' hs h _ _ _ _ _ h0,hH.M d d' hs h _ _ _ _ _ h1⟩
theorem mono_iso {α β γ:Type}{G:Kd α→Kd β}(f:γ→β)(hG:Mono G):Mono (fun d=>iso (G d) f):=
 ⟨hG.sz,fun d d' hs h w x cs=>hG.K d d' hs h w (f x) cs,fun d d' hs h w base ok x cs=>hG.M d d' hs h w base ok (f x) cs⟩
def Sub {α β:Type}(F:Kd α→Kd β)(E:List Nat):Prop:=∀d:Kd α,(∀q,q∈d.E→q∈E)→∀q,q∈(F d).E→q∈E
theorem sub_const {α β:Type}{E:List Nat}(k:Kd β)(h:∀q,q∈k.E→q∈E):Sub (fun _:Kd α=>k) E:=fun _ _=>h
theorem sub_id {α:Type}{E:List Nat}:Sub (fun d:Kd α=>d) E:=fun _ h=>h
theorem sub_slice {α β:Type}{E:List Nat}(e:Nat){G:Kd α→Kd β}(he:e∈E)(hG:Sub G E):Sub (fun d=>slice e (G d)) E:=fun d h q hq=>by
 rcases List.mem_cons.1 hq with rfl | hq
 ·exact he
 ·exact hG d h q hq
theorem sub_pair {α β γ:Type}{E:List Nat}{G:Kd α→Kd β}{H:Kd α→Kd γ}(hG:Sub G E)(hH:Sub H E):Sub (fun d=>pair (G d) (H d)) E:=fun d h q hq=>by
 rcases List.mem_append.1 hq with hq | hq
 ·exact hG d h q hq
 ·exact hH d h q hq
theorem sub_iso {α β γ:Type}{E:List Nat}{G:Kd α→Kd β}(f:γ→β)(hG:Sub G E):Sub (fun d=>iso (G d) f) E:=hG
theorem upto_E {α:Type}{F:Kd α→Kd α}{sz:Nat}{E:List Nat}(h:Sub F E):∀n q,q∈(upto F sz E n).E→q∈E
 | 0,_,hq=>hq
 | n+1,q,hq=>h _ (upto_E h n) q hq
theorem upto_sz {α:Type}{F:Kd α→Kd α}{sz:Nat}{E:List Nat}(h:∀d:Kd α,(F d).sz=sz):∀n,(upto F sz E n).sz=sz
 | 0=>rfl
 | _+1=>h _
section
variable {α:Type}{F:Kd α→Kd α}{sz:Nat}{E:List Nat}{hs:∀n,(upto F sz E n).sz=sz}{hE:∀n q,q∈(upto F sz E n).E→q∈E}
theorem upto_K (hm:Mono F)(hs:∀n,(upto F sz E n).sz=sz):∀n {w x cs},(upto F sz E n).K w x cs→(upto F sz E (n+1)).K w x cs
 | 0,_,_,_,h=>h.elim
 | n+1,_,_,_,h=>hm.K _ _ (by rw[hs n,hs (n+1)]) (fun _ _ _ hk=>upto_K hm hs n hk) _ _ _ h
theorem Zoi (hm:Mono F)(hs:∀n,(upto F sz E n).sz=sz){n m:Nat}(hnm:n≤m){w x cs}(h:(upto F sz E n).K w x cs):(upto F sz E m).K w x cs:=by
 obtain⟨j,rfl⟩:=Nat.exists_eq_add_of_le hnm
 induction j with
 | zero=>exact h
 | succ j ih=>exact upto_K hm hs _ (ih (by omega))
theorem fix_C {n:Nat}{w:World}{A:Option Addr}{m:Nat}{xs:List α}(h:(upto F sz E n).C w A m xs):(fix F sz E hs hE).C w A m xs:=C_imp (d':=fix F sz E hs hE) (hs n) (fun w x cs hp=>(⟨n,hp⟩:∃n,(upto F sz E n).K w x cs)) h
theorem bounded {P:Nat→Nat→Prop}(hP:∀n m j,n≤m→P n j→P m j):∀m,(∀j,j<m→∃n,P n j)→∃N,∀j,j<m→P N j
 | 0,_=>⟨0,fun j hj=>absurd hj (Nat.not_lt_zero j)⟩
 | m+1,h=>by
  obtain⟨N,hN⟩:=bounded hP m (fun j hj=>h j (by omega));obtain⟨n,hn⟩:=h m (by omega);refine⟨max N n,fun j hj=>?_⟩
  rcases Nat.lt_or_ge j m with hj' | hj'
  ·exact hP N _ j (Nat.le_max_left _ _) (hN j hj')
  ·have:j=m:=by omega
   subst this;exact hP n _ j (Nat.le_max_right _ _) hn
theorem fix_C_back (hm:Mono F){w:World}{A:Option Addr}{m:Nat}{xs:List α}(h:(fix F sz E hs hE).C w A m xs):∃n,(upto F sz E n).C w A m xs:=by
 rcases Nat.eq_zero_or_pos m with hz | hpos
 ·subst hz;exact⟨0,h.1,h.2.1,fun hp=>absurd hp (Nat.lt_irrefl 0)⟩
 ·obtain⟨ad,e,hc⟩:=h.2.2 hpos;obtain⟨N,hN⟩:=bounded (P:=fun n j=>∀p,xs[j]?=some p→∃c,c.length=sz∧(upto F sz E n).K w p c∧∀i u,c[i]?=some u→w.cell? (ad.add (j*sz+i))=some u)
   (fun n n' j hnm hp p hj=>by
    obtain⟨c,h1,h2,h3⟩:=hp p hj;exact⟨c,h1,Zoi hm hs hnm h2,h3⟩) xs.length
   (fun j hj=>by
    obtain⟨c,h1,⟨n,h2⟩,h3⟩:=hc j _ (List.getElem?_eq_getElem hj);refine⟨n,fun p hp=>?_⟩;rw[List.getElem?_eq_getElem hj]at hp;injection hp with hp
    rw[←hp];exact⟨c,h1,h2,h3⟩)
  refine⟨N,h.1,h.2.1,fun _=>⟨ad,e,fun j p hj=>?_⟩⟩;rw[hs N];exact hN j (List.getElem?_eq_some_iff.1 hj).1 p hj
theorem upto_C_le (hm:Mono F)(hs:∀n,(upto F sz E n).sz=sz){n m:Nat}(hnm:n≤m){w:World}{A:Option Addr}{l:Nat}{xs:List α}(h:(upto F sz E n).C w A l xs):(upto F sz E m).C w A l xs:=C_imp (by rw[hs n,hs m]) (fun _ _ _ hp=>Zoi hm hs hnm hp) h
end
end Kd
namespace Kd
end Kd
namespace Kd
section
variable {α β:Type}{d:Kd α}{d':Kd β}{e e':Nat}{w w1 W:World}{base b b':Nat}{ok ok' okv oku:Nat→Prop}{v u:Value}{xs:List α}{ys:List β}
theorem R_alloc (h:d.R e w base ok v xs)(o:Obj):d.R e (w.alloc o) base ok v xs:=R_below h (Zab Zbr o)
theorem C_alloc {A:Option Addr}{n:Nat}(h:d.C w A n xs)(o:Obj):d.C (w.alloc o) A n xs:=C_below h (Zab Zbr o)
theorem C_drew {A:Option Addr}{n:Nat}(h:d.C w A n xs):d.C w.drew A n xs:=C_below h (Zao Zbr)
theorem C_drewN {A:Option Addr}{n:Nat}(h:d.C w A n xs)(m:Nat):d.C (w.drewN m) A n xs:=C_below h (Zag Zbr m)
theorem C_nil (d:Kd α)(w:World):d.C w none ([]:List α).length []:=⟨rfl,by simp,fun h=>absurd h (Nat.lt_irrefl 0)⟩
theorem R_reads' {A:Option Addr}{n c:Nat}(h:d.R e w base ok (.slice A n c) xs):n=xs.length∧n≤c∧d.C w A xs.length xs:=by
 obtain⟨A',c',he,hl,hr⟩:=R_reads h;injection he with h1 h2 h3
 subst h1;exact⟨h2,by omega,hr⟩
theorem R_lt (h:d.R e w base ok v xs):∀k,v.ownBlock=some k→k<w.heap.size:=by
 obtain⟨inner,ho⟩:=R_own h;exact Zdb ho
theorem R_base (h:d.R e w base ok v xs):∀k,v.ownBlock=some k→base≤k:=by
 obtain⟨inner,ho⟩:=R_own h;exact Zdo ho
theorem R_form (h:d.R e w base ok v xs)(hp:0<xs.length):∃g cap,v=.slice (some ⟨g,0,none⟩) xs.length cap∧base≤g∧g<w.heap.size∧∃cells,w.heap[g]?=some (.cells cells e (0,0)):=by
 obtain⟨inner,ho⟩:=R_own h;obtain⟨g,cap,he,hb,hl⟩:=ho.form hp;obtain⟨cells,hc⟩:=Zaq ho g (by rw[he];simp[Value.ownBlock]);exact⟨g,cap,he,hb,hl,cells,hc⟩
end
section
variable {w W:World}{A:Option Addr}{n:Nat}
theorem at_int {k:IntKind}{xs:List Int}(h:(Kd.int k).C w A n xs)(i:Int)(h0:0≤i)(h1:i<n):∃ad,A=some ad∧w.cell? (ad.add i.toNat)=some (.int k (rd xs i)):=
 ReadsOf.at_ (reads_of_C (enc:=Value.int k) (d:=(0:Int)) (h1:=fun _=>rfl) h) i h0 h1
theorem at_string {xs:List ByteArray}(h:Kd.string.C w A n xs)(i:Int)(h0:0≤i)(h1:i<n):∃ad,A=some ad∧w.cell? (ad.add i.toNat)=some (.string (rdOf ByteArray.empty xs i)):=
 ReadsOf.at_ (reads_of_C (enc:=Value.string) (d:=ByteArray.empty) (h1:=fun _=>rfl) h) i h0 h1
variable {α:Type}{enc:α→Value}{h1:∀x,(enc x).oneCell'=true}{e base g cap:Nat}{ok:Nat→Prop}{xs:List α}
end
section
variable {P:Program}{ops:Array Oper}{rest:List Oper}{o:Oper}{a:Act}{Q:Exit→Act→World→Prop}
variable {α:Type}
end
end Kd
theorem own_take {w:World}{base n m c size:Nat}{e:TypeId}{A:Option Addr}{xs:List Value}(h:w.ownsRow base e size (.slice A n c) n xs)(hm:m≤n):w.ownsRow base e size (.slice A m c) m (xs.take (m*size)):=by
 obtain⟨h1,h2⟩:=h;refine⟨by rw[List.length_take,h1];exact Nat.min_eq_left (Nat.mul_le_mul_right _ hm),?_⟩
 rcases h2 with⟨he,h0⟩ | ⟨g,cap,cur,he,hb,hh,hnc,hcm,hcs,ht⟩
 ·injection he with ha _ hc
  subst ha;subst hc;exact .inl ⟨by rw[show m=0 by omega],by omega⟩
 ·injection he with ha _ hc
  subst ha;subst hc;refine .inr ⟨g,c,cur,rfl,hb,hh,by omega,hcm,hcs,?_⟩;rw[←ht,List.take_take,Nat.min_eq_left (Nat.mul_le_mul_right _ hm)]
def QRow (w:World)(base:Nat)(e:TypeId)(size:Nat)(v:Value)(n:Nat)(xs:List Value):Prop:=
 xs.length=n*size ∧
 ((n=0∧∃A,v=.slice A 0 0∧∀a,A=some a→base≤a.block∧∃cur,w.heap[a.block]?=some (.cells cur e (0,0))) ∨
  ∃g off cap cur,v=.slice (some ⟨g,off*size,none⟩) n cap∧base≤g∧w.heap[g]?=some (.cells cur e (0,0))∧n≤cap∧off+cap≤maxLen∧cur.size=(off+cap)*size∧(cur.toList.drop (off*size)).take (n*size)=xs)
section
variable {w w1:World}{base n size:Nat}{e:TypeId}{v:Value}{xs:List Value}
theorem Zfr {g:Nat}:∀(vs:List Value) (o:Nat) {w:World} (k:Nat),k≠g→(w.setCells g o vs).heap[k]?=w.heap[k]?
 | [],_,_,_,_=>rfl
 | v :: r,o,w,k,hk=>by
  rw[World.setCells,Zfr r (o+1) k hk];exact Below.heap_setCell w ⟨g,o,none⟩ v k hk
theorem Zhg (g:Nat):∀(vs:List Value) (o:Nat) (w:World),(w.setCells g o vs).os=w.os∧(w.setCells g o vs).tape=w.tape∧(w.setCells g o vs).output=w.output∧(w.setCells g o vs).heap.size=w.heap.size
 | [],_,_=>⟨rfl,rfl,rfl,rfl⟩
 | v :: r,o,w=>by
  obtain⟨h1,h2,h3,h4⟩:=Zhg g r (o+1) (w.setCell ⟨g,o,none⟩ v);rw[World.setCells];exact⟨h1,h2,h3,by rw[h4];simp[World.setCell]⟩
theorem Ziz {g:Nat}{e:TypeId}:∀(vs:List Value) (o:Nat) (w:World) (cur:Array Value),w.heap[g]?=some (.cells cur e (0,0))→o+vs.length≤cur.size →
 ∃cur',(w.setCells g o vs).heap[g]?=some (.cells cur' e (0,0))∧cur'.size=cur.size∧cur'.toList=cur.toList.take o++vs++cur.toList.drop (o+vs.length)
 | [],o,w,cur,h,_=>⟨cur,h,rfl,by simp⟩
 | v :: r,o,w,cur,h,hl=>by
  have h2:=Zcd h o v;simp only[List.length_cons]at hl;obtain⟨cur',h3,h4,h5⟩:=Ziz r (o+1) (w.setCell ⟨g,o,none⟩ v) _ h2 (by simp;omega);refine⟨cur',h3,by rw[h4];simp,?_⟩;rw[h5,Array.toList_setIfInBounds];have ho:o<cur.toList.length:=by rw[Array.length_toList];omega
  rw[List.take_set,List.drop_set_of_lt (by omega)];simp only[List.length_cons];rw[show o+1+r.length=o+(r.length+1) by omega]
  congr 1
  rw[List.take_succ_eq_append_getElem ho,List.set_append_right _ _ (by rw[List.length_take];omega)];have ho':o<cur.size:=by omega
  simp[Nat.min_eq_left (Nat.le_of_lt ho')]
end
namespace Kd
theorem reps_take {α:Type}{R:α→List Value→Prop}{size m:Nat}{ps:List α}{cs:List Value}(h:Reps R size ps cs)(hm:m≤ps.length):Reps R size (ps.take m) (cs.take (m*size)):=by
 refine⟨by rw[List.length_take,List.length_take,h.1,Nat.min_eq_left hm,Nat.min_eq_left (Nat.mul_le_mul_right _ hm)],fun j p hj=>?_⟩;rw[List.getElem?_take]at hj
 split at hj
 ·rename_i hjm
  have:=h.2 j p hj;have hle:j*size+size≤m*size:=by rw[←Nat.succ_mul];exact Nat.mul_le_mul_right _ hjm
  rw[List.drop_take,List.take_take,Nat.min_eq_left (by omega)];exact this
 ·cases hj
theorem R_take {α:Type}{d:Kd α}{e m n c:Nat}{w:World}{base:Nat}{ok:Nat→Prop}{A:Option Addr}{xs:List α}(h:d.R e w base ok (.slice A n c) xs)(hm:m≤xs.length):d.R e w base ok (.slice A m c) (xs.take m):=by
 obtain⟨h0,inner,ho,hr⟩:=h;have hn:n=xs.length:=by
  obtain⟨A',c',he⟩:=Zox ho;injection he
 subst hn;have hb:∀x y:Nat,(Value.slice A x c).ownBlock=(Value.slice A y c).ownBlock:=by
  intro x y;cases A <;> rfl
 refine⟨fun k hk=>h0 k (by rw[hb _ m];exact hk),inner.take (m*d.sz),?_,?_⟩
 ·rw[List.length_take,Nat.min_eq_left hm];exact own_take ho hm
 ·rw[hb m xs.length];exact reps_take hr hm
def Q {α:Type}(d:Kd α)(e:Nat)(w:World)(base:Nat)(ok:Nat→Prop)(v:Value)(xs:List α):Prop:=
 (∀k,v.ownBlock=some k→ok k)∧∃inner,QRow w base e d.sz v xs.length inner∧Reps (d.M w base (fun k=>ok k∧some k≠v.ownBlock)) d.sz xs inner
end Kd
namespace Kd
end Kd
theorem Zkc {α:Type}(a seg:List α)(o:Nat)(h:o+seg.length≤a.length)(q:Nat) :
 (a.take o++seg++a.drop (o+seg.length))[q]?=if q<o then a[q]? else if q<o+seg.length then seg[q-o]? else a[q]?:=by
 have hl:(a.take o).length=o:=by rw[List.length_take];omega
 rw[List.append_assoc];by_cases h1:q<o
 ·rw[if_pos h1,List.getElem?_append_left (by omega),List.getElem?_take,if_pos h1]
 ·rw[if_neg h1,List.getElem?_append_right (by omega),hl];by_cases h2:q<o+seg.length
  ·rw[if_pos h2,List.getElem?_append_left (by omega)]
  ·rw[if_neg h2,List.getElem?_append_right (by omega),List.getElem?_drop]
   congr 1
   omega
namespace Kd
section
variable {α:Type}{d:Kd α}{e base g n cap:Nat}{ok okp:Nat→Prop}{W:World}{xs:List α}
theorem R_elem (h:d.R e W base ok (.slice (some ⟨g,0,none⟩) n cap) xs)(z:α)(i:Int)(h0:0≤i)(h1:i<n) :
 ∃c,c.length=d.sz∧d.M W base (fun k=>ok k∧k≠g) (xs.getD i.toNat z) c∧(∀j u,c[j]?=some u→W.cell? ⟨g,i.toNat*d.sz+j,none⟩=some u)∧∀j,W.frozen? ⟨g,i.toNat*d.sz+j,none⟩=false:=by
 obtain⟨hn,hnc,hC⟩:=R_reads' h;obtain⟨_,inner,ho,hr⟩:=h;have hil:i.toNat<xs.length:=by omega
 have hseg:i.toNat*d.sz+d.sz≤inner.length:=by rw[hr.1,←Nat.succ_mul];exact Nat.mul_le_mul_right _ hil
 have hM:=hr.2 i.toNat _ (List.getElem?_eq_getElem hil);refine⟨(inner.drop (i.toNat*d.sz)).take d.sz,by rw[List.length_take,List.length_drop];omega,?_,fun j u hu=>?_,fun j=>?_⟩
 ·rw[List.getD_eq_getElem?_getD,List.getElem?_eq_getElem hil];exact d.M_mono (fun k hk=>⟨hk.1,fun he=>hk.2 (by rw[he];simp[Value.ownBlock])⟩) hM
 ·rw[List.getElem?_take]at hu
  split at hu
  ·rw[List.getElem?_drop]at hu;have:=ho.cells (g:=g) (by simp[Value.ownBlock]) _ u hu;rwa[Zif]at this
  ·cases hu
 ·obtain⟨cells,hc⟩:=Zaq ho g (by simp[Value.ownBlock]);exact Zam hc _
theorem R_seg (h:d.R e W base ok (.slice (some ⟨g,0,none⟩) n cap) xs)(i:Int)(h0:0≤i)(h1:i<n){c seg:List Value}{j:Nat}(hcl:c.length=d.sz)(hcc:∀j u,c[j]?=some u→W.cell? ⟨g,i.toNat*d.sz+j,none⟩=some u)
 (hj:j+seg.length≤d.sz) {x':α} (hM:d.M W base okp x' (c.take j++seg++c.drop (j+seg.length))) (hokp:∀k,okp k→ok k∧k≠g) :
 d.R e (W.setCells g (i.toNat*d.sz+j) seg) base ok (.slice (some ⟨g,0,none⟩) n cap) (xs.set i.toNat x')∧W.grownBy (W.setCells g (i.toNat*d.sz+j) seg) (some g):=by
 obtain⟨hn,hnc,_⟩:=R_reads' h;obtain⟨hok,inner,ho,hr⟩:=h;have hil:i.toNat<xs.length:=by omega
 have hseg:i.toNat*d.sz+d.sz≤inner.length:=by rw[hr.1,←Nat.succ_mul];exact Nat.mul_le_mul_right _ hil
 have hin:inner.length=n*d.sz:=by rw[hr.1,hn]
 obtain⟨ho1,ho2⟩:=ho
 rcases ho2 with⟨hv,_⟩ | ⟨g',cap',cur,hv,hb,hh,hnc',hcm,hcs,ht⟩
 ·cases hv
 injection hv with ha _ hc
 injection ha with ha
 injection ha with hg
 subst hg;subst hc;have hfit:i.toNat*d.sz+j+seg.length≤cur.size:=by
  have:n*d.sz≤cap*d.sz:=Nat.mul_le_mul_right _ hnc;omega
 obtain⟨cur',h3,h4,h5⟩:=Ziz seg (i.toNat*d.sz+j) W cur hh hfit;obtain⟨s1,s2,s3,s4⟩:=Zhg g seg (i.toNat*d.sz+j) W;have hfar:∀k,k≠g→(W.setCells g (i.toNat*d.sz+j) seg).heap[k]?=W.heap[k]?:=fun k hk=>Zfr seg _ k hk
 have hcin:∀q,q<d.sz→c[q]?=inner[i.toNat*d.sz+q]?:=by
  intro q hq;have hq':q<c.length:=by omega
  have h6:=hcc q _ (List.getElem?_eq_getElem hq');rw[cell_of_row W g _ cur e (0,0) hh]at h6;rw[List.getElem?_eq_getElem hq',←h6,←ht,List.getElem?_take,if_pos (by rw[←hn];omega),Array.getElem?_toList]
 refine⟨⟨hok,inner.take (i.toNat*d.sz+j)++seg++inner.drop (i.toNat*d.sz+j+seg.length),⟨?_,.inr ⟨g,cap,cur',by rw[List.length_set,hn],hb,h3,by rw[List.length_set,←hn];exact hnc,hcm,by rw[h4,hcs],?_⟩⟩,?_⟩,
  ⟨s1,s2,s3,by rw[s4];exact Nat.le_refl _,fun k _ hk=>hfar k (fun he=>hk (by rw[he]))⟩⟩
 ·rw[List.length_set];simp only[List.length_append,List.length_take,List.length_drop];rw[hr.1]at hseg ⊢;omega
 ·rw[List.length_set,←hn];apply List.ext_getElem?;intro q;rw[List.getElem?_take,h5];rw[Zkc cur.toList seg (i.toNat*d.sz+j) (by rw[Array.length_toList];omega) q,Zkc inner seg (i.toNat*d.sz+j) (by omega) q];have hcur:∀q,q<n*d.sz→cur.toList[q]?=inner[q]?:=by
   intro q hq;rw[←ht,List.getElem?_take,if_pos (by rw[←hn];exact hq)]
  by_cases hq:q<n*d.sz
  ·rw[if_pos hq,hcur q hq]
  ·rw[if_neg hq,if_neg (by omega),if_neg (by omega),List.getElem?_eq_none (by omega)]
 ·refine⟨?_,fun m p hm=>?_⟩
  ·rw[List.length_set];simp only[List.length_append,List.length_take,List.length_drop];rw[hr.1]at hseg ⊢;omega
  ·have hml:m<xs.length:=by
    have:=(List.getElem?_eq_some_iff.1 hm).1;rwa[List.length_set]at this
   have hmfit:m*d.sz+d.sz≤inner.length:=by rw[hr.1,←Nat.succ_mul];exact Nat.mul_le_mul_right _ hml
   have hgo:some g=(Value.slice (some ⟨g,0,none⟩) n cap).ownBlock:=by simp[Value.ownBlock]
   by_cases hmi:m=i.toNat
   ·subst hmi;rw[List.getElem?_set_self (by omega)]at hm;injection hm with hm
    subst hm;have hcells:((inner.take (i.toNat*d.sz+j)++seg++inner.drop (i.toNat*d.sz+j+seg.length)).drop (i.toNat*d.sz)).take d.sz=c.take j++seg++c.drop (j+seg.length):=by
     apply List.ext_getElem?;intro q;rw[List.getElem?_take,List.getElem?_drop,Zkc inner seg _ (by omega),Zkc c seg j (by omega) q];by_cases hq:q<d.sz
     ·rw[if_pos hq,hcin q hq];by_cases hq1:q<j
      ·rw[if_pos (by omega),if_pos hq1]
      ·rw[if_neg (by omega),if_neg hq1];by_cases hq2:q<j+seg.length
       ·rw[if_pos (by omega),if_pos hq2]
        congr 1
        omega
       ·rw[if_neg (by omega),if_neg hq2]
     ·rw[if_neg hq,if_neg (by omega),if_neg (by omega),List.getElem?_eq_none (by omega)]
    rw[hcells];refine d.M_mono (fun k hk=>?_) (d.M_move (w1:=W.setCells g (i.toNat*d.sz+j) seg) (fun k hk=>hfar k (hokp k hk).2) hM);exact⟨(hokp k hk).1,fun he=>(hokp k hk).2 (by rw[←hgo]at he;injection he)⟩
   ·rw[List.getElem?_set_ne (by omega)]at hm;have hold:=hr.2 m p hm;have hcells:((inner.take (i.toNat*d.sz+j)++seg++inner.drop (i.toNat*d.sz+j+seg.length)).drop (m*d.sz)).take d.sz=(inner.drop (m*d.sz)).take d.sz:=by
     apply List.ext_getElem?;intro q;rw[List.getElem?_take,List.getElem?_take,List.getElem?_drop,List.getElem?_drop,Zkc inner seg _ (by omega)];by_cases hq:q<d.sz
     ·rw[if_pos hq,if_pos hq]
      rcases Nat.lt_or_gt_of_ne hmi with hlt | hgt
      ·have:m*d.sz+d.sz≤i.toNat*d.sz:=by rw[←Nat.succ_mul];exact Nat.mul_le_mul_right _ hlt
       rw[if_pos (by omega)]
      ·have:i.toNat*d.sz+d.sz≤m*d.sz:=by rw[←Nat.succ_mul];exact Nat.mul_le_mul_right _ hgt
       rw[if_neg (by omega),if_neg (by omega)]
     ·rw[if_neg hq,if_neg hq]
    rw[hcells];refine d.M_move (fun k hk=>hfar k (fun he=>hk.2 (by rw[he];exact hgo))) hold
end
end Kd
namespace Kd
end Kd
namespace Kd
theorem reps_append {α:Type}{R:α→List Value→Prop}{size:Nat}{ps qs:List α}{cs ds:List Value}(h:Reps R size ps cs)(h':Reps R size qs ds):Reps R size (ps++qs) (cs++ds):=by
 refine⟨by rw[List.length_append,List.length_append,h.1,h'.1,Nat.add_mul],fun j p hj=>?_⟩
 rcases Nat.lt_or_ge j ps.length with hlt | hge
 ·rw[List.getElem?_append_left hlt]at hj;have hle:j*size+size≤cs.length:=by rw[h.1,←Nat.succ_mul];exact Nat.mul_le_mul_right _ hlt
  rw[List.drop_append_of_le_length (by omega),List.take_append_of_le_length (by rw[List.length_drop];omega)];exact h.2 j p hj
 ·rw[List.getElem?_append_right hge]at hj;have h2:=h'.2 (j-ps.length) p hj;have hle:ps.length*size≤j*size:=Nat.mul_le_mul_right _ hge;rw[List.drop_append,List.drop_eq_nil_of_le (by rw[h.1];exact hle),List.nil_append,h.1,←Nat.sub_mul];exact h2
section
variable {P:Program}{ops:Array Oper}{rest:List Oper}{o:Oper}{a:Act}{Q:Exit→Act→World→Prop}{α:Type}
theorem R_append_rows (d:Kd α){Rr:α→List Value→Prop}{w0 W:World}(base:Nat)(hgd:o.guard=none)(s x:Operand)(t e:TypeId)(z:Value)(bytes:Nat)
 (ho:o.op=.call { callee:=.builtin .append,args:=#[s,x],argTypes:=#[t,t] })
 (ht:P.underlying t=some (.slice e)) (hinfo:(P.info? e).map (fun i=>(i.zero,i.size,i.bytes))=some (some z,d.sz,bytes)) (hz:z.cells.size=d.sz) (hs0:0<d.sz) (hb0:0<bytes)
 (v:Value) (xs ys:List α) (A:Option Addr) (m c:Nat) (ok okp:Nat→Prop) (hs:a.eval s=v) (hx:a.eval x=.slice A m c)
 (HO:d.R e W base ok v xs) (HR:ReadsRow Rr d.sz W A m ys) (hKM:∀x cs,Rr x cs→d.M W base okp x cs) (hokp:∀k,okp k→ok k∧some k≠v.ownBlock) (hfresh:∀k,W.heap.size≤k→ok k)
 (HB:Below base w0 W) (hbase:base≤W.heap.size) (hl:(xs.length+m)*bytes≤140737488355328)
 (h:∀v1 w1,d.R e w1 base ok v1 (xs++ys)→Below base w0 w1→W.grownBy w1 v.ownBlock→(v1.ownBlock=v.ownBlock∨∃b,v1.ownBlock=some b∧W.heap.size≤b)→wpList P ops Q rest (a.put o.dst v1) w1) :
 wpList P ops Q (o :: rest) a W:=by
 obtain⟨i0,hi,hzz⟩:=Option.map_eq_some_iff.1 hinfo;simp only[Prod.mk.injEq]at hzz;obtain⟨hz0,hz1,hz2⟩:=hzz;have hm:ys.length=m:=HR.1;have hlen:xs.length+m≤140737488355328:=Nat.le_trans (Nat.le_mul_of_pos_right _ hb0) hl;obtain⟨hok,inner,hown,hr⟩:=HO;have hrun:∃v1 w1,(Builtin.append_ #[t,t] o.type #[v,.slice A m c]).run P W=.ok v1 w1∧d.R e w1 base ok v1 (xs++ys)∧W.grownBy w1 v.ownBlock∧(v1.ownBlock=v.ownBlock∨∃b,v1.ownBlock=some b∧W.heap.size≤b):=by
  rcases A with _ | ad
  ·have h0:m=0:=by
    rcases Nat.eq_zero_or_pos m with h0 | h0
    ·exact h0
    ·obtain⟨ad,h,_⟩:=HR.2.2 h0;cases h
   subst h0;obtain rfl:ys=[]:=List.eq_nil_of_length_eq_zero hm;refine⟨v,W,?_,by rw[List.append_nil];exact⟨hok,inner,hown,hr⟩,World.grownBy.refl W _,.inl rfl⟩
   rcases hown.2 with⟨rfl,hn⟩ | ⟨g,cap,cur,rfl,_,_,hnc,_⟩
   ·simp[Builtin.append_,run_underlying ht,sizeOf,typeInfo,hi,Builtin.lenOf,Builtin.firstCells]
   ·simp[Builtin.append_,run_underlying ht,sizeOf,typeInfo,hi,Builtin.lenOf,Builtin.firstCells,hnc,storeCells]
  ·obtain⟨news,hnr,hnc⟩:=ReadsRow.inner_ HR;have hnM:Reps (d.M W base okp) d.sz ys news:=hnr.imp_ (fun p c hp=>hKM p c hp);have hone:∀u∈news,u.oneCell'=true:=by
    intro u hu;obtain⟨q,hq,rfl⟩:=List.mem_iff_getElem.1 hu;have hql:q / d.sz<ys.length:=by
     rw[Nat.div_lt_iff_lt_mul hs0];rw[←hnM.1];exact hq
    have hc:=hnM.2 (q / d.sz) _ (List.getElem?_eq_getElem hql);refine d.K_one (d.K_of_M hc) _ ?_
    rw[List.mem_iff_getElem?];refine⟨q % d.sz,?_⟩;rw[List.getElem?_take,if_pos (Nat.mod_lt _ hs0),List.getElem?_drop,Nat.mul_comm,Nat.div_add_mod,List.getElem?_eq_getElem hq]
   obtain⟨v1,w1,hrun,h2,hg,_,hat⟩:=run_append_own_at (P:=P) W base t o.type e i0 z d.sz bytes ht hi hz0 hz1 hz2 hz hs0 v xs.length inner hown ad m c news (by rw[hnM.1,hm]) hnc hone (by simp only[maxLen];omega) hl hbase;have hat':v1.ownBlock=v.ownBlock∨∃b,v1.ownBlock=some b∧W.heap.size≤b:=by
    rcases hat with hat | hat
    ·exact .inl hat
    ·exact .inr ⟨_,hat,Nat.le_refl _⟩
   have hne:∀k,some k≠v.ownBlock→k<W.heap.size→some k≠v1.ownBlock:=by
    intro k hk hlt
    rcases hat' with hat | ⟨b,hb,hle⟩
    ·rw[hat];exact hk
    ·rw[hb];intro he;injection he with he
     omega
   have step:∀{q:α} {c:List Value} {o:Nat→Prop},d.M W base o q c→(∀k,o k→ok k∧some k≠v.ownBlock)→d.M w1 base (fun k=>ok k∧some k≠v1.ownBlock) q c:=by
    intro q c o hq ho;have h1:=d.M_move (w1:=w1) (fun k hk=>hg.block k hk.2.2.1 (ho k hk.1).2) (d.M_bound hq);exact d.M_mono (fun k hk=>⟨(ho k hk.1).1,hne k (ho k hk.1).2 hk.2.2.1⟩) h1
   refine⟨v1,w1,hrun,⟨fun k hk=>?_,inner++news,by rw[List.length_append,hm];exact h2,reps_append (hr.imp_ (fun _ _ hq=>step hq (fun _ hk=>hk))) (hnM.imp_ (fun _ _ hq=>step hq hokp))⟩,hg,hat'⟩
   rcases hat' with hat | ⟨b,hb,hle⟩
   ·exact hok k (hat▸hk)
   ·rw[hb]at hk;injection hk with hk
    exact hfresh k (by omega)
 obtain⟨v1,w1,hr1,h1,hg,hat⟩:=hrun;refine wpList_plain hgd fun K hK=>?_
 unfold Oper.wp execOp;simp only[ho,resolve,invoke,builtin,Sem.run_bind,Sem.run_pure,Result.andThen_ok,List.map_toArray,List.map_cons,List.map_nil,hs,hx,hr1];exact hK _ _ (h v1 w1 h1 (HB.grown hg hbase (Zdo hown)) hg hat)
end
end Kd
theorem Zna {P:Program}{w:World}{g o:Nat}{e:TypeId}{cur:Array Value}(t:TypeId)(u:Value)(seg:List Value)(hh:w.heap[g]?=some (.cells cur e (0,0)))(hu:u.cells.toList=seg)(ht:(P.info? t).map (·.size)=some seg.length)
 (hfit:o+seg.length≤cur.size) (h1:∀q∈seg,q.oneCell'=true):(Instr.storeAt t (.pointer (some ⟨g,o,none⟩)) u).run P w=.ok () (w.setCells g o seg):=by
 obtain⟨i,hi,hsz⟩:=Option.map_eq_some_iff.1 ht;have hc:u.cells.size=i.size:=by rw[hsz,←hu,Array.length_toList]
 have hst:=run_storeCells_cells (P:=P) g o seg 0 w (fun j hj=>by rw[cell_of_row w g _ cur e (0,0) hh];simp;omega) (fun j _=>Zam hh _) h1;simp only[Nat.add_zero]at hst;simp[Instr.storeAt,Instr.sureAddr,storeVar,sizeOf,typeInfo,hi,hc,hu,hst]
namespace Kd
section
variable {P:Program}{ops:Array Oper}{rest:List Oper}{o:Oper}{a:Act}{Q:Exit→Act→World→Prop}{α:Type}
theorem R_store (d:Kd α){w0 W:World}(base:Nat)(hN:o.dst=none)(hgd:o.guard=none)(t:TypeId)(p x:Operand)(ho:o.op=.store t p x)(e:TypeId){g n cap o':Nat}(i:Int)(j:Nat)(xs:List α)(x':α)(u:Value)(seg c:List Value)(ok okp:Nat→Prop)
 (haddr:a.eval p=.pointer (some ⟨g,o',none⟩)) (hoff:o'=i.toNat*d.sz+j) (hx:a.eval x=u) (hu:u.cells.toList=seg) (ht:(P.info? t).map (·.size)=some seg.length) (h1:∀q∈seg,q.oneCell'=true)
 (HO:d.R e W base ok (.slice (some ⟨g,0,none⟩) n cap) xs) (h0:0≤i) (hi:i<n) (hcl:c.length=d.sz) (hcc:∀j u,c[j]?=some u→W.cell? ⟨g,i.toNat*d.sz+j,none⟩=some u)
 (hj:j+seg.length≤d.sz) (hM:d.M W base okp x' (c.take j++seg++c.drop (j+seg.length))) (hokp:∀k,okp k→ok k∧k≠g) (HB:Below base w0 W)
 (h:∀w1,d.R e w1 base ok (.slice (some ⟨g,0,none⟩) n cap) (xs.set i.toNat x')→Below base w0 w1→W.grownBy w1 (some g)→wpList P ops Q rest a w1):wpList P ops Q (o :: rest) a W:=by
 subst hoff;obtain⟨hrow,hg⟩:=R_seg HO i h0 hi hcl hcc hj hM hokp;have hbg:base≤g:=R_base HO g (by simp[Value.ownBlock]);have hnx:n=xs.length:=(R_reads' HO).1;obtain⟨_,inner,hown,hr⟩:=HO;have hil:i.toNat<n:=by omega
 have hB:Below base w0 (W.setCells g (i.toNat*d.sz+j) seg):=HB.trans ⟨hg.os,hg.tape,hg.output,hg.size,fun k hk=>by
  have hlt:k<W.heap.size∨W.heap.size≤k:=Nat.lt_or_ge _ _
  rcases hlt with hlt | hge
  ·exact hg.block k hlt (fun he=>by injection he with he;omega)
  ·exact Zfr seg _ k (by omega)⟩
 refine wpList_plain hgd fun K hK=>?_
 have hrun:(Instr.storeAt t (.pointer (some ⟨g,i.toNat*d.sz+j,none⟩)) u).run P W=.ok () (W.setCells g (i.toNat*d.sz+j) seg):=by
  rcases hown.2 with⟨hv,_⟩ | ⟨g',cap',cur,hv,hb,hh,hnc,hcm,hcs,_⟩
  ·cases hv
  injection hv with ha _ hc
  injection ha with ha
  injection ha with hg'
  subst hg';subst hc;refine Zna t u seg hh hu ht ?_ h1
  have h2:i.toNat*d.sz+d.sz≤n*d.sz:=by rw[←Nat.succ_mul];exact Nat.mul_le_mul_right _ hil
  have h3:n*d.sz≤cap*d.sz:=Nat.mul_le_mul_right _ (by omega);omega
 unfold Oper.wp execOp;simp only[ho,haddr,hx,Sem.run_bind,Sem.run_pure,Result.andThen_ok,hrun];show K (a.put o.dst undef) _;rw[hN];exact hK a _ (h _ hrow hB hg)
end
end Kd
theorem add_add (a:Addr)(i j:Nat):(a.add i).add j=a.add (i+j):=by
 unfold Addr.add;by_cases h1:i=0 <;> by_cases h2:j=0 <;> simp[h1,h2,Nat.add_assoc]
namespace Kd
section
variable {α:Type}{k:Kd α}{w:World}{A:Option Addr}{xs:List α}{m c:Nat}
theorem C_take (h:k.C w A xs.length xs)(hm:m≤xs.length):k.C w A (xs.take m).length (xs.take m):=by
 have hl:(xs.take m).length=m:=by rw[List.length_take];omega
 refine⟨rfl,by rw[hl];have:=h.2.1;omega,fun hp=>?_⟩;obtain⟨ad,e,hc⟩:=h.2.2 (by omega);refine⟨ad,e,fun j p hj=>hc j p ?_⟩;rw[List.getElem?_take]at hj
 split at hj
 ·exact hj
 ·cases hj
theorem C_drop (h:k.C w A xs.length xs)(hm:m≤xs.length)(hc:xs.length≤c):k.C w (if c=m then A else A.map (·.add (m*k.sz))) (xs.drop m).length (xs.drop m):=by
 have hl:(xs.drop m).length=xs.length-m:=List.length_drop;refine⟨rfl,by rw[hl];have:=h.2.1;omega,fun hp=>?_⟩;rw[hl]at hp;obtain⟨ad,rfl,hcell⟩:=h.2.2 (by omega);rw[if_neg (by omega)];refine⟨ad.add (m*k.sz),rfl,fun j p hj=>?_⟩;rw[List.getElem?_drop]at hj;obtain⟨cs,h1,h2,h3⟩:=hcell (m+j) p hj;refine⟨cs,h1,h2,fun i u hu=>?_⟩;rw[add_add,show m*k.sz+(j*k.sz+i)=(m+j)*k.sz+i by rw[Nat.add_mul];omega];exact h3 i u hu
end
end Kd
theorem Zcs {w W:World}(h:Below w.heap.size w W):w.heap.size≤W.heap.size:=h.size
theorem Zae {w W w2:World}(h:Below w.heap.size w W)(k:Below W.heap.size W w2):Below w.heap.size w w2:=Zfb h h.size k
theorem ReadsInt.nil (W:World)(k:IntKind):ReadsInt W k none ([]:List Int).length []:=⟨rfl,by simp,fun h=>absurd h (Nat.lt_irrefl 0)⟩
theorem ReadsInt.drewN {W:World}{k:IntKind}{A:Option Addr}{n:Nat}{xs:List Int}(h:ReadsInt W k A n xs)(m:Nat):ReadsInt (W.drewN m) k A n xs:=h
theorem Zcp {w W:World}{g j:Nat}{v:Value}(h:Below w.heap.size w W)(hg:w.heap.size≤g):Below w.heap.size w (W.setCell ⟨g,j,none⟩ v):=h.setCell hg _
theorem Zpi {w W:World}{g:Nat}(h:KeepBut w W g none){a:Addr}{v:Value}(hc:w.cell? a=some v)(hne:a.block≠g):W.cell? a=some v:=by
 have:=h.2 a.block (World.block_lt_of_cell? w a hc) hne (by simp);simpa[World.cell?,this]using hc
theorem add_block (a:Addr)(i:Nat):(a.add i).block=a.block:=by unfold Addr.add;split <;> rfl
theorem ReadsOf.nil {α:Type}(enc:α→Value)(d:α)(W:World):ReadsOf enc d W none ([]:List α).length []:=⟨rfl,by simp,fun h=>absurd h (Nat.lt_irrefl 0)⟩
theorem ReadsOf.drewN {α:Type}{enc:α→Value}{d:α}{W:World}{A:Option Addr}{n:Nat}{xs:List α}(h:ReadsOf enc d W A n xs)(m:Nat):ReadsOf enc d (W.drewN m) A n xs:=h
theorem far_own {W:World}{base n c g:Nat}{e:TypeId}{size:Nat}{A:Option Addr}{xs:List Value}(_:W.ownsRow base e size (.slice A n c) n xs)(hne:some g≠(Value.slice A n c).ownBlock):∀ad,A=some ad→0<n→ad.block≠g:=by
 rintro ad rfl _ rfl;exact hne (by simp[Value.ownBlock])
theorem ReadsInt.keep {w W:World}{k:IntKind}{A:Option Addr}{n g:Nat}{xs:List Int}(h:ReadsInt w k A n xs)(hk:KeepBut w W g none)(hf:∀ad,A=some ad→0<n→ad.block≠g):ReadsInt W k A n xs:=
 ⟨h.1,h.2.1,fun hn=>by
  obtain⟨ad,e,hc⟩:=h.2.2 hn;exact⟨ad,e,fun j hj=>Zpi hk (hc j hj) (by rw[add_block];exact hf ad e hn)⟩⟩
theorem ReadsOf.keep {α:Type}{enc:α→Value}{d:α}{w W:World}{A:Option Addr}{n g:Nat}{xs:List α}(h:ReadsOf enc d w A n xs)(hk:KeepBut w W g none)(hf:∀ad,A=some ad→0<n→ad.block≠g):ReadsOf enc d W A n xs:=
 ⟨h.1,h.2.1,fun hn=>by
  obtain⟨ad,e,hc⟩:=h.2.2 hn;exact⟨ad,e,fun j hj=>Zpi hk (hc j hj) (by rw[add_block];exact hf ad e hn)⟩⟩
theorem Zce {w:World}{g:Nat}{t:TypeId}{cs cs':Array Value}(h:w.heap[g]?=some (.cells cs t (0,0)))(i:Nat)(u:Value)(e:cs.setIfInBounds i u=cs'):(w.setCell ⟨g,i,none⟩ u).heap[g]?=some (.cells cs' t (0,0)):=e▸Zcd h i u
theorem Zdm {base:Nat}{w W:World}(h:Below base w W):Below base w W.drew:=h.drew
namespace Kd
section
variable {α β:Type}{d:Kd α}{d':Kd β}{e e' base base' n:Nat}{ok ok':Nat→Prop}{w W w1 W1:World}{v u:Value}{xs:List α}{ys:List β}{A:Option Addr}{c:Nat}
theorem far_own {g:Nat}(_:d.R e w base ok (.slice A n c) xs)(hne:some g≠(Value.slice A n c).ownBlock):∀ad,A=some ad→0<n→ad.block≠g:=by
 rintro ad rfl _ rfl;exact hne (by simp[Value.ownBlock])
end
end Kd
namespace Kd
end Kd
section
variable {P:Program}{ops:Array Oper}{rest:List Oper}{o:Oper}{a:Act}{Q:Exit→Act→World→Prop}
theorem Kd.R_append_row {α:Type}(enc:α→Value)(d:α){h1:∀x:α,(enc x).oneCell'=true}{w0 W:World}(base:Nat)(hgd:o.guard=none)(s x:Operand)(t e:TypeId)(z:Value)(bytes:Nat)
 (ho:o.op=.call { callee:=.builtin .append,args:=#[s,x],argTypes:=#[t,t] })
 (ht:P.underlying t=some (.slice e)) (hinfo:(P.info? e).map (fun i=>(i.zero,i.size,i.bytes))=some (some z,1,bytes)) (hz:z.cells.size=1) (hb0:0<bytes)
 (v:Value) (xs ys:List α) (A:Option Addr) (m c:Nat) (ok:Nat→Prop) (hs:a.eval s=v) (hx:a.eval x=.slice A m c) (hfresh:∀k,W.heap.size≤k→ok k)
 (HO:(Kd.scalar enc h1).R e W base ok v xs) (HR:(Kd.scalar enc h1).C W A m ys) (HB:Below base w0 W) (hbase:base≤W.heap.size) (hl:(xs.length+m)*bytes≤140737488355328)
 (h:∀v1 w1,(Kd.scalar enc h1).R e w1 base ok v1 (xs++ys)→Below base w0 w1→W.grownBy w1 v.ownBlock→(v1.ownBlock=v.ownBlock∨∃b,v1.ownBlock=some b∧W.heap.size≤b)→wpList P ops Q rest (a.put o.dst v1) w1) :
 wpList P ops Q (o :: rest) a W:=by
 refine Zgw (w0:=w0) enc d base hgd s x t e z bytes ho ht hinfo hz hb0 h1 v xs ys A m c hs hx (Kd.own_of_R HO) (Kd.reads_of_C (d:=d) HR) HB hbase hl ?_
 intro v1 w1 hown hb hg hat;refine h v1 w1 (Kd.R_of_own hown (fun k hk=>?_)) hb hg hat
 rcases hat with e1 | ⟨b,e1,hbb⟩
 ·exact HO.1 k (by rw[←e1];exact hk)
 ·rw[e1]at hk;injection hk with hk
  subst hk;exact hfresh _ hbb
end
namespace Kd
end Kd
namespace Kd
end Kd
section
variable {P:Program}{ops:Array Oper}{rest:List Oper}{o:Oper}{a:Act}{Q:Exit→Act→World→Prop}{W:World}
theorem Zbb {t:TypeId}{p:Tmp}{v:Operand}(_ho:o.op=.store t (.tmp p) v)(h:wpList P ops Q (o :: rest) a W):wpList P ops Q (o :: rest) a W:=h
end
section
variable {P:Program}{ops:Array Oper}{o:Oper}{a:Act}{Q:Exit→Act→World→Prop}{Kc:Act→World→Prop}
namespace Kd
variable {α:Type}
theorem R_append_rows_step (d:Kd α){Rr:α→List Value→Prop}{w0 W:World}(base:Nat)(hw:Region.wanted o (yielded ops a.tmps)=true)(s x:Operand)(t e:TypeId)(z:Value)(bytes:Nat)
 (ho:o.op=.call { callee:=.builtin .append,args:=#[s,x],argTypes:=#[t,t] })
 (ht:P.underlying t=some (.slice e)) (hinfo:(P.info? e).map (fun i=>(i.zero,i.size,i.bytes))=some (some z,d.sz,bytes)) (hz:z.cells.size=d.sz) (hs0:0<d.sz) (hb0:0<bytes)
 (v:Value) (xs ys:List α) (A:Option Addr) (m c:Nat) (ok okp:Nat→Prop) (hs:a.eval s=v) (hx:a.eval x=.slice A m c)
 (HO:d.R e W base ok v xs) (HR:ReadsRow Rr d.sz W A m ys) (hKM:∀x cs,Rr x cs→d.M W base okp x cs) (hokp:∀k,okp k→ok k∧some k≠v.ownBlock) (hfresh:∀k,W.heap.size≤k→ok k)
 (HB:Below base w0 W) (hbase:base≤W.heap.size) (hl:(xs.length+m)*bytes≤140737488355328)
 (h:∀v1 w1,d.R e w1 base ok v1 (xs++ys)→Below base w0 w1→W.grownBy w1 v.ownBlock→(v1.ownBlock=v.ownBlock∨∃b,v1.ownBlock=some b∧W.heap.size≤b)→Kc (a.put o.dst v1) w1) :
 if Region.wanted o (yielded ops a.tmps)=true then Oper.wp P o a W Kc Q else Kc (a.put o.dst undef) W:=by
 obtain⟨i0,hi,hzz⟩:=Option.map_eq_some_iff.1 hinfo;simp only[Prod.mk.injEq]at hzz;obtain⟨hz0,hz1,hz2⟩:=hzz;have hm:ys.length=m:=HR.1;have hlen:xs.length+m≤140737488355328:=Nat.le_trans (Nat.le_mul_of_pos_right _ hb0) hl;obtain⟨hok,inner,hown,hr⟩:=HO;have hrun:∃v1 w1,(Builtin.append_ #[t,t] o.type #[v,.slice A m c]).run P W=.ok v1 w1∧d.R e w1 base ok v1 (xs++ys)∧W.grownBy w1 v.ownBlock∧(v1.ownBlock=v.ownBlock∨∃b,v1.ownBlock=some b∧W.heap.size≤b):=by
  rcases A with _ | ad
  ·have h0:m=0:=by
    rcases Nat.eq_zero_or_pos m with h0 | h0
    ·exact h0
    ·obtain⟨ad,h,_⟩:=HR.2.2 h0;cases h
   subst h0;obtain rfl:ys=[]:=List.eq_nil_of_length_eq_zero hm;refine⟨v,W,?_,by rw[List.append_nil];exact⟨hok,inner,hown,hr⟩,World.grownBy.refl W _,.inl rfl⟩
   rcases hown.2 with⟨rfl,hn⟩ | ⟨g,cap,cur,rfl,_,_,hnc,_⟩
   ·simp[Builtin.append_,run_underlying ht,sizeOf,typeInfo,hi,Builtin.lenOf,Builtin.firstCells]
   ·simp[Builtin.append_,run_underlying ht,sizeOf,typeInfo,hi,Builtin.lenOf,Builtin.firstCells,hnc,storeCells]
  ·obtain⟨news,hnr,hnc⟩:=ReadsRow.inner_ HR;have hnM:Reps (d.M W base okp) d.sz ys news:=hnr.imp_ (fun p c hp=>hKM p c hp);have hone:∀u∈news,u.oneCell'=true:=by
    intro u hu;obtain⟨q,hq,rfl⟩:=List.mem_iff_getElem.1 hu;have hql:q / d.sz<ys.length:=by
     rw[Nat.div_lt_iff_lt_mul hs0];rw[←hnM.1];exact hq
    have hc:=hnM.2 (q / d.sz) _ (List.getElem?_eq_getElem hql);refine d.K_one (d.K_of_M hc) _ ?_
    rw[List.mem_iff_getElem?];refine⟨q % d.sz,?_⟩;rw[List.getElem?_take,if_pos (Nat.mod_lt _ hs0),List.getElem?_drop,Nat.mul_comm,Nat.div_add_mod,List.getElem?_eq_getElem hq]
   obtain⟨v1,w1,hrun,h2,hg,_,hat⟩:=run_append_own_at (P:=P) W base t o.type e i0 z d.sz bytes ht hi hz0 hz1 hz2 hz hs0 v xs.length inner hown ad m c news (by rw[hnM.1,hm]) hnc hone (by simp only[maxLen];omega) hl hbase;have hat':v1.ownBlock=v.ownBlock∨∃b,v1.ownBlock=some b∧W.heap.size≤b:=by
    rcases hat with hat | hat
    ·exact .inl hat
    ·exact .inr ⟨_,hat,Nat.le_refl _⟩
   have hne:∀k,some k≠v.ownBlock→k<W.heap.size→some k≠v1.ownBlock:=by
    intro k hk hlt
    rcases hat' with hat | ⟨b,hb,hle⟩
    ·rw[hat];exact hk
    ·rw[hb];intro he;injection he with he
     omega
   have step:∀{q:α} {c:List Value} {o:Nat→Prop},d.M W base o q c→(∀k,o k→ok k∧some k≠v.ownBlock)→d.M w1 base (fun k=>ok k∧some k≠v1.ownBlock) q c:=by
    intro q c o hq ho;have h1:=d.M_move (w1:=w1) (fun k hk=>hg.block k hk.2.2.1 (ho k hk.1).2) (d.M_bound hq);exact d.M_mono (fun k hk=>⟨(ho k hk.1).1,hne k (ho k hk.1).2 hk.2.2.1⟩) h1
   refine⟨v1,w1,hrun,⟨fun k hk=>?_,inner++news,by rw[List.length_append,hm];exact h2,reps_append (hr.imp_ (fun _ _ hq=>step hq (fun _ hk=>hk))) (hnM.imp_ (fun _ _ hq=>step hq hokp))⟩,hg,hat'⟩
   rcases hat' with hat | ⟨b,hb,hle⟩
   ·exact hok k (hat▸hk)
   ·rw[hb]at hk;injection hk with hk
    exact hfresh k (by omega)
 obtain⟨v1,w1,hr1,h1,hg,hat⟩:=hrun;rw[if_pos hw];unfold Oper.wp execOp;simp only[ho,resolve,invoke,builtin,Sem.run_bind,Sem.run_pure,Result.andThen_ok,List.map_toArray,List.map_cons,List.map_nil,hs,hx,hr1];exact h v1 w1 h1 (HB.grown hg hbase (Zdo hown)) hg hat
end Kd
end
namespace Kd
end Kd
end Go.Proofs.YtaokkliamoghbaaGreatDoorW.PrintWords
namespace Go.Proofs.YtaokkliamoghbaaGreatDoorW.PrintWords
theorem Reps.one {α:Type}{R:α→List Value→Prop}{ps:List α}{cs:List Value}{p:α}{v:Value}(hp:R p [v])(h:Reps R 1 ps cs):Reps R 1 (p :: ps) (v :: cs):=by
 refine⟨by simp[h.1],fun j q hq=>?_⟩;cases j with
 | zero=>
  simp only[List.getElem?_cons_zero,Option.some.injEq]at hq;subst hq;simpa using hp
 | succ j=>
  simp only[List.getElem?_cons_succ]at hq;have h1:=h.2 j q hq;simpa[Nat.mul_one]using h1
theorem Reps.front {α:Type}{R:α→List Value→Prop}{size:Nat}{ps:List α}{cs c all:List Value}{p:α}(hp:R p c)(hc:c.length=size)(h:Reps R size ps cs)(ha:c++cs=all):Reps R size (p :: ps) all:=by
 subst ha;refine⟨by rw[List.length_append,hc,h.1,List.length_cons,Nat.succ_mul,Nat.add_comm],fun j q hq=>?_⟩;cases j with
 | zero=>
  simp only[List.getElem?_cons_zero,Option.some.injEq]at hq;subst hq;rw[Nat.zero_mul,List.drop_zero,List.take_append_of_le_length (by omega),List.take_of_length_le (by omega)];exact hp
 | succ j=>
  simp only[List.getElem?_cons_succ]at hq;have h1:=h.2 j q hq;rw[Nat.succ_mul,List.drop_append,List.drop_of_length_le (by rw[hc];exact Nat.le_add_left _ _),List.nil_append,hc,Nat.add_sub_cancel];exact h1
theorem Reps.c2 {α:Type}{R:α→List Value→Prop}{ps:List α}{cs:List Value}{p:α}{va vb:Value}(hp:R p [va,vb])(h:Reps R 2 ps cs):Reps R 2 (p :: ps) (va :: vb :: cs):=Reps.front hp rfl h rfl
theorem Reps.c3 {α:Type}{R:α→List Value→Prop}{ps:List α}{cs:List Value}{p:α}{va vb vc:Value}(hp:R p [va,vb,vc])(h:Reps R 3 ps cs):Reps R 3 (p :: ps) (va :: vb :: vc :: cs):=Reps.front hp rfl h rfl
theorem Reps.c4 {α:Type}{R:α→List Value→Prop}{ps:List α}{cs:List Value}{p:α}{va vb vc vd:Value}(hp:R p [va,vb,vc,vd])(h:Reps R 4 ps cs):Reps R 4 (p :: ps) (va :: vb :: vc :: vd :: cs):=Reps.front hp rfl h rfl
theorem Reps.c5 {α:Type}{R:α→List Value→Prop}{ps:List α}{cs:List Value}{p:α}{va vb vc vd ve:Value}(hp:R p [va,vb,vc,vd,ve])(h:Reps R 5 ps cs):Reps R 5 (p :: ps) (va :: vb :: vc :: vd :: ve :: cs):=Reps.front hp rfl h rfl
theorem Reps.c6 {α:Type}{R:α→List Value→Prop}{ps:List α}{cs:List Value}{p:α}{va vb vc vd ve vf:Value}(hp:R p [va,vb,vc,vd,ve,vf])(h:Reps R 6 ps cs):Reps R 6 (p :: ps) (va :: vb :: vc :: vd :: ve :: vf :: cs):=Reps.front hp rfl h rfl
theorem Reps.c7 {α:Type}{R:α→List Value→Prop}{ps:List α}{cs:List Value}{p:α}{va vb vc vd ve vf vg:Value}(hp:R p [va,vb,vc,vd,ve,vf,vg])(h:Reps R 7 ps cs):Reps R 7 (p :: ps) (va :: vb :: vc :: vd :: ve :: vf :: vg :: cs):=Reps.front hp rfl h rfl
theorem Reps.c8 {α:Type}{R:α→List Value→Prop}{ps:List α}{cs:List Value}{p:α}{va vb vc vd ve vf vg vh:Value}(hp:R p [va,vb,vc,vd,ve,vf,vg,vh])(h:Reps R 8 ps cs):Reps R 8 (p :: ps) (va :: vb :: vc :: vd :: ve :: vf :: vg :: vh :: cs):=Reps.front hp rfl h rfl
theorem Reps.c9 {α:Type}{R:α→List Value→Prop}{ps:List α}{cs:List Value}{p:α}{va vb vc vd ve vf vg vh vi:Value}(hp:R p [va,vb,vc,vd,ve,vf,vg,vh,vi])(h:Reps R 9 ps cs):Reps R 9 (p :: ps) (va :: vb :: vc :: vd :: ve :: vf :: vg :: vh :: vi :: cs):=Reps.front hp rfl h rfl
theorem Reps.c10 {α:Type}{R:α→List Value→Prop}{ps:List α}{cs:List Value}{p:α}{va vb vc vd ve vf vg vh vi vj:Value}(hp:R p [va,vb,vc,vd,ve,vf,vg,vh,vi,vj])(h:Reps R 10 ps cs):Reps R 10 (p :: ps) (va :: vb :: vc :: vd :: ve :: vf :: vg :: vh :: vi :: vj :: cs):=Reps.front hp rfl h rfl
end Go.Proofs.YtaokkliamoghbaaGreatDoorW.PrintWords
namespace Go.Proofs.YtaokkliamoghbaaGreatDoorW.PrintLast
section
variable {P:Program}{ops:Array Oper}{Q:Exit→Act→World→Prop}{md:Region.Mode}{S:World→Prop}{ds:List Nat}
def ListedClosed (md:Region.Mode)(ops:Array Oper)(listed:Array Bool):Prop:=
 ∀j oj,ops[j]?=some oj→listed.getD j false=true→∀e∈oj.after,Region.binds md e=true→listed.getD e.on false=true
theorem ListedClosed.set {listed:Array Bool}{i:Nat}(h:ListedClosed md ops listed)(hi:i∈Region.ready md ops listed):ListedClosed md ops (listed.setIfInBounds i true):=by
 obtain⟨_,oi,hoi,hall⟩:=mem_ready.1 hi;intro j oj hj hl e he hb;by_cases hij:i=j
 ·subst hij;have:oj=oi:=Option.some.inj (hj.symm.trans hoi);subst this;exact getD_set_true (hall e he hb)
 ·rw[getD_set_ne false hij]at hl;exact getD_set_true (h j oj hj hl e he hb)
def Zjz (P:Program)(md:Region.Mode)(ops:Array Oper)(Q:Exit→Act→World→Prop)(S:World→Prop)(ds:List Nat):Nat→Array Bool→Act→World→Prop
 | 0,listed,a,w=>Region.ready md ops listed=[]∧Q .normal a w
 | fuel+1,listed,a,w=>
  (Region.ready md ops listed=[]→Q .normal a w) ∧
  ∀i∈Region.ready md ops listed,wpOp P ops Q i (fun a' w'=>(i ∉ ds→S w→S w')∧Zjz P md ops Q S ds fuel (listed.setIfInBounds i true) a' w') a w
end
section
variable {P:Program}{ops:Array Oper}{Q:Exit→Act→World→Prop}{md:Region.Mode}{S:World→Prop}{ds:List Nat}
def AllReadyL (P:Program)(md:Region.Mode)(ops:Array Oper)(Q:Exit→Act→World→Prop)(S:World→Prop)(ds:List Nat)(fuel:Nat)(listed:Array Bool)(a:Act)(w:World)(rs:List Nat):Prop:=
 ∀i∈rs,wpOp P ops Q i (fun a' w'=>(i ∉ ds→S w→S w')∧Zjz P md ops Q S ds fuel (listed.setIfInBounds i true) a' w') a w
theorem AllReadyL.nil {fuel:Nat}{listed:Array Bool}{a:Act}{w:World}:AllReadyL P md ops Q S ds fuel listed a w []:=fun _ h=>by cases h
theorem AllReadyL.cons {fuel:Nat}{listed:Array Bool}{a:Act}{w:World}{i:Nat}{o:Oper}{rs:List Nat}(ho:ops[i]?=some o)(hd:i ∉ ds)
 (h:∀K':Act→World→Prop,Shut (∀a w,S w→(S w→Zjz P md ops Q S ds fuel (listed.setIfInBounds i true) a w)→K' a w)→if Region.wanted o (yielded ops a.tmps)=true then Oper.wp P o a w K' Q else K' (a.put o.dst undef) w)
 (hs:AllReadyL P md ops Q S ds fuel listed a w rs):AllReadyL P md ops Q S ds fuel listed a w (i :: rs):=fun j hj=>by
 rcases List.mem_cons.1 hj with rfl | hj
 ·exact wpOp_step ho (fun K' hK=>h K' (fun a w hS hW=>hK a w ⟨fun _ _=>hS,hW hS⟩))
 ·exact hs j hj
theorem enters_ {f : FuncId}{fn : Func}(hf : P.funcs[f]? = some fn)(hname : (fn.name == "runtime.NumGoroutine") = false)(hb : fn.body.isSome = true)(args : Array Value)(w : World) : (callFunc f args).run P w = .ok (.enter f args) w := by
 have h1 : fn.name ≠ "runtime.NumGoroutine" := by simpa using hname
 obtain⟨c,hc⟩:=Option.isSome_iff_exists.1 hb;simp[callFunc,hf,h1,hc]
theorem goesL_ {rest : List Oper}{oi : Oper}{a : Act}{w : World}(N : Option Tmp)(hd : oi.dst = N)(hg : oi.guard = none){f : FuncId}{fn : Func}{as : Array Operand}{ts : Array TypeId}(hf : P.funcs[f]? = some fn)(hname : (fn.name == "runtime.NumGoroutine") = false)(hb : fn.body.isSome = true)(args : Array Value)
 (hop:oi.op=.call { callee:=.value (.func f),args:=as,argTypes:=ts }) (hargs:as.map a.eval=args)
 (h:Calls P f args w fun e w'=>∃v,e=.returned v∧wpList P ops Q rest (a.put N v) w'):wpList P ops Q (oi :: rest) a w:=by
 refine wpList_plain hg fun K hK=>?_
 have he:=enters_ hf hname hb args w;have hrun:(execOp a.eval oi).run P w=.ok (.enter f args) w:=by
  unfold execOp;simp[hop,resolve,Deferred.ofValue,invoke,Act.eval,hargs,he]
 unfold Oper.wp;rw[hrun,Oper.upon_enter];refine h.mono fun e w'' hh=>?_
 obtain⟨v,rfl,hk⟩:=hh;subst hd;exact hK _ _ hk
end
end Go.Proofs.YtaokkliamoghbaaGreatDoorW.PrintLast
namespace Go.Proofs.YtaokkliamoghbaaGreatDoorW.PrintLast
open Go.Proofs.YtaokkliamoghbaaGreatDoorW.PrintWords (Zrw)
section
variable {md:Region.Mode}{ops:Array Oper}{T:Bool × List (List Nat × List Nat)}{l l' li lj lk:Array Bool}{ds:List Nat}{i j k:Nat}
theorem gd (l:Array Bool)(j:Nat)(b:Bool):l.getD j b=l.toList.getD j b:=by simp[Array.getD_eq_getD_getElem?,List.getD_eq_getElem?_getD]
end
end Go.Proofs.YtaokkliamoghbaaGreatDoorW.PrintLast
namespace Go.Proofs.YtaokkliamoghbaaGreatDoorW.PrintLast
end Go.Proofs.YtaokkliamoghbaaGreatDoorW.PrintLast
namespace Go.Proofs.YtaokkliamoghbaaGreatDoorW.PrintWords
open Go.RowKit
namespace Kd
end Kd
end Go.Proofs.YtaokkliamoghbaaGreatDoorW.PrintWords
namespace Go.Proofs.YtaokkliamoghbaaGreatDoorW.PrintWords
open Go.RowKit
namespace Kd
def tag {α:Type}(f:Nat→Nat)(d:Kd α):Kd (α × Nat) where
 sz:=d.sz
 E:=d.E
 K:=fun w x cs=>d.K w x.1 cs
 M:=fun w base ok x cs=>d.M w base (fun k=>ok k∧f k=x.2) x.1 cs
 K_len:=fun h=>d.K_len h
 K_one:=fun h=>d.K_one h
 K_below:=fun hb h=>d.K_below hb h
 K_of_M:=fun h=>d.K_of_M h
 M_mono:=fun hok h=>d.M_mono (fun k hk=>⟨hok k hk.1,hk.2⟩) h
 M_bound:=fun h=>d.M_mono (fun _ hk=>⟨⟨hk.1.1,hk.2⟩,hk.1.2⟩) (d.M_bound h)
 M_move:=fun hm h=>d.M_move (fun k hk=>hm k hk.1) h
 M_lower:=fun hb h=>d.M_lower hb h
def raw (sz:Nat):Kd (List Value) where
 sz:=sz
 E:=[]
 K:=fun _ x cs=>cs=x∧cs.length=sz∧∀u∈cs,u.oneCell'=true
 M:=fun _ _ _ x cs=>cs=x∧cs.length=sz∧∀u∈cs,u.oneCell'=true
 K_len:=fun h=>h.2.1
 K_one:=fun h=>h.2.2
 K_below:=fun _ h=>h
 K_of_M:=fun h=>h
 M_mono:=fun _ h=>h
 M_bound:=fun h=>h
 M_move:=fun _ h=>h
 M_lower:=fun _ h=>h
def S {α:Type}(d:Kd α)(e:Nat)(w:World)(base:Nat)(ok:Nat→Prop)(v:Value)(xs:List α):Prop:=∃f,(tag f d).R e w base ok v xs.zipIdx
section
variable {α β:Type}{d:Kd α}{d':Kd β}{e e':Nat}{w w1 W:World}{base b:Nat}{ok ok' okv oku:Nat→Prop}{u v:Value}{xs:List α}{ys:List β}
theorem R_tight (hE:d.E=[])(h:d.R e w base ok v xs):d.R e w base (fun k=>some k=v.ownBlock) v xs:=by
 obtain⟨h0,inner,ho,hr⟩:=h;refine⟨fun k hk=>hk.symm,inner,ho,hr.imp_ (fun p c hp=>d.M_mono (fun k hk=>?_) (d.M_bound hp))⟩;obtain⟨_,_,_,q,hq,_⟩:=hk;rw[hE]at hq;cases hq
end
section
open Classical in
variable {P:Program}{ops:Array Oper}{rest:List Oper}{o:Oper}{a:Act}{Q:Exit→Act→World→Prop}{Kc:Act→World→Prop}{α:Type}
end
def gap {α:Type}(f:Nat→Nat)(d:Kd α)(i:Nat)(c:List Value):Kd (α × Nat) where
 sz:=d.sz
 E:=d.E
 K:=fun w x cs=>(x.2=i→cs=c∧cs.length=d.sz∧∀u∈cs,u.oneCell'=true)∧(x.2≠i→d.K w x.1 cs)
 M:=fun w base ok x cs=>(x.2=i→cs=c∧cs.length=d.sz∧∀u∈cs,u.oneCell'=true)∧(x.2≠i→d.M w base (fun k=>ok k∧f k=x.2) x.1 cs)
 K_len:=fun {w x cs} h=>by
  by_cases hx:x.2=i
  ·exact (h.1 hx).2.1
  ·exact d.K_len (h.2 hx)
 K_one:=fun {w x cs} h=>by
  by_cases hx:x.2=i
  ·exact (h.1 hx).2.2
  ·exact d.K_one (h.2 hx)
 K_below:=fun hb h=>⟨h.1,fun hx=>d.K_below hb (h.2 hx)⟩
 K_of_M:=fun h=>⟨h.1,fun hx=>d.K_of_M (h.2 hx)⟩
 M_mono:=fun hok h=>⟨h.1,fun hx=>d.M_mono (fun k hk=>⟨hok k hk.1,hk.2⟩) (h.2 hx)⟩
 M_bound:=fun h=>⟨h.1,fun hx=>d.M_mono (fun _ hk=>⟨⟨hk.1.1,hk.2⟩,hk.1.2⟩) (d.M_bound (h.2 hx))⟩
 M_move:=fun hm h=>⟨h.1,fun hx=>d.M_move (fun k hk=>hm k hk.1) (h.2 hx)⟩
 M_lower:=fun hb h=>⟨h.1,fun hx=>d.M_lower hb (h.2 hx)⟩
def H {α:Type}(d:Kd α)(e:Nat)(w:World)(base:Nat)(ok:Nat→Prop)(v:Value)(xs:List α)(i:Int)(oki:Nat→Prop)(c:List Value):Prop:=
 (∀k,oki k→ok k)∧∃f,(gap f d i.toNat c).R e w base (fun k=>ok k∧¬oki k) v xs.zipIdx
section
variable {α β:Type}{d:Kd α}{e e' g n cap:Nat}{w w1 W:World}{base:Nat}{ok ok' oki okp:Nat→Prop}{u v:Value}{xs:List α}{i:Int}{c:List Value}
open Classical in
end
end Kd
end Go.Proofs.YtaokkliamoghbaaGreatDoorW.PrintWords
namespace Go.Proofs.YtaokkliamoghbaaGreatDoorW.PrintWords
open Go.RowKit
namespace Kd
end Kd
end Go.Proofs.YtaokkliamoghbaaGreatDoorW.PrintWords
namespace Go.Proofs.YtaokkliamoghbaaGreatDoorW.PrintWords
open Go.RowKit
namespace Kd
end Kd
end Go.Proofs.YtaokkliamoghbaaGreatDoorW.PrintWords
namespace Go.Proofs.YtaokkliamoghbaaGreatDoorW.PrintWords
open Go.RowKit
namespace Kd
structure Heap {α:Type}(d:Kd α):Prop where
 K:∀{w w1:World} {x:α} {cs:List Value},(∀k,k<w.heap.size→w1.heap[k]?=w.heap[k]?)→d.K w x cs→d.K w1 x cs
theorem cell_heap {w w1:World}(hb:∀k,k<w.heap.size→w1.heap[k]?=w.heap[k]?){a:Addr}{v:Value}(h:w.cell? a=some v):w1.cell? a=some v:=by
 have:=hb a.block (World.block_lt_of_cell? w a h);simpa[World.cell?,this]using h
theorem Heap.C {α:Type}{d:Kd α}(hd:Heap d){w w1:World}{A:Option Addr}{n:Nat}{xs:List α}(hb:∀k,k<w.heap.size→w1.heap[k]?=w.heap[k]?)(h:d.C w A n xs):d.C w1 A n xs:=
 ⟨h.1,h.2.1,fun hn=>by
  obtain⟨ad,e,hc⟩:=h.2.2 hn;refine⟨ad,e,fun j p hj=>?_⟩;obtain⟨c,hs,hr,hcell⟩:=hc j p hj;exact⟨c,hs,hd.K hb hr,fun i u hu=>cell_heap hb (hcell i u hu)⟩⟩
end Kd
end Go.Proofs.YtaokkliamoghbaaGreatDoorW.PrintWords
namespace Go.Proofs.YtaokkliamoghbaaGreatDoorW.PrintWords
open Go.RowKit
def Kept (w W:World)(S:Nat→Prop):Prop:=w.heap.size≤W.heap.size∧∀i,i<w.heap.size→¬S i→W.heap[i]?=w.heap[i]?
section
variable {w W W2:World}{S S2 S':Nat→Prop}
theorem Kept.refl (w:World)(S:Nat→Prop):Kept w w S:=⟨Nat.le_refl _,fun _ _ _=>rfl⟩
theorem Kept.of_below (h:Below w.heap.size w W)(S:Nat→Prop):Kept w W S:=⟨h.size,fun i hi _=>h.block i hi⟩
theorem Kept.mono (h:Kept w W S)(hs:∀k,S k→S' k):Kept w W S':=⟨h.1,fun i hi hn=>h.2 i hi (fun hk=>hn (hs i hk))⟩
theorem Kept.then_ (h:Kept w W S)(k:Kept W W2 S2)(hs:∀k,S2 k→S k∨w.heap.size≤k):Kept w W2 S:=
 ⟨Nat.le_trans h.1 k.1,fun i hi hn=>(k.2 i (Nat.lt_of_lt_of_le hi h.1) (fun h2=>(hs i h2).elim hn (fun h3=>by omega))).trans (h.2 i hi hn)⟩
theorem Kept.of_grown {row:Option Nat}(hg:W.grownBy W2 row)(h:Kept w W S)(hr:∀k,row=some k→S k∨w.heap.size≤k):Kept w W2 S:=
 h.then_ (S2:=fun k=>row=some k) ⟨hg.size,fun i hi hn=>hg.block i hi (fun he=>hn he.symm)⟩ hr
theorem Kept.below (h:Kept w W S)(hb:Below W.heap.size W W2):Kept w W2 S:=h.then_ (Kept.of_below hb (fun _=>False)) (fun _ hk=>hk.elim)
theorem Kept.alloc (h:Kept w W S)(o:Obj):Kept w (W.alloc o) S:=h.below (Zab Zbr o)
theorem Kept.drew (h:Kept w W S):Kept w W.drew S:=h
theorem Kept.drewN (h:Kept w W S)(m:Nat):Kept w (W.drewN m) S:=h
theorem Kept.setCell (h:Kept w W S){p:Addr}(hp:S p.block∨w.heap.size≤p.block)(u:Value):Kept w (W.setCell p u) S:=
 h.then_ (S2:=fun k=>k=p.block) ⟨by simp[World.setCell],fun i _ hn=>Below.heap_setCell W p u i hn⟩ (fun k hk=>by rw[hk];exact hp)
theorem Kept.keep {g:Nat}(h:KeepBut w W g none)(k:Kept W W2 S2)(hs:∀k,S2 k→w.heap.size≤k):KeepBut w W2 g none:=
 ⟨Nat.le_trans h.1 k.1,fun i hi hg hr=>(k.2 i (Nat.lt_of_lt_of_le hi h.1) (fun h2=>by have:=hs i h2;omega)).trans (h.2 i hi hg hr)⟩
theorem Zie {g:Nat}{o:Obj}(hb:W.heap[g]?=some o)(hk:Kept W W2 S)(hne:¬S g):W2.heap[g]?=some o:=(hk.2 g (Zau hb) hne).trans hb
end
namespace Kd
section
variable {α:Type}{d:Kd α}{e base n c:Nat}{ok oki S S2:Nat→Prop}{w w0 W W1 W2:World}{v:Value}{A:Option Addr}{xs:List α}{i:Int}{cs:List Value}
theorem R_kept (h:d.R e W base ok v xs)(hk:Kept W W2 S)(hne:∀k,ok k→¬S k):d.R e W2 base ok v xs:=R_step h (fun k ho hlt=>hk.2 k hlt (hne k ho))
end
end Kd
end Go.Proofs.YtaokkliamoghbaaGreatDoorW.PrintWords
namespace Go.Proofs.YtaokkliamoghbaaGreatDoorW.PrintWords
open Go.RowKit
def Zln (P:World→Prop)(W:World)(ok:Nat→Prop):Prop:=∀W':World,(∀k,ok k→k<W.heap.size→W'.heap[k]?=W.heap[k]?)→P W'
theorem heap_lt {W W1:World}{k:Nat}(h:W1.heap[k]?=W.heap[k]?)(hlt:k<W.heap.size):k<W1.heap.size:=by
 rw[Array.getElem?_eq_getElem hlt]at h;exact (Array.getElem?_eq_some_iff.1 h).1
namespace Zln
variable {P Q:World→Prop}{W W1:World}{ok ok':Nat→Prop}
theorem now (h:Zln P W ok):P W:=h W (fun _ _ _=>rfl)
theorem mono (h:Zln P W ok)(hok:∀k,ok k→ok' k):Zln P W ok':=fun W' hW=>h W' (fun k hk hlt=>hW k (hok k hk) hlt)
theorem bound (h:Zln P W ok):Zln P W (fun k=>ok k∧k<W.heap.size):=fun W' hW=>h W' (fun k hk hlt=>hW k ⟨hk,hlt⟩ hlt)
theorem step (h:Zln P W ok)(hm:∀k,ok k→k<W.heap.size→W1.heap[k]?=W.heap[k]?):Zln P W1 ok:=fun W' hW=>h W' (fun k hk hlt=>(hW k hk (heap_lt (hm k hk hlt) hlt)).trans (hm k hk hlt))
theorem imp (h:Zln P W ok)(hi:∀W',P W'→Q W'):Zln Q W ok:=fun W' hW=>hi W' (h W' hW)
theorem old (h:Zln P W ok)(hb:Below W.heap.size W W1):Zln P W1 (fun k=>ok k∧k<W.heap.size):=(h.bound).step (fun k _ hlt=>hb.block k hlt)
end Zln
namespace Kd
def F {α:Type}(d:Kd α)(W:World)(ok:Nat→Prop)(A:Option Addr)(n:Nat)(xs:List α):Prop:=Zln (fun W=>d.C W A n xs) W ok
def FK {α:Type}(d:Kd α)(W:World)(ok:Nat→Prop)(x:α)(c:List Value):Prop:=Zln (fun W=>d.K W x c) W ok
section
variable {α β:Type}{d:Kd α}{e base n n' cc g N:Nat}{ok ok' okp S:Nat→Prop}{w w0 w1 W W1:World}{A A':Option Addr}{u v v1:Value}{xs:List α}{xs':List β}{d':Kd β}{x:α}{c:List Value}
theorem F_now (h:F d W ok A n xs):d.C W A n xs:=Zln.now h
theorem F_mono (h:F d W ok A n xs)(hok:∀k,ok k→ok' k):F d W ok' A n xs:=Zln.mono h hok
theorem F_step (h:F d W ok A n xs)(hm:∀k,ok k→k<W.heap.size→W1.heap[k]?=W.heap[k]?):F d W1 ok A n xs:=Zln.step h hm
theorem F_below (h:F d W ok A n xs)(hb:Below W.heap.size W W1):F d W1 ok A n xs:=F_step h (fun k _ hlt=>hb.block k hlt)
theorem F_far (h:F d W ok A n xs){p:Addr}(hok:∀k,ok k→k≠p.block)(u:Value):F d (W.setCell p u) ok A n xs:=F_step h (fun k hk _=>Below.heap_setCell W p u k (hok k hk))
theorem F_kept (h:F d W ok A n xs)(hk:Kept W W1 S)(hok:∀k,ok k→¬S k):F d W1 ok A n xs:=F_step h (fun k ho hlt=>hk.2 k hlt (hok k ho))
theorem F_nil (d:Kd α)(W:World)(ok:Nat→Prop):F d W ok none ([]:List α).length []:=fun W' _=>C_nil d W'
theorem F_len (h:F d W ok A n xs):xs.length=n:=(F_now h).1
theorem FK_now (h:FK d W ok x c):d.K W x c:=Zln.now h
theorem FK_mono (h:FK d W ok x c)(hok:∀k,ok k→ok' k):FK d W ok' x c:=Zln.mono h hok
theorem FK_bound (h:FK d W ok x c):FK d W (fun k=>ok k∧k<W.heap.size) x c:=Zln.bound h
theorem Ziw (h:FK d W ok x c)(hm:∀k,ok k→k<W.heap.size→W1.heap[k]?=W.heap[k]?):FK d W1 ok x c:=Zln.step h hm
theorem FK_below (h:FK d W ok x c)(hb:Below W.heap.size W W1):FK d W1 ok x c:=Ziw h (fun k _ hlt=>hb.block k hlt)
theorem FK_of_M (h:d.M W base ok x c):FK d W ok x c:=fun _ hW=>d.K_of_M (M_step h hW)
theorem emptied (W:World)(g:Nat):∃W':World,(∀k,k≠g→W'.heap[k]?=W.heap[k]?)∧∀a:Addr,a.block=g→W'.cell? a=none:=by
 refine⟨{ W with heap:=W.heap.setIfInBounds g (.cells #[] 0) },fun k hk=>by simp[Ne.symm hk],fun a ha=>?_⟩;subst ha;by_cases hlt:a.block<W.heap.size
 ·simp[World.cell?,hlt]
 ·simp[World.cell?,hlt]
end
end Kd
end Go.Proofs.YtaokkliamoghbaaGreatDoorW.PrintWords
namespace Go.Proofs.YtaokkliamoghbaaGreatDoorW.PrintWords
open Go.RowKit
namespace Kd
def chunks (sz:Nat)(n:Nat)(inner:List Value):List (List Value):=(List.range n).map fun j=>(inner.drop (j*sz)).take sz
theorem chunks_length (sz n:Nat)(inner:List Value):(chunks sz n inner).length=n:=by simp[chunks]
theorem chunks_at {sz n:Nat}{inner:List Value}{j:Nat}(hj:j<n):(chunks sz n inner)[j]?=some ((inner.drop (j*sz)).take sz):=by simp[chunks,hj]
theorem chunks_get {sz n:Nat}{inner:List Value}{j:Nat}{c:List Value}(h:(chunks sz n inner)[j]?=some c):c=(inner.drop (j*sz)).take sz:=by
 have hj:j<n:=by have:=(List.getElem?_eq_some_iff.1 h).1;rwa[chunks_length]at this
 rw[chunks_at hj]at h;injection h with h
 exact h.symm
theorem reps_raw {α:Type}{Rr:α→List Value→Prop}{sz:Nat}{xs:List α}{inner:List Value}(h:Reps Rr sz xs inner)(hR:∀x c,Rr x c→c.length=sz∧∀u∈c,u.oneCell'=true):Reps (fun x cs=>cs=x∧cs.length=sz∧∀u∈cs,u.oneCell'=true) sz (chunks sz xs.length inner) inner:=by
 refine⟨by rw[chunks_length];exact h.1,fun j p hj=>?_⟩;have hjl:j<xs.length:=by have:=(List.getElem?_eq_some_iff.1 hj).1;rwa[chunks_length]at this
 have hp:=chunks_get hj;exact⟨hp.symm,hR _ _ (h.2 j _ (List.getElem?_eq_getElem hjl))⟩
section
variable {α:Type}{d:Kd α}{e base n cc g:Nat}{ok ok' okp S:Nat→Prop}{w w1 W W1:World}{A:Option Addr}{u v v1:Value}{xs:List α}{x:α}{c:List Value}
theorem F_get (h:F d W ok A n xs)(z:α)(i:Int)(h0:0≤i)(h1:i<n) :
 ∃ad c,A=some ad∧c.length=d.sz∧FK d W ok (xs.getD i.toNat z) c∧(∀j u,c[j]?=some u→W.cell? (ad.add (i.toNat*d.sz+j))=some u)∧(0<d.sz→ok ad.block):=by
 obtain⟨ad,c,rfl,hcl,hK,hcc⟩:=C_get (F_now h) z i h0 h1;have hin:0<d.sz→ok ad.block:=by
  intro hs;by_cases hk:ok ad.block
  ·exact hk
  ·obtain⟨W',h2,h3⟩:=emptied W ad.block;obtain⟨ad',c',he,hcl',_,hcc'⟩:=C_get (h W' (fun k hk' _=>h2 k (fun e=>hk (e▸hk')))) z i h0 h1;injection he with he
   subst he;have h4:=hcc' 0 _ (List.getElem?_eq_getElem (by omega));rw[h3 _ (add_block _ _)]at h4;cases h4
 refine⟨ad,c,rfl,hcl,fun W' hW=>?_,hcc,hin⟩;obtain⟨ad',c',he,hcl',hK',hcc'⟩:=C_get (h W' hW) z i h0 h1;injection he with he
 subst he;have hc:c=c':=by
  apply List.ext_getElem?;intro j;by_cases hj:j<d.sz
  ·have hb:W'.heap[ad.block]?=W.heap[ad.block]?:=by
    have h5:=hcc j _ (List.getElem?_eq_getElem (by omega));have h6:=World.block_lt_of_cell? W _ h5;rw[add_block]at h6;exact hW _ (hin (by omega)) h6
   have h5:=hcc j _ (List.getElem?_eq_getElem (by omega));have h6:=hcc' j _ (List.getElem?_eq_getElem (by omega));have h7:W'.cell? (ad.add (i.toNat*d.sz+j))=W.cell? (ad.add (i.toNat*d.sz+j)):=by simp[World.cell?,add_block,hb]
   rw[h7,h5]at h6;rw[List.getElem?_eq_getElem (by omega),List.getElem?_eq_getElem (by omega)];exact h6
  ·rw[List.getElem?_eq_none (by omega),List.getElem?_eq_none (by omega)]
 rw[hc];exact hK'
theorem F_rows (h:F d W ok A n xs):ReadsRow (fun x c=>FK d W ok x c) d.sz W A n xs:=by
 obtain⟨hl,hm,hn⟩:=F_now h;refine⟨hl,hm,fun hp=>?_⟩;obtain⟨ad,rfl,_⟩:=hn hp;refine⟨ad,rfl,fun j p hj=>?_⟩;obtain⟨hjl,hjp⟩:=List.getElem?_eq_some_iff.1 hj
 obtain⟨ad',c,he,hcl,hK,hcc,_⟩:=F_get h p (j:Int) (by omega) (by omega);injection he with he
 subst he;simp only[Int.toNat_natCast]at hK hcc;rw[List.getD_eq_getElem?_getD,hj]at hK;exact⟨c,hcl,hK,hcc⟩
def N {α:Type}(d:Kd α)(e:Nat)(w:World)(base:Nat)(ok:Nat→Prop)(v:Value)(xs:List α):Prop:=
 (∀k,v.ownBlock=some k→ok k)∧∃rows:List (List Value),rows.length=xs.length∧(raw d.sz).R e w base (fun k=>some k=v.ownBlock) v rows∧∀(j:Nat) (x:α) (c:List Value),xs[j]?=some x→rows[j]?=some c→FK d w (fun k=>ok k∧some k≠v.ownBlock) x c
theorem Zhn {sz:Nat}{rows:List (List Value)}(h:(raw sz).R e w base ok v rows):(raw sz).R e w base (fun k=>some k=v.ownBlock) v rows:=R_tight rfl h
theorem Zne {sz:Nat}{rows:List (List Value)}(h:(raw sz).R e w base ok v rows):(raw sz).R e w base (fun _=>True) v rows:=R_mono h (fun _ _=>trivial)
theorem R_N (h:d.R e w base ok v xs):N d e w base ok v xs:=by
 obtain⟨h0,inner,ho,hr⟩:=h;refine⟨h0,chunks d.sz xs.length inner,chunks_length _ _ _,⟨fun k hk=>hk.symm,inner,by rw[chunks_length];exact ho,reps_raw hr (fun x c hp=>⟨d.K_len (d.K_of_M hp),d.K_one (d.K_of_M hp)⟩)⟩,fun j x c hx hc=>?_⟩;rw[chunks_get hc];exact FK_of_M (hr.2 j x hx)
theorem N_nil (d:Kd α)(e:Nat)(w:World)(base:Nat)(ok:Nat→Prop):N d e w base ok (.slice none 0 0) []:=R_N (R_nil _ _ _ _ _)
theorem N_lt (h:N d e w base ok v xs):∀k,v.ownBlock=some k→k<w.heap.size:=by
 obtain⟨_,rows,_,hR,_⟩:=h;exact R_lt hR
theorem N_base (h:N d e w base ok v xs):∀k,v.ownBlock=some k→base≤k:=by
 obtain⟨_,rows,_,hR,_⟩:=h;exact R_base hR
theorem N_step (h:N d e w base ok v xs)(hm:∀k,ok k→k<w.heap.size→w1.heap[k]?=w.heap[k]?):N d e w1 base ok v xs:=by
 obtain⟨h0,rows,hl,hR,hf⟩:=h;exact⟨h0,rows,hl,R_step hR (fun k hk hlt=>hm k (h0 k hk.symm) hlt),fun j x c hx hc=>Ziw (hf j x c hx hc) (fun k hk hlt=>hm k hk.1 hlt)⟩
theorem N_below (h:N d e w base ok v xs)(hb:Below w.heap.size w w1):N d e w1 base ok v xs:=N_step h (fun k _ hk=>hb.block k hk)
theorem N_alloc (h:N d e w base ok v xs)(o:Obj):N d e (w.alloc o) base ok v xs:=N_below h (Zab Zbr o)
theorem N_drewN (h:N d e w base ok v xs)(m:Nat):N d e (w.drewN m) base ok v xs:=N_below h (Zag Zbr m)
theorem N_far (h:N d e w base ok v xs){p:Addr}(hok:∀k,ok k→k≠p.block)(u:Value):N d e (w.setCell p u) base ok v xs:=N_step h (fun k ho _=>Below.heap_setCell w p u k (hok k ho))
theorem N_slice (h:N d e w base ok v xs):∃A c,v=.slice A xs.length c:=by
 obtain⟨_,rows,hl,hR,_⟩:=h;obtain⟨A,c,he⟩:=R_slice hR;exact⟨A,c,by rw[he,hl]⟩
theorem N_form (h:N d e w base ok v xs)(hp:0<xs.length):∃g cap,v=.slice (some ⟨g,0,none⟩) xs.length cap∧base≤g∧g<w.heap.size∧∃cells,w.heap[g]?=some (.cells cells e (0,0)):=by
 obtain⟨_,rows,hl,hR,_⟩:=h;rw[←hl]at hp ⊢;exact R_form hR hp
theorem N_reads' {n c:Nat}(h:N d e w base ok (.slice A n c) xs):n=xs.length∧n≤c∧d.C w A xs.length xs:=by
 obtain⟨_,rows,hl,hR,hf⟩:=h;obtain⟨hn,hc,hC⟩:=R_reads' hR;refine⟨by omega,hc,?_⟩;rw[hl]at hC;refine⟨rfl,hC.2.1,fun hp=>?_⟩;obtain⟨ad,he,hcell⟩:=hC.2.2 hp;refine⟨ad,he,fun j p hj=>?_⟩;have hjl:j<rows.length:=by have:=(List.getElem?_eq_some_iff.1 hj).1;omega
 obtain⟨c',hcl,hK,hcc⟩:=hcell j _ (List.getElem?_eq_getElem hjl);have hk:=FK_now (hf j p _ hj (List.getElem?_eq_getElem hjl));refine⟨c',hcl,?_,hcc⟩;rw[show c'=rows[j]from hK.1];exact hk
theorem N_F {n:Nat}(h:N d e w base ok (.slice A n cc) xs):F d w ok A n xs:=fun W' hW=>by
 have h2:=N_reads' (N_step h hW);rw[h2.1];exact h2.2.2
theorem N_elem {n cap:Nat}(h:N d e W base ok (.slice (some ⟨g,0,none⟩) n cap) xs)(z:α)(i:Int)(h0:0≤i)(h1:i<n) :
 ∃c,c.length=d.sz∧FK d W (fun k=>ok k∧k≠g) (xs.getD i.toNat z) c∧(∀j u,c[j]?=some u→W.cell? ⟨g,i.toNat*d.sz+j,none⟩=some u)∧∀j,W.frozen? ⟨g,i.toNat*d.sz+j,none⟩=false:=by
 obtain⟨_,rows,hl,hR,hf⟩:=h;have hn:=(R_reads' hR).1;obtain⟨c,hcl,hM,hcc,hfr⟩:=R_elem hR [] i h0 h1;have hil:i.toNat<rows.length:=by omega
 have hil':i.toNat<xs.length:=by omega
 have hc:c=rows[i.toNat]:=by
  have h2:=hM.1;rwa[List.getD_eq_getElem?_getD,List.getElem?_eq_getElem hil]at h2
 refine⟨c,hcl,?_,hcc,hfr⟩;rw[List.getD_eq_getElem?_getD,List.getElem?_eq_getElem hil'];exact FK_mono (hf _ _ _ (List.getElem?_eq_getElem hil') (by rw[hc];exact List.getElem?_eq_getElem hil)) (fun k hk=>⟨hk.1,fun he=>hk.2 (by rw[he];simp[Value.ownBlock])⟩)
end
end Kd
end Go.Proofs.YtaokkliamoghbaaGreatDoorW.PrintWords
namespace Go.Proofs.YtaokkliamoghbaaGreatDoorW.PrintWords
open Go.RowKit
namespace Kd
end Kd
end Go.Proofs.YtaokkliamoghbaaGreatDoorW.PrintWords
namespace Go.Proofs.YtaokkliamoghbaaGreatDoorW.PrintWords
open Go.RowKit
section
variable {w w' u:World}{m B g:Nat}{o:Obj}{row:Option Nat}{S:Nat→Prop}{a:Addr}{v:Value}
theorem blk_at (hq:w.drewN m=w')(h:w.heap[g]?=some o):w'.heap[g]?=some o:=by subst hq;exact h
end
namespace Kd
end Kd
end Go.Proofs.YtaokkliamoghbaaGreatDoorW.PrintWords
namespace Go.Proofs.YtaokkliamoghbaaGreatDoorW.PrintWords
open Go.RowKit
end Go.Proofs.YtaokkliamoghbaaGreatDoorW.PrintWords
namespace Go.Proofs.YtaokkliamoghbaaGreatDoorW.PrintLast
def up (b:Nat→Bool)(i:Nat):Nat→Bool:=fun j=>if j=i then true else b j
end Go.Proofs.YtaokkliamoghbaaGreatDoorW.PrintLast
namespace Go.Proofs.YtaokkliamoghbaaGreatDoorW.PrintWords
open Go.RowKit
end Go.Proofs.YtaokkliamoghbaaGreatDoorW.PrintWords
namespace Go.Proofs.YtaokkliamoghbaaGreatDoorW.PrintLast
end Go.Proofs.YtaokkliamoghbaaGreatDoorW.PrintLast
namespace Go.Proofs.YtaokkliamoghbaaGreatDoorW.PrintWords
open Go.RowKit
end Go.Proofs.YtaokkliamoghbaaGreatDoorW.PrintWords
namespace Go.Proofs.YtaokkliamoghbaaGreatDoorW.PrintWords
open Go.RowKit
namespace Kd
section
variable {α:Type}{d:Kd α}{e base n cap g:Nat}{ok ok' okp:Nat→Prop}{w w1 W:World}{v v1:Value}{xs ys:List α}
theorem Zmt {rows news:List (List Value)}(h0:∀k,v.ownBlock=some k→ok k)(hl:rows.length=xs.length)(hf:∀(j:Nat) (x:α) (c:List Value),xs[j]?=some x→rows[j]?=some c→FK d W (fun k=>ok k∧some k≠v.ownBlock) x c)
 (hl2:news.length=ys.length) (hf2:∀(j:Nat) (x:α) (c:List Value),ys[j]?=some x→news[j]?=some c→FK d W okp x c) (hokp:∀k,okp k→ok k∧some k≠v.ownBlock) (hfresh:∀k,W.heap.size≤k→ok k)
 (hR:(raw d.sz).R e w1 base (fun _=>True) v1 (rows++news)) (hg:W.grownBy w1 v.ownBlock) (hat:v1.ownBlock=v.ownBlock∨∃b,v1.ownBlock=some b∧W.heap.size≤b):N d e w1 base ok v1 (xs++ys):=by
 have hne:∀k,some k≠v.ownBlock→k<W.heap.size→some k≠v1.ownBlock:=by
  intro k hk hlt
  rcases hat with hat | ⟨b,hb,hle⟩
  ·rw[hat];exact hk
  ·rw[hb];intro he;injection he with he
   omega
 have step:∀{x:α} {c:List Value} {o:Nat→Prop},FK d W o x c→(∀k,o k→ok k∧some k≠v.ownBlock)→FK d w1 (fun k=>ok k∧some k≠v1.ownBlock) x c:=by
  intro x c o hq ho;exact FK_mono (Ziw (FK_bound hq) (fun k hk hlt=>hg.block k hlt (ho k hk.1).2)) (fun k hk=>⟨(ho k hk.1).1,hne k (ho k hk.1).2 hk.2⟩)
 refine⟨fun k hk=>?_,rows++news,by rw[List.length_append,List.length_append,hl,hl2],Zhn hR,fun j x c hx hc=>?_⟩
 ·rcases hat with hat | ⟨b,hb,hle⟩
  ·exact h0 k (hat▸hk)
  ·rw[hb]at hk;injection hk with hk
   exact hfresh k (by omega)
 ·rcases Nat.lt_or_ge j xs.length with hlt | hge
  ·rw[List.getElem?_append_left hlt]at hx;rw[List.getElem?_append_left (by omega)]at hc;exact step (hf j x c hx hc) (fun _ hk=>hk)
  ·rw[List.getElem?_append_right hge]at hx;rw[List.getElem?_append_right (by omega),hl]at hc;exact step (hf2 _ x c hx hc) hokp
theorem FK_raw {x:α}{c:List Value}(h:FK d W ok x c):c=c∧c.length=d.sz∧∀u∈c,u.oneCell'=true:=⟨rfl,d.K_len (FK_now h),d.K_one (FK_now h)⟩
theorem N_made {rows:List (List Value)}(hR:(raw d.sz).R e w1 base (fun k=>k=W.heap.size) v1 rows)(hg:W.grownBy w1 none)(hat:∃b,v1.ownBlock=some b∧W.heap.size≤b)(hl:rows.length=xs.length)(hf:∀(j:Nat) (x:α) (c:List Value),xs[j]?=some x→rows[j]?=some c→FK d W okp x c)
 (hok:∀k,okp k→ok k) (hfresh:ok W.heap.size):N d e w1 base ok v1 xs:=by
 obtain⟨b,hb,hle⟩:=hat;refine⟨fun k hk=>by rw[hR.1 k hk];exact hfresh,rows,hl,Zhn hR,fun j x c hx hc=>?_⟩;refine FK_mono (Ziw (FK_bound (hf j x c hx hc)) (fun k hk hlt=>hg.block k hlt (by simp))) (fun k hk=>⟨hok k hk.1,fun he=>?_⟩);rw[hb]at he;injection he with he
 have:=hk.2;omega
theorem N_written {rows:List (List Value)}{i:Int}{x':α}{c':List Value}(h0:∀k,(Value.slice (some ⟨g,0,none⟩) n cap).ownBlock=some k→ok k)(hl:rows.length=xs.length)(hf:∀(j:Nat) (x:α) (c:List Value),xs[j]?=some x→rows[j]?=some c→FK d W (fun k=>ok k∧some k≠(Value.slice (some ⟨g,0,none⟩) n cap).ownBlock) x c)
 (hR:(raw d.sz).R e w1 base (fun _=>True) (.slice (some ⟨g,0,none⟩) n cap) (rows.set i.toNat c')) (hg:W.grownBy w1 (some g)) (hM:FK d W okp x' c') (hokp:∀k,okp k→ok k∧k≠g):N d e w1 base ok (.slice (some ⟨g,0,none⟩) n cap) (xs.set i.toNat x'):=by
 have hgo:some g=(Value.slice (some ⟨g,0,none⟩) n cap).ownBlock:=by simp[Value.ownBlock]
 refine⟨h0,rows.set i.toNat c',by rw[List.length_set,List.length_set,hl],Zhn hR,fun j x c hx hc=>?_⟩;have hjl:j<xs.length:=by have:=(List.getElem?_eq_some_iff.1 hx).1;rwa[List.length_set]at this
 by_cases hji:j=i.toNat
 ·subst hji;rw[List.getElem?_set_self hjl]at hx;rw[List.getElem?_set_self (by omega)]at hc;injection hx with hx
  injection hc with hc
  rw[←hx,←hc];exact FK_mono (Ziw hM (fun k hk hlt=>hg.block k hlt (fun he=>(hokp k hk).2 (by injection he)))) (fun k hk=>⟨(hokp k hk).1,fun he=>(hokp k hk).2 (by rw[←hgo]at he;injection he)⟩)
 ·rw[List.getElem?_set_ne (Ne.symm hji)]at hx hc;exact Ziw (hf j x c hx hc) (fun k hk hlt=>hg.block k hlt (by rw[hgo];exact hk.2))
theorem N_take {A:Option Addr}{m c:Nat}(h:N d e w base ok (.slice A n c) xs)(hm:m≤xs.length):N d e w base ok (.slice A m c) (xs.take m):=by
 obtain⟨h0,rows,hl,hR,hf⟩:=h;have hb:∀x y:Nat,(Value.slice A x c).ownBlock=(Value.slice A y c).ownBlock:=by
  intro x y;cases A <;> rfl
 refine⟨fun k hk=>h0 k (by rw[hb _ m];exact hk),rows.take m,by rw[List.length_take,List.length_take,hl],Zhn (R_take (Zne hR) (by omega)),fun j x c' hx hc=>?_⟩;rw[List.getElem?_take]at hx hc
 split at hx
 ·rename_i hj
  rw[if_pos hj]at hc;rw[hb m n];exact hf j x c' hx hc
 ·cases hx
theorem reads_raw {Rr:α→List Value→Prop}{sz m:Nat}{A:Option Addr}(h:ReadsRow Rr sz W A m ys)(hR:∀x c,Rr x c→c.length=sz∧∀u∈c,u.oneCell'=true) :
 ∃news:List (List Value),news.length=ys.length∧ReadsRow (fun x cs=>cs=x∧cs.length=sz∧∀u∈cs,u.oneCell'=true) sz W A m news∧∀(j:Nat) (x:α) (c:List Value),ys[j]?=some x→news[j]?=some c→Rr x c:=by
 rcases Nat.eq_zero_or_pos m with h0 | hp
 ·have hy:ys=[]:=List.eq_nil_of_length_eq_zero (h.1.trans h0);subst hy;exact⟨[],rfl,⟨h0▸rfl,h.2.1,fun hp=>by omega⟩,fun j x c hx=>by simp at hx⟩
 ·obtain⟨ad,rfl,_⟩:=h.2.2 hp;obtain⟨inner,hr,hc⟩:=ReadsRow.inner_ h;refine⟨chunks sz ys.length inner,chunks_length _ _ _,⟨by rw[chunks_length];exact h.1,h.2.1,fun _=>⟨ad,rfl,fun j p hj=>?_⟩⟩,fun j x c hx hcc=>?_⟩
  ·have hjl:j<ys.length:=by have:=(List.getElem?_eq_some_iff.1 hj).1;rwa[chunks_length]at this
   have hpe:=chunks_get hj;have hq:=hR _ _ (hr.2 j _ (List.getElem?_eq_getElem hjl));rw[←hpe]at hq;refine⟨p,hq.1,⟨rfl,hq⟩,fun i u hu=>?_⟩;have hu2:inner[j*sz+i]?=some u:=by
    rw[hpe,List.getElem?_take]at hu
    split at hu
    ·rw[List.getElem?_drop]at hu;exact hu
    ·cases hu
   exact hc _ u hu2
  ·rw[chunks_get hcc];exact hr.2 j x hx
end
section
variable {P:Program}{ops:Array Oper}{rest:List Oper}{o:Oper}{a:Act}{Q:Exit→Act→World→Prop}{Kc:Act→World→Prop}{α:Type}
theorem N_append (d:Kd α){w0 W:World}(base:Nat)(hgd:o.guard=none)(s x:Operand)(t e:TypeId)(z:Value)(bytes:Nat)
 (ho:o.op=.call { callee:=.builtin .append,args:=#[s,x],argTypes:=#[t,t] })
 (ht:P.underlying t=some (.slice e)) (hinfo:(P.info? e).map (fun i=>(i.zero,i.size,i.bytes))=some (some z,d.sz,bytes)) (hz:z.cells.size=d.sz) (hs0:0<d.sz) (hb0:0<bytes)
 (v:Value) (xs:List α) (p:α) (cs:List Value) (ok okp:Nat→Prop) (hs:a.eval s=v) (hx:a.eval x=.slice (some ⟨W.heap.size,0,none⟩) 1 1) (hp:FK d W okp p cs) (hokp:∀k,okp k→ok k∧some k≠v.ownBlock) (hfresh:∀k,W.heap.size≤k→ok k)
 (HO:N d e W base ok v xs) (HB:Below base w0 W) (hbase:base≤W.heap.size) (hl:(xs.length+1)*bytes≤140737488355328)
 (h:∀v1 w1,N d e w1 base ok v1 (xs++[p])→Below base w0 w1→W.grownBy w1 v.ownBlock→(v1.ownBlock=v.ownBlock∨∃b,v1.ownBlock=some b∧W.heap.size≤b)→wpList P ops Q rest (a.put o.dst v1) w1) :
 wpList P ops Q (o :: rest) a (W.alloc (.cells cs.toArray e)):=by
 obtain⟨h0,rows,hlr,hR,hf⟩:=HO;refine R_append (raw d.sz) base hgd s x t e z bytes ho ht hinfo hz hs0 hb0 v rows cs cs (fun _=>True) (fun _=>False) hs hx (FK_raw hp) (fun _ hk=>hk.elim) (fun _ _=>trivial) (Zne hR) HB hbase (by rw[hlr];exact hl) ?_
 intro v1 w1 hr hb hg hat;exact h v1 w1 (Zmt h0 hlr hf (ys:=[p]) (news:=[cs]) rfl (fun j y c hy hc=>by
  rcases j with _ | j
  ·simp only[List.getElem?_cons_zero,Option.some.injEq]at hy hc;rw[←hy,←hc];exact hp
  ·simp at hy) hokp hfresh hr hg hat) hb hg hat
theorem N_append_rows (d:Kd α){w0 W:World}(base:Nat)(hgd:o.guard=none)(s x:Operand)(t e:TypeId)(z:Value)(bytes:Nat)
 (ho:o.op=.call { callee:=.builtin .append,args:=#[s,x],argTypes:=#[t,t] })
 (ht:P.underlying t=some (.slice e)) (hinfo:(P.info? e).map (fun i=>(i.zero,i.size,i.bytes))=some (some z,d.sz,bytes)) (hz:z.cells.size=d.sz) (hs0:0<d.sz) (hb0:0<bytes)
 (v:Value) (xs ys:List α) (A:Option Addr) (m c:Nat) (ok okp:Nat→Prop) (hs:a.eval s=v) (hx:a.eval x=.slice A m c)
 (HO:N d e W base ok v xs) (HR:F d W okp A m ys) (hokp:∀k,okp k→ok k∧some k≠v.ownBlock) (hfresh:∀k,W.heap.size≤k→ok k)
 (HB:Below base w0 W) (hbase:base≤W.heap.size) (hl:(xs.length+m)*bytes≤140737488355328)
 (h:∀v1 w1,N d e w1 base ok v1 (xs++ys)→Below base w0 w1→W.grownBy w1 v.ownBlock→(v1.ownBlock=v.ownBlock∨∃b,v1.ownBlock=some b∧W.heap.size≤b)→wpList P ops Q rest (a.put o.dst v1) w1) :
 wpList P ops Q (o :: rest) a W:=by
 obtain⟨h0,rows,hlr,hR,hf⟩:=HO;obtain⟨news,hnl,hnr,hnf⟩:=reads_raw (F_rows HR) (fun y c hk=>⟨d.K_len (FK_now hk),d.K_one (FK_now hk)⟩);refine R_append_rows (raw d.sz) base hgd s x t e z bytes ho ht hinfo hz hs0 hb0 v rows news A m c (fun _=>True) (fun _=>False) hs hx (Zne hR) hnr (fun _ _ hk=>hk) (fun _ hk=>hk.elim) (fun _ _=>trivial) HB hbase (by rw[hlr];exact hl) ?_
 intro v1 w1 hr hb hg hat;exact h v1 w1 (Zmt h0 hlr hf hnl hnf hokp hfresh hr hg hat) hb hg hat
theorem N_store (d:Kd α){w0 W:World}(base:Nat)(hN:o.dst=none)(hgd:o.guard=none)(t:TypeId)(p x:Operand)(ho:o.op=.store t p x)(e:TypeId){g n cap o':Nat}(i:Int)(j:Nat)(xs:List α)(x':α)(u:Value)(seg c:List Value)(ok okp:Nat→Prop)
 (haddr:a.eval p=.pointer (some ⟨g,o',none⟩)) (hoff:o'=i.toNat*d.sz+j) (hx:a.eval x=u) (hu:u.cells.toList=seg) (ht:(P.info? t).map (·.size)=some seg.length) (h1:∀q∈seg,q.oneCell'=true)
 (HO:N d e W base ok (.slice (some ⟨g,0,none⟩) n cap) xs) (h0:0≤i) (hi:i<n) (hcl:c.length=d.sz) (hcc:∀j u,c[j]?=some u→W.cell? ⟨g,i.toNat*d.sz+j,none⟩=some u)
 (hj:j+seg.length≤d.sz) (hM:FK d W okp x' (c.take j++seg++c.drop (j+seg.length))) (hokp:∀k,okp k→ok k∧k≠g) (HB:Below base w0 W)
 (h:∀w1,N d e w1 base ok (.slice (some ⟨g,0,none⟩) n cap) (xs.set i.toNat x')→Below base w0 w1→W.grownBy w1 (some g)→wpList P ops Q rest a w1):wpList P ops Q (o :: rest) a W:=by
 obtain⟨hown,rows,hl,hR,hf⟩:=HO;refine R_store (raw d.sz) base hN hgd t p x ho e i j rows (c.take j++seg++c.drop (j+seg.length)) u seg c (fun _=>True) (fun _=>False) haddr hoff hx hu ht h1 (Zne hR) h0 hi hcl hcc hj (FK_raw hM) (fun _ hk=>hk.elim) HB ?_
 intro w1 hr hb hg;exact h w1 (N_written hown hl hf hr hg hM hokp) hb hg
end
end Kd
end Go.Proofs.YtaokkliamoghbaaGreatDoorW.PrintWords
namespace Go.Proofs.YtaokkliamoghbaaGreatDoorW.PrintMore
open Go.RowKit Go.Proofs.YtaokkliamoghbaaGreatDoorW.PrintWords
namespace Kd
open Go.Proofs.YtaokkliamoghbaaGreatDoorW.PrintWords.Kd
end Kd
namespace Kd
open Go.Proofs.YtaokkliamoghbaaGreatDoorW.PrintWords.Kd
end Kd
end Go.Proofs.YtaokkliamoghbaaGreatDoorW.PrintMore
namespace Go.Proofs.YtaokkliamoghbaaGreatDoorW.PrintWords
open Go.RowKit
section
variable {P:Program}{ops:Array Oper}{rest:List Oper}{o:Oper}{a:Act}{Q:Exit→Act→World→Prop}{W:World}
theorem Zdl {f:FuncId}{as:Array Operand}{ts:Array TypeId}(_ho:o.op=.call { callee:=.value (.func f),args:=as,argTypes:=ts })(h:wpList P ops Q (o :: rest) a W):wpList P ops Q (o :: rest) a W:=h
theorem Zal {b:Builtin}{xs:Array Operand}{ts:Array TypeId}(_ho:o.op=.call { callee:=.builtin b,args:=xs,argTypes:=ts })(h:wpList P ops Q (o :: rest) a W):wpList P ops Q (o :: rest) a W:=h
end
namespace Kd
end Kd
end Go.Proofs.YtaokkliamoghbaaGreatDoorW.PrintWords
namespace Go.Proofs.YtaokkliamoghbaaGreatDoorW.PrintWords
open Go.RowKit
namespace Kd
def V {α:Type}(d:Kd α)(_e:Nat)(W:World)(_base:Nat)(ok:Nat→Prop)(v:Value)(xs:List α):Prop:=∃A c,v=.slice A xs.length c∧xs.length≤c∧F d W ok A xs.length xs
end Kd
end Go.Proofs.YtaokkliamoghbaaGreatDoorW.PrintWords
