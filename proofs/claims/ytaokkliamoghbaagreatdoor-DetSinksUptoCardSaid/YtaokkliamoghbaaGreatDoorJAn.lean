/- Joined from texts of this seat, in their order. -/
import Derived.Test.YtaokkliamoghbaaGreatDoorJAj
import Derived.Test.YtaokkliamoghbaaGreatDoorJAk
import Derived.Test.YtaokkliamoghbaaGreatDoorJAm
import Derived.Test.YtaokkliamoghbaaGreatDoorJAc
import Derived.BigQuiet
set_option linter.unusedVariables false
set_option linter.unusedSimpArgs false
set_option linter.unusedSectionVars false
namespace Go.Proofs.YtaokkliamoghbaaGreatDoor.PVpa
open Go.RowKit Go.Proofs.YtaokkliamoghbaaGreatDoorW.PrintWords Go.Proofs.YtaokkliamoghbaaGreatDoorW.PrintLast Go.Proofs.YtaokkliamoghbaaGreatDoorW.PrintMore
theorem ne_blk {W:World}{a b:Nat}{c1 c2:Array Value}{t1 t2:Nat}(h1:W.heap[a]?=some (.cells c1 t1 (0,0)))(h2:W.heap[b]?=some (.cells c2 t2 (0,0)))(ht:t1≠t2):a≠b:=fun e=>by
 subst e;rw[h1]at h2;injection h2 with h2
 injection h2 with _ h2 _
 exact ht h2
def GBox (W:World)(g:Nat)(T R:Value):Prop:=W.heap[g]?=some (.cells #[T,R] 26 (0,0))
def Zqa (a b:Nat)(k:Nat):Prop:=k≠a∧k≠b
theorem after2 {X W:World}{g2 g5 gT ga gb gc gd:Nat}(hR:Below X.heap.size X W)(hoc:One X gc 99)(hod:One X gd 100)(l2:g2<gc∧g2<gd∧g2<X.heap.size)(l5:X.heap.size≤g5)(k5:W.heap[g5]?=some (.cells #[.slice none 0 0,.slice none 0 0] 26 (0,0)))
 (la:X.heap.size≤ga) (lb:X.heap.size≤gb) (lT:X.heap.size≤gT) (oa:One W ga 97) (kb:W.heap[gb]?=some (.cells #[.int .i32 10,.int .i32 10,.int .i32 98,.int .i32 98] 66 (0,0))) (kT:W.heap[gT]?=some (.cells (cells4 ga gb gc gd).toArray 64 (0,0))) :
 Below X.heap.size X ((W.setCell ⟨g5,0,none⟩ (.slice (some ⟨gT,0,none⟩) 4 4)).setCell ⟨g5,1,none⟩ (.slice none 0 0)) ∧
 GBox ((W.setCell ⟨g5,0,none⟩ (.slice (some ⟨gT,0,none⟩) 4 4)).setCell ⟨g5,1,none⟩ (.slice none 0 0)) g5 (.slice (some ⟨gT,0,none⟩) 4 4) (.slice none 0 0) ∧
 Kd.F k70 ((W.setCell ⟨g5,0,none⟩ (.slice (some ⟨gT,0,none⟩) 4 4)).setCell ⟨g5,1,none⟩ (.slice none 0 0)) (Zqa g2 g5) (some ⟨gT,0,none⟩) 4 T4:=by
 have hb:Below X.heap.size X ((W.setCell ⟨g5,0,none⟩ (.slice (some ⟨gT,0,none⟩) 4 4)).setCell ⟨g5,1,none⟩ (.slice none 0 0)):=(hR.setCell (p:=⟨g5,0,none⟩) l5 _).setCell (p:=⟨g5,1,none⟩) l5 _;have hk:∀k,k≠g5→((W.setCell ⟨g5,0,none⟩ (.slice (some ⟨gT,0,none⟩) 4 4)).setCell ⟨g5,1,none⟩ (.slice none 0 0)).heap[k]?=W.heap[k]?:=fun k hk=>
  (Below.heap_setCell (W.setCell ⟨g5,0,none⟩ (.slice (some ⟨gT,0,none⟩) 4 4)) ⟨g5,1,none⟩ (.slice none 0 0) k hk).trans (Below.heap_setCell W ⟨g5,0,none⟩ (.slice (some ⟨gT,0,none⟩) 4 4) k hk)
 have c1:=Zdx hoc;have c2:=Zdx hod;have n1:ga≠g5:=ne_blk oa k5 (by decide);have n2:gb≠g5:=ne_blk kb k5 (by decide);have n3:gT≠g5:=ne_blk kT k5 (by decide);refine⟨hb,?_,F_tok4 ((hk gT n3).trans kT) ⟨by omega,n3⟩ ((hk ga n1).trans oa) ⟨by omega,n1⟩ ((hk gb n2).trans kb) ⟨by omega,n2⟩ (hoc.below hb) ⟨by omega,by omega⟩ (hod.below hb) ⟨by omega,by omega⟩⟩;have h:=Zcd (Zcd k5 0 (.slice (some ⟨gT,0,none⟩) 4 4)) 1 (.slice none 0 0);simpa[GBox]using h
structure MakeInv (w Z:World)(g2 g5:Nat)(T:Value)(a1 a2:List ByteArray)(i:Nat)(rs:List S52)(vr:Value)(W:World):Prop where
 blk:GBox W g5 T vr
 row:Kd.N k52 70 W Z.heap.size (Zqa g2 g5) vr rs
 kept:Kept Z W (fun k=>k=g5)
 low:Below w.heap.size w W
 ok:∀j:Nat,j<rs.length→RuleMk a1 a2 (rs.getD j z52)
 few:rs.length≤i
theorem MakeInv.start {w Z:World}{g2 g5:Nat}{T:Value}{a1 a2:List ByteArray}(h:GBox Z g5 T (.slice none 0 0))(hb:Below w.heap.size w Z):MakeInv w Z g2 g5 T a1 a2 0 [] (.slice none 0 0) Z:=
 ⟨h,Kd.N_nil _ _ _ _ _,Kept.refl _ _,hb,fun j hj=>by simp at hj,Nat.le_refl _⟩
theorem MakeInv.skip {w Z W:World}{g2 g5 i:Nat}{T vr:Value}{a1 a2:List ByteArray}{rs:List S52}(h:MakeInv w Z g2 g5 T a1 a2 i rs vr W):MakeInv w Z g2 g5 T a1 a2 (i+1) rs vr W:=⟨h.blk,h.row,h.kept,h.low,h.ok,Nat.le_succ_of_le h.few⟩
def RBox (W:World)(g:Nat)(c:Int)(f:Bool)(R:Value):Prop:=W.heap[g]?=some (.cells #[.int .i64 c,.bool f,R] 70 (0,0))
structure RuleInv (w V:World)(g2 g5 g10:Nat)(ow:Option Nat)(c:Int)(f:Bool)(a1 a2:List ByteArray)(j:Nat)(ss:List S79)(vs:Value)(W:World):Prop where
 blk:RBox W g10 c f vs
 row:Kd.N k79 76 W V.heap.size (fun k=>k≠g2∧k≠g5∧k≠g10∧some k≠ow) vs ss
 kept:Kept V W (fun k=>k=g10)
 low:Below w.heap.size w W
 len:ss.length=j
 ok:∀k:Nat,k<ss.length→StepMk a1 a2 (decide (0<k)||f) (ss.getD k z79)
theorem RuleInv.start {w V:World}{g2 g5 g10:Nat}{ow:Option Nat}{c:Int}{f:Bool}{a1 a2:List ByteArray}(h:RBox V g10 c f (.slice none 0 0))(hb:Below w.heap.size w V):RuleInv w V g2 g5 g10 ow c f a1 a2 0 [] (.slice none 0 0) V:=
 ⟨h,Kd.N_nil _ _ _ _ _,Kept.refl _ _,hb,rfl,fun j hj=>by simp at hj⟩
theorem one_two (k:Int):∃n:Nat,(n=1∨n=2)∧wrap64 (1+wrap64 ((IntKind.u64.wrap ((IntKind.u64.wrap k).tdiv 2)).tmod 2))=n:=by
 have h:IntKind.u64.wrap k=k % 18446744073709551616:=by rw[IntKind.wrap_u64]
 rw[h];have h0:0≤k % 18446744073709551616:=Int.emod_nonneg _ (by decide);have h1:(k % 18446744073709551616).tdiv 2=k % 18446744073709551616 / 2:=Int.tdiv_eq_ediv_of_nonneg h0;rw[h1];have h2:IntKind.u64.wrap (k % 18446744073709551616 / 2)=k % 18446744073709551616 / 2:=by rw[IntKind.wrap_u64];omega
 rw[h2,Int.tmod_eq_emod_of_nonneg (by omega)]
 rcases (by omega:k % 18446744073709551616 / 2 % 2=0∨k % 18446744073709551616 / 2 % 2=1)with h3 | h3
 ·exact⟨1,.inl rfl,by rw[h3];unfold wrap64;omega⟩
 ·exact⟨2,.inr rfl,by rw[h3];unfold wrap64;omega⟩
structure Cuts (m j n p1 q1 o1 p2 q2 o2:Nat):Prop where
 e9:IntKind.i64.wrap (((m+1:Nat):Int)-1)=m
 e11:IntKind.i64.wrap ((m:Int)*j)=p1
 e13:IntKind.i64.wrap ((p1:Int).tdiv n)=q1
 e14:IntKind.i64.wrap (1+(q1:Int))=o1
 e22:IntKind.i64.wrap ((j:Int)+1)=((j+1:Nat):Int)
 e23:IntKind.i64.wrap ((m:Int)*((j+1:Nat):Int))=p2
 e25:IntKind.i64.wrap ((p2:Int).tdiv n)=q2
 e26:IntKind.i64.wrap (1+(q2:Int))=o2
 le:o1≤o2
 lt:o2≤m+1
 ne:o1≤m
theorem cuts (m j n:Nat)(h0:1≤m)(hm:m≤1048575)(hn:n=1∨n=2)(hj:j<n):∃p1 q1 o1 p2 q2 o2,Cuts m j n p1 q1 o1 p2 q2 o2:=by
 have key:∀p k:Nat,p≤3000000→(k=1∨k=2)→IntKind.i64.wrap ((p:Int).tdiv k)=(p / k:Nat):=fun p k hp hk=>by
  rw[Int.tdiv_eq_ediv_of_nonneg (by omega),IntKind.wrap_i64]
  rcases hk with rfl | rfl <;> omega
 have w1:∀z:Int,0≤z→z≤9000000→IntKind.i64.wrap z=z:=fun z h1 h2=>by rw[IntKind.wrap_i64];omega
 rcases hn with rfl | rfl
 ·obtain rfl:j=0:=by omega
  exact⟨0,0,1,m,m,m+1,by rw[w1 _ (by omega) (by omega)];omega,by simp[w1],by rw[key 0 1 (by omega) (.inl rfl)],by rw[w1 _ (by omega) (by omega)];rfl,by rw[w1 _ (by omega) (by omega)];rfl,by rw[w1 _ (by omega) (by omega)];omega,by rw[key m 1 (by omega) (.inl rfl)];omega,by rw[w1 _ (by omega) (by omega)];omega,by omega,by omega,by omega⟩
 ·obtain rfl | rfl:j=0∨j=1:=by omega
  ·exact⟨0,0,1,m,m / 2,1+m / 2,by rw[w1 _ (by omega) (by omega)];omega,by simp[w1],by rw[key 0 2 (by omega) (.inr rfl)],by rw[w1 _ (by omega) (by omega)];rfl,by rw[w1 _ (by omega) (by omega)];rfl,by rw[w1 _ (by omega) (by omega)];omega,by rw[key m 2 (by omega) (.inr rfl)],by rw[w1 _ (by omega) (by omega)];omega,by omega,by omega,by omega⟩
  ·exact⟨m,m / 2,1+m / 2,2*m,m,m+1,by rw[w1 _ (by omega) (by omega)];omega,by rw[w1 _ (by omega) (by omega)];omega,by rw[key m 2 (by omega) (.inr rfl)],by rw[w1 _ (by omega) (by omega)];omega,by rw[w1 _ (by omega) (by omega)];rfl,by rw[w1 _ (by omega) (by omega)];omega,by rw[key (2*m) 2 (by omega) (.inr rfl)];omega,by rw[w1 _ (by omega) (by omega)];omega,by omega,by omega,by omega⟩
theorem box_at {α:Type}{d:Kd α}{W:World}{g e base:Nat}{x:α}{cs:List Value}{ok okp:Nat→Prop}(h:W.heap[g]?=some (.cells cs.toArray e (0,0)))(hb:base≤g)(hx:Kd.FK d W okp x cs)(hokp:∀k,okp k→ok k∧k≠g)(hg:ok g) :
 Kd.N d e W base ok (.slice (some ⟨g,0,none⟩) 1 1) [x]:=by
 have hl:=d.K_len (Kd.FK_now hx);have ho:=d.K_one (Kd.FK_now hx);refine⟨fun k hk=>by simp[Value.ownBlock]at hk;rw[←hk];exact hg,[cs],rfl,⟨fun k hk=>hk.symm,cs,⟨by simp[hl,Kd.raw],.inr ⟨g,1,cs.toArray,rfl,hb,h,Nat.le_refl _,by decide,by simp[hl,Kd.raw],?_⟩⟩,⟨by simp[hl,Kd.raw],fun j p hj=>?_⟩⟩,fun j y c hy hc=>?_⟩
 ·exact List.take_of_length_le (by simp[hl,Kd.raw])
 ·cases j with
  | succ j=>simp at hj
  | zero=>
   simp at hj;subst hj;have e1:(cs.drop (0*d.sz)).take d.sz=cs:=by rw[Nat.zero_mul,List.drop_zero,←hl,List.take_length]
   show (cs.drop (0*d.sz)).take d.sz=cs∧((cs.drop (0*d.sz)).take d.sz).length=d.sz∧∀u∈(cs.drop (0*d.sz)).take d.sz,u.oneCell'=true;rw[e1];exact⟨rfl,hl,ho⟩
 ·cases j with
  | succ j=>simp at hy
  | zero=>
   simp at hy hc;rw[←hy,←hc];exact Kd.FK_mono hx (fun k hk=>⟨(hokp k hk).1,fun he=>(hokp k hk).2 (by simpa[Value.ownBlock]using he)⟩)
def z79c:List Value:=[.slice none 0 0,.int .i64 0,.slice none 0 0,.slice none 0 0,.slice none 0 0]
def rv17 (a1 a2:List ByteArray)(g6 g7 lo:Nat):Nat→Value→World→World→Prop
 | 31,v,W,w'=>lo≤W.heap.size∧∃ga p cs,v=.agg cs.toArray∧(∃D N,Mk nAB a1 a2 D N p∧D≤9∧N≤23)∧Kd.FK k76 w' (Okp ga g6 g7 W.heap.size) p cs∧lo≤ga∧LitS W ga nAB
 | 33,v,W,w'=>lo≤W.heap.size∧v=.pointer (some ⟨W.heap.size,0,none⟩)∧w'=W.alloc (.cells z79c.toArray 76)
 | _,_,_,_=>True
def jf17 (a1 a2:List ByteArray)(g6 g7 lo:Nat)(L:Nat→Bool)(vals:Nat→Value)(W:World):Prop:=
 (L 31=true→∃p cs,vals 31=.agg cs.toArray∧(∃D N,Mk nAB a1 a2 D N p∧D≤9∧N≤23)∧Kd.FK k76 W (fun k=>(k=g6∨k=g7∨lo≤k)∧k<W.heap.size∧(L 33=true→vals 33≠.pointer (some ⟨k,0,none⟩))) p cs) ∧
 (L 33=true→∃g,vals 33=.pointer (some ⟨g,0,none⟩)∧lo≤g∧W.heap[g]?=some (.cells z79c.toArray 76 (0,0)))
theorem Zpk (m:Nat)(a1 a2:List ByteArray)(g6 g7 lo:Nat)(h6:g6<lo)(h7:g7<lo):∀i (L:Nat→Bool) (vals:Nat→Value) v w w',i<m→L i=false→jf17 a1 a2 g6 g7 lo L vals w→Zca w w'→rv17 a1 a2 g6 g7 lo i v w w' →
 jf17 a1 a2 g6 g7 lo (fun j=>if j=i then true else L j) (fun j=>if j=i then v else vals j) w':=by
 intro i L vals v w w' _ hLi ⟨j1,j2⟩ hR hv;by_cases e31:i=31
 ·subst e31;obtain⟨hlo,ga,p,cs,rfl,hM,hF,hga,hla⟩:=hv;refine⟨fun _=>⟨p,cs,by simp,hM,Kd.FK_mono (Kd.FK_bound hF) (fun k hk=>⟨?_,hk.2,fun h33 he=>?_⟩)⟩,fun h33=>?_⟩
  ·rcases hk.1 with h | h | h | h
   ·exact .inr (.inr (by omega))
   ·exact .inl h
   ·exact .inr (.inl h)
   ·exact .inr (.inr (by omega))
  ·have h33':L 33=true:=by simpa using h33
   obtain⟨g,hg1,hg2,hg3⟩:=j2 h33';have he':vals 33=.pointer (some ⟨k,0,none⟩):=by simpa using he
   rw[hg1]at he';injection he' with he'
   injection he' with he'
   injection he' with he' _ _
   subst he';have hlt:=Zdx hg3
   rcases hk.1 with h | h | h | h
   ·subst h;exact ne_blk hla.blk hg3 (by decide) rfl
   ·omega
   ·omega
   ·omega
  ·have h33':L 33=true:=by simpa using h33
   obtain⟨g,hg1,hg2,hg3⟩:=j2 h33';exact⟨g,by simpa using hg1,hg2,Zaf hg3 hR⟩
 ·by_cases e33:i=33
  ·subst e33;obtain⟨hlo,rfl,rfl⟩:=hv;refine⟨fun h31=>?_,fun _=>⟨_,by simp,hlo,Zaj _ _⟩⟩;have h31':L 31=true:=by simpa using h31
   obtain⟨p,cs,hc,hM,hF⟩:=j1 h31';refine⟨p,cs,by simpa using hc,hM,Kd.FK_mono (Kd.FK_below hF hR) (fun k hk=>⟨hk.1,Nat.lt_of_lt_of_le hk.2.1 hR.size,fun _ he=>?_⟩)⟩;simp at he
  ·refine⟨fun h31=>?_,fun h33=>?_⟩
   ·have h31':L 31=true:=by simpa[Ne.symm e31]using h31
    obtain⟨p,cs,hc,hM,hF⟩:=j1 h31';refine⟨p,cs,by simpa[Ne.symm e31]using hc,hM,Kd.FK_mono (Kd.FK_below hF hR) (fun k hk=>⟨hk.1,Nat.lt_of_lt_of_le hk.2.1 hR.size,fun h33 he=>hk.2.2 (by simpa[Ne.symm e33]using h33) (by simpa[Ne.symm e33]using he)⟩)⟩
   ·have h33':L 33=true:=by simpa[Ne.symm e33]using h33
    obtain⟨g,hg1,hg2,hg3⟩:=j2 h33';exact⟨g,by simpa[Ne.symm e33]using hg1,hg2,Zaf hg3 hR⟩
section
variable {m j n p1 q1 o1 p2 q2 o2:Nat}
theorem Cuts.e9b (h:Cuts m j n p1 q1 o1 p2 q2 o2):IntKind.i64.wrap (m:Int)=m:=by
 have h1:=h.e9;rwa[show ((m+1:Nat):Int)-1=m by omega]at h1
theorem Cuts.e13b (h:Cuts m j n p1 q1 o1 p2 q2 o2):IntKind.i64.wrap ((p1:Int) / n)=q1:=by
 have h1:=h.e13;rwa[Int.tdiv_eq_ediv_of_nonneg (by omega)]at h1
theorem Cuts.e23b (h:Cuts m j n p1 q1 o1 p2 q2 o2):IntKind.i64.wrap ((m:Int)*((j:Int)+1))=p2:=by
 have h1:=h.e23;rwa[show ((j+1:Nat):Int)=(j:Int)+1 by omega]at h1
theorem Cuts.e25b (h:Cuts m j n p1 q1 o1 p2 q2 o2):IntKind.i64.wrap ((p2:Int) / n)=q2:=by
 have h1:=h.e25;rwa[Int.tdiv_eq_ediv_of_nonneg (by omega)]at h1
end
abbrev OkS (g2 g5 g10:Nat)(ow:Option Nat)(k:Nat):Prop:=k≠g2∧k≠g5∧k≠g10∧some k≠ow
theorem okE_of {g2 g5 g6 g7 g10 lo V Z k:Nat}{own ow:Option Nat}(hz:g6<Z∧g7<Z)(how:∀k,ow=some k→Z≤k∧k<g10)(h1:g6<g10∧g7<g10∧g5<g10∧g2<g10)(h2:g10<lo)(h3:g5<g6∧g5<g7∧g2<g6∧g2<g7)(h4:∀k,own=some k→V≤k∧k<lo)(h5:g10<V)(hk:k=g6∨k=g7∨lo≤k):OkS g2 g5 g10 ow k∧some k≠own:=by
 refine⟨⟨?_,?_,?_,fun he=>?_⟩,fun he=>?_⟩
 ·rcases hk with h | h | h <;> omega
 ·rcases hk with h | h | h <;> omega
 ·rcases hk with h | h | h <;> omega
 ·have h6:=how k he.symm
  rcases hk with h | h | h <;> omega
 ·have h6:=h4 k he.symm
  rcases hk with h | h | h <;> omega
theorem Zgg {a:Nat}(h:a≤2):(a+1)*104≤140737488355328:=by omega
theorem small40 {a:Nat}(h:a≤3):(a+1)*40≤140737488355328:=by omega
theorem Zpc {a b c d:Nat}(h1:a<b)(h2:b<c)(h3:c≤d):a≠d:=by omega
theorem getD_app {α:Type}(l:List α)(x d:α)(k:Nat):(l++[x]).getD k d=if k=l.length then x else l.getD k d:=by
 rw[List.getD_eq_getElem?_getD,List.getD_eq_getElem?_getD];by_cases h:k=l.length
 ·subst h;simp
 ·rw[if_neg h]
  rcases Nat.lt_or_ge k l.length with h2 | h2
  ·rw[List.getElem?_append_left h2]
  ·rw[List.getElem?_eq_none (by simp;omega),List.getElem?_eq_none h2]
section
variable {w V W6 W7 wr:World}{g2 g5 g10 j:Nat}{ow:Option Nat}{c:Int}{f:Bool}{a1 a2:List ByteArray}{ss:List S79}{vs v7:Value}
theorem RuleInv.next (h:RuleInv w V g2 g5 g10 ow c f a1 a2 j ss vs wr)(hV:g10<V.heap.size)(hwV:w.heap.size≤g10)(hb:Below wr.heap.size wr W6)(hg:W6.grownBy W7 vs.ownBlock){s:S79}(hN:Kd.N k79 76 W7 V.heap.size (OkS g2 g5 g10 ow) v7 (ss++[s]))
 (hs:StepMk a1 a2 (decide (0<j)||f) s):RuleInv w V g2 g5 g10 ow c f a1 a2 (j+1) (ss++[s]) v7 (W7.setCell ⟨g10,2,none⟩ v7):=by
 have hbase:∀k,vs.ownBlock=some k→V.heap.size≤k:=fun k hk=>Kd.N_base h.row k hk
 have hne:some g10≠vs.ownBlock:=fun e=>by have:=hbase g10 e.symm;omega
 have h7:RBox W7 g10 c f vs:=Zbd (Zaf h.blk hb) hg hne;have hk7:Kept V W7 (fun k=>k=g10):=Kept.of_grown hg (h.kept.below hb) (fun k hk=>.inr (hbase k hk));refine⟨?_,Kd.N_far hN (fun k hk=>hk.2.2.1) _,⟨by simp[World.setCell];exact hk7.1,fun k hk hn=>(Below.heap_setCell W7 ⟨g10,2,none⟩ v7 k hn).trans (hk7.2 k hk hn)⟩,?_,by simp[h.len],fun k hk=>?_⟩
 ·have h8:=Zcd h7 2 v7;simpa[RBox]using h8
 ·have h8:Below w.heap.size w W7:=(Zae h.low hb).grown hg (Zae h.low hb).size (fun k hk=>by have:=hbase k hk;omega);exact h8.setCell (p:=⟨g10,2,none⟩) hwV v7
 ·rw[getD_app];have hl:=h.len;by_cases he:k=ss.length
  ·rw[if_pos he,he,hl];exact hs
  ·rw[if_neg he];exact h.ok k (by simp at hk;omega)
end
section
variable {w Z W6 W7 wr:World}{g2 g5 i:Nat}{T:Value}{a1 a2:List ByteArray}{rs:List S52}{vr v7:Value}
theorem MakeInv.next (h:MakeInv w Z g2 g5 T a1 a2 i rs vr wr)(hZ:g5<Z.heap.size)(hwZ:w.heap.size≤g5)(hb:Below wr.heap.size wr W6)(hg:W6.grownBy W7 vr.ownBlock){r:S52}(hN:Kd.N k52 70 W7 Z.heap.size (Zqa g2 g5) v7 (rs++[r]))
 (hr:RuleMk a1 a2 r):MakeInv w Z g2 g5 T a1 a2 (i+1) (rs++[r]) v7 (W7.setCell ⟨g5,1,none⟩ v7):=by
 have hbase:∀k,vr.ownBlock=some k→Z.heap.size≤k:=fun k hk=>Kd.N_base h.row k hk
 have hne:some g5≠vr.ownBlock:=fun e=>by have:=hbase g5 e.symm;omega
 have h7:GBox W7 g5 T vr:=Zbd (Zaf h.blk hb) hg hne;have hk7:Kept Z W7 (fun k=>k=g5):=Kept.of_grown hg (h.kept.below hb) (fun k hk=>.inr (hbase k hk));refine⟨?_,Kd.N_far hN (fun k hk=>hk.2) _,⟨by simp[World.setCell];exact hk7.1,fun k hk hn=>(Below.heap_setCell W7 ⟨g5,1,none⟩ v7 k hn).trans (hk7.2 k hk hn)⟩,?_,fun k hk=>?_,by have:=h.few;simp;omega⟩
 ·have h8:=Zcd h7 1 v7;simpa[GBox]using h8
 ·have h8:Below w.heap.size w W7:=(Zae h.low hb).grown hg (Zae h.low hb).size (fun k hk=>by have:=hbase k hk;have:=h.low.size;have:=h.kept.1;omega);exact h8.setCell (p:=⟨g5,1,none⟩) hwZ v7
 ·rw[getD_app];by_cases he:k=rs.length
  ·rw[if_pos he];exact hr
  ·rw[if_neg he];exact h.ok k (by simp at hk;omega)
end
theorem RuleInv.rule {w V wr:World}{g2 g5 g10 n i:Nat}{ow:Option Nat}{f:Bool}{a1 a2:List ByteArray}{ss:List S79}{vs:Value}(h:RuleInv w V g2 g5 g10 ow (10+(i:Int)) f a1 a2 n ss vs wr)(hn:n=1∨n=2)(hi:i<3):RuleMk a1 a2 ⟨10+(i:Int),f,ss⟩:=
 ⟨by show 10≤10+(i:Int)∧10+(i:Int)≤12;omega,by show 1≤ss.length;rw[h.len];omega,by show ss.length≤2;rw[h.len];omega,h.ok⟩
theorem FK_step0 {W:World}{ok:Nat→Prop}{p:S76}{B1 B2 B3:Option Addr}{d1 d2 d3:Nat}(h:Kd.FK k76 W ok p [.int .i64 p.f0,.slice B1 p.f1.length d1,.slice B2 p.f2.length d2,.slice B3 p.f3.length d3]) :
 Kd.FK k79 W ok (⟨[],p⟩:S79) [.slice none 0 0,.int .i64 p.f0,.slice B1 p.f1.length d1,.slice B2 p.f2.length d2,.slice B3 p.f3.length d3]:=by
 obtain⟨A1,c1,A2,c2,A3,c3,e,l1,q1,l2,q2,l3,q3⟩:=k76_openF h;simp at e;obtain⟨⟨rfl,rfl⟩,⟨rfl,rfl⟩,rfl,rfl⟩:=e;exact Znj W ok ⟨[],p⟩ (Nat.le_refl _) (Kd.F_nil _ _ _) l1 q1 l2 q2 l3 q3
theorem Zjw {W:World}{ok:Nat→Prop}{p:S76}{l1:List ByteArray}{A1:Option Addr}{c1:Nat}{cs:List Value}(h:Kd.FK k79 W ok (⟨[],p⟩:S79) cs)(hc:l1.length≤c1)(hf:Kd.F Kd.string W ok A1 l1.length l1) :
 Kd.FK k79 W ok (⟨l1,p⟩:S79) (cs.take 0++[.slice A1 l1.length c1]++cs.drop 1):=by
 obtain⟨A0,c0,A2,c2,A3,c3,A4,c4,rfl,_,_,q1,q2,q3,q4,q5,q6⟩:=k79_openF h;exact Znj W ok ⟨l1,p⟩ hc hf q1 q2 q3 q4 q5 q6
theorem z79_FK (W:World)(ok:Nat→Prop):Kd.FK k79 W ok z79 z79c:=Znj W ok z79 (Nat.le_refl _) (Kd.F_nil _ _ _) (Nat.le_refl _) (Kd.F_nil _ _ _) (Nat.le_refl _) (Kd.F_nil _ _ _) (Nat.le_refl _) (Kd.F_nil _ _ _)
theorem Zld {w wr V W:World}{g:Nat}(hl:Below w.heap.size w wr)(hb:Below wr.heap.size wr V)(hg:g=wr.heap.size)(hk:Kept V W (fun k=>k=g))(hw:Below w.heap.size w W):Below wr.heap.size wr W:=
 ⟨hw.os.trans hl.os.symm,hw.tape.trans hl.tape.symm,hw.output.trans hl.output.symm,Nat.le_trans hb.size hk.1,fun k hlt=>(hk.2 k (Nat.lt_of_lt_of_le hlt hb.size) (by omega)).trans (hb.block k hlt)⟩
theorem FK_rule {W:World}{g2 g5 g10:Nat}{ow:Option Nat}{base:Nat}{c:Int}{f:Bool}{ss:List S79}{Av:Option Addr}{cv:Nat}(h:Kd.N k79 76 W base (OkS g2 g5 g10 ow) (.slice Av ss.length cv) ss) :
 Kd.FK k52 W (fun k=>Zqa g2 g5 k∧some k≠ow) (⟨c,f,ss⟩:S52) [.int .i64 c,.bool f,.slice Av ss.length cv]:=
 k52_mkF W _ ⟨c,f,ss⟩ (Kd.N_reads' h).2.1 (Kd.F_mono (Kd.N_F h) (fun k hk=>⟨⟨hk.1,hk.2.1⟩,hk.2.2.2⟩))
theorem Zqy {g2 g5 n k:Nat}(h2:g2<n)(h5:g5<n)(h:n≤k):Zqa g2 g5 k:=⟨by omega,by omega⟩
theorem MakeInv.done {w Z W:World}{g2 g5 i n ct N:Nat}{At:Option Addr}{a1 a2:List ByteArray}{rs:List S52}{Ar:Option Addr}{cr:Nat}{toks:List S70}
 (h:MakeInv w Z g2 g5 (.slice At n ct) a1 a2 i rs (.slice Ar rs.length cr) W) (hF:Kd.F k70 Z (Zqa g2 g5) At n toks) (hct:n≤ct) (h2:W.heap[g2]?=some (.cells #[.slice none 0 0,.slice none 0 0] 26 (0,0))) (hw:w.heap.size≤g2)
 (hk:(N≤3∧toks=T4∧a1=nO∧a2=nC)∨(3<N∧toks=T6∧a1=nOP∧a2=nCQ)) (hi:i≤3) (hN:i≤N) :
 ((W.setCell ⟨g2,0,none⟩ (.slice At n ct)).setCell ⟨g2,1,none⟩ (.slice Ar rs.length cr)).heap[g2]?=some (.cells #[.slice At n ct,.slice Ar rs.length cr] 26 (0,0)) ∧
 MakeOk N ⟨toks,rs⟩∧GramR ((W.setCell ⟨g2,0,none⟩ (.slice At n ct)).setCell ⟨g2,1,none⟩ (.slice Ar rs.length cr)) ⟨toks,rs⟩ At Ar ct cr ∧
 Below w.heap.size w ((W.setCell ⟨g2,0,none⟩ (.slice At n ct)).setCell ⟨g2,1,none⟩ (.slice Ar rs.length cr))∧toks.length=n:=by
 have hl:toks.length=n:=Kd.F_len hF;have f1:=Kd.F_kept hF h.kept (fun k hk he=>hk.2 he);have f2:=Kd.F_far (Kd.F_far f1 (p:=⟨g2,0,none⟩) (fun k hk=>hk.1) (.slice At n ct)) (p:=⟨g2,1,none⟩) (fun k hk=>hk.1) (.slice Ar rs.length cr);have r2:=Kd.N_far (Kd.N_far h.row (p:=⟨g2,0,none⟩) (fun k hk=>hk.1) (.slice At n ct)) (p:=⟨g2,1,none⟩) (fun k hk=>hk.1) (.slice Ar rs.length cr);have r3:=Kd.N_reads' r2;refine⟨?_,⟨⟨a1,a2,hk,h.ok⟩,Nat.le_trans h.few hi,Nat.le_trans h.few hN⟩,⟨by show toks.length≤ct;omega,?_,r3.2.1,r3.2.2⟩,(h.low.setCell (p:=⟨g2,0,none⟩) hw _).setCell (p:=⟨g2,1,none⟩) hw _,hl⟩
 ·have h8:=Zcd (Zcd h2 0 (.slice At n ct)) 1 (.slice Ar rs.length cr);simpa using h8
 ·have h9:=Kd.F_now f2;show k70.C _ _ toks.length toks;rw[hl];exact h9
theorem Zmi:(Tryz.prog.info? 76).map (fun i=>(i.zero,i.size,i.bytes))=some (some (.agg #[.slice none 0 0,.int .i64 0,.slice none 0 0,.slice none 0 0,.slice none 0 0]),5,104):=by kernel_rfl
theorem info52:(Tryz.prog.info? 70).map (fun i=>(i.zero,i.size,i.bytes))=some (some (.agg #[.int .i64 0,.bool false,.slice none 0 0]),3,40):=by kernel_rfl
end Go.Proofs.YtaokkliamoghbaaGreatDoor.PVpa
namespace Go
section
variable {P:Program}{ops:Array Oper}{md:Region.Mode}
structure GInv4 (md:Region.Mode)(ops:Array Oper)(m:Nat)(a0:Act)(deps:Nat→List Nat)(Φ:Nat→List Value→World→Prop)(Jf:(Nat→Bool)→(Nat→Value)→World→Prop)(R:World→World→Prop)(w0:World)(listed:Array Bool)(a:Act)(vals:Nat→Value)(w:World):Prop where
 size:a.tmps.size=a0.tmps.size
 defers:a.defers=a0.defers
 lsize:listed.size=ops.size
 done:∀j,j<m→listed.getD j true=true→∀d,Zah ops j=some d→a.tmps.getD d undef=vals j
 open_:∀t,(∀j,j<m→listed.getD j true=true→Zah ops j≠some t)→a.tmps.getD t undef=a0.tmps.getD t undef
 facts:∀j,j<m→listed.getD j true=true→Φ j ((j :: deps j).map vals) w
 rel:R w0 w
 tail:∀t,m≤t→t<ops.size→listed.getD t true=false
 closed:∀j,j<m→listed.getD j true=true→∀i,Region.waitsFor md ops j i=true→listed.getD i false=true
 jx:Jf (fun j=>listed.getD j true) vals w
section main4
variable {Q:Exit→Act→World→Prop}{a0:Act}{w0:World}{m N:Nat}{deps:Nat→List Nat}{Φ:Nat→List Value→World→Prop}{Jf:(Nat→Bool)→(Nat→Value)→World→Prop}{Rv:Nat→Value→World→World→Prop}{R:World→World→Prop}
theorem grow_go4 (hB:Zfn md ops m N deps=true)(hT:Region.seqB md ops (ops.size-m) m (Zbs m ops.size)=true)(hN:a0.tmps.size=N)(hRt:∀w w1 w2,R w w1→R w1 w2→R w w2)
 (stab:∀i vs w w',Φ i vs w→R w w'→Φ i vs w') (jstep:∀i (L:Nat→Bool) (vals:Nat→Value) v w w',i<m→L i=false→Jf L vals w→R w w'→Rv i v w w'→Jf (fun j=>if j=i then true else L j) (fun j=>if j=i then v else vals j) w')
 (step:∀i o,i<m→ops[i]?=some o→∀(vals:Nat→Value) W,R w0 W→(∀j∈deps i,Φ j ((j :: deps j).map vals) W) →
  ∀K:Act→World→Prop,(∀v w',R W w'→Rv i v W w'→Φ i (v :: (deps i).map vals) w'→K ((Zan ops a0 vals (deps i)).put o.dst v) w')→if Region.wanted o (yielded ops (Zan ops a0 vals (deps i)).tmps)=true then Oper.wp P o (Zan ops a0 vals (deps i)) W K (fun _ _ _=>False)else K ((Zan ops a0 vals (deps i)).put o.dst undef) W)
 (fin:∀(vals:Nat→Value) W,R w0 W→(∃L:Nat→Bool,(∀j,j<m→L j=true)∧Jf L vals W)→(∀j,j<m→Φ j ((j :: deps j).map vals) W)→wpList P ops Q (ops.toList.drop m) (Zan ops a0 vals (List.range m)) W) :
 ∀k listed a w vals,Zjm listed m=k→GInv4 md ops m a0 deps Φ Jf R w0 listed a vals w→wpAny P md ops Q (ops.size-m+k) listed a w:=by
 simp only[Zfn,Bool.and_eq_true,Bool.or_eq_true,decide_eq_true_eq]at hB;obtain⟨⟨⟨hsel,hms⟩,hall⟩,hsink⟩:=hB;simp only[Bool.and_eq_true,List.all_eq_true,List.mem_range,decide_eq_true_eq]at hall;have hdst:∀j,j<m→∀e,Zah ops j=some e→e<a0.tmps.size:=fun j hj e he=>by
  have:=(hall j hj).1.2;rw[he]at this;rw[hN];simpa using this
 have hdis:∀i j,i<m→j<m→∀t,Zah ops i=some t→Zah ops j=some t→j=i:=fun i j hi hj t h1 h2=>by
  have:=(hall i hi).2 j hj;simp only[Bool.or_eq_true,beq_iff_eq,bne_iff_ne,ne_eq,h1,h2,Option.isNone_some,Bool.false_eq_true,or_false,not_true_eq_false]at this;exact this
 intro k
 induction k with
 | zero=>
  intro listed a w vals hc inv;have hl:=Zga m hc;have e1:listed=Zbs m ops.size:=by
   apply Array.ext
   ·simp[Zbs,inv.lsize]
   ·intro i h1 h2;have hi:i<ops.size:=by rw[←inv.lsize];exact h1
    simp only[Zbs,Array.getElem_map,Array.getElem_range];by_cases him:i<m
    ·have:=hl i him;simp[h1]at this;rw[this,decide_eq_true him]
    ·have:=inv.tail i (by omega) hi;simp[h1]at this;rw[this,decide_eq_false him]
  have e2:a=Zan ops a0 vals (List.range m):=by
   refine Act.ext' (by rw[Zdr];exact inv.size) (by rw[Zcz];exact inv.defers) (fun t=>?_);have hg:=Zfk (ops:=ops) a0 vals t (List.range m) (fun j hj=>hdst j (List.mem_range.1 hj));by_cases hx:∃j,j<m∧Zah ops j=some t
   ·obtain⟨j,hj,hd⟩:=hx;rw[hg.1 j (List.mem_range.2 hj) hd (fun i hi hd2=>hdis j i hj (List.mem_range.1 hi) t hd hd2)];exact inv.done j hj (hl j hj) t hd
   ·rw[hg.2 (fun j hj hd=>hx ⟨j,List.mem_range.1 hj,hd⟩)];exact inv.open_ t (fun j hj _ hd=>hx ⟨j,hj,hd⟩)
  rw[e1,e2];have hlen:(ops.toList.drop m).length=ops.size-m:=by simp
  have h3:=wpAny_of_seq (P:=P) (md:=md) (ops:=ops) (Q':=Q) (ops.toList.drop m) m (Zbs m ops.size) (Zan ops a0 vals (List.range m)) w (fun j=>by simp) (by rw[hlen];exact hT) (fin vals w inv.rel ⟨_,hl,inv.jx⟩ (fun j hj=>inv.facts j hj (hl j hj)));rw[hlen]at h3;exact h3
 | succ k ih=>
  intro listed a w vals hc inv;obtain⟨j0,hj0,hu0,hb0⟩:=Zgo m (by omega:Zjm listed m≠0);have hin:∀i,i<ops.size→listed.getD i true=true→listed.getD i false=true:=fun i hi h=>by
   have:i<listed.size:=by rw[inv.lsize];exact hi
   simp[this]at h ⊢;exact h
  refine⟨fun h0=>?_,fun i hi=>?_⟩
  ·have hr:j0∈Region.ready md ops listed:=by
    have h1:=(hall j0 hj0).1.1.1.1;cases ho:ops[j0]? with
    | none=>rw[ho]at h1;cases h1
    | some o=>
     rw[ho]at h1;simp only[Bool.and_eq_true,Array.all_eq_true_iff_forall_mem]at h1;refine mem_ready.2 ⟨hu0,o,ho,fun e he hb=>?_⟩;have h2:=h1.2 e he;rw[hb]at h2;simp at h2;exact hin _ (by omega) (hb0 _ h2)
   rw[h0]at hr;cases hr
  ·obtain⟨hui,o,ho,hafter⟩:=mem_ready.1 hi;have him:i<m:=by
    rcases Nat.lt_or_ge i m with h | h
    ·exact h
    ·exfalso
     have his:i<ops.size:=(Array.getElem?_eq_some_iff.1 ho).1
     rcases hsink with h2 | ⟨hs1,hs2⟩
     ·omega
     ·have hinv:HeadInv md ops m listed:=⟨inv.lsize,fun j oj hj hl e he hb=>?_,inv.tail⟩
      ·exact tail_waits hs1 hs2 (by omega) hinv (m-j0) j0 rfl hj0 hu0 i h hi
      ·have hjs:j<ops.size:=(Array.getElem?_eq_some_iff.1 hj).1;have hl2:listed.getD j true=true:=by
        have:j<listed.size:=by rw[inv.lsize];exact hjs
        simp[this]at hl ⊢;exact hl
       rcases Nat.lt_or_ge j m with hjm | hjm
       ·refine inv.closed j hjm hl2 e.on ?_
        unfold Region.waitsFor;rw[hj];exact Array.any_eq_true'.2 ⟨e,he,by simp[hb]⟩
       ·have:=inv.tail j hjm hjs;rw[hl2]at this;cases this
   have hfact:=hall i him;have hdl:∀j∈deps i,j<m∧listed.getD j true=true:=fun j hj=>by
    obtain⟨h2,h3⟩:=hfact.1.1.1.2 j hj;refine⟨h2,?_⟩;have h4:=Zcn hi h3;cases hb:listed.getD j true with
    | true=>rfl
    | false=>have:=getD_both hb;rw[h4]at this;cases this
   have hdo:Zah ops i=o.dst:=by unfold Zah;rw[ho];rfl
   have hlk:looks ops i=o.looksAt ops:=by unfold looks;rw[ho]
   have hsame:∀t∈o.looksAt ops,a.tmps.getD t undef=(Zan ops a0 vals (deps i)).tmps.getD t undef:=fun t ht=>by
    have h1:=hfact.1.1.2;rw[hlk]at h1;have h1:=h1 t ht;simp only[Bool.or_eq_true,List.any_eq_true,List.all_eq_true,beq_iff_eq,bne_iff_ne,ne_eq,List.mem_range]at h1;have hg:=Zfk (ops:=ops) a0 vals t (deps i) (fun j hj=>hdst j (hdl j hj).1)
    rcases h1 with⟨j,hj,hd⟩ | h2
    ·rw[hg.1 j hj hd (fun k hk hd2=>hdis j k (hdl j hj).1 (hdl k hk).1 t hd hd2)];exact inv.done j (hdl j hj).1 (hdl j hj).2 t hd
    ·have hno:∀j,j<m→listed.getD j true=true→Zah ops j≠some t:=fun j hj hlj hd=>by
      rcases h2 j hj with (h3 | h3) | h3
      ·exact h3 hd
      ·subst h3;rw[hui]at hlj;cases hlj
      ·have h5:=inv.closed j hj hlj i h3;have h4:=getD_both hui;rw[h5]at h4;cases h4
     rw[inv.open_ t hno,hg.2 (fun j hj=>hno j (hdl j hj).1 (hdl j hj).2)]
   have hgd:o.guard=none:=by
    have h1:=hfact.1.1.1.1;rw[ho]at h1;simp only[Bool.and_eq_true,Option.isNone_iff_eq_none]at h1;exact h1.1
   have hwant:∀tmps,Region.wanted o (yielded ops tmps)=true:=fun tmps=>by unfold Region.wanted;rw[hgd]
   have hnot:i ∉ deps i:=fun h=>by
    have:=(hdl i h).2;rw[hui]at this;cases this
   have hst:=step i o him ho vals w inv.rel (fun j hj=>inv.facts j (hdl j hj).1 (hdl j hj).2)
    (fun a' w'=>∃v,a'=(Zan ops a0 vals (deps i)).put o.dst v∧R w w'∧Rv i v w w'∧Φ i (v :: (deps i).map vals) w') (fun v w' h1 h3 h2=>⟨v,rfl,h1,h3,h2⟩)
   rw[if_pos (hwant _)]at hst;have hev:execOp a.eval o=execOp (Zan ops a0 vals (deps i)).eval o:=execOp_congr o (fun cs b=>Region.noSelect_spec hsel i o cs b ho) (fun x hx=>by
    cases x with
    | tmp t=>exact hsame t (List.mem_append_left _ (List.mem_filterMap.2 ⟨.tmp t,by simpa using hx,rfl⟩))
    | _=>rfl)
   unfold wpOp;simp only[ho,hwant,if_true];refine .inl (Zgu hev (fun e he=>by rw[Zdr];exact hdst i him e (hdo.trans he)) (by rw[Zcz];exact inv.defers) ?_ hst);rintro v w' ⟨hR,hRv,hΦ⟩;have hmap:∀l:List Nat,i ∉ l→l.map (fun j=>if j=i then v else vals j)=l.map vals:=fun l hl=>List.map_congr_left (fun j hj=>if_neg (fun e:j=i=>hl (by rw[←e];exact hj)))
   have his:i<listed.size:=by rw[inv.lsize];exact (Array.getElem?_eq_some_iff.1 ho).1
   have hset:∀j,(listed.setIfInBounds i true).getD j true=true→j≠i→listed.getD j true=true:=fun j hj hne=>by
    rw[getD_set_ne true (fun e=>hne e.symm)]at hj;exact hj
   refine ih (listed.setIfInBounds i true) (a.put o.dst v) w' (fun j=>if j=i then v else vals j) ?_ ⟨?_,?_,?_,?_,?_,?_,?_,?_,?_,?_⟩
   ·have:=Zjv hui m;rw[if_pos him]at this;omega
   ·rw[Zjn];exact inv.size
   ·rw[Zeb];exact inv.defers
   ·simp[inv.lsize]
   ·intro j hj hlj d hd;rw[Zfg _ _ _ _ (fun e he=>by rw[inv.size];exact hdst i him e (hdo.trans he))];by_cases hji:j=i
    ·subst hji;rw[if_pos (hdo.symm.trans hd),if_pos rfl]
    ·rw[if_neg (fun h=>hji (hdis i j him hj d (hdo.trans h) hd)),if_neg hji];exact inv.done j hj (hset j hlj hji) d hd
   ·intro t ht;have hti:=ht i him (by simp[his]);rw[Zfg _ _ _ _ (fun e he=>by rw[inv.size];exact hdst i him e (hdo.trans he)),if_neg (fun h=>hti (hdo.trans h))];refine inv.open_ t (fun j hj hlj=>?_);by_cases hji:j=i
    ·subst hji;exact hti
    ·exact ht j hj (by rw[getD_set_ne true (fun e=>hji e.symm)];exact hlj)
   ·intro j hj hlj;by_cases hji:j=i
    ·subst hji;have e:(j :: deps j).map (fun k=>if k=j then v else vals k)=v :: (deps j).map vals:=by
      rw[List.map_cons,if_pos rfl,hmap _ hnot]
     rw[e];exact hΦ
    ·have hlj':=hset j hlj hji;rw[hmap (j :: deps j) (fun h=>by
      rcases List.mem_cons.1 h with h | h
      ·exact hji h.symm
      ·have h2:=inv.closed j hj hlj' i ((hall j hj).1.1.1.2 i h).2;have h4:=getD_both hui;rw[h2]at h4;cases h4)]
     exact stab _ _ _ _ (inv.facts j hj hlj') hR
   ·exact hRt _ _ _ inv.rel hR
   ·intro t ht ht2;rw[getD_set_ne true (by omega)];exact inv.tail t ht ht2
   ·intro j hj hlj k hk;by_cases hki:k=i
    ·subst hki;simp[his]
    ·rw[getD_set_ne false (fun e=>hki e.symm)];by_cases hji:j=i
     ·subst hji;exact Zcn hi hk
     ·exact inv.closed j hj (hset j hlj hji) k hk
   ·have e9:(fun j=>(listed.setIfInBounds i true).getD j true)=fun j=>if j=i then true else listed.getD j true:=funext fun j=>by
     by_cases hji:j=i
     ·subst hji;simp[his]
     ·rw[getD_set_ne true (fun e=>hji e.symm),if_neg hji]
    rw[e9];exact jstep i _ _ v w w' him hui inv.jx hR hRv
end main4
theorem Zjx {id:Nat}{Q:Exit→Act→World→Prop}{a0:Act}{w:World}{l:List Oper}(m N:Nat)(deps:Nat→List Nat)(Φ:Nat→List Value→World→Prop)(Jf:(Nat→Bool)→(Nat→Value)→World→Prop)(Rv:Nat→Value→World→World→Prop)(R:World→World→Prop)
 (hm:P.follows .mixedOrders=true) (hB:Zfn .any l.toArray m N deps=true) (hT:Region.seqB .any l.toArray (l.toArray.size-m) m (Zbs m l.toArray.size)=true) (hN:a0.tmps.size=N)
 (hRr:∀w,R w w) (hRt:∀w w1 w2,R w w1→R w1 w2→R w w2) (stab:∀i vs w w',Φ i vs w→R w w'→Φ i vs w') (jstep:∀i (L:Nat→Bool) (vals:Nat→Value) v w w',i<m→L i=false→Jf L vals w→R w w'→Rv i v w w'→Jf (fun j=>if j=i then true else L j) (fun j=>if j=i then v else vals j) w') (hJ:∀L vals,(∀j,j<m→L j=false)→Jf L vals w.drew)
 (step:∀i o,i<m→l.toArray[i]?=some o→∀(vals:Nat→Value) W,R w.drew W→(∀j∈deps i,Φ j ((j :: deps j).map vals) W) →
  ∀K:Act→World→Prop,(∀v w',R W w'→Rv i v W w'→Φ i (v :: (deps i).map vals) w'→K ((Zan l.toArray a0 vals (deps i)).put o.dst v) w')→if Region.wanted o (yielded l.toArray (Zan l.toArray a0 vals (deps i)).tmps)=true then Oper.wp P o (Zan l.toArray a0 vals (deps i)) W K (fun _ _ _=>False)else K ((Zan l.toArray a0 vals (deps i)).put o.dst undef) W)
 (fin:∀(vals:Nat→Value) W,R w.drew W→(∃L:Nat→Bool,(∀j,j<m→L j=true)∧Jf L vals W)→(∀j,j<m→Φ j ((j :: deps j).map vals) W)→wpList P l.toArray Q (l.drop m) (Zan l.toArray a0 vals (List.range m)) W) :
 (Code.region id l.toArray true).wp P Q a0 w:=by
 refine wp_region_any hm ?_
 have hms:m≤l.toArray.size:=by
  simp only[Zfn,Bool.and_eq_true,decide_eq_true_eq]at hB;exact hB.1.1.2
 have h0:∀j,j<l.toArray.size→(Array.replicate l.toArray.size false).getD j true=false:=fun j hj=>getD_in (by simpa using hj) (getD_replicate_false _ _)
 have hc:Zjm (Array.replicate l.toArray.size false) m=m:=by
  have:∀n,n≤l.toArray.size→Zjm (Array.replicate l.toArray.size false) n=n:=fun n=>by
   induction n with
   | zero=>intro _;rfl
   | succ n ih=>intro hn;unfold Zjm;rw[ih (by omega),h0 n (by omega)];rfl
  exact this m hms
 have h:=grow_go4 (P:=P) (md:=.any) (ops:=l.toArray) (Q:=Q) (a0:=a0) (w0:=w.drew) (m:=m) (N:=N) (deps:=deps) (Φ:=Φ) (Jf:=Jf) (Rv:=Rv) (R:=R) hB hT hN hRt stab jstep step (fun vals W h1 h2 h3=>by have:=fin vals W h1 h2 h3;simpa using this) m (Array.replicate l.toArray.size false) a0 w.drew (fun _=>undef) hc
  ⟨rfl,rfl,by simp,(fun j hj hl=>by rw[h0 j (by omega)]at hl;exact absurd hl (by decide)),(fun t _=>rfl),(fun j hj hl=>by rw[h0 j (by omega)]at hl;exact absurd hl (by decide)),hRr _,(fun t ht ht2=>h0 t ht2),(fun j hj hl=>by rw[h0 j (by omega)]at hl;exact absurd hl (by decide)),hJ _ _ (fun j hj=>h0 j (by omega))⟩
 have e:l.toArray.size-m+m=l.toArray.size:=by omega
 rw[e]at h;exact h
theorem Zfl {id:Nat}{Q:Exit→Act→World→Prop}{a0:Act}{w:World}{l:List Oper}(m N:Nat)(deps:Nat→List Nat)(Φ:Nat→List Value→World→Prop)(Jf:(Nat→Bool)→(Nat→Value)→World→Prop)(Rv:Nat→Value→World→World→Prop)(R:World→World→Prop)
 (hm:P.follows .mixedOrders=true) (hB:Zfn .any l.toArray m N deps=true) (hT:Region.seqB .any l.toArray (l.toArray.size-m) m (Zbs m l.toArray.size)=true) (hN:a0.tmps.size=N)
 (hRr:∀w,R w w) (hRt:∀w w1 w2,R w w1→R w1 w2→R w w2) (stab:∀i vs w w',Φ i vs w→R w w'→Φ i vs w') (jstep:∀i (L:Nat→Bool) (vals:Nat→Value) v w w',i<m→L i=false→Jf L vals w→R w w'→Rv i v w w'→Jf (fun j=>if j=i then true else L j) (fun j=>if j=i then v else vals j) w') (hJ:∀L vals,(∀j,j<m→L j=false)→Jf L vals w.drew)
 (steps:AllSteps (fun i o=>∀(vals:Nat→Value) W,R w.drew W→(∀j∈deps i,Φ j ((j :: deps j).map vals) W)→Does P o (Zan l.toArray a0 vals (deps i)) W (fun v w'=>R W w'∧Rv i v W w'∧Φ i (v :: (deps i).map vals) w')) 0 (l.take m))
 (fin:∀(vals:Nat→Value) W,R w.drew W→(∃L:Nat→Bool,(∀j,j<m→L j=true)∧Jf L vals W)→(∀j,j<m→Φ j ((j :: deps j).map vals) W)→wpList P l.toArray Q (l.drop m) (Zan l.toArray a0 vals (List.range m)) W) :
 (Code.region id l.toArray true).wp P Q a0 w:=by
 refine Zjx m N deps Φ Jf Rv R hm hB hT hN hRr hRt stab jstep hJ (fun i o hi ho vals W hR hd K hK=>?_) fin;have h:=AllSteps.at_ steps i o (by rw[List.getElem?_take,if_pos hi];simpa using ho) vals W hR (by simpa using hd) K
 split
 ·simp only[Nat.zero_add]at h;exact h (fun v w' ⟨h1,h3,h2⟩=>hK v w' h1 h3 h2)
 ·rename_i hw
  exfalso
  simp only[Zfn,Bool.and_eq_true,decide_eq_true_eq,List.all_eq_true,List.mem_range]at hB;have h1:=(hB.1.2 i hi).1.1.1.1;rw[ho]at h1;simp only[Bool.and_eq_true,Option.isNone_iff_eq_none]at h1;exact hw (by unfold Region.wanted;rw[h1.1])
end
end Go
namespace Go.Proofs.YtaokkliamoghbaaGreatDoor.PVpa
open Go.RowKit Go.Proofs.YtaokkliamoghbaaGreatDoorW.PrintWords Go.Proofs.YtaokkliamoghbaaGreatDoorW.PrintLast Go.Proofs.YtaokkliamoghbaaGreatDoorW.PrintMore
def Zbt:Nat→List Nat
 | 1=>[0]
 | 4=>[2,3]
 | 5=>[4]
 | 6=>[5]
 | 8=>[7]
 | 10=>[9]
 | 11=>[1,6,8,10]
 | 12=>[11]
 | _=>[]
def phiM2 (gc gd lo:Nat):Nat→List Value→World→Prop
 | 0,[v],W=>∃g,v=.agg #[.int .i64 2,.slice (some ⟨g,0,none⟩) 1 1,.slice none 0 0]∧lo≤g∧One W g 97
 | 1,[v,_],W=>∃g,v=.agg #[.string ⟨#[97]⟩,.int .i64 0,.int .i64 1,.int .i64 2,.slice (some ⟨g,0,none⟩) 1 1,.slice none 0 0]∧lo≤g∧One W g 97
 | 2,[v],_=>v=.agg #[.int .i32 10,.int .i32 10]
 | 3,[v],_=>v=.agg #[.int .i32 98,.int .i32 98]
 | 4,[v,_,_],W=>∃g,v=.slice (some ⟨g,0,none⟩) 2 2∧lo≤g∧W.heap[g]?=some (.cells #[.int .i32 10,.int .i32 10,.int .i32 98,.int .i32 98] 66 (0,0))
 | 5,[v,_],W=>∃g,v=.agg #[.int .i64 2,.slice (some ⟨g,0,none⟩) 2 2,.slice none 0 0]∧lo≤g∧W.heap[g]?=some (.cells #[.int .i32 10,.int .i32 10,.int .i32 98,.int .i32 98] 66 (0,0))
 | 6,[v,_],W=>∃g,v=.agg #[.string ⟨#[98]⟩,.int .i64 0,.int .i64 2,.int .i64 2,.slice (some ⟨g,0,none⟩) 2 2,.slice none 0 0]∧lo≤g∧W.heap[g]?=some (.cells #[.int .i32 10,.int .i32 10,.int .i32 98,.int .i32 98] 66 (0,0))
 | 7,[v],_=>v=.agg #[.int .i64 2,.slice (some ⟨gc,0,none⟩) 1 1,.slice none 0 0]
 | 8,[v,_],_=>v=.agg #[.string ⟨#[111]⟩,.int .i64 1,.int .i64 3,.int .i64 2,.slice (some ⟨gc,0,none⟩) 1 1,.slice none 0 0]
 | 9,[v],_=>v=.agg #[.int .i64 2,.slice (some ⟨gd,0,none⟩) 1 1,.slice none 0 0]
 | 10,[v,_],_=>v=.agg #[.string ⟨#[99]⟩,.int .i64 2,.int .i64 4,.int .i64 2,.slice (some ⟨gd,0,none⟩) 1 1,.slice none 0 0]
 | 11,[v,_,_,_,_],W=>∃ga gb gT,v=.slice (some ⟨gT,0,none⟩) 4 4∧lo≤ga∧lo≤gb∧lo≤gT∧One W ga 97∧W.heap[gb]?=some (.cells #[.int .i32 10,.int .i32 10,.int .i32 98,.int .i32 98] 66 (0,0))∧W.heap[gT]?=some (.cells #[.string ⟨#[97]⟩,.int .i64 0,.int .i64 1,.int .i64 2,.slice (some ⟨ga,0,none⟩) 1 1,.slice none 0 0,.string ⟨#[98]⟩,.int .i64 0,.int .i64 2,.int .i64 2,.slice (some ⟨gb,0,none⟩) 2 2,.slice none 0 0,.string ⟨#[111]⟩,.int .i64 1,.int .i64 3,.int .i64 2,.slice (some ⟨gc,0,none⟩) 1 1,.slice none 0 0,.string ⟨#[99]⟩,.int .i64 2,.int .i64 4,.int .i64 2,.slice (some ⟨gd,0,none⟩) 1 1,.slice none 0 0] 64 (0,0))
 | 12,[v,_],W=>∃ga gb gT,v=.agg #[.slice (some ⟨gT,0,none⟩) 4 4,.slice none 0 0]∧lo≤ga∧lo≤gb∧lo≤gT∧One W ga 97∧W.heap[gb]?=some (.cells #[.int .i32 10,.int .i32 10,.int .i32 98,.int .i32 98] 66 (0,0))∧W.heap[gT]?=some (.cells #[.string ⟨#[97]⟩,.int .i64 0,.int .i64 1,.int .i64 2,.slice (some ⟨ga,0,none⟩) 1 1,.slice none 0 0,.string ⟨#[98]⟩,.int .i64 0,.int .i64 2,.int .i64 2,.slice (some ⟨gb,0,none⟩) 2 2,.slice none 0 0,.string ⟨#[111]⟩,.int .i64 1,.int .i64 3,.int .i64 2,.slice (some ⟨gc,0,none⟩) 1 1,.slice none 0 0,.string ⟨#[99]⟩,.int .i64 2,.int .i64 4,.int .i64 2,.slice (some ⟨gd,0,none⟩) 1 1,.slice none 0 0] 64 (0,0))
 | 13,[v],W=>∃g5,v=.pointer (some ⟨g5,0,none⟩)∧lo≤g5∧W.heap[g5]?=some (.cells #[.slice none 0 0,.slice none 0 0] 26 (0,0))
 | _,_,_=>True
theorem Zmb (gc gd lo:Nat):∀i vs w w',phiM2 gc gd lo i vs w→Zca w w'→phiM2 gc gd lo i vs w':=by
 intro i vs w w' h hb;unfold phiM2 at h ⊢
 split at h
 case h_1=>
  obtain⟨g,h1,h2,h3⟩:=h;exact⟨g,h1,h2,h3.below hb⟩
 case h_2=>
  obtain⟨g,h1,h2,h3⟩:=h;exact⟨g,h1,h2,h3.below hb⟩
 case h_5=>
  obtain⟨g,h1,h2,h3⟩:=h;exact⟨g,h1,h2,Zaf h3 hb⟩
 case h_6=>
  obtain⟨g,h1,h2,h3⟩:=h;exact⟨g,h1,h2,Zaf h3 hb⟩
 case h_7=>
  obtain⟨g,h1,h2,h3⟩:=h;exact⟨g,h1,h2,Zaf h3 hb⟩
 case h_12=>
  obtain⟨ga,gb,gT,h1,h2,h3,h4,h5,h6,h7⟩:=h;exact⟨ga,gb,gT,h1,h2,h3,h4,h5.below hb,Zaf h6 hb,Zaf h7 hb⟩
 case h_13=>
  obtain⟨ga,gb,gT,h1,h2,h3,h4,h5,h6,h7⟩:=h;exact⟨ga,gb,gT,h1,h2,h3,h4,h5.below hb,Zaf h6 hb,Zaf h7 hb⟩
 case h_14=>
  obtain⟨g,h1,h2,h3⟩:=h;exact⟨g,h1,h2,Zaf h3 hb⟩
 all_goals exact h
def Zaw:Nat→List Nat
 | 2=>[0,1]
 | 3=>[2]
 | 6=>[4,5]
 | 7=>[6]
 | 8=>[7]
 | 9=>[8]
 | 11=>[9,10]
 | 13=>[11,12]
 | 14=>[13]
 | 17=>[15,16]
 | 18=>[17]
 | 19=>[18]
 | 20=>[19]
 | 22=>[21]
 | 23=>[20,22]
 | 25=>[23,24]
 | 26=>[25]
 | 27=>[3,14,26]
 | 31=>[27,28,29,30]
 | 32=>[31]
 | _=>[]
def phiM17e (ad xa:Addr)(ll cl ix m ci j n p1 q1 o1 p2 q2 o2 g6 g7 NN lo:Nat):Nat→List Value→Prop
 | 0,[v]=>v=.slice (some ad) ll cl
 | 1,[v]=>v=.int .i64 ((ix:Nat):Int)
 | 2,[v,_,_]=>v=.pointer (some (ad.add ix))
 | 3,[v,_]=>v=.slice (some xa) (m+1) ci
 | 4,[v]=>v=.slice (some ad) ll cl
 | 5,[v]=>v=.int .i64 ((ix:Nat):Int)
 | 6,[v,_,_]=>v=.pointer (some (ad.add ix))
 | 7,[v,_]=>v=.slice (some xa) (m+1) ci
 | 8,[v,_]=>v=.int .i64 ((m+1:Nat):Int)
 | 9,[v,_]=>v=.int .i64 ((m:Nat):Int)
 | 10,[v]=>v=.int .i64 ((j:Nat):Int)
 | 11,[v,_,_]=>v=.int .i64 ((p1:Nat):Int)
 | 12,[v]=>v=.int .i64 ((n:Nat):Int)
 | 13,[v,_,_]=>v=.int .i64 ((q1:Nat):Int)
 | 14,[v,_]=>v=.int .i64 ((o1:Nat):Int)
 | 15,[v]=>v=.slice (some ad) ll cl
 | 16,[v]=>v=.int .i64 ((ix:Nat):Int)
 | 17,[v,_,_]=>v=.pointer (some (ad.add ix))
 | 18,[v,_]=>v=.slice (some xa) (m+1) ci
 | 19,[v,_]=>v=.int .i64 ((m+1:Nat):Int)
 | 20,[v,_]=>v=.int .i64 ((m:Nat):Int)
 | 21,[v]=>v=.int .i64 ((j:Nat):Int)
 | 22,[v,_]=>v=.int .i64 ((j+1:Nat):Int)
 | 23,[v,_,_]=>v=.int .i64 ((p2:Nat):Int)
 | 24,[v]=>v=.int .i64 ((n:Nat):Int)
 | 25,[v,_,_]=>v=.int .i64 ((q2:Nat):Int)
 | 26,[v,_]=>v=.int .i64 ((o2:Nat):Int)
 | 27,[v,_,_,_]=>v=.slice (some (xa.add o1)) (o2-o1) (ci-o1)
 | 29,[v]=>v=.slice (some ⟨g6,0,none⟩) 1 1
 | 30,[v]=>v=.slice (some ⟨g7,0,none⟩) 1 1
 | _,_=>True
def phiM17w (ad xa:Addr)(ll cl ix m ci j n p1 q1 o1 p2 q2 o2 g6 g7 NN lo:Nat):Nat→List Value→World→Prop
 | 28,[v],W=>∃ga,v=.slice (some ⟨ga,0,none⟩) 2 2∧lo≤ga∧LitS W ga nAB
 | 31,[v,_,_,_,_],_=>∃(a:Int) (B1:Option Addr) (k1 d1:Nat) (B2:Option Addr) (k2 d2:Nat) (B3:Option Addr) (k3 d3:Nat),v=.agg #[.int .i64 a,.slice B1 k1 d1,.slice B2 k2 d2,.slice B3 k3 d3]
 | 32,[v,x31],_=>∃(a:Int) (B1:Option Addr) (k1 d1:Nat) (B2:Option Addr) (k2 d2:Nat) (B3:Option Addr) (k3 d3:Nat),x31=.agg #[.int .i64 a,.slice B1 k1 d1,.slice B2 k2 d2,.slice B3 k3 d3]∧v=.agg #[.slice none 0 0,.int .i64 a,.slice B1 k1 d1,.slice B2 k2 d2,.slice B3 k3 d3]
 | 33,[v],_=>∃g,v=.pointer (some ⟨g,0,none⟩)
 | _,_,_=>True
def phiM17 (ad xa:Addr)(ll cl ix m ci j n p1 q1 o1 p2 q2 o2 g6 g7 NN lo:Nat)(i0:Nat)(vs:List Value)(W:World):Prop:=phiM17e ad xa ll cl ix m ci j n p1 q1 o1 p2 q2 o2 g6 g7 NN lo i0 vs∧phiM17w ad xa ll cl ix m ci j n p1 q1 o1 p2 q2 o2 g6 g7 NN lo i0 vs W
theorem Zqv (ad xa:Addr)(ll cl ix m ci j n p1 q1 o1 p2 q2 o2 g6 g7 NN lo:Nat):∀i0 vs w w',phiM17 ad xa ll cl ix m ci j n p1 q1 o1 p2 q2 o2 g6 g7 NN lo i0 vs w→Zca w w'→phiM17 ad xa ll cl ix m ci j n p1 q1 o1 p2 q2 o2 g6 g7 NN lo i0 vs w':=by
 intro i0 vs w w' h hb;refine⟨h.1,?_⟩;have h:=h.2;unfold phiM17w at h ⊢
 split at h
 case h_1=>
  obtain⟨g,h1,h2,h3⟩:=h;exact⟨g,h1,h2,h3.below hb⟩
 case h_2=>
  exact h
 case h_3=>
  exact h
 case h_4=>
  exact h
 all_goals exact h
def Zav:Nat→List Nat
 | 2=>[0,1]
 | 3=>[2]
 | 6=>[4,5]
 | 7=>[6]
 | 8=>[7]
 | 9=>[8]
 | 11=>[9,10]
 | 13=>[11,12]
 | 14=>[13]
 | 17=>[15,16]
 | 18=>[17]
 | 19=>[18]
 | 20=>[19]
 | 22=>[21]
 | 23=>[20,22]
 | 25=>[23,24]
 | 26=>[25]
 | 27=>[3,14,26]
 | 31=>[27,28,29,30]
 | 32=>[31]
 | _=>[]
def phiM27e (ad xa:Addr)(ll cl ix m ci j n p1 q1 o1 p2 q2 o2 g6 g7 NN lo:Nat):Nat→List Value→Prop
 | 0,[v]=>v=.slice (some ad) ll cl
 | 1,[v]=>v=.int .i64 ((ix:Nat):Int)
 | 2,[v,_,_]=>v=.pointer (some (ad.add ix))
 | 3,[v,_]=>v=.slice (some xa) (m+1) ci
 | 4,[v]=>v=.slice (some ad) ll cl
 | 5,[v]=>v=.int .i64 ((ix:Nat):Int)
 | 6,[v,_,_]=>v=.pointer (some (ad.add ix))
 | 7,[v,_]=>v=.slice (some xa) (m+1) ci
 | 8,[v,_]=>v=.int .i64 ((m+1:Nat):Int)
 | 9,[v,_]=>v=.int .i64 ((m:Nat):Int)
 | 10,[v]=>v=.int .i64 ((j:Nat):Int)
 | 11,[v,_,_]=>v=.int .i64 ((p1:Nat):Int)
 | 12,[v]=>v=.int .i64 ((n:Nat):Int)
 | 13,[v,_,_]=>v=.int .i64 ((q1:Nat):Int)
 | 14,[v,_]=>v=.int .i64 ((o1:Nat):Int)
 | 15,[v]=>v=.slice (some ad) ll cl
 | 16,[v]=>v=.int .i64 ((ix:Nat):Int)
 | 17,[v,_,_]=>v=.pointer (some (ad.add ix))
 | 18,[v,_]=>v=.slice (some xa) (m+1) ci
 | 19,[v,_]=>v=.int .i64 ((m+1:Nat):Int)
 | 20,[v,_]=>v=.int .i64 ((m:Nat):Int)
 | 21,[v]=>v=.int .i64 ((j:Nat):Int)
 | 22,[v,_]=>v=.int .i64 ((j+1:Nat):Int)
 | 23,[v,_,_]=>v=.int .i64 ((p2:Nat):Int)
 | 24,[v]=>v=.int .i64 ((n:Nat):Int)
 | 25,[v,_,_]=>v=.int .i64 ((q2:Nat):Int)
 | 26,[v,_]=>v=.int .i64 ((o2:Nat):Int)
 | 27,[v,_,_,_]=>v=.slice (some (xa.add o1)) (o2-o1) (ci-o1)
 | 29,[v]=>v=.slice (some ⟨g6,0,none⟩) 2 2
 | 30,[v]=>v=.slice (some ⟨g7,0,none⟩) 2 2
 | _,_=>True
def phiM27w (ad xa:Addr)(ll cl ix m ci j n p1 q1 o1 p2 q2 o2 g6 g7 NN lo:Nat):Nat→List Value→World→Prop
 | 28,[v],W=>∃ga,v=.slice (some ⟨ga,0,none⟩) 2 2∧lo≤ga∧LitS W ga nAB
 | 31,[v,_,_,_,_],_=>∃(a:Int) (B1:Option Addr) (k1 d1:Nat) (B2:Option Addr) (k2 d2:Nat) (B3:Option Addr) (k3 d3:Nat),v=.agg #[.int .i64 a,.slice B1 k1 d1,.slice B2 k2 d2,.slice B3 k3 d3]
 | 32,[v,x31],_=>∃(a:Int) (B1:Option Addr) (k1 d1:Nat) (B2:Option Addr) (k2 d2:Nat) (B3:Option Addr) (k3 d3:Nat),x31=.agg #[.int .i64 a,.slice B1 k1 d1,.slice B2 k2 d2,.slice B3 k3 d3]∧v=.agg #[.slice none 0 0,.int .i64 a,.slice B1 k1 d1,.slice B2 k2 d2,.slice B3 k3 d3]
 | 33,[v],_=>∃g,v=.pointer (some ⟨g,0,none⟩)
 | _,_,_=>True
def phiM27 (ad xa:Addr)(ll cl ix m ci j n p1 q1 o1 p2 q2 o2 g6 g7 NN lo:Nat)(i0:Nat)(vs:List Value)(W:World):Prop:=phiM27e ad xa ll cl ix m ci j n p1 q1 o1 p2 q2 o2 g6 g7 NN lo i0 vs∧phiM27w ad xa ll cl ix m ci j n p1 q1 o1 p2 q2 o2 g6 g7 NN lo i0 vs W
theorem Zqu (ad xa:Addr)(ll cl ix m ci j n p1 q1 o1 p2 q2 o2 g6 g7 NN lo:Nat):∀i0 vs w w',phiM27 ad xa ll cl ix m ci j n p1 q1 o1 p2 q2 o2 g6 g7 NN lo i0 vs w→Zca w w'→phiM27 ad xa ll cl ix m ci j n p1 q1 o1 p2 q2 o2 g6 g7 NN lo i0 vs w':=by
 intro i0 vs w w' h hb;refine⟨h.1,?_⟩;have h:=h.2;unfold phiM27w at h ⊢
 split at h
 case h_1=>
  obtain⟨g,h1,h2,h3⟩:=h;exact⟨g,h1,h2,h3.below hb⟩
 case h_2=>
  exact h
 case h_3=>
  exact h
 case h_4=>
  exact h
 all_goals exact h
def Zdu:Nat→List Nat
 | 1=>[0]
 | 4=>[2,3]
 | 5=>[4]
 | 6=>[5]
 | 9=>[7,8]
 | 10=>[9]
 | 11=>[10]
 | 12=>[6,11]
 | _=>[]
def phiM5 (g5 gT gc gd lo:Nat):Nat→List Value→World→Prop
 | 0,[v],_=>v=.pointer (some ⟨g5,0,none⟩)
 | 1,[v,_],_=>v=.slice (some ⟨gT,0,none⟩) 4 4
 | 2,[v],_=>v=.agg #[.int .i64 2,.slice (some ⟨gc,0,none⟩) 1 1,.slice none 0 0]
 | 3,[v],_=>v=.agg #[.int .i64 2,.slice (some ⟨gc,0,none⟩) 1 1,.slice none 0 0]
 | 4,[v,_,_],W=>∃gp,v=.slice (some ⟨gp,0,none⟩) 2 2∧lo≤gp∧W.heap[gp]?=some (.cells #[.int .i64 2,.slice (some ⟨gc,0,none⟩) 1 1,.slice none 0 0,.int .i64 2,.slice (some ⟨gc,0,none⟩) 1 1,.slice none 0 0] 61 (0,0))
 | 5,[v,_],W=>∃gp,v=.agg #[.int .i64 3,.slice none 0 0,.slice (some ⟨gp,0,none⟩) 2 2]∧lo≤gp∧W.heap[gp]?=some (.cells #[.int .i64 2,.slice (some ⟨gc,0,none⟩) 1 1,.slice none 0 0,.int .i64 2,.slice (some ⟨gc,0,none⟩) 1 1,.slice none 0 0] 61 (0,0))
 | 6,[v,_],W=>∃gp,v=.agg #[.string ⟨#[112]⟩,.int .i64 1,.int .i64 5,.int .i64 3,.slice none 0 0,.slice (some ⟨gp,0,none⟩) 2 2]∧lo≤gp∧W.heap[gp]?=some (.cells #[.int .i64 2,.slice (some ⟨gc,0,none⟩) 1 1,.slice none 0 0,.int .i64 2,.slice (some ⟨gc,0,none⟩) 1 1,.slice none 0 0] 61 (0,0))
 | 7,[v],_=>v=.agg #[.int .i64 2,.slice (some ⟨gd,0,none⟩) 1 1,.slice none 0 0]
 | 8,[v],W=>∃g,v=.agg #[.int .i64 2,.slice (some ⟨g,0,none⟩) 1 1,.slice none 0 0]∧lo≤g∧One W g 97
 | 9,[v,_,_],W=>∃ga gq,v=.slice (some ⟨gq,0,none⟩) 2 2∧lo≤ga∧One W ga 97∧lo≤gq∧W.heap[gq]?=some (.cells #[.int .i64 2,.slice (some ⟨gd,0,none⟩) 1 1,.slice none 0 0,.int .i64 2,.slice (some ⟨ga,0,none⟩) 1 1,.slice none 0 0] 61 (0,0))
 | 10,[v,_],W=>∃ga gq,v=.agg #[.int .i64 3,.slice none 0 0,.slice (some ⟨gq,0,none⟩) 2 2]∧lo≤ga∧One W ga 97∧lo≤gq∧W.heap[gq]?=some (.cells #[.int .i64 2,.slice (some ⟨gd,0,none⟩) 1 1,.slice none 0 0,.int .i64 2,.slice (some ⟨ga,0,none⟩) 1 1,.slice none 0 0] 61 (0,0))
 | 11,[v,_],W=>∃ga gq,v=.agg #[.string ⟨#[113]⟩,.int .i64 2,.int .i64 6,.int .i64 3,.slice none 0 0,.slice (some ⟨gq,0,none⟩) 2 2]∧lo≤ga∧One W ga 97∧lo≤gq∧W.heap[gq]?=some (.cells #[.int .i64 2,.slice (some ⟨gd,0,none⟩) 1 1,.slice none 0 0,.int .i64 2,.slice (some ⟨ga,0,none⟩) 1 1,.slice none 0 0] 61 (0,0))
 | 12,[v,_,_],W=>∃gp ga gq gx,v=.slice (some ⟨gx,0,none⟩) 2 2∧lo≤gp∧W.heap[gp]?=some (.cells #[.int .i64 2,.slice (some ⟨gc,0,none⟩) 1 1,.slice none 0 0,.int .i64 2,.slice (some ⟨gc,0,none⟩) 1 1,.slice none 0 0] 61 (0,0))∧lo≤ga∧One W ga 97∧lo≤gq∧W.heap[gq]?=some (.cells #[.int .i64 2,.slice (some ⟨gd,0,none⟩) 1 1,.slice none 0 0,.int .i64 2,.slice (some ⟨ga,0,none⟩) 1 1,.slice none 0 0] 61 (0,0))∧lo≤gx∧W.heap[gx]?=some (.cells #[.string ⟨#[112]⟩,.int .i64 1,.int .i64 5,.int .i64 3,.slice none 0 0,.slice (some ⟨gp,0,none⟩) 2 2,.string ⟨#[113]⟩,.int .i64 2,.int .i64 6,.int .i64 3,.slice none 0 0,.slice (some ⟨gq,0,none⟩) 2 2] 64 (0,0))
 | _,_,_=>True
theorem phiM5_stab (g5 gT gc gd lo:Nat):∀i vs w w',phiM5 g5 gT gc gd lo i vs w→Zca w w'→phiM5 g5 gT gc gd lo i vs w':=by
 intro i vs w w' h hb;unfold phiM5 at h ⊢
 split at h
 case h_5=>
  obtain⟨g,h1,h2,h3⟩:=h;exact⟨g,h1,h2,Zaf h3 hb⟩
 case h_6=>
  obtain⟨g,h1,h2,h3⟩:=h;exact⟨g,h1,h2,Zaf h3 hb⟩
 case h_7=>
  obtain⟨g,h1,h2,h3⟩:=h;exact⟨g,h1,h2,Zaf h3 hb⟩
 case h_9=>
  obtain⟨g,h1,h2,h3⟩:=h;exact⟨g,h1,h2,h3.below hb⟩
 case h_10=>
  obtain⟨ga,g,h1,h2,h3,h4,h5⟩:=h;exact⟨ga,g,h1,h2,h3.below hb,h4,Zaf h5 hb⟩
 case h_11=>
  obtain⟨ga,g,h1,h2,h3,h4,h5⟩:=h;exact⟨ga,g,h1,h2,h3.below hb,h4,Zaf h5 hb⟩
 case h_12=>
  obtain⟨ga,g,h1,h2,h3,h4,h5⟩:=h;exact⟨ga,g,h1,h2,h3.below hb,h4,Zaf h5 hb⟩
 case h_13=>
  obtain⟨gp,ga,gq,gx,h1,h2,h3,h4,h5,h6,h7,h8,h9⟩:=h;exact⟨gp,ga,gq,gx,h1,h2,Zaf h3 hb,h4,h5.below hb,h6,Zaf h7 hb,h8,Zaf h9 hb⟩
 all_goals exact h
end Go.Proofs.YtaokkliamoghbaaGreatDoor.PVpa
