/- Joined from texts of this seat, in their order. -/
import Derived.Test.YtaokkliamoghbaaGreatDoorJAc
import Derived.Test.YtaokkliamoghbaaGreatDoorJAe
import Derived.Shelf.Abstract
set_option linter.unusedVariables false
set_option linter.unusedSimpArgs false
set_option linter.unusedSectionVars false
set_option maxRecDepth 100000
namespace Go.Proofs.YtaokkliamoghbaaGreatDoor.PVpa
open Go.RowKit Go.Proofs.YtaokkliamoghbaaGreatDoorW.PrintWords Go.Proofs.YtaokkliamoghbaaGreatDoorW.PrintLast Go.Proofs.YtaokkliamoghbaaGreatDoorW.PrintMore
theorem info90:(Tryz.prog.info? 122).map (fun i=>(i.zero,i.size,i.bytes))=some (some (.agg #[.int .i64 0,.pointer none,.int .i64 0,.slice none 0 0,.slice none 0 0,.slice none 0 0,.pointer none,.slice none 0 0,.int .i64 0]),9,136):=by kernel_rfl
section
variable {ops:Array Oper}{o:Oper}{a:Act}{Q:Exit→Act→World→Prop}
theorem addV_step {w0:W0}{W:World}{K:Act→World→Prop}{gb:Nat}{h0 h1 vs vf:Value}{φ:Nat→Nat}{v:Value}{pl:List Pl}{sh:List (Nat × Sh)}(hw:Region.wanted o (yielded ops a.tmps)=true)(s x:Operand)(ho:o.op=.call { callee:=.builtin .append,args:=#[s,x],argTypes:=#[115,115] })
 (h:VS w0 W gb h0 h1 vs vf φ v pl sh) (p:Pl) (cs:List Value) (hp:PlS φ w0 W p cs) (g:Nat)
 (hs:a.eval s=v) (hx:a.eval x=.slice (some ⟨g,0,none⟩) 1 1) (hg:g=W.heap.size) (hl:pl.length≤1000000)
 (hK:∀v1 w1,OwnRow (PlS φ w0 W) 122 9 w1 w0.heap.size v1 (pl++[p])→Below w0.heap.size w0 w1→W.grownBy w1 v.ownBlock→(v1.ownBlock=v.ownBlock∨∃b,v1.ownBlock=some b∧W.heap.size≤b)→K (a.put o.dst v1) w1) :
 if Region.wanted o (yielded ops a.tmps)=true then Oper.wp Tryz.prog o a (W.alloc (.cells cs.toArray 122)) K Q else K (a.put o.dst undef) (W.alloc (.cells cs.toArray 122)):=by
 subst hg;exact OwnRow.append_step (w0:=w0) w0.heap.size hw s x 115 122 _ 9 136 ho Tryz.underlying115 info90 rfl (by omega) (by omega) v pl p cs hs hx hp hp.len hp.one h.row h.bel h.bel.size (by omega) hK
end
def PlV (φ:Nat→Nat)(w0:W0)(W:World)(x:Pl)(v:Value):Prop:=∃cs,v=.agg cs.toArray∧PlS φ w0 W x cs
theorem VS.cell2 {w0:W0}{W:World}{gb:Nat}{h0 h1 vs vf:Value}{φ:Nat→Nat}{v:Value}{pl:List Pl}{sh:List (Nat × Sh)}(h:VS w0 W gb h0 h1 vs vf φ v pl sh):W.cell? ⟨gb,2,none⟩=some v:=(Zaa h.blk 2).trans rfl
theorem VS.grown2 {w0:W0}{W W1:World}{gb:Nat}{h0 h1 vs vf:Value}{φ:Nat→Nat}{v:Value}{pl:List Pl}{sh:List (Nat × Sh)}(h:VS w0 W gb h0 h1 vs vf φ v pl sh)(hg:W.grownBy W1 v.ownBlock):W1.frozen? ⟨gb,2,none⟩=false∧W1.cell? ⟨gb,2,none⟩=some v:=by
 obtain⟨inner,ho,_⟩:=h.row;have k:=Zat h.blk hg (Zch ho h.blk (by decide));exact⟨Zam k 2,(Zaa k 2).trans rfl⟩
set_option maxHeartbeats 4000000 in
theorem Zgq (w0:W0)(W:World)(gb:Nat)(h0 h1 vs vf:Value)(φ:Nat→Nat)(v:Value)(pl:List Pl)(sh:List (Nat × Sh))(h:VS w0 W gb h0 h1 vs vf φ v pl sh)(x:Pl)(vx:Value)(hx:PlV φ w0 W x vx)(hl:pl.length≤100000) :
 Calls Tryz.prog 59 #[.pointer (some ⟨gb,0,none⟩),vx] W fun e w'=>e=.returned (.int .i64 (pl.length:Int))∧∃v',VS w0 w' gb h0 h1 vs vf φ v' (pl++[x]) sh∧KeptV W w' gb v∧NewOr W v v':=by
 obtain⟨cs,rfl,hx0⟩:=hx;have HP:=Zrw.mk hx0;obtain⟨A1,c1,A2,c2,A3,c3,v4,rfl,l1,g1,l2,g2,l3,g3,g4⟩:=hx0;obtain⟨A4,c4,rfl,l4,_⟩:=g4.C;obtain⟨A,c,hv,lc⟩:=h.row.slice_;have HH:=Zrw.mk h;have q2:=h.cell2;rw[Zkj,Zkj]at HP ⊢;generalize (x.shape.map fun b=>(⟨φ b,0,none⟩:Addr))=o1 at HP ⊢;generalize (x.inner.map fun b=>(⟨φ b,0,none⟩:Addr))=o2 at HP ⊢;have HL:=Zrw.mk hl;clear h g1 g2 g3 g4 l1 l2 l3 hl
 go_enter Tryz.func59,Tryz.ntmps59
 go_wp2_with fail
 have HBX:=Zrw.mk (HH.out.below (Zab (Below.refl _ W) (.cells #[.int .i64 x.kind,.pointer o1,.int .i64 x.p.f0,.slice A1 x.p.f1.length c1,.slice A2 x.p.f2.length c2,.slice A3 x.p.f3.length c3,.pointer o2,.slice A4 x.follow.length c4,.int .i64 x.rule] 122)));have hg:(W.alloc (.cells #[.int .i64 x.kind,.pointer o1,.int .i64 x.p.f0,.slice A1 x.p.f1.length c1,.slice A2 x.p.f2.length c2,.slice A3 x.p.f3.length c3,.pointer o2,.slice A4 x.follow.length c4,.int .i64 x.rule] 122)).heap[W.heap.size]?=some _:=Zaj W _;have HP2:=Zrw.mk (HP.out.same (Same3.below (Zab (Below.refl _ W) (.cells #[.int .i64 x.kind,.pointer o1,.int .i64 x.p.f0,.slice A1 x.p.f1.length c1,.slice A2 x.p.f2.length c2,.slice A3 x.p.f3.length c3,.pointer o2,.slice A4 x.follow.length c4,.int .i64 x.rule] 122))));have HK:=Zrw.mk (KeptV.of_below (Zab (Below.refl _ W) (.cells #[.int .i64 x.kind,.pointer o1,.int .i64 x.p.f0,.slice A1 x.p.f1.length c1,.slice A2 x.p.f2.length c2,.slice A3 x.p.f3.length c3,.pointer o2,.slice A4 x.follow.length c4,.int .i64 x.rule] 122)) gb v);generalize W.alloc (.cells #[.int .i64 x.kind,.pointer o1,.int .i64 x.p.f0,.slice A1 x.p.f1.length c1,.slice A2 x.p.f2.length c2,.slice A3 x.p.f3.length c3,.pointer o2,.slice A4 x.follow.length c4,.int .i64 x.rule] 122)=X at *;have r0:=(Zaa hg 0).trans rfl;have r1:=(Zaa hg 1).trans rfl;have r2:=(Zaa hg 2).trans rfl;have r3:=(Zaa hg 3).trans rfl;have r4:=(Zaa hg 4).trans rfl;have r5:=(Zaa hg 5).trans rfl;have r6:=(Zaa hg 6).trans rfl;have r7:=(Zaa hg 7).trans rfl;have r8:=(Zaa hg 8).trans rfl;generalize W.heap.size=bg at *;have hq2:∀o,((X.drewN 1).alloc o).cell? ⟨gb,2,none⟩=some v:=fun o=>(Zaa (Zai HBX.out.blk o) 2).trans rfl
 have hq3:=HBX.out.cell2;have HBY:=Zrw.mk (HBX.out.below (Zag (Below.refl _ X) 1));subst hv;clear hg;refine Zcw ?_
 go_region_law (first | (refine addV_step rfl (.tmp 9) (.tmp 11) rfl HBY.out x _ (HP2.out.same (Same3.below (Zag (Below.refl _ X) 1))) _ rfl rfl ?hg (by have:=HL.out;omega) ?_;(case hg=>simp);intro v7 w7 ho7 hb7 hg7 hat7;obtain⟨A7,c7,hv7,_⟩:=ho7.slice_;rw[List.length_append,List.length_singleton]at hv7;subst hv7;have ⟨hf7,hc7⟩:=HBY.out.grown2 hg7;have HO7:=Zrw.mk ho7;have HB7:=Zrw.mk hb7;have HG7:=Zrw.mk hg7;have HA7:=Zrw.mk hat7;clear ho7 hb7 hg7 hat7) | fail)
 all_goals (
  go_wp2
  go_ret)
 all_goals (
  have hput:=HBY.out.put HO7.out HB7.out HG7.out;have hl9:=HL.out;exact⟨by simp;unfold wrap64;omega,_,hput.1,HK.out.trans (v1:=.slice A pl.length c) hput.2 (NewOr.refl _ _),NewOr.trans (NewOr.refl W _) HA7.out HK.out.1⟩)
theorem add_block (ad:Addr)(n:Nat):(ad.add n).block=ad.block:=by unfold Addr.add;split <;> rfl
theorem Zru (ad:Addr)(n:Nat):(ad.add n).off=ad.off+n:=by
 unfold Addr.add
 split
 ·omega
 ·rfl
theorem own_setIn {w:World}{base:Nat}{e:TypeId}{sz g n cap j:Nat}{xs:List Value}(h:w.ownsRow base e sz (.slice (some ⟨g,0,none⟩) n cap) n xs)(hj:j<n*sz)(u:Value) :
 (w.setCell ⟨g,j,none⟩ u).ownsRow base e sz (.slice (some ⟨g,0,none⟩) n cap) n (xs.set j u):=by
 rcases h.2 with⟨e0,_⟩ | ⟨g',cap',cur,e0,hb,hg,hn,hm,hs,ht⟩
 ·cases e0
 ·injection e0 with e1 _ e3
  injection e1 with e1
  injection e1 with e1
  subst e1;subst e3;refine⟨by rw[List.length_set];exact h.1,.inr ⟨g,cap,cur.set! j u,rfl,hb,?_,hn,hm,by simpa using hs,?_⟩⟩
  ·rw[Zcd hg j u];rfl
  ·rw[←ht];simp[List.take_set,Array.set!]
theorem Reps.set_ {α:Type}{R:α→List Value→Prop}{sz:Nat}{ps:List α}{cs:List Value}(h:Reps R sz ps cs){p f:Nat}(x:α){y:α}(hp:ps[p]?=some x)(hf:f<sz)(u:Value)
 (hR:∀c,c.length=sz→R x c→R y (c.set f u)):Reps R sz (ps.set p y) (cs.set (p*sz+f) u):=by
 have hpl:p<ps.length:=(List.getElem?_eq_some_iff.1 hp).1;refine⟨by rw[List.length_set,List.length_set];exact h.1,fun j q hq=>?_⟩;by_cases hjp:p=j
 ·subst hjp;rw[List.getElem?_set_self hpl]at hq;injection hq with hq
  subst hq;have h1:=h.2 p x hp;have hl:((cs.drop (p*sz)).take sz).length=sz:=by
   have h2:(p+1)*sz≤ps.length*sz:=Nat.mul_le_mul_right _ hpl;rw[Nat.add_mul]at h2;rw[List.length_take,List.length_drop,h.1];omega
  have h3:=hR _ hl h1;have e:((cs.set (p*sz+f) u).drop (p*sz)).take sz=((cs.drop (p*sz)).take sz).set f u:=by
   rw[List.drop_set,if_neg (by omega),List.take_set]
   congr 1
   omega
  rw[e];exact h3
 ·rw[List.getElem?_set_ne hjp]at hq;have h1:=h.2 j q hq;have e:((cs.set (p*sz+f) u).drop (j*sz)).take sz=(cs.drop (j*sz)).take sz:=by
   rcases Nat.lt_or_ge p j with hlt | hge
   ·have h2:(p+1)*sz≤j*sz:=Nat.mul_le_mul_right _ hlt;rw[Nat.add_mul]at h2;rw[List.drop_set,if_pos (by omega)]
   ·have hlt:j<p:=by omega
    have h2:(j+1)*sz≤p*sz:=Nat.mul_le_mul_right _ hlt;rw[Nat.add_mul]at h2;rw[List.drop_set,if_neg (by omega),List.take_set_of_le (by omega)]
  rw[e];exact h1
theorem VS.setField {w0:W0}{W:World}{gb:Nat}{h0 h1 vs vf:Value}{φ:Nat→Nat}{v:Value}{pl:List Pl}{sh:List (Nat × Sh)}(h:VS w0 W gb h0 h1 vs vf φ v pl sh){A:Option Addr}{c:Nat}(hv:v=.slice A pl.length c){ad:Addr}(hA:A=some ad)
 (p:Nat) (hp:p<pl.length) (f:Nat) (hf:f<9) (u:Value) (y:Pl) (hR:∀c,c.length=9→PlS φ w0 W (pl.getD p zPl) c→PlS φ w0 W y (c.set f u)) :
 VS w0 (W.setCell ⟨ad.block,ad.off+(p*9+f),none⟩ u) gb h0 h1 vs vf φ v (pl.set p y) sh∧KeptV W (W.setCell ⟨ad.block,ad.off+(p*9+f),none⟩ u) gb v:=by
 subst hv;subst hA;obtain⟨inner,ho,hr⟩:=h.row;have e0:ad=⟨ad.block,0,none⟩∧w0.heap.size≤ad.block:=by
  rcases ho.2 with⟨e0,_⟩ | ⟨g',cap',cur,e0,hb,_⟩
  ·cases e0
  ·injection e0 with e1 _ e3
   injection e1 with e1
   subst e1;exact⟨rfl,hb⟩
 obtain⟨e0,hle⟩:=e0;have hoff:ad.off=0:=by rw[e0]
 have hb0:(Value.slice (some ad) pl.length c).ownBlock=some ad.block:=rfl;rw[hoff,Nat.zero_add];have hk:KeptV W (W.setCell ⟨ad.block,p*9+f,none⟩ u) gb (.slice (some ad) pl.length c):=⟨by simp[World.setCell],fun i hi hn=>by
  rw[Below.heap_setCell W ⟨ad.block,p*9+f,none⟩ u i (fun he=>hn (.inr (by rw[hb0,he])))]⟩
 have hs:=h.same3 hk;refine⟨⟨h.ge,?_,?_,fun k s hk'=>(h.shapes k s hk').keep hs (fun cs hc=>(h.keep hk hc (by decide) (by decide)).trans hc.symm),Below.setCell h.bel (show w0.heap.size≤(⟨ad.block,p*9+f,none⟩:Addr).block from hle) _,fun k hk'=>h.new k (Nat.le_trans hk.1 hk')⟩,hk⟩
 ·rw[Below.heap_setCell W ⟨ad.block,p*9+f,none⟩ u gb (fun he=>Zch ho h.blk (by decide) (by rw[hb0,←he]))];exact h.blk
 ·have hrow:(W.setCell ⟨ad.block,p*9+f,none⟩ u).ownsRow w0.heap.size 122 9 (.slice (some ad) pl.length c) pl.length (inner.set (p*9+f) u):=by
   rw[e0]at ho ⊢;exact own_setIn ho (by have:=Nat.mul_le_mul_right 9 hp;omega) u
  refine⟨inner.set (p*9+f) u,by rw[List.length_set];exact hrow,?_⟩;have hp':pl[p]?=some (pl.getD p zPl):=by rw[List.getD_eq_getElem?_getD,List.getElem?_eq_getElem hp];rfl
  exact (Reps.set_ hr (pl.getD p zPl) hp' hf u hR).imp_ (fun _ _ hp=>hp.same hs)
theorem VS.setAt {w0:W0}{W:World}{gb:Nat}{h0 h1 vs vf:Value}{φ:Nat→Nat}{v:Value}{pl:List Pl}{sh:List (Nat × Sh)}(h:VS w0 W gb h0 h1 vs vf φ v pl sh){A:Option Addr}{c:Nat}(hv:v=.slice A pl.length c){ad:Addr}(hA:A=some ad)
 (p:Nat) (hp:p<pl.length) (f:Nat) (hf:f<9) (u:Value) (y:Pl) (hR:∀c,c.length=9→PlS φ w0 W (pl.getD p zPl) c→PlS φ w0 W y (c.set f u)) :
 VS w0 (W.setCell ⟨(ad.add (p*9)).block,(ad.add (p*9)).off+f,none⟩ u) gb h0 h1 vs vf φ v (pl.set p y) sh∧KeptV W (W.setCell ⟨(ad.add (p*9)).block,(ad.add (p*9)).off+f,none⟩ u) gb v:=by
 have:=h.setField hv hA p hp f hf u y hR;rw[←Nat.add_assoc]at this;rw[add_block,Zru];exact this
theorem VS.at_ {w0:W0}{W:World}{gb:Nat}{h0 h1 vs vf:Value}{φ:Nat→Nat}{v:Value}{pl:List Pl}{sh:List (Nat × Sh)}(h:VS w0 W gb h0 h1 vs vf φ v pl sh){A:Option Addr}{c:Nat}(hv:v=.slice A pl.length c)(p:Nat)(hp:p<pl.length) :
 ∃ad cs,A=some ad∧PlS φ w0 W (pl.getD p zPl) cs∧(∀j u,cs[j]?=some u→W.cell? ⟨(ad.add (p*9)).block,(ad.add (p*9)).off+j,none⟩=some u)∧∀j,W.frozen? ⟨(ad.add (p*9)).block,(ad.add (p*9)).off+j,none⟩=false:=by
 subst hv;obtain⟨A',c',e0,_,hrd⟩:=h.row.reads;injection e0 with e1 _ e3
 subst e1;subst e3;obtain⟨ad,rfl,hcell⟩:=hrd.2.2 (by omega);have hp':pl[p]?=some (pl.getD p zPl):=by rw[List.getD_eq_getElem?_getD,List.getElem?_eq_getElem hp];rfl
 obtain⟨cs,hcl,hR,hc⟩:=hcell p _ hp';obtain⟨inner,ho,_⟩:=h.row;obtain⟨cells,hb⟩:=Zaq ho ad.block rfl;have h0:=hc 0;refine⟨ad,cs,rfl,hR,fun j u hj=>?_,fun j=>by rw[add_block];exact Zam hb _⟩;have e:(⟨(ad.add (p*9)).block,(ad.add (p*9)).off+j,none⟩:Addr)=ad.add (p*9+j):=by
  have hs:ad=⟨ad.block,0,none⟩:=by
   rcases ho.2 with⟨e0,_⟩ | ⟨g',cap',cur,e0,_⟩
   ·cases e0
   ·injection e0 with e1 _ e3
    injection e1 with e1
    rw[e1]
  rw[add_block,Zru,hs];unfold Addr.add
  split
  ·rename_i hz
   rw[show p*9=0 by omega,show j=0 by omega]
  ·rw[Nat.add_assoc]
 rw[e];exact hc j u hj
theorem PlS.setFollow {φ:Nat→Nat}{w0:W0}{W:World}{x:Pl}{cs:List Value}(h:PlS φ w0 W x cs){u:Value}{l:List Int}(hu:Ri w0 W u l):PlS φ w0 W { x with follow:=l } (cs.set 7 u):=by
 obtain⟨A1,c1,A2,c2,A3,c3,v4,rfl,l1,g1,l2,g2,l3,g3,g4⟩:=h;exact⟨A1,c1,A2,c2,A3,c3,u,rfl,l1,g1,l2,g2,l3,g3,hu⟩
theorem PlS.setInner {φ:Nat→Nat}{w0:W0}{W:World}{x:Pl}{cs:List Value}(h:PlS φ w0 W x cs)(o:Option Nat):PlS φ w0 W { x with inner:=o } (cs.set 6 (ptr φ o)):=by
 obtain⟨A1,c1,A2,c2,A3,c3,v4,rfl,l1,g1,l2,g2,l3,g3,g4⟩:=h;exact⟨A1,c1,A2,c2,A3,c3,v4,rfl,l1,g1,l2,g2,l3,g3,g4⟩
def Ris (n:Nat)(l:List Int):Prop:=l.Pairwise (·<·)∧∀q∈l,0≤q∧q<n
theorem ris_len:∀(l:List Int) (lo n:Int),l.Pairwise (·<·)→(∀q∈l,lo≤q∧q<n)→l.length≤(n-lo).toNat
 | [],_,_,_,_=>Nat.zero_le _
 | x :: r,lo,n,hp,hq=>by
  have h1:=hq x (List.mem_cons_self);have hp':=List.pairwise_cons.1 hp;have h2:=ris_len r (x+1) n hp'.2 (fun q hm=>⟨by have:=hp'.1 q hm;omega,(hq q (List.mem_cons_of_mem _ hm)).2⟩);rw[List.length_cons];omega
theorem Ris.len {n:Nat}{l:List Int}(h:Ris n l):l.length≤n:=by
 have:=ris_len l 0 n h.1 h.2;omega
theorem Ris.mono {n m:Nat}{l:List Int}(h:Ris n l)(hm:n≤m):Ris m l:=⟨h.1,fun q hq=>by have:=h.2 q hq;omega⟩
theorem Ris.nil (n:Nat):Ris n []:=⟨.nil,fun _ h=>by cases h⟩
theorem Ris.one {n:Nat}{q:Int}(h0:0≤q)(h1:q<n):Ris n [q]:=⟨List.pairwise_singleton _ _,fun x hx=>by rw[List.mem_singleton]at hx;subst hx;exact⟨h0,h1⟩⟩
theorem mem_comp {l:List Int}{x:Int}(h:x∈Lib.compact l):x∈l:=by
 unfold Lib.compact Lib.compactUpTo at h;obtain⟨i,hi,rfl⟩:=List.mem_map.1 h;have hi':i<l.length:=List.mem_range.1 (List.mem_filter.1 hi).1;simp[getElem!_pos,hi']
theorem comp_lt {l:List Int}(h:l.Pairwise (·≤·)):(Lib.compact l).Pairwise (·<·):=by
 unfold Lib.compact Lib.compactUpTo;rw[List.pairwise_map];refine List.Pairwise.imp_of_mem ?_ ((List.pairwise_lt_range (n:=l.length)).filter _)
 intro i j hi hj hij;have hj1:j<l.length:=List.mem_range.1 (List.mem_filter.1 hj).1;have hj2:=(List.mem_filter.1 hj).2;have hle:=List.pairwise_iff_getElem.1 h;unfold Lib.keeps at hj2;have hk:=of_decide_eq_true hj2;have e1:l.toArray[j]! = l[j]:=by simp[getElem!_pos,hj1]
 have e2:l.toArray[j-1]! = l[j-1]'(by omega):=by simp[getElem!_pos,show j-1<l.length by omega]
 have e3:l.toArray[i]! = l[i]'(by omega):=by simp[getElem!_pos,show i<l.length by omega]
 rcases hk with hk | hk
 ·omega
 ·rw[e1,e2]at hk;rw[e1,e3];have a1:l[j-1]'(by omega)≤l[j]:=hle (j-1) j (by omega) hj1 (by omega);have a2:l[i]'(by omega)≤l[j-1]'(by omega):=by
   by_cases hh:i=j-1
   ·subst hh;exact Int.le_refl _
   ·exact hle i (j-1) (by omega) (by omega) (by omega)
  omega
theorem mem_bothL {a b:List Int}{x:Int}(h:x∈Zcj a b):x∈a∨x∈b:=by
 have h1:=mem_comp h;unfold Zhf at h1;rw[List.mem_mergeSort]at h1;exact List.mem_append.1 h1
theorem Zfa {n:Nat}{a b:List Int}(ha:∀q∈a,0≤q∧q<n)(hb:∀q∈b,0≤q∧q<n):Ris n (Zcj a b):=by
 refine⟨comp_lt ?_,fun q hq=>(mem_bothL hq).elim (ha q) (hb q)⟩;unfold Zhf;exact (List.pairwise_mergeSort (fun a b c h1 h2=>by simp at *;omega) (fun a b=>by simp;omega) _).imp (fun h=>by simpa using h)
def Zrj:Nat→List Nat
 | 1=>[0]
 | 2=>[1]
 | 4=>[3]
 | 5=>[4]
 | 6=>[2,5]
 | _=>[]
def phiF (gx lo:Nat)(x:Int):Nat→List Value→World→Prop
 | 0,[v],_=>v=.pointer (some ⟨gx,0,none⟩)
 | 1,[v,_],_=>v=.int .i32 x
 | 2,[v,_],_=>v=.int .i64 x
 | 3,[v],_=>v=.pointer (some ⟨gx,1,none⟩)
 | 4,[v,_],_=>v=.int .i32 x
 | 5,[v,_],_=>v=.int .i64 (x+1)
 | 6,[v,_,_],_=>v=.agg #[.int .i64 x,.int .i64 (x+1)]
 | 7,[v],W=>∃g,v=.pointer (some ⟨g,0,none⟩)∧lo≤g∧W.heap[g]?=some (.cells #[.int .i64 0,.int .i64 0] 228 (0,0))
 | _,_,_=>True
theorem phiF_stab (gx lo:Nat)(x:Int):∀i vs w w',phiF gx lo x i vs w→Zca w w'→phiF gx lo x i vs w':=by
 intro i vs w w' h hb;unfold phiF at h ⊢
 split at h
 case h_8=>
  obtain⟨g,h1,h2,h3⟩:=h;exact⟨g,h1,h2,Zaf h3 hb⟩
 all_goals exact h
set_option maxHeartbeats 4000000 in
theorem spans_call (A:Option Addr)(c:Nat)(l:List Int)(hl:Sgl l)(w:World)(hr:k72.C w A l.length (rgs l))(hc:l.length≤c) :
 Calls Tryz.prog 177 #[.slice A l.length c] w fun e w'=>∃v,e=.returned v∧Zex.R 228 w' w.heap.size (fun _=>True) v l∧Below w.heap.size w w':=by
 have HR:=Zrw.mk hr;have HL:=Zrw.mk hl;clear hr
 go_enter Tryz.func177,Tryz.ntmps177
 go_wp2
 go_loopw [3,13] (fun s i wr=>∃(k:Nat),k≤l.length∧i=.int .i64 k∧Zrw (Zex.R 228 wr w.heap.size (fun _=>True) s (l.take k))∧Zrw (Below w.heap.size w wr)) (fun _ i _=>l.length-(intOf i).toNat)
 case atStart=>exact⟨0,Nat.zero_le _,rfl,⟨Kd.R_nil _ _ _ _ _⟩,⟨Zbr⟩⟩
 case round=>
  obtain⟨k,hk,rfl,HS,HB⟩:=hrel;by_cases hkn:k<l.length
  ·obtain⟨ad,rfl,m0,m1⟩:=at_T72 HR.out (k:Int) (by omega) (by omega);have hx:=HL.out.at_ hkn;rw[rgs_at l k hkn]at m0 m1;rw[Int.toNat_natCast]at m0 m1;have m0:=Zad HB.out m0;have m1:=Zad HB.out m1;obtain⟨x,hxe⟩:∃x,x=rI l k:=⟨_,rfl⟩
   rw[←hxe]at m0 m1 hx;have HXE:=Zrw.mk hxe;have HX:=Zrw.mk hx;clear hxe hx;obtain⟨As,cs,hsl⟩:=Kd.R_slice HS.out;have HLT:Zrw ((l.take k).length≤2):=⟨by rw[List.length_take];exact Nat.le_trans (Nat.min_le_right _ _) HL.out.few⟩
   rw[List.length_take,Nat.min_eq_left hk]at hsl;subst hsl
   go_upto_region 5 with (fail)
   have HBX:=Zrw.mk (Zab (Below.refl _ wr) (.cells #[.int .i32 x,.int .i32 x] 66));have kX:=Zaj wr (.cells #[.int .i32 x,.int .i32 x] 66);have hwr:wr.heap.size<(wr.alloc (.cells #[.int .i32 x,.int .i32 x] 66)).heap.size:=Zau kX;generalize wr.alloc (.cells #[.int .i32 x,.int .i32 x] 66)=X at *;obtain⟨gx,hgx⟩:∃gx,gx=wr.heap.size:=⟨_,rfl⟩
   rw[←hgx]at kX hwr ⊢;have a0:X.cell? ⟨gx,0,none⟩=some (.int .i32 x):=(Zaa kX 0).trans rfl;have a1:X.cell? ⟨gx,1,none⟩=some (.int .i32 x):=(Zaa kX 1).trans rfl;clear m0 m1 hgx;have kX':=Zrw.mk kX;refine Zba 8 _ Zrj (phiF gx X.heap.size x) Zca (by kernel_rfl) (by kernel_rfl) (by kernel_rfl) rfl Zbh Zbc (phiF_stab _ _ _) ?step ?fin
   case step=>
    repeat (rename_i z;clear z)
    refine⟨?_,?_,?_,?_,?_,?_,?_,?_,trivial⟩ <;> intro vals W hR0 hd <;> have hR:=Zae (Zao (Below.refl _ X)) hR0
    ·refine Zac (W':=W) ?_ ⟨Zbr,rfl⟩
     clear hd;simp only[Zan,Zrj,Zah];go_simp
    ·have h0:vals 0=.pointer (some ⟨gx,0,none⟩):=hd 0 (by simp[Zrj]);have hc:W.cell? ⟨gx,0,none⟩=some (.int .i32 x):=(Zaa (Zaf kX hR) 0).trans rfl;refine Zac (W':=W) ?_ ⟨Zbr,rfl⟩
     clear hd;simp only[Zan,Zrj,Zah,h0];go_simp
    ·have h1:vals 1=.int .i32 x:=hd 1 (by simp[Zrj]);clear hd;refine Zbp (W':=W) (f:=184) (args:=#[.int .i32 x]) ?_ ((Zkn x HX.out.1 HX.out.2 W).mono ?_)
     ·simp only[Zan,Zrj,Zah,h1];go_simp
     ·rintro e w1 ⟨rfl,rfl⟩;exact⟨_,rfl,Zbr,rfl⟩
    ·refine Zac (W':=W) ?_ ⟨Zbr,rfl⟩
     clear hd;simp only[Zan,Zrj,Zah];go_simp
    ·have h3:vals 3=.pointer (some ⟨gx,1,none⟩):=hd 3 (by simp[Zrj]);have hc:W.cell? ⟨gx,1,none⟩=some (.int .i32 x):=(Zaa (Zaf kX hR) 1).trans rfl;refine Zac (W':=W) ?_ ⟨Zbr,rfl⟩
     clear hd;simp only[Zan,Zrj,Zah,h3];go_simp
    ·have h4:vals 4=.int .i32 x:=hd 4 (by simp[Zrj]);clear hd;refine Zbp (W':=W) (f:=185) (args:=#[.int .i32 x]) ?_ ((Zrt x HX.out.1 HX.out.2 W).mono ?_)
     ·simp only[Zan,Zrj,Zah,h4];go_simp
     ·rintro e w1 ⟨rfl,rfl⟩;exact⟨_,rfl,Zbr,rfl⟩
    ·have h2:vals 2=.int .i64 x:=hd 2 (by simp[Zrj]);have h5:vals 5=.int .i64 (x+1):=hd 5 (by simp[Zrj]);refine Zac (W':=W) ?_ ⟨Zbr,rfl⟩
     clear hd;simp only[Zan,Zrj,Zah,h2,h5];go_simp
    ·clear hd;refine Zac (W':=W.alloc (.cells #[.int .i64 0,.int .i64 0] 228)) (v:=.pointer (some ⟨W.heap.size,0,none⟩)) ?_ ⟨Zab Zbr _,W.heap.size,rfl,hR.size,Zaj W _⟩
     simp only[Zan,Zrj,Zah];go_simp
   case fin=>
    intro vals W hR0 hF;have hR:=Zae (Zao (Below.refl _ X)) hR0;have f0:vals 0=.pointer (some ⟨gx,0,none⟩):=hF 0 (by decide);have f1:vals 1=.int .i32 x:=hF 1 (by decide);have f2:vals 2=.int .i64 x:=hF 2 (by decide);have f3:vals 3=.pointer (some ⟨gx,1,none⟩):=hF 3 (by decide);have f4:vals 4=.int .i32 x:=hF 4 (by decide);have f5:vals 5=.int .i64 (x+1):=hF 5 (by decide);have f6:vals 6=.agg #[.int .i64 x,.int .i64 (x+1)]:=hF 6 (by decide);have f7:∃g,(vals 7)=.pointer (some ⟨g,0,none⟩)∧X.heap.size≤g∧W.heap[g]?=some (.cells #[.int .i64 0,.int .i64 0] 228 (0,0)):=hF 7 (by decide);clear hF hR0;rw[show List.range 8=[0,1,2,3,4,5,6,7]from rfl];simp only[Zan,Zah,f0,f1,f2,f3,f4,f5,f6];obtain⟨gy,f7,hgy,kY⟩:=f7;simp only[f7];have kX:=Zaf kX hR;have HBY:=Zrw.mk (Zae HBX.out hR);have hne:gx≠gy:=by omega
    clear f0 f1 f2 f3 f4 f5 f6 f7 a0 a1;have c0:W.cell? ⟨gy,0,none⟩=some (.int .i64 0):=(Zaa kY 0).trans rfl;have c1:W.cell? ⟨gy,1,none⟩=some (.int .i64 0):=(Zaa kY 1).trans rfl;have z0:∀i,W.frozen? ⟨gy,i,none⟩=false:=fun i=>Zam kY i
    go_upto_region 6 with (fail)
    have HBZ:=Zrw.mk (Zcp (j:=1) (v:=.int .i64 (x+1)) (Zcp (j:=0) (v:=.int .i64 x) HBY.out (show wr.heap.size≤gy from Nat.le_trans HBX.out.size hgy)) (show wr.heap.size≤gy from Nat.le_trans HBX.out.size hgy));have kX2:=Zdw (Zdw kX (p:=⟨gy,0,none⟩) hne (.int .i64 x)) (p:=⟨gy,1,none⟩) hne (.int .i64 (x+1));have kY2:=Zce (Zce kY 0 (.int .i64 x) rfl) 1 (.int .i64 (x+1)) rfl;generalize (W.setCell ⟨gy,0,none⟩ (.int .i64 x)).setCell ⟨gy,1,none⟩ (.int .i64 (x+1))=Y at *;have a0:Y.cell? ⟨gx,0,none⟩=some (.int .i32 x):=(Zaa kX2 0).trans rfl;have a1:Y.cell? ⟨gx,1,none⟩=some (.int .i32 x):=(Zaa kX2 1).trans rfl;have a2:Y.cell? ⟨gy,0,none⟩=some (.int .i64 x):=(Zaa kY2 0).trans rfl;have a3:Y.cell? ⟨gy,1,none⟩=some (.int .i64 (x+1)):=(Zaa kY2 1).trans rfl;have t1:decide (x<x+1)=true:=decide_eq_true (by omega);have HSY:=Zrw.mk (Kd.R_below HS.out HBZ.out);have HBW:=Zrw.mk (Zae HB.out HBZ.out);clear c0 c1 z0 kX kY kX2 kY2 hR hgy HBY
    go_wp2_with ((with_reducible refine Zal (b:=.append) (xs:=#[.tmp 36,.tmp 38]) rfl ?_);at_builtin;refine Kd.R_append Zex (w0:=w) (W:=Y) w.heap.size rfl (.tmp 36) (.tmp 38) 223 228 (.agg #[.int .i64 0,.int .i64 0]) 16 rfl Tryz.underlying223 Zrf rfl (by decide) (by omega) _ (l.take k) x [.int .i64 x,.int .i64 (x+1)] (fun _=>True) (fun _=>False) rfl rfl ?aP (fun _ hk=>hk.elim) (fun _ _=>trivial) HSY.out HBW.out ?aS ?aL ?_;(case aP=>exact Zhu _ _ _ _);(case aS=>exact HBW.out.size);(case aL=>have:=HLT.out;simp only[List.length_take]at this ⊢;omega);intro v6 w6 ho6 hb6 hg6 hat6;have HO6:=Zrw.mk ho6;have HB6:=Zrw.mk hb6;clear ho6 hb6 hg6 hat6)
    go_roundw
    case rel=>
     have hf2:=HL.out.few;have hw:wrap64 ((k:Int)+1)=k+1:=(by unfold wrap64;omega)
     refine⟨k+1,by omega,by rw[hw];simp,⟨?_⟩,HB6⟩;have e:l.take (k+1)=l.take k++[x]:=by rw[List.take_add_one,List.getElem?_eq_getElem hkn,HXE.out];simp[rI,hkn]
     rw[e];exact HO6.out
    case measure=>have:=HL.out.few;have hw:wrap64 ((k:Int)+1)=k+1:=(by unfold wrap64;omega);rw[hw];simp only[intOf];omega
  ·obtain rfl:k=l.length:=by omega
   rw[List.take_length]at HS;obtain⟨As,cs,hs,hcs,hrs⟩:=Kd.R_reads HS.out;subst hs;have HCC:=Zrw.mk (sortS_call w wr (.slice As l.length cs) l HB.out HS.out (by have:=HL.out.few;omega) HL.out.gap)
   go_upto_region 10 with (go_at_call 186;(with_reducible refine HCC.out.mono ?_);rintro e w7 ⟨rfl,hs7,hb7⟩;have HS7:=Zrw.mk hs7;have HB7:=Zrw.mk hb7;clear hs7 hb7)
   obtain⟨_,_,hs,hz8,hrs⟩:=Kd.R_reads HS7.out;injection hs with hs1 hsx hs2
   subst hs1;subst hs2;clear hsx hz8;have HRS:=Zrw.mk hrs;clear HR HS HB HCC hrs;go_wp2
   go_loopw [7,45] (fun s i wr=>∃(k:Nat),k≤l.length∧i=.int .i64 k∧Zrw (Zex.R 228 wr w7.heap.size (fun _=>True) s (l.take k))∧Zrw (Below w7.heap.size w7 wr)) (fun _ i _=>l.length-(intOf i).toNat)
   case atStart=>exact⟨0,Nat.zero_le _,rfl,⟨Kd.R_nil _ _ _ _ _⟩,⟨Zbr⟩⟩
   case round=>
    obtain⟨k,hk,rfl,HO,HB⟩:=hrel;by_cases hkn:k<l.length
    ·obtain⟨ad,cc,rfl,hz1,hK,hcell⟩:=Kd.C_get HRS.out 0 (k:Int) (by omega) (by omega);have hK2:=Zgk hK;subst hK2;rw[Int.toNat_natCast]at hcell;obtain⟨x,hx⟩:∃x,x=rI l k:=⟨_,rfl⟩
     have m0:wr.cell? (ad.add (k*2))=some (.int .i64 x):=Zad HB.out (by have:=hcell 0 _ rfl;rw[hx];exact this);have m1:wr.cell? ⟨(ad.add (k*2)).block,(ad.add (k*2)).off+1,none⟩=some (.int .i64 (x+1)):=Zad HB.out (by have:=hcell 1 _ rfl;rw[hx,←Zaz _ _ 1 (by omega)];exact this);clear hcell hK hz1;have HXE:=Zrw.mk hx;clear hx;obtain⟨Ao,co,hso⟩:=Kd.R_slice HO.out;have hso2:=hso;rw[List.length_take,Nat.min_eq_left hk]at hso;subst hso;clear hso2;have HX:=Zrw.mk (HL.out.at_ hkn);have HLT:Zrw ((l.take k).length≤2):=⟨by rw[List.length_take];exact Nat.le_trans (Nat.min_le_right _ _) HL.out.few⟩
     rw[←HXE.out]at HX
     go_upto_region 14 with (fail)
     have HBX:=Zrw.mk (Zab (Below.refl _ wr) (.cells #[.int .i64 x,.int .i64 (x+1)] 228));have kX:=Zaj wr (.cells #[.int .i64 x,.int .i64 (x+1)] 228);generalize wr.alloc (.cells #[.int .i64 x,.int .i64 (x+1)] 228)=X at *;generalize wr.heap.size=gx at kX ⊢;have a0:X.cell? ⟨gx,0,none⟩=some (.int .i64 x):=(Zaa kX 0).trans rfl;have a1:X.cell? ⟨gx,1,none⟩=some (.int .i64 (x+1)):=(Zaa kX 1).trans rfl;clear m0 m1 kX;have HSX:=Zrw.mk (Kd.R_below HO.out HBX.out);have HBW:=Zrw.mk (Zae HB.out HBX.out);clear HO HB HBX
     rcases Nat.eq_zero_or_pos k with h0 | hpos
     ·have t0:decide (0<(k:Int))=false:=decide_eq_false (by omega);have t1:decide (0<k)=false:=decide_eq_false (by omega);clear h0
      go_upto_region 15 with (fail)
      go_quiet (fail)
      have HZS:Zrw (Zex.R 228 (X.drewN nq) w7.heap.size (fun _=>True) _ (l.take k)):=⟨HSX.out⟩
      have HZB:=Zrw.mk (Zag HBW.out nq);have z0:(X.drewN nq).cell? ⟨gx,0,none⟩=some (.int .i64 x):=a0;have z1:(X.drewN nq).cell? ⟨gx,1,none⟩=some (.int .i64 (x+1)):=a1;clear a0 a1 HSX HBW;generalize X.drewN nq=Z at *
      go_wp2_with ((with_reducible refine Zal (b:=.append) (xs:=#[.tmp 78,.tmp 80]) rfl ?_);at_builtin;refine Kd.R_append Zex (w0:=w7) (W:=Z) w7.heap.size rfl (.tmp 78) (.tmp 80) 223 228 (.agg #[.int .i64 0,.int .i64 0]) 16 rfl Tryz.underlying223 Zrf rfl (by decide) (by omega) _ (l.take k) x [.int .i64 x,.int .i64 (x+1)] (fun _=>True) (fun _=>False) rfl rfl ?aP (fun _ hk=>hk.elim) (fun _ _=>trivial) HZS.out HZB.out ?aS ?aL ?_;(case aP=>exact Zhu _ _ _ _);(case aS=>exact HZB.out.size);(case aL=>have:=HLT.out;omega);intro v6 w6 ho6 hb6 hg6 hat6;have HO6:=Zrw.mk ho6;have HB6:=Zrw.mk hb6;clear ho6 hb6 hg6 hat6)
      go_roundw
      case rel=>
       have hf2:=HL.out.few;have hw:wrap64 ((k:Int)+1)=k+1:=(by unfold wrap64;omega)
       refine⟨k+1,by omega,by rw[hw];simp,⟨?_⟩,HB6⟩;have e:l.take (k+1)=l.take k++[x]:=by rw[List.take_add_one,List.getElem?_eq_getElem hkn,HXE.out];simp[rI,hkn]
       rw[e];exact HO6.out
      case measure=>have:=HL.out.few;have hw:wrap64 ((k:Int)+1)=k+1:=(by unfold wrap64;omega);rw[hw];simp only[intOf];omega
     ·have t0:decide (0<(k:Int))=true:=decide_eq_true (by omega);have t1:decide (0<k)=true:=decide_eq_true (by omega);obtain⟨_,_,hs,hz9,hrs⟩:=Kd.R_reads HSX.out;rw[List.length_take,Nat.min_eq_left hk]at hs hrs;injection hs with hs1 hsx hs2
      clear hsx;subst hs1;subst hs2;obtain⟨bd,cc,rfl,hzz,hK,hcell⟩:=Kd.C_get hrs 0 ((k-1:Nat):Int) (by omega) (by omega);have hK2:=Zgk hK;subst hK2;have d1:X.cell? ⟨(bd.add ((k-1)*2)).block,(bd.add ((k-1)*2)).off+1,none⟩=some (.int .i64 (rI l (k-1)+1)):=by
       have:=hcell 1 _ rfl;rw[Int.toNat_natCast]at this;rw[←Zaz _ _ 1 (by omega)];have e:(l.take k).getD (k-1) 0=rI l (k-1):=by
        unfold rI;rw[List.getD_eq_getElem?_getD,List.getD_eq_getElem?_getD,List.getElem?_take,if_pos (by omega)]
       rw[e]at this;exact this
      have hgap:rI l (k-1)+1<x:=by
       have:=List.pairwise_iff_getElem.1 HL.out.gap (k-1) k (by omega) hkn (by omega);rw[HXE.out];unfold rI;rw[List.getD_eq_getElem?_getD,List.getD_eq_getElem?_getD,List.getElem?_eq_getElem hkn,List.getElem?_eq_getElem (show k-1<l.length by omega)];exact this
      clear hrs hcell hK hzz hz9;generalize rI l (k-1)=y at *;have t2:decide (x≤y+1)=false:=decide_eq_false (by omega);clear hgap;obtain rfl:k=1:=by have:=HL.out.few;omega
      rw[show (1-1)*2=0 by omega]at d1;have HKN:=Zrw.mk hkn;clear hkn hk hpos hcs hc hl HS7 HRS t0 t1;have d1:X.cell? ⟨bd.block,bd.off+1,none⟩=some (.int .i64 (y+1)):=by rw[←add_block bd 0,←(show (bd.add 0).off=bd.off from by rw[Zru];rfl)];exact d1
      go_upto_region 15 with (fail)
      go_quiet (fail)
      have HZS:Zrw (Zex.R 228 (X.drewN nq) w7.heap.size (fun _=>True) _ (l.take 1)):=⟨HSX.out⟩
      have HZB:=Zrw.mk (Zag HBW.out nq);have z0:(X.drewN nq).cell? ⟨gx,0,none⟩=some (.int .i64 x):=a0;have z1:(X.drewN nq).cell? ⟨gx,1,none⟩=some (.int .i64 (x+1)):=a1;clear a0 a1 HSX HBW;generalize X.drewN nq=Z at *
      go_wp2_with ((with_reducible refine Zal (b:=.append) (xs:=#[.tmp 78,.tmp 80]) rfl ?_);at_builtin;refine Kd.R_append Zex (w0:=w7) (W:=Z) w7.heap.size rfl (.tmp 78) (.tmp 80) 223 228 (.agg #[.int .i64 0,.int .i64 0]) 16 rfl Tryz.underlying223 Zrf rfl (by decide) (by omega) _ (l.take 1) x [.int .i64 x,.int .i64 (x+1)] (fun _=>True) (fun _=>False) rfl rfl ?aP (fun _ hk=>hk.elim) (fun _ _=>trivial) HZS.out HZB.out ?aS ?aL ?_;(case aP=>exact Zhu _ _ _ _);(case aS=>exact HZB.out.size);(case aL=>have:=HLT.out;omega);intro v6 w6 ho6 hb6 hg6 hat6;have HO6:=Zrw.mk ho6;have HB6:=Zrw.mk hb6;clear ho6 hb6 hg6 hat6)
      go_roundw
      case rel=>
       have hf2:=HL.out.few;refine⟨1+1,by have:=HKN.out;omega,by go_num,⟨?_⟩,HB6⟩;have e:l.take (1+1)=l.take 1++[x]:=by rw[List.take_add_one,List.getElem?_eq_getElem HKN.out,HXE.out];simp[rI,HKN.out]
       rw[e];exact HO6.out
      case measure=>have:=HL.out.few;have:=HKN.out;simp[intOf];omega
    ·obtain rfl:k=l.length:=by omega
     rw[List.take_length]at HO;go_wp2
     go_ret
     exact⟨_,rfl,Kd.R_lower HO.out HB7.out.size,Zae HB7.out HB.out⟩
theorem info72x:(Tryz.prog.info? 66).map (fun i=>(i.zero,i.size,i.bytes))=some (some (.agg #[.int .i32 0,.int .i32 0]),2,8):=by kernel_rfl
def Znt:Nat→List Nat
 | 2=>[1]
 | 3=>[2]
 | 5=>[4]
 | 6=>[5]
 | 7=>[6]
 | 8=>[3,7]
 | 9=>[8]
 | _=>[]
def phiG (sv:Value)(gx lo:Nat)(x:Int):Nat→List Value→World→Prop
 | 0,[v],_=>v=sv
 | 1,[v],_=>v=.pointer (some ⟨gx,0,none⟩)
 | 2,[v,_],_=>v=.int .i64 x
 | 3,[v,_],_=>v=.int .i32 x
 | 4,[v],_=>v=.pointer (some ⟨gx,1,none⟩)
 | 5,[v,_],_=>v=.int .i64 (x+1)
 | 6,[v,_],_=>v=.int .i64 x
 | 7,[v,_],_=>v=.int .i32 x
 | 8,[v,_,_],_=>v=.agg #[.int .i32 x,.int .i32 x]
 | 9,[v,_],W=>∃g,v=.slice (some ⟨g,0,none⟩) 1 1∧lo≤g∧W.heap[g]?=some (.cells #[.int .i32 x,.int .i32 x] 66 (0,0))
 | _,_,_=>True
theorem phiG_stab (sv:Value)(gx lo:Nat)(x:Int):∀i vs w w',phiG sv gx lo x i vs w→Zca w w'→phiG sv gx lo x i vs w':=by
 intro i vs w w' h hb;unfold phiG at h ⊢
 split at h
 case h_10=>
  obtain⟨g,h1,h2,h3⟩:=h;exact⟨g,h1,h2,Zaf h3 hb⟩
 all_goals exact h
theorem lit2_reads {α:Type}{Rr:α→List Value→Prop}{W:World}{g:Nat}{u1 u2:Value}{e:Nat}(h:W.heap[g]?=some (.cells #[u1,u2] e (0,0))){x:α}(hx:Rr x [u1,u2]):ReadsRow Rr 2 W (some ⟨g,0,none⟩) 1 [x]:=by
 refine⟨rfl,by omega,fun _=>⟨_,rfl,fun j p hj=>?_⟩⟩;cases j with
 | zero=>
  simp at hj;subst hj;refine⟨[u1,u2],rfl,hx,fun i v hv=>?_⟩;have e1:(⟨g,0,none⟩:Addr).add (0*2+i)=⟨g,i,none⟩:=by
   rcases i with _ | _ | i
   ·rfl
   ·rfl
   ·simp at hv
  rw[e1,Zaa h i]
  rcases i with _ | _ | i
  ·simpa using hv
  ·simpa using hv
  ·simp at hv
 | succ j=>simp at hj
theorem rgs_take (l:List Int)(k:Nat)(x:Int)(hk:k<l.length)(hx:x=rI l k):rgs (l.take (k+1))=rgs (l.take k)++[⟨x,x⟩]:=by
 have e:l.take (k+1)=l.take k++[x]:=by rw[List.take_add_one,List.getElem?_eq_getElem hk,hx];simp[rI,hk]
 rw[e];simp[rgs]
theorem Zkg (l:List Int):(rgs l).length=l.length:=by simp[rgs]
set_option maxHeartbeats 4000000 in
theorem Zqp (A:Option Addr)(c:Nat)(l:List Int)(hl:Sgl l)(w:World)(hr:Zex.C w A l.length l) :
 Calls Tryz.prog 176 #[.slice A l.length c] w fun e w'=>∃v,e=.returned v∧k72.R 66 w' w.heap.size (fun _=>True) v (rgs l)∧Below w.heap.size w w':=by
 have HR:=Zrw.mk hr;have HL:=Zrw.mk hl;clear hr hl
 go_enter Tryz.func176,Tryz.ntmps176
 go_wp2
 go_loopw [3,8] (fun s i wr=>∃(k:Nat),k≤l.length∧i=.int .i64 k∧Zrw (k72.R 66 wr w.heap.size (fun _=>True) s (rgs (l.take k)))∧Zrw (Below w.heap.size w wr)) (fun _ i _=>l.length-(intOf i).toNat)
 case atStart=>exact⟨0,Nat.zero_le _,rfl,⟨Kd.R_nil _ _ _ _ _⟩,⟨Zbr⟩⟩
 case round=>
  obtain⟨k,hk,rfl,HS,HB⟩:=hrel;by_cases hkn:k<l.length
  ·obtain⟨ad,cc,rfl,hz1,hK,hcell⟩:=Kd.C_get HR.out 0 (k:Int) (by omega) (by omega);have hK2:=Zgk hK;subst hK2;rw[Int.toNat_natCast]at hcell;obtain⟨x,hx⟩:∃x,x=rI l k:=⟨_,rfl⟩
   have m0:wr.cell? (ad.add (k*2))=some (.int .i64 x):=Zad HB.out (by have:=hcell 0 _ rfl;rw[hx];exact this);have m1:wr.cell? ⟨(ad.add (k*2)).block,(ad.add (k*2)).off+1,none⟩=some (.int .i64 (x+1)):=Zad HB.out (by have:=hcell 1 _ rfl;rw[hx,←Zaz _ _ 1 (by omega)];exact this);clear hcell hK hz1;have HXE:=Zrw.mk hx;clear hx;have HX:=Zrw.mk (HL.out.at_ hkn);rw[←HXE.out]at HX;have HLT:Zrw ((rgs (l.take k)).length≤2):=⟨by rw[Zkg,List.length_take];exact Nat.le_trans (Nat.min_le_right _ _) HL.out.few⟩
   have HW:Zrw (wrap64 x=x):=⟨by have:=HX.out;unfold wrap64;omega⟩
   obtain⟨As,cs,hsl⟩:=Kd.R_slice HS.out;rw[Zkg,List.length_take,Nat.min_eq_left hk]at hsl;subst hsl
   go_upto_region 5 with (fail)
   have HBX:=Zrw.mk (Zab (Below.refl _ wr) (.cells #[.int .i64 x,.int .i64 (x+1)] 228));have kX:=Zaj wr (.cells #[.int .i64 x,.int .i64 (x+1)] 228);generalize wr.alloc (.cells #[.int .i64 x,.int .i64 (x+1)] 228)=X at *;obtain⟨gx,hgx⟩:∃gx,gx=wr.heap.size:=⟨_,rfl⟩
   rw[←hgx]at kX ⊢;clear m0 m1 hgx;refine Zba 10 _ Znt (phiG (.slice As k cs) gx X.heap.size x) Zca (by kernel_rfl) (by kernel_rfl) (by kernel_rfl) rfl Zbh Zbc (phiG_stab _ _ _ _) ?step ?fin
   case step=>
    repeat (rename_i z;clear z)
    refine⟨?_,?_,?_,?_,?_,?_,?_,?_,?_,?_,trivial⟩ <;> intro vals W hR0 hd <;> have hR:=Zae (Zao (Below.refl _ X)) hR0
    ·refine Zac (W':=W) ?_ ⟨Zbr,rfl⟩
     clear hd;simp only[Zan,Znt,Zah];go_simp
    ·refine Zac (W':=W) ?_ ⟨Zbr,rfl⟩
     clear hd;simp only[Zan,Znt,Zah];go_simp
    ·have h1:vals 1=.pointer (some ⟨gx,0,none⟩):=hd 1 (by simp[Znt]);have hc:W.cell? ⟨gx,0,none⟩=some (.int .i64 x):=(Zaa (Zaf kX hR) 0).trans rfl;refine Zac (W':=W) ?_ ⟨Zbr,rfl⟩
     clear hd;simp only[Zan,Znt,Zah,h1];go_simp
    ·have h2:vals 2=.int .i64 x:=hd 2 (by simp[Znt]);clear hd;refine Zbp (W':=W) (f:=183) (args:=#[.int .i64 x]) ?_ ((Zlu x HX.out.1 HX.out.2 W).mono ?_)
     ·simp only[Zan,Znt,Zah,h2];go_simp
     ·rintro e w1 ⟨rfl,rfl⟩;exact⟨_,rfl,Zbr,rfl⟩
    ·refine Zac (W':=W) ?_ ⟨Zbr,rfl⟩
     clear hd;simp only[Zan,Znt,Zah];go_simp
    ·have h4:vals 4=.pointer (some ⟨gx,1,none⟩):=hd 4 (by simp[Znt]);have hc:W.cell? ⟨gx,1,none⟩=some (.int .i64 (x+1)):=(Zaa (Zaf kX hR) 1).trans rfl;refine Zac (W':=W) ?_ ⟨Zbr,rfl⟩
     clear hd;simp only[Zan,Znt,Zah,h4];go_simp
    ·have h5:vals 5=.int .i64 (x+1):=hd 5 (by simp[Znt]);have hw1:IntKind.i64.wrap x=x:=by rw[IntKind.wrap_i64];have:=HX.out;omega
     refine Zac (W':=W) ?_ ⟨Zbr,rfl⟩
     clear hd;simp only[Zan,Znt,Zah,h5];go_simp
    ·have h6:vals 6=.int .i64 x:=hd 6 (by simp[Znt]);clear hd;refine Zbp (W':=W) (f:=183) (args:=#[.int .i64 x]) ?_ ((Zlu x HX.out.1 HX.out.2 W).mono ?_)
     ·simp only[Zan,Znt,Zah,h6];go_simp
     ·rintro e w1 ⟨rfl,rfl⟩;exact⟨_,rfl,Zbr,rfl⟩
    ·have h3:vals 3=.int .i32 x:=hd 3 (by simp[Znt]);have h7:vals 7=.int .i32 x:=hd 7 (by simp[Znt]);refine Zac (W':=W) ?_ ⟨Zbr,rfl⟩
     clear hd;simp only[Zan,Znt,Zah,h3,h7];go_simp
    ·have h8:vals 8=.agg #[.int .i32 x,.int .i32 x]:=hd 8 (by simp[Znt]);clear hd;refine Zac (W':=W.alloc (.cells #[.int .i32 x,.int .i32 x] 66)) (v:=.slice (some ⟨W.heap.size,0,none⟩) 1 1) ?_ ⟨Zab Zbr _,W.heap.size,rfl,hR.size,Zaj W _⟩
     simp only[Zan,Znt,Zah,h8];go_simp
   case fin=>
    intro vals W hR0 hF;have hR:=Zae (Zao (Below.refl _ X)) hR0;have f0:vals 0=.slice As k cs:=hF 0 (by decide);have f1:vals 1=.pointer (some ⟨gx,0,none⟩):=hF 1 (by decide);have f2:vals 2=.int .i64 x:=hF 2 (by decide);have f3:vals 3=.int .i32 x:=hF 3 (by decide);have f4:vals 4=.pointer (some ⟨gx,1,none⟩):=hF 4 (by decide);have f5:vals 5=.int .i64 (x+1):=hF 5 (by decide);have f6:vals 6=.int .i64 x:=hF 6 (by decide);have f7:vals 7=.int .i32 x:=hF 7 (by decide);have f8:vals 8=.agg #[.int .i32 x,.int .i32 x]:=hF 8 (by decide);have f9:∃g,(vals 9)=.slice (some ⟨g,0,none⟩) 1 1∧X.heap.size≤g∧W.heap[g]?=some (.cells #[.int .i32 x,.int .i32 x] 66 (0,0)):=hF 9 (by decide);clear hF hR0;rw[show List.range 10=[0,1,2,3,4,5,6,7,8,9]from rfl];simp only[Zan,Zah,Act.put,List.getElem?_toArray,List.getElem?_cons_zero,List.getElem?_cons_succ,Option.bind_some,List.setIfInBounds_toArray,List.set_cons_zero,List.set_cons_succ,List.drop_succ_cons,List.drop_zero,f0,f1,f2,f3,f4,f5,f6,f7,f8];obtain⟨gy,f9,hgy,kY⟩:=f9;simp only[f9];have HBW:=Zrw.mk (Zae HB.out (Zae HBX.out hR));have HSW:=Zrw.mk (Kd.R_below HS.out (Zae HBX.out hR));have HKY:=Zrw.mk kY;clear f0 f1 f2 f3 f4 f5 f6 f7 f8 f9 kX kY hR hgy;refine Kd.R_append_rows k72 (Rr:=fun y cs=>y=(⟨x,x⟩:S72)∧cs=[.int .i32 x,.int .i32 x]) (w0:=w) (W:=W) w.heap.size rfl (.tmp 12) (.tmp 21) 58 66 (.agg #[.int .i32 0,.int .i32 0]) 8 rfl Tryz.underlying58 info72x rfl (by decide) (by omega) _ (rgs (l.take k)) [⟨x,x⟩] _ 1 1 (fun _=>True) (fun _=>False) rfl rfl HSW.out (lit2_reads HKY.out ⟨rfl,rfl⟩) ?aP (fun _ hk=>hk.elim) (fun _ _=>trivial) HBW.out HBW.out.size ?aL ?_
    case aP=>rintro y cs ⟨rfl,rfl⟩;exact k72_mkM _ _ _ (⟨x,x⟩:S72)
    case aL=>have:=HLT.out;omega
    intro v6 w6 ho6 hb6 hg6 hat6;have HO6:=Zrw.mk ho6;have HB6:=Zrw.mk hb6;clear ho6 hb6 hg6 hat6;go_wp2
    go_roundw
    case rel=>
     have hf2:=HL.out.few;have hw:wrap64 ((k:Int)+1)=k+1:=(by unfold wrap64;omega)
     refine⟨k+1,by omega,by rw[hw];simp,⟨?_⟩,HB6⟩;rw[rgs_take l k x hkn HXE.out];exact HO6.out
    case measure=>have:=HL.out.few;have hw:wrap64 ((k:Int)+1)=k+1:=(by unfold wrap64;omega);rw[hw];simp only[intOf];omega
  ·obtain rfl:k=l.length:=by omega
   rw[List.take_length]at HS;go_wp2
   go_ret
   exact⟨_,rfl,HS.out,HB.out⟩
theorem norm_call (A:Option Addr)(c:Nat)(l:List Int)(hl:Sgl l)(w:World)(hr:k72.C w A l.length (rgs l))(hc:l.length≤c) :
 Calls Tryz.prog 159 #[.slice A l.length c] w fun e w'=>∃A' c',e=.returned (.slice A' l.length c')∧k72.C w' A' l.length (rgs l)∧Below w.heap.size w w':=by
 have HC:=Zrw.mk (spans_call A c l hl w hr hc);have HL:=Zrw.mk hl;clear hr hc hl
 go_enter Tryz.func159,Tryz.ntmps159
 go_wp2_with (first
  | (go_at_call 177;(with_reducible refine HC.out.mono ?_);rintro e w1 ⟨v,rfl,hv,hb⟩;obtain⟨A1,c1,rfl,_,hv2⟩:=Kd.R_reads hv;have HV:=Zrw.mk hv2;have HB:=Zrw.mk hb;clear hv hb hv2)
  | (go_at_call 176;(with_reducible refine (Zqp A1 c1 l HL.out _ HV.out).mono ?_);rintro e w2 ⟨v,rfl,hv,hb⟩;obtain⟨A2,c2,hs,_,hv2⟩:=Kd.R_reads hv;rw[Zkg]at hs hv2;subst hs;have HV2:=Zrw.mk hv2;have HB2:=Zrw.mk hb;clear hv hb hv2))
 go_ret
 exact⟨_,_,rfl,HV2.out,Zae HB.out HB2.out⟩
set_option maxHeartbeats 1000000 in
theorem equal_call (A1 A2:Option Addr)(c1 c2:Nat)(l:List Int)(hl:Sgl l)(w:World)(h1:k72.C w A1 l.length (rgs l))(h2:k72.C w A2 l.length (rgs l)) :
 Calls Tryz.prog 158 #[.slice A1 l.length c1,.slice A2 l.length c2] w fun e w'=>e=.returned (.bool true)∧Below w.heap.size w w':=by
 have H1:=Zrw.mk h1;have H2:=Zrw.mk h2;have HL:=Zrw.mk hl;clear h1 h2 hl
 go_enter Tryz.func158,Tryz.ntmps158
 go_wp2
 go_loopw [5,13] (fun _ i wr=>∃(k:Nat),k≤l.length∧i=.int .i64 k∧Zrw (Below w.heap.size w wr)) (fun _ i _=>l.length-(intOf i).toNat)
 case atStart=>exact⟨0,Nat.zero_le _,rfl,⟨Zbr⟩⟩
 case round=>
  obtain⟨k,hk,rfl,HB⟩:=hrel;by_cases hkn:k<l.length
  ·obtain⟨ad,rfl,m0,m1⟩:=at_T72 H1.out (k:Int) (by omega) (by omega);obtain⟨bd,rfl,n0,n1⟩:=at_T72 H2.out (k:Int) (by omega) (by omega);rw[rgs_at l k hkn]at m0 m1 n0 n1;rw[Int.toNat_natCast]at m0 m1 n0 n1;have m0:=Zad HB.out m0;have m1:=Zad HB.out m1;have n0:=Zad HB.out n0;have n1:=Zad HB.out n1;generalize rI l k=x at *;have HK:=Zrw.mk hk
   go_upto_region 6 with (fail)
   go_quiet (fail)
   go_wp2
   go_roundw
   case rel=>
    have hf2:=HL.out.few;have hw:wrap64 ((k:Int)+1)=k+1:=(by unfold wrap64;omega)
    exact⟨k+1,by omega,by rw[hw];simp,⟨Zag HB.out _⟩⟩
   case measure=>have:=HL.out.few;have hw:wrap64 ((k:Int)+1)=k+1:=(by unfold wrap64;omega);rw[hw];simp only[intOf];omega
  ·obtain rfl:k=l.length:=by omega
   go_wp2
   go_ret
   exact⟨rfl,HB.out⟩
theorem Zmz (A:Option Addr)(c:Nat)(l:List Int)(hl:Sgl l)(w:World)(hr:k72.C w A l.length (rgs l))(hc:l.length≤c) :
 Calls Tryz.prog 141 #[.slice A l.length c] w fun e w'=>e=.returned (.bool true)∧Below w.heap.size w w':=by
 have HC:=Zrw.mk (norm_call A c l hl w hr hc);have HR:=Zrw.mk hr;have HL:=Zrw.mk hl;clear hr hc hl
 go_enter Tryz.func141,Tryz.ntmps141
 go_wp2_with (first
  | (go_at_call 159;(with_reducible refine HC.out.mono ?_);rintro e w1 ⟨A1,c1,rfl,hv,hb⟩;have HV:=Zrw.mk hv;have HB:=Zrw.mk hb;clear hv hb)
  | (go_at_call 158;(with_reducible refine (equal_call A A1 c c1 l HL.out _ (Kd.C_below HR.out HB.out) HV.out).mono ?_);rintro e w2 ⟨rfl,hb⟩;have HB2:=Zrw.mk hb;clear hb))
 go_ret
 exact⟨rfl,Zae HB.out HB2.out⟩
def At4 (W:World)(A:Option Addr)(j:Nat)(r:Value):Prop:=
 ∃ad v0 v1 v2 v3,A=some ad∧r=.agg #[v0,v1,v2,v3]∧W.cell? (ad.add (j*4))=some v0∧W.cell? ⟨(ad.add (j*4)).block,(ad.add (j*4)).off+1,none⟩=some v1
  ∧ W.cell? ⟨(ad.add (j*4)).block,(ad.add (j*4)).off+2,none⟩=some v2∧W.cell? ⟨(ad.add (j*4)).block,(ad.add (j*4)).off+3,none⟩=some v3
def At3 (W:World)(A:Option Addr)(j:Nat)(r:Value):Prop:=
 ∃ad v0 v1 v2,A=some ad∧r=.agg #[v0,v1,v2]∧W.cell? (ad.add (j*3))=some v0∧W.cell? ⟨(ad.add (j*3)).block,(ad.add (j*3)).off+1,none⟩=some v1
  ∧ W.cell? ⟨(ad.add (j*3)).block,(ad.add (j*3)).off+2,none⟩=some v2
set_option maxHeartbeats 4000000 in
theorem none155 (A:Option Addr)(n c g:Nat)(lb:Array Value)(I:Nat→World→Prop)(w:World)
 (eg:∀args w,(callFunc g args).run Tryz.prog w=.ok (.enter g args) w) (hn:n≤9223372036854775807)
 (hcall:∀j W,j<n→I j W→∃r,At4 W A j r∧Calls Tryz.prog g (#[r]++lb) W fun e w'=>e=.returned (.bool false)∧I (j+1) w') (h0:I 0 w) :
 Calls Tryz.prog 160 #[.slice A n c,.func (.func g) #[] lb] w fun e w'=>e=.returned (.int .i64 (-1))∧I n w':=by
 have HC:=Zrw.mk hcall;have H0:=Zrw.mk h0;clear hcall h0
 go_enter Tryz.func160,Tryz.ntmps160
 go_wp2
 go_loopw [5,8] (fun _ s8 wr=>∃k:Nat,k≤n∧s8=.int .i64 k∧Zrw (I k wr)) (fun _ i _=>n-(intOf i).toNat)
 case atStart=>exact⟨0,Nat.zero_le _,rfl,H0⟩
 case round=>
  obtain⟨k,hk,rfl,HI⟩:=hrel;by_cases hkn:k<n
  ·obtain⟨r,hr,hcc⟩:=HC.out k _ hkn HI.out;obtain⟨ad,v0,v1,v2,v3,rfl,er,m0,m1,m2,m3⟩:=hr;rw[er]at hcc;clear er
   go_wp2_with (go_at_fn g;refine hcc.mono ?_;rintro e w1 ⟨rfl,hi⟩;have HI1:=Zrw.mk hi;clear hi)
   go_roundw
   case rel=>exact⟨k+1,by omega,by go_num,HI1⟩
   case measure=>simp[intOf];omega
  ·obtain rfl:k=n:=by omega
   go_wp2
   go_ret
   exact⟨rfl,HI.out⟩
set_option maxHeartbeats 4000000 in
theorem none144 (A:Option Addr)(n c g:Nat)(lb:Array Value)(I:Nat→World→Prop)(w:World)
 (eg:∀args w,(callFunc g args).run Tryz.prog w=.ok (.enter g args) w) (hn:n≤9223372036854775807)
 (hcall:∀j W,j<n→I j W→∃r,At4 W A j r∧Calls Tryz.prog g (#[r]++lb) W fun e w'=>e=.returned (.bool false)∧I (j+1) w') (h0:I 0 w) :
 Calls Tryz.prog 143 #[.slice A n c,.func (.func g) #[] lb] w fun e w'=>e=.returned (.bool false)∧I n w':=by
 go_enter Tryz.func143,Tryz.ntmps143
 go_wp2_with (go_at_call 160;refine (none155 A n c g lb I _ eg hn hcall h0).mono ?_;rintro e w1 ⟨rfl,hi⟩;have HI1:=Zrw.mk hi;clear hi)
 go_ret
 exact⟨rfl,HI1.out⟩
set_option maxHeartbeats 4000000 in
theorem none152 (A:Option Addr)(n c g:Nat)(lb:Array Value)(I:Nat→World→Prop)(w:World)
 (eg:∀args w,(callFunc g args).run Tryz.prog w=.ok (.enter g args) w) (hn:n≤9223372036854775807)
 (hcall:∀j W,j<n→I j W→∃r,At3 W A j r∧Calls Tryz.prog g (#[r]++lb) W fun e w'=>e=.returned (.bool false)∧I (j+1) w') (h0:I 0 w) :
 Calls Tryz.prog 157 #[.slice A n c,.func (.func g) #[] lb] w fun e w'=>e=.returned (.int .i64 (-1))∧I n w':=by
 have HC:=Zrw.mk hcall;have H0:=Zrw.mk h0;clear hcall h0
 go_enter Tryz.func157,Tryz.ntmps157
 go_wp2
 go_loopw [5,8] (fun _ s8 wr=>∃k:Nat,k≤n∧s8=.int .i64 k∧Zrw (I k wr)) (fun _ i _=>n-(intOf i).toNat)
 case atStart=>exact⟨0,Nat.zero_le _,rfl,H0⟩
 case round=>
  obtain⟨k,hk,rfl,HI⟩:=hrel;by_cases hkn:k<n
  ·obtain⟨r,hr,hcc⟩:=HC.out k _ hkn HI.out;obtain⟨ad,v0,v1,v2,rfl,er,m0,m1,m2⟩:=hr;rw[er]at hcc;clear er
   go_wp2_with (go_at_fn g;refine hcc.mono ?_;rintro e w1 ⟨rfl,hi⟩;have HI1:=Zrw.mk hi;clear hi)
   go_roundw
   case rel=>exact⟨k+1,by omega,by go_num,HI1⟩
   case measure=>simp[intOf];omega
  ·obtain rfl:k=n:=by omega
   go_wp2
   go_ret
   exact⟨rfl,HI.out⟩
set_option maxHeartbeats 4000000 in
theorem Zra (A:Option Addr)(n c g:Nat)(lb:Array Value)(I:Nat→World→Prop)(w:World)
 (eg:∀args w,(callFunc g args).run Tryz.prog w=.ok (.enter g args) w) (hn:n≤9223372036854775807)
 (hcall:∀j W,j<n→I j W→∃r,At3 W A j r∧Calls Tryz.prog g (#[r]++lb) W fun e w'=>e=.returned (.bool false)∧I (j+1) w') (h0:I 0 w) :
 Calls Tryz.prog 137 #[.slice A n c,.func (.func g) #[] lb] w fun e w'=>e=.returned (.bool false)∧I n w':=by
 go_enter Tryz.func137,Tryz.ntmps137
 go_wp2_with (go_at_call 157;refine (none152 A n c g lb I _ eg hn hcall h0).mono ?_;rintro e w1 ⟨rfl,hi⟩;have HI1:=Zrw.mk hi;clear hi)
 go_ret
 exact⟨rfl,HI1.out⟩
def Fit:Nat→S76→Nat→Prop
 | 0,_,_=>False
 | D+1,p,N=>∃ns:List Nat,ns.length=p.f3.length∧(∀j:Nat,j<p.f3.length→Fit D (p.f3.getD j z76) (ns.getD j 0))∧1+ns.sum≤N
def PatR (w:World)(p:S76)(v:Value):Prop:=
 ∃A1 c1 A2 c2 A3 c3,v=.agg #[.int .i64 p.f0,.slice A1 p.f1.length c1,.slice A2 p.f2.length c2,.slice A3 p.f3.length c3] ∧
  p.f1.length≤c1∧Kd.string.C w A1 p.f1.length p.f1∧p.f2.length≤c2∧Kd.string.C w A2 p.f2.length p.f2∧p.f3.length≤c3∧k76.C w A3 p.f3.length p.f3
theorem patR_at {w W:World}{A:Option Addr}{n:Nat}{l:List S76}(h:k76.C w A n l)(hb:Below w.heap.size w W)(j:Nat)(hj:j<n):∃r,At4 W A j r∧PatR w (l.getD j z76) r:=by
 obtain⟨ad,A1,c1,A2,c2,A3,c3,rfl,m0,m1,m2,m3,l1,h1,l2,h2,l3,h3⟩:=at_T76 h (j:Int) (by omega) (by omega);rw[Int.toNat_natCast]at m0 m1 m2 m3;exact⟨_,⟨ad,_,_,_,_,rfl,rfl,Zad hb m0,Zad hb m1,Zad hb m2,Zad hb m3⟩,⟨A1,c1,A2,c2,A3,c3,rfl,l1,h1,l2,h2,l3,h3⟩⟩
structure FewAt (w0 W:World)(gl gw:Nat)(L:Int):Prop where
 bel:Below w0.heap.size w0 W
 ge:w0.heap.size≤gl
 ne:gl≠gw
 left:W.heap[gl]?=some (.cells #[.int .i64 L] 3 (0,0))
 walk:W.heap[gw]?=some (.cells #[.func (.func 142) #[] #[.pointer (some ⟨gl,0,none⟩),.pointer (some ⟨gw,0,none⟩)]] 193 (0,0))
theorem FewAt.below {w0 W W':World}{gl gw:Nat}{L:Int}(h:FewAt w0 W gl gw L)(hb:Below W.heap.size W W'):FewAt w0 W' gl gw L:=
 ⟨Zae h.bel hb,h.ge,h.ne,Zaf h.left hb,Zaf h.walk hb⟩
theorem FewAt.set {w0 W:World}{gl gw:Nat}{L:Int}(h:FewAt w0 W gl gw L)(L':Int):FewAt w0 (W.setCell ⟨gl,0,none⟩ (.int .i64 L')) gl gw L':=
 ⟨Zcp h.bel h.ge,h.ge,h.ne,Zce h.left 0 _ rfl,Zdw h.walk (fun e=>h.ne e.symm) _⟩
theorem kept_set (W:World)(g j:Nat)(v:Value):Kept W (W.setCell ⟨g,j,none⟩ v) (fun k=>k=g):=
 ⟨by simp[World.setCell],fun i _ hn=>Below.heap_setCell _ _ _ i (fun he=>hn he)⟩
theorem eg143:∀args w,(callFunc 142 args).run Tryz.prog w=.ok (.enter 142 args) w:=enters_of Tryz.func142 (by kernel_rfl) rfl
theorem eg145:∀args w,(callFunc 144 args).run Tryz.prog w=.ok (.enter 144 args) w:=enters_of Tryz.func144 (by kernel_rfl) rfl
def FewC (D:Nat):Prop:=∀(w0:World) (gl gw:Nat) (p:S76) (N:Nat) (W:World) (L deep:Int) (v:Value),Fit D p N→PatR w0 p v→FewAt w0 W gl gw L→N≤L→L≤60→1≤deep→deep+D≤13 →
 Calls Tryz.prog 142 #[v,.int .i64 deep,.pointer (some ⟨gl,0,none⟩),.pointer (some ⟨gw,0,none⟩)] W fun e w'=>e=.returned (.bool true)∧∃L':Int,L-N≤L'∧L'≤60∧FewAt w0 w' gl gw L'∧Kept W w' (fun k=>k=gl)
theorem few_in {D:Nat}(ih:FewC D)(w0:World)(gl gw gd:Nat)(p:S76)(N:Nat)(W:World)(L deep:Int)(r:Value)(hf:Fit D p N)(hp:PatR w0 p r)(h:FewAt w0 W gl gw L)(hL:N≤L)(hL6:L≤60)(hd:1≤deep)(hD:deep+1+D≤13)(hg:W.heap[gd]?=some (.cells #[.int .i64 deep] 3 (0,0)))(hne:gd≠gl) :
 Calls Tryz.prog 144 #[r,.pointer (some ⟨gw,0,none⟩),.pointer (some ⟨gd,0,none⟩)] W fun e w'=>e=.returned (.bool false)∧∃L':Int,L-N≤L'∧L'≤60∧FewAt w0 w' gl gw L'∧Kept W w' (fun k=>k=gl):=by
 obtain⟨A1,c1,A2,c2,A3,c3,rfl,hp2⟩:=hp;have hbx:=Zab (Below.refl _ W) (.cells #[.int .i64 p.f0,.slice A1 p.f1.length c1,.slice A2 p.f2.length c2,.slice A3 p.f3.length c3] 73);have HB:=Zrw.mk hbx;have HF:=Zrw.mk (h.below hbx);have q1:∀o,(W.alloc o).cell? ⟨gw,0,none⟩=some (.func (.func 142) #[] #[.pointer (some ⟨gl,0,none⟩),.pointer (some ⟨gw,0,none⟩)]):=fun o=>(Zaa (Zai h.walk o) 0).trans rfl
 have q2:∀o,(W.alloc o).cell? ⟨gd,0,none⟩=some (.int .i64 deep):=fun o=>(Zaa (Zai hg o) 0).trans rfl
 have hw:wrap64 (deep+1)=deep+1:=by unfold wrap64;omega
 have HC:=Zrw.mk (ih w0 gl gw p N _ L (deep+1) _ hf ⟨A1,c1,A2,c2,A3,c3,rfl,hp2⟩ HF.out hL hL6 (by omega) (by omega));have eg:=eg143;clear hbx h hp2 hg hf hL hL6 hd hD
 go_enter Tryz.func144,Tryz.ntmps144
 go_wp2_with (go_at_fn 142;refine HC.out.mono ?_;rintro e w1 ⟨rfl,L',h1,h2,h3,h4⟩;have HE:Zrw (L-N≤L'∧L'≤60∧FewAt w0 w1 gl gw L'∧Kept (W.alloc (.cells #[.int .i64 p.f0,.slice A1 p.f1.length c1,.slice A2 p.f2.length c2,.slice A3 p.f3.length c3] 73)) w1 (fun k=>k=gl)):=⟨⟨h1,h2,h3,h4⟩⟩;clear h1 h2 h3 h4)
 go_ret
 obtain⟨h1,h2,h3,h4⟩:=HE.out;exact⟨rfl,L',h1,h2,h3,(Kept.of_below HB.out _).then_ h4 (fun _ hk=>.inl hk)⟩
theorem sum_take (ns:List Nat)(j:Nat)(hj:j<ns.length):(ns.take (j+1)).sum=(ns.take j).sum+ns.getD j 0:=by
 rw[List.take_add_one,List.sum_append,List.getD_eq_getElem?_getD,List.getElem?_eq_getElem hj];simp
theorem Zfe (ns:List Nat)(j:Nat):(ns.take j).sum≤ns.sum:=by
 have h:(ns.take j++ns.drop j).sum=ns.sum:=by rw[List.take_append_drop]
 rw[List.sum_append]at h;omega
set_option maxHeartbeats 4000000 in
theorem few1:∀D,FewC D
 | 0=>fun _ _ _ _ _ _ _ _ _ hf=>hf.elim
 | D+1=>by
  intro w0 gl gw p N W L deep v hf hp h hL hL6 hd hD;have ih:=few1 D;obtain⟨ns,hns,hfit,hsum⟩:=hf;obtain⟨A1,c1,A2,c2,A3,c3,rfl,l1,r1,l2,r2,l3,r3⟩:=hp;have hb1:=Zab (Below.refl _ W) (.cells #[.int .i64 p.f0,.slice A1 p.f1.length c1,.slice A2 p.f2.length c2,.slice A3 p.f3.length c3] 73);have hb2:=Zab hb1 (.cells #[.int .i64 deep] 3);have hw:wrap64 (L-1)=L-1:=by unfold wrap64;omega
  have q1:∀o o',((W.alloc o).alloc o').cell? ⟨gl,0,none⟩=some (.int .i64 L):=fun o o'=>(Zaa (Zai (Zai h.left o) o') 0).trans rfl
  have q2:∀o o',((W.alloc o).alloc o').frozen? ⟨gl,0,none⟩=false:=fun o o'=>Zam (Zai (Zai h.left o) o') 0
  have HF1:=Zrw.mk ((h.below hb2).set (L-1));have HK1:Zrw (Kept W (((W.alloc (.cells #[.int .i64 p.f0,.slice A1 p.f1.length c1,.slice A2 p.f2.length c2,.slice A3 p.f3.length c3] 73)).alloc (.cells #[.int .i64 deep] 3)).setCell ⟨gl,0,none⟩ (.int .i64 (L-1))) (fun k=>k=gl)):=⟨(Kept.of_below hb2 _).then_ (kept_set _ gl 0 _) (fun _ hk=>.inl hk)⟩
  have hgl:=Zau h.left;have b1:((W.alloc (.cells #[.int .i64 p.f0,.slice A1 p.f1.length c1,.slice A2 p.f2.length c2,.slice A3 p.f3.length c3] 73)).alloc (.cells #[.int .i64 deep] 3)).heap[W.heap.size]?=some (.cells #[.int .i64 p.f0,.slice A1 p.f1.length c1,.slice A2 p.f2.length c2,.slice A3 p.f3.length c3] 73 (0,0)):=Zai (Zaj W _) _;have b2:((W.alloc (.cells #[.int .i64 p.f0,.slice A1 p.f1.length c1,.slice A2 p.f2.length c2,.slice A3 p.f3.length c3] 73)).alloc (.cells #[.int .i64 deep] 3)).heap[W.heap.size+1]?=some (.cells #[.int .i64 deep] 3 (0,0)):=by
   have z:=Zaj (W.alloc (.cells #[.int .i64 p.f0,.slice A1 p.f1.length c1,.slice A2 p.f2.length c2,.slice A3 p.f3.length c3] 73)) (.cells #[.int .i64 deep] 3);simpa using z
  have H1:=Zrw.mk (Zdw b1 (p:=⟨gl,0,none⟩) (by show W.heap.size≠gl;omega) (.int .i64 (L-1)));have H2:=Zrw.mk (Zdw b2 (p:=⟨gl,0,none⟩) (by show W.heap.size+1≠gl;omega) (.int .i64 (L-1)));have HGD:Zrw (W.heap.size+1≠gl):=⟨by omega⟩
  have HLT:Zrw (W.heap.size+1≥W.heap.size):=⟨by omega⟩
  have HNS:=Zrw.mk hns;have HFT:=Zrw.mk hfit;have HSM:=Zrw.mk hsum;have HR:=Zrw.mk r3;have HBL:=Zrw.mk h.bel;have HN:=Zrw.mk (And.intro hL (And.intro hL6 (And.intro hd hD)));have eg:=eg145;clear hb1 hb2 h b1 b2 hgl hns hfit hsum r1 r2 r3 l1 l2 hL hL6 hd hD
  go_enter Tryz.func142,Tryz.ntmps142
  go_upto_region 2 with (fail)
  generalize ((W.alloc (.cells #[.int .i64 p.f0,.slice A1 p.f1.length c1,.slice A2 p.f2.length c2,.slice A3 p.f3.length c3] 73)).alloc (.cells #[.int .i64 deep] 3)).setCell ⟨gl,0,none⟩ (.int .i64 (L-1))=X at *;obtain⟨gd,hgd⟩:∃gd,gd=W.heap.size+1:=⟨_,rfl⟩
  rw[←hgd]at H2 HGD HLT ⊢;have m0:X.cell? ⟨gl,0,none⟩=some (.int .i64 (L-1)):=(Zaa HF1.out.left 0).trans rfl;have m1:X.cell? ⟨gd,0,none⟩=some (.int .i64 deep):=(Zaa H2.out 0).trans rfl;have m2:X.cell? ⟨W.heap.size,3,none⟩=some (.slice A3 p.f3.length c3):=(Zaa H1.out 3).trans rfl;have t1:decide (1≤L)=true:=decide_eq_true (by have:=HN.out;have:=HSM.out;omega);have t2:decide (deep≤12)=true:=decide_eq_true (by have:=HN.out;omega);clear hw q1 q2 hgd;have HC:Zrw (Calls Tryz.prog 143 #[.slice A3 p.f3.length c3,.func (.func 144) #[] #[.pointer (some ⟨gw,0,none⟩),.pointer (some ⟨gd,0,none⟩)]] X fun e w'=>e=.returned (.bool false)∧∃L':Int,L-1-(ns.take p.f3.length).sum≤L'∧L'≤60∧FewAt w0 w' gl gw L'∧Kept X w' (fun k=>k=gl)):=by
   refine⟨none144 A3 p.f3.length c3 144 _ (fun j w'=>∃L':Int,L-1-(ns.take j).sum≤L'∧L'≤60∧FewAt w0 w' gl gw L'∧Kept X w' (fun k=>k=gl)) X eg HR.out.2.1 (fun j W1 hj hI=>?_) ⟨L-1,by simp,by have:=HN.out;omega,HF1.out,Kept.refl _ _⟩⟩;obtain⟨L1,a1,a2,a3,a4⟩:=hI;obtain⟨r,hr1,hr2⟩:=patR_at HR.out a3.bel j hj;have hj2:j<ns.length:=by rw[HNS.out];exact hj
   have s1:=sum_take ns j hj2;have s2:=Zfe ns (j+1);have s3:=HSM.out;have s4:=HN.out;refine⟨r,hr1,(few_in ih w0 gl gw gd (p.f3.getD j z76) (ns.getD j 0) W1 L1 deep r (HFT.out j hj) hr2 a3 (by omega) a2 (by omega) (by omega) (Zie H2.out a4 HGD.out) HGD.out).mono ?_⟩;rintro e w' ⟨rfl,L2,b1,b2,b3,b4⟩;exact⟨rfl,L2,by omega,b2,b3,a4.then_ b4 (fun _ hk=>.inl hk)⟩
  clear eg
  go_wp2_with (go_at_call 143;refine HC.out.mono ?_;rintro e w1 ⟨rfl,he⟩;have HE:=Zrw.mk he;clear he)
  go_ret
  obtain⟨L',e1,e2,e3,e4⟩:=HE.out;refine⟨rfl,L',?_,e2,e3,HK1.out.then_ e4 (fun _ hk=>.inl hk)⟩;have s2:=Zfe ns p.f3.length;have s3:=HSM.out;omega
theorem few_call (w:World)(p:S76)(v:Value)(D N:Nat)(hf:Fit D p N)(hp:PatR w p v)(hN:N≤60)(hD:D≤12):Calls Tryz.prog 114 #[v] w fun e w'=>e=.returned (.bool true)∧Below w.heap.size w w':=by
 obtain⟨A1,c1,A2,c2,A3,c3,rfl,hp2⟩:=hp;have HP:=Zrw.mk hp2;have eg:=eg143;clear hp2;have hb1:=Zab (Below.refl _ w) (.cells #[.int .i64 p.f0,.slice A1 p.f1.length c1,.slice A2 p.f2.length c2,.slice A3 p.f3.length c3] 73);have hb2:=Zab hb1 (.cells #[.int .i64 60] 3);have hb3:=Zab hb2 (.cells #[.func (.func 142) #[] #[.pointer (some ⟨w.heap.size+1,0,none⟩),.pointer (some ⟨w.heap.size+1+1,0,none⟩)]] 193);have z1:=Zaj ((w.alloc (.cells #[.int .i64 p.f0,.slice A1 p.f1.length c1,.slice A2 p.f2.length c2,.slice A3 p.f3.length c3] 73)).alloc (.cells #[.int .i64 60] 3)) (.cells #[.func (.func 142) #[] #[.pointer (some ⟨w.heap.size+1,0,none⟩),.pointer (some ⟨w.heap.size+1+1,0,none⟩)]] 193);rw[show ((w.alloc (.cells #[.int .i64 p.f0,.slice A1 p.f1.length c1,.slice A2 p.f2.length c2,.slice A3 p.f3.length c3] 73)).alloc (.cells #[.int .i64 60] 3)).heap.size=w.heap.size+1+1 by simp]at z1;have z2:((w.alloc (.cells #[.int .i64 p.f0,.slice A1 p.f1.length c1,.slice A2 p.f2.length c2,.slice A3 p.f3.length c3] 73)).alloc (.cells #[.int .i64 60] 3)).heap[w.heap.size+1]?=some (.cells #[.int .i64 60] 3 (0,0)):=by
  have z:=Zaj (w.alloc (.cells #[.int .i64 p.f0,.slice A1 p.f1.length c1,.slice A2 p.f2.length c2,.slice A3 p.f3.length c3] 73)) (.cells #[.int .i64 60] 3);simpa using z
 have z3:=Zai (Zai (Zaj w (.cells #[.int .i64 p.f0,.slice A1 p.f1.length c1,.slice A2 p.f2.length c2,.slice A3 p.f3.length c3] 73)) (.cells #[.int .i64 60] 3)) (.cells #[.func (.func 142) #[] #[.pointer (some ⟨w.heap.size+1,0,none⟩),.pointer (some ⟨w.heap.size+1+1,0,none⟩)]] 193);have HX:Zrw (FewAt w (((w.alloc (.cells #[.int .i64 p.f0,.slice A1 p.f1.length c1,.slice A2 p.f2.length c2,.slice A3 p.f3.length c3] 73)).alloc (.cells #[.int .i64 60] 3)).alloc (.cells #[.func (.func 142) #[] #[.pointer (some ⟨w.heap.size+1,0,none⟩),.pointer (some ⟨w.heap.size+1+1,0,none⟩)]] 193)) (w.heap.size+1) (w.heap.size+1+1) 60):=
  ⟨⟨hb3,by omega,by omega,Zai z2 _,z1⟩⟩
 have HY:=Zrw.mk z3;have hsf:∀(a:Addr) (m:Mode) (fn:Fn) (first captured:Array Value) (w:World),(store a (.func fn first captured) m).run Tryz.prog w=stored Tryz.prog w a (.func fn first captured) m:=fun a m fn first captured w=>run_store Tryz.prog w a _ m rfl
 clear hb1 hb2 hb3 z1 z2 z3
 go_enter Tryz.func114,Tryz.ntmps114
 go_upto_region 4 with (fail)
 generalize ((w.alloc (.cells #[.int .i64 p.f0,.slice A1 p.f1.length c1,.slice A2 p.f2.length c2,.slice A3 p.f3.length c3] 73)).alloc (.cells #[.int .i64 60] 3)).alloc (.cells #[.func (.func 142) #[] #[.pointer (some ⟨w.heap.size+1,0,none⟩),.pointer (some ⟨w.heap.size+1+1,0,none⟩)]] 193)=X at *;have m0:X.cell? ⟨w.heap.size+1+1,0,none⟩=some (.func (.func 142) #[] #[.pointer (some ⟨w.heap.size+1,0,none⟩),.pointer (some ⟨w.heap.size+1+1,0,none⟩)]):=(Zaa HX.out.walk 0).trans rfl;have m1:X.cell? ⟨w.heap.size,0,none⟩=some (.int .i64 p.f0):=(Zaa HY.out 0).trans rfl;have m2:X.cell? ⟨w.heap.size,1,none⟩=some (.slice A1 p.f1.length c1):=(Zaa HY.out 1).trans rfl;have m3:X.cell? ⟨w.heap.size,2,none⟩=some (.slice A2 p.f2.length c2):=(Zaa HY.out 2).trans rfl;have m4:X.cell? ⟨w.heap.size,3,none⟩=some (.slice A3 p.f3.length c3):=(Zaa HY.out 3).trans rfl;have HC:=Zrw.mk (few1 D w _ _ p N X 60 1 _ hf ⟨A1,c1,A2,c2,A3,c3,rfl,HP.out⟩ HX.out (by omega) (by omega) (by omega) (by omega));clear hf
 go_wp2_with (go_at_fn 142;refine HC.out.mono ?_;rintro e w1 ⟨rfl,L',_,_,hx,_⟩;have HE:=Zrw.mk hx;clear hx)
 go_ret
 exact⟨rfl,HE.out.bel⟩
def FitR:Nat→S67→Nat→Prop
 | 0,_,_=>False
 | D+1,p,N=>∃ns:List Nat,ns.length=p.f2.length∧(∀j:Nat,j<p.f2.length→FitR D (p.f2.getD j z67) (ns.getD j 0))∧1+ns.sum≤N
def ReR (w:World)(p:S67)(v:Value):Prop:=
 ∃A1 c1 A2 c2,v=.agg #[.int .i64 p.f0,.slice A1 p.f1.length c1,.slice A2 p.f2.length c2] ∧
  p.f1.length≤c1∧k72.C w A1 p.f1.length p.f1∧p.f2.length≤c2∧k67.C w A2 p.f2.length p.f2
theorem reR_at {w W:World}{A:Option Addr}{n:Nat}{l:List S67}(h:k67.C w A n l)(hb:Below w.heap.size w W)(j:Nat)(hj:j<n):∃r,At3 W A j r∧ReR w (l.getD j z67) r:=by
 obtain⟨ad,A1,c1,A2,c2,rfl,m0,m1,m2,l1,h1,l2,h2⟩:=at_T67 h (j:Int) (by omega) (by omega);rw[Int.toNat_natCast]at m0 m1 m2;exact⟨_,⟨ad,_,_,_,rfl,rfl,Zad hb m0,Zad hb m1,Zad hb m2⟩,⟨A1,c1,A2,c2,rfl,l1,h1,l2,h2⟩⟩
structure WinAt (w0 W:World)(gl gw:Nat)(L:Int):Prop where
 bel:Below w0.heap.size w0 W
 ge:w0.heap.size≤gl
 ne:gl≠gw
 left:W.heap[gl]?=some (.cells #[.int .i64 L] 3 (0,0))
 walk:W.heap[gw]?=some (.cells #[.func (.func 136) #[] #[.pointer (some ⟨gl,0,none⟩),.pointer (some ⟨gw,0,none⟩)]] 190 (0,0))
theorem WinAt.below {w0 W W':World}{gl gw:Nat}{L:Int}(h:WinAt w0 W gl gw L)(hb:Below W.heap.size W W'):WinAt w0 W' gl gw L:=
 ⟨Zae h.bel hb,h.ge,h.ne,Zaf h.left hb,Zaf h.walk hb⟩
theorem WinAt.set {w0 W:World}{gl gw:Nat}{L:Int}(h:WinAt w0 W gl gw L)(L':Int):WinAt w0 (W.setCell ⟨gl,0,none⟩ (.int .i64 L')) gl gw L':=
 ⟨Zcp h.bel h.ge,h.ge,h.ne,Zce h.left 0 _ rfl,Zdw h.walk (fun e=>h.ne e.symm) _⟩
theorem eg137:∀args w,(callFunc 136 args).run Tryz.prog w=.ok (.enter 136 args) w:=enters_of Tryz.func136 (by kernel_rfl) rfl
theorem eg139:∀args w,(callFunc 138 args).run Tryz.prog w=.ok (.enter 138 args) w:=enters_of Tryz.func138 (by kernel_rfl) rfl
def WinC (D:Nat):Prop:=∀(w0:World) (gl gw:Nat) (p:S67) (N:Nat) (W:World) (L deep:Int) (v:Value),FitR D p N→ReR w0 p v→WinAt w0 W gl gw L→N≤L→L≤60→1≤deep→deep+D≤13 →
 Calls Tryz.prog 136 #[v,.int .i64 deep,.pointer (some ⟨gl,0,none⟩),.pointer (some ⟨gw,0,none⟩)] W fun e w'=>e=.returned (.bool true)∧∃L':Int,L-N≤L'∧L'≤60∧WinAt w0 w' gl gw L'∧Kept W w' (fun k=>k=gl)
theorem win_in {D:Nat}(ih:WinC D)(w0:World)(gl gw gd:Nat)(p:S67)(N:Nat)(W:World)(L deep:Int)(r:Value)(hf:FitR D p N)(hp:ReR w0 p r)(h:WinAt w0 W gl gw L)(hL:N≤L)(hL6:L≤60)(hd:1≤deep)(hD:deep+1+D≤13)(hg:W.heap[gd]?=some (.cells #[.int .i64 deep] 3 (0,0)))(hne:gd≠gl) :
 Calls Tryz.prog 138 #[r,.pointer (some ⟨gw,0,none⟩),.pointer (some ⟨gd,0,none⟩)] W fun e w'=>e=.returned (.bool false)∧∃L':Int,L-N≤L'∧L'≤60∧WinAt w0 w' gl gw L'∧Kept W w' (fun k=>k=gl):=by
 obtain⟨A1,c1,A2,c2,rfl,hp2⟩:=hp;have hbx:=Zab (Below.refl _ W) (.cells #[.int .i64 p.f0,.slice A1 p.f1.length c1,.slice A2 p.f2.length c2] 61);have HB:=Zrw.mk hbx;have HF:=Zrw.mk (h.below hbx);have q1:∀o,(W.alloc o).cell? ⟨gw,0,none⟩=some (.func (.func 136) #[] #[.pointer (some ⟨gl,0,none⟩),.pointer (some ⟨gw,0,none⟩)]):=fun o=>(Zaa (Zai h.walk o) 0).trans rfl
 have q2:∀o,(W.alloc o).cell? ⟨gd,0,none⟩=some (.int .i64 deep):=fun o=>(Zaa (Zai hg o) 0).trans rfl
 have hw:wrap64 (deep+1)=deep+1:=by unfold wrap64;omega
 have HC:=Zrw.mk (ih w0 gl gw p N _ L (deep+1) _ hf ⟨A1,c1,A2,c2,rfl,hp2⟩ HF.out hL hL6 (by omega) (by omega));have eg:=eg137;clear hbx h hp2 hg hf hL hL6 hd hD
 go_enter Tryz.func138,Tryz.ntmps138
 go_wp2_with (go_at_fn 136;refine HC.out.mono ?_;rintro e w1 ⟨rfl,L',h1,h2,h3,h4⟩;have HE:Zrw (L-N≤L'∧L'≤60∧WinAt w0 w1 gl gw L'∧Kept (W.alloc (.cells #[.int .i64 p.f0,.slice A1 p.f1.length c1,.slice A2 p.f2.length c2] 61)) w1 (fun k=>k=gl)):=⟨⟨h1,h2,h3,h4⟩⟩;clear h1 h2 h3 h4)
 go_ret
 obtain⟨h1,h2,h3,h4⟩:=HE.out;exact⟨rfl,L',h1,h2,h3,(Kept.of_below HB.out _).then_ h4 (fun _ hk=>.inl hk)⟩
set_option maxHeartbeats 4000000 in
theorem win1:∀D,WinC D
 | 0=>fun _ _ _ _ _ _ _ _ _ hf=>hf.elim
 | D+1=>by
  intro w0 gl gw p N W L deep v hf hp h hL hL6 hd hD;have ih:=win1 D;obtain⟨ns,hns,hfit,hsum⟩:=hf;obtain⟨A1,c1,A2,c2,rfl,l1,r1,l3,r3⟩:=hp;have hb1:=Zab (Below.refl _ W) (.cells #[.int .i64 p.f0,.slice A1 p.f1.length c1,.slice A2 p.f2.length c2] 61);have hb2:=Zab hb1 (.cells #[.int .i64 deep] 3);have hw:wrap64 (L-1)=L-1:=by unfold wrap64;omega
  have q1:∀o o',((W.alloc o).alloc o').cell? ⟨gl,0,none⟩=some (.int .i64 L):=fun o o'=>(Zaa (Zai (Zai h.left o) o') 0).trans rfl
  have q2:∀o o',((W.alloc o).alloc o').frozen? ⟨gl,0,none⟩=false:=fun o o'=>Zam (Zai (Zai h.left o) o') 0
  have HF1:=Zrw.mk ((h.below hb2).set (L-1));have HK1:Zrw (Kept W (((W.alloc (.cells #[.int .i64 p.f0,.slice A1 p.f1.length c1,.slice A2 p.f2.length c2] 61)).alloc (.cells #[.int .i64 deep] 3)).setCell ⟨gl,0,none⟩ (.int .i64 (L-1))) (fun k=>k=gl)):=⟨(Kept.of_below hb2 _).then_ (kept_set _ gl 0 _) (fun _ hk=>.inl hk)⟩
  have hgl:=Zau h.left;have b1:((W.alloc (.cells #[.int .i64 p.f0,.slice A1 p.f1.length c1,.slice A2 p.f2.length c2] 61)).alloc (.cells #[.int .i64 deep] 3)).heap[W.heap.size]?=some (.cells #[.int .i64 p.f0,.slice A1 p.f1.length c1,.slice A2 p.f2.length c2] 61 (0,0)):=Zai (Zaj W _) _;have b2:((W.alloc (.cells #[.int .i64 p.f0,.slice A1 p.f1.length c1,.slice A2 p.f2.length c2] 61)).alloc (.cells #[.int .i64 deep] 3)).heap[W.heap.size+1]?=some (.cells #[.int .i64 deep] 3 (0,0)):=by
   have z:=Zaj (W.alloc (.cells #[.int .i64 p.f0,.slice A1 p.f1.length c1,.slice A2 p.f2.length c2] 61)) (.cells #[.int .i64 deep] 3);simpa using z
  have H1:=Zrw.mk (Zdw b1 (p:=⟨gl,0,none⟩) (by show W.heap.size≠gl;omega) (.int .i64 (L-1)));have H2:=Zrw.mk (Zdw b2 (p:=⟨gl,0,none⟩) (by show W.heap.size+1≠gl;omega) (.int .i64 (L-1)));have HGD:Zrw (W.heap.size+1≠gl):=⟨by omega⟩
  have HLT:Zrw (W.heap.size+1≥W.heap.size):=⟨by omega⟩
  have HNS:=Zrw.mk hns;have HFT:=Zrw.mk hfit;have HSM:=Zrw.mk hsum;have HR:=Zrw.mk r3;have HBL:=Zrw.mk h.bel;have HN:=Zrw.mk (And.intro hL (And.intro hL6 (And.intro hd hD)));have eg:=eg139;clear hb1 hb2 h b1 b2 hgl hns hfit hsum r1 r3 l1 hL hL6 hd hD
  go_enter Tryz.func136,Tryz.ntmps136
  go_upto_region 2 with (fail)
  generalize ((W.alloc (.cells #[.int .i64 p.f0,.slice A1 p.f1.length c1,.slice A2 p.f2.length c2] 61)).alloc (.cells #[.int .i64 deep] 3)).setCell ⟨gl,0,none⟩ (.int .i64 (L-1))=X at *;obtain⟨gd,hgd⟩:∃gd,gd=W.heap.size+1:=⟨_,rfl⟩
  rw[←hgd]at H2 HGD HLT ⊢;have m0:X.cell? ⟨gl,0,none⟩=some (.int .i64 (L-1)):=(Zaa HF1.out.left 0).trans rfl;have m1:X.cell? ⟨gd,0,none⟩=some (.int .i64 deep):=(Zaa H2.out 0).trans rfl;have m2:X.cell? ⟨W.heap.size,2,none⟩=some (.slice A2 p.f2.length c2):=(Zaa H1.out 2).trans rfl;have t1:decide (1≤L)=true:=decide_eq_true (by have:=HN.out;have:=HSM.out;omega);have t2:decide (deep≤12)=true:=decide_eq_true (by have:=HN.out;omega);clear hw q1 q2 hgd;have HC:Zrw (Calls Tryz.prog 137 #[.slice A2 p.f2.length c2,.func (.func 138) #[] #[.pointer (some ⟨gw,0,none⟩),.pointer (some ⟨gd,0,none⟩)]] X fun e w'=>e=.returned (.bool false)∧∃L':Int,L-1-(ns.take p.f2.length).sum≤L'∧L'≤60∧WinAt w0 w' gl gw L'∧Kept X w' (fun k=>k=gl)):=by
   refine⟨Zra A2 p.f2.length c2 138 _ (fun j w'=>∃L':Int,L-1-(ns.take j).sum≤L'∧L'≤60∧WinAt w0 w' gl gw L'∧Kept X w' (fun k=>k=gl)) X eg HR.out.2.1 (fun j W1 hj hI=>?_) ⟨L-1,by simp,by have:=HN.out;omega,HF1.out,Kept.refl _ _⟩⟩;obtain⟨L1,a1,a2,a3,a4⟩:=hI;obtain⟨r,hr1,hr2⟩:=reR_at HR.out a3.bel j hj;have hj2:j<ns.length:=by rw[HNS.out];exact hj
   have s1:=sum_take ns j hj2;have s2:=Zfe ns (j+1);have s3:=HSM.out;have s4:=HN.out;refine⟨r,hr1,(win_in ih w0 gl gw gd (p.f2.getD j z67) (ns.getD j 0) W1 L1 deep r (HFT.out j hj) hr2 a3 (by omega) a2 (by omega) (by omega) (Zie H2.out a4 HGD.out) HGD.out).mono ?_⟩;rintro e w' ⟨rfl,L2,b1,b2,b3,b4⟩;exact⟨rfl,L2,by omega,b2,b3,a4.then_ b4 (fun _ hk=>.inl hk)⟩
  clear eg
  go_wp2_with (go_at_call 137;refine HC.out.mono ?_;rintro e w1 ⟨rfl,he⟩;have HE:=Zrw.mk he;clear he)
  go_ret
  obtain⟨L',e1,e2,e3,e4⟩:=HE.out;refine⟨rfl,L',?_,e2,e3,HK1.out.then_ e4 (fun _ hk=>.inl hk)⟩;have s2:=Zfe ns p.f2.length;have s3:=HSM.out;omega
theorem Zqf (w:World)(p:S67)(v:Value)(D N:Nat)(hf:FitR D p N)(hp:ReR w p v)(hN:N≤60)(hD:D≤12):Calls Tryz.prog 111 #[v] w fun e w'=>e=.returned (.bool true)∧Below w.heap.size w w':=by
 obtain⟨A1,c1,A2,c2,rfl,hp2⟩:=hp;have HP:=Zrw.mk hp2;have eg:=eg137;clear hp2;have hb1:=Zab (Below.refl _ w) (.cells #[.int .i64 p.f0,.slice A1 p.f1.length c1,.slice A2 p.f2.length c2] 61);have hb2:=Zab hb1 (.cells #[.int .i64 60] 3);have hb3:=Zab hb2 (.cells #[.func (.func 136) #[] #[.pointer (some ⟨w.heap.size+1,0,none⟩),.pointer (some ⟨w.heap.size+1+1,0,none⟩)]] 190);have z1:=Zaj ((w.alloc (.cells #[.int .i64 p.f0,.slice A1 p.f1.length c1,.slice A2 p.f2.length c2] 61)).alloc (.cells #[.int .i64 60] 3)) (.cells #[.func (.func 136) #[] #[.pointer (some ⟨w.heap.size+1,0,none⟩),.pointer (some ⟨w.heap.size+1+1,0,none⟩)]] 190);rw[show ((w.alloc (.cells #[.int .i64 p.f0,.slice A1 p.f1.length c1,.slice A2 p.f2.length c2] 61)).alloc (.cells #[.int .i64 60] 3)).heap.size=w.heap.size+1+1 by simp]at z1;have z2:((w.alloc (.cells #[.int .i64 p.f0,.slice A1 p.f1.length c1,.slice A2 p.f2.length c2] 61)).alloc (.cells #[.int .i64 60] 3)).heap[w.heap.size+1]?=some (.cells #[.int .i64 60] 3 (0,0)):=by
  have z:=Zaj (w.alloc (.cells #[.int .i64 p.f0,.slice A1 p.f1.length c1,.slice A2 p.f2.length c2] 61)) (.cells #[.int .i64 60] 3);simpa using z
 have z3:=Zai (Zai (Zaj w (.cells #[.int .i64 p.f0,.slice A1 p.f1.length c1,.slice A2 p.f2.length c2] 61)) (.cells #[.int .i64 60] 3)) (.cells #[.func (.func 136) #[] #[.pointer (some ⟨w.heap.size+1,0,none⟩),.pointer (some ⟨w.heap.size+1+1,0,none⟩)]] 190);have HX:Zrw (WinAt w (((w.alloc (.cells #[.int .i64 p.f0,.slice A1 p.f1.length c1,.slice A2 p.f2.length c2] 61)).alloc (.cells #[.int .i64 60] 3)).alloc (.cells #[.func (.func 136) #[] #[.pointer (some ⟨w.heap.size+1,0,none⟩),.pointer (some ⟨w.heap.size+1+1,0,none⟩)]] 190)) (w.heap.size+1) (w.heap.size+1+1) 60):=
  ⟨⟨hb3,by omega,by omega,Zai z2 _,z1⟩⟩
 have HY:=Zrw.mk z3;have hsf:∀(a:Addr) (m:Mode) (fn:Fn) (first captured:Array Value) (w:World),(store a (.func fn first captured) m).run Tryz.prog w=stored Tryz.prog w a (.func fn first captured) m:=fun a m fn first captured w=>run_store Tryz.prog w a _ m rfl
 clear hb1 hb2 hb3 z1 z2 z3
 go_enter Tryz.func111,Tryz.ntmps111
 go_upto_region 4 with (fail)
 generalize ((w.alloc (.cells #[.int .i64 p.f0,.slice A1 p.f1.length c1,.slice A2 p.f2.length c2] 61)).alloc (.cells #[.int .i64 60] 3)).alloc (.cells #[.func (.func 136) #[] #[.pointer (some ⟨w.heap.size+1,0,none⟩),.pointer (some ⟨w.heap.size+1+1,0,none⟩)]] 190)=X at *;have m0:X.cell? ⟨w.heap.size+1+1,0,none⟩=some (.func (.func 136) #[] #[.pointer (some ⟨w.heap.size+1,0,none⟩),.pointer (some ⟨w.heap.size+1+1,0,none⟩)]):=(Zaa HX.out.walk 0).trans rfl;have m1:X.cell? ⟨w.heap.size,0,none⟩=some (.int .i64 p.f0):=(Zaa HY.out 0).trans rfl;have m2:X.cell? ⟨w.heap.size,1,none⟩=some (.slice A1 p.f1.length c1):=(Zaa HY.out 1).trans rfl;have m3:X.cell? ⟨w.heap.size,2,none⟩=some (.slice A2 p.f2.length c2):=(Zaa HY.out 2).trans rfl;have HC:=Zrw.mk (win1 D w _ _ p N X 60 1 _ hf ⟨A1,c1,A2,c2,rfl,HP.out⟩ HX.out (by omega) (by omega) (by omega) (by omega));clear hf
 go_wp2_with (go_at_fn 136;refine HC.out.mono ?_;rintro e w1 ⟨rfl,L',_,_,hx,_⟩;have HE:=Zrw.mk hx;clear hx)
 go_ret
 exact⟨rfl,HE.out.bel⟩
def ReSet (e:S67):Prop:=e.f0=2∧e.f2=[]∧∃l,e.f1=rgs l∧Sgl l∧1≤l.length
def ReSeq (e:S67):Prop:=e.f0=3∧e.f1=[]∧∃a b,e.f2=[a,b]∧ReSet a∧ReSet b
def ReOk (e:S67):Prop:=ReSet e∨ReSeq e
theorem ReSet.fit {e:S67}(h:ReSet e)(D:Nat):FitR (D+1) e 1:=⟨[],by rw[h.2.1];rfl,(fun j hj=>by rw[h.2.1]at hj;exact absurd hj (Nat.not_lt_zero _)),by simp⟩
theorem ReOk.fit {e:S67}(h:ReOk e):FitR 2 e 3:=by
 rcases h with h | ⟨_,_,a,b,e2,ha,hb⟩
 ·exact⟨[],by rw[h.2.1];rfl,(fun j hj=>by rw[h.2.1]at hj;exact absurd hj (Nat.not_lt_zero _)),by simp⟩
 ·refine⟨[1,1],by rw[e2];rfl,fun j hj=>?_,by simp⟩;rw[e2]at hj ⊢
  rcases j with _ | _ | j
  ·exact ha.fit 0
  ·exact hb.fit 0
  ·have:j+1+1<2:=hj;omega
theorem ReR.below {w W:World}{e:S67}{v:Value}(h:ReR w e v)(hb:Below w.heap.size w W):ReR W e v:=by
 obtain⟨A1,c1,A2,c2,rfl,l1,r1,l2,r2⟩:=h;exact⟨A1,c1,A2,c2,rfl,l1,Kd.C_below r1 hb,l2,Kd.C_below r2 hb⟩
theorem parts2 (w:World):Calls Tryz.prog 139 #[.int .i64 2] w fun e w'=>e=.returned (.int .i64 0)∧w'=w:=by
 go_enter Tryz.func139,Tryz.ntmps139
 go_wp2
 go_ret
 exact⟨rfl,rfl⟩
theorem parts3 (w:World):Calls Tryz.prog 139 #[.int .i64 3] w fun e w'=>e=.returned (.int .i64 2)∧w'=w:=by
 go_enter Tryz.func139,Tryz.ntmps139
 go_wp2
 go_ret
 exact⟨rfl,rfl⟩
theorem Zqz (A:Option Addr)(c g:Nat)(lb:Array Value)(w:World)(eg:∀args w,(callFunc g args).run Tryz.prog w=.ok (.enter g args) w) :
 Calls Tryz.prog 137 #[.slice A 0 c,.func (.func g) #[] lb] w fun e w'=>e=.returned (.bool false)∧Below w.heap.size w w':=
 (Zra A 0 c g lb (fun _ W=>Below w.heap.size w W) w eg (by omega) (fun j W hj _=>by omega) Zbr)
theorem eg141:∀args w,(callFunc 140 args).run Tryz.prog w=.ok (.enter 140 args) w:=enters_of Tryz.func140 (by kernel_rfl) rfl
set_option maxHeartbeats 2000000 in
theorem Zkq (w:World)(e:S67)(v:Value)(h:ReSet e)(hp:ReR w e v):Calls Tryz.prog 112 #[v] w fun e w'=>e=.returned (.bool true)∧Below w.heap.size w w':=by
 obtain⟨A1,c1,A2,c2,rfl,l1,r1,l2,r2⟩:=hp;obtain⟨e0,e2,l,e1,hl,hn⟩:=h;rw[e1,Zkg]at l1 r1;rw[e0,e1,e2,Zkg];have HB:=Zrw.mk (Zab (Below.refl _ w) (.cells #[.int .i64 2,.slice A1 l.length c1,.slice A2 0 c2] 61));have hk:=Zaj w (.cells #[.int .i64 2,.slice A1 l.length c1,.slice A2 0 c2] 61);have HR:=Zrw.mk r1;have HL1:=Zrw.mk l1;have HL:=Zrw.mk hl;have HK:=Zrw.mk hk;have t1:decide (1≤(l.length:Int))=true:=decide_eq_true (by omega);have t2:decide ((l.length:Int)≤20)=true:=decide_eq_true (by have:=hl.few;omega);clear r1 r2 l1 l2 e0 e1 e2 hk hl hn
 go_enter Tryz.func112,Tryz.ntmps112
 go_upto_region 1 with (fail)
 generalize w.alloc (.cells #[.int .i64 2,.slice A1 l.length c1,.slice A2 0 c2] 61)=X at *;generalize w.heap.size=g at HK ⊢;have a0:X.cell? ⟨g,0,none⟩=some (.int .i64 2):=(Zaa HK.out 0).trans rfl;have a1:X.cell? ⟨g,1,none⟩=some (.slice A1 l.length c1):=(Zaa HK.out 1).trans rfl;have a2:X.cell? ⟨g,2,none⟩=some (.slice A2 0 c2):=(Zaa HK.out 2).trans rfl;have eg:=eg141
 go_region_law (first | (go_simp;go_at_call 139;(with_reducible refine (parts2 _).mono ?_);rintro e w1 ⟨rfl,rfl⟩) | (go_simp;go_at_call 137;(refine (Zqz A2 c2 140 #[] _ eg).mono ?_);rintro e w1 ⟨rfl,hb⟩;have HB1:=Zrw.mk (Zae (Zag (Below.refl _ X) 1) hb);clear hb) | fail)
 all_goals (
  have b0:=(Zaa (Zaf HK.out HB1.out) 0).trans rfl;have b1:=(Zaa (Zaf HK.out HB1.out) 1).trans rfl;clear a0 a1 a2 eg
  go_wp2_with (go_at_call 141;(with_reducible refine (Zmz A1 c1 l HL.out _ (Kd.C_below HR.out (Zae HB.out HB1.out)) HL1.out).mono ?_);rintro e w2 ⟨rfl,hb⟩;have HB2:=Zrw.mk hb;clear hb)
  go_ret
  exact⟨rfl,Zae (Zae HB.out HB1.out) HB2.out⟩)
theorem may1_call (w W:World)(e:S67)(v:Value)(h:ReSet e)(hp:ReR w e v)(hb:Below w.heap.size w W):Calls Tryz.prog 140 #[v] W fun e w'=>e=.returned (.bool false)∧Below w.heap.size w w':=by
 have HP:=Zrw.mk hp;obtain⟨A1,c1,A2,c2,rfl,_⟩:=hp;have HB:=Zrw.mk (Zae hb (Zab (Below.refl _ W) (.cells #[.int .i64 e.f0,.slice A1 e.f1.length c1,.slice A2 e.f2.length c2] 61)));have HS:=Zrw.mk h;clear h hb
 go_enter Tryz.func140,Tryz.ntmps140
 go_wp2_with (go_at_call 112;(with_reducible refine (Zkq _ e _ HS.out (HP.out.below HB.out)).mono ?_);rintro e w2 ⟨rfl,hb⟩;have HB2:=Zrw.mk hb;clear hb)
 go_ret
 exact⟨rfl,Zae HB.out HB2.out⟩
set_option maxHeartbeats 2000000 in
theorem Zrc (w:World)(e:S67)(v:Value)(h:ReSeq e)(hp:ReR w e v):Calls Tryz.prog 112 #[v] w fun e w'=>e=.returned (.bool true)∧Below w.heap.size w w':=by
 obtain⟨A1,c1,A2,c2,rfl,l1,r1,l2,r2⟩:=hp;obtain⟨e0,e1,a,b,e2,ha,hb⟩:=h;rw[e2]at l2 r2;rw[e0,e1,e2];have l2:2≤c2:=l2;have r2:k67.C w A2 2 [a,b]:=r2;show Calls Tryz.prog 112 #[.agg #[.int .i64 3,.slice A1 0 c1,.slice A2 2 c2]] w _;have HB:=Zrw.mk (Zab (Below.refl _ w) (.cells #[.int .i64 3,.slice A1 0 c1,.slice A2 2 c2] 61));have hk:=Zaj w (.cells #[.int .i64 3,.slice A1 0 c1,.slice A2 2 c2] 61);have HR:=Zrw.mk r2;have HK:=Zrw.mk hk;have HA:=Zrw.mk ha;have HBB:=Zrw.mk hb;clear r1 r2 l1 l2 e0 e1 e2 hk ha hb
 go_enter Tryz.func112,Tryz.ntmps112
 go_upto_region 1 with (fail)
 generalize w.alloc (.cells #[.int .i64 3,.slice A1 0 c1,.slice A2 2 c2] 61)=X at *;generalize w.heap.size=g at HK ⊢;have a0:X.cell? ⟨g,0,none⟩=some (.int .i64 3):=(Zaa HK.out 0).trans rfl;have a1:X.cell? ⟨g,1,none⟩=some (.slice A1 0 c1):=(Zaa HK.out 1).trans rfl;have a2:X.cell? ⟨g,2,none⟩=some (.slice A2 2 c2):=(Zaa HK.out 2).trans rfl;have HC:Zrw (∀W,Below X.heap.size X W→Calls Tryz.prog 137 #[.slice A2 2 c2,.func (.func 140) #[] #[]] W fun e w'=>e=.returned (.bool false)∧Below X.heap.size X w'):=
  ⟨fun W hW=>Zra A2 2 c2 140 #[] (fun _ W=>Below X.heap.size X W) W eg141 (by omega) (fun j W1 hj hI=>by
   obtain⟨r,h1,h2⟩:=reR_at HR.out (Zae HB.out hI) j hj;have hs:ReSet ([a,b].getD j z67):=by
    rcases j with _ | _ | j
    ·exact HA.out
    ·exact HBB.out
    ·omega
   exact⟨r,h1,(may1_call X W1 _ r hs (h2.below HB.out) hI).mono fun e w' h=>h⟩) hW⟩
 have eg:=eg141
 go_region_law (first | (go_simp;go_at_call 139;(with_reducible refine (parts3 _).mono ?_);rintro e w1 ⟨rfl,rfl⟩) | (go_simp;go_at_call 137;(refine (HC.out _ (Zag (Below.refl _ X) 1)).mono ?_);rintro e w1 ⟨rfl,hb⟩;have HB1:=Zrw.mk hb;clear hb) | fail)
 all_goals (
  have b0:=(Zaa (Zaf HK.out HB1.out) 0).trans rfl;have b1:=(Zaa (Zaf HK.out HB1.out) 1).trans rfl;clear a0 a1 a2 eg;go_wp2
  go_ret
  exact⟨rfl,Zae HB.out HB1.out⟩)
theorem may_call2 (w:World)(e:S67)(v:Value)(h:ReOk e)(hp:ReR w e v):Calls Tryz.prog 112 #[v] w fun e w'=>e=.returned (.bool true)∧Below w.heap.size w w':=by
 rcases h with h | h
 ·exact Zkq w e v h hp
 ·exact Zrc w e v h hp
theorem Zhk (w:World)(e:S67)(v:Value)(h:ReOk e)(hp:ReR w e v):Calls Tryz.prog 91 #[v] w fun e w'=>e=.returned (.bool true)∧Below w.heap.size w w':=by
 have HP:=Zrw.mk hp;obtain⟨A1,c1,A2,c2,rfl,_⟩:=hp;have HB:=Zrw.mk (Zab (Below.refl _ w) (.cells #[.int .i64 e.f0,.slice A1 e.f1.length c1,.slice A2 e.f2.length c2] 61));have HK:=Zrw.mk (Zaj w (.cells #[.int .i64 e.f0,.slice A1 e.f1.length c1,.slice A2 e.f2.length c2] 61));have HS:=Zrw.mk h;have HC:=Zrw.mk (Zqf (w.alloc (.cells #[.int .i64 e.f0,.slice A1 e.f1.length c1,.slice A2 e.f2.length c2] 61)) e _ 2 3 h.fit (hp:=HP.out.below HB.out) (by omega) (by omega));clear h
 go_enter Tryz.func91,Tryz.ntmps91
 go_wp2_with (first | (go_at_call 111;(with_reducible refine HC.out.mono ?_);rintro e w2 ⟨rfl,hb⟩;have HB2:=Zrw.mk hb;have b0:=(Zaa (Zaf HK.out hb) 0).trans rfl;have b1:=(Zaa (Zaf HK.out hb) 1).trans rfl;have b2:=(Zaa (Zaf HK.out hb) 2).trans rfl;clear hb) | (go_at_call 112;(with_reducible refine (may_call2 _ e _ HS.out (HP.out.below (Zae HB.out HB2.out))).mono ?_);rintro e w3 ⟨rfl,hb⟩;have HB3:=Zrw.mk hb;clear hb))
 go_ret
 exact⟨rfl,Zae (Zae HB.out HB2.out) HB3.out⟩
theorem Zic (w:World)(e:S67)(v:Value)(h:ReSet e)(hp:ReR w e v):Calls Tryz.prog 113 #[v] w fun e w'=>e=.returned (.bool false)∧Below w.heap.size w w':=by
 obtain⟨A1,c1,A2,c2,rfl,_⟩:=hp;rw[h.1];have HB:=Zrw.mk (Zab (Below.refl _ w) (.cells #[.int .i64 2,.slice A1 e.f1.length c1,.slice A2 e.f2.length c2] 61));clear h
 go_enter Tryz.func113,Tryz.ntmps113
 go_wp2
 go_ret
 exact⟨rfl,HB.out⟩
theorem Znr (w:World)(e:S67)(v:Value)(h:ReSeq e)(hp:ReR w e v):Calls Tryz.prog 113 #[v] w fun e w'=>e=.returned (.bool false)∧Below w.heap.size w w':=by
 obtain⟨A1,c1,A2,c2,rfl,l1,r1,l2,r2⟩:=hp;obtain⟨e0,e1,a,b,e2,ha,hb⟩:=h;rw[e2]at l2 r2;rw[e0,e1,e2];have r2:k67.C w A2 2 [a,b]:=r2;show Calls Tryz.prog 113 #[.agg #[.int .i64 3,.slice A1 0 c1,.slice A2 2 c2]] w _;have HB:=Zrw.mk (Zab (Below.refl _ w) (.cells #[.int .i64 3,.slice A1 0 c1,.slice A2 2 c2] 61));obtain⟨r,h1,h2⟩:=reR_at r2 HB.out 0 (by omega);obtain⟨ad,v0,v1,v2,rfl,rfl,m0,m1,m2⟩:=h1;rw[show 0*3=0 by rfl]at m0 m1 m2;rw[show ad.add 0=ad from by cases ad with | mk b o p=>cases p <;> rfl]at m0 m1 m2;have HC:=Zrw.mk (Zic (w.alloc (.cells #[.int .i64 3,.slice A1 0 c1,.slice (some ad) 2 c2] 61)) a _ ha (h2.below HB.out));clear r1 r2 l1 l2 e0 e1 e2 ha hb h2
 go_enter Tryz.func113,Tryz.ntmps113
 go_wp2_with (go_at_call 113;(with_reducible refine HC.out.mono ?_);rintro e w2 ⟨rfl,hb⟩;have HB2:=Zrw.mk hb;clear hb)
 go_ret
 exact⟨rfl,Zae HB.out HB2.out⟩
theorem empty_call (w:World)(e:S67)(v:Value)(h:ReOk e)(hp:ReR w e v):Calls Tryz.prog 113 #[v] w fun e w'=>e=.returned (.bool false)∧Below w.heap.size w w':=by
 rcases h with h | h
 ·exact Zic w e v h hp
 ·exact Znr w e v h hp
theorem Zkh (w:World)(e:S67)(v:Value)(h:ReOk e)(hp:ReR w e v):Calls Tryz.prog 92 #[v] w fun e w'=>e=.returned (.bool false)∧Below w.heap.size w w':=by
 have HP:=Zrw.mk hp;obtain⟨A1,c1,A2,c2,rfl,_⟩:=hp;have HB:=Zrw.mk (Zab (Below.refl _ w) (.cells #[.int .i64 e.f0,.slice A1 e.f1.length c1,.slice A2 e.f2.length c2] 61));have HK:=Zrw.mk (Zaj w (.cells #[.int .i64 e.f0,.slice A1 e.f1.length c1,.slice A2 e.f2.length c2] 61));have HS:=Zrw.mk h;have HC:=Zrw.mk (Zhk (w.alloc (.cells #[.int .i64 e.f0,.slice A1 e.f1.length c1,.slice A2 e.f2.length c2] 61)) e _ h (HP.out.below HB.out));clear h
 go_enter Tryz.func92,Tryz.ntmps92
 go_wp2_with (first | (go_at_call 91;(with_reducible refine HC.out.mono ?_);rintro e w2 ⟨rfl,hb⟩;have HB2:=Zrw.mk hb;have b0:=(Zaa (Zaf HK.out hb) 0).trans rfl;have b1:=(Zaa (Zaf HK.out hb) 1).trans rfl;have b2:=(Zaa (Zaf HK.out hb) 2).trans rfl;clear hb) | (go_at_call 113;(with_reducible refine (empty_call _ e _ HS.out (HP.out.below (Zae HB.out HB2.out))).mono ?_);rintro e w3 ⟨rfl,hb⟩;have HB3:=Zrw.mk hb;clear hb))
 go_ret
 exact⟨rfl,Zae (Zae HB.out HB2.out) HB3.out⟩
def ownS:List ByteArray:=[⟨#[116,111,107]⟩,⟨#[114,117,108,101]⟩,⟨#[105,110,116]⟩,⟨#[99,97,108,108]⟩,⟨#[114,101,116]⟩,⟨#[102,114,101,101]⟩]
structure Own (w:World):Prop where
 read:Kd.string.C w (some ⟨0,0,none⟩) 6 ownS
theorem Own.below {w W:World}(h:Own w)(hb:Below w.heap.size w W):Own W:=⟨Kd.C_below h.read hb⟩
structure Let1 (s:ByteArray):Prop where
 one:∃b:UInt8,s=⟨#[b]⟩∧97≤b.toNat∧b.toNat≤122
 own:hasS ownS s=false
set_option maxHeartbeats 1000000 in
theorem name_call (s:ByteArray)(h:Let1 s)(w:World)(hw:Own w):Calls Tryz.prog 88 #[.string s] w fun e w'=>e=.returned (.bool true)∧Below w.heap.size w w':=by
 obtain⟨b,hs,h0,h1⟩:=h.one;have HO:=Zrw.mk h.own;have HW:=Zrw.mk hw;have hsz:s.size=1:=by rw[hs];rfl
 have t0:decide ((97:Int)≤((s[0]'(by omega)).toNat:Int))=true:=decide_eq_true (by subst hs;show (97:Int)≤(b.toNat:Int);omega);have t1:decide (((s[0]'(by omega)).toNat:Int)≤(122:Int))=true:=decide_eq_true (by subst hs;show (b.toNat:Int)≤122;omega);have HC:Zrw (Calls Tryz.prog 108 #[.slice (some ⟨0,0,none⟩) 6 6,.string s] w fun e w'=>e=.returned (.bool false)∧Drawn0 w w'):=⟨by have h5:=Zir (some ⟨0,0,none⟩) 6 ownS s w hw.read (by decide) (by decide);rw[h.own]at h5;exact h5⟩
 clear h hw hs h0 h1
 go_enter Tryz.func88,Tryz.ntmps88
 go_wp2
 refine wp_loop_rounds 2 ?_
 rw[rounds_succ];go_wp2
 rw[rounds_succ]
 go_wp2_with (go_at_call 108;(with_reducible refine HC.out.mono ?_);rintro e w1 ⟨rfl,hd⟩;have HD:=Zrw.mk hd;clear hd)
 go_ret
 obtain⟨n,rfl⟩:=HD.out.out;exact⟨rfl,Zag Zbr n⟩
def eqS (a b:ByteArray):Bool:=a.toList==b.toList
structure IsTok (l:List S70)(s:ByteArray)(k:Nat):Prop where
 lt:k<l.length
 hit:eqS (l.getD k z70).f0 s=true
 miss:∀j,j<k→eqS (l.getD j z70).f0 s=false
theorem closure114 (w W:World)(t:S70)(s:ByteArray)(gs:Nat)(v:Value)(hv:∃A4 c4 A5 c5,v=.agg #[.string t.f0,.int .i64 t.f1,.int .i64 t.f2,.int .i64 t.f3.f0,.slice A4 t.f3.f1.length c4,.slice A5 t.f3.f2.length c5])(hg:W.heap[gs]?=some (.cells #[.string s] 9 (0,0))) :
 Calls Tryz.prog 110 #[v,.pointer (some ⟨gs,0,none⟩)] W fun e w'=>e=.returned (.bool (eqS t.f0 s))∧Below W.heap.size W w':=by
 obtain⟨A4,c4,A5,c5,rfl⟩:=hv;have HB:=Zrw.mk (Zab (Below.refl _ W) (.cells #[.string t.f0,.int .i64 t.f1,.int .i64 t.f2,.int .i64 t.f3.f0,.slice A4 t.f3.f1.length c4,.slice A5 t.f3.f2.length c5] 64));have q:∀o,(W.alloc o).cell? ⟨gs,0,none⟩=some (.string s):=fun o=>(Zaa (Zai hg o) 0).trans rfl
 clear hg
 go_enter Tryz.func110,Tryz.ntmps110
 go_wp2
 go_ret
 exact⟨rfl,HB.out⟩
theorem eg114:∀args w,(callFunc 110 args).run Tryz.prog w=.ok (.enter 110 args) w:=enters_of Tryz.func110 (by kernel_rfl) rfl
set_option maxHeartbeats 2000000 in
theorem index113 (At:Option Addr)(ct:Nat)(l:List S70)(w:World)(h:k70.C w At l.length l)(s:ByteArray)(gs:Nat)(hg:w.heap[gs]?=some (.cells #[.string s] 9 (0,0)))(k:Nat)(hk:IsTok l s k)(hf:l.length≤1000) :
 Calls Tryz.prog 109 #[.slice At l.length ct,.func (.func 110) #[] #[.pointer (some ⟨gs,0,none⟩)]] w fun e w'=>e=.returned (.int .i64 k)∧Below w.heap.size w w':=by
 have HH:=Zrw.mk h;have HG:=Zrw.mk hg;have HK:=Zrw.mk hk;have HF:=Zrw.mk hf;have eg:=eg114;have hkl:=hk.lt;clear h hg hk hf
 go_enter Tryz.func109,Tryz.ntmps109
 go_wp2
 go_loopw [5,8] (fun _ s8 wr=>∃i:Nat,i≤k∧s8=.int .i64 i∧Zrw (Below w.heap.size w wr)) (fun _ i _=>k+1-(intOf i).toNat)
 case atStart=>exact⟨0,Nat.zero_le _,rfl,⟨Zbr⟩⟩
 case round=>
  obtain⟨i,hi,rfl,HB⟩:=hrel;have hil:i<l.length:=by omega
  obtain⟨ad,A4,c4,A5,c5,rfl,m0,m1,m2,m3,m4,m5,_⟩:=Zji HH.out (i:Int) (by omega) (by omega);rw[Int.toNat_natCast]at m0 m1 m2 m3 m4 m5;have m0:=Zad HB.out m0;have m1:=Zad HB.out m1;have m2:=Zad HB.out m2;have m3:=Zad HB.out m3;have m4:=Zad HB.out m4;have m5:=Zad HB.out m5;change wr.cell? _=some (.string (l.getD i z70).f0)at m0;change wr.cell? _=some (.int .i64 (l.getD i z70).f1)at m1;change wr.cell? _=some (.int .i64 (l.getD i z70).f2)at m2;change wr.cell? _=some (.int .i64 (l.getD i z70).f3.f0)at m3;change wr.cell? _=some (.slice A4 (l.getD i z70).f3.f1.length c4)at m4;change wr.cell? _=some (.slice A5 (l.getD i z70).f3.f2.length c5)at m5;obtain⟨t,ht⟩:∃t,t=l.getD i z70:=⟨_,rfl⟩
  rw[←ht]at m0 m1 m2 m3 m4 m5;have HC:=Zrw.mk (closure114 w wr t s gs _ ⟨A4,c4,A5,c5,rfl⟩ (Zaf HG.out HB.out));by_cases e:i=k
  ·subst e;have hit:eqS t.f0 s=true:=by rw[ht];exact HK.out.hit
   rw[hit]at HC;clear hit ht
   go_wp2_with (go_at_fn 110;refine HC.out.mono ?_;rintro e w1 ⟨rfl,hb⟩;have HB1:=Zrw.mk hb;clear hb)
   go_ret
   exact⟨rfl,Zae HB.out HB1.out⟩
  ·have hit:eqS t.f0 s=false:=by rw[ht];exact HK.out.miss i (by omega)
   rw[hit]at HC;clear hit ht
   go_wp2_with (go_at_fn 110;refine HC.out.mono ?_;rintro e w1 ⟨rfl,hb⟩;have HB1:=Zrw.mk hb;clear hb)
   go_roundw
   case rel=>
    have hf2:=HF.out;have hw:wrap64 ((i:Int)+1)=i+1:=(by unfold wrap64;omega)
    exact⟨i+1,by omega,by rw[hw];simp,⟨Zae HB.out HB1.out⟩⟩
   case measure=>have:=HF.out;have hw:wrap64 ((i:Int)+1)=i+1:=(by unfold wrap64;omega);rw[hw];simp only[intOf];omega
theorem Zpn (At Ar:Option Addr)(ct nr cr:Nat)(l:List S70)(w:World)(h:k70.C w At l.length l)(s:ByteArray)(k:Nat)(hk:IsTok l s k)(hf:l.length≤1000) :
 Calls Tryz.prog 89 #[.agg #[.slice At l.length ct,.slice Ar nr cr],.string s] w fun e w'=>e=.returned (.int .i64 k)∧Below w.heap.size w w':=by
 have hb1:=Zab (Below.refl _ w) (.cells #[.slice At l.length ct,.slice Ar nr cr] 26);have hb2:=Zab hb1 (.cells #[.string s] 9);have hx:=Zaj (w.alloc (.cells #[.slice At l.length ct,.slice Ar nr cr] 26)) (.cells #[.string s] 9);rw[show (w.alloc (.cells #[.slice At l.length ct,.slice Ar nr cr] 26)).heap.size=w.heap.size+1 by simp]at hx;have HB:=Zrw.mk hb2;have HC:=Zrw.mk (index113 At ct l _ (Kd.C_below h hb2) s (w.heap.size+1) hx k hk hf);have eg:=eg114;clear hb1 hb2 hx h hk hf
 go_enter Tryz.func89,Tryz.ntmps89
 go_wp2_with (go_at_call 109;(with_reducible refine HC.out.mono ?_);rintro e w1 ⟨rfl,hb⟩;have HB1:=Zrw.mk hb;clear hb)
 go_ret
 exact⟨rfl,Zae HB.out HB1.out⟩
end Go.Proofs.YtaokkliamoghbaaGreatDoor.PVpa
