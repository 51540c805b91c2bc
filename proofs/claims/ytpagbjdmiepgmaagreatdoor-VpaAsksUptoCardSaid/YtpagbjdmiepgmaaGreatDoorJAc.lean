/- Joined from texts of this seat, in their order. -/
import Derived.Test.YtpagbjdmiepgmaaGreatDoorJAb
import Derived.Shelf.Abstract
import Derived.Deep.RegionLaw
import Derived.Defers
import Derived.Recover
set_option linter.unusedVariables false
set_option linter.unusedSimpArgs false
set_option linter.unusedSectionVars false
set_option maxRecDepth 100000
namespace Go.Proofs.YtpagbjdmiepgmaaGreatDoor.PVpa
open Go.RowKit Go.Proofs.YtpagbjdmiepgmaaGreatDoorW.PrintWords Go.Proofs.YtpagbjdmiepgmaaGreatDoorW.PrintLast Go.Proofs.YtpagbjdmiepgmaaGreatDoorW.PrintMore
theorem add_block (ad:Addr)(n:Nat):(ad.add n).block=ad.block:=by unfold Addr.add;split <;> rfl
theorem Zmz (ad:Addr)(n:Nat):(ad.add n).off=ad.off+n:=by
 unfold Addr.add
 split
 ·omega
 ·rfl
theorem Zrf {w:World}{base:Nat}{e:TypeId}{sz g n cap j:Nat}{xs:List Value}(h:w.ownsRow base e sz (.slice (some ⟨g,0,none⟩) n cap) n xs)(hj:j<n*sz)(u:Value) :
 (w.setCell ⟨g,j,none⟩ u).ownsRow base e sz (.slice (some ⟨g,0,none⟩) n cap) n (xs.set j u):=by
 rcases h.2 with⟨e0,_⟩ | ⟨g',cap',cur,e0,hb,hg,hn,hm,hs,ht⟩
 ·cases e0
 ·injection e0 with e1 _ e3
  injection e1 with e1
  injection e1 with e1
  subst e1;subst e3;refine⟨by rw[List.length_set];exact h.1,.inr ⟨g,cap,cur.set! j u,rfl,hb,?_,hn,hm,by simpa using hs,?_⟩⟩
  ·rw[Zef hg j u];rfl
  ·rw[←ht];simp[List.take_set,Array.set!]
theorem Reps.set_ {α:Type}{R:α→List Value→Prop}{sz:Nat}{ps:List α}{cs:List Value}(h:Reps R sz ps cs){p f:Nat}(x:α){y:α}(hp:ps[p]?=some x)(hf:f<sz)(u:Value)
 (hR:∀c,c.length=sz→R x c→R y (c.set f u)):Reps R sz (ps.set p y) (cs.set (p*sz+f) u):=by
 have hpl:p<ps.length:=(List.getElem?_eq_some_iff.1 hp).1;refine⟨by rw[List.length_set,List.length_set];exact h.1,fun j q hq=>?_⟩;by_cases hjp:p=j
 ·subst hjp;rw[List.getElem?_set_self hpl]at hq;injection hq with hq
  subst hq;have h1:=h.2 p x hp;have hl:((cs.drop (p*sz)).take sz).length=sz:=by
   have h2:(p+1)*sz≤ps.length*sz:=Nat.mul_le_mul_right _ hpl;rw[Nat.add_mul]at h2;rw[List.length_take,List.length_drop,h.1];omega
  have h3:=hR _ hl h1;have e:((cs.set (p*sz+f) u).drop (p*sz)).take sz=((cs.drop (p*sz)).take sz).set f u:=by
   rw[List.drop_set,if_neg (by omega),List.take_set]
   congr 1
   omega
  rw[e];exact h3
 ·rw[List.getElem?_set_ne hjp]at hq;have h1:=h.2 j q hq;have e:((cs.set (p*sz+f) u).drop (j*sz)).take sz=(cs.drop (j*sz)).take sz:=by
   rcases Nat.lt_or_ge p j with hlt | hge
   ·have h2:(p+1)*sz≤j*sz:=Nat.mul_le_mul_right _ hlt;rw[Nat.add_mul]at h2;rw[List.drop_set,if_pos (by omega)]
   ·have hlt:j<p:=by omega
    have h2:(j+1)*sz≤p*sz:=Nat.mul_le_mul_right _ hlt;rw[Nat.add_mul]at h2;rw[List.drop_set,if_neg (by omega),List.take_set_of_le (by omega)]
  rw[e];exact h1
theorem VS.setField {w0:W0}{W:World}{gb:Nat}{h0 h1 vs vf:Value}{φ:Nat→Nat}{v:Value}{pl:List Pl}{sh:List (Nat × Sh)}(h:VS w0 W gb h0 h1 vs vf φ v pl sh){A:Option Addr}{c:Nat}(hv:v=.slice A pl.length c){ad:Addr}(hA:A=some ad)
 (p:Nat) (hp:p<pl.length) (f:Nat) (hf:f<9) (u:Value) (y:Pl) (hR:∀c,c.length=9→PlS φ w0 W (pl.getD p zPl) c→PlS φ w0 W y (c.set f u)) :
 VS w0 (W.setCell ⟨ad.block,ad.off+(p*9+f),none⟩ u) gb h0 h1 vs vf φ v (pl.set p y) sh∧KeptV W (W.setCell ⟨ad.block,ad.off+(p*9+f),none⟩ u) gb v:=by
 subst hv;subst hA;obtain⟨inner,ho,hr⟩:=h.row;have e0:ad=⟨ad.block,0,none⟩∧w0.heap.size≤ad.block:=by
  rcases ho.2 with⟨e0,_⟩ | ⟨g',cap',cur,e0,hb,_⟩
  ·cases e0
  ·injection e0 with e1 _ e3
   injection e1 with e1
   subst e1;exact⟨rfl,hb⟩
 obtain⟨e0,hle⟩:=e0;have hoff:ad.off=0:=by rw[e0]
 have hb0:(Value.slice (some ad) pl.length c).ownBlock=some ad.block:=rfl;rw[hoff,Nat.zero_add];have hk:KeptV W (W.setCell ⟨ad.block,p*9+f,none⟩ u) gb (.slice (some ad) pl.length c):=⟨by simp[World.setCell],fun i hi hn=>by
  rw[Below.heap_setCell W ⟨ad.block,p*9+f,none⟩ u i (fun he=>hn (.inr (by rw[hb0,he])))]⟩
 have hs:=h.same3 hk;refine⟨⟨h.ge,?_,?_,fun k s hk'=>(h.shapes k s hk').keep hs (fun cs hc=>(h.keep hk hc (by decide) (by decide)).trans hc.symm),Below.setCell h.bel (show w0.heap.size≤(⟨ad.block,p*9+f,none⟩:Addr).block from hle) _,fun k hk'=>h.new k (Nat.le_trans hk.1 hk')⟩,hk⟩
 ·rw[Below.heap_setCell W ⟨ad.block,p*9+f,none⟩ u gb (fun he=>Zcn ho h.blk (by decide) (by rw[hb0,←he]))];exact h.blk
 ·have hrow:(W.setCell ⟨ad.block,p*9+f,none⟩ u).ownsRow w0.heap.size 90 9 (.slice (some ad) pl.length c) pl.length (inner.set (p*9+f) u):=by
   rw[e0]at ho ⊢;exact Zrf ho (by have:=Nat.mul_le_mul_right 9 hp;omega) u
  refine⟨inner.set (p*9+f) u,by rw[List.length_set];exact hrow,?_⟩;have hp':pl[p]?=some (pl.getD p zPl):=by rw[List.getD_eq_getElem?_getD,List.getElem?_eq_getElem hp];rfl
  exact (Reps.set_ hr (pl.getD p zPl) hp' hf u hR).imp_ (fun _ _ hp=>hp.same hs)
theorem VS.setAt {w0:W0}{W:World}{gb:Nat}{h0 h1 vs vf:Value}{φ:Nat→Nat}{v:Value}{pl:List Pl}{sh:List (Nat × Sh)}(h:VS w0 W gb h0 h1 vs vf φ v pl sh){A:Option Addr}{c:Nat}(hv:v=.slice A pl.length c){ad:Addr}(hA:A=some ad)
 (p:Nat) (hp:p<pl.length) (f:Nat) (hf:f<9) (u:Value) (y:Pl) (hR:∀c,c.length=9→PlS φ w0 W (pl.getD p zPl) c→PlS φ w0 W y (c.set f u)) :
 VS w0 (W.setCell ⟨(ad.add (p*9)).block,(ad.add (p*9)).off+f,none⟩ u) gb h0 h1 vs vf φ v (pl.set p y) sh∧KeptV W (W.setCell ⟨(ad.add (p*9)).block,(ad.add (p*9)).off+f,none⟩ u) gb v:=by
 have:=h.setField hv hA p hp f hf u y hR;rw[←Nat.add_assoc]at this;rw[add_block,Zmz];exact this
theorem VS.at_ {w0:W0}{W:World}{gb:Nat}{h0 h1 vs vf:Value}{φ:Nat→Nat}{v:Value}{pl:List Pl}{sh:List (Nat × Sh)}(h:VS w0 W gb h0 h1 vs vf φ v pl sh){A:Option Addr}{c:Nat}(hv:v=.slice A pl.length c)(p:Nat)(hp:p<pl.length) :
 ∃ad cs,A=some ad∧PlS φ w0 W (pl.getD p zPl) cs∧(∀j u,cs[j]?=some u→W.cell? ⟨(ad.add (p*9)).block,(ad.add (p*9)).off+j,none⟩=some u)∧∀j,W.frozen? ⟨(ad.add (p*9)).block,(ad.add (p*9)).off+j,none⟩=false:=by
 subst hv;obtain⟨A',c',e0,_,hrd⟩:=h.row.reads;injection e0 with e1 _ e3
 subst e1;subst e3;obtain⟨ad,rfl,hcell⟩:=hrd.2.2 (by omega);have hp':pl[p]?=some (pl.getD p zPl):=by rw[List.getD_eq_getElem?_getD,List.getElem?_eq_getElem hp];rfl
 obtain⟨cs,hcl,hR,hc⟩:=hcell p _ hp';obtain⟨inner,ho,_⟩:=h.row;obtain⟨cells,hb⟩:=Zbs ho ad.block rfl;have h0:=hc 0;refine⟨ad,cs,rfl,hR,fun j u hj=>?_,fun j=>by rw[add_block];exact Zat hb _⟩;have e:(⟨(ad.add (p*9)).block,(ad.add (p*9)).off+j,none⟩:Addr)=ad.add (p*9+j):=by
  have hs:ad=⟨ad.block,0,none⟩:=by
   rcases ho.2 with⟨e0,_⟩ | ⟨g',cap',cur,e0,_⟩
   ·cases e0
   ·injection e0 with e1 _ e3
    injection e1 with e1
    rw[e1]
  rw[add_block,Zmz,hs];unfold Addr.add
  split
  ·rename_i hz
   rw[show p*9=0 by omega,show j=0 by omega]
  ·rw[Nat.add_assoc]
 rw[e];exact hc j u hj
theorem PlS.setFollow {φ:Nat→Nat}{w0:W0}{W:World}{x:Pl}{cs:List Value}(h:PlS φ w0 W x cs){u:Value}{l:List Int}(hu:Ri w0 W u l):PlS φ w0 W { x with follow:=l } (cs.set 7 u):=by
 obtain⟨A1,c1,A2,c2,A3,c3,v4,rfl,l1,g1,l2,g2,l3,g3,g4⟩:=h;exact⟨A1,c1,A2,c2,A3,c3,u,rfl,l1,g1,l2,g2,l3,g3,hu⟩
theorem PlS.setInner {φ:Nat→Nat}{w0:W0}{W:World}{x:Pl}{cs:List Value}(h:PlS φ w0 W x cs)(o:Option Nat):PlS φ w0 W { x with inner:=o } (cs.set 6 (ptr φ o)):=by
 obtain⟨A1,c1,A2,c2,A3,c3,v4,rfl,l1,g1,l2,g2,l3,g3,g4⟩:=h;exact⟨A1,c1,A2,c2,A3,c3,v4,rfl,l1,g1,l2,g2,l3,g3,g4⟩
def Ris (n:Nat)(l:List Int):Prop:=l.Pairwise (·<·)∧∀q∈l,0≤q∧q<n
theorem ris_len:∀(l:List Int) (lo n:Int),l.Pairwise (·<·)→(∀q∈l,lo≤q∧q<n)→l.length≤(n-lo).toNat
 | [],_,_,_,_=>Nat.zero_le _
 | x :: r,lo,n,hp,hq=>by
  have h1:=hq x (List.mem_cons_self);have hp':=List.pairwise_cons.1 hp;have h2:=ris_len r (x+1) n hp'.2 (fun q hm=>⟨by have:=hp'.1 q hm;omega,(hq q (List.mem_cons_of_mem _ hm)).2⟩);rw[List.length_cons];omega
theorem Ris.len {n:Nat}{l:List Int}(h:Ris n l):l.length≤n:=by
 have:=ris_len l 0 n h.1 h.2;omega
theorem Ris.mono {n m:Nat}{l:List Int}(h:Ris n l)(hm:n≤m):Ris m l:=⟨h.1,fun q hq=>by have:=h.2 q hq;omega⟩
theorem Ris.nil (n:Nat):Ris n []:=⟨.nil,fun _ h=>by cases h⟩
theorem Ris.one {n:Nat}{q:Int}(h0:0≤q)(h1:q<n):Ris n [q]:=⟨List.pairwise_singleton _ _,fun x hx=>by rw[List.mem_singleton]at hx;subst hx;exact⟨h0,h1⟩⟩
theorem mem_comp {l:List Int}{x:Int}(h:x∈Lib.compact l):x∈l:=by
 unfold Lib.compact Lib.compactUpTo at h;obtain⟨i,hi,rfl⟩:=List.mem_map.1 h;have hi':i<l.length:=List.mem_range.1 (List.mem_filter.1 hi).1;simp[getElem!_pos,hi']
theorem comp_lt {l:List Int}(h:l.Pairwise (·≤·)):(Lib.compact l).Pairwise (·<·):=by
 unfold Lib.compact Lib.compactUpTo;rw[List.pairwise_map];refine List.Pairwise.imp_of_mem ?_ ((List.pairwise_lt_range (n:=l.length)).filter _)
 intro i j hi hj hij;have hj1:j<l.length:=List.mem_range.1 (List.mem_filter.1 hj).1;have hj2:=(List.mem_filter.1 hj).2;have hle:=List.pairwise_iff_getElem.1 h;unfold Lib.keeps at hj2;have hk:=of_decide_eq_true hj2;have e1:l.toArray[j]! = l[j]:=by simp[getElem!_pos,hj1]
 have e2:l.toArray[j-1]! = l[j-1]'(by omega):=by simp[getElem!_pos,show j-1<l.length by omega]
 have e3:l.toArray[i]! = l[i]'(by omega):=by simp[getElem!_pos,show i<l.length by omega]
 rcases hk with hk | hk
 ·omega
 ·rw[e1,e2]at hk;rw[e1,e3];have a1:l[j-1]'(by omega)≤l[j]:=hle (j-1) j (by omega) hj1 (by omega);have a2:l[i]'(by omega)≤l[j-1]'(by omega):=by
   by_cases hh:i=j-1
   ·subst hh;exact Int.le_refl _
   ·exact hle i (j-1) (by omega) (by omega) (by omega)
  omega
theorem Zdy {a b:List Int}{x:Int}(h:x∈Zay a b):x∈a∨x∈b:=by
 have h1:=mem_comp h;unfold Zim at h1;rw[List.mem_mergeSort]at h1;exact List.mem_append.1 h1
theorem Zgm {n:Nat}{a b:List Int}(ha:∀q∈a,0≤q∧q<n)(hb:∀q∈b,0≤q∧q<n):Ris n (Zay a b):=by
 refine⟨comp_lt ?_,fun q hq=>(Zdy hq).elim (ha q) (hb q)⟩;unfold Zim;exact (List.pairwise_mergeSort (fun a b c h1 h2=>by simp at *;omega) (fun a b=>by simp;omega) _).imp (fun h=>by simpa using h)
def Zue:Nat→List Nat
 | 1=>[0]
 | 2=>[1]
 | 4=>[3]
 | 5=>[4]
 | 6=>[2,5]
 | _=>[]
def phiF (gx lo:Nat)(x:Int):Nat→List Value→World→Prop
 | 0,[v],_=>v=.pointer (some ⟨gx,0,none⟩)
 | 1,[v,_],_=>v=.int .i32 x
 | 2,[v,_],_=>v=.int .i64 x
 | 3,[v],_=>v=.pointer (some ⟨gx,1,none⟩)
 | 4,[v,_],_=>v=.int .i32 x
 | 5,[v,_],_=>v=.int .i64 (x+1)
 | 6,[v,_,_],_=>v=.agg #[.int .i64 x,.int .i64 (x+1)]
 | 7,[v],W=>∃g,v=.pointer (some ⟨g,0,none⟩)∧lo≤g∧W.heap[g]?=some (.cells #[.int .i64 0,.int .i64 0] 217 (0,0))
 | _,_,_=>True
theorem phiF_stab (gx lo:Nat)(x:Int):∀i vs w w',phiF gx lo x i vs w→Zca w w'→phiF gx lo x i vs w':=by
 intro i vs w w' h hb;unfold phiF at h ⊢
 split at h
 case h_8=>
  obtain⟨g,h1,h2,h3⟩:=h;exact⟨g,h1,h2,Zag h3 hb⟩
 all_goals exact h
set_option maxHeartbeats 4000000 in
theorem spans_call (A:Option Addr)(c:Nat)(l:List Int)(hl:Sgl l)(w:World)(hr:k72.C w A l.length (rgs l))(hc:l.length≤c) :
 Calls Tryz.prog 159 #[.slice A l.length c] w fun e w'=>∃v,e=.returned v∧Zgj.R 217 w' w.heap.size (fun _=>True) v l∧Below w.heap.size w w':=by
 have HR:=Zaa.mk hr;have HL:=Zaa.mk hl;clear hr
 go_enter Tryz.func159,Tryz.ntmps159
 go_wp2
 go_loopw [3,13] (fun s i wr=>∃(k:Nat),k≤l.length∧i=.int .i64 k∧Zaa (Zgj.R 217 wr w.heap.size (fun _=>True) s (l.take k))∧Zaa (Below w.heap.size w wr)) (fun _ i _=>l.length-(intOf i).toNat)
 case atStart=>exact⟨0,Nat.zero_le _,rfl,⟨Kd.R_nil _ _ _ _ _⟩,⟨Zbr⟩⟩
 case round=>
  obtain⟨k,hk,rfl,HS,HB⟩:=hrel;by_cases hkn:k<l.length
  ·obtain⟨ad,rfl,m0,m1⟩:=at_T72 HR.out (k:Int) (by omega) (by omega);have hx:=HL.out.at_ hkn;rw[rgs_at l k hkn]at m0 m1;rw[Int.toNat_natCast]at m0 m1;have m0:=Zab HB.out m0;have m1:=Zab HB.out m1;obtain⟨x,hxe⟩:∃x,x=rI l k:=⟨_,rfl⟩
   rw[←hxe]at m0 m1 hx;have HXE:=Zaa.mk hxe;have HX:=Zaa.mk hx;clear hxe hx;obtain⟨As,cs,hsl⟩:=Kd.R_slice HS.out;have HLT:Zaa ((l.take k).length≤2):=⟨by rw[List.length_take];exact Nat.le_trans (Nat.min_le_right _ _) HL.out.few⟩
   rw[List.length_take,Nat.min_eq_left hk]at hsl;subst hsl
   go_upto_region 5 with (fail)
   have HBX:=Zaa.mk (Zae (Below.refl _ wr) (.cells #[.int .i32 x,.int .i32 x] 72));have kX:=Zaq wr (.cells #[.int .i32 x,.int .i32 x] 72);have hwr:wr.heap.size<(wr.alloc (.cells #[.int .i32 x,.int .i32 x] 72)).heap.size:=Zbj kX;generalize wr.alloc (.cells #[.int .i32 x,.int .i32 x] 72)=X at *;obtain⟨gx,hgx⟩:∃gx,gx=wr.heap.size:=⟨_,rfl⟩
   rw[←hgx]at kX hwr ⊢;have a0:X.cell? ⟨gx,0,none⟩=some (.int .i32 x):=(Zac kX 0).trans rfl;have a1:X.cell? ⟨gx,1,none⟩=some (.int .i32 x):=(Zac kX 1).trans rfl;clear m0 m1 hgx;have kX':=Zaa.mk kX;refine Zbq 8 _ Zue (phiF gx X.heap.size x) Zca (by kernel_rfl) (by kernel_rfl) (by kernel_rfl) rfl Zbk Zbf (phiF_stab _ _ _) ?step ?fin
   case step=>
    repeat (rename_i z;clear z)
    refine⟨?_,?_,?_,?_,?_,?_,?_,?_,trivial⟩ <;> intro vals W hR0 hd <;> have hR:=Zaf (Zam (Below.refl _ X)) hR0
    ·refine Zad (W':=W) ?_ ⟨Zbr,rfl⟩
     clear hd;simp only[Zao,Zue,Zai];go_simp
    ·have h0:vals 0=.pointer (some ⟨gx,0,none⟩):=hd 0 (by simp[Zue]);have hc:W.cell? ⟨gx,0,none⟩=some (.int .i32 x):=(Zac (Zag kX hR) 0).trans rfl;refine Zad (W':=W) ?_ ⟨Zbr,rfl⟩
     clear hd;simp only[Zao,Zue,Zai,h0];go_simp
    ·have h1:vals 1=.int .i32 x:=hd 1 (by simp[Zue]);clear hd;refine Zbi (W':=W) (f:=161) (args:=#[.int .i32 x]) ?_ ((Zmc x HX.out.1 HX.out.2 W).mono ?_)
     ·simp only[Zao,Zue,Zai,h1];go_simp
     ·rintro e w1 ⟨rfl,rfl⟩;exact⟨_,rfl,Zbr,rfl⟩
    ·refine Zad (W':=W) ?_ ⟨Zbr,rfl⟩
     clear hd;simp only[Zao,Zue,Zai];go_simp
    ·have h3:vals 3=.pointer (some ⟨gx,1,none⟩):=hd 3 (by simp[Zue]);have hc:W.cell? ⟨gx,1,none⟩=some (.int .i32 x):=(Zac (Zag kX hR) 1).trans rfl;refine Zad (W':=W) ?_ ⟨Zbr,rfl⟩
     clear hd;simp only[Zao,Zue,Zai,h3];go_simp
    ·have h4:vals 4=.int .i32 x:=hd 4 (by simp[Zue]);clear hd;refine Zbi (W':=W) (f:=162) (args:=#[.int .i32 x]) ?_ ((Zuk x HX.out.1 HX.out.2 W).mono ?_)
     ·simp only[Zao,Zue,Zai,h4];go_simp
     ·rintro e w1 ⟨rfl,rfl⟩;exact⟨_,rfl,Zbr,rfl⟩
    ·have h2:vals 2=.int .i64 x:=hd 2 (by simp[Zue]);have h5:vals 5=.int .i64 (x+1):=hd 5 (by simp[Zue]);refine Zad (W':=W) ?_ ⟨Zbr,rfl⟩
     clear hd;simp only[Zao,Zue,Zai,h2,h5];go_simp
    ·clear hd;refine Zad (W':=W.alloc (.cells #[.int .i64 0,.int .i64 0] 217)) (v:=.pointer (some ⟨W.heap.size,0,none⟩)) ?_ ⟨Zae Zbr _,W.heap.size,rfl,hR.size,Zaq W _⟩
     simp only[Zao,Zue,Zai];go_simp
   case fin=>
    intro vals W hR0 hF;have hR:=Zaf (Zam (Below.refl _ X)) hR0;have f0:vals 0=.pointer (some ⟨gx,0,none⟩):=hF 0 (by decide);have f1:vals 1=.int .i32 x:=hF 1 (by decide);have f2:vals 2=.int .i64 x:=hF 2 (by decide);have f3:vals 3=.pointer (some ⟨gx,1,none⟩):=hF 3 (by decide);have f4:vals 4=.int .i32 x:=hF 4 (by decide);have f5:vals 5=.int .i64 (x+1):=hF 5 (by decide);have f6:vals 6=.agg #[.int .i64 x,.int .i64 (x+1)]:=hF 6 (by decide);have f7:∃g,(vals 7)=.pointer (some ⟨g,0,none⟩)∧X.heap.size≤g∧W.heap[g]?=some (.cells #[.int .i64 0,.int .i64 0] 217 (0,0)):=hF 7 (by decide);clear hF hR0;rw[show List.range 8=[0,1,2,3,4,5,6,7]from rfl];simp only[Zao,Zai,f0,f1,f2,f3,f4,f5,f6];obtain⟨gy,f7,hgy,kY⟩:=f7;simp only[f7];have kX:=Zag kX hR;have HBY:=Zaa.mk (Zaf HBX.out hR);have hne:gx≠gy:=by omega
    clear f0 f1 f2 f3 f4 f5 f6 f7 a0 a1;have c0:W.cell? ⟨gy,0,none⟩=some (.int .i64 0):=(Zac kY 0).trans rfl;have c1:W.cell? ⟨gy,1,none⟩=some (.int .i64 0):=(Zac kY 1).trans rfl;have z0:∀i,W.frozen? ⟨gy,i,none⟩=false:=fun i=>Zat kY i
    go_upto_region 6 with (fail)
    have HBZ:=Zaa.mk (Zds (j:=1) (v:=.int .i64 (x+1)) (Zds (j:=0) (v:=.int .i64 x) HBY.out (show wr.heap.size≤gy from Nat.le_trans HBX.out.size hgy)) (show wr.heap.size≤gy from Nat.le_trans HBX.out.size hgy));have kX2:=Zdv (Zdv kX (p:=⟨gy,0,none⟩) hne (.int .i64 x)) (p:=⟨gy,1,none⟩) hne (.int .i64 (x+1));have kY2:=Zcd (Zcd kY 0 (.int .i64 x) rfl) 1 (.int .i64 (x+1)) rfl;generalize (W.setCell ⟨gy,0,none⟩ (.int .i64 x)).setCell ⟨gy,1,none⟩ (.int .i64 (x+1))=Y at *;have a0:Y.cell? ⟨gx,0,none⟩=some (.int .i32 x):=(Zac kX2 0).trans rfl;have a1:Y.cell? ⟨gx,1,none⟩=some (.int .i32 x):=(Zac kX2 1).trans rfl;have a2:Y.cell? ⟨gy,0,none⟩=some (.int .i64 x):=(Zac kY2 0).trans rfl;have a3:Y.cell? ⟨gy,1,none⟩=some (.int .i64 (x+1)):=(Zac kY2 1).trans rfl;have t1:decide (x<x+1)=true:=decide_eq_true (by omega);have HSY:=Zaa.mk (Kd.R_below HS.out HBZ.out);have HBW:=Zaa.mk (Zaf HB.out HBZ.out);clear c0 c1 z0 kX kY kX2 kY2 hR hgy HBY
    go_wp2_with ((with_reducible refine Zas (b:=.append) (xs:=#[.tmp 36,.tmp 38]) rfl ?_);at_builtin;refine Kd.R_append Zgj (w0:=w) (W:=Y) w.heap.size rfl (.tmp 36) (.tmp 38) 214 217 (.agg #[.int .i64 0,.int .i64 0]) 16 rfl Tryz.underlying214 Ztz rfl (by decide) (by omega) _ (l.take k) x [.int .i64 x,.int .i64 (x+1)] (fun _=>True) (fun _=>False) rfl rfl ?aP (fun _ hk=>hk.elim) (fun _ _=>trivial) HSY.out HBW.out ?aS ?aL ?_;(case aP=>exact Zjm _ _ _ _);(case aS=>exact HBW.out.size);(case aL=>have:=HLT.out;simp only[List.length_take]at this ⊢;omega);intro v6 w6 ho6 hb6 hg6 hat6;have HO6:=Zaa.mk ho6;have HB6:=Zaa.mk hb6;clear ho6 hb6 hg6 hat6)
    go_roundw
    case rel=>
     have hf2:=HL.out.few;have hw:wrap64 ((k:Int)+1)=k+1:=(by unfold wrap64;omega)
     refine⟨k+1,by omega,by rw[hw];simp,⟨?_⟩,HB6⟩;have e:l.take (k+1)=l.take k++[x]:=by rw[List.take_add_one,List.getElem?_eq_getElem hkn,HXE.out];simp[rI,hkn]
     rw[e];exact HO6.out
    case measure=>have:=HL.out.few;have hw:wrap64 ((k:Int)+1)=k+1:=(by unfold wrap64;omega);rw[hw];simp only[intOf];omega
  ·obtain rfl:k=l.length:=by omega
   rw[List.take_length]at HS;obtain⟨As,cs,hs,hcs,hrs⟩:=Kd.R_reads HS.out;subst hs;have HCC:=Zaa.mk (sortS_call w wr (.slice As l.length cs) l HB.out HS.out (by have:=HL.out.few;omega) HL.out.gap)
   go_upto_region 10 with (go_at_call 163;(with_reducible refine HCC.out.mono ?_);rintro e w7 ⟨rfl,hs7,hb7⟩;have HS7:=Zaa.mk hs7;have HB7:=Zaa.mk hb7;clear hs7 hb7)
   obtain⟨_,_,hs,hz8,hrs⟩:=Kd.R_reads HS7.out;injection hs with hs1 hsx hs2
   subst hs1;subst hs2;clear hsx hz8;have HRS:=Zaa.mk hrs;clear HR HS HB HCC hrs;go_wp2
   go_loopw [7,45] (fun s i wr=>∃(k:Nat),k≤l.length∧i=.int .i64 k∧Zaa (Zgj.R 217 wr w7.heap.size (fun _=>True) s (l.take k))∧Zaa (Below w7.heap.size w7 wr)) (fun _ i _=>l.length-(intOf i).toNat)
   case atStart=>exact⟨0,Nat.zero_le _,rfl,⟨Kd.R_nil _ _ _ _ _⟩,⟨Zbr⟩⟩
   case round=>
    obtain⟨k,hk,rfl,HO,HB⟩:=hrel;by_cases hkn:k<l.length
    ·obtain⟨ad,cc,rfl,hz1,hK,hcell⟩:=Kd.C_get HRS.out 0 (k:Int) (by omega) (by omega);have hK2:=Zib hK;subst hK2;rw[Int.toNat_natCast]at hcell;obtain⟨x,hx⟩:∃x,x=rI l k:=⟨_,rfl⟩
     have m0:wr.cell? (ad.add (k*2))=some (.int .i64 x):=Zab HB.out (by have:=hcell 0 _ rfl;rw[hx];exact this);have m1:wr.cell? ⟨(ad.add (k*2)).block,(ad.add (k*2)).off+1,none⟩=some (.int .i64 (x+1)):=Zab HB.out (by have:=hcell 1 _ rfl;rw[hx,←Zbb _ _ 1 (by omega)];exact this);clear hcell hK hz1;have HXE:=Zaa.mk hx;clear hx;obtain⟨Ao,co,hso⟩:=Kd.R_slice HO.out;have hso2:=hso;rw[List.length_take,Nat.min_eq_left hk]at hso;subst hso;clear hso2;have HX:=Zaa.mk (HL.out.at_ hkn);have HLT:Zaa ((l.take k).length≤2):=⟨by rw[List.length_take];exact Nat.le_trans (Nat.min_le_right _ _) HL.out.few⟩
     rw[←HXE.out]at HX
     go_upto_region 14 with (fail)
     have HBX:=Zaa.mk (Zae (Below.refl _ wr) (.cells #[.int .i64 x,.int .i64 (x+1)] 217));have kX:=Zaq wr (.cells #[.int .i64 x,.int .i64 (x+1)] 217);generalize wr.alloc (.cells #[.int .i64 x,.int .i64 (x+1)] 217)=X at *;generalize wr.heap.size=gx at kX ⊢;have a0:X.cell? ⟨gx,0,none⟩=some (.int .i64 x):=(Zac kX 0).trans rfl;have a1:X.cell? ⟨gx,1,none⟩=some (.int .i64 (x+1)):=(Zac kX 1).trans rfl;clear m0 m1 kX;have HSX:=Zaa.mk (Kd.R_below HO.out HBX.out);have HBW:=Zaa.mk (Zaf HB.out HBX.out);clear HO HB HBX
     rcases Nat.eq_zero_or_pos k with h0 | hpos
     ·have t0:decide (0<(k:Int))=false:=decide_eq_false (by omega);have t1:decide (0<k)=false:=decide_eq_false (by omega);clear h0
      go_upto_region 15 with (fail)
      go_quiet (fail)
      have HZS:Zaa (Zgj.R 217 (X.drewN nq) w7.heap.size (fun _=>True) _ (l.take k)):=⟨HSX.out⟩
      have HZB:=Zaa.mk (Zah HBW.out nq);have z0:(X.drewN nq).cell? ⟨gx,0,none⟩=some (.int .i64 x):=a0;have z1:(X.drewN nq).cell? ⟨gx,1,none⟩=some (.int .i64 (x+1)):=a1;clear a0 a1 HSX HBW;generalize X.drewN nq=Z at *
      go_wp2_with ((with_reducible refine Zas (b:=.append) (xs:=#[.tmp 78,.tmp 80]) rfl ?_);at_builtin;refine Kd.R_append Zgj (w0:=w7) (W:=Z) w7.heap.size rfl (.tmp 78) (.tmp 80) 214 217 (.agg #[.int .i64 0,.int .i64 0]) 16 rfl Tryz.underlying214 Ztz rfl (by decide) (by omega) _ (l.take k) x [.int .i64 x,.int .i64 (x+1)] (fun _=>True) (fun _=>False) rfl rfl ?aP (fun _ hk=>hk.elim) (fun _ _=>trivial) HZS.out HZB.out ?aS ?aL ?_;(case aP=>exact Zjm _ _ _ _);(case aS=>exact HZB.out.size);(case aL=>have:=HLT.out;omega);intro v6 w6 ho6 hb6 hg6 hat6;have HO6:=Zaa.mk ho6;have HB6:=Zaa.mk hb6;clear ho6 hb6 hg6 hat6)
      go_roundw
      case rel=>
       have hf2:=HL.out.few;have hw:wrap64 ((k:Int)+1)=k+1:=(by unfold wrap64;omega)
       refine⟨k+1,by omega,by rw[hw];simp,⟨?_⟩,HB6⟩;have e:l.take (k+1)=l.take k++[x]:=by rw[List.take_add_one,List.getElem?_eq_getElem hkn,HXE.out];simp[rI,hkn]
       rw[e];exact HO6.out
      case measure=>have:=HL.out.few;have hw:wrap64 ((k:Int)+1)=k+1:=(by unfold wrap64;omega);rw[hw];simp only[intOf];omega
     ·have t0:decide (0<(k:Int))=true:=decide_eq_true (by omega);have t1:decide (0<k)=true:=decide_eq_true (by omega);obtain⟨_,_,hs,hz9,hrs⟩:=Kd.R_reads HSX.out;rw[List.length_take,Nat.min_eq_left hk]at hs hrs;injection hs with hs1 hsx hs2
      clear hsx;subst hs1;subst hs2;obtain⟨bd,cc,rfl,hzz,hK,hcell⟩:=Kd.C_get hrs 0 ((k-1:Nat):Int) (by omega) (by omega);have hK2:=Zib hK;subst hK2;have d1:X.cell? ⟨(bd.add ((k-1)*2)).block,(bd.add ((k-1)*2)).off+1,none⟩=some (.int .i64 (rI l (k-1)+1)):=by
       have:=hcell 1 _ rfl;rw[Int.toNat_natCast]at this;rw[←Zbb _ _ 1 (by omega)];have e:(l.take k).getD (k-1) 0=rI l (k-1):=by
        unfold rI;rw[List.getD_eq_getElem?_getD,List.getD_eq_getElem?_getD,List.getElem?_take,if_pos (by omega)]
       rw[e]at this;exact this
      have hgap:rI l (k-1)+1<x:=by
       have:=List.pairwise_iff_getElem.1 HL.out.gap (k-1) k (by omega) hkn (by omega);rw[HXE.out];unfold rI;rw[List.getD_eq_getElem?_getD,List.getD_eq_getElem?_getD,List.getElem?_eq_getElem hkn,List.getElem?_eq_getElem (show k-1<l.length by omega)];exact this
      clear hrs hcell hK hzz hz9;generalize rI l (k-1)=y at *;have t2:decide (x≤y+1)=false:=decide_eq_false (by omega);clear hgap;obtain rfl:k=1:=by have:=HL.out.few;omega
      rw[show (1-1)*2=0 by omega]at d1;have HKN:=Zaa.mk hkn;clear hkn hk hpos hcs hc hl HS7 HRS t0 t1;have d1:X.cell? ⟨bd.block,bd.off+1,none⟩=some (.int .i64 (y+1)):=by rw[←add_block bd 0,←(show (bd.add 0).off=bd.off from by rw[Zmz];rfl)];exact d1
      go_upto_region 15 with (fail)
      go_quiet (fail)
      have HZS:Zaa (Zgj.R 217 (X.drewN nq) w7.heap.size (fun _=>True) _ (l.take 1)):=⟨HSX.out⟩
      have HZB:=Zaa.mk (Zah HBW.out nq);have z0:(X.drewN nq).cell? ⟨gx,0,none⟩=some (.int .i64 x):=a0;have z1:(X.drewN nq).cell? ⟨gx,1,none⟩=some (.int .i64 (x+1)):=a1;clear a0 a1 HSX HBW;generalize X.drewN nq=Z at *
      go_wp2_with ((with_reducible refine Zas (b:=.append) (xs:=#[.tmp 78,.tmp 80]) rfl ?_);at_builtin;refine Kd.R_append Zgj (w0:=w7) (W:=Z) w7.heap.size rfl (.tmp 78) (.tmp 80) 214 217 (.agg #[.int .i64 0,.int .i64 0]) 16 rfl Tryz.underlying214 Ztz rfl (by decide) (by omega) _ (l.take 1) x [.int .i64 x,.int .i64 (x+1)] (fun _=>True) (fun _=>False) rfl rfl ?aP (fun _ hk=>hk.elim) (fun _ _=>trivial) HZS.out HZB.out ?aS ?aL ?_;(case aP=>exact Zjm _ _ _ _);(case aS=>exact HZB.out.size);(case aL=>have:=HLT.out;omega);intro v6 w6 ho6 hb6 hg6 hat6;have HO6:=Zaa.mk ho6;have HB6:=Zaa.mk hb6;clear ho6 hb6 hg6 hat6)
      go_roundw
      case rel=>
       have hf2:=HL.out.few;refine⟨1+1,by have:=HKN.out;omega,by go_num,⟨?_⟩,HB6⟩;have e:l.take (1+1)=l.take 1++[x]:=by rw[List.take_add_one,List.getElem?_eq_getElem HKN.out,HXE.out];simp[rI,HKN.out]
       rw[e];exact HO6.out
      case measure=>have:=HL.out.few;have:=HKN.out;simp[intOf];omega
    ·obtain rfl:k=l.length:=by omega
     rw[List.take_length]at HO;go_wp2
     go_ret
     exact⟨_,rfl,Kd.R_lower HO.out HB7.out.size,Zaf HB7.out HB.out⟩
theorem info72x:(Tryz.prog.info? 72).map (fun i=>(i.zero,i.size,i.bytes))=some (some (.agg #[.int .i32 0,.int .i32 0]),2,8):=by kernel_rfl
def Zpr:Nat→List Nat
 | 2=>[1]
 | 3=>[2]
 | 5=>[4]
 | 6=>[5]
 | 7=>[6]
 | 8=>[3,7]
 | 9=>[8]
 | _=>[]
def phiG (sv:Value)(gx lo:Nat)(x:Int):Nat→List Value→World→Prop
 | 0,[v],_=>v=sv
 | 1,[v],_=>v=.pointer (some ⟨gx,0,none⟩)
 | 2,[v,_],_=>v=.int .i64 x
 | 3,[v,_],_=>v=.int .i32 x
 | 4,[v],_=>v=.pointer (some ⟨gx,1,none⟩)
 | 5,[v,_],_=>v=.int .i64 (x+1)
 | 6,[v,_],_=>v=.int .i64 x
 | 7,[v,_],_=>v=.int .i32 x
 | 8,[v,_,_],_=>v=.agg #[.int .i32 x,.int .i32 x]
 | 9,[v,_],W=>∃g,v=.slice (some ⟨g,0,none⟩) 1 1∧lo≤g∧W.heap[g]?=some (.cells #[.int .i32 x,.int .i32 x] 72 (0,0))
 | _,_,_=>True
theorem phiG_stab (sv:Value)(gx lo:Nat)(x:Int):∀i vs w w',phiG sv gx lo x i vs w→Zca w w'→phiG sv gx lo x i vs w':=by
 intro i vs w w' h hb;unfold phiG at h ⊢
 split at h
 case h_10=>
  obtain⟨g,h1,h2,h3⟩:=h;exact⟨g,h1,h2,Zag h3 hb⟩
 all_goals exact h
theorem lit2_reads {α:Type}{Rr:α→List Value→Prop}{W:World}{g:Nat}{u1 u2:Value}{e:Nat}(h:W.heap[g]?=some (.cells #[u1,u2] e (0,0))){x:α}(hx:Rr x [u1,u2]):ReadsRow Rr 2 W (some ⟨g,0,none⟩) 1 [x]:=by
 refine⟨rfl,by omega,fun _=>⟨_,rfl,fun j p hj=>?_⟩⟩;cases j with
 | zero=>
  simp at hj;subst hj;refine⟨[u1,u2],rfl,hx,fun i v hv=>?_⟩;have e1:(⟨g,0,none⟩:Addr).add (0*2+i)=⟨g,i,none⟩:=by
   rcases i with _ | _ | i
   ·rfl
   ·rfl
   ·simp at hv
  rw[e1,Zac h i]
  rcases i with _ | _ | i
  ·simpa using hv
  ·simpa using hv
  ·simp at hv
 | succ j=>simp at hj
theorem rgs_take (l:List Int)(k:Nat)(x:Int)(hk:k<l.length)(hx:x=rI l k):rgs (l.take (k+1))=rgs (l.take k)++[⟨x,x⟩]:=by
 have e:l.take (k+1)=l.take k++[x]:=by rw[List.take_add_one,List.getElem?_eq_getElem hk,hx];simp[rI,hk]
 rw[e];simp[rgs]
theorem Zls (l:List Int):(rgs l).length=l.length:=by simp[rgs]
set_option maxHeartbeats 4000000 in
theorem Zsz (A:Option Addr)(c:Nat)(l:List Int)(hl:Sgl l)(w:World)(hr:Zgj.C w A l.length l) :
 Calls Tryz.prog 158 #[.slice A l.length c] w fun e w'=>∃v,e=.returned v∧k72.R 72 w' w.heap.size (fun _=>True) v (rgs l)∧Below w.heap.size w w':=by
 have HR:=Zaa.mk hr;have HL:=Zaa.mk hl;clear hr hl
 go_enter Tryz.func158,Tryz.ntmps158
 go_wp2
 go_loopw [3,8] (fun s i wr=>∃(k:Nat),k≤l.length∧i=.int .i64 k∧Zaa (k72.R 72 wr w.heap.size (fun _=>True) s (rgs (l.take k)))∧Zaa (Below w.heap.size w wr)) (fun _ i _=>l.length-(intOf i).toNat)
 case atStart=>exact⟨0,Nat.zero_le _,rfl,⟨Kd.R_nil _ _ _ _ _⟩,⟨Zbr⟩⟩
 case round=>
  obtain⟨k,hk,rfl,HS,HB⟩:=hrel;by_cases hkn:k<l.length
  ·obtain⟨ad,cc,rfl,hz1,hK,hcell⟩:=Kd.C_get HR.out 0 (k:Int) (by omega) (by omega);have hK2:=Zib hK;subst hK2;rw[Int.toNat_natCast]at hcell;obtain⟨x,hx⟩:∃x,x=rI l k:=⟨_,rfl⟩
   have m0:wr.cell? (ad.add (k*2))=some (.int .i64 x):=Zab HB.out (by have:=hcell 0 _ rfl;rw[hx];exact this);have m1:wr.cell? ⟨(ad.add (k*2)).block,(ad.add (k*2)).off+1,none⟩=some (.int .i64 (x+1)):=Zab HB.out (by have:=hcell 1 _ rfl;rw[hx,←Zbb _ _ 1 (by omega)];exact this);clear hcell hK hz1;have HXE:=Zaa.mk hx;clear hx;have HX:=Zaa.mk (HL.out.at_ hkn);rw[←HXE.out]at HX;have HLT:Zaa ((rgs (l.take k)).length≤2):=⟨by rw[Zls,List.length_take];exact Nat.le_trans (Nat.min_le_right _ _) HL.out.few⟩
   have HW:Zaa (wrap64 x=x):=⟨by have:=HX.out;unfold wrap64;omega⟩
   obtain⟨As,cs,hsl⟩:=Kd.R_slice HS.out;rw[Zls,List.length_take,Nat.min_eq_left hk]at hsl;subst hsl
   go_upto_region 5 with (fail)
   have HBX:=Zaa.mk (Zae (Below.refl _ wr) (.cells #[.int .i64 x,.int .i64 (x+1)] 217));have kX:=Zaq wr (.cells #[.int .i64 x,.int .i64 (x+1)] 217);generalize wr.alloc (.cells #[.int .i64 x,.int .i64 (x+1)] 217)=X at *;obtain⟨gx,hgx⟩:∃gx,gx=wr.heap.size:=⟨_,rfl⟩
   rw[←hgx]at kX ⊢;clear m0 m1 hgx;refine Zbq 10 _ Zpr (phiG (.slice As k cs) gx X.heap.size x) Zca (by kernel_rfl) (by kernel_rfl) (by kernel_rfl) rfl Zbk Zbf (phiG_stab _ _ _ _) ?step ?fin
   case step=>
    repeat (rename_i z;clear z)
    refine⟨?_,?_,?_,?_,?_,?_,?_,?_,?_,?_,trivial⟩ <;> intro vals W hR0 hd <;> have hR:=Zaf (Zam (Below.refl _ X)) hR0
    ·refine Zad (W':=W) ?_ ⟨Zbr,rfl⟩
     clear hd;simp only[Zao,Zpr,Zai];go_simp
    ·refine Zad (W':=W) ?_ ⟨Zbr,rfl⟩
     clear hd;simp only[Zao,Zpr,Zai];go_simp
    ·have h1:vals 1=.pointer (some ⟨gx,0,none⟩):=hd 1 (by simp[Zpr]);have hc:W.cell? ⟨gx,0,none⟩=some (.int .i64 x):=(Zac (Zag kX hR) 0).trans rfl;refine Zad (W':=W) ?_ ⟨Zbr,rfl⟩
     clear hd;simp only[Zao,Zpr,Zai,h1];go_simp
    ·have h2:vals 2=.int .i64 x:=hd 2 (by simp[Zpr]);clear hd;refine Zbi (W':=W) (f:=160) (args:=#[.int .i64 x]) ?_ ((Znr x HX.out.1 HX.out.2 W).mono ?_)
     ·simp only[Zao,Zpr,Zai,h2];go_simp
     ·rintro e w1 ⟨rfl,rfl⟩;exact⟨_,rfl,Zbr,rfl⟩
    ·refine Zad (W':=W) ?_ ⟨Zbr,rfl⟩
     clear hd;simp only[Zao,Zpr,Zai];go_simp
    ·have h4:vals 4=.pointer (some ⟨gx,1,none⟩):=hd 4 (by simp[Zpr]);have hc:W.cell? ⟨gx,1,none⟩=some (.int .i64 (x+1)):=(Zac (Zag kX hR) 1).trans rfl;refine Zad (W':=W) ?_ ⟨Zbr,rfl⟩
     clear hd;simp only[Zao,Zpr,Zai,h4];go_simp
    ·have h5:vals 5=.int .i64 (x+1):=hd 5 (by simp[Zpr]);have hw1:IntKind.i64.wrap x=x:=by rw[IntKind.wrap_i64];have:=HX.out;omega
     refine Zad (W':=W) ?_ ⟨Zbr,rfl⟩
     clear hd;simp only[Zao,Zpr,Zai,h5];go_simp
    ·have h6:vals 6=.int .i64 x:=hd 6 (by simp[Zpr]);clear hd;refine Zbi (W':=W) (f:=160) (args:=#[.int .i64 x]) ?_ ((Znr x HX.out.1 HX.out.2 W).mono ?_)
     ·simp only[Zao,Zpr,Zai,h6];go_simp
     ·rintro e w1 ⟨rfl,rfl⟩;exact⟨_,rfl,Zbr,rfl⟩
    ·have h3:vals 3=.int .i32 x:=hd 3 (by simp[Zpr]);have h7:vals 7=.int .i32 x:=hd 7 (by simp[Zpr]);refine Zad (W':=W) ?_ ⟨Zbr,rfl⟩
     clear hd;simp only[Zao,Zpr,Zai,h3,h7];go_simp
    ·have h8:vals 8=.agg #[.int .i32 x,.int .i32 x]:=hd 8 (by simp[Zpr]);clear hd;refine Zad (W':=W.alloc (.cells #[.int .i32 x,.int .i32 x] 72)) (v:=.slice (some ⟨W.heap.size,0,none⟩) 1 1) ?_ ⟨Zae Zbr _,W.heap.size,rfl,hR.size,Zaq W _⟩
     simp only[Zao,Zpr,Zai,h8];go_simp
   case fin=>
    intro vals W hR0 hF;have hR:=Zaf (Zam (Below.refl _ X)) hR0;have f0:vals 0=.slice As k cs:=hF 0 (by decide);have f1:vals 1=.pointer (some ⟨gx,0,none⟩):=hF 1 (by decide);have f2:vals 2=.int .i64 x:=hF 2 (by decide);have f3:vals 3=.int .i32 x:=hF 3 (by decide);have f4:vals 4=.pointer (some ⟨gx,1,none⟩):=hF 4 (by decide);have f5:vals 5=.int .i64 (x+1):=hF 5 (by decide);have f6:vals 6=.int .i64 x:=hF 6 (by decide);have f7:vals 7=.int .i32 x:=hF 7 (by decide);have f8:vals 8=.agg #[.int .i32 x,.int .i32 x]:=hF 8 (by decide);have f9:∃g,(vals 9)=.slice (some ⟨g,0,none⟩) 1 1∧X.heap.size≤g∧W.heap[g]?=some (.cells #[.int .i32 x,.int .i32 x] 72 (0,0)):=hF 9 (by decide);clear hF hR0;rw[show List.range 10=[0,1,2,3,4,5,6,7,8,9]from rfl];simp only[Zao,Zai,Act.put,List.getElem?_toArray,List.getElem?_cons_zero,List.getElem?_cons_succ,Option.bind_some,List.setIfInBounds_toArray,List.set_cons_zero,List.set_cons_succ,List.drop_succ_cons,List.drop_zero,f0,f1,f2,f3,f4,f5,f6,f7,f8];obtain⟨gy,f9,hgy,kY⟩:=f9;simp only[f9];have HBW:=Zaa.mk (Zaf HB.out (Zaf HBX.out hR));have HSW:=Zaa.mk (Kd.R_below HS.out (Zaf HBX.out hR));have HKY:=Zaa.mk kY;clear f0 f1 f2 f3 f4 f5 f6 f7 f8 f9 kX kY hR hgy;refine Kd.R_append_rows k72 (Rr:=fun y cs=>y=(⟨x,x⟩:S72)∧cs=[.int .i32 x,.int .i32 x]) (w0:=w) (W:=W) w.heap.size rfl (.tmp 12) (.tmp 21) 64 72 (.agg #[.int .i32 0,.int .i32 0]) 8 rfl Tryz.underlying64 info72x rfl (by decide) (by omega) _ (rgs (l.take k)) [⟨x,x⟩] _ 1 1 (fun _=>True) (fun _=>False) rfl rfl HSW.out (lit2_reads HKY.out ⟨rfl,rfl⟩) ?aP (fun _ hk=>hk.elim) (fun _ _=>trivial) HBW.out HBW.out.size ?aL ?_
    case aP=>rintro y cs ⟨rfl,rfl⟩;exact k72_mkM _ _ _ (⟨x,x⟩:S72)
    case aL=>have:=HLT.out;omega
    intro v6 w6 ho6 hb6 hg6 hat6;have HO6:=Zaa.mk ho6;have HB6:=Zaa.mk hb6;clear ho6 hb6 hg6 hat6;go_wp2
    go_roundw
    case rel=>
     have hf2:=HL.out.few;have hw:wrap64 ((k:Int)+1)=k+1:=(by unfold wrap64;omega)
     refine⟨k+1,by omega,by rw[hw];simp,⟨?_⟩,HB6⟩;rw[rgs_take l k x hkn HXE.out];exact HO6.out
    case measure=>have:=HL.out.few;have hw:wrap64 ((k:Int)+1)=k+1:=(by unfold wrap64;omega);rw[hw];simp only[intOf];omega
  ·obtain rfl:k=l.length:=by omega
   rw[List.take_length]at HS;go_wp2
   go_ret
   exact⟨_,rfl,HS.out,HB.out⟩
theorem norm_call (A:Option Addr)(c:Nat)(l:List Int)(hl:Sgl l)(w:World)(hr:k72.C w A l.length (rgs l))(hc:l.length≤c) :
 Calls Tryz.prog 154 #[.slice A l.length c] w fun e w'=>∃A' c',e=.returned (.slice A' l.length c')∧k72.C w' A' l.length (rgs l)∧Below w.heap.size w w':=by
 have HC:=Zaa.mk (spans_call A c l hl w hr hc);have HL:=Zaa.mk hl;clear hr hc hl
 go_enter Tryz.func154,Tryz.ntmps154
 go_wp2_with (first
  | (go_at_call 159;(with_reducible refine HC.out.mono ?_);rintro e w1 ⟨v,rfl,hv,hb⟩;obtain⟨A1,c1,rfl,_,hv2⟩:=Kd.R_reads hv;have HV:=Zaa.mk hv2;have HB:=Zaa.mk hb;clear hv hb hv2)
  | (go_at_call 158;(with_reducible refine (Zsz A1 c1 l HL.out _ HV.out).mono ?_);rintro e w2 ⟨v,rfl,hv,hb⟩;obtain⟨A2,c2,hs,_,hv2⟩:=Kd.R_reads hv;rw[Zls]at hs hv2;subst hs;have HV2:=Zaa.mk hv2;have HB2:=Zaa.mk hb;clear hv hb hv2))
 go_ret
 exact⟨_,_,rfl,HV2.out,Zaf HB.out HB2.out⟩
set_option maxHeartbeats 1000000 in
theorem equal_call (A1 A2:Option Addr)(c1 c2:Nat)(l:List Int)(hl:Sgl l)(w:World)(h1:k72.C w A1 l.length (rgs l))(h2:k72.C w A2 l.length (rgs l)) :
 Calls Tryz.prog 153 #[.slice A1 l.length c1,.slice A2 l.length c2] w fun e w'=>e=.returned (.bool true)∧Below w.heap.size w w':=by
 have H1:=Zaa.mk h1;have H2:=Zaa.mk h2;have HL:=Zaa.mk hl;clear h1 h2 hl
 go_enter Tryz.func153,Tryz.ntmps153
 go_wp2
 go_loopw [5,13] (fun _ i wr=>∃(k:Nat),k≤l.length∧i=.int .i64 k∧Zaa (Below w.heap.size w wr)) (fun _ i _=>l.length-(intOf i).toNat)
 case atStart=>exact⟨0,Nat.zero_le _,rfl,⟨Zbr⟩⟩
 case round=>
  obtain⟨k,hk,rfl,HB⟩:=hrel;by_cases hkn:k<l.length
  ·obtain⟨ad,rfl,m0,m1⟩:=at_T72 H1.out (k:Int) (by omega) (by omega);obtain⟨bd,rfl,n0,n1⟩:=at_T72 H2.out (k:Int) (by omega) (by omega);rw[rgs_at l k hkn]at m0 m1 n0 n1;rw[Int.toNat_natCast]at m0 m1 n0 n1;have m0:=Zab HB.out m0;have m1:=Zab HB.out m1;have n0:=Zab HB.out n0;have n1:=Zab HB.out n1;generalize rI l k=x at *;have HK:=Zaa.mk hk
   go_upto_region 6 with (fail)
   go_quiet (fail)
   go_wp2
   go_roundw
   case rel=>
    have hf2:=HL.out.few;have hw:wrap64 ((k:Int)+1)=k+1:=(by unfold wrap64;omega)
    exact⟨k+1,by omega,by rw[hw];simp,⟨Zah HB.out _⟩⟩
   case measure=>have:=HL.out.few;have hw:wrap64 ((k:Int)+1)=k+1:=(by unfold wrap64;omega);rw[hw];simp only[intOf];omega
  ·obtain rfl:k=l.length:=by omega
   go_wp2
   go_ret
   exact⟨rfl,HB.out⟩
theorem Zoz (A:Option Addr)(c:Nat)(l:List Int)(hl:Sgl l)(w:World)(hr:k72.C w A l.length (rgs l))(hc:l.length≤c) :
 Calls Tryz.prog 142 #[.slice A l.length c] w fun e w'=>e=.returned (.bool true)∧Below w.heap.size w w':=by
 have HC:=Zaa.mk (norm_call A c l hl w hr hc);have HR:=Zaa.mk hr;have HL:=Zaa.mk hl;clear hr hc hl
 go_enter Tryz.func142,Tryz.ntmps142
 go_wp2_with (first
  | (go_at_call 154;(with_reducible refine HC.out.mono ?_);rintro e w1 ⟨A1,c1,rfl,hv,hb⟩;have HV:=Zaa.mk hv;have HB:=Zaa.mk hb;clear hv hb)
  | (go_at_call 153;(with_reducible refine (equal_call A A1 c c1 l HL.out _ (Kd.C_below HR.out HB.out) HV.out).mono ?_);rintro e w2 ⟨rfl,hb⟩;have HB2:=Zaa.mk hb;clear hb))
 go_ret
 exact⟨rfl,Zaf HB.out HB2.out⟩
def At4 (W:World)(A:Option Addr)(j:Nat)(r:Value):Prop:=
 ∃ad v0 v1 v2 v3,A=some ad∧r=.agg #[v0,v1,v2,v3]∧W.cell? (ad.add (j*4))=some v0∧W.cell? ⟨(ad.add (j*4)).block,(ad.add (j*4)).off+1,none⟩=some v1
  ∧ W.cell? ⟨(ad.add (j*4)).block,(ad.add (j*4)).off+2,none⟩=some v2∧W.cell? ⟨(ad.add (j*4)).block,(ad.add (j*4)).off+3,none⟩=some v3
def At3 (W:World)(A:Option Addr)(j:Nat)(r:Value):Prop:=
 ∃ad v0 v1 v2,A=some ad∧r=.agg #[v0,v1,v2]∧W.cell? (ad.add (j*3))=some v0∧W.cell? ⟨(ad.add (j*3)).block,(ad.add (j*3)).off+1,none⟩=some v1
  ∧ W.cell? ⟨(ad.add (j*3)).block,(ad.add (j*3)).off+2,none⟩=some v2
set_option maxHeartbeats 4000000 in
theorem none155 (A:Option Addr)(n c g:Nat)(lb:Array Value)(I:Nat→World→Prop)(w:World)
 (eg:∀args w,(callFunc g args).run Tryz.prog w=.ok (.enter g args) w) (hn:n≤9223372036854775807)
 (hcall:∀j W,j<n→I j W→∃r,At4 W A j r∧Calls Tryz.prog g (#[r]++lb) W fun e w'=>e=.returned (.bool false)∧I (j+1) w') (h0:I 0 w) :
 Calls Tryz.prog 155 #[.slice A n c,.func (.func g) #[] lb] w fun e w'=>e=.returned (.int .i64 (-1))∧I n w':=by
 have HC:=Zaa.mk hcall;have H0:=Zaa.mk h0;clear hcall h0
 go_enter Tryz.func155,Tryz.ntmps155
 go_wp2
 go_loopw [5,8] (fun _ s8 wr=>∃k:Nat,k≤n∧s8=.int .i64 k∧Zaa (I k wr)) (fun _ i _=>n-(intOf i).toNat)
 case atStart=>exact⟨0,Nat.zero_le _,rfl,H0⟩
 case round=>
  obtain⟨k,hk,rfl,HI⟩:=hrel;by_cases hkn:k<n
  ·obtain⟨r,hr,hcc⟩:=HC.out k _ hkn HI.out;obtain⟨ad,v0,v1,v2,v3,rfl,er,m0,m1,m2,m3⟩:=hr;rw[er]at hcc;clear er
   go_wp2_with (go_at_fn g;refine hcc.mono ?_;rintro e w1 ⟨rfl,hi⟩;have HI1:=Zaa.mk hi;clear hi)
   go_roundw
   case rel=>exact⟨k+1,by omega,by go_num,HI1⟩
   case measure=>simp[intOf];omega
  ·obtain rfl:k=n:=by omega
   go_wp2
   go_ret
   exact⟨rfl,HI.out⟩
set_option maxHeartbeats 4000000 in
theorem none144 (A:Option Addr)(n c g:Nat)(lb:Array Value)(I:Nat→World→Prop)(w:World)
 (eg:∀args w,(callFunc g args).run Tryz.prog w=.ok (.enter g args) w) (hn:n≤9223372036854775807)
 (hcall:∀j W,j<n→I j W→∃r,At4 W A j r∧Calls Tryz.prog g (#[r]++lb) W fun e w'=>e=.returned (.bool false)∧I (j+1) w') (h0:I 0 w) :
 Calls Tryz.prog 144 #[.slice A n c,.func (.func g) #[] lb] w fun e w'=>e=.returned (.bool false)∧I n w':=by
 go_enter Tryz.func144,Tryz.ntmps144
 go_wp2_with (go_at_call 155;refine (none155 A n c g lb I _ eg hn hcall h0).mono ?_;rintro e w1 ⟨rfl,hi⟩;have HI1:=Zaa.mk hi;clear hi)
 go_ret
 exact⟨rfl,HI1.out⟩
set_option maxHeartbeats 4000000 in
theorem none152 (A:Option Addr)(n c g:Nat)(lb:Array Value)(I:Nat→World→Prop)(w:World)
 (eg:∀args w,(callFunc g args).run Tryz.prog w=.ok (.enter g args) w) (hn:n≤9223372036854775807)
 (hcall:∀j W,j<n→I j W→∃r,At3 W A j r∧Calls Tryz.prog g (#[r]++lb) W fun e w'=>e=.returned (.bool false)∧I (j+1) w') (h0:I 0 w) :
 Calls Tryz.prog 152 #[.slice A n c,.func (.func g) #[] lb] w fun e w'=>e=.returned (.int .i64 (-1))∧I n w':=by
 have HC:=Zaa.mk hcall;have H0:=Zaa.mk h0;clear hcall h0
 go_enter Tryz.func152,Tryz.ntmps152
 go_wp2
 go_loopw [5,8] (fun _ s8 wr=>∃k:Nat,k≤n∧s8=.int .i64 k∧Zaa (I k wr)) (fun _ i _=>n-(intOf i).toNat)
 case atStart=>exact⟨0,Nat.zero_le _,rfl,H0⟩
 case round=>
  obtain⟨k,hk,rfl,HI⟩:=hrel;by_cases hkn:k<n
  ·obtain⟨r,hr,hcc⟩:=HC.out k _ hkn HI.out;obtain⟨ad,v0,v1,v2,rfl,er,m0,m1,m2⟩:=hr;rw[er]at hcc;clear er
   go_wp2_with (go_at_fn g;refine hcc.mono ?_;rintro e w1 ⟨rfl,hi⟩;have HI1:=Zaa.mk hi;clear hi)
   go_roundw
   case rel=>exact⟨k+1,by omega,by go_num,HI1⟩
   case measure=>simp[intOf];omega
  ·obtain rfl:k=n:=by omega
   go_wp2
   go_ret
   exact⟨rfl,HI.out⟩
set_option maxHeartbeats 4000000 in
theorem Ztt (A:Option Addr)(n c g:Nat)(lb:Array Value)(I:Nat→World→Prop)(w:World)
 (eg:∀args w,(callFunc g args).run Tryz.prog w=.ok (.enter g args) w) (hn:n≤9223372036854775807)
 (hcall:∀j W,j<n→I j W→∃r,At3 W A j r∧Calls Tryz.prog g (#[r]++lb) W fun e w'=>e=.returned (.bool false)∧I (j+1) w') (h0:I 0 w) :
 Calls Tryz.prog 138 #[.slice A n c,.func (.func g) #[] lb] w fun e w'=>e=.returned (.bool false)∧I n w':=by
 go_enter Tryz.func138,Tryz.ntmps138
 go_wp2_with (go_at_call 152;refine (none152 A n c g lb I _ eg hn hcall h0).mono ?_;rintro e w1 ⟨rfl,hi⟩;have HI1:=Zaa.mk hi;clear hi)
 go_ret
 exact⟨rfl,HI1.out⟩
def Fit:Nat→S76→Nat→Prop
 | 0,_,_=>False
 | D+1,p,N=>∃ns:List Nat,ns.length=p.f3.length∧(∀j:Nat,j<p.f3.length→Fit D (p.f3.getD j z76) (ns.getD j 0))∧1+ns.sum≤N
def PatR (w:World)(p:S76)(v:Value):Prop:=
 ∃A1 c1 A2 c2 A3 c3,v=.agg #[.int .i64 p.f0,.slice A1 p.f1.length c1,.slice A2 p.f2.length c2,.slice A3 p.f3.length c3] ∧
  p.f1.length≤c1∧Kd.string.C w A1 p.f1.length p.f1∧p.f2.length≤c2∧Kd.string.C w A2 p.f2.length p.f2∧p.f3.length≤c3∧k76.C w A3 p.f3.length p.f3
theorem patR_at {w W:World}{A:Option Addr}{n:Nat}{l:List S76}(h:k76.C w A n l)(hb:Below w.heap.size w W)(j:Nat)(hj:j<n):∃r,At4 W A j r∧PatR w (l.getD j z76) r:=by
 obtain⟨ad,A1,c1,A2,c2,A3,c3,rfl,m0,m1,m2,m3,l1,h1,l2,h2,l3,h3⟩:=at_T76 h (j:Int) (by omega) (by omega);rw[Int.toNat_natCast]at m0 m1 m2 m3;exact⟨_,⟨ad,_,_,_,_,rfl,rfl,Zab hb m0,Zab hb m1,Zab hb m2,Zab hb m3⟩,⟨A1,c1,A2,c2,A3,c3,rfl,l1,h1,l2,h2,l3,h3⟩⟩
structure FewAt (w0 W:World)(gl gw:Nat)(L:Int):Prop where
 bel:Below w0.heap.size w0 W
 ge:w0.heap.size≤gl
 ne:gl≠gw
 left:W.heap[gl]?=some (.cells #[.int .i64 L] 3 (0,0))
 walk:W.heap[gw]?=some (.cells #[.func (.func 143) #[] #[.pointer (some ⟨gl,0,none⟩),.pointer (some ⟨gw,0,none⟩)]] 201 (0,0))
theorem FewAt.below {w0 W W':World}{gl gw:Nat}{L:Int}(h:FewAt w0 W gl gw L)(hb:Below W.heap.size W W'):FewAt w0 W' gl gw L:=
 ⟨Zaf h.bel hb,h.ge,h.ne,Zag h.left hb,Zag h.walk hb⟩
theorem FewAt.set {w0 W:World}{gl gw:Nat}{L:Int}(h:FewAt w0 W gl gw L)(L':Int):FewAt w0 (W.setCell ⟨gl,0,none⟩ (.int .i64 L')) gl gw L':=
 ⟨Zds h.bel h.ge,h.ge,h.ne,Zcd h.left 0 _ rfl,Zdv h.walk (fun e=>h.ne e.symm) _⟩
theorem kept_set (W:World)(g j:Nat)(v:Value):Kept W (W.setCell ⟨g,j,none⟩ v) (fun k=>k=g):=
 ⟨by simp[World.setCell],fun i _ hn=>Below.heap_setCell _ _ _ i (fun he=>hn he)⟩
theorem eg143:∀args w,(callFunc 143 args).run Tryz.prog w=.ok (.enter 143 args) w:=enters_of Tryz.func143 (by kernel_rfl) rfl
theorem eg145:∀args w,(callFunc 145 args).run Tryz.prog w=.ok (.enter 145 args) w:=enters_of Tryz.func145 (by kernel_rfl) rfl
def FewC (D:Nat):Prop:=∀(w0:World) (gl gw:Nat) (p:S76) (N:Nat) (W:World) (L deep:Int) (v:Value),Fit D p N→PatR w0 p v→FewAt w0 W gl gw L→N≤L→L≤60→1≤deep→deep+D≤13 →
 Calls Tryz.prog 143 #[v,.int .i64 deep,.pointer (some ⟨gl,0,none⟩),.pointer (some ⟨gw,0,none⟩)] W fun e w'=>e=.returned (.bool true)∧∃L':Int,L-N≤L'∧L'≤60∧FewAt w0 w' gl gw L'∧Kept W w' (fun k=>k=gl)
theorem few_in {D:Nat}(ih:FewC D)(w0:World)(gl gw gd:Nat)(p:S76)(N:Nat)(W:World)(L deep:Int)(r:Value)(hf:Fit D p N)(hp:PatR w0 p r)(h:FewAt w0 W gl gw L)(hL:N≤L)(hL6:L≤60)(hd:1≤deep)(hD:deep+1+D≤13)(hg:W.heap[gd]?=some (.cells #[.int .i64 deep] 3 (0,0)))(hne:gd≠gl) :
 Calls Tryz.prog 145 #[r,.pointer (some ⟨gw,0,none⟩),.pointer (some ⟨gd,0,none⟩)] W fun e w'=>e=.returned (.bool false)∧∃L':Int,L-N≤L'∧L'≤60∧FewAt w0 w' gl gw L'∧Kept W w' (fun k=>k=gl):=by
 obtain⟨A1,c1,A2,c2,A3,c3,rfl,hp2⟩:=hp;have hbx:=Zae (Below.refl _ W) (.cells #[.int .i64 p.f0,.slice A1 p.f1.length c1,.slice A2 p.f2.length c2,.slice A3 p.f3.length c3] 76);have HB:=Zaa.mk hbx;have HF:=Zaa.mk (h.below hbx);have q1:∀o,(W.alloc o).cell? ⟨gw,0,none⟩=some (.func (.func 143) #[] #[.pointer (some ⟨gl,0,none⟩),.pointer (some ⟨gw,0,none⟩)]):=fun o=>(Zac (Zan h.walk o) 0).trans rfl
 have q2:∀o,(W.alloc o).cell? ⟨gd,0,none⟩=some (.int .i64 deep):=fun o=>(Zac (Zan hg o) 0).trans rfl
 have hw:wrap64 (deep+1)=deep+1:=by unfold wrap64;omega
 have HC:=Zaa.mk (ih w0 gl gw p N _ L (deep+1) _ hf ⟨A1,c1,A2,c2,A3,c3,rfl,hp2⟩ HF.out hL hL6 (by omega) (by omega));have eg:=eg143;clear hbx h hp2 hg hf hL hL6 hd hD
 go_enter Tryz.func145,Tryz.ntmps145
 go_wp2_with (go_at_fn 143;refine HC.out.mono ?_;rintro e w1 ⟨rfl,L',h1,h2,h3,h4⟩;have HE:Zaa (L-N≤L'∧L'≤60∧FewAt w0 w1 gl gw L'∧Kept (W.alloc (.cells #[.int .i64 p.f0,.slice A1 p.f1.length c1,.slice A2 p.f2.length c2,.slice A3 p.f3.length c3] 76)) w1 (fun k=>k=gl)):=⟨⟨h1,h2,h3,h4⟩⟩;clear h1 h2 h3 h4)
 go_ret
 obtain⟨h1,h2,h3,h4⟩:=HE.out;exact⟨rfl,L',h1,h2,h3,(Kept.of_below HB.out _).then_ h4 (fun _ hk=>.inl hk)⟩
theorem sum_take (ns:List Nat)(j:Nat)(hj:j<ns.length):(ns.take (j+1)).sum=(ns.take j).sum+ns.getD j 0:=by
 rw[List.take_add_one,List.sum_append,List.getD_eq_getElem?_getD,List.getElem?_eq_getElem hj];simp
theorem Zgp (ns:List Nat)(j:Nat):(ns.take j).sum≤ns.sum:=by
 have h:(ns.take j++ns.drop j).sum=ns.sum:=by rw[List.take_append_drop]
 rw[List.sum_append]at h;omega
set_option maxHeartbeats 4000000 in
theorem few1:∀D,FewC D
 | 0=>fun _ _ _ _ _ _ _ _ _ hf=>hf.elim
 | D+1=>by
  intro w0 gl gw p N W L deep v hf hp h hL hL6 hd hD;have ih:=few1 D;obtain⟨ns,hns,hfit,hsum⟩:=hf;obtain⟨A1,c1,A2,c2,A3,c3,rfl,l1,r1,l2,r2,l3,r3⟩:=hp;have hb1:=Zae (Below.refl _ W) (.cells #[.int .i64 p.f0,.slice A1 p.f1.length c1,.slice A2 p.f2.length c2,.slice A3 p.f3.length c3] 76);have hb2:=Zae hb1 (.cells #[.int .i64 deep] 3);have hw:wrap64 (L-1)=L-1:=by unfold wrap64;omega
  have q1:∀o o',((W.alloc o).alloc o').cell? ⟨gl,0,none⟩=some (.int .i64 L):=fun o o'=>(Zac (Zan (Zan h.left o) o') 0).trans rfl
  have q2:∀o o',((W.alloc o).alloc o').frozen? ⟨gl,0,none⟩=false:=fun o o'=>Zat (Zan (Zan h.left o) o') 0
  have HF1:=Zaa.mk ((h.below hb2).set (L-1));have HK1:Zaa (Kept W (((W.alloc (.cells #[.int .i64 p.f0,.slice A1 p.f1.length c1,.slice A2 p.f2.length c2,.slice A3 p.f3.length c3] 76)).alloc (.cells #[.int .i64 deep] 3)).setCell ⟨gl,0,none⟩ (.int .i64 (L-1))) (fun k=>k=gl)):=⟨(Kept.of_below hb2 _).then_ (kept_set _ gl 0 _) (fun _ hk=>.inl hk)⟩
  have hgl:=Zbj h.left;have b1:((W.alloc (.cells #[.int .i64 p.f0,.slice A1 p.f1.length c1,.slice A2 p.f2.length c2,.slice A3 p.f3.length c3] 76)).alloc (.cells #[.int .i64 deep] 3)).heap[W.heap.size]?=some (.cells #[.int .i64 p.f0,.slice A1 p.f1.length c1,.slice A2 p.f2.length c2,.slice A3 p.f3.length c3] 76 (0,0)):=Zan (Zaq W _) _;have b2:((W.alloc (.cells #[.int .i64 p.f0,.slice A1 p.f1.length c1,.slice A2 p.f2.length c2,.slice A3 p.f3.length c3] 76)).alloc (.cells #[.int .i64 deep] 3)).heap[W.heap.size+1]?=some (.cells #[.int .i64 deep] 3 (0,0)):=by
   have z:=Zaq (W.alloc (.cells #[.int .i64 p.f0,.slice A1 p.f1.length c1,.slice A2 p.f2.length c2,.slice A3 p.f3.length c3] 76)) (.cells #[.int .i64 deep] 3);simpa using z
  have H1:=Zaa.mk (Zdv b1 (p:=⟨gl,0,none⟩) (by show W.heap.size≠gl;omega) (.int .i64 (L-1)));have H2:=Zaa.mk (Zdv b2 (p:=⟨gl,0,none⟩) (by show W.heap.size+1≠gl;omega) (.int .i64 (L-1)));have HGD:Zaa (W.heap.size+1≠gl):=⟨by omega⟩
  have HLT:Zaa (W.heap.size+1≥W.heap.size):=⟨by omega⟩
  have HNS:=Zaa.mk hns;have HFT:=Zaa.mk hfit;have HSM:=Zaa.mk hsum;have HR:=Zaa.mk r3;have HBL:=Zaa.mk h.bel;have HN:=Zaa.mk (And.intro hL (And.intro hL6 (And.intro hd hD)));have eg:=eg145;clear hb1 hb2 h b1 b2 hgl hns hfit hsum r1 r2 r3 l1 l2 hL hL6 hd hD
  go_enter Tryz.func143,Tryz.ntmps143
  go_upto_region 2 with (fail)
  generalize ((W.alloc (.cells #[.int .i64 p.f0,.slice A1 p.f1.length c1,.slice A2 p.f2.length c2,.slice A3 p.f3.length c3] 76)).alloc (.cells #[.int .i64 deep] 3)).setCell ⟨gl,0,none⟩ (.int .i64 (L-1))=X at *;obtain⟨gd,hgd⟩:∃gd,gd=W.heap.size+1:=⟨_,rfl⟩
  rw[←hgd]at H2 HGD HLT ⊢;have m0:X.cell? ⟨gl,0,none⟩=some (.int .i64 (L-1)):=(Zac HF1.out.left 0).trans rfl;have m1:X.cell? ⟨gd,0,none⟩=some (.int .i64 deep):=(Zac H2.out 0).trans rfl;have m2:X.cell? ⟨W.heap.size,3,none⟩=some (.slice A3 p.f3.length c3):=(Zac H1.out 3).trans rfl;have t1:decide (1≤L)=true:=decide_eq_true (by have:=HN.out;have:=HSM.out;omega);have t2:decide (deep≤12)=true:=decide_eq_true (by have:=HN.out;omega);clear hw q1 q2 hgd;have HC:Zaa (Calls Tryz.prog 144 #[.slice A3 p.f3.length c3,.func (.func 145) #[] #[.pointer (some ⟨gw,0,none⟩),.pointer (some ⟨gd,0,none⟩)]] X fun e w'=>e=.returned (.bool false)∧∃L':Int,L-1-(ns.take p.f3.length).sum≤L'∧L'≤60∧FewAt w0 w' gl gw L'∧Kept X w' (fun k=>k=gl)):=by
   refine⟨none144 A3 p.f3.length c3 145 _ (fun j w'=>∃L':Int,L-1-(ns.take j).sum≤L'∧L'≤60∧FewAt w0 w' gl gw L'∧Kept X w' (fun k=>k=gl)) X eg HR.out.2.1 (fun j W1 hj hI=>?_) ⟨L-1,by simp,by have:=HN.out;omega,HF1.out,Kept.refl _ _⟩⟩;obtain⟨L1,a1,a2,a3,a4⟩:=hI;obtain⟨r,hr1,hr2⟩:=patR_at HR.out a3.bel j hj;have hj2:j<ns.length:=by rw[HNS.out];exact hj
   have s1:=sum_take ns j hj2;have s2:=Zgp ns (j+1);have s3:=HSM.out;have s4:=HN.out;refine⟨r,hr1,(few_in ih w0 gl gw gd (p.f3.getD j z76) (ns.getD j 0) W1 L1 deep r (HFT.out j hj) hr2 a3 (by omega) a2 (by omega) (by omega) (Zij H2.out a4 HGD.out) HGD.out).mono ?_⟩;rintro e w' ⟨rfl,L2,b1,b2,b3,b4⟩;exact⟨rfl,L2,by omega,b2,b3,a4.then_ b4 (fun _ hk=>.inl hk)⟩
  clear eg
  go_wp2_with (go_at_call 144;refine HC.out.mono ?_;rintro e w1 ⟨rfl,he⟩;have HE:=Zaa.mk he;clear he)
  go_ret
  obtain⟨L',e1,e2,e3,e4⟩:=HE.out;refine⟨rfl,L',?_,e2,e3,HK1.out.then_ e4 (fun _ hk=>.inl hk)⟩;have s2:=Zgp ns p.f3.length;have s3:=HSM.out;omega
theorem few_call (w:World)(p:S76)(v:Value)(D N:Nat)(hf:Fit D p N)(hp:PatR w p v)(hN:N≤60)(hD:D≤12):Calls Tryz.prog 118 #[v] w fun e w'=>e=.returned (.bool true)∧Below w.heap.size w w':=by
 obtain⟨A1,c1,A2,c2,A3,c3,rfl,hp2⟩:=hp;have HP:=Zaa.mk hp2;have eg:=eg143;clear hp2;have hb1:=Zae (Below.refl _ w) (.cells #[.int .i64 p.f0,.slice A1 p.f1.length c1,.slice A2 p.f2.length c2,.slice A3 p.f3.length c3] 76);have hb2:=Zae hb1 (.cells #[.int .i64 60] 3);have hb3:=Zae hb2 (.cells #[.func (.func 143) #[] #[.pointer (some ⟨w.heap.size+1,0,none⟩),.pointer (some ⟨w.heap.size+1+1,0,none⟩)]] 201);have z1:=Zaq ((w.alloc (.cells #[.int .i64 p.f0,.slice A1 p.f1.length c1,.slice A2 p.f2.length c2,.slice A3 p.f3.length c3] 76)).alloc (.cells #[.int .i64 60] 3)) (.cells #[.func (.func 143) #[] #[.pointer (some ⟨w.heap.size+1,0,none⟩),.pointer (some ⟨w.heap.size+1+1,0,none⟩)]] 201);rw[show ((w.alloc (.cells #[.int .i64 p.f0,.slice A1 p.f1.length c1,.slice A2 p.f2.length c2,.slice A3 p.f3.length c3] 76)).alloc (.cells #[.int .i64 60] 3)).heap.size=w.heap.size+1+1 by simp]at z1;have z2:((w.alloc (.cells #[.int .i64 p.f0,.slice A1 p.f1.length c1,.slice A2 p.f2.length c2,.slice A3 p.f3.length c3] 76)).alloc (.cells #[.int .i64 60] 3)).heap[w.heap.size+1]?=some (.cells #[.int .i64 60] 3 (0,0)):=by
  have z:=Zaq (w.alloc (.cells #[.int .i64 p.f0,.slice A1 p.f1.length c1,.slice A2 p.f2.length c2,.slice A3 p.f3.length c3] 76)) (.cells #[.int .i64 60] 3);simpa using z
 have z3:=Zan (Zan (Zaq w (.cells #[.int .i64 p.f0,.slice A1 p.f1.length c1,.slice A2 p.f2.length c2,.slice A3 p.f3.length c3] 76)) (.cells #[.int .i64 60] 3)) (.cells #[.func (.func 143) #[] #[.pointer (some ⟨w.heap.size+1,0,none⟩),.pointer (some ⟨w.heap.size+1+1,0,none⟩)]] 201);have HX:Zaa (FewAt w (((w.alloc (.cells #[.int .i64 p.f0,.slice A1 p.f1.length c1,.slice A2 p.f2.length c2,.slice A3 p.f3.length c3] 76)).alloc (.cells #[.int .i64 60] 3)).alloc (.cells #[.func (.func 143) #[] #[.pointer (some ⟨w.heap.size+1,0,none⟩),.pointer (some ⟨w.heap.size+1+1,0,none⟩)]] 201)) (w.heap.size+1) (w.heap.size+1+1) 60):=
  ⟨⟨hb3,by omega,by omega,Zan z2 _,z1⟩⟩
 have HY:=Zaa.mk z3;have hsf:∀(a:Addr) (m:Mode) (fn:Fn) (first captured:Array Value) (w:World),(store a (.func fn first captured) m).run Tryz.prog w=stored Tryz.prog w a (.func fn first captured) m:=fun a m fn first captured w=>run_store Tryz.prog w a _ m rfl
 clear hb1 hb2 hb3 z1 z2 z3
 go_enter Tryz.func118,Tryz.ntmps118
 go_upto_region 4 with (fail)
 generalize ((w.alloc (.cells #[.int .i64 p.f0,.slice A1 p.f1.length c1,.slice A2 p.f2.length c2,.slice A3 p.f3.length c3] 76)).alloc (.cells #[.int .i64 60] 3)).alloc (.cells #[.func (.func 143) #[] #[.pointer (some ⟨w.heap.size+1,0,none⟩),.pointer (some ⟨w.heap.size+1+1,0,none⟩)]] 201)=X at *;have m0:X.cell? ⟨w.heap.size+1+1,0,none⟩=some (.func (.func 143) #[] #[.pointer (some ⟨w.heap.size+1,0,none⟩),.pointer (some ⟨w.heap.size+1+1,0,none⟩)]):=(Zac HX.out.walk 0).trans rfl;have m1:X.cell? ⟨w.heap.size,0,none⟩=some (.int .i64 p.f0):=(Zac HY.out 0).trans rfl;have m2:X.cell? ⟨w.heap.size,1,none⟩=some (.slice A1 p.f1.length c1):=(Zac HY.out 1).trans rfl;have m3:X.cell? ⟨w.heap.size,2,none⟩=some (.slice A2 p.f2.length c2):=(Zac HY.out 2).trans rfl;have m4:X.cell? ⟨w.heap.size,3,none⟩=some (.slice A3 p.f3.length c3):=(Zac HY.out 3).trans rfl;have HC:=Zaa.mk (few1 D w _ _ p N X 60 1 _ hf ⟨A1,c1,A2,c2,A3,c3,rfl,HP.out⟩ HX.out (by omega) (by omega) (by omega) (by omega));clear hf
 go_wp2_with (go_at_fn 143;refine HC.out.mono ?_;rintro e w1 ⟨rfl,L',_,_,hx,_⟩;have HE:=Zaa.mk hx;clear hx)
 go_ret
 exact⟨rfl,HE.out.bel⟩
def FitR:Nat→S67→Nat→Prop
 | 0,_,_=>False
 | D+1,p,N=>∃ns:List Nat,ns.length=p.f2.length∧(∀j:Nat,j<p.f2.length→FitR D (p.f2.getD j z67) (ns.getD j 0))∧1+ns.sum≤N
def ReR (w:World)(p:S67)(v:Value):Prop:=
 ∃A1 c1 A2 c2,v=.agg #[.int .i64 p.f0,.slice A1 p.f1.length c1,.slice A2 p.f2.length c2] ∧
  p.f1.length≤c1∧k72.C w A1 p.f1.length p.f1∧p.f2.length≤c2∧k67.C w A2 p.f2.length p.f2
theorem reR_at {w W:World}{A:Option Addr}{n:Nat}{l:List S67}(h:k67.C w A n l)(hb:Below w.heap.size w W)(j:Nat)(hj:j<n):∃r,At3 W A j r∧ReR w (l.getD j z67) r:=by
 obtain⟨ad,A1,c1,A2,c2,rfl,m0,m1,m2,l1,h1,l2,h2⟩:=at_T67 h (j:Int) (by omega) (by omega);rw[Int.toNat_natCast]at m0 m1 m2;exact⟨_,⟨ad,_,_,_,rfl,rfl,Zab hb m0,Zab hb m1,Zab hb m2⟩,⟨A1,c1,A2,c2,rfl,l1,h1,l2,h2⟩⟩
structure WinAt (w0 W:World)(gl gw:Nat)(L:Int):Prop where
 bel:Below w0.heap.size w0 W
 ge:w0.heap.size≤gl
 ne:gl≠gw
 left:W.heap[gl]?=some (.cells #[.int .i64 L] 3 (0,0))
 walk:W.heap[gw]?=some (.cells #[.func (.func 137) #[] #[.pointer (some ⟨gl,0,none⟩),.pointer (some ⟨gw,0,none⟩)]] 198 (0,0))
theorem WinAt.below {w0 W W':World}{gl gw:Nat}{L:Int}(h:WinAt w0 W gl gw L)(hb:Below W.heap.size W W'):WinAt w0 W' gl gw L:=
 ⟨Zaf h.bel hb,h.ge,h.ne,Zag h.left hb,Zag h.walk hb⟩
theorem WinAt.set {w0 W:World}{gl gw:Nat}{L:Int}(h:WinAt w0 W gl gw L)(L':Int):WinAt w0 (W.setCell ⟨gl,0,none⟩ (.int .i64 L')) gl gw L':=
 ⟨Zds h.bel h.ge,h.ge,h.ne,Zcd h.left 0 _ rfl,Zdv h.walk (fun e=>h.ne e.symm) _⟩
theorem eg137:∀args w,(callFunc 137 args).run Tryz.prog w=.ok (.enter 137 args) w:=enters_of Tryz.func137 (by kernel_rfl) rfl
theorem eg139:∀args w,(callFunc 139 args).run Tryz.prog w=.ok (.enter 139 args) w:=enters_of Tryz.func139 (by kernel_rfl) rfl
def WinC (D:Nat):Prop:=∀(w0:World) (gl gw:Nat) (p:S67) (N:Nat) (W:World) (L deep:Int) (v:Value),FitR D p N→ReR w0 p v→WinAt w0 W gl gw L→N≤L→L≤60→1≤deep→deep+D≤13 →
 Calls Tryz.prog 137 #[v,.int .i64 deep,.pointer (some ⟨gl,0,none⟩),.pointer (some ⟨gw,0,none⟩)] W fun e w'=>e=.returned (.bool true)∧∃L':Int,L-N≤L'∧L'≤60∧WinAt w0 w' gl gw L'∧Kept W w' (fun k=>k=gl)
theorem win_in {D:Nat}(ih:WinC D)(w0:World)(gl gw gd:Nat)(p:S67)(N:Nat)(W:World)(L deep:Int)(r:Value)(hf:FitR D p N)(hp:ReR w0 p r)(h:WinAt w0 W gl gw L)(hL:N≤L)(hL6:L≤60)(hd:1≤deep)(hD:deep+1+D≤13)(hg:W.heap[gd]?=some (.cells #[.int .i64 deep] 3 (0,0)))(hne:gd≠gl) :
 Calls Tryz.prog 139 #[r,.pointer (some ⟨gw,0,none⟩),.pointer (some ⟨gd,0,none⟩)] W fun e w'=>e=.returned (.bool false)∧∃L':Int,L-N≤L'∧L'≤60∧WinAt w0 w' gl gw L'∧Kept W w' (fun k=>k=gl):=by
 obtain⟨A1,c1,A2,c2,rfl,hp2⟩:=hp;have hbx:=Zae (Below.refl _ W) (.cells #[.int .i64 p.f0,.slice A1 p.f1.length c1,.slice A2 p.f2.length c2] 67);have HB:=Zaa.mk hbx;have HF:=Zaa.mk (h.below hbx);have q1:∀o,(W.alloc o).cell? ⟨gw,0,none⟩=some (.func (.func 137) #[] #[.pointer (some ⟨gl,0,none⟩),.pointer (some ⟨gw,0,none⟩)]):=fun o=>(Zac (Zan h.walk o) 0).trans rfl
 have q2:∀o,(W.alloc o).cell? ⟨gd,0,none⟩=some (.int .i64 deep):=fun o=>(Zac (Zan hg o) 0).trans rfl
 have hw:wrap64 (deep+1)=deep+1:=by unfold wrap64;omega
 have HC:=Zaa.mk (ih w0 gl gw p N _ L (deep+1) _ hf ⟨A1,c1,A2,c2,rfl,hp2⟩ HF.out hL hL6 (by omega) (by omega));have eg:=eg137;clear hbx h hp2 hg hf hL hL6 hd hD
 go_enter Tryz.func139,Tryz.ntmps139
 go_wp2_with (go_at_fn 137;refine HC.out.mono ?_;rintro e w1 ⟨rfl,L',h1,h2,h3,h4⟩;have HE:Zaa (L-N≤L'∧L'≤60∧WinAt w0 w1 gl gw L'∧Kept (W.alloc (.cells #[.int .i64 p.f0,.slice A1 p.f1.length c1,.slice A2 p.f2.length c2] 67)) w1 (fun k=>k=gl)):=⟨⟨h1,h2,h3,h4⟩⟩;clear h1 h2 h3 h4)
 go_ret
 obtain⟨h1,h2,h3,h4⟩:=HE.out;exact⟨rfl,L',h1,h2,h3,(Kept.of_below HB.out _).then_ h4 (fun _ hk=>.inl hk)⟩
set_option maxHeartbeats 4000000 in
theorem win1:∀D,WinC D
 | 0=>fun _ _ _ _ _ _ _ _ _ hf=>hf.elim
 | D+1=>by
  intro w0 gl gw p N W L deep v hf hp h hL hL6 hd hD;have ih:=win1 D;obtain⟨ns,hns,hfit,hsum⟩:=hf;obtain⟨A1,c1,A2,c2,rfl,l1,r1,l3,r3⟩:=hp;have hb1:=Zae (Below.refl _ W) (.cells #[.int .i64 p.f0,.slice A1 p.f1.length c1,.slice A2 p.f2.length c2] 67);have hb2:=Zae hb1 (.cells #[.int .i64 deep] 3);have hw:wrap64 (L-1)=L-1:=by unfold wrap64;omega
  have q1:∀o o',((W.alloc o).alloc o').cell? ⟨gl,0,none⟩=some (.int .i64 L):=fun o o'=>(Zac (Zan (Zan h.left o) o') 0).trans rfl
  have q2:∀o o',((W.alloc o).alloc o').frozen? ⟨gl,0,none⟩=false:=fun o o'=>Zat (Zan (Zan h.left o) o') 0
  have HF1:=Zaa.mk ((h.below hb2).set (L-1));have HK1:Zaa (Kept W (((W.alloc (.cells #[.int .i64 p.f0,.slice A1 p.f1.length c1,.slice A2 p.f2.length c2] 67)).alloc (.cells #[.int .i64 deep] 3)).setCell ⟨gl,0,none⟩ (.int .i64 (L-1))) (fun k=>k=gl)):=⟨(Kept.of_below hb2 _).then_ (kept_set _ gl 0 _) (fun _ hk=>.inl hk)⟩
  have hgl:=Zbj h.left;have b1:((W.alloc (.cells #[.int .i64 p.f0,.slice A1 p.f1.length c1,.slice A2 p.f2.length c2] 67)).alloc (.cells #[.int .i64 deep] 3)).heap[W.heap.size]?=some (.cells #[.int .i64 p.f0,.slice A1 p.f1.length c1,.slice A2 p.f2.length c2] 67 (0,0)):=Zan (Zaq W _) _;have b2:((W.alloc (.cells #[.int .i64 p.f0,.slice A1 p.f1.length c1,.slice A2 p.f2.length c2] 67)).alloc (.cells #[.int .i64 deep] 3)).heap[W.heap.size+1]?=some (.cells #[.int .i64 deep] 3 (0,0)):=by
   have z:=Zaq (W.alloc (.cells #[.int .i64 p.f0,.slice A1 p.f1.length c1,.slice A2 p.f2.length c2] 67)) (.cells #[.int .i64 deep] 3);simpa using z
  have H1:=Zaa.mk (Zdv b1 (p:=⟨gl,0,none⟩) (by show W.heap.size≠gl;omega) (.int .i64 (L-1)));have H2:=Zaa.mk (Zdv b2 (p:=⟨gl,0,none⟩) (by show W.heap.size+1≠gl;omega) (.int .i64 (L-1)));have HGD:Zaa (W.heap.size+1≠gl):=⟨by omega⟩
  have HLT:Zaa (W.heap.size+1≥W.heap.size):=⟨by omega⟩
  have HNS:=Zaa.mk hns;have HFT:=Zaa.mk hfit;have HSM:=Zaa.mk hsum;have HR:=Zaa.mk r3;have HBL:=Zaa.mk h.bel;have HN:=Zaa.mk (And.intro hL (And.intro hL6 (And.intro hd hD)));have eg:=eg139;clear hb1 hb2 h b1 b2 hgl hns hfit hsum r1 r3 l1 hL hL6 hd hD
  go_enter Tryz.func137,Tryz.ntmps137
  go_upto_region 2 with (fail)
  generalize ((W.alloc (.cells #[.int .i64 p.f0,.slice A1 p.f1.length c1,.slice A2 p.f2.length c2] 67)).alloc (.cells #[.int .i64 deep] 3)).setCell ⟨gl,0,none⟩ (.int .i64 (L-1))=X at *;obtain⟨gd,hgd⟩:∃gd,gd=W.heap.size+1:=⟨_,rfl⟩
  rw[←hgd]at H2 HGD HLT ⊢;have m0:X.cell? ⟨gl,0,none⟩=some (.int .i64 (L-1)):=(Zac HF1.out.left 0).trans rfl;have m1:X.cell? ⟨gd,0,none⟩=some (.int .i64 deep):=(Zac H2.out 0).trans rfl;have m2:X.cell? ⟨W.heap.size,2,none⟩=some (.slice A2 p.f2.length c2):=(Zac H1.out 2).trans rfl;have t1:decide (1≤L)=true:=decide_eq_true (by have:=HN.out;have:=HSM.out;omega);have t2:decide (deep≤12)=true:=decide_eq_true (by have:=HN.out;omega);clear hw q1 q2 hgd;have HC:Zaa (Calls Tryz.prog 138 #[.slice A2 p.f2.length c2,.func (.func 139) #[] #[.pointer (some ⟨gw,0,none⟩),.pointer (some ⟨gd,0,none⟩)]] X fun e w'=>e=.returned (.bool false)∧∃L':Int,L-1-(ns.take p.f2.length).sum≤L'∧L'≤60∧WinAt w0 w' gl gw L'∧Kept X w' (fun k=>k=gl)):=by
   refine⟨Ztt A2 p.f2.length c2 139 _ (fun j w'=>∃L':Int,L-1-(ns.take j).sum≤L'∧L'≤60∧WinAt w0 w' gl gw L'∧Kept X w' (fun k=>k=gl)) X eg HR.out.2.1 (fun j W1 hj hI=>?_) ⟨L-1,by simp,by have:=HN.out;omega,HF1.out,Kept.refl _ _⟩⟩;obtain⟨L1,a1,a2,a3,a4⟩:=hI;obtain⟨r,hr1,hr2⟩:=reR_at HR.out a3.bel j hj;have hj2:j<ns.length:=by rw[HNS.out];exact hj
   have s1:=sum_take ns j hj2;have s2:=Zgp ns (j+1);have s3:=HSM.out;have s4:=HN.out;refine⟨r,hr1,(win_in ih w0 gl gw gd (p.f2.getD j z67) (ns.getD j 0) W1 L1 deep r (HFT.out j hj) hr2 a3 (by omega) a2 (by omega) (by omega) (Zij H2.out a4 HGD.out) HGD.out).mono ?_⟩;rintro e w' ⟨rfl,L2,b1,b2,b3,b4⟩;exact⟨rfl,L2,by omega,b2,b3,a4.then_ b4 (fun _ hk=>.inl hk)⟩
  clear eg
  go_wp2_with (go_at_call 138;refine HC.out.mono ?_;rintro e w1 ⟨rfl,he⟩;have HE:=Zaa.mk he;clear he)
  go_ret
  obtain⟨L',e1,e2,e3,e4⟩:=HE.out;refine⟨rfl,L',?_,e2,e3,HK1.out.then_ e4 (fun _ hk=>.inl hk)⟩;have s2:=Zgp ns p.f2.length;have s3:=HSM.out;omega
theorem Zsm (w:World)(p:S67)(v:Value)(D N:Nat)(hf:FitR D p N)(hp:ReR w p v)(hN:N≤60)(hD:D≤12):Calls Tryz.prog 115 #[v] w fun e w'=>e=.returned (.bool true)∧Below w.heap.size w w':=by
 obtain⟨A1,c1,A2,c2,rfl,hp2⟩:=hp;have HP:=Zaa.mk hp2;have eg:=eg137;clear hp2;have hb1:=Zae (Below.refl _ w) (.cells #[.int .i64 p.f0,.slice A1 p.f1.length c1,.slice A2 p.f2.length c2] 67);have hb2:=Zae hb1 (.cells #[.int .i64 60] 3);have hb3:=Zae hb2 (.cells #[.func (.func 137) #[] #[.pointer (some ⟨w.heap.size+1,0,none⟩),.pointer (some ⟨w.heap.size+1+1,0,none⟩)]] 198);have z1:=Zaq ((w.alloc (.cells #[.int .i64 p.f0,.slice A1 p.f1.length c1,.slice A2 p.f2.length c2] 67)).alloc (.cells #[.int .i64 60] 3)) (.cells #[.func (.func 137) #[] #[.pointer (some ⟨w.heap.size+1,0,none⟩),.pointer (some ⟨w.heap.size+1+1,0,none⟩)]] 198);rw[show ((w.alloc (.cells #[.int .i64 p.f0,.slice A1 p.f1.length c1,.slice A2 p.f2.length c2] 67)).alloc (.cells #[.int .i64 60] 3)).heap.size=w.heap.size+1+1 by simp]at z1;have z2:((w.alloc (.cells #[.int .i64 p.f0,.slice A1 p.f1.length c1,.slice A2 p.f2.length c2] 67)).alloc (.cells #[.int .i64 60] 3)).heap[w.heap.size+1]?=some (.cells #[.int .i64 60] 3 (0,0)):=by
  have z:=Zaq (w.alloc (.cells #[.int .i64 p.f0,.slice A1 p.f1.length c1,.slice A2 p.f2.length c2] 67)) (.cells #[.int .i64 60] 3);simpa using z
 have z3:=Zan (Zan (Zaq w (.cells #[.int .i64 p.f0,.slice A1 p.f1.length c1,.slice A2 p.f2.length c2] 67)) (.cells #[.int .i64 60] 3)) (.cells #[.func (.func 137) #[] #[.pointer (some ⟨w.heap.size+1,0,none⟩),.pointer (some ⟨w.heap.size+1+1,0,none⟩)]] 198);have HX:Zaa (WinAt w (((w.alloc (.cells #[.int .i64 p.f0,.slice A1 p.f1.length c1,.slice A2 p.f2.length c2] 67)).alloc (.cells #[.int .i64 60] 3)).alloc (.cells #[.func (.func 137) #[] #[.pointer (some ⟨w.heap.size+1,0,none⟩),.pointer (some ⟨w.heap.size+1+1,0,none⟩)]] 198)) (w.heap.size+1) (w.heap.size+1+1) 60):=
  ⟨⟨hb3,by omega,by omega,Zan z2 _,z1⟩⟩
 have HY:=Zaa.mk z3;have hsf:∀(a:Addr) (m:Mode) (fn:Fn) (first captured:Array Value) (w:World),(store a (.func fn first captured) m).run Tryz.prog w=stored Tryz.prog w a (.func fn first captured) m:=fun a m fn first captured w=>run_store Tryz.prog w a _ m rfl
 clear hb1 hb2 hb3 z1 z2 z3
 go_enter Tryz.func115,Tryz.ntmps115
 go_upto_region 4 with (fail)
 generalize ((w.alloc (.cells #[.int .i64 p.f0,.slice A1 p.f1.length c1,.slice A2 p.f2.length c2] 67)).alloc (.cells #[.int .i64 60] 3)).alloc (.cells #[.func (.func 137) #[] #[.pointer (some ⟨w.heap.size+1,0,none⟩),.pointer (some ⟨w.heap.size+1+1,0,none⟩)]] 198)=X at *;have m0:X.cell? ⟨w.heap.size+1+1,0,none⟩=some (.func (.func 137) #[] #[.pointer (some ⟨w.heap.size+1,0,none⟩),.pointer (some ⟨w.heap.size+1+1,0,none⟩)]):=(Zac HX.out.walk 0).trans rfl;have m1:X.cell? ⟨w.heap.size,0,none⟩=some (.int .i64 p.f0):=(Zac HY.out 0).trans rfl;have m2:X.cell? ⟨w.heap.size,1,none⟩=some (.slice A1 p.f1.length c1):=(Zac HY.out 1).trans rfl;have m3:X.cell? ⟨w.heap.size,2,none⟩=some (.slice A2 p.f2.length c2):=(Zac HY.out 2).trans rfl;have HC:=Zaa.mk (win1 D w _ _ p N X 60 1 _ hf ⟨A1,c1,A2,c2,rfl,HP.out⟩ HX.out (by omega) (by omega) (by omega) (by omega));clear hf
 go_wp2_with (go_at_fn 137;refine HC.out.mono ?_;rintro e w1 ⟨rfl,L',_,_,hx,_⟩;have HE:=Zaa.mk hx;clear hx)
 go_ret
 exact⟨rfl,HE.out.bel⟩
def ReSet (e:S67):Prop:=e.f0=2∧e.f2=[]∧∃l,e.f1=rgs l∧Sgl l∧1≤l.length
def ReSeq (e:S67):Prop:=e.f0=3∧e.f1=[]∧∃a b,e.f2=[a,b]∧ReSet a∧ReSet b
def ReOk (e:S67):Prop:=ReSet e∨ReSeq e
theorem ReSet.fit {e:S67}(h:ReSet e)(D:Nat):FitR (D+1) e 1:=⟨[],by rw[h.2.1];rfl,(fun j hj=>by rw[h.2.1]at hj;exact absurd hj (Nat.not_lt_zero _)),by simp⟩
theorem ReOk.fit {e:S67}(h:ReOk e):FitR 2 e 3:=by
 rcases h with h | ⟨_,_,a,b,e2,ha,hb⟩
 ·exact⟨[],by rw[h.2.1];rfl,(fun j hj=>by rw[h.2.1]at hj;exact absurd hj (Nat.not_lt_zero _)),by simp⟩
 ·refine⟨[1,1],by rw[e2];rfl,fun j hj=>?_,by simp⟩;rw[e2]at hj ⊢
  rcases j with _ | _ | j
  ·exact ha.fit 0
  ·exact hb.fit 0
  ·have:j+1+1<2:=hj;omega
theorem ReR.below {w W:World}{e:S67}{v:Value}(h:ReR w e v)(hb:Below w.heap.size w W):ReR W e v:=by
 obtain⟨A1,c1,A2,c2,rfl,l1,r1,l2,r2⟩:=h;exact⟨A1,c1,A2,c2,rfl,l1,Kd.C_below r1 hb,l2,Kd.C_below r2 hb⟩
theorem parts2 (w:World):Calls Tryz.prog 140 #[.int .i64 2] w fun e w'=>e=.returned (.int .i64 0)∧w'=w:=by
 go_enter Tryz.func140,Tryz.ntmps140
 go_wp2
 go_ret
 exact⟨rfl,rfl⟩
theorem parts3 (w:World):Calls Tryz.prog 140 #[.int .i64 3] w fun e w'=>e=.returned (.int .i64 2)∧w'=w:=by
 go_enter Tryz.func140,Tryz.ntmps140
 go_wp2
 go_ret
 exact⟨rfl,rfl⟩
theorem Zts (A:Option Addr)(c g:Nat)(lb:Array Value)(w:World)(eg:∀args w,(callFunc g args).run Tryz.prog w=.ok (.enter g args) w) :
 Calls Tryz.prog 138 #[.slice A 0 c,.func (.func g) #[] lb] w fun e w'=>e=.returned (.bool false)∧Below w.heap.size w w':=
 (Ztt A 0 c g lb (fun _ W=>Below w.heap.size w W) w eg (by omega) (fun j W hj _=>by omega) Zbr)
theorem eg141:∀args w,(callFunc 141 args).run Tryz.prog w=.ok (.enter 141 args) w:=enters_of Tryz.func141 (by kernel_rfl) rfl
set_option maxHeartbeats 2000000 in
theorem Zmf (w:World)(e:S67)(v:Value)(h:ReSet e)(hp:ReR w e v):Calls Tryz.prog 116 #[v] w fun e w'=>e=.returned (.bool true)∧Below w.heap.size w w':=by
 obtain⟨A1,c1,A2,c2,rfl,l1,r1,l2,r2⟩:=hp;obtain⟨e0,e2,l,e1,hl,hn⟩:=h;rw[e1,Zls]at l1 r1;rw[e0,e1,e2,Zls];have HB:=Zaa.mk (Zae (Below.refl _ w) (.cells #[.int .i64 2,.slice A1 l.length c1,.slice A2 0 c2] 67));have hk:=Zaq w (.cells #[.int .i64 2,.slice A1 l.length c1,.slice A2 0 c2] 67);have HR:=Zaa.mk r1;have HL1:=Zaa.mk l1;have HL:=Zaa.mk hl;have HK:=Zaa.mk hk;have t1:decide (1≤(l.length:Int))=true:=decide_eq_true (by omega);have t2:decide ((l.length:Int)≤20)=true:=decide_eq_true (by have:=hl.few;omega);clear r1 r2 l1 l2 e0 e1 e2 hk hl hn
 go_enter Tryz.func116,Tryz.ntmps116
 go_upto_region 1 with (fail)
 generalize w.alloc (.cells #[.int .i64 2,.slice A1 l.length c1,.slice A2 0 c2] 67)=X at *;generalize w.heap.size=g at HK ⊢;have a0:X.cell? ⟨g,0,none⟩=some (.int .i64 2):=(Zac HK.out 0).trans rfl;have a1:X.cell? ⟨g,1,none⟩=some (.slice A1 l.length c1):=(Zac HK.out 1).trans rfl;have a2:X.cell? ⟨g,2,none⟩=some (.slice A2 0 c2):=(Zac HK.out 2).trans rfl;have eg:=eg141
 go_region_law (first | (go_simp;go_at_call 140;(with_reducible refine (parts2 _).mono ?_);rintro e w1 ⟨rfl,rfl⟩) | (go_simp;go_at_call 138;(refine (Zts A2 c2 141 #[] _ eg).mono ?_);rintro e w1 ⟨rfl,hb⟩;have HB1:=Zaa.mk (Zaf (Zah (Below.refl _ X) 1) hb);clear hb) | fail)
 all_goals (
  have b0:=(Zac (Zag HK.out HB1.out) 0).trans rfl;have b1:=(Zac (Zag HK.out HB1.out) 1).trans rfl;clear a0 a1 a2 eg
  go_wp2_with (go_at_call 142;(with_reducible refine (Zoz A1 c1 l HL.out _ (Kd.C_below HR.out (Zaf HB.out HB1.out)) HL1.out).mono ?_);rintro e w2 ⟨rfl,hb⟩;have HB2:=Zaa.mk hb;clear hb)
  go_ret
  exact⟨rfl,Zaf (Zaf HB.out HB1.out) HB2.out⟩)
theorem may1_call (w W:World)(e:S67)(v:Value)(h:ReSet e)(hp:ReR w e v)(hb:Below w.heap.size w W):Calls Tryz.prog 141 #[v] W fun e w'=>e=.returned (.bool false)∧Below w.heap.size w w':=by
 have HP:=Zaa.mk hp;obtain⟨A1,c1,A2,c2,rfl,_⟩:=hp;have HB:=Zaa.mk (Zaf hb (Zae (Below.refl _ W) (.cells #[.int .i64 e.f0,.slice A1 e.f1.length c1,.slice A2 e.f2.length c2] 67)));have HS:=Zaa.mk h;clear h hb
 go_enter Tryz.func141,Tryz.ntmps141
 go_wp2_with (go_at_call 116;(with_reducible refine (Zmf _ e _ HS.out (HP.out.below HB.out)).mono ?_);rintro e w2 ⟨rfl,hb⟩;have HB2:=Zaa.mk hb;clear hb)
 go_ret
 exact⟨rfl,Zaf HB.out HB2.out⟩
set_option maxHeartbeats 2000000 in
theorem Ztv (w:World)(e:S67)(v:Value)(h:ReSeq e)(hp:ReR w e v):Calls Tryz.prog 116 #[v] w fun e w'=>e=.returned (.bool true)∧Below w.heap.size w w':=by
 obtain⟨A1,c1,A2,c2,rfl,l1,r1,l2,r2⟩:=hp;obtain⟨e0,e1,a,b,e2,ha,hb⟩:=h;rw[e2]at l2 r2;rw[e0,e1,e2];have l2:2≤c2:=l2;have r2:k67.C w A2 2 [a,b]:=r2;show Calls Tryz.prog 116 #[.agg #[.int .i64 3,.slice A1 0 c1,.slice A2 2 c2]] w _;have HB:=Zaa.mk (Zae (Below.refl _ w) (.cells #[.int .i64 3,.slice A1 0 c1,.slice A2 2 c2] 67));have hk:=Zaq w (.cells #[.int .i64 3,.slice A1 0 c1,.slice A2 2 c2] 67);have HR:=Zaa.mk r2;have HK:=Zaa.mk hk;have HA:=Zaa.mk ha;have HBB:=Zaa.mk hb;clear r1 r2 l1 l2 e0 e1 e2 hk ha hb
 go_enter Tryz.func116,Tryz.ntmps116
 go_upto_region 1 with (fail)
 generalize w.alloc (.cells #[.int .i64 3,.slice A1 0 c1,.slice A2 2 c2] 67)=X at *;generalize w.heap.size=g at HK ⊢;have a0:X.cell? ⟨g,0,none⟩=some (.int .i64 3):=(Zac HK.out 0).trans rfl;have a1:X.cell? ⟨g,1,none⟩=some (.slice A1 0 c1):=(Zac HK.out 1).trans rfl;have a2:X.cell? ⟨g,2,none⟩=some (.slice A2 2 c2):=(Zac HK.out 2).trans rfl;have HC:Zaa (∀W,Below X.heap.size X W→Calls Tryz.prog 138 #[.slice A2 2 c2,.func (.func 141) #[] #[]] W fun e w'=>e=.returned (.bool false)∧Below X.heap.size X w'):=
  ⟨fun W hW=>Ztt A2 2 c2 141 #[] (fun _ W=>Below X.heap.size X W) W eg141 (by omega) (fun j W1 hj hI=>by
   obtain⟨r,h1,h2⟩:=reR_at HR.out (Zaf HB.out hI) j hj;have hs:ReSet ([a,b].getD j z67):=by
    rcases j with _ | _ | j
    ·exact HA.out
    ·exact HBB.out
    ·omega
   exact⟨r,h1,(may1_call X W1 _ r hs (h2.below HB.out) hI).mono fun e w' h=>h⟩) hW⟩
 have eg:=eg141
 go_region_law (first | (go_simp;go_at_call 140;(with_reducible refine (parts3 _).mono ?_);rintro e w1 ⟨rfl,rfl⟩) | (go_simp;go_at_call 138;(refine (HC.out _ (Zah (Below.refl _ X) 1)).mono ?_);rintro e w1 ⟨rfl,hb⟩;have HB1:=Zaa.mk hb;clear hb) | fail)
 all_goals (
  have b0:=(Zac (Zag HK.out HB1.out) 0).trans rfl;have b1:=(Zac (Zag HK.out HB1.out) 1).trans rfl;clear a0 a1 a2 eg;go_wp2
  go_ret
  exact⟨rfl,Zaf HB.out HB1.out⟩)
theorem may_call2 (w:World)(e:S67)(v:Value)(h:ReOk e)(hp:ReR w e v):Calls Tryz.prog 116 #[v] w fun e w'=>e=.returned (.bool true)∧Below w.heap.size w w':=by
 rcases h with h | h
 ·exact Zmf w e v h hp
 ·exact Ztv w e v h hp
theorem Zjd (w:World)(e:S67)(v:Value)(h:ReOk e)(hp:ReR w e v):Calls Tryz.prog 87 #[v] w fun e w'=>e=.returned (.bool true)∧Below w.heap.size w w':=by
 have HP:=Zaa.mk hp;obtain⟨A1,c1,A2,c2,rfl,_⟩:=hp;have HB:=Zaa.mk (Zae (Below.refl _ w) (.cells #[.int .i64 e.f0,.slice A1 e.f1.length c1,.slice A2 e.f2.length c2] 67));have HK:=Zaa.mk (Zaq w (.cells #[.int .i64 e.f0,.slice A1 e.f1.length c1,.slice A2 e.f2.length c2] 67));have HS:=Zaa.mk h;have HC:=Zaa.mk (Zsm (w.alloc (.cells #[.int .i64 e.f0,.slice A1 e.f1.length c1,.slice A2 e.f2.length c2] 67)) e _ 2 3 h.fit (hp:=HP.out.below HB.out) (by omega) (by omega));clear h
 go_enter Tryz.func87,Tryz.ntmps87
 go_wp2_with (first | (go_at_call 115;(with_reducible refine HC.out.mono ?_);rintro e w2 ⟨rfl,hb⟩;have HB2:=Zaa.mk hb;have b0:=(Zac (Zag HK.out hb) 0).trans rfl;have b1:=(Zac (Zag HK.out hb) 1).trans rfl;have b2:=(Zac (Zag HK.out hb) 2).trans rfl;clear hb) | (go_at_call 116;(with_reducible refine (may_call2 _ e _ HS.out (HP.out.below (Zaf HB.out HB2.out))).mono ?_);rintro e w3 ⟨rfl,hb⟩;have HB3:=Zaa.mk hb;clear hb))
 go_ret
 exact⟨rfl,Zaf (Zaf HB.out HB2.out) HB3.out⟩
theorem Zjp (w:World)(e:S67)(v:Value)(h:ReSet e)(hp:ReR w e v):Calls Tryz.prog 117 #[v] w fun e w'=>e=.returned (.bool false)∧Below w.heap.size w w':=by
 obtain⟨A1,c1,A2,c2,rfl,_⟩:=hp;rw[h.1];have HB:=Zaa.mk (Zae (Below.refl _ w) (.cells #[.int .i64 2,.slice A1 e.f1.length c1,.slice A2 e.f2.length c2] 67));clear h
 go_enter Tryz.func117,Tryz.ntmps117
 go_wp2
 go_ret
 exact⟨rfl,HB.out⟩
theorem Zpq (w:World)(e:S67)(v:Value)(h:ReSeq e)(hp:ReR w e v):Calls Tryz.prog 117 #[v] w fun e w'=>e=.returned (.bool false)∧Below w.heap.size w w':=by
 obtain⟨A1,c1,A2,c2,rfl,l1,r1,l2,r2⟩:=hp;obtain⟨e0,e1,a,b,e2,ha,hb⟩:=h;rw[e2]at l2 r2;rw[e0,e1,e2];have r2:k67.C w A2 2 [a,b]:=r2;show Calls Tryz.prog 117 #[.agg #[.int .i64 3,.slice A1 0 c1,.slice A2 2 c2]] w _;have HB:=Zaa.mk (Zae (Below.refl _ w) (.cells #[.int .i64 3,.slice A1 0 c1,.slice A2 2 c2] 67));obtain⟨r,h1,h2⟩:=reR_at r2 HB.out 0 (by omega);obtain⟨ad,v0,v1,v2,rfl,rfl,m0,m1,m2⟩:=h1;rw[show 0*3=0 by rfl]at m0 m1 m2;rw[show ad.add 0=ad from by cases ad with | mk b o p=>cases p <;> rfl]at m0 m1 m2;have HC:=Zaa.mk (Zjp (w.alloc (.cells #[.int .i64 3,.slice A1 0 c1,.slice (some ad) 2 c2] 67)) a _ ha (h2.below HB.out));clear r1 r2 l1 l2 e0 e1 e2 ha hb h2
 go_enter Tryz.func117,Tryz.ntmps117
 go_wp2_with (go_at_call 117;(with_reducible refine HC.out.mono ?_);rintro e w2 ⟨rfl,hb⟩;have HB2:=Zaa.mk hb;clear hb)
 go_ret
 exact⟨rfl,Zaf HB.out HB2.out⟩
theorem empty_call (w:World)(e:S67)(v:Value)(h:ReOk e)(hp:ReR w e v):Calls Tryz.prog 117 #[v] w fun e w'=>e=.returned (.bool false)∧Below w.heap.size w w':=by
 rcases h with h | h
 ·exact Zjp w e v h hp
 ·exact Zpq w e v h hp
theorem Zlt (w:World)(e:S67)(v:Value)(h:ReOk e)(hp:ReR w e v):Calls Tryz.prog 88 #[v] w fun e w'=>e=.returned (.bool false)∧Below w.heap.size w w':=by
 have HP:=Zaa.mk hp;obtain⟨A1,c1,A2,c2,rfl,_⟩:=hp;have HB:=Zaa.mk (Zae (Below.refl _ w) (.cells #[.int .i64 e.f0,.slice A1 e.f1.length c1,.slice A2 e.f2.length c2] 67));have HK:=Zaa.mk (Zaq w (.cells #[.int .i64 e.f0,.slice A1 e.f1.length c1,.slice A2 e.f2.length c2] 67));have HS:=Zaa.mk h;have HC:=Zaa.mk (Zjd (w.alloc (.cells #[.int .i64 e.f0,.slice A1 e.f1.length c1,.slice A2 e.f2.length c2] 67)) e _ h (HP.out.below HB.out));clear h
 go_enter Tryz.func88,Tryz.ntmps88
 go_wp2_with (first | (go_at_call 87;(with_reducible refine HC.out.mono ?_);rintro e w2 ⟨rfl,hb⟩;have HB2:=Zaa.mk hb;have b0:=(Zac (Zag HK.out hb) 0).trans rfl;have b1:=(Zac (Zag HK.out hb) 1).trans rfl;have b2:=(Zac (Zag HK.out hb) 2).trans rfl;clear hb) | (go_at_call 117;(with_reducible refine (empty_call _ e _ HS.out (HP.out.below (Zaf HB.out HB2.out))).mono ?_);rintro e w3 ⟨rfl,hb⟩;have HB3:=Zaa.mk hb;clear hb))
 go_ret
 exact⟨rfl,Zaf (Zaf HB.out HB2.out) HB3.out⟩
def ownS:List ByteArray:=[⟨#[116,111,107]⟩,⟨#[114,117,108,101]⟩,⟨#[105,110,116]⟩,⟨#[99,97,108,108]⟩,⟨#[114,101,116]⟩,⟨#[102,114,101,101]⟩]
structure Own (w:World):Prop where
 read:Kd.string.C w (some ⟨0,0,none⟩) 6 ownS
theorem Own.below {w W:World}(h:Own w)(hb:Below w.heap.size w W):Own W:=⟨Kd.C_below h.read hb⟩
structure Let1 (s:ByteArray):Prop where
 one:∃b:UInt8,s=⟨#[b]⟩∧97≤b.toNat∧b.toNat≤122
 own:hasS ownS s=false
set_option maxHeartbeats 1000000 in
theorem name_call (s:ByteArray)(h:Let1 s)(w:World)(hw:Own w):Calls Tryz.prog 84 #[.string s] w fun e w'=>e=.returned (.bool true)∧Below w.heap.size w w':=by
 obtain⟨b,hs,h0,h1⟩:=h.one;have HO:=Zaa.mk h.own;have HW:=Zaa.mk hw;have hsz:s.size=1:=by rw[hs];rfl
 have t0:decide ((97:Int)≤((s[0]'(by omega)).toNat:Int))=true:=decide_eq_true (by subst hs;show (97:Int)≤(b.toNat:Int);omega);have t1:decide (((s[0]'(by omega)).toNat:Int)≤(122:Int))=true:=decide_eq_true (by subst hs;show (b.toNat:Int)≤122;omega);have HC:Zaa (Calls Tryz.prog 66 #[.slice (some ⟨0,0,none⟩) 6 6,.string s] w fun e w'=>e=.returned (.bool false)∧Drawn0 w w'):=⟨by have h5:=Zkd (some ⟨0,0,none⟩) 6 ownS s w hw.read (by decide) (by decide);rw[h.own]at h5;exact h5⟩
 clear h hw hs h0 h1
 go_enter Tryz.func84,Tryz.ntmps84
 go_wp2
 refine wp_loop_rounds 2 ?_
 rw[rounds_succ];go_wp2
 rw[rounds_succ]
 go_wp2_with (go_at_call 66;(with_reducible refine HC.out.mono ?_);rintro e w1 ⟨rfl,hd⟩;have HD:=Zaa.mk hd;clear hd)
 go_ret
 obtain⟨n,rfl⟩:=HD.out.out;exact⟨rfl,Zah Zbr n⟩
def eqS (a b:ByteArray):Bool:=a.toList==b.toList
structure IsTok (l:List S70)(s:ByteArray)(k:Nat):Prop where
 lt:k<l.length
 hit:eqS (l.getD k z70).f0 s=true
 miss:∀j,j<k→eqS (l.getD j z70).f0 s=false
theorem closure114 (w W:World)(t:S70)(s:ByteArray)(gs:Nat)(v:Value)(hv:∃A4 c4 A5 c5,v=.agg #[.string t.f0,.int .i64 t.f1,.int .i64 t.f2,.int .i64 t.f3.f0,.slice A4 t.f3.f1.length c4,.slice A5 t.f3.f2.length c5])(hg:W.heap[gs]?=some (.cells #[.string s] 9 (0,0))) :
 Calls Tryz.prog 114 #[v,.pointer (some ⟨gs,0,none⟩)] W fun e w'=>e=.returned (.bool (eqS t.f0 s))∧Below W.heap.size W w':=by
 obtain⟨A4,c4,A5,c5,rfl⟩:=hv;have HB:=Zaa.mk (Zae (Below.refl _ W) (.cells #[.string t.f0,.int .i64 t.f1,.int .i64 t.f2,.int .i64 t.f3.f0,.slice A4 t.f3.f1.length c4,.slice A5 t.f3.f2.length c5] 70));have q:∀o,(W.alloc o).cell? ⟨gs,0,none⟩=some (.string s):=fun o=>(Zac (Zan hg o) 0).trans rfl
 clear hg
 go_enter Tryz.func114,Tryz.ntmps114
 go_wp2
 go_ret
 exact⟨rfl,HB.out⟩
theorem eg114:∀args w,(callFunc 114 args).run Tryz.prog w=.ok (.enter 114 args) w:=enters_of Tryz.func114 (by kernel_rfl) rfl
set_option maxHeartbeats 2000000 in
theorem index113 (At:Option Addr)(ct:Nat)(l:List S70)(w:World)(h:k70.C w At l.length l)(s:ByteArray)(gs:Nat)(hg:w.heap[gs]?=some (.cells #[.string s] 9 (0,0)))(k:Nat)(hk:IsTok l s k)(hf:l.length≤1000) :
 Calls Tryz.prog 113 #[.slice At l.length ct,.func (.func 114) #[] #[.pointer (some ⟨gs,0,none⟩)]] w fun e w'=>e=.returned (.int .i64 k)∧Below w.heap.size w w':=by
 have HH:=Zaa.mk h;have HG:=Zaa.mk hg;have HK:=Zaa.mk hk;have HF:=Zaa.mk hf;have eg:=eg114;have hkl:=hk.lt;clear h hg hk hf
 go_enter Tryz.func113,Tryz.ntmps113
 go_wp2
 go_loopw [5,8] (fun _ s8 wr=>∃i:Nat,i≤k∧s8=.int .i64 i∧Zaa (Below w.heap.size w wr)) (fun _ i _=>k+1-(intOf i).toNat)
 case atStart=>exact⟨0,Nat.zero_le _,rfl,⟨Zbr⟩⟩
 case round=>
  obtain⟨i,hi,rfl,HB⟩:=hrel;have hil:i<l.length:=by omega
  obtain⟨ad,A4,c4,A5,c5,rfl,m0,m1,m2,m3,m4,m5,_⟩:=Zmw HH.out (i:Int) (by omega) (by omega);rw[Int.toNat_natCast]at m0 m1 m2 m3 m4 m5;have m0:=Zab HB.out m0;have m1:=Zab HB.out m1;have m2:=Zab HB.out m2;have m3:=Zab HB.out m3;have m4:=Zab HB.out m4;have m5:=Zab HB.out m5;change wr.cell? _=some (.string (l.getD i z70).f0)at m0;change wr.cell? _=some (.int .i64 (l.getD i z70).f1)at m1;change wr.cell? _=some (.int .i64 (l.getD i z70).f2)at m2;change wr.cell? _=some (.int .i64 (l.getD i z70).f3.f0)at m3;change wr.cell? _=some (.slice A4 (l.getD i z70).f3.f1.length c4)at m4;change wr.cell? _=some (.slice A5 (l.getD i z70).f3.f2.length c5)at m5;obtain⟨t,ht⟩:∃t,t=l.getD i z70:=⟨_,rfl⟩
  rw[←ht]at m0 m1 m2 m3 m4 m5;have HC:=Zaa.mk (closure114 w wr t s gs _ ⟨A4,c4,A5,c5,rfl⟩ (Zag HG.out HB.out));by_cases e:i=k
  ·subst e;have hit:eqS t.f0 s=true:=by rw[ht];exact HK.out.hit
   rw[hit]at HC;clear hit ht
   go_wp2_with (go_at_fn 114;refine HC.out.mono ?_;rintro e w1 ⟨rfl,hb⟩;have HB1:=Zaa.mk hb;clear hb)
   go_ret
   exact⟨rfl,Zaf HB.out HB1.out⟩
  ·have hit:eqS t.f0 s=false:=by rw[ht];exact HK.out.miss i (by omega)
   rw[hit]at HC;clear hit ht
   go_wp2_with (go_at_fn 114;refine HC.out.mono ?_;rintro e w1 ⟨rfl,hb⟩;have HB1:=Zaa.mk hb;clear hb)
   go_roundw
   case rel=>
    have hf2:=HF.out;have hw:wrap64 ((i:Int)+1)=i+1:=(by unfold wrap64;omega)
    exact⟨i+1,by omega,by rw[hw];simp,⟨Zaf HB.out HB1.out⟩⟩
   case measure=>have:=HF.out;have hw:wrap64 ((i:Int)+1)=i+1:=(by unfold wrap64;omega);rw[hw];simp only[intOf];omega
theorem Zrt (At Ar:Option Addr)(ct nr cr:Nat)(l:List S70)(w:World)(h:k70.C w At l.length l)(s:ByteArray)(k:Nat)(hk:IsTok l s k)(hf:l.length≤1000) :
 Calls Tryz.prog 85 #[.agg #[.slice At l.length ct,.slice Ar nr cr],.string s] w fun e w'=>e=.returned (.int .i64 k)∧Below w.heap.size w w':=by
 have hb1:=Zae (Below.refl _ w) (.cells #[.slice At l.length ct,.slice Ar nr cr] 26);have hb2:=Zae hb1 (.cells #[.string s] 9);have hx:=Zaq (w.alloc (.cells #[.slice At l.length ct,.slice Ar nr cr] 26)) (.cells #[.string s] 9);rw[show (w.alloc (.cells #[.slice At l.length ct,.slice Ar nr cr] 26)).heap.size=w.heap.size+1 by simp]at hx;have HB:=Zaa.mk hb2;have HC:=Zaa.mk (index113 At ct l _ (Kd.C_below h hb2) s (w.heap.size+1) hx k hk hf);have eg:=eg114;clear hb1 hb2 hx h hk hf
 go_enter Tryz.func85,Tryz.ntmps85
 go_wp2_with (go_at_call 113;(with_reducible refine HC.out.mono ?_);rintro e w1 ⟨rfl,hb⟩;have HB1:=Zaa.mk hb;clear hb)
 go_ret
 exact⟨rfl,Zaf HB.out HB1.out⟩
theorem C_take {α:Type}{d:Kd α}{w:World}{A:Option Addr}{n:Nat}{xs:List α}(h:d.C w A n xs)(i:Nat)(hi:i≤n):d.C w A i (xs.take i):=by
 obtain⟨h1,h2,h3⟩:=h;refine⟨by rw[List.length_take];omega,by omega,fun h0=>?_⟩;obtain⟨ad,e,hc⟩:=h3 (by omega);refine⟨ad,e,fun j p hj=>hc j p ?_⟩;rw[List.getElem?_take]at hj
 split at hj
 ·exact hj
 ·cases hj
structure NamesOk (toks:List S70)(l:List ByteArray)(kind:Int):Prop where
 tok:∀i:Nat,i<l.length→∃k,IsTok toks (l.getD i ByteArray.empty) k∧(toks.getD k z70).f1=kind
 once:∀i:Nat,i<l.length→hasS (l.take i) (l.getD i ByteArray.empty)=false
 few:l.length≤1000
structure Crt (w:World)(gc:Nat)(At Ar:Option Addr)(ct cr:Nat)(toks:List S70)(nr:Nat)(wh:Int):Prop where
 blk:w.heap[gc]?=some (.cells #[.slice At toks.length ct,.slice Ar nr cr,.int .i64 wh] 126 (0,0))
 read:k70.C w At toks.length toks
 few:toks.length≤16
theorem Crt.below {w W:World}{gc:Nat}{At Ar:Option Addr}{ct cr:Nat}{toks:List S70}{nr:Nat}{wh:Int}(h:Crt w gc At Ar ct cr toks nr wh)(hb:Below w.heap.size w W):Crt W gc At Ar ct cr toks nr wh:=
 ⟨Zag h.blk hb,Kd.C_below h.read hb,h.few⟩
theorem at_S {w:World}{A:Option Addr}{n:Nat}{xs:List ByteArray}(h:Kd.string.C w A n xs)(i:Nat)(hi:i<n):∃ad,A=some ad∧w.cell? (ad.add i)=some (.string (xs.getD i ByteArray.empty)):=by
 obtain⟨ad,c,e,_,hK,hc⟩:=Kd.C_get h ByteArray.empty (i:Int) (by omega) (by omega);have hK:c=[.string (xs.getD (i:Int).toNat ByteArray.empty)]:=hK;subst hK;refine⟨ad,e,?_⟩;have:=hc 0 _ rfl;rw[Int.toNat_natCast]at this;have e1:i*Kd.string.sz+0=i:=by show i*1+0=i;omega
 rw[e1]at this;exact this
set_option maxHeartbeats 2000000 in
theorem Zjy (w:World)(gc:Nat)(At Ar:Option Addr)(ct cr:Nat)(toks:List S70)(nr:Nat)(wh:Int)(h:Crt w gc At Ar ct cr toks nr wh)(A:Option Addr)(c:Nat)(l:List ByteArray)(hl:Kd.string.C w A l.length l)(hc:l.length≤c)(kind:Int)(hn:NamesOk toks l kind) :
 Calls Tryz.prog 89 #[.pointer (some ⟨gc,0,none⟩),.slice A l.length c,.int .i64 kind] w fun e w'=>e=.returned (.tuple #[])∧Below w.heap.size w w':=by
 have HH:=Zaa.mk h;have HR:=Zaa.mk hl;have HC:=Zaa.mk hc;have HN:=Zaa.mk hn;clear h hl hc hn
 go_enter Tryz.func89,Tryz.ntmps89
 go_wp2
 go_loopw [11] (fun s wr=>∃i:Nat,i≤l.length∧s=.int .i64 i∧Zaa (Below w.heap.size w wr)) (fun i _=>l.length-(intOf i).toNat)
 case atStart=>exact⟨0,Nat.zero_le _,rfl,⟨Zbr⟩⟩
 case round=>
  obtain⟨i,hi,rfl,HB⟩:=hrel;by_cases hil:i<l.length
  ·obtain⟨ad,rfl,m0⟩:=at_S HR.out i hil;have m0:=Zab HB.out m0;obtain⟨k,hk,hkind⟩:=HN.out.tok i hil;have hw:=HH.out.below HB.out;have g0:wr.cell? ⟨gc,0,none⟩=some (.slice At toks.length ct):=(Zac hw.blk 0).trans rfl;have g1:wr.cell? ⟨gc,1,none⟩=some (.slice Ar nr cr):=(Zac hw.blk 1).trans rfl;obtain⟨s,hs⟩:∃s,s=l.getD i ByteArray.empty:=⟨_,rfl⟩
   rw[←hs]at m0 hk;have HF:=Zaa.mk (Zrt At Ar ct nr cr toks wr hw.read s k hk (by have:=hw.few;omega));have hkl:=hk.lt;obtain⟨bd,A4,c4,A5,c5,eA,_,n1,_⟩:=Zmw HH.out.read (k:Int) (by omega) (by omega);subst eA;rw[Int.toNat_natCast]at n1;have en:(Zge toks (k:Int)).f1=kind:=hkind;rw[en]at n1;have HN1:=Zaa.mk n1;have HK:=Zaa.mk hk;have t0:decide ((0:Int)≤(k:Int))=true:=decide_eq_true (by omega);have HCS:Zaa (∀W,Below wr.heap.size wr W→Calls Tryz.prog 66 #[.slice (some ad) i c,.string s] W fun e w'=>e=.returned (.bool false)∧Drawn0 W w'):=⟨fun W hW=>by
    have h5:=Zkd (some ad) c (l.take i) s W (by rw[List.length_take,Nat.min_eq_left hi];exact Kd.C_below (C_take HR.out i hi) (Zaf HB.out hW)) (by rw[List.length_take];have:=HC.out;omega) (by rw[List.length_take];have:=HN.out.few;omega);rw[hs,HN.out.once i hil,List.length_take,Nat.min_eq_left hi]at h5;rw[hs];exact h5⟩
   clear hw hs n1 en hk hkind
   go_upto_region 4 with (go_at_call 85;(with_reducible refine HF.out.mono ?_);rintro e w1 ⟨rfl,hb⟩;have HB1:=Zaa.mk hb;clear hb)
   have hw1:=HH.out.below (Zaf HB.out HB1.out);have g0:∀n,(w1.drewN n).cell? ⟨gc,0,none⟩=some (.slice (some bd) toks.length ct):=fun n=>(Zac hw1.blk 0).trans rfl
   have n1:∀n,(w1.drewN n).cell? ⟨(bd.add (k*6)).block,(bd.add (k*6)).off+1,none⟩=some (.int .i64 kind):=fun n=>Zab (Zaf HB.out HB1.out) HN1.out
   have hic:i≤c:=by have:=HC.out;omega
   clear g1 m0
   go_wp2_with (first
    | (go_at_call 66;(with_reducible refine (HCS.out _ HB1.out).mono ?_);rintro e w2 ⟨rfl,hd⟩;obtain⟨nd,rfl⟩:=hd.out;clear hd)
    | (go_at_call 61;(with_reducible refine (Zfx _ _ _).mono ?_);rintro e w2 ⟨rfl,rfl⟩))
   go_roundw
   case rel=>
    have hf2:=HN.out.few;have hw:wrap64 ((i:Int)+1)=i+1:=(by unfold wrap64;omega)
    exact⟨i+1,by omega,by rw[hw];simp,⟨Zah (Zaf HB.out HB1.out) _⟩⟩
   case measure=>have:=HN.out.few;have hw:wrap64 ((i:Int)+1)=i+1:=(by unfold wrap64;omega);rw[hw];simp only[intOf];omega
  ·obtain rfl:i=l.length:=by omega
   go_wp2
   go_end0
   exact⟨rfl,HB.out⟩
def SH (k:Int)(n1 n2 n3:Nat):Prop:=
 (k=1∧n1=0∧n2=0∧n3=0)∨(k=4∧n1=0∧n2=0∧n3=0)∨(k=2∧0<n1∧n2=0∧n3=0)∨(k=3∧0<n1∧0<n2∧n3=1)∨(k=5∧n1=0∧n2=0∧n3=2)∨(k=6∧n1=0∧n2=0∧n3=2)∨(k=7∧n1=0∧n2=0∧n3=1)
def partsN (k:Int):Int:=if k=1∨k=2∨k=4 then 0 else if k=3∨k=7 then 1 else 2
theorem Zub (k:Int)(hk:k=1∨k=2∨k=3∨k=4∨k=5∨k=6∨k=7)(w:World):Calls Tryz.prog 156 #[.int .i64 k] w fun e w'=>e=.returned (.int .i64 (partsN k))∧w'=w:=by
 rcases hk with rfl | rfl | rfl | rfl | rfl | rfl | rfl
 all_goals (
  go_enter Tryz.func156,Tryz.ntmps156
  go_wp2
  go_ret
  exact⟨rfl,rfl⟩)
set_option maxHeartbeats 4000000 in
theorem Zss (k:Int)(A1 A2 A3:Option Addr)(n1 c1 n2 c2 n3 c3:Nat)(h:SH k n1 n2 n3)(w:World):Calls Tryz.prog 146 #[.agg #[.int .i64 k,.slice A1 n1 c1,.slice A2 n2 c2,.slice A3 n3 c3]] w fun e w'=>e=.returned (.bool true)∧Below w.heap.size w w':=by
 have HB:=Zaa.mk (Zae (Below.refl _ w) (.cells #[.int .i64 k,.slice A1 n1 c1,.slice A2 n2 c2,.slice A3 n3 c3] 76));have HK:=Zaa.mk (Zaq w (.cells #[.int .i64 k,.slice A1 n1 c1,.slice A2 n2 c2,.slice A3 n3 c3] 76));have HP:=Zaa.mk (fun w=>Zub k (by rcases h with h | h | h | h | h | h | h <;> simp[h.1]) w)
 rcases h with⟨rfl,rfl,rfl,rfl⟩ | ⟨rfl,rfl,rfl,rfl⟩ | ⟨rfl,h1,rfl,rfl⟩ | ⟨rfl,h1,h2,rfl⟩ | ⟨rfl,rfl,rfl,rfl⟩ | ⟨rfl,rfl,rfl,rfl⟩ | ⟨rfl,rfl,rfl,rfl⟩
 case' inr.inr.inl=>
  have q1:decide ((0:Int)<(n1:Int))=true:=decide_eq_true (by omega);have q1':decide (0<n1)=true:=decide_eq_true (by omega);clear h1
 case' inr.inr.inr.inl=>
  have q1:decide ((0:Int)<(n1:Int))=true:=decide_eq_true (by omega);have q1':decide (0<n1)=true:=decide_eq_true (by omega);have q2:decide ((0:Int)<(n2:Int))=true:=decide_eq_true (by omega);have q2':decide (0<n2)=true:=decide_eq_true (by omega);clear h1 h2
 all_goals (
  go_enter Tryz.func146,Tryz.ntmps146
  go_upto_region 1 with (fail)
  generalize World.alloc w _=X at *;generalize w.heap.size=g at HK ⊢;have a0:=(Zac HK.out 0).trans rfl;have a1:=(Zac HK.out 1).trans rfl;have a2:=(Zac HK.out 2).trans rfl;have a3:=(Zac HK.out 3).trans rfl
  go_upto_region 2 with (fail)
  go_quiet ((go_at_call 156;exact Calls.quiet_of ((HP.out _).mono (fun _ _ ⟨h,hd⟩=>⟨h,0,hd⟩))))
  go_wp2
  go_ret
  exact⟨rfl,Zah HB.out _⟩)
def Zkg (toks:List S70):Nat→S76→Prop
 | 0,_=>False
 | D+1,p=>SH p.f0 p.f1.length p.f2.length p.f3.length∧NamesOk toks p.f1 (if p.f0=3 then 1 else 0)∧NamesOk toks p.f2 2∧∀j:Nat,j<p.f3.length→Zkg toks D (p.f3.getD j z76)
theorem PatR.below {w W:World}{p:S76}{v:Value}(h:PatR w p v)(hb:Below w.heap.size w W):PatR W p v:=by
 obtain⟨A1,c1,A2,c2,A3,c3,rfl,l1,r1,l2,r2,l3,r3⟩:=h;exact⟨A1,c1,A2,c2,A3,c3,rfl,l1,Kd.C_below r1 hb,l2,Kd.C_below r2 hb,l3,Kd.C_below r3 hb⟩
def NodeC (toks:List S70)(D:Nat):Prop:=∀(w:World) (gc:Nat) (At Ar:Option Addr) (ct cr nr:Nat) (wh:Int) (p:S76) (v:Value),Crt w gc At Ar ct cr toks nr wh→Zkg toks D p→PatR w p v →
 Calls Tryz.prog 119 #[.pointer (some ⟨gc,0,none⟩),v] w fun e w'=>e=.returned (.tuple #[])∧Below w.heap.size w w'
set_option maxHeartbeats 4000000 in
theorem Zrh (toks:List S70):∀D,NodeC toks D
 | 0=>fun _ _ _ _ _ _ _ _ _ _ _ h=>h.elim
 | D+1=>by
  intro w gc At Ar ct cr nr wh p v hc hg hp;have ih:=Zaa.mk (Zrh toks D);obtain⟨hsh,hn1,hn2,hch⟩:=hg;obtain⟨A1,c1,A2,c2,A3,c3,rfl,l1,r1,l2,r2,l3,r3⟩:=hp;have hn3:p.f3.length≤2:=by
   unfold SH at hsh;omega
  have HN3:=Zaa.mk hn3;have HB:=Zaa.mk (Zae (Below.refl _ w) (.cells #[.int .i64 p.f0,.slice A1 p.f1.length c1,.slice A2 p.f2.length c2,.slice A3 p.f3.length c3] 76));have HK:=Zaa.mk (Zaq w (.cells #[.int .i64 p.f0,.slice A1 p.f1.length c1,.slice A2 p.f2.length c2,.slice A3 p.f3.length c3] 76));have HSH:=Zaa.mk (fun W=>Zss p.f0 A1 A2 A3 p.f1.length c1 p.f2.length c2 p.f3.length c3 hsh W);have HC:=Zaa.mk hc;have HA1:=Zaa.mk (fun W hb=>Zjy W gc At Ar ct cr toks nr wh (hc.below hb) A1 c1 p.f1 (Kd.C_below r1 hb) l1 _ hn1);have HA2:=Zaa.mk (fun W hb=>Zjy W gc At Ar ct cr toks nr wh (hc.below hb) A2 c2 p.f2 (Kd.C_below r2 hb) l2 _ hn2);have HCH:=Zaa.mk hch;have HR3:=Zaa.mk r3;clear hc hsh hn1 hn2 hch r1 r2 r3 l1 l2 l3 hn3
  go_enter Tryz.func119,Tryz.ntmps119
  go_upto_region 2 with (first
   | (go_at_call 146;(with_reducible refine (HSH.out _).mono ?_);rintro e w1 ⟨rfl,hb⟩;have HB1:=Zaa.mk (Zaf HB.out hb);have k1:=Zag HK.out hb;have b0:=(Zac k1 0).trans rfl;have b1:=(Zac k1 1).trans rfl;have b2:=(Zac k1 2).trans rfl;have b3:=(Zac k1 3).trans rfl;have HK1:=Zaa.mk k1;clear hb k1)
   | (go_at_call 61;(with_reducible refine (Zfx _ _ _).mono ?_);rintro e w2 ⟨rfl,rfl⟩))
  have HX:Zaa (∃kd:Int,kd=if p.f0=3 then 1 else 0):=⟨_,rfl⟩
  by_cases hk:p.f0=3
  case' pos=>
   rw[if_pos hk]at HA1;rw[hk]at b0
  case' neg=>
   rw[if_neg hk]at HA1;have q3:(p.f0==3)=false:=by simpa using hk
  all_goals (
   clear hk HX
   go_upto_region 7 with (first
    | (go_at_call 89;(with_reducible refine (HA1.out _ HB1.out).mono ?_);rintro e w3 ⟨rfl,hb⟩;have HB3:=Zaa.mk (Zaf HB1.out hb);have k3:=Zag HK1.out hb;have d2:=(Zac k3 2).trans rfl;have HK3:=Zaa.mk k3;clear hb k3)
    | (go_at_call 89;(with_reducible refine (HA2.out _ HB3.out).mono ?_);rintro e w4 ⟨rfl,hb⟩;have HB4:=Zaa.mk (Zaf HB3.out hb);have k4:=Zag HK3.out hb;have e3:=(Zac k4 3).trans rfl;clear hb k4))
   go_wp2
   go_loopw [26] (fun s wr=>∃i:Nat,i≤p.f3.length∧s=.int .i64 i∧Zaa (Below w.heap.size w wr)) (fun i _=>p.f3.length-(intOf i).toNat)
   case atStart=>exact⟨0,Nat.zero_le _,rfl,HB4⟩
   case round=>
    obtain⟨i,hi,rfl,HBR⟩:=hrel;by_cases hil:i<p.f3.length
    ·obtain⟨r,hr1,hr2⟩:=patR_at HR3.out HBR.out i hil;obtain⟨ad,v0,v1,v2,v3,rfl,rfl,m0,m1,m2,m3⟩:=hr1;obtain⟨x,hx⟩:∃x,x=p.f3.getD i z76:=⟨_,rfl⟩
     rw[←hx]at hr2;have HGX:Zaa (Zkg toks D x):=⟨by rw[hx];exact HCH.out i hil⟩
     clear hx;have HR2:=Zaa.mk hr2;obtain⟨B1,d1,B2,d2,B3,d3,hv,_⟩:=hr2;injection hv with hv
     have hv0:=congrArg (fun a:Array Value=>a[0]?) hv;have hv1:=congrArg (fun a:Array Value=>a[1]?) hv;have hv2:=congrArg (fun a:Array Value=>a[2]?) hv;have hv3:=congrArg (fun a:Array Value=>a[3]?) hv;simp at hv0 hv1 hv2 hv3;subst hv0;subst hv1;subst hv2;subst hv3;clear hv;have HIH:=Zaa.mk (fun W hb=>ih.out W gc At Ar ct cr nr wh x _ (HC.out.below hb) HGX.out (HR2.out.below hb));have HBA:=Zaa.mk (fun o=>Zaf HBR.out (Zae (Below.refl _ wr) o));clear HR2
     go_wp2_with (go_at_call 119;(with_reducible refine (HIH.out _ (HBA.out _)).mono ?_);rintro e w5 ⟨rfl,hb⟩;have HB5:=Zaa.mk (Zaf (HBA.out _) hb);clear hb)
     go_roundw
     case rel=>
      have hf2:=HN3.out;have hw:wrap64 ((i:Int)+1)=i+1:=(by unfold wrap64;omega)
      exact⟨i+1,by omega,by rw[hw];simp,HB5⟩
     case measure=>have:=HN3.out;have hw:wrap64 ((i:Int)+1)=i+1:=(by unfold wrap64;omega);rw[hw];simp only[intOf];omega
    ·obtain rfl:i=p.f3.length:=by omega
     go_wp2
     go_end0
     exact⟨rfl,HBR.out⟩)
theorem Zps (w:World)(gc:Nat)(At Ar:Option Addr)(ct cr:Nat)(toks:List S70)(nr:Nat)(wh:Int)(p:S76)(v:Value)(D N D2:Nat)(hc:Crt w gc At Ar ct cr toks nr wh)(hg:Zkg toks D p)(hf:Fit D2 p N)(hN:N≤60)(hD:D2≤12)(hp:PatR w p v) :
 Calls Tryz.prog 90 #[.pointer (some ⟨gc,0,none⟩),v] w fun e w'=>e=.returned (.tuple #[])∧Below w.heap.size w w':=by
 have HP:=Zaa.mk hp;obtain⟨A1,c1,A2,c2,A3,c3,rfl,_⟩:=hp;have HB:=Zaa.mk (Zae (Below.refl _ w) (.cells #[.int .i64 p.f0,.slice A1 p.f1.length c1,.slice A2 p.f2.length c2,.slice A3 p.f3.length c3] 76));have HK:=Zaa.mk (Zaq w (.cells #[.int .i64 p.f0,.slice A1 p.f1.length c1,.slice A2 p.f2.length c2,.slice A3 p.f3.length c3] 76));have HF:=Zaa.mk (few_call _ p _ D2 N hf (HP.out.below HB.out) hN hD);have HC:=Zaa.mk hc;have HNC:=Zaa.mk (fun W hb=>Zrh toks D W gc At Ar ct cr nr wh p _ (hc.below hb) hg (HP.out.below hb));clear hc hg hf
 go_enter Tryz.func90,Tryz.ntmps90
 go_wp2_with (first
  | (go_at_call 118;(with_reducible refine HF.out.mono ?_);rintro e w1 ⟨rfl,hb⟩;have HB1:=Zaa.mk (Zaf HB.out hb);have k1:=Zag HK.out hb;have b0:=(Zac k1 0).trans rfl;have b1:=(Zac k1 1).trans rfl;have b2:=(Zac k1 2).trans rfl;have b3:=(Zac k1 3).trans rfl;clear hb k1)
  | (go_at_call 61;(with_reducible refine (Zfx _ _ _).mono ?_);rintro e w2 ⟨rfl,rfl⟩)
  | (go_at_call 119;(with_reducible refine (HNC.out _ HB1.out).mono ?_);rintro e w3 ⟨rfl,hb⟩;have HB3:=Zaa.mk (Zaf HB1.out hb);clear hb))
 go_end0
 exact⟨rfl,HB3.out⟩
structure Zqa (toks:List S70)(i:Nat):Prop where
 one:Let1 (toks.getD i z70).f0
 tok:IsTok toks (toks.getD i z70).f0 i
 kind:(toks.getD i z70).f1=0∨(toks.getD i z70).f1=1∨(toks.getD i z70).f1=2
 cls:0≤(toks.getD i z70).f2∧(toks.getD i z70).f2≤31
 re:ReOk (toks.getD i z70).f3
set_option maxHeartbeats 4000000 in
theorem token_call (w:World)(gc:Nat)(At Ar:Option Addr)(ct cr:Nat)(toks:List S70)(nr:Nat)(wh:Int)(hc:Crt w gc At Ar ct cr toks nr wh)(ho:Own w)(i:Nat)(h:Zqa toks i) :
 Calls Tryz.prog 62 #[.pointer (some ⟨gc,0,none⟩),.int .i64 i] w fun e w'=>e=.returned (.tuple #[])∧Below w.heap.size w w':=by
 have hi:=h.tok.lt;obtain⟨ad,A4,c4,A5,c5,rfl,m0,m1,m2,m3,m4,m5,l4,r4,l5,r5⟩:=Zmw hc.read (i:Int) (by omega) (by omega);rw[Int.toNat_natCast]at m0 m1 m2 m3 m4 m5;have g0:w.cell? ⟨gc,0,none⟩=some (.slice (some ad) toks.length ct):=(Zac hc.blk 0).trans rfl;change w.cell? _=some (.string (toks.getD i z70).f0)at m0;change w.cell? _=some (.int .i64 (toks.getD i z70).f1)at m1;change w.cell? _=some (.int .i64 (toks.getD i z70).f2)at m2;change w.cell? _=some (.int .i64 (toks.getD i z70).f3.f0)at m3;change w.cell? _=some (.slice A4 (toks.getD i z70).f3.f1.length c4)at m4;change w.cell? _=some (.slice A5 (toks.getD i z70).f3.f2.length c5)at m5;change (toks.getD i z70).f3.f1.length≤c4 at l4;change (toks.getD i z70).f3.f2.length≤c5 at l5;change k72.C w A4 (toks.getD i z70).f3.f1.length (toks.getD i z70).f3.f1 at r4;change k67.C w A5 (toks.getD i z70).f3.f2.length (toks.getD i z70).f3.f2 at r5;obtain⟨h1,h2,h3,h4,h5⟩:=h;obtain⟨t,ht⟩:∃t,t=toks.getD i z70:=⟨_,rfl⟩
 rw[←ht]at m0 m1 m2 m3 m4 m5 l4 l5 r4 r5 h1 h2 h3 h4 h5;have HRE:Zaa (ReR w t.f3 (.agg #[.int .i64 t.f3.f0,.slice A4 t.f3.f1.length c4,.slice A5 t.f3.f2.length c5])):=⟨A4,c4,A5,c5,rfl,l4,r4,l5,r5⟩
 have HN:=Zaa.mk (fun W hb=>name_call t.f0 h1 W (ho.below hb));have HC:=Zaa.mk hc;have HF:=Zaa.mk (fun W hb=>Zrt (some ad) Ar ct nr cr toks W (Kd.C_below hc.read hb) t.f0 i h2 (by have:=hc.few;omega));have HCL:=Zaa.mk (fun W=>class_ok (.pointer (some ⟨gc,0,none⟩)) t.f2 h4.1 h4.2 W);have HM:=Zaa.mk (fun W hb=>Zjd W t.f3 _ h5 (HRE.out.below hb));have HE:=Zaa.mk (fun W hb=>Zlt W t.f3 _ h5 (HRE.out.below hb));have HKD:=Zaa.mk h3;have HB:=Zaa.mk (Zae (Below.refl _ w) (.cells #[.string t.f0,.int .i64 t.f1,.int .i64 t.f2,.int .i64 t.f3.f0,.slice A4 t.f3.f1.length c4,.slice A5 t.f3.f2.length c5] 70));have HK:=Zaa.mk (Zaq w (.cells #[.string t.f0,.int .i64 t.f1,.int .i64 t.f2,.int .i64 t.f3.f0,.slice A4 t.f3.f1.length c4,.slice A5 t.f3.f2.length c5] 70));clear h1 h2 h3 h4 h5 hc ho l4 l5 r4 r5 ht
 go_enter Tryz.func62,Tryz.ntmps62
 go_upto_region 1 with (fail)
 generalize w.alloc (.cells #[.string t.f0,.int .i64 t.f1,.int .i64 t.f2,.int .i64 t.f3.f0,.slice A4 t.f3.f1.length c4,.slice A5 t.f3.f2.length c5] 70)=X at *;obtain⟨gt,hgt⟩:∃gt,gt=w.heap.size:=⟨_,rfl⟩
 rw[←hgt]at HK ⊢;have a0:X.cell? ⟨gt,0,none⟩=some (.string t.f0):=(Zac HK.out 0).trans rfl;clear m0 m1 m2 m3 m4 m5 g0 hgt;refine Zdb ?_
 go_region_law (first
  | (go_simp;go_at_call 84;(with_reducible refine (HN.out _ (Zah HB.out 1)).mono ?_);rintro e w1 ⟨rfl,hb⟩;have HB1:=Zaa.mk (Zaf (Zah HB.out 1) hb);have HK1:=Zaa.mk (Zag HK.out (Zaf (Zah (Below.refl _ X) 1) hb));have b0:=(Zac HK1.out 0).trans rfl;have hcc:=HC.out.below HB1.out;have g0:=(Zac hcc.blk 0).trans rfl;have g1:=(Zac hcc.blk 1).trans rfl;clear hb hcc)
  | (go_simp;go_at_call 85;(with_reducible refine (HF.out _ HB1.out).mono ?_);rintro e w2 ⟨rfl,hb⟩;have HB2:=Zaa.mk (Zaf HB1.out hb);have HK2:=Zaa.mk (Zag HK1.out hb);clear hb)
  | (go_simp;go_at_call 61;(with_reducible refine (Zfx _ _ _).mono ?_);rintro e w3 ⟨rfl,rfl⟩)
  | fail)
 all_goals (
  clear b0 g0 g1 a0;have c1:=(Zac HK2.out 1).trans rfl;have c2:=(Zac HK2.out 2).trans rfl;have c3:=(Zac HK2.out 3).trans rfl;have c4:=(Zac HK2.out 4).trans rfl;have c5:=(Zac HK2.out 5).trans rfl
  rcases HKD.out with hk | hk | hk
  all_goals (
   rw[hk]at c1;clear hk
   go_wp2_with (first
    | (go_at_call 86;(with_reducible refine (HCL.out _).mono ?_);rintro e w4 ⟨rfl,rfl⟩)
    | (go_at_call 87;(with_reducible refine (HM.out _ HB2.out).mono ?_);rintro e w5 ⟨rfl,hb⟩;have HB5:=Zaa.mk (Zaf HB2.out hb);have k5:=Zag HK2.out hb;have d3:=(Zac k5 3).trans rfl;have d4:=(Zac k5 4).trans rfl;have d5:=(Zac k5 5).trans rfl;clear hb k5)
    | (go_at_call 88;(with_reducible refine (HE.out _ HB5.out).mono ?_);rintro e w6 ⟨rfl,hb⟩;have HB6:=Zaa.mk (Zaf HB5.out hb);clear hb)
    | (go_at_call 61;(with_reducible refine (Zfx _ _ _).mono ?_);rintro e w7 ⟨rfl,rfl⟩))
   go_end0
   exact⟨rfl,HB6.out⟩))
structure StepGood (toks:List S70)(need:Bool)(s:S79):Prop where
 calls:decide (0<s.f0.length)=need
 names:NamesOk toks s.f0 1
 pat:∃D N D2,Zkg toks D s.f1∧Fit D2 s.f1 N∧N≤60∧D2≤12
structure Zqb (toks:List S70)(r:S52):Prop where
 cls:0≤r.f0∧r.f0≤31
 one:1≤r.f2.length
 few:r.f2.length≤4
 steps:∀i:Nat,i<r.f2.length→StepGood toks (decide (0<i)||r.f1) (r.f2.getD i z79)
def RuleR (w:World)(r:S52)(v:Value):Prop:=∃A c,v=.agg #[.int .i64 r.f0,.bool r.f1,.slice A r.f2.length c]∧r.f2.length≤c∧k79.C w A r.f2.length r.f2
set_option maxHeartbeats 4000000 in
theorem crule_call (w:World)(gc:Nat)(At Ar:Option Addr)(ct cr:Nat)(toks:List S70)(nr:Nat)(wh:Int)(hc:Crt w gc At Ar ct cr toks nr wh)(r:S52)(v:Value)(h:Zqb toks r)(hr:RuleR w r v) :
 Calls Tryz.prog 63 #[.pointer (some ⟨gc,0,none⟩),v] w fun e w'=>e=.returned (.tuple #[])∧Below w.heap.size w w':=by
 obtain⟨A,c,rfl,lc,rc⟩:=hr;have HCL:=Zaa.mk (fun W=>class_ok (.pointer (some ⟨gc,0,none⟩)) r.f0 h.cls.1 h.cls.2 W);have HC:=Zaa.mk hc;have HS:=Zaa.mk h.steps;have HR:=Zaa.mk rc;have HF:=Zaa.mk h.few;have HB:=Zaa.mk (Zae (Below.refl _ w) (.cells #[.int .i64 r.f0,.bool r.f1,.slice A r.f2.length c] 52));have HK:=Zaa.mk (Zaq w (.cells #[.int .i64 r.f0,.bool r.f1,.slice A r.f2.length c] 52));have t1:decide ((1:Int)≤(r.f2.length:Int))=true:=decide_eq_true (by have:=h.one;omega);have t2:decide ((r.f2.length:Int)≤4)=true:=decide_eq_true (by have:=h.few;omega);clear hc h lc rc
 go_enter Tryz.func63,Tryz.ntmps63
 go_wp2_with (first
  | (go_at_call 86;(with_reducible refine (HCL.out _).mono ?_);rintro e w4 ⟨rfl,rfl⟩)
  | (go_at_call 61;(with_reducible refine (Zfx _ _ _).mono ?_);rintro e w7 ⟨rfl,rfl⟩))
 go_loopw [25] (fun s wr=>∃i:Nat,i≤r.f2.length∧s=.int .i64 i∧Zaa (Below w.heap.size w wr)∧Zaa (wr.heap[w.heap.size]?=some (.cells #[.int .i64 r.f0,.bool r.f1,.slice A r.f2.length c] 52 (0,0)))) (fun i _=>r.f2.length-(intOf i).toNat)
 case atStart=>exact⟨0,Nat.zero_le _,rfl,HB,HK⟩
 case round=>
  obtain⟨i,hi,rfl,HBR,HKR⟩:=hrel;by_cases hil:i<r.f2.length
  ·obtain⟨td,T0,t0,T2,t2,T3,t3,T4,t4,rfl,z0,z1,z2,z3,z4,hl0,hf0,hl2,hf2,hl3,hf3,hl4,hf4⟩:=Zoq HR.out (i:Int) (by omega) (by omega);rw[Int.toNat_natCast]at z0 z1 z2 z3 z4;have z0:=Zab HBR.out z0;have z1:=Zab HBR.out z1;have z2:=Zab HBR.out z2;have z3:=Zab HBR.out z3;have z4:=Zab HBR.out z4;have hs:=HS.out i hil;obtain⟨s,hse⟩:∃s,s=Zdg r.f2 (i:Int):=⟨_,rfl⟩
   have hse2:s=r.f2.getD i z79:=hse;rw[←hse]at z0 z1 z2 z3 z4 hl0 hf0 hl2 hf2 hl3 hf3 hl4 hf4;rw[←hse2]at hs;clear hse hse2;obtain⟨D,N,D2,p1,p2,p3,p4⟩:=hs.pat;have HP:Zaa (PatR w s.f1 (.agg #[.int .i64 s.f1.f0,.slice T2 s.f1.f1.length t2,.slice T3 s.f1.f2.length t3,.slice T4 s.f1.f3.length t4])):=⟨T2,t2,T3,t3,T4,t4,rfl,hl2,hf2,hl3,hf3,hl4,hf4⟩
   have HN:=Zaa.mk (fun W hb=>Zjy W gc At Ar ct cr toks nr wh (HC.out.below hb) T0 t0 s.f0 (Kd.C_below hf0 hb) hl0 1 hs.names);have HPT:=Zaa.mk (fun W hb=>Zps W gc At Ar ct cr toks nr wh s.f1 _ D N D2 (HC.out.below hb) p1 p2 p3 p4 (HP.out.below hb));have hcl:=hs.calls;have HBA:=Zaa.mk (fun o=>Zaf HBR.out (Zae (Below.refl _ wr) o));have HKA:=Zaa.mk (fun o=>Zan HKR.out o);have HNA:=Zaa.mk (fun o=>Zaq wr o);have hgw:=Zbj HKR.out;clear hs hl0 hf0 hl2 hf2 hl3 hf3 hl4 hf4 p1 p2 p3 p4
   go_upto_region 6 with (fail)
   have HBX:=Zaa.mk (HBA.out (.cells #[.slice T0 s.f0.length t0,.int .i64 s.f1.f0,.slice T2 s.f1.f1.length t2,.slice T3 s.f1.f2.length t3,.slice T4 s.f1.f3.length t4] 79));have HKX:=Zaa.mk (HKA.out (.cells #[.slice T0 s.f0.length t0,.int .i64 s.f1.f0,.slice T2 s.f1.f1.length t2,.slice T3 s.f1.f2.length t3,.slice T4 s.f1.f3.length t4] 79));have HSX:=Zaa.mk (HNA.out (.cells #[.slice T0 s.f0.length t0,.int .i64 s.f1.f0,.slice T2 s.f1.f1.length t2,.slice T3 s.f1.f2.length t3,.slice T4 s.f1.f3.length t4] 79));generalize wr.alloc (.cells #[.slice T0 s.f0.length t0,.int .i64 s.f1.f0,.slice T2 s.f1.f1.length t2,.slice T3 s.f1.f2.length t3,.slice T4 s.f1.f3.length t4] 79)=X at *;generalize wr.heap.size=gs at *;have x0:X.cell? ⟨gs,0,none⟩=some (.slice T0 s.f0.length t0):=(Zac HSX.out 0).trans rfl;have x1:X.cell? ⟨gs,1,none⟩=some (.int .i64 s.f1.f0):=(Zac HSX.out 1).trans rfl;have x2:X.cell? ⟨gs,2,none⟩=some (.slice T2 s.f1.f1.length t2):=(Zac HSX.out 2).trans rfl;have x3:X.cell? ⟨gs,3,none⟩=some (.slice T3 s.f1.f2.length t3):=(Zac HSX.out 3).trans rfl;have x4:X.cell? ⟨gs,4,none⟩=some (.slice T4 s.f1.f3.length t4):=(Zac HSX.out 4).trans rfl;have y1:X.cell? ⟨w.heap.size,1,none⟩=some (.bool r.f1):=(Zac HKX.out 1).trans rfl;have hcl2:decide ((0:Int)<(s.f0.length:Int))=(decide (0<i)||r.f1):=by rw[←hcl];simp
   have q0:decide ((0:Int)<(i:Int))=decide (0<i):=by simp
   clear z0 z1 z2 z3 z4 hgw;obtain⟨b,hbb⟩:∃b,b=decide (0<i):=⟨_,rfl⟩
   obtain⟨fr,hfr⟩:∃fr,fr=r.f1:=⟨_,rfl⟩
   rw[←hbb,←hfr]at hcl hcl2;rw[←hbb]at q0;rw[←hfr]at y1;have hb2:=hbb.symm;clear hbb hfr;cases b
   all_goals cases fr
   all_goals (
    simp only[Bool.false_or,Bool.true_or,Bool.or_false,Bool.or_true]at hcl2 hcl
    go_upto_region 7 with (first | (go_at_call 61;(with_reducible refine (Zfx _ _ _).mono ?_);rintro e w7 ⟨rfl,rfl⟩))
    clear hcl2 hcl q0 hb2 x1 y1
    go_wp2_with (first
     | (go_at_call 89;(with_reducible refine (HN.out _ HBX.out).mono ?_);rintro e w8 ⟨rfl,hb⟩;have HB8:=Zaa.mk (Zaf HBX.out hb);have k8:=Zag HSX.out hb;have HK8:=Zaa.mk (Zag HKX.out hb);have v1:=(Zac k8 1).trans rfl;have v2:=(Zac k8 2).trans rfl;have v3:=(Zac k8 3).trans rfl;have v4:=(Zac k8 4).trans rfl;clear hb k8)
     | (go_at_call 90;(with_reducible refine (HPT.out _ HB8.out).mono ?_);rintro e w9 ⟨rfl,hb⟩;have HB9:=Zaa.mk (Zaf HB8.out hb);have HK9:=Zaa.mk (Zag HK8.out hb);clear hb))
    go_roundw
    case rel=>
     have hf2:=HF.out;have hw:wrap64 ((i:Int)+1)=i+1:=(by unfold wrap64;omega)
     exact⟨i+1,by omega,by rw[hw];simp,HB9,HK9⟩
    case measure=>have:=HF.out;have hw:wrap64 ((i:Int)+1)=i+1:=(by unfold wrap64;omega);rw[hw];simp only[intOf];omega)
  ·obtain rfl:i=r.f2.length:=by omega
   go_wp2
   go_end0
   exact⟨rfl,HBR.out⟩
structure Zsk (G:S26):Prop where
 one:1≤G.f0.length
 few:G.f0.length≤16
 toks:∀i:Nat,i<G.f0.length→Zqa G.f0 i
 rfew:G.f1.length≤8
 rules:∀i:Nat,i<G.f1.length→Zqb G.f0 (G.f1.getD i z52)
structure GramR (w:World)(G:S26)(At Ar:Option Addr)(ct cr:Nat):Prop where
 lt:G.f0.length≤ct
 toks:k70.C w At G.f0.length G.f0
 lr:G.f1.length≤cr
 rules:k52.C w Ar G.f1.length G.f1
theorem GramR.below {w W:World}{G:S26}{At Ar:Option Addr}{ct cr:Nat}(h:GramR w G At Ar ct cr)(hb:Below w.heap.size w W):GramR W G At Ar ct cr:=⟨h.lt,Kd.C_below h.toks hb,h.lr,Kd.C_below h.rules hb⟩
set_option maxHeartbeats 4000000 in
theorem work_call (w:World)(G:S26)(At Ar:Option Addr)(ct cr:Nat)(hr:GramR w G At Ar ct cr)(hg:Zsk G)(ho:Own w)(gg:Nat)(hgg:w.heap[gg]?=some (.cells #[.slice At G.f0.length ct,.slice Ar G.f1.length cr] 26 (0,0))) :
 Calls Tryz.prog 60 #[.pointer (some ⟨gg,0,none⟩)] w fun e w'=>e=.returned (.tuple #[])∧Below w.heap.size w w':=by
 have HR:=Zaa.mk hr;have HG:=Zaa.mk hg;have HO:=Zaa.mk ho;have HGG:=Zaa.mk hgg;have q0:w.cell? ⟨gg,0,none⟩=some (.slice At G.f0.length ct):=(Zac hgg 0).trans rfl;have q1:w.cell? ⟨gg,1,none⟩=some (.slice Ar G.f1.length cr):=(Zac hgg 1).trans rfl;have q2:∀o,(w.alloc o).cell? ⟨gg,0,none⟩=some (.slice At G.f0.length ct):=fun o=>(Zac (Zan hgg o) 0).trans rfl
 have t1:decide ((1:Int)≤(G.f0.length:Int))=true:=decide_eq_true (by have:=hg.one;omega);have t2:decide ((G.f0.length:Int)≤16)=true:=decide_eq_true (by have:=hg.few;omega);have HBC:=Zaa.mk (Zae (Below.refl _ w) (.cells #[.slice At G.f0.length ct,.slice Ar G.f1.length cr,.int .i64 0] 126));have HKC:=Zaa.mk (Zaq w (.cells #[.slice At G.f0.length ct,.slice Ar G.f1.length cr,.int .i64 0] 126));clear hr hg ho hgg
 go_enter Tryz.func60,Tryz.ntmps60
 go_wp2_with (go_at_call 61;(with_reducible refine (Zfx _ _ _).mono ?_);rintro e w7 ⟨rfl,rfl⟩)
 obtain⟨gc,hgc⟩:∃gc,gc=w.heap.size:=⟨_,rfl⟩
 have HGC:Zaa (w.heap.size≤gc):=⟨by omega⟩
 rw[←hgc]at HKC ⊢;clear hgc q0 q1 q2 t1 t2;generalize w.alloc (.cells #[.slice At G.f0.length ct,.slice Ar G.f1.length cr,.int .i64 0] 126)=X at *
 go_loopw [23] (fun s wr=>∃(i:Nat) (wh:Int),i≤G.f0.length∧s=.int .i64 i∧Zaa (Below w.heap.size w wr)∧Zaa (wr.heap[gc]?=some (.cells #[.slice At G.f0.length ct,.slice Ar G.f1.length cr,.int .i64 wh] 126 (0,0)))) (fun i _=>G.f0.length-(intOf i).toNat)
 case atStart=>exact⟨0,0,Nat.zero_le _,rfl,HBC,HKC⟩
 case round=>
  obtain⟨i,wh,hi,rfl,HB,HK⟩:=hrel;by_cases hil:i<G.f0.length
  ·have d2:wr.cell? ⟨gc,2,none⟩=some (.int .i64 wh):=(Zac HK.out 2).trans rfl;have d3:wr.frozen? ⟨gc,2,none⟩=false:=Zat HK.out 2;have HBS:=Zaa.mk (Zds (j:=2) (v:=.int .i64 i) HB.out HGC.out);have HKS:=Zaa.mk (Zcd HK.out 2 (.int .i64 i) rfl);have HC:Zaa (Crt (wr.setCell ⟨gc,2,none⟩ (.int .i64 i)) gc At Ar ct cr G.f0 G.f1.length i):=⟨HKS.out,Kd.C_below HR.out.toks HBS.out,HG.out.few⟩
   have HT:=Zaa.mk (token_call _ gc At Ar ct cr G.f0 G.f1.length i HC.out (HO.out.below HBS.out) i (HG.out.toks i hil))
   go_wp2_with (go_at_call 62;(with_reducible refine HT.out.mono ?_);rintro e w8 ⟨rfl,hb⟩;have HB8:=Zaa.mk (Zaf HBS.out hb);have HK8:=Zaa.mk (Zag HKS.out hb);clear hb)
   go_roundw
   case rel=>
    have hf2:=HG.out.few;have hw:wrap64 ((i:Int)+1)=i+1:=(by unfold wrap64;omega)
    exact⟨i+1,_,by omega,by rw[hw];simp,HB8,HK8⟩
   case measure=>have:=HG.out.few;have hw:wrap64 ((i:Int)+1)=i+1:=(by unfold wrap64;omega);rw[hw];simp only[intOf];omega
  ·obtain rfl:i=G.f0.length:=by omega
   have e0:wr.cell? ⟨gg,0,none⟩=some (.slice At G.f0.length ct):=(Zac (Zag HGG.out HB.out) 0).trans rfl;have e1:wr.cell? ⟨gg,1,none⟩=some (.slice Ar G.f1.length cr):=(Zac (Zag HGG.out HB.out) 1).trans rfl;have d2:wr.cell? ⟨gc,2,none⟩=some (.int .i64 wh):=(Zac HK.out 2).trans rfl;have d3:wr.frozen? ⟨gc,2,none⟩=false:=Zat HK.out 2;have HBS:=Zaa.mk (Zds (j:=2) (v:=.int .i64 (G.f0.length:Nat)) HB.out HGC.out);have HKS:=Zaa.mk (Zcd HK.out 2 (.int .i64 (G.f0.length:Nat)) rfl)
   go_upto_region 9 with (fail)
   generalize wr.setCell ⟨gc,2,none⟩ (.int .i64 (G.f0.length:Nat))=Y at *;have e0:Y.cell? ⟨gg,0,none⟩=some (.slice At G.f0.length ct):=(Zac (Zag HGG.out HBS.out) 0).trans rfl;have e1:Y.cell? ⟨gg,1,none⟩=some (.slice Ar G.f1.length cr):=(Zac (Zag HGG.out HBS.out) 1).trans rfl;have t3:decide ((G.f1.length:Int)≤8)=true:=decide_eq_true (by have:=HG.out.rfew;omega);clear d2 d3
   go_wp2_with (go_at_call 61;(with_reducible refine (Zfx _ _ _).mono ?_);rintro e w7 ⟨rfl,rfl⟩)
   clear t3
   go_loopw [49] (fun s wr=>∃(i:Nat) (wh:Int),i≤G.f1.length∧s=.int .i64 i∧Zaa (Below w.heap.size w wr)∧Zaa (wr.heap[gc]?=some (.cells #[.slice At G.f0.length ct,.slice Ar G.f1.length cr,.int .i64 wh] 126 (0,0)))) (fun i _=>G.f1.length-(intOf i).toNat)
   case atStart=>exact⟨0,_,Nat.zero_le _,rfl,HBS,HKS⟩
   case round=>
    clear HB HK HBS HKS e0 e1;obtain⟨i,wh2,hi,rfl,HB,HK⟩:=hrel;by_cases hil:i<G.f1.length
    ·obtain⟨ad,S2,sc,rfl,m0,m1,m2,ls2,hs2⟩:=Zmx HR.out.rules (i:Int) (by omega) (by omega);have m0:=Zab HB.out m0;have m1:=Zab HB.out m1;have m2:=Zab HB.out m2;rw[Int.toNat_natCast]at m0 m1 m2;change wr.cell? (ad.add (i*3))=some (.int .i64 (G.f1.getD i z52).f0)at m0;change wr.cell? ⟨_,_,none⟩=some (.bool (G.f1.getD i z52).f1)at m1;change wr.cell? ⟨_,_,none⟩=some (.slice S2 (G.f1.getD i z52).f2.length sc)at m2;change (G.f1.getD i z52).f2.length≤sc at ls2;change k79.C w S2 (G.f1.getD i z52).f2.length (G.f1.getD i z52).f2 at hs2;have hgood:=HG.out.rules i hil;obtain⟨r,hre⟩:∃r,r=G.f1.getD i z52:=⟨_,rfl⟩
     rw[←hre]at m0 m1 m2 ls2 hs2 hgood;clear hre;have HRC:=Zaa.mk (fun W (hb:Below w.heap.size w W)=>(⟨S2,sc,rfl,ls2,Kd.C_below hs2 hb⟩:RuleR W r (.agg #[.int .i64 r.f0,.bool r.f1,.slice S2 r.f2.length sc])));have HGD:=Zaa.mk hgood;have g0:∀o,(wr.alloc o).cell? ⟨gg,0,none⟩=some (.slice At G.f0.length ct):=fun o=>(Zac (Zan (Zag HGG.out HB.out) o) 0).trans rfl
     have d2:∀o,(wr.alloc o).cell? ⟨gc,2,none⟩=some (.int .i64 wh2):=fun o=>(Zac (Zan HK.out o) 2).trans rfl
     have d3:∀o,(wr.alloc o).frozen? ⟨gc,2,none⟩=false:=fun o=>Zat (Zan HK.out o) 2
     have hw2:wrap64 ((G.f0.length:Int)+(i:Int))=(G.f0.length:Int)+(i:Int):=by have:=HG.out.few;have:=HG.out.rfew;unfold wrap64;omega
     have hgcl:=Zbj HK.out;have HBA:=Zaa.mk (Zaf HB.out (Zae (Below.refl _ wr) (.cells #[.int .i64 r.f0,.bool r.f1,.slice S2 r.f2.length sc] 52)));have HKA:=Zaa.mk (Zan HK.out (.cells #[.int .i64 r.f0,.bool r.f1,.slice S2 r.f2.length sc] 52));have HNA:=Zaa.mk (Zaq wr (.cells #[.int .i64 r.f0,.bool r.f1,.slice S2 r.f2.length sc] 52));have HLG:Zaa (wr.heap.size≠gc):=⟨by omega⟩
     clear ls2 hs2 hgood hgcl
     go_upto_region 14 with (fail)
     have HBS:=Zaa.mk (Zds (j:=2) (v:=.int .i64 ((G.f0.length:Int)+(i:Int))) HBA.out HGC.out);have HKS:=Zaa.mk (Zcd HKA.out 2 (.int .i64 ((G.f0.length:Int)+(i:Int))) rfl);have HNS:=Zaa.mk (Zdv HNA.out (p:=⟨gc,2,none⟩) HLG.out (.int .i64 ((G.f0.length:Int)+(i:Int))));generalize (wr.alloc (.cells #[.int .i64 r.f0,.bool r.f1,.slice S2 r.f2.length sc] 52)).setCell ⟨gc,2,none⟩ (.int .i64 ((G.f0.length:Int)+(i:Int)))=Z at *;have z0:=(Zac HNS.out 0).trans rfl;have z1:=(Zac HNS.out 1).trans rfl;have z2:=(Zac HNS.out 2).trans rfl;have HC:Zaa (Crt Z gc At (some ad) ct cr G.f0 G.f1.length ((G.f0.length:Int)+(i:Int))):=⟨HKS.out,Kd.C_below HR.out.toks HBS.out,HG.out.few⟩
     have HRU:=Zaa.mk (crule_call Z gc At (some ad) ct cr G.f0 G.f1.length _ HC.out r _ HGD.out (HRC.out Z HBS.out));clear m0 m1 m2 g0 d2 d3 hw2
     go_wp2_with (go_at_call 63;(with_reducible refine HRU.out.mono ?_);rintro e w8 ⟨rfl,hb⟩;have HB8:=Zaa.mk (Zaf HBS.out hb);have HK8:=Zaa.mk (Zag HKS.out hb);clear hb)
     go_roundw
     case rel=>
      have hf2:=HG.out.rfew;have hw:wrap64 ((i:Int)+1)=i+1:=(by unfold wrap64;omega)
      exact⟨i+1,_,by omega,by rw[hw];simp,HB8,HK8⟩
     case measure=>have:=HG.out.rfew;have hw:wrap64 ((i:Int)+1)=i+1:=(by unfold wrap64;omega);rw[hw];simp only[intOf];omega
    ·obtain rfl:i=G.f1.length:=by omega
     go_wp2
     go_end0
     exact⟨rfl,HB.out⟩
theorem Zsa (p:Addr)(w:World):CallsD Tryz.prog 83 #[.pointer (some p)] .returning w fun e u' w'=>e=.returned (.tuple #[])∧u'=.returning∧w'=w:=by
 refine callsD_of_wpS Tryz.func83 rfl fun c₀ cs hu=>?_
 apply wpS_seq;apply wpS_region;simp[wpOpsS,go_sem,recoverD,hu,Tryz.ntmps83,Exit.thenS];apply wpS_seq;apply wpS_region;simp[wpOpsS,go_sem,Exit.thenS];refine wpS_cond (t:=false) (by simp[Act.eval,Array.replicate]) ?_
 simp only[Bool.false_eq_true,if_false];refine wpS_of_wp (wp_skip ?_);cases c₀
 simp_all [bodyPostS,results,Tryz.results83]
theorem caught_ok (w:World)(gg:Nat)(hw:∀W,Below w.heap.size w W→Calls Tryz.prog 60 #[.pointer (some ⟨gg,0,none⟩)] W fun e w'=>e=.returned (.tuple #[])∧Below W.heap.size W w') :
 Calls Tryz.prog 59 #[.func (.func 60) #[] #[.pointer (some ⟨gg,0,none⟩)]] w fun e w'=>e=.returned (.agg #[.int .i64 0,.int .i64 0])∧Below w.heap.size w w':=by
 have hmf:∀(fn:Fn) (first cap:Array Value) (w:World),(Instr.makeFunc fn first cap).run Tryz.prog w=.ok (.func fn first cap) w:=fun _ _ _ _=>rfl
 have eg:∀args w,(callFunc 60 args).run Tryz.prog w=.ok (.enter 60 args) w:=enters_of Tryz.func60 (by kernel_rfl) rfl;have HB:=Zaa.mk (Zae (Below.refl _ w) (.cells #[.int .i64 0,.int .i64 0] 122));have HK:=Zaa.mk (Zaq w (.cells #[.int .i64 0,.int .i64 0] 122));have HW:=Zaa.mk (hw _ HB.out);clear hw
 go_enter_defers Tryz.func59,Tryz.ntmps59
 go_wp2_with (go_at_fn 60;(with_reducible refine HW.out.mono ?_);rintro e w1 ⟨rfl,hb⟩;have HB1:=Zaa.mk (Zaf HB.out hb);have HK1:=Zaa.mk (Zag HK.out hb);have b0:=(Zac HK1.out 0).trans rfl;have b1:=(Zac HK1.out 1).trans rfl;have f0:=Zat HK1.out 0;have f1:=Zat HK1.out 1;clear hb)
 refine leaves_cons (f:=83) (args:=#[.pointer (some ⟨w.heap.size,0,none⟩)]) (by simp) (by simp[go_sem]) ?_
 refine (Zsa ⟨w.heap.size,0,none⟩ _).mono ?_
 rintro e u' w'' ⟨rfl,rfl,rfl⟩;have HBY:=Zds (j:=1) (v:=.int .i64 0) (Zds (j:=0) (v:=.int .i64 0) HB1.out (Nat.le_refl _)) (Nat.le_refl _);have kY:=Zcd (Zcd HK1.out 0 (.int .i64 0) rfl) 1 (.int .i64 0) rfl;generalize (w1.setCell ⟨w.heap.size,0,none⟩ (.int .i64 0)).setCell ⟨w.heap.size,1,none⟩ (.int .i64 0)=Y at *;have y0:Y.cell? ⟨w.heap.size,0,none⟩=some (.int .i64 0):=(Zac kY 0).trans rfl;have y1:Y.cell? ⟨w.heap.size,1,none⟩=some (.int .i64 0):=(Zac kY 1).trans rfl;clear b0 b1 f0 f1 HK1 HB1 HW HK HB;simp[Leaves,settle,results,Tryz.results59,go_sem,y0,y1];exact HBY
set_option maxHeartbeats 1000000 in
theorem check_ok (w:World)(G:S26)(At Ar:Option Addr)(ct cr:Nat)(hr:GramR w G At Ar ct cr)(hg:Zsk G)(ho:Own w) :
 Calls Tryz.prog 31 #[.agg #[.slice At G.f0.length ct,.slice Ar G.f1.length cr]] w fun e w'=>e=.returned (.tuple #[.int .i64 0,.int .i64 0])∧Below w.heap.size w w':=by
 have hmf:∀(fn:Fn) (first cap:Array Value) (w:World),(Instr.makeFunc fn first cap).run Tryz.prog w=.ok (.func fn first cap) w:=fun _ _ _ _=>rfl
 have HB:=Zaa.mk (Zae (Below.refl _ w) (.cells #[.slice At G.f0.length ct,.slice Ar G.f1.length cr] 26));have HK:=Zaa.mk (Zaq w (.cells #[.slice At G.f0.length ct,.slice Ar G.f1.length cr] 26));have HC:=Zaa.mk (caught_ok (w.alloc (.cells #[.slice At G.f0.length ct,.slice Ar G.f1.length cr] 26)) w.heap.size (fun W hb=>work_call W G At Ar ct cr (hr.below (Zaf HB.out hb)) hg (ho.below (Zaf HB.out hb)) w.heap.size (Zag HK.out hb)));clear hr hg ho
 go_enter Tryz.func31,Tryz.ntmps31
 go_upto_region 2 with (go_at_call 59;(with_reducible refine HC.out.mono ?_);rintro e w1 ⟨rfl,hb⟩;have HB1:=Zaa.mk (Zaf HB.out hb);clear hb)
 go_quiet (fail)
 go_wp2
 go_ret2
 exact⟨rfl,Zah (Zaf HB1.out (Zae Zbr _)) _⟩
def Picked (g n:Nat)(v:Value):Prop:=∃o m c,v=.slice (some ⟨g,o,none⟩) m c∧1≤m∧o+m≤n∧m≤c
theorem tmod_two (k:Int):(IntKind.u64.wrap k).tmod 2=0∨(IntKind.u64.wrap k).tmod 2=1:=by
 have h:IntKind.u64.wrap k=k % 18446744073709551616:=by rw[IntKind.wrap_u64]
 rw[h];have h0:0≤k % 18446744073709551616:=Int.emod_nonneg _ (by decide);rw[Int.tmod_eq_emod_of_nonneg h0];omega
theorem pick1_call (g:Nat)(k:Int)(w:World) :
 Calls Tryz.prog 30 #[.slice (some ⟨g,0,none⟩) 1 1,.int .i64 k] w fun e w'=>(∃v,e=.returned v∧Picked g 1 v)∧w'=w:=by
 have h1:(IntKind.u64.wrap k).tmod 1=0:=Int.tmod_one _;by_cases hb:bits BinOp.and IntKind.i64 k 1=1
 ·go_enter Tryz.func30,Tryz.ntmps30
  go_wp2
  go_ret
  exact⟨⟨_,rfl,0,1,1,rfl,by omega,by omega,by omega⟩,rfl⟩
 ·go_enter Tryz.func30,Tryz.ntmps30
  go_wp2
  go_ret
  exact⟨⟨_,rfl,0,1,1,rfl,by omega,by omega,by omega⟩,rfl⟩
theorem pick2_call (g:Nat)(k:Int)(w:World) :
 Calls Tryz.prog 30 #[.slice (some ⟨g,0,none⟩) 2 2,.int .i64 k] w fun e w'=>(∃v,e=.returned v∧Picked g 2 v)∧w'=w:=by
 by_cases hb:bits BinOp.and IntKind.i64 k 1=1
 ·go_enter Tryz.func30,Tryz.ntmps30
  go_wp2
  go_ret
  exact⟨⟨_,rfl,0,2,2,rfl,by omega,by omega,by omega⟩,rfl⟩
 ·rcases tmod_two k with h1 | h1
  ·go_enter Tryz.func30,Tryz.ntmps30
   go_wp2
   go_ret
   exact⟨⟨_,rfl,0,1,2,rfl,by omega,by omega,by omega⟩,rfl⟩
  ·go_enter Tryz.func30,Tryz.ntmps30
   go_wp2
   go_ret
   exact⟨⟨_,rfl,1,1,1,rfl,by omega,by omega,by omega⟩,rfl⟩
theorem pick_call (g n:Nat)(hn:n=1∨n=2)(k:Int)(w:World) :
 Calls Tryz.prog 30 #[.slice (some ⟨g,0,none⟩) n n,.int .i64 k] w fun e w'=>(∃v,e=.returned v∧Picked g n v)∧w'=w:=by
 rcases hn with rfl | rfl
 ·exact pick1_call g k w
 ·exact pick2_call g k w
structure LitS (w:World)(g:Nat)(l:List ByteArray):Prop where
 blk:w.heap[g]?=some (.cells (l.map Value.string).toArray 9 (0,0))
theorem LitS.below {w W:World}{g:Nat}{l:List ByteArray}(h:LitS w g l)(hb:Below w.heap.size w W):LitS W g l:=⟨Zag h.blk hb⟩
theorem picked_all {g n:Nat}{l:List ByteArray}(hl:l.length=n)(hn:n≤2){v:Value}(hp:Picked g n v):∃A c l',v=.slice A l'.length c∧l'.length≤c∧l'≠[]∧(∃o m,l'=(l.drop o).take m)∧∀w,LitS w g l→Kd.string.C w A l'.length l':=by
 obtain⟨o,m,c,rfl,h1,h2,h3⟩:=hp;have hlen:((l.drop o).take m).length=m:=by rw[List.length_take,List.length_drop];omega
 refine⟨some ⟨g,o,none⟩,c,(l.drop o).take m,by rw[hlen],by omega,fun e=>by rw[e]at hlen;simp at hlen;omega,⟨o,m,rfl⟩,fun w h=>?_⟩;refine⟨rfl,by omega,fun _=>⟨_,rfl,fun j p hj=>?_⟩⟩;refine⟨[.string p],rfl,rfl,fun i u hi=>?_⟩;cases i with
 | succ i=>simp at hi
 | zero=>
  simp at hi;subst hi;rw[List.getElem?_take]at hj
  split at hj
  ·rw[List.getElem?_drop]at hj;have e1:(⟨g,o,none⟩:Addr).add (j*Kd.string.sz+0)=⟨g,o+j,none⟩:=by
    show (⟨g,o,none⟩:Addr).add (j*1+0)=_;rw[Nat.mul_one,Nat.add_zero];unfold Addr.add
    split
    ·rename_i hz;simp at hz ⊢
    ·rfl
   rw[e1,Zac h.blk];simp[hj]
  ·cases hj
def Zco (pl:List Pl)(tt:List Int)(q:Nat):List Pl:=pl.set q { pl.getD q zPl with follow:=Zay (pl.getD q zPl).follow tt }
def Zgi (pl:List Pl)(tt frm:List Int):Nat→List Pl
 | 0=>pl
 | k+1=>Zco (Zgi pl tt frm k) tt (rd frm k).toNat
def linkL (pl:List Pl)(frm tt:List Int):List Pl:=Zgi pl tt frm frm.length
def AllRis (n:Nat)(pl:List Pl):Prop:=∀q,Ris n (pl.getD q zPl).follow
theorem Zfy (pl:List Pl)(tt:List Int)(q:Nat):(Zco pl tt q).length=pl.length:=by simp[Zco]
theorem Zce (pl:List Pl)(tt frm:List Int)(k:Nat):(Zgi pl tt frm k).length=pl.length:=by
 induction k with
 | zero=>rfl
 | succ k ih=>show (Zco _ _ _).length=_;rw[Zfy,ih]
theorem Zda (pl:List Pl)(p q:Nat)(y:Pl):(pl.set p y).getD q zPl=if p=q∧q<pl.length then y else pl.getD q zPl:=by
 rw[List.getD_eq_getElem?_getD,List.getD_eq_getElem?_getD,List.getElem?_set];by_cases h:p=q
 ·subst h;by_cases h2:p<pl.length
  ·simp[h2]
  ·simp[h2]
 ·simp[h]
theorem AllRis.one {n:Nat}{pl:List Pl}{tt:List Int}(h:AllRis n pl)(ht:∀q∈tt,0≤q∧q<n)(p:Nat):AllRis n (Zco pl tt p):=by
 intro q;unfold Zco;rw[Zda]
 split
 ·exact Zgm (h p).2 ht
 ·exact h q
theorem AllRis.link {n:Nat}{pl:List Pl}{tt:List Int}(h:AllRis n pl)(ht:∀q∈tt,0≤q∧q<n)(frm:List Int)(k:Nat):AllRis n (Zgi pl tt frm k):=by
 induction k with
 | zero=>exact h
 | succ k ih=>exact AllRis.one ih ht _
theorem AllRis.mono {n m:Nat}{pl:List Pl}(h:AllRis n pl)(hm:n≤m):AllRis m pl:=fun q=>(h q).mono hm
theorem AllRis.add {n:Nat}{pl:List Pl}(h:AllRis n pl){x:Pl}(hx:Ris n x.follow):AllRis n (pl++[x]):=by
 intro q;rw[List.getD_eq_getElem?_getD]
 rcases Nat.lt_trichotomy q pl.length with hq | hq | hq
 ·rw[List.getElem?_append_left hq,←List.getD_eq_getElem?_getD];exact h q
 ·subst hq;simp;exact hx
 ·rw[List.getElem?_eq_none (by simp;omega)];exact Ris.nil n
theorem VS.froz {w0:W0}{W:World}{gb:Nat}{h0 h1 vs vf:Value}{φ:Nat→Nat}{v:Value}{pl:List Pl}{sh:List (Nat × Sh)}(h:VS w0 W gb h0 h1 vs vf φ v pl sh){n:Nat}{A:Option Addr}{c:Nat}(hv:v=.slice A n c){ad:Addr}(hA:A=some ad)(m j:Nat):W.frozen? ⟨(ad.add m).block,(ad.add m).off+j,none⟩=false:=by
 subst hv;subst hA;obtain⟨inner,ho,_⟩:=h.row;obtain⟨cells,hb⟩:=Zbs ho ad.block rfl;rw[add_block];exact Zat hb _
theorem Zfv {l:List Int}{k:Nat}(h:k<l.length):rd l k∈l:=by
 unfold rd;rw[List.getD_eq_getElem?_getD,Int.toNat_natCast,List.getElem?_eq_getElem h];exact List.getElem_mem h
set_option maxHeartbeats 4000000 in
theorem Zmj (w0:W0)(W:World)(gb:Nat)(h0 h1 vs vf:Value)(φ:Nat→Nat)(v:Value)(pl:List Pl)(sh:List (Nat × Sh))(h:VS w0 W gb h0 h1 vs vf φ v pl sh)(v1 v2:Value)(frm tt:List Int)(hf:Ri w0 W v1 frm)(ht:Ri w0 W v2 tt)
 (rf:Ris pl.length frm) (rt:Ris pl.length tt) (ra:AllRis pl.length pl) (hl:pl.length≤100000) :
 Calls Tryz.prog 91 #[.pointer (some ⟨gb,0,none⟩),v1,v2] W fun e w'=>e=.returned (.tuple #[])∧VS w0 w' gb h0 h1 vs vf φ v (linkL pl frm tt) sh∧KeptV W w' gb v:=by
 have HF:=Zaa.mk hf;have HT:=Zaa.mk ht;obtain⟨A1,c1,rfl,l1,_⟩:=hf.C;obtain⟨A2,c2,rfl,l2,_⟩:=ht.C;have HRF:=Zaa.mk rf;have HRT:=Zaa.mk rt;have HRA:=Zaa.mk ra;have HH:=Zaa.mk h;obtain⟨A,c,rfl,_⟩:=h.row.slice_;have lf:=rf.len;have lt:=rt.len;clear hf ht rf rt ra h
 go_enter Tryz.func91,Tryz.ntmps91
 go_wp2
 go_loopw [10] (fun i wr=>∃k:Nat,k≤frm.length∧i=.int .i64 k∧Zaa (VS w0 wr gb h0 h1 vs vf φ (.slice A pl.length c) (Zgi pl tt frm k) sh)∧Zaa (KeptV W wr gb (.slice A pl.length c))) (fun i _=>frm.length-(intOf i).toNat)
 case atStart=>exact⟨0,Nat.zero_le _,rfl,⟨HH.out⟩,⟨KeptV.refl _ _ _⟩⟩
 case round=>
  obtain⟨k,hk,rfl,HV,HK⟩:=hrel;by_cases hkn:k<frm.length
  ·have hr1:=HF.out.same (HH.out.same3 HK.out);have hr2:=HT.out.same (HH.out.same3 HK.out);obtain⟨A1',c1',e1,_,g1⟩:=hr1.C;injection e1 with e1 _ e2
   subst e1;subst e2;obtain⟨ad,rfl,hq0⟩:=Kd.at_int g1 (k:Int) (by omega) (by omega);rw[Int.toNat_natCast]at hq0;have hmem:=HRF.out.2 _ (Zfv hkn);obtain⟨q0,q1⟩:=hmem;have hlk:=Zce pl tt frm k;have hrk:=(HRA.out.link (HRT.out.2) frm k)
   obtain⟨pk,hpk⟩:∃pk,pk=Zgi pl tt frm k:=⟨_,rfl⟩
   have HPK:Zaa (Zgi pl tt frm (k+1)=Zco pk tt (rd frm k).toNat):=⟨by rw[hpk];rfl⟩
   rw[←hpk]at HV hlk hrk;clear hpk;obtain⟨bd,cs,rfl,hps,hcell,hfz⟩:=HV.out.at_ (A:=A) (c:=c) (by rw[hlk]) (rd frm k).toNat (by omega);obtain⟨B1,d1,B2,d2,B3,d3,v4,rfl,_,_,_,_,_,_,r4⟩:=hps;obtain⟨B4,d4,rfl,ld4,g4⟩:=r4.C;have y7:=hcell 7 _ rfl;have y2:=HV.out.cell2;have HFR:=Zaa.mk hfz;obtain⟨A2',c2',e2,_,g2⟩:=hr2.C;injection e2 with e2 _ e3
   subst e2;subst e3;have hfl:=(hrk (rd frm k).toNat).len;have HB:=Zaa.mk (fun n=>Zey B4 A2 d4 c2 _ _ (wr.drewN n) (Kd.C_drewN g4 n) (Kd.C_drewN g2 n) (by omega) (by omega));have hF:Zaa (Zco pk tt (rd frm k).toNat=pk.set (rd frm k).toNat { pk.getD (rd frm k).toNat zPl with follow:=Zay (pk.getD (rd frm k).toNat zPl).follow tt }):=⟨rfl⟩
   clear hcell hfz g4 g2 r4 hr1 hr2 hrk g1 hfl ld4;generalize Zay (pk.getD (rd frm k).toNat zPl).follow tt=bl at HB hF;generalize (pk.getD (rd frm k).toNat zPl).follow=fl at y7 HB;generalize rd frm k=q at *
   go_upto_region 3 with (fail)
   refine Zdb ?_
   go_region_law (first | (go_simp;go_at_call 39;(with_reducible refine (HB.out _).mono ?_);rintro e w6 ⟨v6,rfl,ho6,hb6⟩;obtain⟨A6,c6,rfl⟩:=Kd.R_slice ho6;have hb6:=Zaf (w:=wr) (Zah Zbr 1) hb6;have HV6:=Zaa.mk (HV.out.below hb6);have HO6:=Zaa.mk (HV.out.ri ho6 (Nat.le_refl _));have y7b:=Zab hb6 y7;have y2b:=Zab hb6 y2;have hfb:=VS.froz HV6.out rfl rfl (q.toNat*9) 7;have HB6:=Zaa.mk hb6;clear ho6 hb6) | fail)
   all_goals (
    have hst:=HV6.out.setAt (A:=some bd) (c:=c) (by rw[hlk]) rfl q.toNat (by omega) 7 (by omega) (.slice A6 bl.length c6) { pk.getD q.toNat zPl with follow:=bl } (fun c hc hp=>hp.setFollow HO6.out);have HST:=Zaa.mk hst;clear hst;go_wp2
    go_roundw
    case rel=>exact⟨k+1,by omega,by go_num,⟨by rw[HPK.out,hF.out];exact HST.out.1⟩,⟨HK.out.trans ((KeptV.of_below HB6.out gb (.slice (some bd) pl.length c)).trans HST.out.2 (NewOr.refl _ _)) (NewOr.refl _ _)⟩⟩
    case measure=>simp[intOf];omega)
  ·obtain rfl:k=frm.length:=by omega
   go_wp2
   go_end0
   exact⟨rfl,HV.out,HK.out⟩
structure St where
 pl:List Pl
 sh:List (Nat × Sh)
structure Sx where
 first:List Int
 last:List Int
 empty:Bool
def Zax (b:Nat)(p:S76):Pl:=⟨3,some b,p,none,[],0⟩
def Zbc (b:Nat):Pl:=⟨2,some b,z76,none,[],0⟩
def St.add (s:St)(x:Pl):St:=⟨s.pl++[x],s.sh⟩
def St.link (s:St)(frm tt:List Int):St:=⟨linkL s.pl frm tt,s.sh⟩
def St.inner (s:St)(k b:Nat):St:=⟨s.pl.set k { s.pl.getD k zPl with inner:=some b },s.sh⟩
def St.close (s:St)(b:Nat)(x:Sx)(rule step:Int):St:=⟨s.pl,s.sh++[(b,⟨x.first,x.last,x.empty,rule,step⟩)]⟩
def Zgn (wk:Nat→S76→St→Sx × St)(p:S76)(rule step:Int)(s:St):St:=
 (wk s.pl.length p (s.add (Zbc s.pl.length))).2.close s.pl.length (wk s.pl.length p (s.add (Zbc s.pl.length))).1 rule step
def Zst (a c:Sx):Sx:=⟨if a.empty=true then Zay a.first c.first else a.first,if c.empty=true then Zay a.last c.last else c.last,a.empty&&c.empty⟩
def altX (a c:Sx):Sx:=⟨Zay a.first c.first,Zay a.last c.last,a.empty||c.empty⟩
def Zde (b:Nat)(p:S76)(s:St):St:=if p.f0=4 then (s.add (Zax b p)).link [(s.pl.length:Int)] [(s.pl.length:Int)]else s.add (Zax b p)
def Zeh (wk:Nat→S76→St→Sx × St)(b:Nat)(p:S76)(s:St):St:=
 if p.f0=3 then (Zgn wk (Zaj p.f3 0) (-1) (-1) (Zde b p s)).inner s.pl.length (Zde b p s).pl.length else Zde b p s
def Zau:Nat→Nat→S76→St→Sx × St
 | 0,_,_,s=>(⟨[],[],true⟩,s)
 | n+1,b,p,s=>
  if p.f0=2∨p.f0=4∨p.f0=3 then (⟨[(s.pl.length:Int)],[(s.pl.length:Int)],decide (p.f0=4)⟩,Zeh (Zau n) b p s)
  else if p.f0=5 then
   (Zst (Zau n b (Zaj p.f3 0) s).1 (Zau n b (Zaj p.f3 1) (Zau n b (Zaj p.f3 0) s).2).1,
    (Zau n b (Zaj p.f3 1) (Zau n b (Zaj p.f3 0) s).2).2.link (Zau n b (Zaj p.f3 0) s).1.last (Zau n b (Zaj p.f3 1) (Zau n b (Zaj p.f3 0) s).2).1.first)
  else if p.f0=6 then
   (altX (Zau n b (Zaj p.f3 0) s).1 (Zau n b (Zaj p.f3 1) (Zau n b (Zaj p.f3 0) s).2).1,(Zau n b (Zaj p.f3 1) (Zau n b (Zaj p.f3 0) s).2).2)
  else if p.f0=7 then
   (⟨(Zau n b (Zaj p.f3 0) s).1.first,(Zau n b (Zaj p.f3 0) s).1.last,true⟩,(Zau n b (Zaj p.f3 0) s).2.link (Zau n b (Zaj p.f3 0) s).1.last (Zau n b (Zaj p.f3 0) s).1.first)
  else (⟨[],[],true⟩,s)
def Zcx:Nat→S76→Nat
 | 0,_=>0
 | n+1,p=>
  if p.f0=3 then 2+Zcx n (Zaj p.f3 0)
  else if p.f0=2∨p.f0=4 then 1
  else if p.f0=5∨p.f0=6 then Zcx n (Zaj p.f3 0)+Zcx n (Zaj p.f3 1)
  else if p.f0=7 then Zcx n (Zaj p.f3 0)
  else 0
def Zen:Nat→S76→Prop
 | 0,_=>False
 | n+1,p=>p.f1.length≤100000∧p.f2.length≤100000∧(p.f0=3→1≤p.f3.length∧Zen n (Zaj p.f3 0)) ∧
  (p.f0=5∨p.f0=6→2≤p.f3.length∧Zen n (Zaj p.f3 0)∧Zen n (Zaj p.f3 1))∧(p.f0=7→1≤p.f3.length∧Zen n (Zaj p.f3 0))
structure Good (s:St):Prop where
 ris:AllRis s.pl.length s.pl
 ids:∀q k,(s.pl.getD q zPl).shape=some k→k<s.pl.length
 ins:∀q k,(s.pl.getD q zPl).inner=some k→k<s.pl.length
 shs:∀k x,(k,x)∈s.sh→k<s.pl.length∧Ris s.pl.length x.first∧Ris s.pl.length x.last
theorem Zcg (pl:List Pl)(x:Pl)(q:Nat):(pl++[x]).getD q zPl=if q=pl.length then x else pl.getD q zPl:=by
 rw[List.getD_eq_getElem?_getD,List.getD_eq_getElem?_getD]
 rcases Nat.lt_trichotomy q pl.length with hq | hq | hq
 ·rw[List.getElem?_append_left hq,if_neg (by omega)]
 ·subst hq;simp
 ·rw[List.getElem?_eq_none (by simp;omega),List.getElem?_eq_none (by omega),if_neg (by omega)]
theorem Zdd (pl:List Pl)(tt frm:List Int)(k q:Nat):((Zgi pl tt frm k).getD q zPl).shape=(pl.getD q zPl).shape∧((Zgi pl tt frm k).getD q zPl).inner=(pl.getD q zPl).inner∧((Zgi pl tt frm k).getD q zPl).kind=(pl.getD q zPl).kind∧((Zgi pl tt frm k).getD q zPl).p=(pl.getD q zPl).p∧((Zgi pl tt frm k).getD q zPl).rule=(pl.getD q zPl).rule:=by
 induction k with
 | zero=>exact⟨rfl,rfl,rfl,rfl,rfl⟩
 | succ k ih=>
  show ((Zco _ _ _).getD q zPl).shape=_∧((Zco _ _ _).getD q zPl).inner=_∧((Zco _ _ _).getD q zPl).kind=_∧((Zco _ _ _).getD q zPl).p=_∧((Zco _ _ _).getD q zPl).rule=_;unfold Zco;rw[Zda]
  split
  ·rename_i h
   obtain⟨rfl,_⟩:=h;exact ih
  ·exact ih
theorem Good.add {s:St}(h:Good s)(x:Pl)(hf:x.follow=[])(hs:∀k,x.shape=some k→k≤s.pl.length)(hi:∀k,x.inner=some k→k≤s.pl.length):Good (s.add x):=by
 have hl:(s.add x).pl.length=s.pl.length+1:=by simp[St.add]
 refine⟨?_,fun q k hq=>?_,fun q k hq=>?_,fun k y hk=>?_⟩
 ·rw[hl];exact (h.ris.mono (by omega)).add (by rw[hf];exact Ris.nil _)
 ·rw[hl];unfold St.add at hq;rw[Zcg]at hq
  split at hq
  ·have:=hs k hq;omega
  ·have:=h.ids q k hq;omega
 ·rw[hl];unfold St.add at hq;rw[Zcg]at hq
  split at hq
  ·have:=hi k hq;omega
  ·have:=h.ins q k hq;omega
 ·rw[hl];have:=h.shs k y hk;exact⟨by omega,this.2.1.mono (by omega),this.2.2.mono (by omega)⟩
theorem Good.link {s:St}(h:Good s){frm tt:List Int}(ht:Ris s.pl.length tt):Good (s.link frm tt):=by
 have hl:(s.link frm tt).pl.length=s.pl.length:=Zce _ _ _ _;refine⟨?_,fun q k hq=>?_,fun q k hq=>?_,fun k y hk=>?_⟩
 ·rw[hl];exact AllRis.link h.ris ht.2 _ _
 ·rw[hl];exact h.ids q k ((Zdd _ _ _ _ _).1.symm.trans hq)
 ·rw[hl];exact h.ins q k ((Zdd _ _ _ _ _).2.1.symm.trans hq)
 ·rw[hl];exact h.shs k y hk
theorem Good.inner {s:St}(h:Good s)(k b:Nat)(hb:b<s.pl.length):Good (s.inner k b):=by
 have hl:(s.inner k b).pl.length=s.pl.length:=by simp[St.inner]
 refine⟨fun q=>?_,fun q j hq=>?_,fun q j hq=>?_,fun j y hj=>?_⟩
 ·rw[hl];unfold St.inner;rw[Zda]
  split
  ·exact h.ris k
  ·exact h.ris q
 ·rw[hl];unfold St.inner at hq;rw[Zda]at hq
  split at hq
  ·exact h.ids k j hq
  ·exact h.ids q j hq
 ·rw[hl];unfold St.inner at hq;rw[Zda]at hq
  split at hq
  ·injection hq with hq;omega
  ·exact h.ins q j hq
 ·rw[hl];exact h.shs j y hj
theorem Good.close {s:St}(h:Good s){b:Nat}(hb:b<s.pl.length){x:Sx}(h1:Ris s.pl.length x.first)(h2:Ris s.pl.length x.last)(rule step:Int):Good (s.close b x rule step):=by
 refine⟨h.ris,h.ids,h.ins,fun k y hk=>?_⟩
 rcases List.mem_append.1 hk with hk | hk
 ·exact h.shs k y hk
 ·rw[List.mem_singleton]at hk;injection hk with e1 e2
  subst e1;subst e2;exact⟨hb,h1,h2⟩
def Znd (n:Nat):Prop:=∀(b:Nat) (p:S76) (s:St),Good s→b<s.pl.length→Good (Zau n b p s).2∧(Zau n b p s).2.pl.length=s.pl.length+Zcx n p∧Ris (s.pl.length+Zcx n p) (Zau n b p s).1.first∧Ris (s.pl.length+Zcx n p) (Zau n b p s).1.last
theorem Zhl {n:Nat}(ih:Znd n)(p:S76)(rule step:Int)(s:St)(h:Good s):Good (Zgn (Zau n) p rule step s)∧(Zgn (Zau n) p rule step s).pl.length=s.pl.length+1+Zcx n p:=by
 have hg:Good (s.add (Zbc s.pl.length)):=h.add _ rfl (fun k hk=>by injection hk with hk;omega) (fun k hk=>by cases hk);have hl:(s.add (Zbc s.pl.length)).pl.length=s.pl.length+1:=by simp[St.add]
 obtain⟨h1,h2,h3,h4⟩:=ih s.pl.length p _ hg (by omega);rw[hl]at h2 h3 h4;exact⟨h1.close (by omega) (by rw[h2];exact h3) (by rw[h2];exact h4) rule step,h2⟩
theorem item1_good {b:Nat}(p:S76){s:St}(h:Good s)(hb:b<s.pl.length):Good (Zde b p s)∧(Zde b p s).pl.length=s.pl.length+1:=by
 have hg:Good (s.add (Zax b p)):=h.add _ rfl (fun k hk=>by injection hk with hk;omega) (fun k hk=>by cases hk);have hl:(s.add (Zax b p)).pl.length=s.pl.length+1:=by simp[St.add]
 unfold Zde
 split
 ·exact⟨hg.link (by rw[hl];exact Ris.one (by omega) (by omega)),(Zce _ _ _ _).trans hl⟩
 ·exact⟨hg,hl⟩
theorem Zgb:∀n,Znd n
 | 0=>fun b p s h hb=>⟨h,rfl,Ris.nil _,Ris.nil _⟩
 | n+1=>by
  have ih:=Zgb n;intro b p s h hb;unfold Zau Zcx;by_cases c1:p.f0=2∨p.f0=4∨p.f0=3
  ·rw[if_pos c1];obtain⟨g1,g2⟩:=item1_good p h hb;by_cases c3:p.f0=3
   ·rw[if_pos c3];obtain⟨p1,p2⟩:=Zhl ih (Zaj p.f3 0) (-1) (-1) _ g1;unfold Zeh;rw[if_pos c3];refine⟨p1.inner _ _ (by omega),?_,Ris.one (by omega) (by omega),Ris.one (by omega) (by omega)⟩;have:((Zgn (Zau n) (Zaj p.f3 0) (-1) (-1) (Zde b p s)).inner s.pl.length (Zde b p s).pl.length).pl.length=(Zgn (Zau n) (Zaj p.f3 0) (-1) (-1) (Zde b p s)).pl.length:=by simp[St.inner]
    show ((Zgn (Zau n) (Zaj p.f3 0) (-1) (-1) (Zde b p s)).inner s.pl.length (Zde b p s).pl.length).pl.length=_;omega
   ·rw[if_neg c3,if_pos (show p.f0=2∨p.f0=4 by omega)];unfold Zeh;rw[if_neg c3];exact⟨g1,g2,Ris.one (by omega) (by omega),Ris.one (by omega) (by omega)⟩
  ·rw[if_neg c1,if_neg (show ¬p.f0=3 by omega),if_neg (show ¬(p.f0=2∨p.f0=4) by omega)];by_cases c5:p.f0=5
   ·rw[if_pos c5,if_pos (.inl c5)];obtain⟨a1,a2,a3,a4⟩:=ih b (Zaj p.f3 0) s h hb;obtain⟨b1,b2,b3,b4⟩:=ih b (Zaj p.f3 1) _ a1 (by omega);rw[a2]at b2 b3 b4;rw[←Nat.add_assoc];refine⟨b1.link (by rw[b2];exact b3),(Zce _ _ _ _).trans b2,?_,?_⟩
    ·show Ris _ (if _ then _ else _)
     split
     ·exact Zgm (a3.mono (by omega)).2 b3.2
     ·exact a3.mono (by omega)
    ·show Ris _ (if _ then _ else _)
     split
     ·exact Zgm (a4.mono (by omega)).2 b4.2
     ·exact b4
   ·rw[if_neg c5];by_cases c6:p.f0=6
    ·rw[if_pos c6,if_pos (.inr c6)];obtain⟨a1,a2,a3,a4⟩:=ih b (Zaj p.f3 0) s h hb;obtain⟨b1,b2,b3,b4⟩:=ih b (Zaj p.f3 1) _ a1 (by omega);rw[a2]at b2 b3 b4;rw[←Nat.add_assoc];exact⟨b1,b2,Zgm (a3.mono (by omega)).2 b3.2,Zgm (a4.mono (by omega)).2 b4.2⟩
    ·rw[if_neg c6,if_neg (show ¬(p.f0=5∨p.f0=6) by omega)];by_cases c7:p.f0=7
     ·rw[if_pos c7,if_pos c7];obtain⟨a1,a2,a3,a4⟩:=ih b (Zaj p.f3 0) s h hb;exact⟨a1.link (by rw[a2];exact a3),(Zce _ _ _ _).trans a2,a3,a4⟩
     ·rw[if_neg c7,if_neg c7];exact⟨h,rfl,Ris.nil _,Ris.nil _⟩
def Some0 (l0 l:List ByteArray):Prop:=l≠[]∧∃o m,l=(l0.drop o).take m
def Mk (a0 a1 a2:List ByteArray):Nat→Nat→S76→Prop
 | 0,_,_=>False
 | D+1,N,p=>
  ((p.f0=1∨p.f0=4)∧p.f1=[]∧p.f2=[]∧p.f3=[]∧1≤N) ∨
  (p.f0=2∧Some0 a0 p.f1∧p.f2=[]∧p.f3=[]∧1≤N) ∨
  (p.f0=3∧Some0 a1 p.f1∧Some0 a2 p.f2∧∃x n,p.f3=[x]∧Mk a0 a1 a2 D n x∧1+n≤N) ∨
  (p.f0=7∧p.f1=[]∧p.f2=[]∧∃x n,p.f3=[x]∧Mk a0 a1 a2 D n x∧1+n≤N) ∨
  ((p.f0=5∨p.f0=6)∧p.f1=[]∧p.f2=[]∧∃x y n m,p.f3=[x,y]∧Mk a0 a1 a2 D n x∧Mk a0 a1 a2 D m y∧1+n+m≤N)
theorem Mk.up {a0 a1 a2:List ByteArray}:∀{D N:Nat} {p:S76},Mk a0 a1 a2 D N p→Mk a0 a1 a2 (D+1) N p
 | 0,_,_,h=>h.elim
 | D+1,N,p,h=>by
  rcases h with h | h | ⟨h0,h1,h2,x,n,h3,h4,h5⟩ | ⟨h0,h1,h2,x,n,h3,h4,h5⟩ | ⟨h0,h1,h2,x,y,n,m,h3,h4,h5,h6⟩
  ·exact .inl h
  ·exact .inr (.inl h)
  ·exact .inr (.inr (.inl ⟨h0,h1,h2,x,n,h3,h4.up,h5⟩))
  ·exact .inr (.inr (.inr (.inl ⟨h0,h1,h2,x,n,h3,h4.up,h5⟩)))
  ·exact .inr (.inr (.inr (.inr ⟨h0,h1,h2,x,y,n,m,h3,h4.up,h5.up,h6⟩)))
theorem Mk.ups {a0 a1 a2:List ByteArray}{D N:Nat}{p:S76}(h:Mk a0 a1 a2 D N p):∀E,Mk a0 a1 a2 (D+E) N p
 | 0=>h
 | E+1=>(h.ups E).up
theorem Mk.mono {a0 a1 a2:List ByteArray}{D D' N:Nat}{p:S76}(h:Mk a0 a1 a2 D N p)(hd:D≤D'):Mk a0 a1 a2 D' N p:=by
 have:=h.ups (D'-D);rwa[show D+(D'-D)=D' by omega]at this
theorem Mk.fit {a0 a1 a2:List ByteArray}:∀{D N:Nat} {p:S76},Mk a0 a1 a2 D N p→Fit D p N
 | 0,_,_,h=>h.elim
 | D+1,N,p,h=>by
  rcases h with⟨_,_,_,h3,h4⟩ | ⟨_,_,_,h3,h4⟩ | ⟨_,_,_,x,n,h3,h4,h5⟩ | ⟨_,_,_,x,n,h3,h4,h5⟩ | ⟨_,_,_,x,y,n,m,h3,h4,h5,h6⟩
  ·exact⟨[],by rw[h3];rfl,fun j hj=>by rw[h3]at hj;simp at hj,by simpa using h4⟩
  ·exact⟨[],by rw[h3];rfl,fun j hj=>by rw[h3]at hj;simp at hj,by simpa using h4⟩
  ·refine⟨[n],by rw[h3];rfl,fun j hj=>?_,by simpa using h5⟩;rw[h3]at hj ⊢;obtain rfl:j=0:=by simp at hj;omega
   exact h4.fit
  ·refine⟨[n],by rw[h3];rfl,fun j hj=>?_,by simpa using h5⟩;rw[h3]at hj ⊢;obtain rfl:j=0:=by simp at hj;omega
   exact h4.fit
  ·refine⟨[n,m],by rw[h3];rfl,fun j hj=>?_,by simp;omega⟩;rw[h3]at hj ⊢;obtain rfl | rfl:j=0∨j=1:=by simp at hj;omega
   ·exact h4.fit
   ·exact h5.fit
theorem Some0.short {l0 l:List ByteArray}(h:Some0 l0 l):l.length≤l0.length:=by
 obtain⟨_,o,m,rfl⟩:=h;rw[List.length_take,List.length_drop];omega
theorem Some0.pos {l0 l:List ByteArray}(h:Some0 l0 l):0<l.length:=List.length_pos_iff.2 h.1
theorem Mk.patOk {a0 a1 a2:List ByteArray}(s0:a0.length≤2)(s1:a1.length≤2)(s2:a2.length≤2):∀{D N:Nat} {p:S76},Mk a0 a1 a2 D N p→Zen D p
 | 0,_,_,h=>h.elim
 | D+1,N,p,h=>by
  have key:p.f1.length≤100000∧p.f2.length≤100000:=by
   rcases h with⟨_,h1,h2,_⟩ | ⟨_,h1,h2,_⟩ | ⟨_,h1,h2,_⟩ | ⟨_,h1,h2,_⟩ | ⟨_,h1,h2,_⟩
   ·rw[h1,h2];simp
   ·rw[h2];have:=h1.short;simp;omega
   ·have:=h1.short;have:=h2.short;omega
   ·rw[h1,h2];simp
   ·rw[h1,h2];simp
  refine⟨key.1,key.2,fun hk=>?_,fun hk=>?_,fun hk=>?_⟩
  ·rcases h with⟨h0,_⟩ | ⟨h0,_⟩ | ⟨_,_,_,x,n,h3,h4,_⟩ | ⟨h0,_⟩ | ⟨h0,_⟩
   ·omega
   ·omega
   ·rw[h3];exact⟨Nat.le_refl _,h4.patOk s0 s1 s2⟩
   ·omega
   ·omega
  ·rcases h with⟨h0,_⟩ | ⟨h0,_⟩ | ⟨h0,_⟩ | ⟨h0,_⟩ | ⟨_,_,_,x,y,n,m,h3,h4,h5,_⟩
   ·omega
   ·omega
   ·omega
   ·omega
   ·rw[h3];exact⟨Nat.le_refl _,h4.patOk s0 s1 s2,h5.patOk s0 s1 s2⟩
  ·rcases h with⟨h0,_⟩ | ⟨h0,_⟩ | ⟨h0,_⟩ | ⟨_,_,_,x,n,h3,h4,_⟩ | ⟨h0,_⟩
   ·omega
   ·omega
   ·omega
   ·rw[h3];exact⟨Nat.le_refl _,h4.patOk s0 s1 s2⟩
   ·omega
def Pcs (a0 a1 a2:List ByteArray)(D:Nat):List S76→Nat→Prop
 | [],_=>True
 | x :: l,t=>∃n m,Mk a0 a1 a2 D n x∧Pcs a0 a1 a2 D l m∧n+m≤t
theorem Pcs.more {a0 a1 a2:List ByteArray}{D:Nat}:∀{l:List S76} {t u:Nat},Pcs a0 a1 a2 D l t→t≤u→Pcs a0 a1 a2 D l u
 | [],_,_,_,_=>trivial
 | _ :: _,_,_,⟨n,m,h1,h2,h3⟩,h=>⟨n,m,h1,h2,by omega⟩
theorem Pcs.mono {a0 a1 a2:List ByteArray}{D D':Nat}(hd:D≤D'):∀{l:List S76} {t:Nat},Pcs a0 a1 a2 D l t→Pcs a0 a1 a2 D' l t
 | [],_,_=>trivial
 | _ :: _,_,⟨n,m,h1,h2,h3⟩=>⟨n,m,h1.mono hd,h2.mono hd,h3⟩
theorem Zeg {a0 a1 a2:List ByteArray}{D:Nat}:∀{l r:List S76} {t:Nat},Pcs a0 a1 a2 D (l++r) t↔∃n m,Pcs a0 a1 a2 D l n∧Pcs a0 a1 a2 D r m∧n+m≤t
 | [],r,t=>⟨fun h=>⟨0,t,trivial,h,by omega⟩,fun⟨n,m,_,h2,h3⟩=>Pcs.more h2 (by omega)⟩
 | x :: l,r,t=>by
  constructor
  ·rintro⟨n,m,h1,h2,h3⟩;obtain⟨n',m',h4,h5,h6⟩:=Zeg.1 h2;exact⟨n+n',m',⟨n,n',h1,h4,by omega⟩,h5,by omega⟩
  ·rintro⟨n,m,⟨n',m',h4,h5,h6⟩,h2,h3⟩;exact⟨n',m'+m,h4,Zeg.2 ⟨m',m,h5,h2,Nat.le_refl _⟩,by omega⟩
theorem Ztp {a0 a1 a2:List ByteArray}{D t:Nat}{x:S76}(h:Mk a0 a1 a2 D t x):Pcs a0 a1 a2 D [x] t:=⟨t,0,h,trivial,by omega⟩
def PcsAt (a0 a1 a2:List ByteArray)(i:Nat)(xs:List S76):Prop:=∃D,2≤D∧D+xs.length≤i+2∧Pcs a0 a1 a2 D xs (2*i)
theorem PcsAt.nil {a0 a1 a2:List ByteArray}:PcsAt a0 a1 a2 0 []:=⟨2,by omega,by simp,trivial⟩
theorem PcsAt.push {a0 a1 a2:List ByteArray}{i:Nat}{xs:List S76}{x:S76}(h:PcsAt a0 a1 a2 i xs)(hx:Mk a0 a1 a2 2 2 x):PcsAt a0 a1 a2 (i+1) (xs++[x]):=by
 obtain⟨D,h1,h2,h3⟩:=h;exact⟨D,h1,by simp;omega,Zeg.2 ⟨_,2,h3,Ztp (hx.mono h1),by omega⟩⟩
theorem last1 {xs:List S76}(h:1≤xs.length):∃ys a,xs=ys++[a]∧a=xs.getD (xs.length-1) z76∧ys.length=xs.length-1:=by
 have hne:xs≠[]:=fun e=>by rw[e]at h;simp at h
 refine⟨xs.dropLast,xs.getLast hne,(List.dropLast_concat_getLast hne).symm,?_,by simp⟩;rw[List.getLast_eq_getElem,List.getD_eq_getElem?_getD,List.getElem?_eq_getElem (by omega)]
 rfl
theorem PcsAt.wrap {a0 a1 a2:List ByteArray}{i:Nat}{xs:List S76}{x:S76}(h:PcsAt a0 a1 a2 i xs)(hl:1≤xs.length)(hx:∀D n,Mk a0 a1 a2 D n (xs.getD (xs.length-1) z76)→Mk a0 a1 a2 (D+1) (1+n) x):PcsAt a0 a1 a2 (i+1) (xs.set (xs.length-1) x):=by
 obtain⟨D,h1,h2,h3⟩:=h;obtain⟨ys,a,rfl,h4,h5⟩:=last1 hl;rw[←h4]at hx;have h6:(ys++[a]).length-1=ys.length:=by simp
 rw[h6];rw[List.set_append_right _ _ (Nat.le_refl _)];simp only[Nat.sub_self,List.set_cons_zero];obtain⟨n,m,p1,⟨n',m',p2,_,p4⟩,p3⟩:=Zeg.1 h3;simp at h2;exact⟨D+1,by omega,by simp;omega,Zeg.2 ⟨n,1+n',p1.mono (by omega),Ztp (hx D n' p2),by omega⟩⟩
theorem PcsAt.join {a0 a1 a2:List ByteArray}{i:Nat}{xs:List S76}{x:S76}(h:PcsAt a0 a1 a2 i xs)(hl:2≤xs.length)(hx:∀D n m,Mk a0 a1 a2 D n (xs.getD (xs.length-2) z76)→Mk a0 a1 a2 D m (xs.getD (xs.length-1) z76)→Mk a0 a1 a2 (D+1) (1+n+m) x):PcsAt a0 a1 a2 (i+1) (xs.take (xs.length-2)++[x]):=by
 obtain⟨D,h1,h2,h3⟩:=h;obtain⟨ys,b,rfl,h4,h5⟩:=last1 (by omega:1≤xs.length);simp at hl h2;obtain⟨zs,a,rfl,h6,h7⟩:=last1 (by omega:1≤ys.length);have e1:(zs++[a]++[b]).length-2=zs.length:=by simp
 have e2:(zs++[a]++[b]).getD zs.length z76=a:=by rw[List.getD_eq_getElem?_getD];simp
 rw[←h4,e1,e2]at hx;rw[e1];have e3:(zs++[a]++[b]).take zs.length=zs:=by rw[List.append_assoc,List.take_left]
 rw[e3];obtain⟨n,m,p1,⟨n',m',p2,_,p4⟩,p3⟩:=Zeg.1 h3;obtain⟨k,l,q1,⟨k',l',q2,_,q4⟩,q3⟩:=Zeg.1 p1;simp at h2;exact⟨D+1,by omega,by simp;omega,Zeg.2 ⟨k,1+k'+n',q1.mono (by omega),Ztp (hx D k' n' q2 p2),by omega⟩⟩
def FoldAt (a0 a1 a2:List ByteArray)(xs:List S76)(j:Nat)(x:S76):Prop:=∃D N t,Mk a0 a1 a2 D N x∧Pcs a0 a1 a2 D (xs.drop j) t∧D+(xs.length-j)≤9∧N+t≤15+j
theorem PcsAt.fold {a0 a1 a2:List ByteArray}{i:Nat}{xs:List S76}(h:PcsAt a0 a1 a2 i xs)(hi:i≤8)(hl:1≤xs.length):FoldAt a0 a1 a2 xs 1 (xs.getD 0 z76):=by
 obtain⟨D,h1,h2,h3⟩:=h
 match xs with
 | []=>simp at hl
 | x :: l=>
  obtain⟨n,m,p1,p2,p3⟩:=h3;simp at h2;exact⟨D,n,m,p1,p2,by simp;omega,by omega⟩
theorem FoldAt.step {a0 a1 a2:List ByteArray}{xs:List S76}{j:Nat}{x y:S76}(h:FoldAt a0 a1 a2 xs j x)(hj:j<xs.length)(hy:∀D n m,Mk a0 a1 a2 D n x→Mk a0 a1 a2 D m (xs.getD j z76)→Mk a0 a1 a2 (D+1) (1+n+m) y):FoldAt a0 a1 a2 xs (j+1) y:=by
 obtain⟨D,N,t,h1,h2,h3,h4⟩:=h;rw[List.drop_eq_getElem_cons hj]at h2;obtain⟨n,m,p1,p2,p3⟩:=h2;have e:xs.getD j z76=xs[j]:=by rw[List.getD_eq_getElem?_getD,List.getElem?_eq_getElem hj];rfl
 rw[e]at hy;exact⟨D+1,1+N+n,m,hy D N n h1 p1,p2.mono (by omega),by omega,by omega⟩
theorem FoldAt.all {a0 a1 a2:List ByteArray}{xs:List S76}{x:S76}(h:FoldAt a0 a1 a2 xs xs.length x):∃D N,Mk a0 a1 a2 D N x∧D≤9∧N≤15+xs.length:=by
 obtain⟨D,N,t,h1,h2,h3,h4⟩:=h;exact⟨D,N,h1,by omega,by omega⟩
theorem Zpz (g i:Nat):(⟨g,0,none⟩:Addr).add i=⟨g,i,none⟩:=by
 unfold Addr.add
 split
 ·rename_i hz;simp at hz ⊢
 ·simp
theorem Zew {W:World}{g:Nat}{o:Obj}(h:W.heap[g]?=some o):g<W.heap.size:=by
 rcases Nat.lt_or_ge g W.heap.size with hlt | hge
 ·exact hlt
 ·rw[Array.getElem?_eq_none hge]at h;cases h
theorem Zex {α:Type}{d:Kd α}{W:World}{g e:Nat}{cs:List Value}{ok:Nat→Prop}{x:α}(h:W.heap[g]?=some (.cells cs.toArray e (0,0)))(hg:ok g)(hx:Kd.FK d W ok x cs):Kd.F d W ok (some ⟨g,0,none⟩) 1 [x]:=fun W' hW=>by
 have hk:=hx W' hW;have hb:W'.heap[g]?=some (.cells cs.toArray e (0,0)):=(hW g hg (Zew h)).trans h;refine⟨rfl,by omega,fun _=>⟨_,rfl,fun j p hj=>?_⟩⟩;cases j with
 | zero=>
  simp at hj;subst hj;refine⟨cs,d.K_len hk,hk,fun i v hv=>?_⟩;rw[Nat.zero_mul,Nat.zero_add,Zpz,Zac hb i];simpa using hv
 | succ j=>simp at hj
theorem Zkm {α:Type}{d:Kd α}{W:World}{g e:Nat}{c1 c2:List Value}{ok:Nat→Prop}{x y:α}(h:W.heap[g]?=some (.cells (c1++c2).toArray e (0,0)))(hg:ok g)(hx:Kd.FK d W ok x c1)(hy:Kd.FK d W ok y c2):Kd.F d W ok (some ⟨g,0,none⟩) 2 [x,y]:=fun W' hW=>by
 have hk:=hx W' hW;have hk2:=hy W' hW;have hb:W'.heap[g]?=some (.cells (c1++c2).toArray e (0,0)):=(hW g hg (Zew h)).trans h;refine⟨rfl,by omega,fun _=>⟨_,rfl,fun j p hj=>?_⟩⟩
 rcases j with _ | _ | j
 ·simp at hj;subst hj;refine⟨c1,d.K_len hk,hk,fun i v hv=>?_⟩;rw[Nat.zero_mul,Nat.zero_add,Zpz,Zac hb i];have hi:=(List.getElem?_eq_some_iff.1 hv).1;rw[List.getElem?_toArray,List.getElem?_append_left hi];exact hv
 ·simp at hj;subst hj;refine⟨c2,d.K_len hk2,hk2,fun i v hv=>?_⟩;rw[Nat.zero_add,Nat.one_mul,Zpz,Zac hb];have h1:=d.K_len hk;rw[List.getElem?_toArray,List.getElem?_append_right (by omega),h1,Nat.add_sub_cancel_left];exact hv
 ·simp at hj
theorem Zlb {W:World}{ok:Nat→Prop}{g:Nat}(k:Int){x:S76}(h:Kd.F k76 W ok (some ⟨g,0,none⟩) 1 [x]):Kd.FK k76 W ok (⟨k,[],[],[x]⟩:S76) [.int .i64 k,.slice none 0 0,.slice none 0 0,.slice (some ⟨g,0,none⟩) 1 1]:=
 Zmk W ok ⟨k,[],[],[x]⟩ (Nat.le_refl _) (Kd.F_nil _ _ _) (Nat.le_refl _) (Kd.F_nil _ _ _) (Nat.le_refl _) h
theorem Zjj {W:World}{ok:Nat→Prop}{g:Nat}(k:Int){x y:S76}(h:Kd.F k76 W ok (some ⟨g,0,none⟩) 2 [x,y]):Kd.FK k76 W ok (⟨k,[],[],[x,y]⟩:S76) [.int .i64 k,.slice none 0 0,.slice none 0 0,.slice (some ⟨g,0,none⟩) 2 2]:=
 Zmk W ok ⟨k,[],[],[x,y]⟩ (Nat.le_refl _) (Kd.F_nil _ _ _) (Nat.le_refl _) (Kd.F_nil _ _ _) (Nat.le_refl _) h
theorem Zug {W:World}{ok:Nat→Prop}{g:Nat}{x:S76}{A1 A2:Option Addr}{c1 c2:Nat}{l1 l2:List ByteArray}(h1:l1.length≤c1)(f1:Kd.F Kd.string W ok A1 l1.length l1)(h2:l2.length≤c2)(f2:Kd.F Kd.string W ok A2 l2.length l2)(h:Kd.F k76 W ok (some ⟨g,0,none⟩) 1 [x]) :
 Kd.FK k76 W ok (⟨3,l1,l2,[x]⟩:S76) [.int .i64 3,.slice A1 l1.length c1,.slice A2 l2.length c2,.slice (some ⟨g,0,none⟩) 1 1]:=
 Zmk W ok ⟨3,l1,l2,[x]⟩ h1 f1 h2 f2 (Nat.le_refl _) h
theorem Zqo {α:Type}{d:Kd α}{W:World}{ok:Nat→Prop}{ad:Addr}{n:Nat}{xs:List α}(h:Kd.F d W ok (some ad) n xs) :
 xs.length=n∧∃inner,Reps (fun x c=>Kd.FK d W ok x c) d.sz xs inner∧∀j u,inner[j]?=some u→W.cell? (ad.add j)=some u:=by
 have hr:=Kd.F_rows h;exact⟨hr.1,ReadsRow.inner_ hr⟩
section
variable {P:Program}{ops:Array Oper}{rest:List Oper}{o:Oper}{a:Act}{Q:Exit→Act→World→Prop}{α:Type}
theorem Zfg (d:Kd α){w0 W:World}(base:Nat)(hgd:o.guard=none)(s x:Operand)(t e:TypeId)(z:Value)(bytes:Nat)
 (ho:o.op=.call { callee:=.builtin .append,args:=#[s,x],argTypes:=#[t,t] })
 (ht:P.underlying t=some (.slice e)) (hinfo:(P.info? e).map (fun i=>(i.zero,i.size,i.bytes))=some (some z,d.sz,bytes)) (hz:z.cells.size=d.sz) (hb0:0<bytes)
 (b ad:Addr) (k m c:Nat) (xs ys:List α) (ok okp:Nat→Prop) (hs:a.eval s=.slice (some b) k k) (hx:a.eval x=.slice (some ad) m c) (hm:0<m)
 (HO:Kd.F d W okp (some b) k xs) (HR:Kd.F d W okp (some ad) m ys) (hokp:∀k,okp k→ok k) (hfresh:ok W.heap.size)
 (HB:Below base w0 W) (hbase:base≤W.heap.size) (hl:(k+m)*bytes≤140737488355328)
 (h:∀v1 w1,Kd.N d e w1 base ok v1 (xs++ys)→Below base w0 w1→wpList P ops Q rest (a.put o.dst v1) w1) :
 wpList P ops Q (o :: rest) a W:=by
 obtain⟨i0,hi,hzz⟩:=Option.map_eq_some_iff.1 hinfo;simp only[Prod.mk.injEq]at hzz;obtain⟨hz0,hz1,hz2⟩:=hzz;have hlen:k+m≤140737488355328:=Nat.le_trans (Nat.le_mul_of_pos_right _ hb0) hl;obtain⟨hx1,olds,hro,hco⟩:=Zqo HO;obtain⟨hy1,news,hrn,hcn⟩:=Zqo HR;have hr:=run_append_grow (P:=P) W t o.type e i0 z ht hi hz0 b k k olds (by rw[hro.1,hx1,hz1]) hco ad m c news (by rw[hrn.1,hy1,hz1]) hcn (by omega) (by omega) (growslice_fits (by omega) (by rw[hz2];exact hl));have hreps:Reps (fun x c=>Kd.FK d W okp x c) d.sz (xs++ys) (olds++news):=Kd.reps_append hro hrn;have hlz:(xs++ys).length=k+m:=by rw[List.length_append,hx1,hy1]
 have hraw:=Kd.reps_raw hreps (fun x c hk=>⟨d.K_len (Kd.FK_now hk),d.K_one (Kd.FK_now hk)⟩);have hge:=grownCap_ge W (k+m) k e;have hcm:grownCap W (k+m) k e≤maxLen:=grownCap_le_maxLen W (k+m) k e (by simp only[maxLen];omega);have hg:W.grownBy (W.drew.alloc (.cells (olds.toArray++news.toArray++Builtin.zeroCells z.cells (grownCap W (k+m) k e-(k+m))) e)) none:=⟨rfl,rfl,rfl,by simp,fun j hj _=>heap_alloc_old W.drew _ hj⟩
 have hown:(W.drew.alloc (.cells (olds.toArray++news.toArray++Builtin.zeroCells z.cells (grownCap W (k+m) k e-(k+m))) e)).ownsRow base e d.sz (.slice (some ⟨W.heap.size,0,none⟩) (k+m) (grownCap W (k+m) k e)) (Kd.chunks d.sz (xs++ys).length (olds++news)).length (olds++news):=by
  rw[Kd.chunks_length,hlz];refine⟨by rw[hreps.1,hlz],.inr ⟨W.heap.size,_,_,rfl,hbase,heap_alloc_new W.drew _,hge,hcm,?_,?_⟩⟩
  ·simp only[Array.size_append,List.size_toArray,size_zeroCells,hz,hro.1,hrn.1,hx1,hy1,←Nat.add_mul]
   congr 1
   omega
  ·simp only[Array.toList_append,List.append_assoc];rw[←List.append_assoc,←hlz,←hreps.1];exact List.take_left
 refine wpList_plain hgd fun K hK=>?_
 unfold Oper.wp execOp;simp only[ho,resolve,invoke,builtin,Sem.run_bind,Sem.run_pure,Result.andThen_ok,List.map_toArray,List.map_cons,List.map_nil,hs,hx,hr];refine hK _ _ (h _ _ ?_ (HB.grown hg hbase (by simp)));refine Kd.N_made (W:=W) (rows:=Kd.chunks d.sz (xs++ys).length (olds++news)) ⟨fun j hj=>by simp[Value.ownBlock]at hj;omega,olds++news,hown,hraw⟩ hg ⟨W.heap.size,by simp[Value.ownBlock],Nat.le_refl _⟩ (Kd.chunks_length _ _ _) (fun j y c hj hc=>?_) hokp hfresh;rw[Kd.chunks_get hc];exact hreps.2 j y hj
end
theorem and1 (x:Int):bits BinOp.and IntKind.i64 x 1=0∨bits BinOp.and IntKind.i64 x 1=1:=by
 have h:(BitVec.ofInt IntKind.i64.bits x &&& BitVec.ofInt IntKind.i64.bits 1).toNat=(BitVec.ofInt IntKind.i64.bits x).toNat % 2:=by
  rw[BitVec.toNat_and];exact Nat.and_one_is_mod _
 show IntKind.i64.wrap ((BitVec.ofInt IntKind.i64.bits x &&& BitVec.ofInt IntKind.i64.bits 1).toNat:Int)=0∨IntKind.i64.wrap ((BitVec.ofInt IntKind.i64.bits x &&& BitVec.ofInt IntKind.i64.bits 1).toNat:Int)=1;rw[h,IntKind.wrap_i64];omega
def Okp (g0 g1 g2 n:Nat)(k:Nat):Prop:=k=g0∨k=g1∨k=g2∨n≤k
theorem box_N {α:Type}{d:Kd α}{w:World}{e:Nat}{x:α}{cs:List Value}{ok okp:Nat→Prop}(hx:Kd.FK d w okp x cs)(hokp:∀k,okp k→ok k)(hfresh:ok w.heap.size) :
 Kd.N d e (w.alloc (.cells cs.toArray e)) w.heap.size ok (.slice (some ⟨w.heap.size,0,none⟩) 1 1) [x]:=by
 have hl:=d.K_len (Kd.FK_now hx);have ho:=d.K_one (Kd.FK_now hx);have hown:=World.ownsRow_lit (base:=w.heap.size) (e:=e) (size:=d.sz) w cs.toArray 1 (Nat.le_refl _) (by decide) (by simpa using hl);refine Kd.N_made (W:=w) (rows:=[cs]) ⟨fun k hk=>by simp[Value.ownBlock]at hk;omega,cs,hown,⟨by simp[hl,Kd.raw],fun j p hj=>?_⟩⟩ (World.grownBy_alloc _ _ _) ⟨_,rfl,Nat.le_refl _⟩ rfl (fun j y c hy hc=>?_) hokp hfresh
 ·cases j with
  | succ j=>simp at hj
  | zero=>
   simp at hj;subst hj;have e1:(cs.drop (0*d.sz)).take d.sz=cs:=by rw[Nat.zero_mul,List.drop_zero,←hl,List.take_length]
   show (cs.drop (0*d.sz)).take d.sz=cs∧((cs.drop (0*d.sz)).take d.sz).length=d.sz∧∀u∈(cs.drop (0*d.sz)).take d.sz,u.oneCell'=true;rw[e1];exact⟨rfl,hl,ho⟩
 ·cases j with
  | succ j=>simp at hy
  | zero=>
   simp at hy hc;rw[←hy,←hc];exact hx
theorem Zcp {α:Type}{d:Kd α}{w:World}{e base g:Nat}{x:α}{ok:Nat→Prop}(h:Kd.N d e w base ok (.slice (some ⟨g,0,none⟩) 1 1) [x]) :
 ∃c,w.heap[g]?=some (.cells c.toArray e (0,0))∧Kd.FK d w (fun k=>ok k∧k≠g) x c:=by
 obtain⟨_,rows,hl,⟨_,inner,ho,hr⟩,hf⟩:=h
 match rows,hl with
 | [r],_=>
  have hM:=hr.2 0 r rfl;have hil:=hr.1
  rcases ho.2 with⟨h1,_⟩ | ⟨g1,c1,cur,h1,_,h3,_,_,h6,h7⟩
  ·cases h1
  ·injection h1 with h1 _ h2
   injection h1 with h1
   injection h1 with h1
   subst h1;subst h2;have e1:cur.toList=inner:=by
    rw[←h7];exact (List.take_of_length_le (by rw[Array.length_toList,h6];exact Nat.le_refl _)).symm
   have e2:(inner.drop (0*d.sz)).take d.sz=inner:=by
    rw[Nat.zero_mul,List.drop_zero,List.take_of_length_le (by rw[hil];simp[Kd.raw])]
   have e3:inner=r:=by
    have h9:(inner.drop (0*d.sz)).take d.sz=r:=hM.1;rw[e2]at h9;exact h9
   refine⟨r,?_,Kd.FK_mono (hf 0 x r rfl rfl) (fun k hk=>⟨hk.1,fun he=>hk.2 (by rw[he];rfl)⟩)⟩;rw[h3,←e3,←e1]
theorem Zci {w:World}{g e:Nat}{cs:List Value}(h:w.heap[g]?=some (.cells cs.toArray e (0,0)))(sz:Nat):∀j u,cs[j]?=some u→w.cell? ⟨g,(0:Int).toNat*sz+j,none⟩=some u:=by
 intro j u hu;rw[show (0:Int).toNat*sz+j=j by simp,Zac h];simpa using hu
def Znk (w0:W0)(p:S76)(v:Value):Prop:=
 ∃A1 c1 A2 c2 A3 c3,v=.agg #[.int .i64 p.f0,.slice A1 p.f1.length c1,.slice A2 p.f2.length c2,.slice A3 p.f3.length c3] ∧
  p.f1.length≤c1∧Kd.string.C w0 A1 p.f1.length p.f1∧p.f2.length≤c2∧Kd.string.C w0 A2 p.f2.length p.f2∧p.f3.length≤c3∧k76.C w0 A3 p.f3.length p.f3
def Zhv (φ:Nat→Nat)(sh:List (Nat × Sh)):Prop:=∀k k' x x',(k,x)∈sh→(k',x')∈sh→φ k=φ k'→k=k'
structure Znc (w0:W0)(W:World)(gb:Nat)(h0 h1 vs vf:Value)(φ:Nat→Nat)(v:Value)(s:St)(x:Sx)(s':St)(e:Ending)(w':World):Prop where
 out:∃v1 v2 φ' v',e=.returned (.agg #[.int .i64 0,v1,v2,.bool x.empty,.int .i64 0,.int .i64 0])∧Ri w0 w' v1 x.first∧Ri w0 w' v2 x.last∧VS w0 w' gb h0 h1 vs vf φ' v' s'.pl s'.sh∧KeptV W w' gb v∧NewOr W v v' ∧
  (∀k,k<s.pl.length→φ' k=φ k)∧(∀k y,(k,y)∈s'.sh→(k,y)∈s.sh∨(s.pl.length≤k∧W.heap.size≤φ' k))∧(Zhv φ s.sh→Zhv φ' s'.sh)
def WalkC (n:Nat):Prop:=∀(w0:W0) (W:World) (gb:Nat) (h0 h1 vs vf:Value) (φ:Nat→Nat) (v:Value) (s:St) (b:Nat) (p:S76) (vp:Value),VS w0 W gb h0 h1 vs vf φ v s.pl s.sh→Good s→b<s.pl.length→Zen n p→s.pl.length+Zcx n p≤100000→Znk w0 p vp →
 Calls Tryz.prog 64 #[.pointer (some ⟨gb,0,none⟩),.pointer (some ⟨φ b,0,none⟩),vp] W (Znc w0 W gb h0 h1 vs vf φ v s (Zau n b p s).1 (Zau n b p s).2)
theorem VS.other {w0:W0}{W W':World}{gb:Nat}{h0 h1 vs vf:Value}{φ:Nat→Nat}{v:Value}{pl:List Pl}{sh:List (Nat × Sh)}(h:VS w0 W gb h0 h1 vs vf φ v pl sh){br:Nat}{cs:Array Value}(hr:W.heap[br]?=some (.cells cs 97 (0,0)))(hk:Kept W W' (fun k=>k=br))(hb:Below w0.heap.size w0 W')(hn:∀k x,(k,x)∈sh→φ k≠br):VS w0 W' gb h0 h1 vs vf φ v pl sh:=by
 have ks:Same3 W W':=fun k cells hc=>hk.2 k (Zbj hc) (fun he=>by subst he;rw[hr]at hc;injection hc with hc;injection hc with _ hc;exact absurd hc (by decide))
 obtain⟨inner,ho,hre⟩:=h.row;refine⟨h.ge,?_,⟨inner,Zek ho (fun k hk'=>hk.2 k (Zgg ho k hk') (fun he=>by subst he;obtain⟨cells,hc⟩:=Zbs ho _ hk';rw[hr]at hc;injection hc with hc;injection hc with _ hc;exact absurd hc (by decide))),hre.imp_ (fun _ _ hp=>hp.same ks)⟩,fun k x hx=>(h.shapes k x hx).keep ks (fun cs hc=>hk.2 _ (Zbj hc) (hn k x hx)),hb,fun k hk'=>h.new k (Nat.le_trans hk.1 hk')⟩;exact (hk.2 gb (Zbj h.blk) (fun he=>by subst he;have h2:=h.blk;rw[hr]at h2;injection h2 with hc;injection hc with _ hc;exact absurd hc (by decide))).trans h.blk
abbrev Zcs:Array Value:=#[.int .i64 0,.slice none 0 0,.slice none 0 0,.bool false,.int .i64 0,.int .i64 0]
structure Fr (W X:World)(bp br:Nat)(pc:Array Value):Prop where
 p:X.heap[bp]?=some (.cells pc 76 (0,0))
 r:X.heap[br]?=some (.cells Zcs 97 (0,0))
 lo:W.heap.size≤br
 sz:W.heap.size≤X.heap.size
theorem Fr.first (W:World)(pc:Array Value):Fr W ((W.alloc (.cells pc 76)).alloc (.cells Zcs 97)) W.heap.size (W.heap.size+1) pc:=by
 refine⟨Zan (Zaq W _) _,?_,by omega,by simp;omega⟩;have:=Zaq (W.alloc (.cells pc 76)) (.cells Zcs 97);simpa using this
theorem Fr.below {W X X':World}{bp br:Nat}{pc:Array Value}(h:Fr W X bp br pc)(hb:Below X.heap.size X X'):Fr W X' bp br pc:=⟨Zag h.p hb,Zag h.r hb,h.lo,Nat.le_trans h.sz hb.size⟩
theorem Fr.kept {W X X':World}{bp br:Nat}{pc:Array Value}(h:Fr W X bp br pc){w0:W0}{gb:Nat}{h0 h1 vs vf:Value}{φ:Nat→Nat}{v:Value}{pl:List Pl}{sh:List (Nat × Sh)}(hv:VS w0 X gb h0 h1 vs vf φ v pl sh)(hk:KeptV X X' gb v):Fr W X' bp br pc:=
 ⟨hv.keep hk h.p (by decide) (by decide),hv.keep hk h.r (by decide) (by decide),h.lo,Nat.le_trans h.sz hk.1⟩
structure Cl (X:World)(bp br:Nat)(pc:Array Value):Prop where
 p:∀i u,pc[i]?=some u→X.cell? ⟨bp,i,none⟩=some u
 p2:∀i u,pc[i]?=some u→∀o o',((X.alloc o).alloc o').cell? ⟨bp,i,none⟩=some u
 r:∀i u,Zcs[i]?=some u→X.cell? ⟨br,i,none⟩=some u
 r2:∀i u,Zcs[i]?=some u→∀o o',((X.alloc o).alloc o').cell? ⟨br,i,none⟩=some u
 f:∀i,X.frozen? ⟨br,i,none⟩=false
 f2:∀i o o',((X.alloc o).alloc o').frozen? ⟨br,i,none⟩=false
theorem Fr.cl {W X:World}{bp br:Nat}{pc:Array Value}(h:Fr W X bp br pc):Cl X bp br pc:=
 ⟨fun i _ hu=>(Zac h.p i).trans hu,fun i _ hu o o'=>(Zac (Zan (Zan h.p o) o') i).trans hu,fun i _ hu=>(Zac h.r i).trans hu,fun i _ hu o o'=>(Zac (Zan (Zan h.r o) o') i).trans hu,
  fun i=>Zat h.r i,fun i o o'=>Zat (Zan (Zan h.r o) o') i⟩
def put6 (Y:World)(br:Nat)(d0 d1 d2 d3 d4 d5:Value):World:=
 (((((Y.setCell ⟨br,0,none⟩ d0).setCell ⟨br,1,none⟩ d1).setCell ⟨br,2,none⟩ d2).setCell ⟨br,3,none⟩ d3).setCell ⟨br,4,none⟩ d4).setCell ⟨br,5,none⟩ d5
theorem put6_blk {Y:World}{br:Nat}{cs:Array Value}(hc:cs.size=6)(h:Y.heap[br]?=some (.cells cs 97 (0,0)))(d0 d1 d2 d3 d4 d5:Value):(put6 Y br d0 d1 d2 d3 d4 d5).heap[br]?=some (.cells #[d0,d1,d2,d3,d4,d5] 97 (0,0)):=by
 obtain⟨l⟩:=cs;obtain⟨a0,a1,a2,a3,a4,a5,rfl⟩:∃a0 a1 a2 a3 a4 a5,l=[a0,a1,a2,a3,a4,a5]:=by
  match l,hc with
  | [a0,a1,a2,a3,a4,a5],_=>exact⟨a0,a1,a2,a3,a4,a5,rfl⟩
 unfold put6;refine Zcd (cs:=#[d0,d1,d2,d3,d4,a5]) ?_ 5 _ rfl
 refine Zcd (cs:=#[d0,d1,d2,d3,a4,a5]) ?_ 4 _ rfl
 refine Zcd (cs:=#[d0,d1,d2,a3,a4,a5]) ?_ 3 _ rfl
 refine Zcd (cs:=#[d0,d1,a2,a3,a4,a5]) ?_ 2 _ rfl
 refine Zcd (cs:=#[d0,a1,a2,a3,a4,a5]) ?_ 1 _ rfl
 exact Zcd (cs:=#[a0,a1,a2,a3,a4,a5]) h 0 _ rfl
theorem Zlv (Y:World)(br:Nat)(d0 d1 d2 d3 d4 d5:Value):Kept Y (put6 Y br d0 d1 d2 d3 d4 d5) (fun k=>k=br):=by
 refine⟨by simp[put6,World.setCell],fun i _ hn=>?_⟩;unfold put6
 iterate 6 rw[Below.heap_setCell _ _ _ i (fun he=>hn he)]
theorem Zod {w0:W0}{Y:World}{br:Nat}(h:Below w0.heap.size w0 Y)(hb:w0.heap.size≤br)(d0 d1 d2 d3 d4 d5:Value):Below w0.heap.size w0 (put6 Y br d0 d1 d2 d3 d4 d5):=by
 unfold put6
 iterate 6 refine Below.setCell ?_ hb _
 exact h
abbrev put97 (Y:World)(br:Nat)(c1 c2:Value)(e:Bool):World:=put6 Y br (.int .i64 0) c1 c2 (.bool e) (.int .i64 0) (.int .i64 0)
theorem Zdk {Y:World}{br:Nat}{cs:Array Value}(hc:cs.size=6)(h:Y.heap[br]?=some (.cells cs 97 (0,0)))(c1 c2:Value)(e:Bool):(put97 Y br c1 c2 e).heap[br]?=some (.cells #[.int .i64 0,c1,c2,.bool e,.int .i64 0,.int .i64 0] 97 (0,0)):=put6_blk hc h _ _ _ _ _ _
theorem put97_kept (Y:World)(br:Nat)(c1 c2:Value)(e:Bool):Kept Y (put97 Y br c1 c2 e) (fun k=>k=br):=Zlv _ _ _ _ _ _ _ _
theorem Zta {w0:W0}{Y:World}{br:Nat}(h:Below w0.heap.size w0 Y)(hb:w0.heap.size≤br)(c1 c2:Value)(e:Bool):Below w0.heap.size w0 (put97 Y br c1 c2 e):=Zod h hb _ _ _ _ _ _
theorem Ziu {W W':World}{br:Nat}{cs:Array Value}(hr:W.heap[br]?=some (.cells cs 97 (0,0)))(hk:Kept W W' (fun k=>k=br)):Same3 W W':=
 fun k cells hc=>hk.2 k (Zbj hc) (fun he=>by subst he;rw[hr]at hc;injection hc with hc;injection hc with _ hc;exact absurd hc (by decide))
theorem Zeu {w0:W0}{W Y:World}{gb:Nat}{h0 h1 vs vf:Value}{φ φ':Nat→Nat}{v v':Value}{s s':St}{x:Sx}{bp br:Nat}{pc:Array Value}{c1 c2:Value}(hv:VS w0 W gb h0 h1 vs vf φ v s.pl s.sh)(hg:Good s)
 (hf:Fr W Y bp br pc) (hy:VS w0 Y gb h0 h1 vs vf φ' v' s'.pl s'.sh) (hk:KeptV W Y gb v) (hn:NewOr W v v') (r1:Ri w0 Y c1 x.first) (r2:Ri w0 Y c2 x.last)
 (he:∀k,k<s.pl.length→φ' k=φ k) (hs:∀k y,(k,y)∈s'.sh→(k,y)∈s.sh∨(s.pl.length≤k∧br<φ' k)) (hi:Zhv φ s.sh→Zhv φ' s'.sh) :
 Znc w0 W gb h0 h1 vs vf φ v s x s' (.returned (.agg #[.int .i64 0,c1,c2,.bool x.empty,.int .i64 0,.int .i64 0])) (put97 Y br c1 c2 x.empty):=by
 have hp:=put97_kept Y br c1 c2 x.empty;have h3:=Ziu hf.r hp;have hlo:=hf.lo;refine⟨c1,c2,φ',v',rfl,r1.same h3,r2.same h3,hy.other hf.r hp (Zta hy.bel (Nat.le_trans hv.bel.size hlo) _ _ _) (fun k y hky he'=>?_),?_,hn,he,fun k y hky=>?_,hi⟩
 ·rcases hs k y hky with h | ⟨_,h⟩
  ·have hlt:=(hg.shs k y h).1;obtain⟨v1,v2,hc,_⟩:=(hv.shapes k y h).cells;have:=Zbj hc;rw[he k hlt]at he';omega
  ·omega
 ·exact hk.then_ hp (fun k hk'=>.inr (by rw[hk'];exact hlo))
 ·rcases hs k y hky with h | ⟨h,h2⟩
  ·exact .inl h
  ·exact .inr ⟨h,by omega⟩
theorem Zlr {w0:W0}{w:World}(hb:w0.heap.size≤w.heap.size)(hn:∀k,w.heap.size≤k→w0.ok k)(q:Int)(g:Nat)(hg:g=w.heap.size):Ri w0 (w.alloc (.cells #[.int .i64 q] 3)) (.slice (some ⟨g,0,none⟩) 1 1) [q]:=by
 obtain⟨v,e,hr,_⟩:=Zpn hg (Below.refl _ w) q;injection e with e
 subst e;exact Kd.R_of_own (Kd.own_of_R (Kd.R_lower hr hb)) (fun k hk=>hn k (World.ownsRow.lt (Kd.own_of_R hr) k hk).1)
theorem Zap {w0:W0}{w w':World}{v:Value}{l:List Int}(h:Ri w0 w v l)(hb:Below w.heap.size w w'):Ri w0 w' v l:=h.same (Same3.below hb)
theorem Zpk {w0:W0}{W Y:World}{gb:Nat}{h0 h1 vs vf:Value}{φ φ':Nat→Nat}{v v':Value}{s s':St}{bp br:Nat}{pc:Array Value}{k:Int}{e:Bool}(hv:VS w0 W gb h0 h1 vs vf φ v s.pl s.sh)(hg:Good s)
 (hf:Fr W Y bp br pc) (hy:VS w0 Y gb h0 h1 vs vf φ' v' s'.pl s'.sh) (hk:KeptV W Y gb v) (hn:NewOr W v v')
 (he:∀k,k<s.pl.length→φ' k=φ k) (hs:∀k y,(k,y)∈s'.sh→(k,y)∈s.sh∨(s.pl.length≤k∧br<φ' k)) (hi:Zhv φ s.sh→Zhv φ' s'.sh) (g1 g2:Nat) (e1:g1=Y.heap.size) (e2:g2=Y.heap.size+1) :
 Znc w0 W gb h0 h1 vs vf φ v s ⟨[k],[k],e⟩ s' (.returned (.agg #[.int .i64 0,.slice (some ⟨g1,0,none⟩) 1 1,.slice (some ⟨g2,0,none⟩) 1 1,.bool e,.int .i64 0,.int .i64 0]))
  (put97 ((Y.alloc (.cells #[.int .i64 k] 3)).alloc (.cells #[.int .i64 k] 3)) br (.slice (some ⟨g1,0,none⟩) 1 1) (.slice (some ⟨g2,0,none⟩) 1 1) e):=by
 have b1:=Zae (Below.refl Y.heap.size Y) (.cells #[.int .i64 k] 3);have b2:=Zae (Below.refl (Y.alloc (.cells #[.int .i64 k] 3)).heap.size (Y.alloc (.cells #[.int .i64 k] 3))) (.cells #[.int .i64 k] 3);have b3:=Zaf b1 b2;exact Zeu (x:=⟨[k],[k],e⟩) hv hg (hf.below b3) (hy.below b3) (hk.below b3) hn (Zap (Zlr hy.bel.size hy.new k g1 e1) b2) (Zlr (by have h9:w0.heap.size≤Y.heap.size:=hy.bel.size;simp;omega) (fun j hj=>hy.new j (by simp at hj;omega)) k g2 (by simp[e2])) he hs hi
set_option maxHeartbeats 4000000 in
theorem walk_tok (n:Nat)(w0:W0)(W:World)(gb:Nat)(h0 h1 vs vf:Value)(φ:Nat→Nat)(v:Value)(s:St)(b:Nat)(p:S76)(vp:Value)(h:VS w0 W gb h0 h1 vs vf φ v s.pl s.sh)(hg:Good s)(hb:b<s.pl.length)(hn:s.pl.length≤99999)(hp:Znk w0 p vp)(hk:p.f0=2) :
 Calls Tryz.prog 64 #[.pointer (some ⟨gb,0,none⟩),.pointer (some ⟨φ b,0,none⟩),vp] W (Znc w0 W gb h0 h1 vs vf φ v s ⟨[(s.pl.length:Int)],[(s.pl.length:Int)],false⟩ (s.add (Zax b p))):=by
 obtain⟨A1,c1,A2,c2,A3,c3,rfl,l1,g1,l2,g2,l3,g3⟩:=hp;rw[hk];have HV:=Zaa.mk h;have HP:Zaa (∀W',PlV φ w0 W' (Zax b p) (.agg #[.int .i64 3,.pointer (some ⟨φ b,0,none⟩),.int .i64 2,.slice A1 p.f1.length c1,.slice A2 p.f2.length c2,.slice A3 p.f3.length c3,.pointer none,.slice none 0 0,.int .i64 0])):=
  ⟨fun W'=>⟨_,rfl,A1,c1,A2,c2,A3,c3,.slice none 0 0,by rw[←hk];rfl,l1,g1,l2,g2,l3,g3,Kd.R_nil _ _ _ _ _⟩⟩
 have HG:=Zaa.mk hg;clear h hg g1 g2 g3
 go_enter Tryz.func64,Tryz.ntmps64
 go_upto_region 1 with (fail)
 have HFR:=Zaa.mk (Fr.first W #[.int .i64 2,.slice A1 p.f1.length c1,.slice A2 p.f2.length c2,.slice A3 p.f3.length c3]);have HVX:=Zaa.mk (HV.out.below (Zae (Zae (Below.refl _ W) (.cells #[.int .i64 2,.slice A1 p.f1.length c1,.slice A2 p.f2.length c2,.slice A3 p.f3.length c3] 76)) (.cells Zcs 97)));have HKX:=Zaa.mk (KeptV.of_below (Zae (Zae (Below.refl _ W) (.cells #[.int .i64 2,.slice A1 p.f1.length c1,.slice A2 p.f2.length c2,.slice A3 p.f3.length c3] 76)) (.cells Zcs 97)) gb v);generalize (W.alloc (.cells #[.int .i64 2,.slice A1 p.f1.length c1,.slice A2 p.f2.length c2,.slice A3 p.f3.length c3] 76)).alloc (.cells Zcs 97)=X at *;generalize W.heap.size+1=br at *;generalize W.heap.size=bp at *;have p0:=HFR.out.cl.p 0 _ rfl;have p1:=HFR.out.cl.p 1 _ rfl;have p2:=HFR.out.cl.p 2 _ rfl;have p3:=HFR.out.cl.p 3 _ rfl
 go_wp2_with (go_at_call 32;(with_reducible refine (Zil w0 X gb h0 h1 vs vf φ v s.pl s.sh HVX.out (Zax b p) _ (HP.out _) (by omega)).mono ?_);rintro e w5 ⟨rfl,v5,hv5,hk5,hn5⟩;have HFR5:=Zaa.mk (HFR.out.kept HVX.out hk5);have p0:=HFR5.out.cl.p 0 _ rfl;have p0a:=HFR5.out.cl.p2 0 _ rfl;have r0:=HFR5.out.cl.r2 0 _ rfl;have r1:=HFR5.out.cl.r2 1 _ rfl;have r2:=HFR5.out.cl.r2 2 _ rfl;have r3:=HFR5.out.cl.r2 3 _ rfl;have r4:=HFR5.out.cl.r2 4 _ rfl;have r5:=HFR5.out.cl.r2 5 _ rfl;have rf:=HFR5.out.cl.f2;have HV5:=Zaa.mk hv5;have HK5:=Zaa.mk hk5;have HN5:=Zaa.mk hn5;clear hv5 hk5 hn5)
 refine bodyPost_ret (results_cell_row rfl _ _ br 97 #[.int .i64 0,.slice (some ⟨w5.heap.size,0,none⟩) 1 1,.slice (some ⟨w5.heap.size+1,0,none⟩) 1 1,.bool false,.int .i64 0,.int .i64 0] (0,0) _ rfl (Zdk rfl (Zan (Zan HFR5.out.r _) _) _ _ _) Tryz.underlying97 rfl (by kernel_rfl)) rfl ?_
 exact Zpk (s':=s.add (Zax b p)) HV.out HG.out HFR5.out HV5.out (HKX.out.trans HK5.out (NewOr.refl _ _)) (HN5.out.elim .inl (fun⟨g,h1,h2⟩=>.inr ⟨g,h1,Nat.le_trans HKX.out.1 h2⟩)) (fun _ _=>rfl) (fun _ _ h=>.inl h) (fun h=>h) _ _ rfl rfl
theorem Zfk {W X:World}{v v':Value}{gb:Nat}(hk:KeptV W X gb v)(hn:NewOr X v v'):NewOr W v v':=hn.elim .inl (fun⟨g,h1,h2⟩=>.inr ⟨g,h1,Nat.le_trans hk.1 h2⟩)
set_option maxHeartbeats 4000000 in
theorem walk_well (n:Nat)(w0:W0)(W:World)(gb:Nat)(h0 h1 vs vf:Value)(φ:Nat→Nat)(v:Value)(s:St)(b:Nat)(p:S76)(vp:Value)(h:VS w0 W gb h0 h1 vs vf φ v s.pl s.sh)(hg:Good s)(hb:b<s.pl.length)(hn:s.pl.length≤99999)(hp:Znk w0 p vp)(hk:p.f0=4) :
 Calls Tryz.prog 64 #[.pointer (some ⟨gb,0,none⟩),.pointer (some ⟨φ b,0,none⟩),vp] W (Znc w0 W gb h0 h1 vs vf φ v s ⟨[(s.pl.length:Int)],[(s.pl.length:Int)],true⟩ ((s.add (Zax b p)).link [(s.pl.length:Int)] [(s.pl.length:Int)])):=by
 obtain⟨A1,c1,A2,c2,A3,c3,rfl,l1,g1,l2,g2,l3,g3⟩:=hp;rw[hk];have HV:=Zaa.mk h;have HP:Zaa (∀W',PlV φ w0 W' (Zax b p) (.agg #[.int .i64 3,.pointer (some ⟨φ b,0,none⟩),.int .i64 4,.slice A1 p.f1.length c1,.slice A2 p.f2.length c2,.slice A3 p.f3.length c3,.pointer none,.slice none 0 0,.int .i64 0])):=
  ⟨fun W'=>⟨_,rfl,A1,c1,A2,c2,A3,c3,.slice none 0 0,by rw[←hk];rfl,l1,g1,l2,g2,l3,g3,Kd.R_nil _ _ _ _ _⟩⟩
 have HG:=Zaa.mk hg;have HGA:=Zaa.mk (show AllRis (s.pl++[Zax b p]).length (s.pl++[Zax b p])from (hg.add (Zax b p) rfl (fun k hk=>by injection hk with hk;omega) (fun k hk=>by cases hk)).ris);clear h hg g1 g2 g3
 go_enter Tryz.func64,Tryz.ntmps64
 go_upto_region 1 with (fail)
 have HFR:=Zaa.mk (Fr.first W #[.int .i64 4,.slice A1 p.f1.length c1,.slice A2 p.f2.length c2,.slice A3 p.f3.length c3]);have HVX:=Zaa.mk (HV.out.below (Zae (Zae (Below.refl _ W) (.cells #[.int .i64 4,.slice A1 p.f1.length c1,.slice A2 p.f2.length c2,.slice A3 p.f3.length c3] 76)) (.cells Zcs 97)));have HKX:=Zaa.mk (KeptV.of_below (Zae (Zae (Below.refl _ W) (.cells #[.int .i64 4,.slice A1 p.f1.length c1,.slice A2 p.f2.length c2,.slice A3 p.f3.length c3] 76)) (.cells Zcs 97)) gb v);generalize (W.alloc (.cells #[.int .i64 4,.slice A1 p.f1.length c1,.slice A2 p.f2.length c2,.slice A3 p.f3.length c3] 76)).alloc (.cells Zcs 97)=X at *;generalize W.heap.size+1=br at *;generalize W.heap.size=bp at *;have p0:=HFR.out.cl.p 0 _ rfl;have p1:=HFR.out.cl.p 1 _ rfl;have p2:=HFR.out.cl.p 2 _ rfl;have p3:=HFR.out.cl.p 3 _ rfl
 go_wp2_with (first | (go_at_call 32;(with_reducible refine (Zil w0 X gb h0 h1 vs vf φ v s.pl s.sh HVX.out (Zax b p) _ (HP.out _) (by omega)).mono ?_);rintro e w5 ⟨rfl,v5,hv5,hk5,hn5⟩;have HFR5:=Zaa.mk (HFR.out.kept HVX.out hk5);have p0:=HFR5.out.cl.p 0 _ rfl;have HV5:=Zaa.mk hv5;have HK5:=Zaa.mk hk5;have HN5:=Zaa.mk hn5;clear hv5 hk5 hn5) | (go_at_call 91;(with_reducible refine (Zmj w0 ((w5.alloc (.cells #[.int .i64 s.pl.length] 3)).alloc (.cells #[.int .i64 s.pl.length] 3)) gb h0 h1 vs vf φ v5 _ s.sh ((HV5.out.below (Zae Zbr _)).below (Zae Zbr _)) _ _ [(s.pl.length:Int)] [(s.pl.length:Int)] (Zap (Zlr HV5.out.bel.size HV5.out.new _ _ rfl) (Zae Zbr _)) (Zlr (by have h9:w0.heap.size≤w5.heap.size:=HV5.out.bel.size;simp;omega) (fun j hj=>HV5.out.new j (by simp at hj;omega)) _ _ (by simp)) (Ris.one (by omega) (by simp;omega)) (Ris.one (by omega) (by simp;omega)) HGA.out (by simp;omega)).mono ?_);rintro e w6 ⟨rfl,hv6,hk6⟩;have hk6:=KeptV.trans (KeptV.of_below (Zaf (Zae (Below.refl _ w5) (.cells #[.int .i64 s.pl.length] 3)) (Zae Zbr (.cells #[.int .i64 s.pl.length] 3))) gb v5) hk6 (NewOr.refl _ _);have HFR6:=Zaa.mk (HFR5.out.kept HV5.out hk6);have p0:=HFR6.out.cl.p 0 _ rfl;have p0a:=HFR6.out.cl.p2 0 _ rfl;have r0:=HFR6.out.cl.r2 0 _ rfl;have r1:=HFR6.out.cl.r2 1 _ rfl;have r2:=HFR6.out.cl.r2 2 _ rfl;have r3:=HFR6.out.cl.r2 3 _ rfl;have r4:=HFR6.out.cl.r2 4 _ rfl;have r5:=HFR6.out.cl.r2 5 _ rfl;have rf:=HFR6.out.cl.f2;have HV6:=Zaa.mk hv6;have HK6:=Zaa.mk hk6;clear hv6 hk6))
 refine bodyPost_ret (results_cell_row rfl _ _ br 97 #[.int .i64 0,.slice (some ⟨w6.heap.size,0,none⟩) 1 1,.slice (some ⟨w6.heap.size+1,0,none⟩) 1 1,.bool true,.int .i64 0,.int .i64 0] (0,0) _ rfl (Zdk rfl (Zan (Zan HFR6.out.r _) _) _ _ _) Tryz.underlying97 rfl (by kernel_rfl)) rfl ?_
 exact Zpk (s':=(s.add (Zax b p)).link [(s.pl.length:Int)] [(s.pl.length:Int)]) HV.out HG.out HFR6.out HV6.out (HKX.out.trans (HK5.out.trans HK6.out HN5.out) (NewOr.refl _ _)) (Zfk HKX.out HN5.out) (fun _ _=>rfl) (fun _ _ h=>.inl h) (fun h=>h) _ _ rfl rfl
set_option maxHeartbeats 4000000 in
theorem walk_none (w0:W0)(W:World)(gb:Nat)(h0 h1 vs vf:Value)(φ:Nat→Nat)(v:Value)(s:St)(b:Nat)(p:S76)(vp:Value)(h:VS w0 W gb h0 h1 vs vf φ v s.pl s.sh)(hg:Good s)(hp:Znk w0 p vp)(k2:p.f0≠2)(k3:p.f0≠3)(k4:p.f0≠4)(k5:p.f0≠5)(k6:p.f0≠6)(k7:p.f0≠7) :
 Calls Tryz.prog 64 #[.pointer (some ⟨gb,0,none⟩),.pointer (some ⟨φ b,0,none⟩),vp] W (Znc w0 W gb h0 h1 vs vf φ v s ⟨[],[],true⟩ s):=by
 obtain⟨A1,c1,A2,c2,A3,c3,rfl,l1,g1,l2,g2,l3,g3⟩:=hp;have HV:=Zaa.mk h;have HG:=Zaa.mk hg;have z2:(p.f0==2)=false:=by simpa using k2
 have z3:(p.f0==3)=false:=by simpa using k3
 have z4:(p.f0==4)=false:=by simpa using k4
 have z5:(p.f0==5)=false:=by simpa using k5
 have z6:(p.f0==6)=false:=by simpa using k6
 have z7:(p.f0==7)=false:=by simpa using k7
 clear h hg g1 g2 g3 k2 k3 k4 k5 k6 k7;generalize p.f0=kd at *
 go_enter Tryz.func64,Tryz.ntmps64
 go_upto_region 1 with (fail)
 have HFR:=Zaa.mk (Fr.first W #[.int .i64 kd,.slice A1 p.f1.length c1,.slice A2 p.f2.length c2,.slice A3 p.f3.length c3]);have HVX:=Zaa.mk (HV.out.below (Zae (Zae (Below.refl _ W) (.cells #[.int .i64 kd,.slice A1 p.f1.length c1,.slice A2 p.f2.length c2,.slice A3 p.f3.length c3] 76)) (.cells Zcs 97)));have HKX:=Zaa.mk (KeptV.of_below (Zae (Zae (Below.refl _ W) (.cells #[.int .i64 kd,.slice A1 p.f1.length c1,.slice A2 p.f2.length c2,.slice A3 p.f3.length c3] 76)) (.cells Zcs 97)) gb v);generalize (W.alloc (.cells #[.int .i64 kd,.slice A1 p.f1.length c1,.slice A2 p.f2.length c2,.slice A3 p.f3.length c3] 76)).alloc (.cells Zcs 97)=X at *;generalize W.heap.size+1=br at *;generalize W.heap.size=bp at *;have p0:=HFR.out.cl.p 0 _ rfl;have r0:=HFR.out.cl.r 0 _ rfl;have r1:=HFR.out.cl.r 1 _ rfl;have r2:=HFR.out.cl.r 2 _ rfl;have r3:=HFR.out.cl.r 3 _ rfl;have r4:=HFR.out.cl.r 4 _ rfl;have r5:=HFR.out.cl.r 5 _ rfl;have rf:=HFR.out.cl.f;go_wp2
 refine bodyPost_ret (results_cell_row rfl _ _ br 97 #[.int .i64 0,.slice none 0 0,.slice none 0 0,.bool true,.int .i64 0,.int .i64 0] (0,0) _ rfl (Zdk rfl HFR.out.r _ _ _) Tryz.underlying97 rfl (by kernel_rfl)) rfl ?_
 exact Zeu (x:=⟨[],[],true⟩) (s':=s) HV.out HG.out HFR.out HVX.out HKX.out (NewOr.refl _ _) (Kd.R_nil _ _ _ _ _) (Kd.R_nil _ _ _ _ _) (fun _ _=>rfl) (fun _ _ h=>.inl h) (fun h=>h)
theorem VS.phi {w0:W0}{W:World}{gb:Nat}{h0 h1 vs vf:Value}{φ φ':Nat→Nat}{v:Value}{s:St}(h:VS w0 W gb h0 h1 vs vf φ v s.pl s.sh)(hg:Good s)(he:∀k,k<s.pl.length→φ' k=φ k):VS w0 W gb h0 h1 vs vf φ' v s.pl s.sh:=by
 obtain⟨inner,ho,hr⟩:=h.row;refine⟨h.ge,h.blk,⟨inner,ho,hr.1,fun j p hj=>?_⟩,fun k x hx=>by rw[he k (hg.shs k x hx).1];exact h.shapes k x hx,h.bel,h.new⟩;have e:s.pl.getD j zPl=p:=by rw[List.getD_eq_getElem?_getD,hj];rfl
 exact (hr.2 j p hj).phi (fun k hk=>he k (hg.ids j k (by rw[e];exact hk))) (fun k hk=>he k (hg.ins j k (by rw[e];exact hk)))
structure PatE (w0:W0)(W:World)(gb:Nat)(h0 h1 vs vf:Value)(φ:Nat→Nat)(v:Value)(s s':St)(e:Ending)(w':World):Prop where
 out:∃φ' v',e=.returned (.pointer (some ⟨φ' s.pl.length,0,none⟩))∧VS w0 w' gb h0 h1 vs vf φ' v' s'.pl s'.sh∧KeptV W w' gb v∧NewOr W v v' ∧
  (∀k,k<s.pl.length→φ' k=φ k)∧(∀k y,(k,y)∈s'.sh→(k,y)∈s.sh∨(s.pl.length≤k∧W.heap.size≤φ' k))∧(Zhv φ s.sh→Zhv φ' s'.sh)
def PatC (n:Nat):Prop:=∀(w0:W0) (W:World) (gb:Nat) (h0 h1 vs vf:Value) (φ:Nat→Nat) (v:Value) (s:St) (p:S76) (vp:Value) (rule step:Int),VS w0 W gb h0 h1 vs vf φ v s.pl s.sh→Good s→Zen n p→s.pl.length+1+Zcx n p≤100000→Znk w0 p vp →
 Calls Tryz.prog 33 #[.pointer (some ⟨gb,0,none⟩),vp,.int .i64 rule,.int .i64 step] W (PatE w0 W gb h0 h1 vs vf φ v s (Zgn (Zau n) p rule step s))
theorem pat_end {w0:W0}{W Y:World}{gb:Nat}{h0 h1 vs vf:Value}{φ φ2:Nat→Nat}{v v':Value}{s s2:St}{x:Sx}{bp g:Nat}{pc:Array Value}{c1 c2:Value}{rule step:Int}(hv:VS w0 W gb h0 h1 vs vf φ v s.pl s.sh)(hg:Good s)
 (hf:Fr W Y bp g pc) (hy:VS w0 Y gb h0 h1 vs vf φ2 v' s2.pl s2.sh) (hk:KeptV W Y gb v) (hn:NewOr W v v') (r1:Ri w0 Y c1 x.first) (r2:Ri w0 Y c2 x.last)
 (eg:φ2 s.pl.length=g) (he:∀k,k<s.pl.length→φ2 k=φ k) (hs:∀k y,(k,y)∈s2.sh→(k,y)∈s.sh∨(s.pl.length<k∧g<φ2 k)) (hi:Zhv φ s.sh→Zhv φ2 s2.sh) :
 PatE w0 W gb h0 h1 vs vf φ v s (s2.close s.pl.length x rule step) (.returned (.pointer (some ⟨g,0,none⟩))) (put6 Y g (.int .i64 s.pl.length) c1 c2 (.bool x.empty) (.int .i64 rule) (.int .i64 step)):=by
 have hp:=Zlv Y g (.int .i64 s.pl.length) c1 c2 (.bool x.empty) (.int .i64 rule) (.int .i64 step);have h3:=Ziu hf.r hp;have hlo:=hf.lo;have hne:∀k y,(k,y)∈s2.sh→φ2 k≠g:=fun k y hky he'=>by
  rcases hs k y hky with h | ⟨_,h⟩
  ·have hlt:=(hg.shs k y h).1;obtain⟨v1,v2,hc,_⟩:=(hv.shapes k y h).cells;have:=Zbj hc;rw[he k hlt]at he';omega
  ·omega
 have hvo:=hy.other hf.r hp (Zod hy.bel (Nat.le_trans hv.bel.size hlo) _ _ _ _ _ _) hne;refine⟨φ2,v',by rw[eg],⟨hvo.ge,hvo.blk,hvo.row,fun k y hky=>?_,hvo.bel,hvo.new⟩,hk.then_ hp (fun k hk'=>.inr (by rw[hk'];exact hlo)),hn,he,fun k y hky=>?_,fun hin=>?_⟩
 ·rcases List.mem_append.1 hky with hky | hky
  ·exact hvo.shapes k y hky
  ·rw[List.mem_singleton]at hky;injection hky with e1 e2
   subst e1;subst e2;rw[eg];exact⟨Nat.le_trans hv.bel.size hlo,c1,c2,put6_blk rfl hf.r _ _ _ _ _ _,r1.same h3,r2.same h3⟩
 ·rcases List.mem_append.1 hky with hky | hky
  ·rcases hs k y hky with h | ⟨h,h2⟩
   ·exact .inl h
   ·exact .inr ⟨by omega,by omega⟩
  ·rw[List.mem_singleton]at hky;injection hky with e1 e2
   subst e1;exact .inr ⟨Nat.le_refl _,by rw[eg];exact hlo⟩
 ·intro k k' y y' h1 h2 h3
  rcases List.mem_append.1 h1 with h1 | h1 <;> rcases List.mem_append.1 h2 with h2 | h2
  ·exact hi hin k k' y y' h1 h2 h3
  ·rw[List.mem_singleton]at h2;injection h2 with e1 e2
   subst e1;exact absurd (h3.trans eg) (hne k y h1)
  ·rw[List.mem_singleton]at h1;injection h1 with e1 e2
   subst e1;exact absurd (h3.symm.trans eg) (hne k' y' h2)
  ·rw[List.mem_singleton]at h1 h2;injection h1 with e1 e2
   injection h2 with e3 e4
   rw[e1,e3]
set_option maxHeartbeats 4000000 in
theorem Zhk (n:Nat)(hw:WalkC n):PatC n:=by
 intro w0 W gb h0 h1 vs vf φ v s p vp rule step h hg hok hlen hp;have HPV:=Zaa.mk hp;obtain⟨A1,c1,A2,c2,A3,c3,rfl,l1,g1,l2,g2,l3,g3⟩:=hp;have HV:=Zaa.mk h;have HG:=Zaa.mk hg;have HW:=Zaa.mk hw;have HOK:=Zaa.mk hok;clear h hg hw hok g1 g2 g3
 go_enter Tryz.func33,Tryz.ntmps33
 go_upto_region 2 with (fail)
 have HFR:=Zaa.mk (Fr.first W #[.int .i64 p.f0,.slice A1 p.f1.length c1,.slice A2 p.f2.length c2,.slice A3 p.f3.length c3]);have HVX:=Zaa.mk (HV.out.below (Zae (Zae (Below.refl _ W) (.cells #[.int .i64 p.f0,.slice A1 p.f1.length c1,.slice A2 p.f2.length c2,.slice A3 p.f3.length c3] 76)) (.cells Zcs 97)));have HKX:=Zaa.mk (KeptV.of_below (Zae (Zae (Below.refl _ W) (.cells #[.int .i64 p.f0,.slice A1 p.f1.length c1,.slice A2 p.f2.length c2,.slice A3 p.f3.length c3] 76)) (.cells Zcs 97)) gb v);generalize (W.alloc (.cells #[.int .i64 p.f0,.slice A1 p.f1.length c1,.slice A2 p.f2.length c2,.slice A3 p.f3.length c3] 76)).alloc (.cells Zcs 97)=X at *;have hgX:W.heap.size≤W.heap.size+1:=Nat.le_succ _;have HLO:Zaa (∀k x,(k,x)∈s.sh→φ k<W.heap.size):=⟨fun k x hk=>by obtain⟨v1,v2,hc,_⟩:=(HV.out.shapes k x hk).cells;exact Zbj hc⟩
 generalize hgg:W.heap.size+1=g at *;generalize hbp:W.heap.size=bp at *;obtain⟨φ1,hφ1⟩:∃φ1:Nat→Nat,φ1=fun k=>if k=s.pl.length then g else φ k:=⟨_,rfl⟩
 have H1:Zaa (∀k,k<s.pl.length→φ1 k=φ k):=⟨fun k hk=>by rw[hφ1];simp;omega⟩
 have H2:Zaa (φ1 s.pl.length=g):=⟨by rw[hφ1];simp⟩
 have HV1:=Zaa.mk (HVX.out.phi HG.out H1.out);have HP:Zaa (∀W',PlV φ1 w0 W' (Zbc s.pl.length) (.agg #[.int .i64 2,.pointer (some ⟨g,0,none⟩),.int .i64 0,.slice none 0 0,.slice none 0 0,.slice none 0 0,.pointer none,.slice none 0 0,.int .i64 0])):=
  ⟨fun W'=>⟨_,rfl,none,0,none,0,none,0,.slice none 0 0,by rw[show ptr φ1 (Zbc s.pl.length).shape=.pointer (some ⟨g,0,none⟩)from by show Value.pointer (some ⟨φ1 s.pl.length,0,none⟩)=_;rw[H2.out]];rfl,Nat.zero_le _,Kd.C_nil _ _,Nat.zero_le _,Kd.C_nil _ _,Nat.zero_le _,Kd.C_nil _ _,Kd.R_nil _ _ _ _ _⟩⟩
 clear hφ1;have p0:=HFR.out.cl.p 0 _ rfl;have p1:=HFR.out.cl.p 1 _ rfl;have p2:=HFR.out.cl.p 2 _ rfl;have p3:=HFR.out.cl.p 3 _ rfl;have HHI:Zaa (g<X.heap.size):=⟨Zbj HFR.out.r⟩
 obtain⟨x,hx⟩:∃x,x=(Zau n s.pl.length p (s.add (Zbc s.pl.length))).1:=⟨_,rfl⟩
 obtain⟨s2,hs2⟩:∃s2,s2=(Zau n s.pl.length p (s.add (Zbc s.pl.length))).2:=⟨_,rfl⟩
 have HSX:Zaa (Zgn (Zau n) p rule step s=s2.close s.pl.length x rule step):=⟨by unfold Zgn;rw[←hx,←hs2]⟩
 have HC:Zaa (∀w5 v5,VS w0 w5 gb h0 h1 vs vf φ1 v5 (s.pl++[Zbc s.pl.length]) s.sh→Calls Tryz.prog 64 #[.pointer (some ⟨gb,0,none⟩),.pointer (some ⟨g,0,none⟩),.agg #[.int .i64 p.f0,.slice A1 p.f1.length c1,.slice A2 p.f2.length c2,.slice A3 p.f3.length c3]] w5 (Znc w0 w5 gb h0 h1 vs vf φ1 v5 (s.add (Zbc s.pl.length)) x s2)):=⟨fun w5 v5 hv5=>by
  have hc:=HW.out w0 w5 gb h0 h1 vs vf φ1 v5 (s.add (Zbc s.pl.length)) s.pl.length p _ hv5 (HG.out.add _ rfl (fun k hk=>by injection hk with hk;omega) (fun k hk=>by cases hk)) (by simp[St.add]) HOK.out (by simp[St.add];omega) HPV.out;rw[H2.out,←hx,←hs2]at hc;exact hc⟩
 clear hx hs2
 go_wp2_with (first
  | (go_at_call 32;(with_reducible refine (Zil w0 X gb h0 h1 vs vf φ1 v s.pl s.sh HV1.out (Zbc s.pl.length) _ (HP.out _) (by omega)).mono ?_);rintro e w5 ⟨rfl,v5,hv5,hk5,hn5⟩;have HFR5:=Zaa.mk (HFR.out.kept HV1.out hk5);have p0:=HFR5.out.cl.p 0 _ rfl;have p1:=HFR5.out.cl.p 1 _ rfl;have p2:=HFR5.out.cl.p 2 _ rfl;have p3:=HFR5.out.cl.p 3 _ rfl;have HV5:=Zaa.mk hv5;have HK5:=Zaa.mk hk5;have HN5:=Zaa.mk hn5;clear hv5 hk5 hn5)
  | (go_at_call 64;(with_reducible refine (HC.out _ _ HV5.out).mono ?_);rintro e w6 ⟨x1,x2,φ2,v6,rfl,hr1,hr2,hv6,hk6,hn6,he6,hs6,hi6⟩;obtain⟨B1,d1,rfl,hl1,_⟩:=hr1.C;obtain⟨B2,d2,rfl,hl2,_⟩:=hr2.C;have HFR6:=Zaa.mk (HFR5.out.kept HV5.out hk6);have HR1:=Zaa.mk hr1;have HR2:=Zaa.mk hr2;have HV6:=Zaa.mk hv6;have HK6:=Zaa.mk hk6;have HN6:=Zaa.mk hn6;have HE6:=Zaa.mk he6;have HS6:=Zaa.mk hs6;have HI6:=Zaa.mk hi6;have HFA:=fun o=>(HFR6.out.below (Zae Zbr o)).cl;have r0:=fun o=>(HFA o).r 0 _ rfl;have r1:=fun o=>(HFA o).r 1 _ rfl;have r2:=fun o=>(HFA o).r 2 _ rfl;have r3:=fun o=>(HFA o).r 3 _ rfl;have r4:=fun o=>(HFA o).r 4 _ rfl;have r5:=fun o=>(HFA o).r 5 _ rfl;have rf:=fun o=>(HFA o).f;clear hr1 hr2 hv6 hk6 hn6 he6 hs6 hi6 HFA))
 go_ret
 have hal:(s.add (Zbc s.pl.length)).pl.length=s.pl.length+1:=by simp[St.add]
 have hbA:=Zae (Below.refl _ w6) (.cells #[.int .i64 0,.slice B1 x.first.length d1,.slice B2 x.last.length d2,.bool x.empty,.int .i64 0,.int .i64 0] 97);have hk56:=HKX.out.trans (HK5.out.trans HK6.out HN5.out) (NewOr.refl _ _);have hsz:X.heap.size≤w5.heap.size:=HK5.out.1;have hhi:=HHI.out;rw[HSX.out];exact pat_end HV.out HG.out (HFR6.out.below hbA) (HV6.out.below hbA) (hk56.below hbA) (NewOr.trans (Zfk HKX.out HN5.out) HN6.out (Nat.le_trans HKX.out.1 hsz)) (Zap HR1.out hbA) (Zap HR2.out hbA)
  ((HE6.out _ (by omega)).trans H2.out) (fun k hk=>(HE6.out k (by omega)).trans (H1.out k hk)) (fun k y hky=>(HS6.out k y hky).elim .inl (fun⟨h,h2⟩=>.inr ⟨by omega,by omega⟩))
  (fun hin=>HI6.out (fun k k' y y' h1 h2 h3=>hin k k' y y' h1 h2 (by rw[←H1.out k (HG.out.shs k y h1).1,←H1.out k' (HG.out.shs k' y' h2).1];exact h3)))
theorem kid0 {w0:W0}{A:Option Addr}{n:Nat}{xs:List S76}(h:k76.C w0 A n xs)(hi:0<n):∃ad D1 d1 D2 d2 D3 d3,A=some ad ∧
 Znk w0 (Zaj xs 0) (.agg #[.int .i64 (Zaj xs 0).f0,.slice D1 (Zaj xs 0).f1.length d1,.slice D2 (Zaj xs 0).f2.length d2,.slice D3 (Zaj xs 0).f3.length d3]) ∧
 ∀W,Below w0.heap.size w0 W→W.cell? ad=some (.int .i64 (Zaj xs 0).f0)∧W.cell? ⟨ad.block,ad.off+1,none⟩=some (.slice D1 (Zaj xs 0).f1.length d1)∧W.cell? ⟨ad.block,ad.off+2,none⟩=some (.slice D2 (Zaj xs 0).f2.length d2)∧W.cell? ⟨ad.block,ad.off+3,none⟩=some (.slice D3 (Zaj xs 0).f3.length d3):=by
 obtain⟨ad,D1,d1,D2,d2,D3,d3,e,c0,c1,c2,c3,r⟩:=at_T76 h 0 (Int.le_refl _) (by omega);have z:ad.add ((0:Int).toNat*4)=ad:=by unfold Addr.add;simp
 rw[z]at c0 c1 c2 c3;exact⟨ad,D1,d1,D2,d2,D3,d3,e,⟨D1,d1,D2,d2,D3,d3,rfl,r⟩,fun W hW=>⟨Zab hW c0,Zab hW c1,Zab hW c2,Zab hW c3⟩⟩
theorem kid1 {w0:W0}{ad:Addr}{n:Nat}{xs:List S76}(h:k76.C w0 (some ad) n xs)(hi:1<n):∃D1 d1 D2 d2 D3 d3,
 Znk w0 (Zaj xs 1) (.agg #[.int .i64 (Zaj xs 1).f0,.slice D1 (Zaj xs 1).f1.length d1,.slice D2 (Zaj xs 1).f2.length d2,.slice D3 (Zaj xs 1).f3.length d3]) ∧
 ∀W,Below w0.heap.size w0 W→W.cell? ⟨ad.block,ad.off+4,none⟩=some (.int .i64 (Zaj xs 1).f0)∧W.cell? ⟨ad.block,ad.off+4+1,none⟩=some (.slice D1 (Zaj xs 1).f1.length d1)∧W.cell? ⟨ad.block,ad.off+4+2,none⟩=some (.slice D2 (Zaj xs 1).f2.length d2)∧W.cell? ⟨ad.block,ad.off+4+3,none⟩=some (.slice D3 (Zaj xs 1).f3.length d3):=by
 obtain⟨ad',D1,d1,D2,d2,D3,d3,e,c0,c1,c2,c3,r⟩:=at_T76 h 1 (by omega) (by omega);injection e with e
 subst e;have z:ad.add ((1:Int).toNat*4)=⟨ad.block,ad.off+4,none⟩:=by unfold Addr.add;simp
 rw[z]at c0 c1 c2 c3;exact⟨D1,d1,D2,d2,D3,d3,⟨D1,d1,D2,d2,D3,d3,rfl,r⟩,fun W hW=>⟨Zab hW c0,Zab hW c1,Zab hW c2,Zab hW c3⟩⟩
set_option maxHeartbeats 4000000 in
theorem walk_pin (n:Nat)(hpc:PatC n)(hwg:Znd n)(w0:W0)(W:World)(gb:Nat)(h0 h1 vs vf:Value)(φ:Nat→Nat)(v:Value)(s:St)(b:Nat)(p:S76)(vp:Value)(h:VS w0 W gb h0 h1 vs vf φ v s.pl s.sh)(hg:Good s)(hb:b<s.pl.length)(hp:Znk w0 p vp)(hk:p.f0=3)
 (hc1:1≤p.f3.length) (hok:Zen n (Zaj p.f3 0)) (hlen:s.pl.length+2+Zcx n (Zaj p.f3 0)≤100000) :
 Calls Tryz.prog 64 #[.pointer (some ⟨gb,0,none⟩),.pointer (some ⟨φ b,0,none⟩),vp] W (Znc w0 W gb h0 h1 vs vf φ v s ⟨[(s.pl.length:Int)],[(s.pl.length:Int)],false⟩ ((Zgn (Zau n) (Zaj p.f3 0) (-1) (-1) (s.add (Zax b p))).inner s.pl.length (s.pl.length+1))):=by
 obtain⟨A1,c1,A2,c2,A3,c3,rfl,l1,g1,l2,g2,l3,g3⟩:=hp;rw[hk];have HV:=Zaa.mk h;have HP:Zaa (∀W',PlV φ w0 W' (Zax b p) (.agg #[.int .i64 3,.pointer (some ⟨φ b,0,none⟩),.int .i64 3,.slice A1 p.f1.length c1,.slice A2 p.f2.length c2,.slice A3 p.f3.length c3,.pointer none,.slice none 0 0,.int .i64 0])):=
  ⟨fun W'=>⟨_,rfl,A1,c1,A2,c2,A3,c3,.slice none 0 0,by show _=[Value.int .i64 3,ptr φ (some b),Value.int .i64 p.f0,Value.slice A1 p.f1.length c1,Value.slice A2 p.f2.length c2,Value.slice A3 p.f3.length c3,ptr φ none,Value.slice none 0 0,Value.int .i64 0];rw[hk];rfl,l1,g1,l2,g2,l3,g3,Kd.R_nil _ _ _ _ _⟩⟩
 have HG:=Zaa.mk hg;have hgood:Good (s.add (Zax b p)):=hg.add _ rfl (fun k hk=>by injection hk with hk;omega) (fun k hk=>by cases hk);have hal:(s.add (Zax b p)).pl.length=s.pl.length+1:=by simp[St.add]
 obtain⟨ad,D1,d1,D2,d2,D3,d3,rfl,hq,hcells⟩:=kid0 g3 (by omega);have hpg:=Zhl hwg (Zaj p.f3 0) (-1) (-1) _ hgood;obtain⟨s3,hs3⟩:∃s3,s3=Zgn (Zau n) (Zaj p.f3 0) (-1) (-1) (s.add (Zax b p)):=⟨_,rfl⟩
 have HC:Zaa (∀w5 v5,VS w0 w5 gb h0 h1 vs vf φ v5 (s.pl++[Zax b p]) s.sh→Calls Tryz.prog 33 #[.pointer (some ⟨gb,0,none⟩),.agg #[.int .i64 (Zaj p.f3 0).f0,.slice D1 (Zaj p.f3 0).f1.length d1,.slice D2 (Zaj p.f3 0).f2.length d2,.slice D3 (Zaj p.f3 0).f3.length d3],.int .i64 (-1),.int .i64 (-1)] w5 (PatE w0 w5 gb h0 h1 vs vf φ v5 (s.add (Zax b p)) s3)):=⟨fun w5 v5 hv5=>by
  rw[hs3];exact hpc w0 w5 gb h0 h1 vs vf φ v5 (s.add (Zax b p)) (Zaj p.f3 0) _ (-1) (-1) hv5 hgood hok (by omega) hq⟩
 rw[←hs3]at hpg ⊢;have hl3:s3.pl.length=s.pl.length+2+Zcx n (Zaj p.f3 0):=by rw[hpg.2,hal]
 have HPG:=Zaa.mk hpg;have HCE:=Zaa.mk hcells;clear hs3 h hg g1 g2 g3 hgood hpc hwg hq hok hpg hcells;generalize Zaj p.f3 0=q at *
 go_enter Tryz.func64,Tryz.ntmps64
 go_upto_region 1 with (fail)
 have HFR:=Zaa.mk (Fr.first W #[.int .i64 3,.slice A1 p.f1.length c1,.slice A2 p.f2.length c2,.slice (some ad) p.f3.length c3]);have HVX:=Zaa.mk (HV.out.below (Zae (Zae (Below.refl _ W) (.cells #[.int .i64 3,.slice A1 p.f1.length c1,.slice A2 p.f2.length c2,.slice (some ad) p.f3.length c3] 76)) (.cells Zcs 97)));have HKX:=Zaa.mk (KeptV.of_below (Zae (Zae (Below.refl _ W) (.cells #[.int .i64 3,.slice A1 p.f1.length c1,.slice A2 p.f2.length c2,.slice (some ad) p.f3.length c3] 76)) (.cells Zcs 97)) gb v);generalize (W.alloc (.cells #[.int .i64 3,.slice A1 p.f1.length c1,.slice A2 p.f2.length c2,.slice (some ad) p.f3.length c3] 76)).alloc (.cells Zcs 97)=X at *;generalize W.heap.size+1=br at *;generalize W.heap.size=bp at *;have p0:=HFR.out.cl.p 0 _ rfl;have p1:=HFR.out.cl.p 1 _ rfl;have p2:=HFR.out.cl.p 2 _ rfl;have p3:=HFR.out.cl.p 3 _ rfl;have HHI:Zaa (br<X.heap.size):=⟨Zbj HFR.out.r⟩
 go_upto_region 11 with (first
  | (go_at_call 32;(with_reducible refine (Zil w0 X gb h0 h1 vs vf φ v s.pl s.sh HVX.out (Zax b p) _ (HP.out _) (by omega)).mono ?_);rintro e w5 ⟨rfl,v5,hv5,hk5,hn5⟩;have HFR5:=Zaa.mk (HFR.out.kept HVX.out hk5);have p0:=HFR5.out.cl.p 0 _ rfl;have p3:=HFR5.out.cl.p 3 _ rfl;obtain⟨q0,q1,q2,q3⟩:=HCE.out w5 hv5.bel;have HV5:=Zaa.mk hv5;have HK5:=Zaa.mk hk5;have HN5:=Zaa.mk hn5;clear hv5 hk5 hn5)
  | (go_at_call 33;(with_reducible refine (HC.out _ _ HV5.out).mono ?_);rintro e w6 ⟨φ2,v6,rfl,hv6,hk6,hn6,he6,hs6,hi6⟩;obtain⟨A6,c6,rfl,hlc6⟩:=hv6.row.slice_;obtain⟨ae,cs,rfl,hps,hcell,hfz⟩:=hv6.at_ rfl s.pl.length (by omega);obtain⟨E1,e1,E2,e2,E3,e3,u4,rfl,_⟩:=hps;have y6:=hcell 6 _ rfl;rw[Zlw]at y6;have y2:=hv6.cell2;have HFR6:=Zaa.mk (HFR5.out.kept HV5.out hk6);have HV6:=Zaa.mk hv6;have HK6:=Zaa.mk hk6;have HN6:=Zaa.mk hn6;have HE6:=Zaa.mk he6;have HS6:=Zaa.mk hs6;have HI6:=Zaa.mk hi6;clear hcell hv6 hk6 hn6 he6 hs6 hi6 hlc6))
 have hset:=HV6.out.setAt (A:=some ae) (c:=c6) rfl rfl s.pl.length (by omega) 6 (by omega) (.pointer (some ⟨φ2 (s.pl.length+1),0,none⟩)) { s3.pl.getD s.pl.length zPl with inner:=some (s.pl.length+1) } (fun c hc hp=>hp.setInner (some (s.pl.length+1)));have HFR7:=Zaa.mk (HFR6.out.kept HV6.out hset.2);have HV7:=Zaa.mk hset.1;have HK7:=Zaa.mk hset.2;clear hset y6 y2 hfz q0 q1 q2 q3 p0 p1 p2 p3;generalize w6.setCell ⟨(ae.add (s.pl.length*9)).block,(ae.add (s.pl.length*9)).off+6,none⟩ (.pointer (some ⟨φ2 (s.pl.length+1),0,none⟩))=Y at *;have p0a:=HFR7.out.cl.p2 0 _ rfl;have r0:=HFR7.out.cl.r2 0 _ rfl;have r1:=HFR7.out.cl.r2 1 _ rfl;have r2:=HFR7.out.cl.r2 2 _ rfl;have r3:=HFR7.out.cl.r2 3 _ rfl;have r4:=HFR7.out.cl.r2 4 _ rfl;have r5:=HFR7.out.cl.r2 5 _ rfl;have rf:=HFR7.out.cl.f2;go_wp2
 refine bodyPost_ret (results_cell_row rfl _ _ br 97 #[.int .i64 0,.slice (some ⟨Y.heap.size,0,none⟩) 1 1,.slice (some ⟨Y.heap.size+1,0,none⟩) 1 1,.bool false,.int .i64 0,.int .i64 0] (0,0) _ rfl (Zdk rfl (Zan (Zan HFR7.out.r _) _) _ _ _) Tryz.underlying97 rfl (by kernel_rfl)) rfl ?_
 have hkk:=HKX.out.trans (HK5.out.trans (HK6.out.trans HK7.out HN6.out) HN5.out) (NewOr.refl _ _);have hsz:X.heap.size≤w5.heap.size:=HK5.out.1;have hhi:=HHI.out;exact Zpk (s':=s3.inner s.pl.length (s.pl.length+1)) HV.out HG.out HFR7.out HV7.out hkk (NewOr.trans (Zfk HKX.out HN5.out) HN6.out (Nat.le_trans HKX.out.1 hsz))
  (fun k hk=>HE6.out k (by omega)) (fun k y hky=>(HS6.out k y hky).elim .inl (fun⟨h,h2⟩=>.inr ⟨by omega,by omega⟩)) HI6.out _ _ rfl rfl
abbrev Zih (c1 c2:Value)(e:Bool):Array Value:=#[.int .i64 0,c1,c2,.bool e,.int .i64 0,.int .i64 0]
theorem Zfp {w0:W0}{W W':World}{gb:Nat}{h0 h1 vs vf:Value}{φ:Nat→Nat}{v:Value}{pl:List Pl}{sh:List (Nat × Sh)}(h:VS w0 W gb h0 h1 vs vf φ v pl sh)(hk:KeptV W W' gb v){g:Nat}{cs:Array Value}(hg:W.heap[g]?=some (.cells cs 97 (0,0))):W'.heap[g]?=some (.cells cs 97 (0,0)):=h.keep hk hg (by decide) (by decide)
theorem AllRis.good {s:St}(h:Good s):AllRis s.pl.length s.pl:=h.ris
set_option maxHeartbeats 4000000 in
theorem walk_star (n:Nat)(hw:WalkC n)(hwg:Znd n)(w0:W0)(W:World)(gb:Nat)(h0 h1 vs vf:Value)(φ:Nat→Nat)(v:Value)(s:St)(b:Nat)(p:S76)(vp:Value)(h:VS w0 W gb h0 h1 vs vf φ v s.pl s.sh)(hg:Good s)(hb:b<s.pl.length)(hp:Znk w0 p vp)(hk:p.f0=7)
 (hc1:1≤p.f3.length) (hok:Zen n (Zaj p.f3 0)) (hlen:s.pl.length+Zcx n (Zaj p.f3 0)≤100000) :
 Calls Tryz.prog 64 #[.pointer (some ⟨gb,0,none⟩),.pointer (some ⟨φ b,0,none⟩),vp] W (Znc w0 W gb h0 h1 vs vf φ v s ⟨(Zau n b (Zaj p.f3 0) s).1.first,(Zau n b (Zaj p.f3 0) s).1.last,true⟩ ((Zau n b (Zaj p.f3 0) s).2.link (Zau n b (Zaj p.f3 0) s).1.last (Zau n b (Zaj p.f3 0) s).1.first)):=by
 obtain⟨A1,c1,A2,c2,A3,c3,rfl,l1,g1,l2,g2,l3,g3⟩:=hp;rw[hk];have HV:=Zaa.mk h;have HG:=Zaa.mk hg;obtain⟨ad,D1,d1,D2,d2,D3,d3,rfl,hq,hcells⟩:=kid0 g3 (by omega);have hwq:=hwg b (Zaj p.f3 0) s hg hb;have hc:=fun W v hv=>hw w0 W gb h0 h1 vs vf φ v s b (Zaj p.f3 0) _ hv hg hb hok hlen hq
 generalize (Zau n b (Zaj p.f3 0) s).1=x at *;generalize (Zau n b (Zaj p.f3 0) s).2=s2 at *;obtain⟨hg2,hl2,hr1,hr2⟩:=hwq;have HRA:=Zaa.mk hg2.ris;have HRF:Zaa (Ris s2.pl.length x.first):=⟨by rw[hl2];exact hr1⟩
 have HRL:Zaa (Ris s2.pl.length x.last):=⟨by rw[hl2];exact hr2⟩
 have HC:=Zaa.mk hc;have HCE:=Zaa.mk hcells;have hl2':s2.pl.length≤100000:=by omega
 clear h hg g1 g2 g3 hw hwg hq hok hc hcells hg2 hr1 hr2;generalize Zaj p.f3 0=q at *
 go_enter Tryz.func64,Tryz.ntmps64
 go_upto_region 1 with (fail)
 have HFR:=Zaa.mk (Fr.first W #[.int .i64 7,.slice A1 p.f1.length c1,.slice A2 p.f2.length c2,.slice (some ad) p.f3.length c3]);have HVX:=Zaa.mk (HV.out.below (Zae (Zae (Below.refl _ W) (.cells #[.int .i64 7,.slice A1 p.f1.length c1,.slice A2 p.f2.length c2,.slice (some ad) p.f3.length c3] 76)) (.cells Zcs 97)));have HKX:=Zaa.mk (KeptV.of_below (Zae (Zae (Below.refl _ W) (.cells #[.int .i64 7,.slice A1 p.f1.length c1,.slice A2 p.f2.length c2,.slice (some ad) p.f3.length c3] 76)) (.cells Zcs 97)) gb v);generalize (W.alloc (.cells #[.int .i64 7,.slice A1 p.f1.length c1,.slice A2 p.f2.length c2,.slice (some ad) p.f3.length c3] 76)).alloc (.cells Zcs 97)=X at *;generalize W.heap.size+1=br at *;generalize W.heap.size=bp at *;have p0:=HFR.out.cl.p 0 _ rfl;have p3:=HFR.out.cl.p 3 _ rfl;have HHI:Zaa (br<X.heap.size):=⟨Zbj HFR.out.r⟩
 obtain⟨q0,q1,q2,q3⟩:=HCE.out X HVX.out.bel
 go_wp2_with (first
  | (go_at_call 64;(with_reducible refine (HC.out _ _ HVX.out).mono ?_);rintro e w5 ⟨x1,x2,φ2,v5,rfl,hr1,hr2,hv5,hk5,hn5,he5,hs5,hi5⟩;obtain⟨B1,d1,rfl,hl1,_⟩:=hr1.C;obtain⟨B2,d2,rfl,hl2,_⟩:=hr2.C;have HFR5:=Zaa.mk (HFR.out.kept HVX.out hk5);have HR1:=Zaa.mk hr1;have HR2:=Zaa.mk hr2;have HV5:=Zaa.mk hv5;have HK5:=Zaa.mk hk5;have HN5:=Zaa.mk hn5;have HE5:=Zaa.mk he5;have HS5:=Zaa.mk hs5;have HI5:=Zaa.mk hi5;clear hr1 hr2 hv5 hk5 hn5 he5 hs5 hi5)
  | (go_at_call 91;(with_reducible refine (Zmj w0 _ gb h0 h1 vs vf φ2 v5 s2.pl s2.sh (HV5.out.below (Zae Zbr _)) _ _ x.last x.first (Zap HR2.out (Zae Zbr _)) (Zap HR1.out (Zae Zbr _)) HRL.out HRF.out HRA.out hl2').mono ?_);rintro e w6 ⟨rfl,hv6,hk6⟩;have hbx:=Zfp (HV5.out.below (Zae (Below.refl _ w5) (.cells (Zih (.slice B1 x.first.length d1) (.slice B2 x.last.length d2) x.empty) 97))) hk6 (Zaq w5 (.cells (Zih (.slice B1 x.first.length d1) (.slice B2 x.last.length d2) x.empty) 97));have hk6:=KeptV.trans (KeptV.of_below (Zae (Below.refl _ w5) (.cells (Zih (.slice B1 x.first.length d1) (.slice B2 x.last.length d2) x.empty) 97)) gb v5) hk6 (NewOr.refl _ _);have t1:=(Zac hbx 1).trans rfl;have t2:=(Zac hbx 2).trans rfl;have HFR6:=Zaa.mk (HFR5.out.kept HV5.out hk6);have r0:=HFR6.out.cl.r 0 _ rfl;have r1:=HFR6.out.cl.r 1 _ rfl;have r2:=HFR6.out.cl.r 2 _ rfl;have r3:=HFR6.out.cl.r 3 _ rfl;have r4:=HFR6.out.cl.r 4 _ rfl;have r5:=HFR6.out.cl.r 5 _ rfl;have rf:=HFR6.out.cl.f;have HV6:=Zaa.mk hv6;have HK6:=Zaa.mk hk6;clear hv6 hk6 hbx))
 refine bodyPost_ret (results_cell_row rfl _ _ br 97 #[.int .i64 0,.slice B1 x.first.length d1,.slice B2 x.last.length d2,.bool true,.int .i64 0,.int .i64 0] (0,0) _ rfl (Zdk rfl HFR6.out.r _ _ _) Tryz.underlying97 rfl (by kernel_rfl)) rfl ?_
 have hkk:=HKX.out.trans (HK5.out.trans HK6.out HN5.out) (NewOr.refl _ _);have hhi:=HHI.out;have h36:=HV5.out.same3 HK6.out;exact Zeu (x:=⟨x.first,x.last,true⟩) (s':=s2.link x.last x.first) HV.out HG.out HFR6.out HV6.out hkk (Zfk HKX.out HN5.out) (HR1.out.same h36) (HR2.out.same h36)
  HE5.out (fun k y hky=>(HS5.out k y hky).elim .inl (fun⟨h,h2⟩=>.inr ⟨h,by omega⟩)) HI5.out
structure Sq (w0:W0)(W Y:World)(gb:Nat)(h0 h1 vs vf:Value)(φ:Nat→Nat)(v v5:Value)(s2:St)(bp br:Nat)(pc:Array Value)(b9 b10 b11:Nat)(a c:Sx)(a1 a2 c1 c2 f l:Value)(lf ll:List Int)(e:Bool):Prop where
 fr:Fr W Y bp br pc
 vs:VS w0 Y gb h0 h1 vs vf φ v5 s2.pl s2.sh
 k:KeptV W Y gb v
 k9:Y.heap[b9]?=some (.cells (Zih a1 a2 a.empty) 97 (0,0))
 k10:Y.heap[b10]?=some (.cells (Zih c1 c2 c.empty) 97 (0,0))
 k11:Y.heap[b11]?=some (.cells (Zih f l e) 97 (0,0))
 ra1:Ri w0 Y a1 a.first
 ra2:Ri w0 Y a2 a.last
 rc1:Ri w0 Y c1 c.first
 rc2:Ri w0 Y c2 c.last
 rf:Ri w0 Y f lf
 rl:Ri w0 Y l ll
 sh:∀k x,(k,x)∈s2.sh→φ k<b11
 ord:br<b9∧b9<b10∧b10<b11
 lo:w0.heap.size≤br
section
variable {w0:W0}{W Y Y':World}{gb:Nat}{h0 h1 vs vf:Value}{φ:Nat→Nat}{v v5:Value}{s2:St}{bp br:Nat}{pc:Array Value}{b9 b10 b11:Nat}{a c:Sx}{a1 a2 c1 c2 f l:Value}{lf ll:List Int}{e:Bool}
theorem Sq.below (h:Sq w0 W Y gb h0 h1 vs vf φ v v5 s2 bp br pc b9 b10 b11 a c a1 a2 c1 c2 f l lf ll e)(hb:Below Y.heap.size Y Y'):Sq w0 W Y' gb h0 h1 vs vf φ v v5 s2 bp br pc b9 b10 b11 a c a1 a2 c1 c2 f l lf ll e:=
 ⟨h.fr.below hb,h.vs.below hb,h.k.below hb,Zag h.k9 hb,Zag h.k10 hb,Zag h.k11 hb,Zap h.ra1 hb,Zap h.ra2 hb,Zap h.rc1 hb,Zap h.rc2 hb,Zap h.rf hb,Zap h.rl hb,h.sh,h.ord,h.lo⟩
theorem Sq.other (h:Sq w0 W Y gb h0 h1 vs vf φ v v5 s2 bp br pc b9 b10 b11 a c a1 a2 c1 c2 f l lf ll e)(i:Nat)(u:Value):Kept Y (Y.setCell ⟨b11,i,none⟩ u) (fun k=>k=b11)∧Same3 Y (Y.setCell ⟨b11,i,none⟩ u)∧Fr W (Y.setCell ⟨b11,i,none⟩ u) bp br pc∧VS w0 (Y.setCell ⟨b11,i,none⟩ u) gb h0 h1 vs vf φ v5 s2.pl s2.sh∧KeptV W (Y.setCell ⟨b11,i,none⟩ u) gb v:=by
 have hk:Kept Y (Y.setCell ⟨b11,i,none⟩ u) (fun k=>k=b11):=⟨by simp[World.setCell],fun j _ hn=>Below.heap_setCell _ _ _ j (fun he=>hn he)⟩
 have ho:=h.ord;have hlo:=h.fr.lo;have hge:w0.heap.size≤b11:=by have:=h.lo;omega
 refine⟨hk,Ziu h.k11 hk,⟨?_,?_,hlo,Nat.le_trans h.fr.sz hk.1⟩,h.vs.other h.k11 hk (h.vs.bel.setCell hge u) (fun k x hx=>by have:=h.sh k x hx;omega),h.k.then_ hk (fun k hk'=>.inr (by omega))⟩
 ·exact (hk.2 _ (Zbj h.fr.p) (fun he=>by have h1:=h.fr.p;rw[he,h.k11]at h1;injection h1 with h1;injection h1 with _ h1;exact absurd h1 (by decide))).trans h.fr.p
 ·exact (hk.2 _ (Zbj h.fr.r) (by omega)).trans h.fr.r
theorem Sq.put1 (h:Sq w0 W Y gb h0 h1 vs vf φ v v5 s2 bp br pc b9 b10 b11 a c a1 a2 c1 c2 f l lf ll e){u:Value}{lu:List Int}(hu:Ri w0 Y u lu):Sq w0 W (Y.setCell ⟨b11,1,none⟩ u) gb h0 h1 vs vf φ v v5 s2 bp br pc b9 b10 b11 a c a1 a2 c1 c2 u l lu ll e:=by
 obtain⟨hk,h3,hf,hv,hkv⟩:=h.other 1 u;have ho:=h.ord;exact⟨hf,hv,hkv,(hk.2 _ (Zbj h.k9) (by omega)).trans h.k9,(hk.2 _ (Zbj h.k10) (by omega)).trans h.k10,Zcd h.k11 1 u rfl,h.ra1.same h3,h.ra2.same h3,h.rc1.same h3,h.rc2.same h3,hu.same h3,h.rl.same h3,h.sh,h.ord,h.lo⟩
theorem Sq.put2 (h:Sq w0 W Y gb h0 h1 vs vf φ v v5 s2 bp br pc b9 b10 b11 a c a1 a2 c1 c2 f l lf ll e){u:Value}{lu:List Int}(hu:Ri w0 Y u lu):Sq w0 W (Y.setCell ⟨b11,2,none⟩ u) gb h0 h1 vs vf φ v v5 s2 bp br pc b9 b10 b11 a c a1 a2 c1 c2 f u lf lu e:=by
 obtain⟨hk,h3,hf,hv,hkv⟩:=h.other 2 u;have ho:=h.ord;exact⟨hf,hv,hkv,(hk.2 _ (Zbj h.k9) (by omega)).trans h.k9,(hk.2 _ (Zbj h.k10) (by omega)).trans h.k10,Zcd h.k11 2 u rfl,h.ra1.same h3,h.ra2.same h3,h.rc1.same h3,h.rc2.same h3,h.rf.same h3,hu.same h3,h.sh,h.ord,h.lo⟩
end
end Go.Proofs.YtpagbjdmiepgmaaGreatDoor.PVpa
