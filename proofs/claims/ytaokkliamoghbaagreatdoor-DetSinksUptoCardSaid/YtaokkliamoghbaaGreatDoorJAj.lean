/- Joined from texts of this seat, in their order. -/
import Derived.Test.YtaokkliamoghbaaGreatDoorJAg
import Derived.Test.YtaokkliamoghbaaGreatDoorJAi
set_option linter.unusedVariables false
set_option linter.unusedSimpArgs false
set_option linter.unusedSectionVars false
set_option maxRecDepth 100000
namespace Go.Proofs.YtaokkliamoghbaaGreatDoor.PVpa
open Go.RowKit Go.Proofs.YtaokkliamoghbaaGreatDoorW.PrintWords Go.Proofs.YtaokkliamoghbaaGreatDoorW.PrintLast Go.Proofs.YtaokkliamoghbaaGreatDoorW.PrintMore
def Zjl (x:Int):S67:=⟨2,rgs [x],[]⟩
def tA:S70:=⟨⟨#[97]⟩,0,1,Zjl 97⟩
def tB:S70:=⟨⟨#[98]⟩,0,2,⟨2,rgs [10,98],[]⟩⟩
def tO:S70:=⟨⟨#[111]⟩,1,3,Zjl 99⟩
def tC:S70:=⟨⟨#[99]⟩,2,4,Zjl 100⟩
def tP:S70:=⟨⟨#[112]⟩,1,5,⟨3,[],[Zjl 99,Zjl 99]⟩⟩
def tQ:S70:=⟨⟨#[113]⟩,2,6,⟨3,[],[Zjl 100,Zjl 97]⟩⟩
def T4:List S70:=[tA,tB,tO,tC]
def T6:List S70:=[tA,tB,tO,tC,tP,tQ]
def nAB:List ByteArray:=[⟨#[97]⟩,⟨#[98]⟩]
def nO:List ByteArray:=[⟨#[111]⟩]
def nC:List ByteArray:=[⟨#[99]⟩]
def nOP:List ByteArray:=[⟨#[111]⟩,⟨#[112]⟩]
def nCQ:List ByteArray:=[⟨#[99]⟩,⟨#[113]⟩]
theorem sgl1 (x:Int)(h0:0≤x)(h1:x<55296):Sgl [x]:=⟨fun y hy=>by simp at hy;subst hy;exact⟨h0,h1⟩,List.pairwise_singleton _ _,by simp⟩
theorem Zcu (x:Int)(h0:0≤x)(h1:x<55296):ReSet (Zjl x):=⟨rfl,rfl,[x],rfl,sgl1 x h0 h1,Nat.le_refl _⟩
theorem re_B:ReSet ⟨2,rgs [10,98],[]⟩:=⟨rfl,rfl,[10,98],rfl,⟨fun y hy=>by simp at hy;rcases hy with rfl | rfl <;> decide,by simp,by simp⟩,by simp⟩
theorem Zeq (b:UInt8)(h1:97≤b.toNat)(h2:b.toNat≤122)(h3:hasS ownS ⟨#[b]⟩=false):Let1 ⟨#[b]⟩:=⟨⟨b,rfl,h1,h2⟩,h3⟩
theorem tok4 (i:Nat)(h:i<4):Zod T4 i:=by
 obtain rfl | rfl | rfl | rfl:i=0∨i=1∨i=2∨i=3:=by omega
 ·exact⟨Zeq 97 (by decide) (by decide) (by decide +kernel),⟨by decide,by decide +kernel,fun j hj=>by omega⟩,.inl rfl,by decide,.inl (Zcu 97 (by decide) (by decide))⟩
 ·exact⟨Zeq 98 (by decide) (by decide) (by decide +kernel),⟨by decide,by decide +kernel,by decide +kernel⟩,.inl rfl,by decide,.inl re_B⟩
 ·exact⟨Zeq 111 (by decide) (by decide) (by decide +kernel),⟨by decide,by decide +kernel,by decide +kernel⟩,.inr (.inl rfl),by decide,.inl (Zcu 99 (by decide) (by decide))⟩
 ·exact⟨Zeq 99 (by decide) (by decide) (by decide +kernel),⟨by decide,by decide +kernel,by decide +kernel⟩,.inr (.inr rfl),by decide,.inl (Zcu 100 (by decide) (by decide))⟩
theorem tok6 (i:Nat)(h:i<6):Zod T6 i:=by
 obtain rfl | rfl | rfl | rfl | rfl | rfl:i=0∨i=1∨i=2∨i=3∨i=4∨i=5:=by omega
 ·exact⟨Zeq 97 (by decide) (by decide) (by decide +kernel),⟨by decide,by decide +kernel,fun j hj=>by omega⟩,.inl rfl,by decide,.inl (Zcu 97 (by decide) (by decide))⟩
 ·exact⟨Zeq 98 (by decide) (by decide) (by decide +kernel),⟨by decide,by decide +kernel,by decide +kernel⟩,.inl rfl,by decide,.inl re_B⟩
 ·exact⟨Zeq 111 (by decide) (by decide) (by decide +kernel),⟨by decide,by decide +kernel,by decide +kernel⟩,.inr (.inl rfl),by decide,.inl (Zcu 99 (by decide) (by decide))⟩
 ·exact⟨Zeq 99 (by decide) (by decide) (by decide +kernel),⟨by decide,by decide +kernel,by decide +kernel⟩,.inr (.inr rfl),by decide,.inl (Zcu 100 (by decide) (by decide))⟩
 ·exact⟨Zeq 112 (by decide) (by decide) (by decide +kernel),⟨by decide,by decide +kernel,by decide +kernel⟩,.inr (.inl rfl),by decide,.inr ⟨rfl,rfl,_,_,rfl,Zcu 99 (by decide) (by decide),Zcu 99 (by decide) (by decide)⟩⟩
 ·exact⟨Zeq 113 (by decide) (by decide) (by decide +kernel),⟨by decide,by decide +kernel,by decide +kernel⟩,.inr (.inr rfl),by decide,.inr ⟨rfl,rfl,_,_,rfl,Zcu 100 (by decide) (by decide),Zcu 97 (by decide) (by decide)⟩⟩
theorem Zdp (toks:List S70)(k:Int):NamesOk toks [] k:=⟨fun i hi=>by simp at hi,fun i hi=>by simp at hi,by simp⟩
theorem NamesOk.some {toks:List S70}{l0 l:List ByteArray}{k:Int}(h:NamesOk toks l0 k)(hs:Some0 l0 l):NamesOk toks l k:=by
 obtain⟨_,o,m,rfl⟩:=hs;have hlen:((l0.drop o).take m).length=min m (l0.length-o):=by rw[List.length_take,List.length_drop]
 have hget:∀i,i<((l0.drop o).take m).length→((l0.drop o).take m).getD i ByteArray.empty=l0.getD (o+i) ByteArray.empty:=fun i hi=>by
  rw[List.getD_eq_getElem?_getD,List.getD_eq_getElem?_getD,List.getElem?_take,if_pos (by omega),List.getElem?_drop]
 refine⟨fun i hi=>?_,fun i hi=>?_,?_⟩
 ·rw[hget i hi];exact h.tok (o+i) (by omega)
 ·rw[hget i hi];have h1:=h.once (o+i) (by omega);unfold hasS at h1 ⊢;rw[List.any_eq_false]at h1 ⊢;intro x hx;refine h1 x ?_
  have h2:x∈(l0.drop o).take i:=by
   rw[List.take_take]at hx;exact (List.take_subset_take_left (l0.drop o) (Nat.min_le_left _ _)) hx
  rw[List.take_add];exact List.mem_append_right _ h2
 ·have:=h.few;omega
theorem Zfh (toks:List S70)(l:List ByteArray)(k:Int)(h:l.length≤2)(h0:∀i:Nat,i<l.length→∃j,IsTok toks (l.getD i ByteArray.empty) j∧(toks.getD j z70).f1=k)(h1:2≤l.length→hasS (l.take 1) (l.getD 1 ByteArray.empty)=false):NamesOk toks l k:=
 ⟨h0,fun i hi=>by
  obtain rfl | rfl:i=0∨i=1:=by omega
  ·rfl
  ·exact h1 (by omega),by omega⟩
theorem Mk.good {toks:List S70}{a0 a1 a2:List ByteArray}(s0:NamesOk toks a0 0)(s1:NamesOk toks a1 1)(s2:NamesOk toks a2 2):∀{D N:Nat} {p:S76},Mk a0 a1 a2 D N p→Ziv toks D p
 | 0,_,_,h=>h.elim
 | D+1,N,p,h=>by
  rcases h with⟨h0,h1,h2,h3,_⟩ | ⟨h0,h1,h2,h3,_⟩ | ⟨h0,h1,h2,x,n,h3,h4,_⟩ | ⟨h0,h1,h2,x,n,h3,h4,_⟩ | ⟨h0,h1,h2,x,y,n,m,h3,h4,h5,_⟩
  ·refine⟨?_,by rw[h1];exact Zdp _ _,by rw[h2];exact Zdp _ _,fun j hj=>by rw[h3]at hj;simp at hj⟩;rw[h1,h2,h3]
   rcases h0 with h0 | h0
   ·exact .inl ⟨h0,rfl,rfl,rfl⟩
   ·exact .inr (.inl ⟨h0,rfl,rfl,rfl⟩)
  ·refine⟨?_,?_,by rw[h2];exact Zdp _ _,fun j hj=>by rw[h3]at hj;simp at hj⟩
   ·rw[h2,h3];exact .inr (.inr (.inl ⟨h0,h1.pos,rfl,rfl⟩))
   ·rw[if_neg (by rw[h0];decide)];exact s0.some h1
  ·refine⟨?_,?_,s2.some h2,fun j hj=>?_⟩
   ·rw[h3];exact .inr (.inr (.inr (.inl ⟨h0,h1.pos,h2.pos,rfl⟩)))
   ·rw[if_pos h0];exact s1.some h1
   ·rw[h3]at hj ⊢;obtain rfl:j=0:=by simp at hj;omega
    exact h4.good s0 s1 s2
  ·refine⟨?_,by rw[h1];exact Zdp _ _,by rw[h2];exact Zdp _ _,fun j hj=>?_⟩
   ·rw[h1,h2,h3];exact .inr (.inr (.inr (.inr (.inr (.inr ⟨h0,rfl,rfl,rfl⟩)))))
   ·rw[h3]at hj ⊢;obtain rfl:j=0:=by simp at hj;omega
    exact h4.good s0 s1 s2
  ·refine⟨?_,by rw[h1];exact Zdp _ _,by rw[h2];exact Zdp _ _,fun j hj=>?_⟩
   ·rw[h1,h2,h3]
    rcases h0 with h0 | h0
    ·exact .inr (.inr (.inr (.inr (.inl ⟨h0,rfl,rfl,rfl⟩))))
    ·exact .inr (.inr (.inr (.inr (.inr (.inl ⟨h0,rfl,rfl,rfl⟩)))))
   ·rw[h3]at hj ⊢;obtain rfl | rfl:j=0∨j=1:=by simp at hj;omega
    ·exact h4.good s0 s1 s2
    ·exact h5.good s0 s1 s2
structure StepMk (a1 a2:List ByteArray)(need:Bool)(s:S79):Prop where
 yes:need=true→Some0 a1 s.f0
 no:need=false→s.f0=[]
 pat:∃D N,Mk nAB a1 a2 D N s.f1∧D≤9∧N≤23
structure RuleMk (a1 a2:List ByteArray)(r:S52):Prop where
 cls:10≤r.f0∧r.f0≤12
 one:1≤r.f2.length
 two:r.f2.length≤2
 steps:∀j:Nat,j<r.f2.length→StepMk a1 a2 (decide (0<j)||r.f1) (r.f2.getD j z79)
structure MakeOk (n:Nat)(G:S26):Prop where
 kind:∃a1 a2,((n≤3∧G.f0=T4∧a1=nO∧a2=nC)∨(3<n∧G.f0=T6∧a1=nOP∧a2=nCQ))∧∀i:Nat,i<G.f1.length→RuleMk a1 a2 (G.f1.getD i z52)
 few:G.f1.length≤3
 fewer:G.f1.length≤n
theorem Zmf:NamesOk T4 nAB 0∧NamesOk T4 nO 1∧NamesOk T4 nC 2:=by
 refine⟨Zfh _ _ _ (by decide) (fun i hi=>?_) (fun _=>by decide +kernel),Zfh _ _ _ (by decide) (fun i hi=>?_) (fun h=>absurd h (by decide)),Zfh _ _ _ (by decide) (fun i hi=>?_) (fun h=>absurd h (by decide))⟩
 ·obtain rfl | rfl:i=0∨i=1:=by simp[nAB]at hi;omega
  ·exact⟨0,(tok4 0 (by decide)).tok,rfl⟩
  ·exact⟨1,(tok4 1 (by decide)).tok,rfl⟩
 ·obtain rfl:i=0:=by simp[nO]at hi;omega
  exact⟨2,(tok4 2 (by decide)).tok,rfl⟩
 ·obtain rfl:i=0:=by simp[nC]at hi;omega
  exact⟨3,(tok4 3 (by decide)).tok,rfl⟩
theorem names6:NamesOk T6 nAB 0∧NamesOk T6 nOP 1∧NamesOk T6 nCQ 2:=by
 refine⟨Zfh _ _ _ (by decide) (fun i hi=>?_) (fun _=>by decide +kernel),Zfh _ _ _ (by decide) (fun i hi=>?_) (fun _=>by decide +kernel),Zfh _ _ _ (by decide) (fun i hi=>?_) (fun _=>by decide +kernel)⟩
 ·obtain rfl | rfl:i=0∨i=1:=by simp[nAB]at hi;omega
  ·exact⟨0,(tok6 0 (by decide)).tok,rfl⟩
  ·exact⟨1,(tok6 1 (by decide)).tok,rfl⟩
 ·obtain rfl | rfl:i=0∨i=1:=by simp[nOP]at hi;omega
  ·exact⟨2,(tok6 2 (by decide)).tok,rfl⟩
  ·exact⟨4,(tok6 4 (by decide)).tok,rfl⟩
 ·obtain rfl | rfl:i=0∨i=1:=by simp[nCQ]at hi;omega
  ·exact⟨3,(tok6 3 (by decide)).tok,rfl⟩
  ·exact⟨5,(tok6 5 (by decide)).tok,rfl⟩
theorem StepMk.good {toks:List S70}{a1 a2:List ByteArray}{need:Bool}{s:S79}(h:StepMk a1 a2 need s)(s0:NamesOk toks nAB 0)(s1:NamesOk toks a1 1)(s2:NamesOk toks a2 2):StepGood toks need s:=by
 obtain⟨D,N,hm,hD,hN⟩:=h.pat;refine⟨?_,?_,D,N,D,hm.good s0 s1 s2,hm.fit,by omega,by omega⟩
 ·cases need with
  | true=>exact decide_eq_true (h.yes rfl).pos
  | false=>rw[h.no rfl];rfl
 ·cases need with
  | true=>exact s1.some (h.yes rfl)
  | false=>rw[h.no rfl];exact Zdp _ _
theorem RuleMk.good {toks:List S70}{a1 a2:List ByteArray}{r:S52}(h:RuleMk a1 a2 r)(s0:NamesOk toks nAB 0)(s1:NamesOk toks a1 1)(s2:NamesOk toks a2 2):Zoe toks r:=
 ⟨by have:=h.cls;omega,h.one,by have:=h.two;omega,fun j hj=>(h.steps j hj).good s0 s1 s2⟩
theorem MakeOk.gram {n:Nat}{G:S26}(h:MakeOk n G):Zmu G:=by
 obtain⟨a1,a2,hk,hr⟩:=h.kind;have hf:=h.few
 rcases hk with⟨_,ht,rfl,rfl⟩ | ⟨_,ht,rfl,rfl⟩
 ·refine⟨by rw[ht];decide,by rw[ht];decide,fun i hi=>?_,by omega,fun i hi=>?_⟩
  ·rw[ht]at hi ⊢;exact tok4 i hi
  ·rw[ht];exact (hr i hi).good Zmf.1 Zmf.2.1 Zmf.2.2
 ·refine⟨by rw[ht];decide,by rw[ht];decide,fun i hi=>?_,by omega,fun i hi=>?_⟩
  ·rw[ht]at hi ⊢;exact tok6 i hi
  ·rw[ht];exact (hr i hi).good names6.1 names6.2.1 names6.2.2
theorem Mk.places {a0 a1 a2:List ByteArray}:∀{D N:Nat} {p:S76},Mk a0 a1 a2 D N p→∀n,Zcy n p≤2*N
 | 0,_,_,h,_=>h.elim
 | D+1,N,p,h,0=>by show 0≤2*N;omega
 | D+1,N,p,h,n+1=>by
  unfold Zcy
  rcases h with⟨h0,h1,h2,h3,h4⟩ | ⟨h0,h1,h2,h3,h4⟩ | ⟨h0,h1,h2,x,k,h3,h4,h5⟩ | ⟨h0,h1,h2,x,k,h3,h4,h5⟩ | ⟨h0,h1,h2,x,y,k,m,h3,h4,h5,h6⟩
  ·rcases h0 with h0 | h0
   ·rw[if_neg (by omega),if_neg (by omega),if_neg (by omega),if_neg (by omega)];omega
   ·rw[if_neg (by omega),if_pos (by omega)];omega
  ·rw[if_neg (by omega),if_pos (by omega)];omega
  ·rw[if_pos h0,h3];have:=h4.places n;show 2+Zcy n x≤2*N;omega
  ·rw[if_neg (by omega),if_neg (by omega),if_neg (by omega),if_pos h0,h3];have:=h4.places n;show Zcy n x≤2*N;omega
  ·rw[if_neg (by omega),if_neg (by omega),if_pos (by omega),h3];have:=h4.places n;have:=h5.places n;show Zcy n x+Zcy n y≤2*N;omega
theorem Zhs {α:Type}(l:List α)(i:Nat)(z:α):l.getD ((i:Int)).toNat z=l.getD i z:=by rw[Int.toNat_natCast]
theorem MakeOk.rule {n:Nat}{G:S26}(h:MakeOk n G)(i:Nat)(hi:i<G.f1.length):∃a1 a2,a1.length≤2∧a2.length≤2∧RuleMk a1 a2 (Zcq G i):=by
 obtain⟨a1,a2,hk,hr⟩:=h.kind;have h1:=hr i hi;rw[←Zhs]at h1
 rcases hk with⟨_,_,rfl,rfl⟩ | ⟨_,_,rfl,rfl⟩
 ·exact⟨_,_,by decide,by decide,h1⟩
 ·exact⟨_,_,by decide,by decide,h1⟩
theorem RuleMk.stepsN {a1 a2:List ByteArray}{r:S52}(h:RuleMk a1 a2 r):∀k,k≤r.f2.length→stepsN 9 r k≤47*k
 | 0,_=>Nat.le_refl _
 | k+1,hk=>by
  have ih:=h.stepsN k (by omega);obtain⟨D,N,hm,_,hN⟩:=(h.steps k (by omega)).pat;have:=hm.places 9;rw[←Zhs]at this;show PVpa.stepsN 9 r k+(1+Zcy 9 (Zgs r k).f1)≤_;have e:(Zgs r k).f1=(r.f2.getD ((k:Int)).toNat z79).f1:=rfl;rw[e];omega
theorem MakeOk.buildN {n:Nat}{G:S26}(h:MakeOk n G):∀k,k≤G.f1.length→buildN 9 G k≤1+95*k
 | 0,_=>Nat.le_refl _
 | k+1,hk=>by
  have ih:=h.buildN k (by omega);obtain⟨a1,a2,_,_,hr⟩:=h.rule k (by omega);have h1:=hr.stepsN _ (Nat.le_refl _);have h2:=hr.two;show PVpa.buildN 9 G k+((if (Zcq G k).f1=true then 1 else 0)+PVpa.stepsN 9 (Zcq G k) (Zcq G k).f2.length)≤_;have h3:(if (Zcq G k).f1=true then 1 else 0)≤1:=by split <;> omega
  omega
theorem MakeOk.rulesOk {n:Nat}{G:S26}(h:MakeOk n G):RulesOk 9 G:=by
 refine⟨fun i k hi hk=>?_,?_⟩
 ·obtain⟨a1,a2,s1,s2,hr⟩:=h.rule i hi;obtain⟨D,N,hm,hD,_⟩:=(hr.steps k hk).pat;have h1:=(hm.mono hD).patOk (by decide) s1 s2;rw[←Zhs]at h1;exact h1
 ·have h1:=h.buildN _ (Nat.le_refl _);have h2:=h.few;omega
theorem MakeOk.callsOk {n:Nat}{G:S26}(h:MakeOk n G):Zog G:=by
 refine⟨fun i j hi0 hi hj0 hj=>?_,fun i hi0 hi=>?_⟩
 ·obtain⟨i,rfl⟩:∃k:Nat,i=k:=⟨i.toNat,by omega⟩
  obtain⟨j,rfl⟩:∃k:Nat,j=k:=⟨j.toNat,by omega⟩
  obtain⟨a1,a2,s1,s2,hr⟩:=h.rule i (by omega);have h1:=hr.steps j (by omega);rw[←Zhs]at h1;change StepMk a1 a2 _ (Zgs (Zcq G i) j)at h1;generalize hb:(decide (0<j)||(Zcq G i).f1)=b at h1;cases b with
  | true=>have:=(h1.yes rfl).short;omega
  | false=>rw[h1.no rfl];simp
 ·obtain⟨i,rfl⟩:∃k:Nat,i=k:=⟨i.toNat,by omega⟩
  obtain⟨a1,a2,s1,s2,hr⟩:=h.rule i (by omega);have:=hr.two;omega
theorem lit_F {α:Type}{d:Kd α}{W:World}{g e n:Nat}{xs:List α}{inner:List Value}{ok:Nat→Prop}(h:W.heap[g]?=some (.cells inner.toArray e (0,0)))(hg:ok g)(hr:Reps (fun x c=>Kd.FK d W ok x c) d.sz xs inner)(hn:xs.length=n)(hm:n≤1000)(hs:0<d.sz):Kd.F d W ok (some ⟨g,0,none⟩) n xs:=fun W' hW=>by
 have hb:W'.heap[g]?=some (.cells inner.toArray e (0,0)):=(hW g hg (Zdx h)).trans h;refine⟨hn,by omega,fun _=>⟨_,rfl,fun j p hj=>?_⟩⟩;have hjl:=(List.getElem?_eq_some_iff.1 hj).1;have hk:=hr.2 j p hj W' hW;refine⟨(inner.drop (j*d.sz)).take d.sz,d.K_len hk,hk,fun i v hv=>?_⟩;have hi:=(List.getElem?_eq_some_iff.1 hv).1;have hl:=d.K_len hk;rw[Zoc,Zaa hb,List.getElem?_toArray];rw[List.getElem?_take,if_pos (by omega),List.getElem?_drop]at hv;exact hv
def One (W:World)(g:Nat)(x:Int):Prop:=W.heap[g]?=some (.cells #[.int .i32 x,.int .i32 x] 66 (0,0))
theorem One.below {w W:World}{g:Nat}{x:Int}(h:One w g x)(hb:Below w.heap.size w W):One W g x:=Zaf h hb
theorem Zoy (x:Int)(w:World) :
 Calls Tryz.prog 37 #[.int .i32 x] w fun e w'=>∃g,e=.returned (.agg #[.int .i64 2,.slice (some ⟨g,0,none⟩) 1 1,.slice none 0 0])∧w.heap.size≤g∧One w' g x∧Below w.heap.size w w':=by
 go_enter Tryz.func37,Tryz.ntmps37
 go_wp2
 refine bodyPost_ret (results_cell_row rfl _ _ w.heap.size 61 #[.int .i64 2,.slice (some ⟨w.heap.size+1,0,none⟩) 1 1,.slice none 0 0] (0,0) _ rfl (Zai (Zaj w _) _) Tryz.underlying61 rfl (by kernel_rfl)) rfl ?_
 have hx:=Zaj (w.alloc (.cells #[.int .i64 2,.slice (some ⟨w.heap.size+1,0,none⟩) 1 1,.slice none 0 0] 61)) (.cells #[.int .i32 x,.int .i32 x] 66);rw[show (w.alloc (.cells #[.int .i64 2,.slice (some ⟨w.heap.size+1,0,none⟩) 1 1,.slice none 0 0] 61)).heap.size=w.heap.size+1 by simp]at hx;exact⟨_,rfl,Nat.le_succ _,hx,Zab (Zab Zbr _) _⟩
section
variable {W:World}{ok:Nat→Prop}
theorem F_rg {g:Nat}{x:Int}(h:One W g x)(hg:ok g):Kd.F k72 W ok (some ⟨g,0,none⟩) 1 (rgs [x]):=Zdy (cs:=[.int .i32 x,.int .i32 x]) h hg (Zre W ok ⟨x,x⟩)
theorem FK_one {g:Nat}{x:Int}(h:One W g x)(hg:ok g):Kd.FK k67 W ok (Zjl x) [.int .i64 2,.slice (some ⟨g,0,none⟩) 1 1,.slice none 0 0]:=
 k67_mkF W ok (Zjl x) (Nat.le_refl _) (F_rg h hg) (Nat.le_refl _) (Kd.F_nil _ _ _)
theorem FK_A {g:Nat}(h:One W g 97)(hg:ok g):Kd.FK k70 W ok tA [.string ⟨#[97]⟩,.int .i64 0,.int .i64 1,.int .i64 2,.slice (some ⟨g,0,none⟩) 1 1,.slice none 0 0]:=
 Zio W ok tA (Nat.le_refl _) (F_rg h hg) (Nat.le_refl _) (Kd.F_nil _ _ _)
theorem FK_O {g:Nat}(h:One W g 99)(hg:ok g):Kd.FK k70 W ok tO [.string ⟨#[111]⟩,.int .i64 1,.int .i64 3,.int .i64 2,.slice (some ⟨g,0,none⟩) 1 1,.slice none 0 0]:=
 Zio W ok tO (Nat.le_refl _) (F_rg h hg) (Nat.le_refl _) (Kd.F_nil _ _ _)
theorem FK_C {g:Nat}(h:One W g 100)(hg:ok g):Kd.FK k70 W ok tC [.string ⟨#[99]⟩,.int .i64 2,.int .i64 4,.int .i64 2,.slice (some ⟨g,0,none⟩) 1 1,.slice none 0 0]:=
 Zio W ok tC (Nat.le_refl _) (F_rg h hg) (Nat.le_refl _) (Kd.F_nil _ _ _)
theorem FK_B {g:Nat}(h:W.heap[g]?=some (.cells #[.int .i32 10,.int .i32 10,.int .i32 98,.int .i32 98] 66 (0,0)))(hg:ok g):Kd.FK k70 W ok tB [.string ⟨#[98]⟩,.int .i64 0,.int .i64 2,.int .i64 2,.slice (some ⟨g,0,none⟩) 2 2,.slice none 0 0]:=
 Zio W ok tB (Nat.le_refl _) (Zjb (c1:=[.int .i32 10,.int .i32 10]) (c2:=[.int .i32 98,.int .i32 98]) h hg (Zre W ok ⟨10,10⟩) (Zre W ok ⟨98,98⟩)) (Nat.le_refl _) (Kd.F_nil _ _ _)
def cells4 (ga gb gc gd:Nat):List Value:=[.string ⟨#[97]⟩,.int .i64 0,.int .i64 1,.int .i64 2,.slice (some ⟨ga,0,none⟩) 1 1,.slice none 0 0,.string ⟨#[98]⟩,.int .i64 0,.int .i64 2,.int .i64 2,.slice (some ⟨gb,0,none⟩) 2 2,.slice none 0 0,.string ⟨#[111]⟩,.int .i64 1,.int .i64 3,.int .i64 2,.slice (some ⟨gc,0,none⟩) 1 1,.slice none 0 0,.string ⟨#[99]⟩,.int .i64 2,.int .i64 4,.int .i64 2,.slice (some ⟨gd,0,none⟩) 1 1,.slice none 0 0]
theorem F_tok4 {g ga gb gc gd:Nat}(h:W.heap[g]?=some (.cells (cells4 ga gb gc gd).toArray 64 (0,0)))(hg:ok g)(ha:One W ga 97)(oa:ok ga)(hb:W.heap[gb]?=some (.cells #[.int .i32 10,.int .i32 10,.int .i32 98,.int .i32 98] 66 (0,0)))(ob:ok gb)(hc:One W gc 99)(oc:ok gc)(hd:One W gd 100)(od:ok gd) :
 Kd.F k70 W ok (some ⟨g,0,none⟩) 4 T4:=
 lit_F h hg ((((Reps.none _ _).snoc (FK_A ha oa) rfl).snoc (FK_B hb ob) rfl).snoc (FK_O hc oc) rfl |>.snoc (FK_C hd od) rfl) rfl (by decide) (by decide)
def Zps (gp gq:Nat):List Value:=[.string ⟨#[112]⟩,.int .i64 1,.int .i64 5,.int .i64 3,.slice none 0 0,.slice (some ⟨gp,0,none⟩) 2 2,.string ⟨#[113]⟩,.int .i64 2,.int .i64 6,.int .i64 3,.slice none 0 0,.slice (some ⟨gq,0,none⟩) 2 2]
def cellsR (g1 g2:Nat):List Value:=[.int .i64 2,.slice (some ⟨g1,0,none⟩) 1 1,.slice none 0 0,.int .i64 2,.slice (some ⟨g2,0,none⟩) 1 1,.slice none 0 0]
theorem F_seq {g g1 g2:Nat}{x y:Int}(h:W.heap[g]?=some (.cells (cellsR g1 g2).toArray 61 (0,0)))(hg:ok g)(h1:One W g1 x)(o1:ok g1)(h2:One W g2 y)(o2:ok g2):Kd.F k67 W ok (some ⟨g,0,none⟩) 2 [Zjl x,Zjl y]:=
 Zjb (c1:=[.int .i64 2,.slice (some ⟨g1,0,none⟩) 1 1,.slice none 0 0]) (c2:=[.int .i64 2,.slice (some ⟨g2,0,none⟩) 1 1,.slice none 0 0]) h hg (FK_one h1 o1) (FK_one h2 o2)
theorem F_tok2 {g gp gq gc gd ga:Nat}(h:W.heap[g]?=some (.cells (Zps gp gq).toArray 64 (0,0)))(hg:ok g)(hp:W.heap[gp]?=some (.cells (cellsR gc gc).toArray 61 (0,0)))(op:ok gp)(hq:W.heap[gq]?=some (.cells (cellsR gd ga).toArray 61 (0,0)))(oq:ok gq)
 (hc:One W gc 99) (oc:ok gc) (hd:One W gd 100) (od:ok gd) (ha:One W ga 97) (oa:ok ga):Kd.F k70 W ok (some ⟨g,0,none⟩) 2 [tP,tQ]:=
 Zjb (c1:=[.string ⟨#[112]⟩,.int .i64 1,.int .i64 5,.int .i64 3,.slice none 0 0,.slice (some ⟨gp,0,none⟩) 2 2]) (c2:=[.string ⟨#[113]⟩,.int .i64 2,.int .i64 6,.int .i64 3,.slice none 0 0,.slice (some ⟨gq,0,none⟩) 2 2]) h hg
  (Zio W ok tP (Nat.le_refl _) (Kd.F_nil _ _ _) (Nat.le_refl _) (F_seq hp op hc oc hc oc)) (Zio W ok tQ (Nat.le_refl _) (Kd.F_nil _ _ _) (Nat.le_refl _) (F_seq hq oq hd od ha oa))
end
end Go.Proofs.YtaokkliamoghbaaGreatDoor.PVpa
