/- Joined from texts of this seat, in their order. -/
import Derived.Test.YtaokkliamoghbaaGreatDoorJAc
import Derived.Lib.SliceRun
set_option linter.unusedVariables false
set_option linter.unusedSimpArgs false
set_option linter.unusedSectionVars false
set_option maxRecDepth 100000
namespace Go.Proofs.YtaokkliamoghbaaGreatDoor.PVpa
open Go.RowKit Go.Proofs.YtaokkliamoghbaaGreatDoorW.PrintWords Go.Proofs.YtaokkliamoghbaaGreatDoorW.PrintLast Go.Proofs.YtaokkliamoghbaaGreatDoorW.PrintMore
theorem Zmc:∀(l:List (Int × Int)) (x:Int × Int),Zcr (l++[x])=if l.getLast?=some x then Zcr l else Zcr l++[x]
 | [],x=>by simp[Zcr]
 | [a],x=>by
  show Zcr [a,x]=_;unfold Zcr;by_cases h:a=x
  ·subst h;simp[Zcr]
  ·simp[h,Zcr]
 | a :: b :: r,x=>by
  have ih:=Zmc (b :: r) x;have e:Zcr (a :: b :: r++[x])=if a=b then Zcr (b :: r++[x])else a :: Zcr (b :: r++[x]):=rfl
  have e2:Zcr (a :: b :: r)=if a=b then Zcr (b :: r)else a :: Zcr (b :: r):=rfl
  rw[e,e2,ih,List.getLast?_cons_cons];by_cases h:a=b
  ·simp only[if_pos h]
  ·simp only[if_neg h]
   split <;> rfl
theorem rdP_get? (l:List (Int × Int)){i:Nat}(h:i<l.length):l[i]?=some (rdP l i):=by
 simp[rdP,List.getD_eq_getElem?_getD,List.getElem?_eq_getElem h]
theorem Zes (l:List (Int × Int)){i:Nat}(h:i<l.length):l.take (i+1)=l.take i++[rdP l i]:=by
 rw[List.take_add_one,rdP_get? l h]
 rfl
theorem last_takeP (l:List (Int × Int)){i:Nat}(h1:1≤i)(h:i≤l.length):(l.take i).getLast?=some (rdP l (i-1)):=by
 rw[List.getLast?_eq_getElem?,List.length_take,Nat.min_eq_left h,List.getElem?_take,if_pos (by omega),rdP_get? l (by omega)]
theorem Zhq (l:List (Int × Int)){m:Nat}(h1:1≤m)(h:m<l.length):Zcr (l.take (m+1))=if rdP l (m-1)=rdP l m then Zcr (l.take m)else Zcr (l.take m)++[rdP l m]:=by
 rw[Zes l h,Zmc,last_takeP l h1 (by omega)];simp only[Option.some.injEq]
theorem Zgh (l:List (Int × Int)):∀k,k≤l.length→(∀i,i+1<k→rdP l i≠rdP l (i+1))→Zcr (l.take k)=l.take k
 | 0,_,_=>rfl
 | 1,h,_=>by rw[Zes l h];rfl
 | k+2,h,ha=>by
  rw[Zhq l (m:=k+1) (by omega) (by omega),Nat.add_sub_cancel,if_neg (ha k (by omega)),Zgh l (k+1) (by omega) (fun i hi=>ha i (by omega)),←Zes l (by omega)]
structure CInv (l c:List (Int × Int))(k m:Nat):Prop where
 len:c.length=l.length
 lt:k<m
 le:m≤l.length
 low:c.take k=Zcr (l.take m)
 high:∀j,m≤j+1→rdP c j=rdP l j
theorem CInv.skip {l c:List (Int × Int)}{k m:Nat}(h:CInv l c k m)(h1:m<l.length)(e:rdP l m=rdP l (m-1)):CInv l c k (m+1):=
 ⟨h.len,by have:=h.lt;omega,h1,by rw[Zhq l (by have:=h.lt;omega) h1,if_pos e.symm];exact h.low,fun j hj=>h.high j (by omega)⟩
theorem CInv.keep {l c:List (Int × Int)}{k m:Nat}(h:CInv l c k m)(h1:m<l.length)(e:rdP l m≠rdP l (m-1)):CInv l (c.set k (rdP l m)) (k+1) (m+1):=by
 have hk:=h.lt;have hl:=h.len;refine⟨by rw[List.length_set];exact hl,by omega,h1,?_,fun j hj=>?_⟩
 ·rw[Zhq l (by omega) h1,if_neg (fun e2=>e e2.symm),←h.low,List.take_add_one,List.take_set_of_le (Nat.le_refl k),List.getElem?_set_self (by omega)]
  rfl
 ·have:=h.high j (by omega);unfold rdP at this ⊢;rw[List.getD_eq_getElem?_getD,List.getElem?_set_ne (by omega),←List.getD_eq_getElem?_getD];exact this
theorem CInv.start {l:List (Int × Int)}{k:Nat}(h1:1≤k)(hk:k<l.length)(ha:∀i,i+1<k→rdP l i≠rdP l (i+1))(e:rdP l k=rdP l (k-1)):CInv l l k (k+1):=
 ⟨rfl,by omega,hk,by rw[Zhq l h1 hk,if_pos e.symm,Zgh l k (by omega) ha],fun _ _=>rfl⟩
theorem Zmp:∀(l:List (Int × Int)) (i:Nat) (p:Int × Int),i<l.length→Zbg (l.set i p)=((Zbg l).set (i*2) (.int .i64 p.1)).set (i*2+1) (.int .i64 p.2)
 | [],i,p,h=>by simp at h
 | x :: r,0,p,_=>rfl
 | x :: r,i+1,p,h=>by
  have ih:=Zmp r i p (by simpa using h);rw[show (i+1)*2=i*2+2 by omega];show Zjd x++Zbg (r.set i p)=_;rw[ih]
  rfl
theorem own_setC {w:World}{base:Nat}{e:TypeId}{sz g n cap j:Nat}{xs:List Value}(h:w.ownsRow base e sz (.slice (some ⟨g,0,none⟩) n cap) n xs)(hj:j<n*sz)(u:Value) :
 (w.setCell ⟨g,j,none⟩ u).ownsRow base e sz (.slice (some ⟨g,0,none⟩) n cap) n (xs.set j u):=by
 rcases h.2 with⟨e0,_⟩ | ⟨g',cap',cur,e0,hb,hg,hn,hm,hs,ht⟩
 ·cases e0
 ·injection e0 with e1 _ e3
  injection e1 with e1
  injection e1 with e1
  subst e1;subst e3;refine⟨by rw[List.length_set];exact h.1,.inr ⟨g,cap,cur.set! j u,rfl,hb,?_,hn,hm,by simpa using hs,?_⟩⟩
  ·rw[Zcd hg j u];rfl
  ·rw[←ht];simp[List.take_set,Array.set!]
theorem OwnP.set {w:World}{base g n cap i:Nat}{l:List (Int × Int)}(h:OwnP w base (.slice (some ⟨g,0,none⟩) n cap) l)(hn:n=l.length)(hi:i<l.length)(p:Int × Int) :
 OwnP ((w.setCell ⟨g,i*2,none⟩ (.int .i64 p.1)).setCell ⟨g,i*2+1,none⟩ (.int .i64 p.2)) base (.slice (some ⟨g,0,none⟩) n cap) (l.set i p):=by
 subst hn;unfold OwnP at h ⊢;rw[Zmp l i p hi,List.length_set];exact own_setC (own_setC h (by omega) _) (by omega) _
theorem Zjg:∀(vs:List Value) (w:World) (g o:Nat) (cur:Array Value) (e:TypeId),w.heap[g]?=some (.cells cur e (0,0))→∃cur',(w.setCells g o vs).heap[g]?=some (.cells cur' e (0,0))∧cur'.size=cur.size∧∀j,j<o→cur'[j]?=cur[j]?
 | [],w,g,o,cur,e,h=>⟨cur,h,rfl,fun _ _=>rfl⟩
 | v :: r,w,g,o,cur,e,h=>by
  have h1:(w.setCell ⟨g,o,none⟩ v).heap[g]?=some (.cells (cur.set! o v) e (0,0)):=by rw[Zcd h o v];rfl
  obtain⟨cur',h2,h3,h4⟩:=Zjg r _ g (o+1) _ e h1;refine⟨cur',h2,by rw[h3];simp,fun j hj=>?_⟩;rw[h4 j (by omega)];simp[Array.set!,Array.getElem?_setIfInBounds,show o≠j by omega]
theorem Zfi:∀(vs:List Value) (w:World) (g o:Nat),Kept w (w.setCells g o vs) (fun k=>g=k)
 | [],w,g,o=>Kept.refl _ _
 | v :: r,w,g,o=>by
  refine Kept.trans_ (w1:=w.setCell ⟨g,o,none⟩ v) ?_ (Zfi r _ g (o+1))
  refine⟨by simp[World.setCell],fun i hi hne=>?_⟩;rw[World.setCell];simp[Array.getElem?_modify,hne]
theorem OwnP.cut {w:World}{base g n cap k:Nat}{l:List (Int × Int)}(h:OwnP w base (.slice (some ⟨g,0,none⟩) n cap) l)(hn:n=l.length)(hk:k≤l.length)(vs:List Value) :
 OwnP (w.setCells g (k*2) vs) base (.slice (some ⟨g,0,none⟩) k cap) (l.take k):=by
 subst hn
 rcases h.2 with⟨e0,_⟩ | ⟨g',cap',cur,e0,hb,hg,hn,hm,hs,ht⟩
 ·cases e0
 ·injection e0 with e1 _ e3
  injection e1 with e1
  injection e1 with e1
  subst e1;subst e3;obtain⟨cur',h2,h3,h4⟩:=Zjg vs w g (k*2) cur 90 hg;have hlen:(l.take k).length=k:=by rw[List.length_take];omega
  refine⟨by rw[Zbw],.inr ⟨g,cap,cur',by rw[hlen],hb,h2,by omega,hm,by omega,?_⟩⟩;rw[hlen];have e1:cur'.toList.take (k*2)=cur.toList.take (k*2):=by
   apply List.ext_getElem?;intro j;rw[List.getElem?_take,List.getElem?_take]
   split
   ·rename_i hj
    rw[Array.getElem?_toList,Array.getElem?_toList,h4 j hj]
   ·rfl
  have e2:Zbg (l.take k)=(Zbg l).take (k*2):=by
   have e3:Zbg l=Zbg (l.take k)++Zbg (l.drop k):=by
    unfold Zbg;rw[←List.flatMap_append,List.take_append_drop]
   rw[e3,List.take_left' (by rw[Zbw,hlen])]
  rw[e1,e2,←ht,List.take_take,Nat.min_eq_left (by omega)]
theorem Zph {W W':World}{S:Nat→Prop}(hb:Below W.heap.size W W'):Kept W W' S:=⟨hb.size,fun i hi _=>hb.block i hi⟩
theorem Kept.imp_ {W W':World}{S S':Nat→Prop}(h:Kept W W' S)(hS:∀k,S k→S' k):Kept W W' S':=⟨h.1,fun i hi hn=>h.2 i hi (fun hs=>hn (hS i hs))⟩
theorem kept_two (W:World)(g i j:Nat)(u v:Value):Kept W ((W.setCell ⟨g,i,none⟩ u).setCell ⟨g,j,none⟩ v) (fun k=>(Value.slice (some ⟨g,0,none⟩) 0 0).ownBlock=some k):=by
 refine⟨by simp[World.setCell],fun k hk hn=>?_⟩;have hne:k≠g:=fun e=>hn (by rw[e];rfl)
 exact (Below.heap_setCell _ _ _ k hne).trans (Below.heap_setCell _ _ _ k hne)
theorem Zeo {w0 w:World}{base g:Nat}(hb:Below base w0 w)(hg:base≤g):∀(vs:List Value) (o:Nat),Below base w0 (w.setCells g o vs)
 | [],o=>hb
 | v :: r,o=>Zeo (hb.setCell (p:=⟨g,o,none⟩) hg v) hg r (o+1)
theorem Zfs (w:World)(t ty:TypeId)(ht:Tryz.prog.underlying t=some (.slice 90))(b o n c:Nat)(hn:0<n)(hc:∀j,j<n*2→(w.cell? ⟨b,o+j,none⟩).isSome=true)(hf:∀j,j<n*2→w.frozen? ⟨b,o+j,none⟩=false) :
 (Builtin.clear_ #[t] ty #[.slice (some ⟨b,o,none⟩) n c]).run Tryz.prog w=.ok (.tuple #[]) (w.setCells b o (List.replicate (n*2) (.int .i64 0))):=by
 have hv:∀w,(zeroValue 90).run Tryz.prog w=.ok (.agg #[.int .i64 0,.int .i64 0]) w:=fun w=>by kernel_rfl
 have hz:(Value.agg #[.int .i64 0,.int .i64 0]).cells=#[.int .i64 0,.int .i64 0]:=by kernel_rfl
 have hzc:(Builtin.zeroCells (Value.agg #[.int .i64 0,.int .i64 0]).cells n).toList=List.replicate (n*2) (Value.int .i64 0):=by
  rw[hz];simp[Builtin.zeroCells];apply List.ext_getElem
  ·simp
  ·intro i h1 h2;have h3:i % 2=0∨i % 2=1:=by omega
   rcases h3 with h3 | h3 <;> simp[h3]
 have hst:=run_storeCells_cells (P:=Tryz.prog) b o (List.replicate (n*2) (.int .i64 0)) 0 w (by simpa using hc) (by simpa using hf) (by intro v hv';rw[List.eq_of_mem_replicate hv'];rfl);simp only[Nat.add_zero]at hst;obtain⟨m,rfl⟩:∃m,n=m+1:=⟨n-1,by omega⟩
 simp[Builtin.clear_,run_underlying ht,hv,hzc,hst]
set_option maxHeartbeats 2000000 in
theorem Znw (w0 w:World)(v:Value)(l:List (Int × Int))(hB:Below w0.heap.size w0 w)(h:OwnP w w0.heap.size v l)(hl:l.length≤1152921504606846976) :
 Calls Tryz.prog 80 #[v] w fun e w'=>∃v',e=.returned v'∧v'.ownBlock=v.ownBlock∧OwnP w' w0.heap.size v' (Zcr l)∧Below w0.heap.size w0 w'∧Kept w w' (fun k=>v.ownBlock=some k):=by
 obtain⟨A,c,rfl,hc⟩:=h.slice;by_cases h2:l.length<2
 ·have q:decide ((l.length:Int)<2)=true:=decide_eq_true (by omega);have e:Zcr l=l:=by
   match l,h2 with
   | [],_=>rfl
   | [x],_=>rfl
   | x :: y :: r,h2=>simp at h2;omega
  have HOW:=Zrw.mk h;have HB:=Zrw.mk hB;clear h hc hB
  go_enter Tryz.func80,Tryz.ntmps80
  go_wp2
  go_ret
  exact⟨_,rfl,rfl,by rw[e];exact HOW.out,HB.out,Kept.refl _ _⟩
 ·have q:decide ((l.length:Int)<2)=false:=decide_eq_false (by omega);obtain⟨g,hg,rfl⟩:∃g,w0.heap.size≤g∧A=some ⟨g,0,none⟩:=by
   rcases h.2 with⟨he,hz⟩ | ⟨g,cap,cur,he,hg,_⟩
   ·omega
   ·injection he with he;exact⟨g,hg,he⟩
  have HOW:=Zrw.mk h;have HB:=Zrw.mk hB;have HG:=Zrw.mk hg;clear h hB hg
  go_enter Tryz.func80,Tryz.ntmps80
  go_wp2
  clear q
  go_loopw [3] (fun i wr=>∃k:Nat,1≤k∧k≤l.length∧i=.int .i64 k∧Zrw (Drawn0 w wr∧∀i,i+1<k→rdP l i≠rdP l (i+1))) (fun i _=>l.length-(intOf i).toNat)
  case atStart=>exact⟨1,by omega,by omega,rfl,⟨Drawn0.refl w,fun i hi=>by omega⟩⟩
  case round=>
   obtain⟨k,k1,hk,rfl,HD⟩:=hrel;by_cases hkn:k<l.length
   ·have ho:=HOW.out.below HD.out.1.below;obtain⟨p0,p1⟩:=ho.at k hkn;obtain⟨p2,p3⟩:=ho.at (k-1) (by omega);have ee:=Znp (rdP l k).1 (rdP l k).2 (rdP l (k-1)).1 (rdP l (k-1)).2;have hg:=guard53;have hw1:IntKind.i64.wrap ((k:Int)-1)=(k:Int)-1:=by simp[IntKind.wrap,IntKind.bits,IntKind.signed];omega
    have hw2:0≤(k:Int)-1:=by omega
    have hw3:(k:Int)-1<l.length:=by omega
    by_cases hne:rdP l k=rdP l (k-1)
    ·have hb:((rdP l k).1==(rdP l (k-1)).1&&(rdP l k).2==(rdP l (k-1)).2)=true:=by rw[hne];simp
     rw[hb]at ee;have HST:=Zrw.mk (CInv.start k1 hkn HD.out.2 hne);have HKN:=Zrw.mk hkn;have HD1:=Zrw.mk HD.out.1;generalize rdP l k=x at *;generalize rdP l (k-1)=y at *;obtain⟨x1,x2⟩:=x;obtain⟨y1,y2⟩:=y;simp only at p0 p1 p2 p3 ee;clear ho hb hne HD;go_wp2
     go_quiet (fail)
     go_wp2
     go_loopw [3,5] (fun a b wr=>∃(kk k2:Nat) (cc:List (Int × Int)),a=.int .i64 kk∧b=.int .i64 k2∧1≤k2∧k+k2≤l.length∧Zrw (CInv l cc kk (k+k2)∧OwnP wr w0.heap.size (.slice (some ⟨g,0,none⟩) l.length c) cc∧Below w0.heap.size w0 wr∧Kept w wr (fun k=>(Value.slice (some ⟨g,0,none⟩) l.length c).ownBlock=some k))) (fun _ b _=>l.length-(intOf b).toNat)
     case atStart=>exact⟨k,1,l,rfl,rfl,Nat.le_refl _,by omega,⟨HST.out,HOW.out.below (HD1.out.step _).below,Zae HB.out (HD1.out.step _).below,Zph (HD1.out.step _).below⟩⟩
     case round=>
      clear p0 p1 p2 p3 ee hw1 hw2 hw3;obtain⟨kk,k2,cc,rfl,rfl,h1,hle,HI⟩:=hrel;have hkk:=HI.out.1.lt;have hcl:=HI.out.1.len;by_cases hlt2:k+k2<l.length
      ·obtain⟨c0,c1⟩:=HI.out.2.1.at (k+k2) (by omega);obtain⟨c2,c3⟩:=HI.out.2.1.at (k+k2-1) (by omega);obtain⟨c4,c5⟩:=HI.out.2.1.at kk (by omega);rw[HI.out.1.high (k+k2) (by omega),show (k+k2)*2=k*2+k2*2 by omega]at c0 c1;rw[HI.out.1.high (k+k2-1) (by omega),show (k+k2-1)*2=k*2+(k2-1)*2 by omega]at c2 c3;have ee:=Znp (rdP l (k+k2)).1 (rdP l (k+k2)).2 (rdP l (k+k2-1)).1 (rdP l (k+k2-1)).2;have hw1:IntKind.i64.wrap ((k2:Int)-1)=(k2:Int)-1:=by simp[IntKind.wrap,IntKind.bits,IntKind.signed];omega
       have hw2:0≤(k2:Int)-1:=by omega
       have hw3:(k2:Int)-1<((l.length-k:Nat):Int):=by omega
       have hfz:∀j,wr.frozen? ⟨g,j,none⟩=false:=fun j=>by
        rcases HI.out.2.1.2 with⟨he,_⟩ | ⟨g',cap,cur,he,_,hgc,_⟩
        ·cases he
        ·injection he with he _ _
         injection he with he
         injection he with he
         subst he;exact Zam hgc j
       have f4:=hfz (kk*2);have f5:=hfz (kk*2+1);clear hfz;have HLT:=Zrw.mk hlt2;by_cases huv:rdP l (k+k2)=rdP l (k+k2-1)
       ·have hb:((rdP l (k+k2)).1==(rdP l (k+k2-1)).1&&(rdP l (k+k2)).2==(rdP l (k+k2-1)).2)=true:=by rw[huv];simp
        rw[hb]at ee;have HN:=Zrw.mk (HI.out.1.skip hlt2 huv);generalize rdP l (k+k2)=x at *;generalize rdP l (k+k2-1)=y at *;obtain⟨x1,x2⟩:=x;obtain⟨y1,y2⟩:=y;simp only at c0 c1 c2 c3 ee;clear hb huv;go_wp2
        go_quiet (fail)
        go_wp2
        go_roundw
        case rel=>exact⟨kk,k2+1,cc,rfl,by go_num,by omega,by omega,⟨HN.out,HI.out.2.1.below (Zag Zbr _),Zae HI.out.2.2.1 (Zag Zbr _),Kept.trans_ HI.out.2.2.2 (Zph (Zag Zbr _))⟩⟩
        case measure=>simp[intOf];omega
       ·have hb:((rdP l (k+k2)).1==(rdP l (k+k2-1)).1&&(rdP l (k+k2)).2==(rdP l (k+k2-1)).2)=false:=by
         cases hh:((rdP l (k+k2)).1==(rdP l (k+k2-1)).1&&(rdP l (k+k2)).2==(rdP l (k+k2-1)).2)with
         | false=>rfl
         | true=>
          simp at hh;exact absurd (Prod.ext hh.1 hh.2) huv
        rw[hb]at ee;have HN:=Zrw.mk (HI.out.1.keep hlt2 huv);generalize rdP l (k+k2)=x at *;generalize rdP l (k+k2-1)=y at *;obtain⟨x1,x2⟩:=x;obtain⟨y1,y2⟩:=y;simp only at c0 c1 c2 c3 ee;clear hb huv;go_wp2
        go_quiet (fail)
        go_wp2
        go_roundw
        case rel=>exact⟨kk+1,k2+1,_,by go_num,by go_num,by omega,by omega,⟨HN.out,OwnP.set (HI.out.2.1.below (Zag Zbr _)) hcl.symm (by omega) (x1,x2),((Zae HI.out.2.2.1 (Zag Zbr _)).setCell (p:=⟨g,kk*2,none⟩) HG.out _).setCell (p:=⟨g,kk*2+1,none⟩) HG.out _,Kept.trans_ HI.out.2.2.2 (Kept.trans_ (Zph (Zag Zbr _)) (kept_two _ g (kk*2) (kk*2+1) _ _))⟩⟩
        case measure=>simp[intOf];omega
      ·obtain hend:k+k2=l.length:=by omega
       have hfz:∀j,wr.frozen? ⟨g,j,none⟩=false:=fun j=>by
        rcases HI.out.2.1.2 with⟨he,_⟩ | ⟨g',cap,cur,he,_,hgc,_⟩
        ·cases he
        ·injection he with he _ _
         injection he with he
         injection he with he
         subst he;exact Zam hgc j
       have hsm:∀j,j<(l.length-kk)*2→(wr.cell? ⟨g,kk*2+j,none⟩).isSome=true:=fun j hj=>by
        obtain⟨e0,e1⟩:=HI.out.2.1.at ((kk*2+j) / 2) (by omega)
        rcases Nat.mod_two_eq_zero_or_one (kk*2+j)with h0 | h0
        ·rw[show (kk*2+j) / 2*2=kk*2+j by omega]at e0;rw[e0];rfl
        ·rw[show (kk*2+j) / 2*2+1=kk*2+j by omega]at e1;rw[e1];rfl
       have hcl2:∀ty,(Builtin.clear_ #[89] ty #[.slice (some ⟨g,kk*2,none⟩) (l.length-kk) (c-kk)]).run Tryz.prog wr=.ok (.tuple #[]) (wr.setCells g (kk*2) (List.replicate ((l.length-kk)*2) (.int .i64 0))):=fun ty=>
        Zfs wr 89 ty Tryz.underlying89 g (kk*2) _ _ (by omega) hsm (fun j _=>hfz _)
       clear hfz hsm;go_wp2
       go_ret
       have hlow:=HI.out.1.low;rw[hend,List.take_length]at hlow;exact⟨_,rfl,rfl,by rw[←hlow];exact OwnP.cut HI.out.2.1 hcl.symm (by omega) _,Zeo HI.out.2.2.1 HG.out _ _,Kept.trans_ HI.out.2.2.2 (Kept.imp_ (Zfi _ _ _ _) (fun k hk=>by rw[←hk];rfl))⟩
    ·have hb:((rdP l k).1==(rdP l (k-1)).1&&(rdP l k).2==(rdP l (k-1)).2)=false:=by
      cases hh:((rdP l k).1==(rdP l (k-1)).1&&(rdP l k).2==(rdP l (k-1)).2)with
      | false=>rfl
      | true=>
       simp at hh;exact absurd (Prod.ext hh.1 hh.2) hne
     rw[hb]at ee;have HN:Zrw (∀i,i+1<k+1→rdP l i≠rdP l (i+1)):=⟨fun i hi=>by
      by_cases e:i+1=k
      ·obtain rfl:i=k-1:=by omega
       rw[show k-1+1=k by omega];exact fun e2=>hne e2.symm
      ·exact HD.out.2 i (by omega)⟩
     generalize rdP l k=x at *;generalize rdP l (k-1)=y at *;obtain⟨x1,x2⟩:=x;obtain⟨y1,y2⟩:=y;simp only at p0 p1 p2 p3 ee;clear ho hb hne;go_wp2
     go_quiet (fail)
     go_wp2
     go_roundw
     case rel=>exact⟨k+1,by omega,by omega,by go_num,⟨HD.out.1.step _,HN.out⟩⟩
     case measure=>simp[intOf];omega
   ·obtain rfl:k=l.length:=by omega
    go_wp2
    go_ret
    have e:Zcr l=l:=by
     have:=Zgh l l.length (Nat.le_refl _) HD.out.2;rwa[List.take_length]at this
    exact⟨_,rfl,rfl,by rw[e];exact HOW.out.below HD.out.1.below,Zae HB.out HD.out.1.below,Zph HD.out.1.below⟩
set_option maxHeartbeats 2000000 in
theorem Znv (w0 w:World)(v:Value)(l:List (Int × Int))(hB:Below w0.heap.size w0 w)(h:OwnP w w0.heap.size v l)(hl:l.length≤1152921504606846976) :
 Calls Tryz.prog 133 #[v] w fun e w'=>∃v',e=.returned v'∧v'.ownBlock=v.ownBlock∧OwnP w' w0.heap.size v' (Zcr l)∧Below w0.heap.size w0 w'∧Kept w w' (fun k=>v.ownBlock=some k):=by
 obtain⟨A,c,rfl,hc⟩:=h.slice;by_cases h2:l.length<2
 ·have q:decide ((l.length:Int)<2)=true:=decide_eq_true (by omega);have e:Zcr l=l:=by
   match l,h2 with
   | [],_=>rfl
   | [x],_=>rfl
   | x :: y :: r,h2=>simp at h2;omega
  have HOW:=Zrw.mk h;have HB:=Zrw.mk hB;clear h hc hB
  go_enter Tryz.func133,Tryz.ntmps133
  go_wp2
  go_ret
  exact⟨_,rfl,rfl,by rw[e];exact HOW.out,HB.out,Kept.refl _ _⟩
 ·have q:decide ((l.length:Int)<2)=false:=decide_eq_false (by omega);obtain⟨g,hg,rfl⟩:∃g,w0.heap.size≤g∧A=some ⟨g,0,none⟩:=by
   rcases h.2 with⟨he,hz⟩ | ⟨g,cap,cur,he,hg,_⟩
   ·omega
   ·injection he with he;exact⟨g,hg,he⟩
  have HOW:=Zrw.mk h;have HB:=Zrw.mk hB;have HG:=Zrw.mk hg;clear h hB hg
  go_enter Tryz.func133,Tryz.ntmps133
  go_wp2
  clear q
  go_loopw [3] (fun i wr=>∃k:Nat,1≤k∧k≤l.length∧i=.int .i64 k∧Zrw (Drawn0 w wr∧∀i,i+1<k→rdP l i≠rdP l (i+1))) (fun i _=>l.length-(intOf i).toNat)
  case atStart=>exact⟨1,by omega,by omega,rfl,⟨Drawn0.refl w,fun i hi=>by omega⟩⟩
  case round=>
   obtain⟨k,k1,hk,rfl,HD⟩:=hrel;by_cases hkn:k<l.length
   ·have ho:=HOW.out.below HD.out.1.below;obtain⟨p0,p1⟩:=ho.at k hkn;obtain⟨p2,p3⟩:=ho.at (k-1) (by omega);have ee:=Znp (rdP l k).1 (rdP l k).2 (rdP l (k-1)).1 (rdP l (k-1)).2;have hg:=guard53;have hw1:IntKind.i64.wrap ((k:Int)-1)=(k:Int)-1:=by simp[IntKind.wrap,IntKind.bits,IntKind.signed];omega
    have hw2:0≤(k:Int)-1:=by omega
    have hw3:(k:Int)-1<l.length:=by omega
    by_cases hne:rdP l k=rdP l (k-1)
    ·have hb:((rdP l k).1==(rdP l (k-1)).1&&(rdP l k).2==(rdP l (k-1)).2)=true:=by rw[hne];simp
     rw[hb]at ee;have HST:=Zrw.mk (CInv.start k1 hkn HD.out.2 hne);have HKN:=Zrw.mk hkn;have HD1:=Zrw.mk HD.out.1;generalize rdP l k=x at *;generalize rdP l (k-1)=y at *;obtain⟨x1,x2⟩:=x;obtain⟨y1,y2⟩:=y;simp only at p0 p1 p2 p3 ee;clear ho hb hne HD;go_wp2
     go_quiet (fail)
     go_wp2
     go_loopw [3,5] (fun a b wr=>∃(kk k2:Nat) (cc:List (Int × Int)),a=.int .i64 kk∧b=.int .i64 k2∧1≤k2∧k+k2≤l.length∧Zrw (CInv l cc kk (k+k2)∧OwnP wr w0.heap.size (.slice (some ⟨g,0,none⟩) l.length c) cc∧Below w0.heap.size w0 wr∧Kept w wr (fun k=>(Value.slice (some ⟨g,0,none⟩) l.length c).ownBlock=some k))) (fun _ b _=>l.length-(intOf b).toNat)
     case atStart=>exact⟨k,1,l,rfl,rfl,Nat.le_refl _,by omega,⟨HST.out,HOW.out.below (HD1.out.step _).below,Zae HB.out (HD1.out.step _).below,Zph (HD1.out.step _).below⟩⟩
     case round=>
      clear p0 p1 p2 p3 ee hw1 hw2 hw3;obtain⟨kk,k2,cc,rfl,rfl,h1,hle,HI⟩:=hrel;have hkk:=HI.out.1.lt;have hcl:=HI.out.1.len;by_cases hlt2:k+k2<l.length
      ·obtain⟨c0,c1⟩:=HI.out.2.1.at (k+k2) (by omega);obtain⟨c2,c3⟩:=HI.out.2.1.at (k+k2-1) (by omega);obtain⟨c4,c5⟩:=HI.out.2.1.at kk (by omega);rw[HI.out.1.high (k+k2) (by omega),show (k+k2)*2=k*2+k2*2 by omega]at c0 c1;rw[HI.out.1.high (k+k2-1) (by omega),show (k+k2-1)*2=k*2+(k2-1)*2 by omega]at c2 c3;have ee:=Znp (rdP l (k+k2)).1 (rdP l (k+k2)).2 (rdP l (k+k2-1)).1 (rdP l (k+k2-1)).2;have hw1:IntKind.i64.wrap ((k2:Int)-1)=(k2:Int)-1:=by simp[IntKind.wrap,IntKind.bits,IntKind.signed];omega
       have hw2:0≤(k2:Int)-1:=by omega
       have hw3:(k2:Int)-1<((l.length-k:Nat):Int):=by omega
       have hfz:∀j,wr.frozen? ⟨g,j,none⟩=false:=fun j=>by
        rcases HI.out.2.1.2 with⟨he,_⟩ | ⟨g',cap,cur,he,_,hgc,_⟩
        ·cases he
        ·injection he with he _ _
         injection he with he
         injection he with he
         subst he;exact Zam hgc j
       have f4:=hfz (kk*2);have f5:=hfz (kk*2+1);clear hfz;have HLT:=Zrw.mk hlt2;by_cases huv:rdP l (k+k2)=rdP l (k+k2-1)
       ·have hb:((rdP l (k+k2)).1==(rdP l (k+k2-1)).1&&(rdP l (k+k2)).2==(rdP l (k+k2-1)).2)=true:=by rw[huv];simp
        rw[hb]at ee;have HN:=Zrw.mk (HI.out.1.skip hlt2 huv);generalize rdP l (k+k2)=x at *;generalize rdP l (k+k2-1)=y at *;obtain⟨x1,x2⟩:=x;obtain⟨y1,y2⟩:=y;simp only at c0 c1 c2 c3 ee;clear hb huv;go_wp2
        go_quiet (fail)
        go_wp2
        go_roundw
        case rel=>exact⟨kk,k2+1,cc,rfl,by go_num,by omega,by omega,⟨HN.out,HI.out.2.1.below (Zag Zbr _),Zae HI.out.2.2.1 (Zag Zbr _),Kept.trans_ HI.out.2.2.2 (Zph (Zag Zbr _))⟩⟩
        case measure=>simp[intOf];omega
       ·have hb:((rdP l (k+k2)).1==(rdP l (k+k2-1)).1&&(rdP l (k+k2)).2==(rdP l (k+k2-1)).2)=false:=by
         cases hh:((rdP l (k+k2)).1==(rdP l (k+k2-1)).1&&(rdP l (k+k2)).2==(rdP l (k+k2-1)).2)with
         | false=>rfl
         | true=>
          simp at hh;exact absurd (Prod.ext hh.1 hh.2) huv
        rw[hb]at ee;have HN:=Zrw.mk (HI.out.1.keep hlt2 huv);generalize rdP l (k+k2)=x at *;generalize rdP l (k+k2-1)=y at *;obtain⟨x1,x2⟩:=x;obtain⟨y1,y2⟩:=y;simp only at c0 c1 c2 c3 ee;clear hb huv;go_wp2
        go_quiet (fail)
        go_wp2
        go_roundw
        case rel=>exact⟨kk+1,k2+1,_,by go_num,by go_num,by omega,by omega,⟨HN.out,OwnP.set (HI.out.2.1.below (Zag Zbr _)) hcl.symm (by omega) (x1,x2),((Zae HI.out.2.2.1 (Zag Zbr _)).setCell (p:=⟨g,kk*2,none⟩) HG.out _).setCell (p:=⟨g,kk*2+1,none⟩) HG.out _,Kept.trans_ HI.out.2.2.2 (Kept.trans_ (Zph (Zag Zbr _)) (kept_two _ g (kk*2) (kk*2+1) _ _))⟩⟩
        case measure=>simp[intOf];omega
      ·obtain hend:k+k2=l.length:=by omega
       have hfz:∀j,wr.frozen? ⟨g,j,none⟩=false:=fun j=>by
        rcases HI.out.2.1.2 with⟨he,_⟩ | ⟨g',cap,cur,he,_,hgc,_⟩
        ·cases he
        ·injection he with he _ _
         injection he with he
         injection he with he
         subst he;exact Zam hgc j
       have hsm:∀j,j<(l.length-kk)*2→(wr.cell? ⟨g,kk*2+j,none⟩).isSome=true:=fun j hj=>by
        obtain⟨e0,e1⟩:=HI.out.2.1.at ((kk*2+j) / 2) (by omega)
        rcases Nat.mod_two_eq_zero_or_one (kk*2+j)with h0 | h0
        ·rw[show (kk*2+j) / 2*2=kk*2+j by omega]at e0;rw[e0];rfl
        ·rw[show (kk*2+j) / 2*2+1=kk*2+j by omega]at e1;rw[e1];rfl
       have hcl2:∀ty,(Builtin.clear_ #[35] ty #[.slice (some ⟨g,kk*2,none⟩) (l.length-kk) (c-kk)]).run Tryz.prog wr=.ok (.tuple #[]) (wr.setCells g (kk*2) (List.replicate ((l.length-kk)*2) (.int .i64 0))):=fun ty=>
        Zfs wr 35 ty Tryz.underlying35 g (kk*2) _ _ (by omega) hsm (fun j _=>hfz _)
       clear hfz hsm;go_wp2
       go_ret
       have hlow:=HI.out.1.low;rw[hend,List.take_length]at hlow;exact⟨_,rfl,rfl,by rw[←hlow];exact OwnP.cut HI.out.2.1 hcl.symm (by omega) _,Zeo HI.out.2.2.1 HG.out _ _,Kept.trans_ HI.out.2.2.2 (Kept.imp_ (Zfi _ _ _ _) (fun k hk=>by rw[←hk];rfl))⟩
    ·have hb:((rdP l k).1==(rdP l (k-1)).1&&(rdP l k).2==(rdP l (k-1)).2)=false:=by
      cases hh:((rdP l k).1==(rdP l (k-1)).1&&(rdP l k).2==(rdP l (k-1)).2)with
      | false=>rfl
      | true=>
       simp at hh;exact absurd (Prod.ext hh.1 hh.2) hne
     rw[hb]at ee;have HN:Zrw (∀i,i+1<k+1→rdP l i≠rdP l (i+1)):=⟨fun i hi=>by
      by_cases e:i+1=k
      ·obtain rfl:i=k-1:=by omega
       rw[show k-1+1=k by omega];exact fun e2=>hne e2.symm
      ·exact HD.out.2 i (by omega)⟩
     generalize rdP l k=x at *;generalize rdP l (k-1)=y at *;obtain⟨x1,x2⟩:=x;obtain⟨y1,y2⟩:=y;simp only at p0 p1 p2 p3 ee;clear ho hb hne;go_wp2
     go_quiet (fail)
     go_wp2
     go_roundw
     case rel=>exact⟨k+1,by omega,by omega,by go_num,⟨HD.out.1.step _,HN.out⟩⟩
     case measure=>simp[intOf];omega
   ·obtain rfl:k=l.length:=by omega
    go_wp2
    go_ret
    have e:Zcr l=l:=by
     have:=Zgh l l.length (Nat.le_refl _) HD.out.2;rwa[List.take_length]at this
    exact⟨_,rfl,rfl,by rw[e];exact HOW.out.below HD.out.1.below,Zae HB.out HD.out.1.below,Zph HD.out.1.below⟩
end Go.Proofs.YtaokkliamoghbaaGreatDoor.PVpa
