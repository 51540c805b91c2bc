/- Joined from texts of this seat, in their order. -/
import Derived.Test.YtaokkliamoghbaaGreatDoorJAm
import Derived.Test.YtaokkliamoghbaaGreatDoorJAe
import Derived.Test.YtaokkliamoghbaaGreatDoorJAn
import Derived.Test.YtaokkliamoghbaaGreatDoorJAw
import Derived.Test.YtaokkliamoghbaaGreatDoorJAq
import Derived.Test.YtaokkliamoghbaaGreatDoorJAu
import Derived.Test.YtaokkliamoghbaaGreatDoorJAc
import Derived.Deep.RegionLaw
set_option linter.unusedVariables false
set_option linter.unusedSimpArgs false
set_option linter.unusedSectionVars false
set_option maxRecDepth 100000
namespace PDet
variable {V:VM}{nm:List Zby→List Zby}{most:Nat}
theorem close_le:∀n i s,s.L <+: (close V nm most n i s).L
 | 0,i,s=>List.prefix_refl _
 | n+1,i,s=>by
  unfold close
  split
  ·refine List.IsPrefix.trans ?_ (close_le n (i+1) _)
   unfold round;have hr1:=(row_le (V:=V) (nm:=nm) (most:=most) i (tokRow V) [] s).L;simp only
   split
   ·exact hr1
   ·exact hr1.trans (Zff (f:=both V nm most i) (fun j s=>both_le i j s) (List.range (i+1)) (addRow (row V nm most i (tokRow V) [] s).1 (row V nm most i (tokRow V) [] s).2)).L
  ·exact List.prefix_refl _
theorem table_first (n:Nat):(table V nm most n).L[0]?=some (nm (V.start.map fun p=>(p,p))):=by
 refine pre_get? (close_le n 0 _) ?_
 unfold first number
 simp
theorem uniq {α:Type}{l:List α}(h:l.Nodup){a b:Nat}{x:α}(ha:l[a]?=some x)(hb:l[b]?=some x):a=b:=by
 obtain⟨h1,e1⟩:=List.getElem?_eq_some_iff.1 ha
 obtain⟨h2,e2⟩:=List.getElem?_eq_some_iff.1 hb
 have hp:=List.pairwise_iff_getElem.1 h
 rcases Nat.lt_trichotomy a b with hab | hab | hab
 ·exact absurd (e1.trans e2.symm) (hp a b h1 h2 hab)
 ·exact hab
 ·exact absurd (e2.trans e1.symm) (hp b a h2 h1 hab)
theorem stepOut_nil {L:List (List Zby)}{s:Nat}(h:L[s]?=some [])(t:Int):stepOut V L s t=[]:=by
 unfold stepOut;simp[List.getD_eq_getElem?_getD,h]
theorem joinOut_in {L:List (List Zby)}{s:Nat}(h:L[s]?=some [])(b:Nat)(c t:Int):joinOut V L s b c t=[]:=by
 unfold joinOut;simp[List.getD_eq_getElem?_getD,h]
theorem joinOut_below {L:List (List Zby)}{s:Nat}(h:L[s]?=some [])(i:Nat)(c t:Int):joinOut V L i s c t=[]:=by
 unfold joinOut;simp[List.getD_eq_getElem?_getD,h]
theorem sink_row {T:St}(h:At V nm most T.L.length T)(hn:nm []=[]){s:Nat}(hs:T.L[s]?=some []){r:List Int}(hr:T.one[s]?=some r){m:Nat}(hm:m<V.kinds.length+1):r[m]?=some (s:Int):=by
 have ht:(tokRow V)[m]?=some (Int.ofNat m-1):=by
  unfold tokRow;simp[List.getElem?_map,List.getElem?_range hm]
 obtain⟨k,h1,h2⟩:=(h.row s r hr).2 m _ ht;rw[stepOut_nil hs,hn]at h2;rw[h1,uniq h.good.nodup h2 hs]
theorem sink_ret {T:St}(h:At V nm most T.L.length T)(hn:nm []=[]){s:Nat}(hs:T.L[s]?=some []){i j:Nat}{c t k:Int}(he:((i,j,c,t),k)∈T.ret)(hij:i=s∨j=s):k=(s:Int):=by
 obtain⟨_,_,q,h1,h2⟩:=h.good.ret _ he;have e:joinOut V T.L i j c t=[]:=by
  rcases hij with rfl | rfl
  ·exact joinOut_in hs ..
  ·exact joinOut_below hs ..
 simp only at h1 h2;rw[e,hn]at h2;rw[h1,uniq h.good.nodup h2 hs]
theorem stepOut_none {s:St}(h:s.L=[[]])(i:Nat)(t:Int):stepOut V s.L i t=[]:=by
 unfold stepOut;rw[at_nil h]
 rfl
theorem row_nil (hn:nm []=[])(i:Nat):∀l r s,s.L=[[]]→(row V nm most i l r s).2.L=[[]]
 | [],r,s,h=>h
 | t :: l,r,s,h=>by
  have e:step V nm most i t s=(0,s):=by
   unfold step;rw[stepOut_none h,number_nil h hn]
  unfold row;rw[e]
  split
  ·exact h
  ·exact row_nil hn i l _ s h
theorem round_nil (hn:nm []=[])(i:Nat)(s:St)(h:s.L=[[]]):(round V nm most i s).L=[[]]:=by
 unfold round;have hr:=row_nil (V:=V) (most:=most) hn i (tokRow V) [] s h;simp only
 split
 ·exact hr
 ·exact Zkd (fun j s h=>both_nil hn h i j) _ _ hr
theorem close_nil (hn:nm []=[]):∀n i s,s.L=[[]]→(close V nm most n i s).L=[[]]
 | 0,i,s,h=>h
 | n+1,i,s,h=>by
  unfold close
  split
  ·exact close_nil hn n (i+1) _ (round_nil hn i s h)
  ·exact h
theorem table_nil (hn:nm []=[])(h:V.start=[])(n:Nat):(table V nm most n).L=[[]]:=by
 refine close_nil hn n 0 _ ?_
 unfold first number
 simp[h,hn]
end PDet
namespace Go.Proofs.YtaokkliamoghbaaGreatDoor.PVpa
open Go.RowKit Go.Proofs.YtaokkliamoghbaaGreatDoorW.PrintWords Go.Proofs.YtaokkliamoghbaaGreatDoorW.PrintLast Go.Proofs.YtaokkliamoghbaaGreatDoorW.PrintMore
open PDet (VM VOk Wf In Zbi toks number)
theorem normP_nil:normP []=[]:=by
 have h:=Zkp [];cases e:normP []with
 | nil=>rfl
 | cons x r=>exact absurd ((h x).1 (by rw[e];exact List.mem_cons_self)) (by simp)
theorem normP_ris {l:List (Int × Int)}(h:Zrv l):normP l=l:=ris_extP _ _ (Zop l) h (Zkp l)
theorem normP_diag {l:List Int}(h:l.Pairwise (·<·)):normP (l.map fun p=>(p,p))=l.map fun p=>(p,p):=by
 refine normP_ris ?_
 unfold Zrv;rw[List.pairwise_map];exact h.imp (fun h=>(Zfv _ _).2 (.inl h))
section
variable {D:DK}{ok:Nat→Prop}{w:World}{s:PDet.St}{ns:List (List (Int × Int))}
theorem bottom_D (hk:D.Ok)(h:DS D ok w ns s)(hr:Rows D s)(p t:Int):Calls Tryz.prog 17 #[.pointer (some ⟨D.gd,0,none⟩),.int .i64 p,.int .i64 t] w fun e w'=>e=.returned (.int .i64 (Zmx D.G s p t 2))∧w'=w:=by
 have H:=Zrw.mk (told_D hk h hr p t 2);clear h hk hr
 go_enter Tryz.func17,Tryz.ntmps17
 go_wp2_with (go_at_call 45;(with_reducible refine H.out.mono ?_);rintro e1 w1 ⟨rfl,hw1⟩;obtain rfl:=hw1.symm)
 go_ret
 exact⟨rfl,rfl⟩
end
section
variable {w:World}{gd:Nat}{G:S26}{most:Nat}
theorem DetAt.bottom (h:DetAt w gd G most)(hl:(Zbz G most).large=false)(p t:Int):Calls Tryz.prog 17 #[.pointer (some ⟨gd,0,none⟩),.int .i64 p,.int .i64 t] w fun e w'=>e=.returned (.int .i64 (Zmx G (Zbz G most) p t 2))∧w'=w:=by
 obtain⟨D,hk,rfl,hM,rfl,rfl,hd⟩:=h;exact bottom_D hk hd (tab_rows hl) p t
end
end Go.Proofs.YtaokkliamoghbaaGreatDoor.PVpa
namespace Go.Proofs.YtaokkliamoghbaaGreatDoor.PVpa
open Go.RowKit Go.Proofs.YtaokkliamoghbaaGreatDoorW.PrintWords Go.Proofs.YtaokkliamoghbaaGreatDoorW.PrintLast Go.Proofs.YtaokkliamoghbaaGreatDoorW.PrintMore
structure Wide0 (M:Mach):Prop where
 len:0<M.pl.length
 alike:Alike (M.pl.getD 0 zPl) Zix
 none_:(M.pl.getD 0 zPl).follow=[]
structure Toks4 (G:S26):Prop where
 len:3<G.f0.length
 t0:(Zqd G 0).f1=0
 t2:(Zqd G 2).f1=1
 t3:(Zqd G 3).f1=2
theorem MakeOk.toks4 {n:Nat}{G:S26}(h:MakeOk n G):Toks4 G:=by
 obtain⟨a1,a2,hk,_⟩:=h.kind
 rcases hk with⟨_,ht,_⟩ | ⟨_,ht,_⟩
 ·exact⟨by rw[ht];decide,by unfold Zqd;rw[ht];rfl,by unfold Zqd;rw[ht];rfl,by unfold Zqd;rw[ht];rfl⟩
 ·exact⟨by rw[ht];decide,by unfold Zqd;rw[ht];rfl,by unfold Zqd;rw[ht];rfl,by unfold Zqd;rw[ht];rfl⟩
section
variable {G:S26}{M:Mach}
theorem Wide0.pl (h:Wide0 M):(Zbf M.pl 0).kind=0∧(Zbf M.pl 0).shape=none∧(Zbf M.pl 0).p=z76∧(Zbf M.pl 0).follow=[]:=⟨h.alike.kind,h.alike.shape,h.alike.p,h.none_⟩
theorem Wide0.stays (h:Wide0 M):Ziy M 0=true:=by
 unfold Ziy;rw[h.pl.1]
 rfl
theorem Wide0.next (h:Wide0 M):Zdz M 0=[]:=by
 unfold Zdz;rw[if_neg (by rw[h.pl.1];decide),h.pl.2.2.2]
end
def From (m:Nat)(l:List Int):Prop:=∀x∈l,(m:Int)≤x
theorem From.both {m:Nat}{a b:List Int}(h:From m a)(k:From m b):From m (Zcj a b):=fun x hx=>(mem_bothL hx).elim (h x) (k x)
theorem From.one {m n:Nat}(h:m≤n):From m [(n:Int)]:=fun x hx=>by simp at hx;omega
theorem From.none_ (m:Nat):From m []:=fun x hx=>by cases hx
structure Fo (m:Nat)(s s':St):Prop where
 len:m≤s'.pl.length
 same:∀q,q<m→(s'.pl.getD q zPl).follow=(s.pl.getD q zPl).follow
theorem Fo.refl {m:Nat}{s:St}(h:m≤s.pl.length):Fo m s s:=⟨h,fun _ _=>rfl⟩
theorem Fo.trans {m:Nat}{a b c:St}(h:Fo m a b)(k:Fo m b c):Fo m a c:=⟨k.len,fun q hq=>(k.same q hq).trans (h.same q hq)⟩
theorem Fo.add {m:Nat}{a s:St}(h:Fo m a s)(x:Pl):Fo m a (s.add x):=by
 refine⟨by show m≤(s.pl++[x]).length;rw[List.length_append];have:=h.len;omega,fun q hq=>?_⟩;show ((s.pl++[x]).getD q zPl).follow=_;rw[Zdf,if_neg (by have:=h.len;omega)];exact h.same q hq
theorem set_follow (pl:List Pl)(k q:Nat)(x:Pl)(h:k≠q):((pl.set k x).getD q zPl).follow=(pl.getD q zPl).follow:=by
 rw[List.getD_eq_getElem?_getD,List.getElem?_set_ne h,←List.getD_eq_getElem?_getD]
theorem linkK_follow (pl:List Pl)(tt frm:List Int)(m q:Nat)(hq:q<m)(hf:From m frm):∀k,k≤frm.length→((Zin pl tt frm k).getD q zPl).follow=(pl.getD q zPl).follow
 | 0,_=>rfl
 | k+1,hk=>by
  show ((Zde (Zin pl tt frm k) tt (rd frm k).toNat).getD q zPl).follow=_;have h1:(m:Int)≤rd frm k:=by
   refine hf _ ?_
   unfold rd;rw[Int.toNat_natCast,List.getD_eq_getElem?_getD,List.getElem?_eq_getElem (by omega)];exact List.getElem_mem (by omega)
  unfold Zde;rw[set_follow _ _ _ _ (by omega)];exact linkK_follow pl tt frm m q hq hf k (by omega)
theorem Fo.link {m:Nat}{a s:St}(h:Fo m a s){frm tt:List Int}(hf:From m frm):Fo m a (s.link frm tt):=by
 refine⟨by show m≤(linkL s.pl frm tt).length;unfold linkL;rw[Zdc];exact h.len,fun q hq=>?_⟩;show ((linkL s.pl frm tt).getD q zPl).follow=_;unfold linkL;rw[linkK_follow _ _ _ m q hq hf _ (Nat.le_refl _)];exact h.same q hq
theorem Fo.inner {m:Nat}{a s:St}(h:Fo m a s)(k b:Nat)(hk:m≤k):Fo m a (s.inner k b):=by
 refine⟨by show m≤(s.pl.set k _).length;rw[List.length_set];exact h.len,fun q hq=>?_⟩;show ((s.pl.set k _).getD q zPl).follow=_;rw[set_follow _ _ _ _ (by omega)];exact h.same q hq
theorem Fo.close {m:Nat}{a s:St}(h:Fo m a s)(b:Nat)(x:Sx)(rule step:Int):Fo m a (s.close b x rule step):=⟨h.len,h.same⟩
theorem frees_at (D:Nat)(G:S26)(i:Nat):∀n,i<n→(Zbl D G n).frees.getD i 0=Zls (Zcq G i) (Zbl D G i).st
 | 0,h=>by omega
 | n+1,h=>by
  show ((Zbl D G n).frees++[Zls (Zcq G n) (Zbl D G n).st]).getD i 0=_;rw[getD_app];have hn:=(Zpx D G n).n2;by_cases e:i=n
  ·rw[if_pos (by omega),e]
  ·rw[if_neg (by omega)];exact frees_at D G i n (by omega)
theorem steps_at (D:Nat)(G:S26)(i:Nat):∀n,i<n→(Zbl D G n).steps.getD i []=(Zay D i (Zcq G i) (Zdg i (Zcq G i) (Zbl D G i).st) (Zcq G i).f2.length).2
 | 0,h=>by omega
 | n+1,h=>by
  show ((Zbl D G n).steps++[(Zay D n (Zcq G n) (Zdg n (Zcq G n) (Zbl D G n).st) (Zcq G n).f2.length).2]).getD i []=_;rw[getD_app];have hn:=(Zpx D G n).n1;by_cases e:i=n
  ·rw[if_pos (by omega),e]
  ·rw[if_neg (by omega)];exact steps_at D G i n (by omega)
theorem stepsB_first (D:Nat)(i:Int)(r:S52)(s:St):∀k,1≤k→(Zay D i r s k).2.getD 0 0=s.pl.length
 | 0,h=>by omega
 | k+1,_=>by
  show ((Zay D i r s k).2++[(Zay D i r s k).1.pl.length]).getD 0 0=_;rw[getD_app];have hl:=stepsB_len D i r s k;by_cases e:k=0
  ·subst e;rfl
  ·rw[if_neg (by omega)];exact stepsB_first D i r s k (by omega)
theorem buildN_rises (D:Nat)(G:S26)(i:Nat)(h:1≤(Zcq G i).f2.length):buildN D G i<buildN D G (i+1):=by
 show buildN D G i<buildN D G i+((if (Zcq G i).f1=true then 1 else 0)+stepsN D (Zcq G i) (Zcq G i).f2.length)
 have:=stepsN_ge D (Zcq G i) (Zcq G i).f2.length;omega
variable {D n i:Nat}{G:S26}
theorem headD_getD (l:List Nat):l.headD 0=l.getD 0 0:=by cases l <;> rfl
theorem steps_head (hi:i<n)(h1:1≤(Zcq G i).f2.length)(hf:(Zcq G i).f1=false):((Zbl D G n).steps.getD i []).headD 0=buildN D G i:=by
 rw[headD_getD,steps_at D G i n hi,stepsB_first D i (Zcq G i) _ _ h1,←(Zeg D G i).2];unfold Zdg;rw[if_neg (by rw[hf];decide)]
theorem start_place (hi:i<n)(h1:1≤(Zcq G i).f2.length):Zgv (Zbl D G n).mach i=buildN D G i:=by
 unfold Zgv;have hr:rd (Zbl D G n).mach.frees (i:Int)=Zls (Zcq G i) (Zbl D G i).st:=by
  unfold rd;rw[Int.toNat_natCast];exact frees_at D G i n hi
 rw[hr];cases hf:(Zcq G i).f1 with
 | true=>
  have e:Zls (Zcq G i) (Zbl D G i).st=(Zbl D G i).st.pl.length:=by unfold Zls;rw[if_pos hf]
  rw[e,if_neg (by omega),(Zeg D G i).2]
 | false=>
  have e:Zls (Zcq G i) (Zbl D G i).st=-1:=by unfold Zls;rw[if_neg (by rw[hf];decide)]
  rw[e,if_pos (by decide)];show (((((Zbl D G n).steps.getD i []).headD 0:Nat)):Int)=_;rw[steps_head hi h1 hf]
end Go.Proofs.YtaokkliamoghbaaGreatDoor.PVpa
set_option linter.unusedVariables false
namespace Go.Proofs.YtaokkliamoghbaaGreatDoor.PVpa
open Go.RowKit Go.Proofs.YtaokkliamoghbaaGreatDoorW.PrintWords Go.Proofs.YtaokkliamoghbaaGreatDoorW.PrintLast Go.Proofs.YtaokkliamoghbaaGreatDoorW.PrintMore
open PDet (VM VOk Wf In Zbi toks number)
section
variable {G:S26}{most:Nat}
theorem tab_at2 (hl:(Zbz G most).large=false):PDet.At (vOf G) normP most (Zbz G most).L.length (Zbz G most):=PDet.table_at (by omega) hl
theorem kinds_len:(vOf G).kinds.length=G.f0.length:=List.length_map _
theorem kinds_at {t:Nat}(h:t<G.f0.length):(vOf G).kinds.getD t 0=(Zqd G t).f1:=by
 show (G.f0.map (·.f1)).getD t 0=(G.f0.getD (t:Int).toNat z70).f1;rw[Int.toNat_natCast,List.getD_eq_getElem?_getD,List.getD_eq_getElem?_getD,List.getElem?_map,List.getElem?_eq_getElem h]
 rfl
theorem mem_toks {k t:Nat}(h:t<G.f0.length)(hk:(Zqd G t).f1=(k:Int)):(t:Int)∈toks (vOf G) k:=by
 unfold toks;refine List.mem_map.2 ⟨t,List.mem_filter.2 ⟨List.mem_range.2 (by rw[kinds_len];exact h),?_⟩,rfl⟩;rw[kinds_at h,hk];simp
theorem may_of {n s:Nat}{t k:Int}(hs:s<n)(ht:t<G.f0.length)(h:(0≤t∧(Zqd G t).f1=k)∨(t=-1∧k=0)):Zoh G n s t k=true:=by
 unfold Zoh;rw[decide_eq_true ⟨Int.natCast_nonneg _,by omega,ht⟩,Bool.true_and]
 rcases h with⟨h1,h2⟩ | ⟨h1,h2⟩
 ·rw[decide_eq_true h1,decide_eq_true h2];rfl
 ·rw[decide_eq_true h1,decide_eq_true h2];simp
theorem sink_told (hl:(Zbz G most).large=false){s:Nat}(hs:(Zbz G most).L[s]?=some []){t k:Int}(ht:t<G.f0.length)(h:(0≤t∧(Zqd G t).f1=k)∨(t=-1∧k=0)):Zmx G (Zbz G most) s t k=s:=by
 have ha:=tab_at2 hl;have hsl:s<(Zbz G most).L.length:=(List.getElem?_eq_some_iff.1 hs).1;unfold Zmx;rw[if_pos (may_of hsl ht h),Int.toNat_natCast];have ho:s<(Zbz G most).one.length:=by rw[ha.len];exact hsl
 have hr:(Zbz G most).one[s]?=some ((Zbz G most).one[s]):=List.getElem?_eq_getElem ho
 have h2:=PDet.sink_row ha normP_nil hs hr (m:=(t+1).toNat) (by rw[kinds_len];rcases h with⟨h,_⟩ | ⟨h,_⟩ <;> omega);rw[show (Zbz G most).one.getD s []=(Zbz G most).one[s] by rw[List.getD_eq_getElem?_getD,hr];rfl,List.getD_eq_getElem?_getD,h2]
 rfl
theorem sink_retI (hl:(Zbz G most).large=false){s i j:Nat}(hs:(Zbz G most).L[s]?=some [])(hi:i<(Zbz G most).L.length)(hj:j<(Zbz G most).L.length)(hij:i=s∨j=s){c t:Nat}(hc:c<G.f0.length)(ht:t<G.f0.length)(kc:(Zqd G c).f1=1)(kt:(Zqd G t).f1=2):retI G (Zbz G most) i j c t=s:=by
 have ha:=tab_at2 hl;unfold retI;rw[if_pos ⟨may_of hi (by omega) (.inl ⟨by omega,kt⟩),may_of hj (by omega) (.inl ⟨by omega,kc⟩)⟩,Int.toNat_natCast,Int.toNat_natCast];obtain⟨k,hk⟩:=ha.rets i j hi hj c (mem_toks hc kc) t (mem_toks ht kt);cases e:(Zbz G most).ret.find? fun e=>e.1==(i,j,(c:Int),(t:Int))with
 | none=>
  have:=List.find?_eq_none.1 e _ hk
  simp at this
 | some x=>
  have h1:=List.mem_of_find?_eq_some e
  have h2:=List.find?_some e
  simp only[beq_iff_eq]at h2;obtain⟨x1,x2⟩:=x;simp only at h2;subst h2;exact PDet.sink_ret ha normP_nil hs h1 hij
theorem sink_one (hl:(Zbz G most).large=false){a b:Nat}(h1:(Zbz G most).L[a]?=some [])(h2:(Zbz G most).L[b]?=some []):a=b:=PDet.uniq (tab_at2 hl).good.nodup h1 h2
end
theorem startK_rise (D:Nat)(G:S26)(n:Nat)(h1:∀i:Nat,i<n→1≤(Zcq G i).f2.length):∀k,k≤n→(Zeu (Zbl D G n).mach k).Pairwise (·<·)∧∀x∈Zeu (Zbl D G n).mach k,x<((buildN D G k:Nat):Int)
 | 0,_=>⟨List.Pairwise.nil,fun x hx=>by cases hx⟩
 | k+1,hk=>by
  obtain⟨a1,a2⟩:=startK_rise D G n h1 k (by omega);have e:=start_place (D:=D) (show k<n by omega) (h1 k (by omega));have hr:=buildN_rises D G k (h1 k (by omega));refine⟨List.pairwise_append.2 ⟨a1,List.pairwise_singleton _ _,fun x hx y hy=>?_⟩,fun x hx=>?_⟩
  ·rw[List.mem_singleton.1 hy,e];exact a2 x hx
  ·rcases List.mem_append.1 hx with hx | hx
   ·have:=a2 x hx;omega
   ·rw[List.mem_singleton.1 hx,e];omega
theorem start_facts {N:Nat}{G:S26}(h:MakeOk N G):(vOf G).start.Pairwise (·<·)∧(vOf G).start.length=G.f1.length:=by
 have hn:=(Zpx 9 G G.f1.length).n2;have h1:∀k:Nat,k<G.f1.length→1≤(Zcq G k).f2.length:=fun k hk=>by
  have:=h.gram.rules k hk;rw[←Zhs]at this;exact this.one
 have hs:=(startK_rise 9 G G.f1.length h1 G.f1.length (Nat.le_refl _)).1;have e:(vOf G).start=Zeu (Zbl 9 G G.f1.length).mach G.f1.length:=by
  show Zeu (Zbl 9 G G.f1.length).mach (Zbl 9 G G.f1.length).frees.length=_;rw[hn]
 rw[e];exact⟨hs,Zhe _ _⟩
theorem first_pairs {N:Nat}{G:S26}(h:MakeOk N G)(most:Nat):0<(Zbz G most).L.length∧((Zbz G most).L.getD 0 []).length=G.f1.length:=by
 have h1:=PDet.table_first (V:=vOf G) (nm:=normP) (most:=most) (most+2);have h2:(Zbz G most).L[0]?=some (normP ((vOf G).start.map fun p=>(p,p))):=h1;obtain⟨h3,h4⟩:=start_facts h;refine⟨(List.getElem?_eq_some_iff.1 h2).1,?_⟩;rw[List.getD_eq_getElem?_getD,h2];show (normP _).length=_;rw[normP_diag h3,List.length_map,h4]
theorem no_rules {N:Nat}{G:S26}(h:MakeOk N G)(most:Nat)(h0:G.f1.length=0):(Zbz G most).L.length=1:=by
 have h2:=(start_facts h).2;have e:(vOf G).start=[]:=List.length_eq_zero_iff.1 (by rw[h2];exact h0);have:(Zbz G most).L=[[]]:=PDet.table_nil normP_nil e _;rw[this]
 rfl
end Go.Proofs.YtaokkliamoghbaaGreatDoor.PVpa
set_option linter.unusedVariables false
namespace Go.Proofs.YtaokkliamoghbaaGreatDoor.PVpa
open Go.RowKit Go.Proofs.YtaokkliamoghbaaGreatDoorW.PrintWords Go.Proofs.YtaokkliamoghbaaGreatDoorW.PrintLast Go.Proofs.YtaokkliamoghbaaGreatDoorW.PrintMore
theorem getD_nil {α:Type}{L:List (List α)}{k:Nat}(h:k<L.length)(e:(L.getD k []).length=0):L[k]?=some []:=by
 rw[List.getD_eq_getElem?_getD,List.getElem?_eq_getElem h]at e;rw[List.getElem?_eq_getElem h]
 congr 1
 exact List.length_eq_zero_iff.1 e
theorem getD_not {α:Type}{L:List (List α)}{k:Nat}(e:¬(L.getD k []).length=0):L[k]?≠some []:=fun h=>e (by
 rw[List.getD_eq_getElem?_getD,h]
 rfl)
set_option maxHeartbeats 8000000 in
theorem sinks_lawH (w:World)(ho:Own w)(ht:TabW w)(A:Option Addr)(cl:Nat)(l:List (List Int))
 (hmk:Calls Tryz.prog 10 #[.slice A l.length cl] w fun e w'=>∃G At Ar ct cr,e=.returned (.agg #[.slice At G.f0.length ct,.slice Ar G.f1.length cr])∧MakeOk l.length G∧GramR w' G At Ar ct cr∧Below w.heap.size w w')
 (htl:∀W,Own W→TabW W→Calls Tryz.prog 12 #[] W fun e w'=>e=.returned (.bool true)∧Below W.heap.size W w') :
 Calls Tryz.prog 4 #[.slice A l.length cl] w fun e w'=>e=.returned (.bool true)∧Below w.heap.size w w':=by
 have HO:=Zrw.mk ho;have HT:=Zrw.mk ht;have HMK:=Zrw.mk hmk;have HTL:=Zrw.mk htl;clear ho ht hmk htl
 go_enter Tryz.func4,Tryz.ntmps4
 go_upto_region 2 with (go_at_call 10;(with_reducible refine HMK.out.mono ?_);rintro e w1 ⟨G,At,Ar,ct,cr,rfl,hm,hg,hb1⟩;have HM:=Zrw.mk hm;have HG:=Zrw.mk hg;have HB1:=Zrw.mk hb1;clear hm hg hb1)
 have hbx:=Zab (Below.refl _ w1) (.cells #[.slice At G.f0.length ct,.slice Ar G.f1.length cr] 26);have hkx:=Zaj w1 (.cells #[.slice At G.f0.length ct,.slice Ar G.f1.length cr] 26);generalize w1.alloc (.cells #[.slice At G.f0.length ct,.slice Ar G.f1.length cr] 26)=X at *;obtain⟨g1,hg1⟩:∃g1,g1=w1.heap.size:=⟨_,rfl⟩
 rw[←hg1]at hkx ⊢;have HBX:=Zrw.mk (Zae HB1.out hbx);have HGX:=Zrw.mk (HG.out.below hbx);have HKX:=Zrw.mk hkx;clear hbx hkx hg1;have q0:=(Zaa HKX.out 0).trans rfl;have q1:=(Zaa HKX.out 1).trans rfl;have HX:Zrw (Calls Tryz.prog 11 #[.agg #[.slice At G.f0.length ct,.slice Ar G.f1.length cr],.int .i64 40] X (BuildD X G 40)):=⟨Zgn X At Ar ct cr G HGX.out HM.out.gramD (HO.out.below HBX.out) (tab_at HT.out HBX.out) 40 (by decide) (by decide)⟩
 have HTOLD:Zrw (∀W,Below X.heap.size X W→Calls Tryz.prog 12 #[] W fun e w'=>e=.returned (.bool true)∧Below W.heap.size W w'):=⟨fun W hb=>HTL.out W (HO.out.below (Zae HBX.out hb)) (tab_at HT.out (Zae HBX.out hb))⟩
 cases hlg:(Zbz G 40).large with
 | true=>
  have HLG:=Zrw.mk hlg;clear hlg
  go_upto_region 3 with (go_at_call 11;(with_reducible refine HX.out.mono ?_);rintro e w2 hB;obtain⟨rfl,hb2⟩:=hB.bad HLG.out;have HB2:=Zrw.mk hb2;clear hB hb2)
  clear q0 q1
  go_wp2_with (go_at_call 12;(with_reducible refine (HTOLD.out _ HB2.out).mono ?_);rintro e w7 ⟨rfl,hb⟩;have HB3:=Zrw.mk (Zae HB2.out hb);clear hb)
  go_ret
  exact⟨rfl,Zae HBX.out HB3.out⟩
 | false=>
  have HLG:=Zrw.mk hlg;clear hlg
  go_upto_region 3 with (go_at_call 11;(with_reducible refine HX.out.mono ?_);rintro e w2 hB;obtain⟨gd,rfl,hd2,hb2⟩:=hB.good HLG.out;have HD2:=Zrw.mk hd2;have HB2:=Zrw.mk hb2;clear hB hd2 hb2)
  have KX:=Zrw.mk (Zaf HKX.out HB2.out);clear q0 q1 HX;obtain⟨n,hn⟩:∃n,n=(Zbz G 40).L.length:=⟨_,rfl⟩
  have HN:=Zrw.mk hn;clear hn;have HN40:Zrw (n≤40):=⟨by rw[HN.out];exact tab_len G (by decide) HLG.out⟩
  have HL:Zrw (∀W,Below w2.heap.size w2 W→Calls Tryz.prog 13 #[.pointer (some ⟨gd,0,none⟩)] W fun e w'=>e=.returned (.int .i64 n)∧w'=W):=⟨fun W hb=>by rw[HN.out];exact (HD2.out.below hb).len⟩
  have HP:Zrw (∀(k:Nat) W,k<n→Below w2.heap.size w2 W→Calls Tryz.prog 14 #[.pointer (some ⟨gd,0,none⟩),.int .i64 k] W fun e w'=>∃A' c',e=.returned (.slice A' ((Zbz G 40).L.getD k []).length c')∧Below W.heap.size W w'):=⟨fun k W hk hb=>(HD2.out.below hb).pairs k (by rw[←HN.out];exact hk)⟩
  have T4:=Zrw.mk HM.out.toks4;go_wp2
  go_loopw [6,7] (fun s6 s7 wr=>∃(k cnt:Nat),k≤n∧s6=.int .i64 cnt∧s7=.int .i64 k∧Zrw (Below w2.heap.size w2 wr∧((cnt=0∧∀a,a<k→(Zbz G 40).L[a]?≠some [])∨(cnt=1∧∃a,a<k∧(Zbz G 40).L[a]?=some [])))) (fun _ s7 _=>n-(intOf s7).toNat)
  case atStart=>exact⟨0,0,by omega,rfl,rfl,⟨Zbr,.inl ⟨rfl,fun a h=>by omega⟩⟩⟩
  case round=>
   obtain⟨k,cnt,hkl,rfl,rfl,HS⟩:=hrel;have HLW:=Zrw.mk (HL.out wr HS.out.1);by_cases hkn:k<n
   ·have d1:decide (k<n)=true:=decide_eq_true hkn;have hkL:k<(Zbz G 40).L.length:=by rw[←HN.out];exact hkn
    have HPW:=Zrw.mk (HP.out k wr hkn HS.out.1);have hwk:=Zej hkn (Nat.le_trans HN40.out (by decide));have HKN:=Zrw.mk hkn;by_cases he:((Zbz G 40).L.getD k []).length=0
    ·have hs:=getD_nil hkL he;have hc0:cnt=0:=by
      rcases HS.out.2 with⟨h,_⟩ | ⟨_,a,ha,h⟩
      ·exact h
      ·have:=sink_one HLG.out h hs;omega
     subst hc0;rw[he]at HPW;have HSK:=Zrw.mk hs;have HI1:Zrw (∀W,Below w2.heap.size w2 W→Calls Tryz.prog 15 #[.pointer (some ⟨gd,0,none⟩),.int .i64 k,.int .i64 (-1)] W fun e w'=>e=.returned (.int .i64 k)∧w'=W):=⟨fun W hb=>((HD2.out.below hb).int HLG.out k (-1)).mono (fun e w' h=>by rw[sink_told HLG.out HSK.out (by omega) (.inr ⟨rfl,rfl⟩)]at h;exact h)⟩
     have HI2:Zrw (∀W,Below w2.heap.size w2 W→Calls Tryz.prog 15 #[.pointer (some ⟨gd,0,none⟩),.int .i64 k,.int .i64 0] W fun e w'=>e=.returned (.int .i64 k)∧w'=W):=⟨fun W hb=>((HD2.out.below hb).int HLG.out k 0).mono (fun e w' h=>by rw[sink_told HLG.out HSK.out (by have:=T4.out.len;omega) (.inl ⟨by decide,T4.out.t0⟩)]at h;exact h)⟩
     have HC:Zrw (∀W,Below w2.heap.size w2 W→Calls Tryz.prog 16 #[.pointer (some ⟨gd,0,none⟩),.int .i64 k,.int .i64 2] W fun e w'=>e=.returned (.int .i64 k)∧w'=W):=⟨fun W hb=>((HD2.out.below hb).call HLG.out k 2).mono (fun e w' h=>by rw[sink_told HLG.out HSK.out (by have:=T4.out.len;omega) (.inl ⟨by decide,T4.out.t2⟩)]at h;exact h)⟩
     have HBO:Zrw (∀W,Below w2.heap.size w2 W→Calls Tryz.prog 17 #[.pointer (some ⟨gd,0,none⟩),.int .i64 k,.int .i64 3] W fun e w'=>e=.returned (.int .i64 k)∧w'=W):=⟨fun W hb=>((HD2.out.below hb).bottom HLG.out k 3).mono (fun e w' h=>by rw[sink_told HLG.out HSK.out (by have:=T4.out.len;omega) (.inl ⟨by decide,T4.out.t3⟩)]at h;exact h)⟩
     have HR1:Zrw (∀W,Below w2.heap.size w2 W→Calls Tryz.prog 18 #[.pointer (some ⟨gd,0,none⟩),.int .i64 k,.int .i64 0,.int .i64 2,.int .i64 3] W fun e w'=>e=.returned (.int .i64 k)∧w'=W):=⟨fun W hb=>((HD2.out.below hb).ret (by decide) HLG.out k ((0:Nat):Int) ((2:Nat):Int) ((3:Nat):Int)).mono (fun e w' h=>by rw[sink_retI (i:=k) (j:=0) (c:=2) (t:=3) HLG.out HSK.out hkL (by omega) (.inl rfl) (by have:=T4.out.len;omega) (by have:=T4.out.len;omega) T4.out.t2 T4.out.t3]at h;exact h)⟩
     have HR2:Zrw (∀W,Below w2.heap.size w2 W→Calls Tryz.prog 18 #[.pointer (some ⟨gd,0,none⟩),.int .i64 0,.int .i64 k,.int .i64 2,.int .i64 3] W fun e w'=>e=.returned (.int .i64 k)∧w'=W):=⟨fun W hb=>((HD2.out.below hb).ret (by decide) HLG.out ((0:Nat):Int) k ((2:Nat):Int) ((3:Nat):Int)).mono (fun e w' h=>by rw[sink_retI (i:=0) (j:=k) (c:=2) (t:=3) HLG.out HSK.out (by omega) hkL (.inr rfl) (by have:=T4.out.len;omega) (by have:=T4.out.len;omega) T4.out.t2 T4.out.t3]at h;exact h)⟩
     have HRU:Zrw (∀W,Below w2.heap.size w2 W→Calls Tryz.prog 19 #[.pointer (some ⟨gd,0,none⟩),.int .i64 k] W fun e w'=>e=.returned (.int .i64 (-1))∧Below W.heap.size W w'):=⟨fun W hb=>((HD2.out.below hb).rule k hkL).mono (fun e w' h=>by
      rw[List.getD_eq_getElem?_getD,HSK.out]at h;exact h)⟩
     have HB6C:=Zrw.mk HS.out.1;clear he hs hkL HS
     go_wp2_with (first
      | (go_at_call 13;(with_reducible refine HLW.out.mono ?_);rintro e w7 ⟨rfl,hw⟩;obtain rfl:=hw.symm)
      | (go_at_call 14;(with_reducible refine HPW.out.mono ?_);rintro e w7 ⟨aS,ks,rfl,hb⟩;have HB6C:=Zrw.mk (Zae HB6C.out hb);clear hb)
      | (go_at_call 15;first
       | ((with_reducible refine (HI1.out _ HB6C.out).mono ?_);rintro e w7 ⟨rfl,hw⟩;obtain rfl:=hw.symm)
       | ((with_reducible refine (HI2.out _ HB6C.out).mono ?_);rintro e w7 ⟨rfl,hw⟩;obtain rfl:=hw.symm))
      | (go_at_call 16;(with_reducible refine (HC.out _ HB6C.out).mono ?_);rintro e w7 ⟨rfl,hw⟩;obtain rfl:=hw.symm)
      | (go_at_call 17;(with_reducible refine (HBO.out _ HB6C.out).mono ?_);rintro e w7 ⟨rfl,hw⟩;obtain rfl:=hw.symm)
      | (go_at_call 18;first
       | ((with_reducible refine (HR1.out _ HB6C.out).mono ?_);rintro e w7 ⟨rfl,hw⟩;obtain rfl:=hw.symm)
       | ((with_reducible refine (HR2.out _ HB6C.out).mono ?_);rintro e w7 ⟨rfl,hw⟩;obtain rfl:=hw.symm))
      | (go_at_call 19;(with_reducible refine (HRU.out _ HB6C.out).mono ?_);rintro e w7 ⟨rfl,hb⟩;have HB6C:=Zrw.mk (Zae HB6C.out hb);clear hb))
     go_roundw
     case rel=>exact⟨k+1,1,HKN.out,rfl,by rw[hwk],⟨HB6C.out,.inr ⟨rfl,k,by omega,HSK.out⟩⟩⟩
     case measure=>rw[hwk];simp only[intOf];exact Zds HKN.out
    ·obtain⟨m,hm⟩:∃m,m=((Zbz G 40).L.getD k []).length:=⟨_,rfl⟩
     rw[←hm]at HPW;have d2:decide (0<m)=true:=decide_eq_true (by omega);have d3:decide ((0:Int)<(m:Int))=true:=decide_eq_true (by omega);have HNE:=Zrw.mk (getD_not he);clear he hm
     go_wp2_with (first
      | (go_at_call 13;(with_reducible refine HLW.out.mono ?_);rintro e w7 ⟨rfl,hw⟩;obtain rfl:=hw.symm)
      | (go_at_call 14;(with_reducible refine HPW.out.mono ?_);rintro e w7 ⟨aS,ks,rfl,hb⟩;have HB6C:=Zrw.mk (Zae HS.out.1 hb);clear hb))
     go_roundw
     case rel=>exact⟨k+1,cnt,HKN.out,rfl,by rw[hwk],⟨HB6C.out,by
      rcases HS.out.2 with⟨h,h2⟩ | ⟨h,a,ha,h2⟩
      ·exact .inl ⟨h,fun a ha=>by
        by_cases e:a=k
        ·rw[e];exact HNE.out
        ·exact h2 a (by omega)⟩
      ·exact .inr ⟨h,a,by omega,h2⟩⟩⟩
     case measure=>rw[hwk];simp only[intOf];exact Zds HKN.out
   ·have hke:k=n:=by omega
    subst hke;have hd:decide (k<k)=false:=decide_eq_false (by omega);have HCN:Zrw (cnt≤1):=⟨by rcases HS.out.2 with⟨h,_⟩ | ⟨h,_⟩ <;> omega⟩
    go_wp2_with (go_at_call 13;(with_reducible refine HLW.out.mono ?_);rintro e w7 ⟨rfl,hw⟩;obtain rfl:=hw.symm)
    clear HLW hd;have HBX2:Zrw (Below X.heap.size X wr):=⟨Zae HB2.out HS.out.1⟩
    have HFP:=Zrw.mk (first_pairs HM.out 40);have HNR:=Zrw.mk (no_rules HM.out 40);have KR:=Zrw.mk (Zaf KX.out HS.out.1);obtain⟨nr,hnr⟩:∃nr,nr=G.f1.length:=⟨_,rfl⟩
    have HNRR:=Zrw.mk hnr;have HP0:Zrw (∀W,Below w2.heap.size w2 W→Calls Tryz.prog 14 #[.pointer (some ⟨gd,0,none⟩),.int .i64 0] W fun e w'=>∃A' c',e=.returned (.slice A' nr c')∧Below W.heap.size W w'):=⟨fun W hb=>(HP.out 0 W (by rw[HN.out];exact HFP.out.1) hb).mono (fun e w' h=>by rw[HFP.out.2,←HNRR.out]at h;exact h)⟩
    have HBW2:=Zrw.mk HS.out.1;have d1:decide (cnt≤1)=true:=decide_eq_true HCN.out;have d2:decide ((cnt:Int)≤1)=true:=decide_eq_true (by have:=HCN.out;omega);have y1:∀m,(wr.drewN m).cell? ⟨g1,1,none⟩=some (.slice Ar nr cr):=fun m=>by rw[HNRR.out];exact (Zaa KR.out 1).trans rfl
    rw[←hnr];clear hnr HS HP;by_cases hr0:nr=0
    ·have hk1:k=1:=by rw[HN.out];exact HNR.out (by rw[←HNRR.out];exact hr0)
     have d3:decide (0<nr)=false:=decide_eq_false (by omega);have d4:decide ((0:Int)<(nr:Int))=false:=decide_eq_false (by omega);subst hk1;clear hr0;refine Zcw ?_
     first | (go_region_law (first
      | (go_simp;go_at_call 12;(with_reducible refine (HTOLD.out _ (Zae HBX2.out (by repeat (first | exact Zbr | refine Zag ?_ _ | refine Zdm ?_ | refine Zao ?_)))).mono ?_);rintro e w7 ⟨rfl,hb⟩;have HB7:=Zrw.mk (Zae (w:=wr) (by repeat (first | exact Zbr | refine Zag ?_ _ | refine Zdm ?_ | refine Zao ?_)) hb);have y7:w7.cell? ⟨g1,1,none⟩=some (.slice Ar nr cr):=Zad HB7.out (y1 0);clear hb)
      | (go_simp;go_at_call 14;(with_reducible refine (HP0.out _ (Zae HBW2.out HB7.out)).mono ?_);rintro e w8 ⟨aS,ks,rfl,hb⟩;have HB8:=Zrw.mk (Zae HB7.out hb);have y8:w8.cell? ⟨g1,1,none⟩=some (.slice Ar nr cr):=Zad HB8.out (y1 0);clear hb)
      | (go_simp;go_at_call 13;(with_reducible refine (HL.out _ (Zae HBW2.out HB8.out)).mono ?_);rintro e w9 ⟨rfl,hw⟩;obtain rfl:=hw.symm)
      | fail)) | fail
     all_goals (
      go_simp;go_wp2
      go_ret
      exact⟨rfl,Zae HBX.out (Zae HBX2.out HB8.out)⟩)
    ·have d3:decide (0<nr)=true:=decide_eq_true (by omega);have d4:decide ((0:Int)<(nr:Int))=true:=decide_eq_true (by omega);clear hr0;refine Zcw ?_
     first | (go_region_law (first
      | (go_simp;go_at_call 12;(with_reducible refine (HTOLD.out _ (Zae HBX2.out (by repeat (first | exact Zbr | refine Zag ?_ _ | refine Zdm ?_ | refine Zao ?_)))).mono ?_);rintro e w7 ⟨rfl,hb⟩;have HB7:=Zrw.mk (Zae (w:=wr) (by repeat (first | exact Zbr | refine Zag ?_ _ | refine Zdm ?_ | refine Zao ?_)) hb);have y7:w7.cell? ⟨g1,1,none⟩=some (.slice Ar nr cr):=Zad HB7.out (y1 0);clear hb)
      | (go_simp;go_at_call 14;(with_reducible refine (HP0.out _ (Zae HBW2.out HB7.out)).mono ?_);rintro e w8 ⟨aS,ks,rfl,hb⟩;have HB8:=Zrw.mk (Zae HB7.out hb);have y8:w8.cell? ⟨g1,1,none⟩=some (.slice Ar nr cr):=Zad HB8.out (y1 0);clear hb)
      | (go_simp;go_at_call 13;(with_reducible refine (HL.out _ (Zae HBW2.out HB8.out)).mono ?_);rintro e w9 ⟨rfl,hw⟩;obtain rfl:=hw.symm)
      | fail)) | fail
     all_goals (
      go_simp;go_wp2
      go_ret
      exact⟨rfl,Zae HBX.out (Zae HBX2.out HB8.out)⟩)
end Go.Proofs.YtaokkliamoghbaaGreatDoor.PVpa
