/- Joined from texts of this seat, in their order. -/
import Derived.Test.YtpagbjdmiepgmaaGreatDoorJAj
import Derived.Test.YtpagbjdmiepgmaaGreatDoorJAg
import Derived.Test.YtpagbjdmiepgmaaGreatDoorJAk
import Derived.Test.YtpagbjdmiepgmaaGreatDoorJAl
import Derived.Test.YtpagbjdmiepgmaaGreatDoorJAa
set_option linter.unusedVariables false
set_option linter.unusedSimpArgs false
set_option linter.unusedSectionVars false
set_option maxRecDepth 100000
namespace Go.Proofs.YtpagbjdmiepgmaaGreatDoor.PVpa
open Go.RowKit Go.Proofs.YtpagbjdmiepgmaaGreatDoorW.PrintWords Go.Proofs.YtpagbjdmiepgmaaGreatDoorW.PrintLast Go.Proofs.YtpagbjdmiepgmaaGreatDoorW.PrintMore
theorem frees_at (D:Nat)(G:S26)(i:Nat):∀n,i<n→(Zaw D G n).frees.getD i 0=Zhq (Zbm G i) (Zaw D G i).st
 | 0,h=>by omega
 | n+1,h=>by
  show ((Zaw D G n).frees++[Zhq (Zbm G n) (Zaw D G n).st]).getD i 0=_;rw[Zjn];have hn:=(Zky D G n).n2;by_cases e:i=n
  ·rw[if_pos (by omega),e]
  ·rw[if_neg (by omega)];exact frees_at D G i n (by omega)
theorem steps_at (D:Nat)(G:S26)(i:Nat):∀n,i<n→(Zaw D G n).steps.getD i []=(Zaz D i (Zbm G i) (Zcq i (Zbm G i) (Zaw D G i).st) (Zbm G i).f2.length).2
 | 0,h=>by omega
 | n+1,h=>by
  show ((Zaw D G n).steps++[(Zaz D n (Zbm G n) (Zcq n (Zbm G n) (Zaw D G n).st) (Zbm G n).f2.length).2]).getD i []=_;rw[Zjn];have hn:=(Zky D G n).n1;by_cases e:i=n
  ·rw[if_pos (by omega),e]
  ·rw[if_neg (by omega)];exact steps_at D G i n (by omega)
theorem Zkj (D:Nat)(i:Int)(r:S52)(s:St):∀k,1≤k→(Zaz D i r s k).2.getD 0 0=s.pl.length
 | 0,h=>by omega
 | k+1,_=>by
  show ((Zaz D i r s k).2++[(Zaz D i r s k).1.pl.length]).getD 0 0=_;rw[Zjn];have hl:=Zjw D i r s k;by_cases e:k=0
  ·subst e;rfl
  ·rw[if_neg (by omega)];exact Zkj D i r s k (by omega)
variable {D n i:Nat}{G:S26}
theorem headD_getD (l:List Nat):l.headD 0=l.getD 0 0:=by cases l <;> rfl
theorem steps_head (hi:i<n)(h1:1≤(Zbm G i).f2.length)(hf:(Zbm G i).f1=false):((Zaw D G n).steps.getD i []).headD 0=buildN D G i:=by
 rw[headD_getD,steps_at D G i n hi,Zkj D i (Zbm G i) _ _ h1,←(Zcy D G i).2];unfold Zcq;rw[if_neg (by rw[hf];decide)]
theorem Zsq (hi:i<n)(h1:1≤(Zbm G i).f2.length):Zhf (Zaw D G n).mach i=buildN D G i:=by
 unfold Zhf;have hr:rd (Zaw D G n).mach.frees (i:Int)=Zhq (Zbm G i) (Zaw D G i).st:=by
  unfold rd;rw[Int.toNat_natCast];exact frees_at D G i n hi
 rw[hr];cases hf:(Zbm G i).f1 with
 | true=>
  have e:Zhq (Zbm G i) (Zaw D G i).st=(Zaw D G i).st.pl.length:=by unfold Zhq;rw[if_pos hf]
  rw[e,if_neg (by omega),(Zcy D G i).2]
 | false=>
  have e:Zhq (Zbm G i) (Zaw D G i).st=-1:=by unfold Zhq;rw[if_neg (by rw[hf];decide)]
  rw[e,if_pos (by decide)];show (((((Zaw D G n).steps.getD i []).headD 0:Nat)):Int)=_;rw[steps_head hi h1 hf]
theorem Zny (D:Nat)(G:S26)(n:Nat)(h1:∀i:Nat,i<n→1≤(Zbm G i).f2.length):∀k,k≤n→Zgc (Zaw D G n).mach k=Zdi D G k
 | 0,_=>rfl
 | k+1,hk=>by
  have ih:=Zny D G n h1 k (by omega);show Zgc (Zaw D G n).mach k++[Zhf (Zaw D G n).mach k]=Zdi D G k++[((Zaw D G k).st.pl.length:Int)]
  rw[ih,Zsq (show k<n by omega) (h1 k (by omega)),(Zcy D G k).2]
theorem starts_eq (D:Nat)(G:S26)(n:Nat)(h1:∀i:Nat,i<n→1≤(Zbm G i).f2.length):startL (Zaw D G n).mach=Zdi D G n:=by
 show Zgc (Zaw D G n).mach (Zaw D G n).frees.length=_;rw[(Zky D G n).n2];exact Zny D G n h1 n (Nat.le_refl _)
theorem items_ok {M:Mach}{φ:Nat→Nat}{its:List S94}(ok:M.Ok φ)(hr:Rel ⟨M.pl,M.sh⟩ its)(hg:Good ⟨M.pl,M.sh⟩)(hl:M.pl.length≤90000):ItsOk its:=by
 have e:its.length=M.pl.length:=hr.len;refine⟨by omega,fun p _ _=>hr.nx hg p.toNat,fun p h0 h1=>?_⟩;have h2:(Zak its p).f1=(Zbe M.pl p).p:=(hr.at_ p.toNat (by show p.toNat<M.pl.length;omega)).p;have h3:=ok.follow p h0 (by omega);rw[h2];exact⟨h3.2.1,h3.2.2.1⟩
def kP:Kd (Int × Int):=Kd.pair (Kd.int .i64) (Kd.int .i64)
theorem at_P {w:World}{A:Option Addr}{n:Nat}{xs:List (Int × Int)}(h:kP.C w A n xs)(i:Int)(h0:0≤i)(h1:i<n):∃ad,A=some ad∧w.cell? (ad.add (i.toNat*2))=some (.int .i64 (rdP xs i.toNat).1)∧w.cell? ⟨(ad.add (i.toNat*2)).block,(ad.add (i.toNat*2)).off+1,none⟩=some (.int .i64 (rdP xs i.toNat).2):=by
 obtain⟨ad,c,e,_,hK,hc0⟩:=Kd.C_get h (0,0) i h0 h1;have hc:∀j u,c[j]?=some u→w.cell? (ad.add (i.toNat*2+j))=some u:=hc0;obtain⟨_,_,rfl,rfl,rfl⟩:=hK;exact⟨ad,e,hc 0 _ rfl,by rw[←Zbb _ _ 1 (by omega)];exact hc 1 _ rfl⟩
theorem kP_mk (w:World)(base:Nat)(ok:Nat→Prop)(x:Int × Int):kP.M w base ok x [.int .i64 x.1,.int .i64 x.2]:=⟨[.int .i64 x.1],[.int .i64 x.2],rfl,rfl,rfl⟩
theorem kP_of (w:World)(base:Nat)(ok:Nat→Prop)(x:Int × Int)(cs:List Value)(h:kP.K w x cs):kP.M w base ok x cs:=by
 obtain⟨c0,c1,rfl,h0,h1⟩:=h;exact⟨c0,c1,rfl,h0,h1⟩
theorem insP_at {x:Int × Int}{l:List (Int × Int)}{k:Nat}(hk:k=Zni x l)(h:k<l.length)(he:rdP l k=x):Zoj x l=l:=by
 subst hk;unfold Zoj;rw[if_pos ⟨h,he⟩]
theorem insP_new {x:Int × Int}{l:List (Int × Int)}{k:Nat}(hk:k=Zni x l)(h:¬(k<l.length∧rdP l k=x)):Zoj x l=l.take k++[x]++l.drop k:=by
 subst hk;unfold Zoj;rw[if_neg h]
theorem ltP_false {x:Int × Int}{a b:Int}(h:ltP x (a,b)=false):¬x.1<a∧¬(x.1=a∧x.2<b):=by
 have h2:¬ltP x (a,b)=true:=by rw[h];decide
 rw[Zit]at h2;exact⟨fun h3=>h2 (.inl h3),fun h3=>h2 (.inr h3)⟩
set_option maxHeartbeats 4000000 in
theorem Zmb (w:World)(base:Nat)(v:Value)(l:List (Int × Int))(a b:Int)(h:kP.R 53 w base (fun _=>True) v l)(hb:base≤w.heap.size)(hl:l.length≤1000000) :
 Calls Tryz.prog 51 #[v,.int .i64 a,.int .i64 b] w fun e w'=>∃v',e=.returned v'∧kP.R 53 w' base (fun _=>True) v' (Zoj (a,b) l)∧Below w.heap.size w w':=by
 have HO:=Zaa.mk h;have HLL:=Zaa.mk hl;have HBS:=Zaa.mk hb;have HP:=Zaa.mk (Ztc (a,b) l);obtain⟨A,c,rfl,hc,hC⟩:=Kd.R_reads h;have HN:=Zaa.mk hc;have HCE:Zaa (∀j:Nat,j<l.length→∃ad,A=some ad∧w.cell? (ad.add (j*2))=some (.int .i64 (rdP l j).1)∧w.cell? ⟨(ad.add (j*2)).block,(ad.add (j*2)).off+1,none⟩=some (.int .i64 (rdP l j).2)):=⟨fun j hj=>by
  have h1:=at_P hC (j:Int) (by omega) (by omega);rw[Int.toNat_natCast]at h1;exact h1⟩
 have HC:=Zaa.mk hC;have hg:=Zua;clear h hl hb hc hC
 go_enter Tryz.func51,Tryz.ntmps51
 go_wp2
 go_loopw [7] (fun s7 wr=>∃k:Nat,k≤Zni (a,b) l∧s7=.int .i64 k∧wr=w) (fun s7 _=>l.length-(intOf s7).toNat)
 case atStart=>exact⟨0,Nat.zero_le _,rfl,rfl⟩
 case round=>
  obtain⟨k,hk,rfl,hw⟩:=hrel;obtain rfl:=hw.symm;by_cases hkp:k<Zni (a,b) l
  ·have hkl:k<l.length:=Nat.lt_of_lt_of_le hkp HP.out;obtain⟨ad,rfl,y0,y1⟩:=HCE.out k hkl;have hlt:=(Zit _ _).1 (posP_lt (a,b) l k hkp);have HK:=Zaa.mk hkp;have HKL:=Zaa.mk hkl;simp only at hlt;clear hk hkp;generalize (rdP l k).1=u0 at y0 hlt;generalize (rdP l k).2=u1 at y1 hlt;cases h0:(decide (u0<a))with
   | true=>
    clear hlt;go_wp2
    go_roundw
    case rel=>exact⟨k+1,HK.out,by rw[Zbz k (by have:=HKL.out;have:=HLL.out;omega)],by trivial⟩
    case measure=>exact Zcc l.length k HKL.out (by have:=HLL.out;omega)
   | false=>
    have h1:(u0==a)=true:=by have:=of_decide_eq_false h0;rcases hlt with h | h;exact absurd h this;simpa using h.1
    have h2:decide (u1<b)=true:=by have:=of_decide_eq_false h0;rcases hlt with h | h;exact absurd h this;exact decide_eq_true h.2
    clear hlt;go_wp2
    go_roundw
    case rel=>exact⟨k+1,HK.out,by rw[Zbz k (by have:=HKL.out;have:=HLL.out;omega)],by trivial⟩
    case measure=>exact Zcc l.length k HKL.out (by have:=HLL.out;omega)
  ·obtain⟨pk,hpk⟩:∃pk,pk=Zni (a,b) l:=⟨_,rfl⟩
   obtain rfl:k=pk:=by omega
   rename Nat=>pk
   have HPL:Zaa (pk≤l.length):=⟨by rw[hpk];exact HP.out⟩
   obtain⟨i0,hi0,_,hsz0,_⟩:=info_parts Zha;have hcut1:=cut_to (P:=Tryz.prog) 42 53 .i64 Tryz.underlying42 hi0 A l.length c (pk:Int) (by omega) (by have:=HPL.out;omega) HN.out;have hcut2:=cut_from (P:=Tryz.prog) 42 53 .i64 Tryz.underlying42 hi0 2 hsz0 A l.length c (pk:Int) (by omega) (by have:=HPL.out;omega);rw[Int.toNat_natCast]at hcut1 hcut2;obtain⟨A64,hA64⟩:∃A64,A64=(if c=pk then A else A.map (·.add (pk*2))):=⟨_,rfl⟩
   rw[←hA64]at hcut2;have HT:Zaa (kP.C w A pk (l.take pk)):=⟨by have h:=Kd.C_take (m:=pk) HC.out HPL.out;rw[show (l.take pk).length=pk from by rw[List.length_take];have:=HPL.out;omega]at h;exact h⟩
   have HD:Zaa (kP.C w A64 (l.length-pk) (l.drop pk)):=⟨by have h:=Kd.C_drop (m:=pk) HC.out HPL.out HN.out;rw[List.length_drop]at h;rw[hA64];exact h⟩
   clear hA64 hi0 hsz0 hk hkp;by_cases hpl:pk<l.length
   ·obtain⟨ad,rfl,y0,y1⟩:=HCE.out pk hpl;have hge:=ltP_false (by rw[hpk];exact posP_ge (a,b) l (by rw[←hpk];exact hpl):ltP (rdP l pk) (a,b)=false);have ee:=Zuc (rdP l pk).1 (rdP l pk).2 a b;have HAT:Zaa ((rdP l pk).1=a→(rdP l pk).2=b→Zoj (a,b) l=l):=⟨fun h1 h2=>insP_at hpk hpl (Prod.ext h1 h2)⟩
    have HNW:Zaa (¬((rdP l pk).1=a∧(rdP l pk).2=b)→Zoj (a,b) l=l.take pk++[(a,b)]++l.drop pk):=⟨fun h1=>insP_new hpk (fun h2=>h1 (by rw[h2.2];exact⟨rfl,rfl⟩))⟩
    generalize (rdP l pk).1=u0 at y0 hge ee HAT HNW;generalize (rdP l pk).2=u1 at y1 hge ee HAT HNW;obtain⟨g1,g2⟩:=hge;have h0:decide (u0<a)=false:=decide_eq_false g1;clear g1 hpk;cases h1:(u0==a)with
    | false=>
     have HNEW:=Zaa.mk (HNW.out (fun h=>(show ¬u0=a by simpa using h1) h.1));rw[h1,Bool.false_and]at ee;clear HAT HNW g2
     go_upto_region 6 with (fail)
     clear hg
     go_wp2_with (first
      | ((with_reducible refine Zie (N:=57) rfl ?_);refine Kd.R_lit kP _ 53 ?hg (N:=57) ?hd (xs:=([]:List (Int × Int))) (inner:=[]) (ok:=fun _=>True) (okp:=fun _=>True) ?hr ?hp (fun _ hk=>hk) trivial Zbr (Nat.le_refl _) (by simp) ?_;(case hd=>rfl);(case hg=>rfl);(case hr=>first | (go_simp;done) | (go_simp;rfl));(case hp=>exact (Reps.none _ _));intro v50 w50 ho50 hb50 _ _;have HO50:=Zaa.mk ho50;have HB50:=Zaa.mk hb50;clear ho50 hb50)
      | ((with_reducible refine Zas (b:=.append) (xs:=#[.tmp 57,.tmp 60]) rfl ?_);at_builtin;refine Kd.R_append_rows kP (w0:=w) w.heap.size rfl (.tmp 57) (.tmp 60) 42 53 (.agg #[.int .i64 0,.int .i64 0]) 16 rfl Tryz.underlying42 Zha rfl (by decide) (by omega) v50 [] (l.take pk) _ _ _ (fun _=>True) (fun _=>False) rfl rfl HO50.out ?aR (fun x cs h=>kP_of _ _ _ x cs h) (fun _ h=>h.elim) (fun _ _=>trivial) HB50.out ?aS ?aL ?_;(case aR=>exact Kd.C_below HT.out HB50.out);(case aS=>exact HB50.out.size);(case aL=>have:=HLL.out;have:=HPL.out;simp;omega);intro v54 w54 ho54 hb54 _ _;have HO54:=Zaa.mk ho54;have HB54:=Zaa.mk hb54;clear ho54 hb54))
     clear hcut1 HO50 HB50;refine Zdb ?_
     go_region_law (first
      | (refine Kd.R_append_step kP (w0:=w) w.heap.size (by rfl) (.tmp 62) (.tmp 66) 42 53 (.agg #[.int .i64 0,.int .i64 0]) 16 rfl Tryz.underlying42 Zha rfl (by decide) (by omega) v54 ([]++l.take pk) (a,b) [.int .i64 a,.int .i64 b] (fun _=>True) (fun _=>False) rfl rfl (kP_mk _ _ _ (a,b)) (fun _ hk=>hk.elim) (fun _ _=>trivial) ?aO ?aB ?aS ?aL ?_;(case aO=>exact Kd.R_drewN HO54.out _);(case aB=>exact Zah HB54.out _);(case aS=>exact (Zah HB54.out _).size);(case aL=>have:=HLL.out;have:=HPL.out;simp;omega);intro v61 w61 ho61 hb61 _ _;have HO61:=Zaa.mk ho61;have HB61:=Zaa.mk hb61;clear ho61 hb61)
      | (refine Kd.R_append_rows_step kP (w0:=w) w.heap.size (by rfl) (.tmp 67) (.tmp 70) 42 53 (.agg #[.int .i64 0,.int .i64 0]) 16 rfl Tryz.underlying42 Zha rfl (by decide) (by omega) v61 ([]++l.take pk++[(a,b)]) (l.drop pk) A64 (l.length-pk) (c-pk) (fun _=>True) (fun _=>False) rfl rfl HO61.out ?aR (fun x cs h=>kP_of _ _ _ x cs h) (fun _ h=>h.elim) (fun _ _=>trivial) HB61.out ?aS ?aL ?_;(case aR=>exact Kd.C_below HD.out HB61.out);(case aS=>exact HB61.out.size);(case aL=>have:=HLL.out;have:=HPL.out;simp;omega);intro v65 w65 ho65 hb65 _ _;have HO65:=Zaa.mk ho65;have HB65:=Zaa.mk hb65;clear ho65 hb65)
      | fail)
     all_goals (
      go_wp2
      go_ret
      refine⟨_,rfl,?_,HB65.out⟩;rw[HNEW.out];have h:=Kd.R_lower HO65.out HBS.out;rw[List.nil_append]at h;exact h)
    | true=>
     have h2:decide (u1<b)=false:=decide_eq_false (fun h=>g2 ⟨by simpa using h1,h⟩);rw[h1,Bool.true_and]at ee;clear g2;cases h3:(u1==b)with
     | true=>
      have HE:=Zaa.mk (HAT.out (by simpa using h1) (by simpa using h3));rw[h3]at ee;clear HAT HNW hcut1 hcut2 HT HD;go_wp2
      go_ret
      exact⟨_,rfl,by rw[HE.out];exact HO.out,Zbr⟩
     | false=>
      have HNEW:=Zaa.mk (HNW.out (fun h=>(show ¬u1=b by simpa using h3) h.2));rw[h3]at ee;clear HAT HNW
      go_upto_region 6 with (fail)
      clear hg
      go_wp2_with (first
       | ((with_reducible refine Zie (N:=57) rfl ?_);refine Kd.R_lit kP _ 53 ?hg (N:=57) ?hd (xs:=([]:List (Int × Int))) (inner:=[]) (ok:=fun _=>True) (okp:=fun _=>True) ?hr ?hp (fun _ hk=>hk) trivial Zbr (Nat.le_refl _) (by simp) ?_;(case hd=>rfl);(case hg=>rfl);(case hr=>first | (go_simp;done) | (go_simp;rfl));(case hp=>exact (Reps.none _ _));intro v50 w50 ho50 hb50 _ _;have HO50:=Zaa.mk ho50;have HB50:=Zaa.mk hb50;clear ho50 hb50)
       | ((with_reducible refine Zas (b:=.append) (xs:=#[.tmp 57,.tmp 60]) rfl ?_);at_builtin;refine Kd.R_append_rows kP (w0:=w) w.heap.size rfl (.tmp 57) (.tmp 60) 42 53 (.agg #[.int .i64 0,.int .i64 0]) 16 rfl Tryz.underlying42 Zha rfl (by decide) (by omega) v50 [] (l.take pk) _ _ _ (fun _=>True) (fun _=>False) rfl rfl HO50.out ?aR (fun x cs h=>kP_of _ _ _ x cs h) (fun _ h=>h.elim) (fun _ _=>trivial) HB50.out ?aS ?aL ?_;(case aR=>exact Kd.C_below HT.out HB50.out);(case aS=>exact HB50.out.size);(case aL=>have:=HLL.out;have:=HPL.out;simp;omega);intro v54 w54 ho54 hb54 _ _;have HO54:=Zaa.mk ho54;have HB54:=Zaa.mk hb54;clear ho54 hb54))
      clear hcut1 HO50 HB50;refine Zdb ?_
      go_region_law (first
       | (refine Kd.R_append_step kP (w0:=w) w.heap.size (by rfl) (.tmp 62) (.tmp 66) 42 53 (.agg #[.int .i64 0,.int .i64 0]) 16 rfl Tryz.underlying42 Zha rfl (by decide) (by omega) v54 ([]++l.take pk) (a,b) [.int .i64 a,.int .i64 b] (fun _=>True) (fun _=>False) rfl rfl (kP_mk _ _ _ (a,b)) (fun _ hk=>hk.elim) (fun _ _=>trivial) ?aO ?aB ?aS ?aL ?_;(case aO=>exact Kd.R_drewN HO54.out _);(case aB=>exact Zah HB54.out _);(case aS=>exact (Zah HB54.out _).size);(case aL=>have:=HLL.out;have:=HPL.out;simp;omega);intro v61 w61 ho61 hb61 _ _;have HO61:=Zaa.mk ho61;have HB61:=Zaa.mk hb61;clear ho61 hb61)
       | (refine Kd.R_append_rows_step kP (w0:=w) w.heap.size (by rfl) (.tmp 67) (.tmp 70) 42 53 (.agg #[.int .i64 0,.int .i64 0]) 16 rfl Tryz.underlying42 Zha rfl (by decide) (by omega) v61 ([]++l.take pk++[(a,b)]) (l.drop pk) A64 (l.length-pk) (c-pk) (fun _=>True) (fun _=>False) rfl rfl HO61.out ?aR (fun x cs h=>kP_of _ _ _ x cs h) (fun _ h=>h.elim) (fun _ _=>trivial) HB61.out ?aS ?aL ?_;(case aR=>exact Kd.C_below HD.out HB61.out);(case aS=>exact HB61.out.size);(case aL=>have:=HLL.out;have:=HPL.out;simp;omega);intro v65 w65 ho65 hb65 _ _;have HO65:=Zaa.mk ho65;have HB65:=Zaa.mk hb65;clear ho65 hb65)
       | fail)
      all_goals (
       go_wp2
       go_ret
       refine⟨_,rfl,?_,HB65.out⟩;rw[HNEW.out];have h:=Kd.R_lower HO65.out HBS.out;rw[List.nil_append]at h;exact h)
   ·have HNEW:=Zaa.mk (insP_new hpk (fun h=>hpl h.1));clear hpk
    go_upto_region 6 with (fail)
    clear hg
    go_wp2_with (first
     | ((with_reducible refine Zie (N:=57) rfl ?_);refine Kd.R_lit kP _ 53 ?hg (N:=57) ?hd (xs:=([]:List (Int × Int))) (inner:=[]) (ok:=fun _=>True) (okp:=fun _=>True) ?hr ?hp (fun _ hk=>hk) trivial Zbr (Nat.le_refl _) (by simp) ?_;(case hd=>rfl);(case hg=>rfl);(case hr=>first | (go_simp;done) | (go_simp;rfl));(case hp=>exact (Reps.none _ _));intro v50 w50 ho50 hb50 _ _;have HO50:=Zaa.mk ho50;have HB50:=Zaa.mk hb50;clear ho50 hb50)
     | ((with_reducible refine Zas (b:=.append) (xs:=#[.tmp 57,.tmp 60]) rfl ?_);at_builtin;refine Kd.R_append_rows kP (w0:=w) w.heap.size rfl (.tmp 57) (.tmp 60) 42 53 (.agg #[.int .i64 0,.int .i64 0]) 16 rfl Tryz.underlying42 Zha rfl (by decide) (by omega) v50 [] (l.take pk) _ _ _ (fun _=>True) (fun _=>False) rfl rfl HO50.out ?aR (fun x cs h=>kP_of _ _ _ x cs h) (fun _ h=>h.elim) (fun _ _=>trivial) HB50.out ?aS ?aL ?_;(case aR=>exact Kd.C_below HT.out HB50.out);(case aS=>exact HB50.out.size);(case aL=>have:=HLL.out;have:=HPL.out;simp;omega);intro v54 w54 ho54 hb54 _ _;have HO54:=Zaa.mk ho54;have HB54:=Zaa.mk hb54;clear ho54 hb54))
    clear hcut1 HO50 HB50;refine Zdb ?_
    go_region_law (first
     | (refine Kd.R_append_step kP (w0:=w) w.heap.size (by rfl) (.tmp 62) (.tmp 66) 42 53 (.agg #[.int .i64 0,.int .i64 0]) 16 rfl Tryz.underlying42 Zha rfl (by decide) (by omega) v54 ([]++l.take pk) (a,b) [.int .i64 a,.int .i64 b] (fun _=>True) (fun _=>False) rfl rfl (kP_mk _ _ _ (a,b)) (fun _ hk=>hk.elim) (fun _ _=>trivial) ?aO ?aB ?aS ?aL ?_;(case aO=>exact Kd.R_drewN HO54.out _);(case aB=>exact Zah HB54.out _);(case aS=>exact (Zah HB54.out _).size);(case aL=>have:=HLL.out;have:=HPL.out;simp;omega);intro v61 w61 ho61 hb61 _ _;have HO61:=Zaa.mk ho61;have HB61:=Zaa.mk hb61;clear ho61 hb61)
     | (refine Kd.R_append_rows_step kP (w0:=w) w.heap.size (by rfl) (.tmp 67) (.tmp 70) 42 53 (.agg #[.int .i64 0,.int .i64 0]) 16 rfl Tryz.underlying42 Zha rfl (by decide) (by omega) v61 ([]++l.take pk++[(a,b)]) (l.drop pk) A64 (l.length-pk) (c-pk) (fun _=>True) (fun _=>False) rfl rfl HO61.out ?aR (fun x cs h=>kP_of _ _ _ x cs h) (fun _ h=>h.elim) (fun _ _=>trivial) HB61.out ?aS ?aL ?_;(case aR=>exact Kd.C_below HD.out HB61.out);(case aS=>exact HB61.out.size);(case aL=>have:=HLL.out;have:=HPL.out;simp;omega);intro v65 w65 ho65 hb65 _ _;have HO65:=Zaa.mk ho65;have HB65:=Zaa.mk hb65;clear ho65 hb65)
     | fail)
    all_goals (
     go_wp2
     go_ret
     refine⟨_,rfl,?_,HB65.out⟩;rw[HNEW.out];have h:=Kd.R_lower HO65.out HBS.out;rw[List.nil_append]at h;exact h)
theorem eq_of_rd (a b:List Int)(h:a.length=b.length)(k:∀i,i<a.length→rd a i=rd b i):a=b:=by
 refine List.ext_getElem h (fun i h1 h2=>?_);have h3:=k i h1;unfold rd at h3;rw[Int.toNat_natCast,List.getD_eq_getElem?_getD,List.getD_eq_getElem?_getD,List.getElem?_eq_getElem h1,List.getElem?_eq_getElem h2]at h3;exact h3
set_option maxHeartbeats 2000000 in
theorem Zqs (w:World)(A B:Option Addr)(ca cb:Nat)(a b:List Int)(ha:(Kd.int .i64).C w A a.length a)(hb:(Kd.int .i64).C w B b.length b)(hl:a.length≤1000000) :
 Calls Tryz.prog 11 #[.slice A a.length ca,.slice B b.length cb] w fun e w'=>e=.returned (.bool (decide (a=b)))∧Drawn0 w w':=by
 have HA:=Zaa.mk ha;have HB:=Zaa.mk hb;have HL:=Zaa.mk hl;clear ha hb hl;by_cases hn:a.length=b.length
 rotate_left
 ·have e:decide (a=b)=false:=decide_eq_false (fun h=>hn (by rw[h]));have q:((a.length:Int) != (b.length:Int))=true:=by simp only[bne_iff_ne,ne_eq];omega
  rw[e];generalize a.length=n1 at *;generalize b.length=n2 at *;clear e hn
  go_enter Tryz.func11,Tryz.ntmps11
  go_wp2
  go_ret
  exact⟨rfl,Drawn0.refl _⟩
 rw[←hn]at HB ⊢
 go_enter Tryz.func11,Tryz.ntmps11
 go_wp2
 go_loopw [5] (fun i wr=>∃k:Nat,k≤a.length∧i=.int .i64 k∧Drawn0 w wr∧Zaa (∀i,i<k→rd a i=rd b i)) (fun i _=>a.length-(intOf i).toNat)
 case atStart=>exact⟨0,Nat.zero_le _,rfl,Drawn0.refl _,⟨fun i hi=>by omega⟩⟩
 case round=>
  obtain⟨k,hk,rfl,hd,HN⟩:=hrel;have HD:=Zaa.mk hd;clear hd;by_cases hkl:k<a.length
  ·obtain⟨d1,rfl,h1⟩:=Kd.at_int HA.out (k:Int) (by omega) (by omega);obtain⟨d2,rfl,h2⟩:=Kd.at_int HB.out (k:Int) (by omega) (by omega);rw[Int.toNat_natCast]at h1 h2;have h1:=Zab HD.out.below h1;have h2:=Zab HD.out.below h2;change wr.cell? _=some (.int .i64 (rd a k))at h1;change wr.cell? _=some (.int .i64 (rd b k))at h2;have HKL:=Zaa.mk hkl;have HNX:Zaa (rd a k=rd b k→∀i,i<k+1→rd a i=rd b i):=⟨fun hb i hi=>by
    rcases Nat.lt_or_ge i k with h | h
    ·exact HN.out i h
    ·obtain rfl:i=k:=by omega
     exact hb⟩
   have HNE:Zaa (rd a k≠rd b k→decide (a=b)=false):=⟨fun hx=>decide_eq_false (fun h=>hx (by rw[h]))⟩
   generalize rd a k=x at *;generalize rd b k=y at *;cases hq:(x != y)with
   | true=>
    have HE:=Zaa.mk (HNE.out (by simpa using hq));clear HNX HNE HN hn;go_wp2
    go_quiet (fail)
    go_wp2
    go_ret
    exact⟨by rw[HE.out];rfl,HD.out.step _⟩
   | false=>
    have HN2:=Zaa.mk (HNX.out (by simpa using hq));clear HNX HNE HN hn;go_wp2
    go_quiet (fail)
    go_wp2
    go_roundw
    case rel=>exact⟨k+1,HKL.out,by rw[Zbz k (by have:=HKL.out;have:=HL.out;omega)],HD.out.step _,HN2⟩
    case measure=>exact Zcc a.length k HKL.out (by have:=HL.out;omega)
  ·obtain rfl:k=a.length:=by omega
   have HE:Zaa (decide (a=b)=true):=⟨decide_eq_true (eq_of_rd a b hn HN.out)⟩
   clear hn;go_wp2
   go_ret
   exact⟨by rw[HE.out];rfl,HD.out⟩
theorem reps_P (w:World)(base:Nat)(ok:Nat→Prop):∀l:List (Int × Int),Reps (kP.M w base ok) 2 l (Zdf l)
 | []=>Reps.none _ _
 | x :: r=>Reps.front (kP_mk w base ok x) rfl (reps_P w base ok r) rfl
theorem R_of_ownP {w:World}{base:Nat}{v:Value}{l:List (Int × Int)}(h:OwnP w base v l):kP.R 53 w base (fun _=>True) v l:=⟨fun _ _=>trivial,Zdf l,h,reps_P _ _ _ l⟩
theorem Zes (w:World)(A B:Option Addr)(ca cb:Nat)(a:List Int)(ha:(Kd.int .i64).C w A a.length a)(hb:(Kd.int .i64).C w B a.length a)(hl:a.length≤1000000) :
 Calls Tryz.prog 11 #[.slice A a.length ca,.slice B a.length cb] w fun e w'=>e=.returned (.bool true)∧Below w.heap.size w w':=
 (Zqs w A B ca cb a a ha hb hl).mono (fun e w' h=>by rw[decide_eq_true rfl]at h;exact⟨h.1,h.2.below⟩)
set_option maxHeartbeats 2000000 in
theorem Zof (w:World)(A B:Option Addr)(ca cb:Nat)(a:List (Int × Int))(ha:kP.C w A a.length a)(hb:kP.C w B a.length a)(hl:a.length≤1000000) :
 Calls Tryz.prog 15 #[.slice A a.length ca,.slice B a.length cb] w fun e w'=>e=.returned (.bool true)∧Below w.heap.size w w':=by
 have HA:=Zaa.mk ha;have HB:=Zaa.mk hb;have HL:=Zaa.mk hl;have hg:=Zua;clear ha hb hl
 go_enter Tryz.func15,Tryz.ntmps15
 go_wp2
 go_loopw [5] (fun i wr=>∃k:Nat,k≤a.length∧i=.int .i64 k∧Zaa (Drawn0 w wr)) (fun i _=>a.length-(intOf i).toNat)
 case atStart=>exact⟨0,Nat.zero_le _,rfl,⟨Drawn0.refl _⟩⟩
 case round=>
  obtain⟨k,hk,rfl,HD⟩:=hrel;by_cases hkl:k<a.length
  ·obtain⟨d1,rfl,h1,h2⟩:=at_P HA.out (k:Int) (by omega) (by omega);obtain⟨d2,rfl,h3,h4⟩:=at_P HB.out (k:Int) (by omega) (by omega);rw[Int.toNat_natCast]at h1 h2 h3 h4;have h1:=Zab HD.out.below h1;have h2:=Zab HD.out.below h2;have h3:=Zab HD.out.below h3;have h4:=Zab HD.out.below h4;have HKL:=Zaa.mk hkl;generalize (rdP a k).1=x at *;generalize (rdP a k).2=y at *;have ee:=Zuc x y x y;rw[beq_self_eq_true,beq_self_eq_true,Bool.and_true]at ee;go_wp2
   go_quiet (fail)
   go_wp2
   go_roundw
   case rel=>exact⟨k+1,HKL.out,by rw[Zbz k (by have:=HKL.out;have:=HL.out;omega)],⟨HD.out.step _⟩⟩
   case measure=>exact Zcc a.length k HKL.out (by have:=HL.out;omega)
  ·obtain rfl:k=a.length:=by omega
   go_wp2
   go_ret
   exact⟨rfl,HD.out.below⟩
def depC9:Nat→List Nat
 | 1=>[0]
 | 2=>[1]
 | 3=>[2]
 | 5=>[4]
 | 6=>[5]
 | 7=>[6]
 | 8=>[7]
 | 10=>[9]
 | 11=>[8,10]
 | 12=>[11]
 | 13=>[12]
 | 14=>[13]
 | 15=>[14]
 | 16=>[15]
 | 18=>[3,16,17]
 | _=>[]
def valC9 (gb b7 n0 n1 ns nS ct cr sc c0:Nat)(At S0:Option Addr)(rad sd:Addr)(t u5:Int)(wb:Bool):Nat→Value
 | 0 | 1 | 2 | 4 | 5 | 6=>.pointer (some ⟨gb,0,none⟩)
 | 3=>.agg #[.slice At n0 ct,.slice (some rad) n1 cr]
 | 7=>.pointer (some ⟨gb,1,none⟩)
 | 8=>.slice (some rad) n1 cr
 | 9=>.pointer (some ⟨b7,8,none⟩)
 | 10=>.int .i64 u5
 | 11=>.pointer (some (rad.add (u5.toNat*3)))
 | 12=>.pointer (some ⟨(rad.add (u5.toNat*3)).block,(rad.add (u5.toNat*3)).off+2,none⟩)
 | 13=>.slice (some sd) ns sc
 | 14 | 15=>.pointer (some sd)
 | 16=>.slice S0 nS c0
 | 17=>.int .i64 t
 | 18=>.bool wb
 | _=>undef
def Zry:Nat→List Nat
 | 1=>[0]
 | 2=>[1]
 | 3=>[2]
 | 4=>[3]
 | 5=>[3,4]
 | 6=>[3,5]
 | 7=>[3,6]
 | 8=>[3]
 | 9=>[3,8]
 | 10=>[3]
 | 11=>[3,7,9,10]
 | 12=>[3,11]
 | _=>[]
def Znu (gb bz n0 n1 nn ct cr d2:Nat)(At Ar B2:Option Addr)(t:Int)(wb:Bool):Nat→Value
 | 0=>.pointer (some ⟨bz,0,none⟩)
 | 1=>.int .i64 3
 | 2 | 3=>.bool true
 | 4 | 5 | 6=>.pointer (some ⟨gb,0,none⟩)
 | 7=>.agg #[.slice At n0 ct,.slice Ar n1 cr]
 | 8=>.pointer (some ⟨bz,1,none⟩)
 | 9=>.slice B2 nn d2
 | 10=>.int .i64 t
 | 11 | 12=>.bool wb
 | _=>undef
def Zrx:Nat→List Nat
 | 1=>[0]
 | 2=>[1]
 | 4=>[3]
 | 5=>[2,4]
 | 6=>[5]
 | 7=>[6]
 | 8=>[6,7]
 | 9=>[6,8]
 | 10=>[6,9]
 | 11=>[6]
 | 12=>[6]
 | 13=>[6,12]
 | 14=>[6,13]
 | 15=>[6,11,14]
 | 16=>[6,15]
 | 17=>[6,16]
 | 18=>[6]
 | 19=>[6,10,17,18]
 | 20=>[6,19]
 | _=>[]
def Znt (gb b7 n0 n1 ns nS ct cr sc c0 j:Nat)(At S0:Option Addr)(rad sd:Addr)(t:Int)(wb:Bool):Nat→Value
 | 0 | 12=>.pointer (some ⟨b7,9,none⟩)
 | 1 | 13=>.int .i64 j
 | 2 | 14=>.int .i64 (j+1)
 | 3 | 11=>.slice (some sd) ns sc
 | 4=>.int .i64 ns
 | 5 | 6=>.bool true
 | 7 | 8 | 9=>.pointer (some ⟨gb,0,none⟩)
 | 10=>.agg #[.slice At n0 ct,.slice (some rad) n1 cr]
 | 15 | 16=>.pointer (some (sd.add ((j+1)*5)))
 | 17=>.slice S0 nS c0
 | 18=>.int .i64 t
 | 19 | 20=>.bool wb
 | _=>undef
def Znf (w:World)(l:List (Int × Int))(e:Ending)(w':World):Prop:=∃v,e=.returned v∧kP.R 53 w' w.heap.size (fun _=>True) v l∧Below w.heap.size w w'
theorem ownq_one (W:World)(base:Nat)(hb:base≤W.heap.size)(x y:Int):kP.R 53 (W.alloc (.cells #[.int .i64 x,.int .i64 y] 53)) base (fun _=>True) (.slice (some ⟨W.heap.size,0,none⟩) 1 1) [(x,y)]:=by
 have h2:=World.ownsRow_lit (base:=base) (e:=53) (size:=2) W #[.int .i64 x,.int .i64 y] 1 hb (by simp[maxLen]) (by simp);exact⟨fun _ _=>trivial,[.int .i64 x,.int .i64 y],(by simp at h2;exact h2),Reps.snoc (Reps.none _ 2) (kP_mk _ _ _ (x,y)) rfl⟩
structure CallQ (G:S26)(its:List S94)(bg:Int→Int→Int):Prop where
 free:∀q:Int,0≤q→q<its.length→(Zak its q).f0=1→0≤(Zak its q).f5∧(Zak its q).f5<G.f1.length∧1≤(Zbm G (Zak its q).f5).f2.length
 rule:∀q:Int,0≤q→q<its.length→¬(Zak its q).f0=0→¬(Zak its q).f0=1→0≤(Zak its q).f5→(Zak its q).f5<G.f1.length∧0≤(Zak its q).f6∧(Zak its q).f6≤1000
 bgn:∀r s:Int,0≤r→r<G.f1.length→0≤s→s<(Zbm G r).f2.length→∀q,Zng its r s q→q=bg r s
 names:∀r s:Int,0≤r→r<G.f1.length→0≤s→s<(Zbm G r).f2.length→(Zei (Zbm G r) s).f0.length≤1000000
set_option maxHeartbeats 8000000 in
theorem Zqt (w:World)(gb:Nat)(G:S26)(its:List S94)(ss:List Int)(h:RR w gb G its ss)(hok:ItsOk its)(bg:Int→Int→Int)(hq:CallQ G its bg)(p t:Int) :
 Calls Tryz.prog 17 #[.pointer (some ⟨gb,0,none⟩),.int .i64 p,.int .i64 t] w (Znf w (Znp G its bg p t)):=by
 have HM:=Zaa.mk (Zfj w gb G its ss h p);have HK:=Zaa.mk (Zfu w gb G its ss h t 1);have HV:=Zaa.mk h;have HOK:=Zaa.mk hok;have HQ:=Zaa.mk hq;clear h hok hq;cases hm:isB its p with
 | false=>
  have e:Znp G its bg p t=[]:=by unfold Znp;rw[if_neg (by simp[hm])]
  rw[hm]at HM;rw[e];clear e hm
  go_enter Tryz.func17,Tryz.ntmps17
  go_wp2_with (go_at_call 40;refine HM.out.mono ?_;rintro e w1 ⟨rfl,rfl⟩)
  go_ret
  exact⟨_,rfl,Kd.R_nil _ _ _ _ _,Zbr⟩
 | true=>
 cases hk:Zga G t 1 with
 | false=>
  have e:Znp G its bg p t=[]:=by unfold Znp;rw[if_neg (by simp[hk])]
  rw[hm]at HM;rw[hk]at HK;rw[e];clear e hm hk
  go_enter Tryz.func17,Tryz.ntmps17
  go_wp2_with (first | (go_at_call 41;refine HK.out.mono ?_;rintro e w1 ⟨rfl,rfl⟩) | (go_at_call 40;refine HM.out.mono ?_;rintro e w1 ⟨rfl,rfl⟩))
  go_ret
  exact⟨_,rfl,Kd.R_nil _ _ _ _ _,Zbr⟩
 | true=>
 obtain⟨p0,p1⟩:=Zld hm;have hE:Znp G its bg p t=if (Zak its p).f0=0 then [(0,0)]else if (Zak its p).f0=1 then freeR G bg p t (Zak its p).f5
  else lastR G bg t (Zak its p).f5 (Zak its p).f6 (Zak its p).f7 (Zak its p).f3 (Ziw G its t (Zak its p).f2 (Zak its p).f2.length):=by unfold Znp;rw[hm,hk];rfl
 rw[hm]at HM;rw[hk]at HK;clear hm hk;have HFQ:=Zaa.mk (HQ.out.free p p0 p1);have HRQ:=Zaa.mk (HQ.out.rule p p0 p1);have HNX:=Zaa.mk (HOK.out.nx p p0 p1);obtain⟨At,ct,Ar,cr,A,c,As,cs,hc,_,ht,_,hgr,_,hi,_⟩:=HV.out.cells;have g0:=(Zac hc 0).trans rfl;have g1:=(Zac hc 1).trans rfl;have g2:=(Zac hc 2).trans rfl;obtain⟨ad,A2,c2,A3,c3,A4,c4,A5,c5,rfl,k0,k1,k2,k3,k4,k5,k6,k7,k8,k9,k10,_,_,_,_,_,_,_,n5⟩:=Zju hi p p0 p1;have HI:=Zaa.mk hi;have HT:=Zaa.mk ht;have HGR:=Zaa.mk hgr;have HN5:=Zaa.mk n5;clear hc hi ht hgr n5;generalize (Zak its p).f0=u0 at *;generalize (Zak its p).f3=u3 at *;generalize (Zak its p).f5=u5 at *;generalize (Zak its p).f6=u6 at *;generalize (Zak its p).f7=u7 at *;obtain⟨L,hL⟩:∃L,L=(Zak its p).f2:=⟨_,rfl⟩
 rw[←hL]at k5 HN5 HNX hE;clear hL;obtain⟨res,hres⟩:∃res,res=Znp G its bg p t:=⟨_,rfl⟩
 rw[←hres]at hE ⊢;clear hres
 go_enter Tryz.func17,Tryz.ntmps17
 go_upto_region 4 with (first | (go_at_call 41;refine HK.out.mono ?_;rintro e w1 ⟨rfl,hw⟩;obtain rfl:=hw.symm) | (go_at_call 40;refine HM.out.mono ?_;rintro e w1 ⟨rfl,hw⟩;obtain rfl:=hw.symm))
 have hb1:=Zae (Below.refl _ w) (.cells #[.int .i64 u0,.int .i64 (Zak its p).f1.f0,.slice A2 (Zak its p).f1.f1.length c2,.slice A3 (Zak its p).f1.f2.length c3,.slice A4 (Zak its p).f1.f3.length c4,.slice A5 L.length c5,.bool u3,.int .i64 (Zak its p).f4,.int .i64 u5,.int .i64 u6,.int .i64 u7] 94);have hbk:=Zaq w (.cells #[.int .i64 u0,.int .i64 (Zak its p).f1.f0,.slice A2 (Zak its p).f1.f1.length c2,.slice A3 (Zak its p).f1.f2.length c3,.slice A4 (Zak its p).f1.f3.length c4,.slice A5 L.length c5,.bool u3,.int .i64 (Zak its p).f4,.int .i64 u5,.int .i64 u6,.int .i64 u7] 94);have x0:=(Zac hbk 0).trans rfl;have x5:=(Zac hbk 5).trans rfl;have x6:=(Zac hbk 6).trans rfl;have x8:=(Zac hbk 8).trans rfl;have x9:=(Zac hbk 9).trans rfl;have x10:=(Zac hbk 10).trans rfl;have HB:=Zaa.mk hb1;have g0:=Zab hb1 g0;have g1:=Zab hb1 g1;have g2:=Zab hb1 g2;clear k0 k1 k2 k3 k4 k5 k6 k7 k8 k9 k10 hbk hb1;generalize w.alloc (.cells #[.int .i64 u0,.int .i64 (Zak its p).f1.f0,.slice A2 (Zak its p).f1.f1.length c2,.slice A3 (Zak its p).f1.f2.length c3,.slice A4 (Zak its p).f1.f3.length c4,.slice A5 L.length c5,.bool u3,.int .i64 (Zak its p).f4,.int .i64 u5,.int .i64 u6,.int .i64 u7] 94)=X at *;generalize w.heap.size=b7 at x0 x5 x6 x8 x9 x10 ⊢;have HLL:Zaa (L.length≤90000):=⟨by have:=HNX.out.len;have:=HOK.out.len;omega⟩
 by_cases e0:u0=0
 ·subst e0;have HE:Zaa (res=[(0,0)]):=⟨by rw[hE,if_pos rfl]⟩
  clear hE;go_wp2
  go_ret
  rw[HE.out];exact⟨_,rfl,ownq_one _ _ HB.out.size 0 0,Zae HB.out _⟩
 have n0:(u0==0)=false:=by simpa using e0
 by_cases e1:u0=1
 ·subst e1;rw[if_neg e0,if_pos rfl]at hE;unfold freeR at hE;obtain⟨r0,r1,r2⟩:=HFQ.out rfl;obtain⟨rad,S2,sc,hAr,_,_,m2,_,hst⟩:=Zmx HGR.out u5 r0 r1;subst hAr;change w.cell? _=some (.slice S2 (Zbm G u5).f2.length sc)at m2;obtain⟨sd,S0,c0,_,_,_,_,_,_,hS2,s0,_,_,_,_,_,hcal,_⟩:=Zoq hst 0 (by omega) (show (0:Int)<((Zbm G u5).f2.length:Int) by omega);subst hS2;change w.cell? (sd.add 0)=some (.slice S0 (Zei (Zbm G u5) 0).f0.length c0)at s0;rw[show sd.add 0=sd by simp[Addr.add]]at s0;change Kd.string.C w S0 (Zei (Zbm G u5) 0).f0.length (Zei (Zbm G u5) 0).f0 at hcal;have HNM:=Zaa.mk (HQ.out.names u5 0 r0 r1 (by omega) (by omega));have HBQ:=Zaa.mk (fun r hr=>HQ.out.bgn u5 0 r0 r1 (by omega) (by omega) r hr);have HCAL:=Zaa.mk hcal;have hrp:0<(Zbm G u5).f2.length:=by omega
  have s0:=Zab HB.out s0;have r2:=Zab HB.out m2;clear hst hcal m2 n0 e0
  go_upto_region 9 with (fail)
  have HV8:=Zaa.mk (ownq_one X w.heap.size HB.out.size p p);have HBY:=Zaa.mk (Zae (Below.refl _ X) (.cells #[.int .i64 p,.int .i64 p] 53));have g0:=Zab HBY.out g0;have g1:=Zab HBY.out g1;have s0:=Zab HBY.out s0;have r2:=Zab HBY.out r2;have x8:=Zab HBY.out x8;clear g2 x0 x5 x6 x9 x10;generalize X.alloc (.cells #[.int .i64 p,.int .i64 p] 53)=Y at *;generalize X.heap.size=b8 at HV8 ⊢;have HWI:=Zaa.mk (fun (W':World) (hb:Below Y.heap.size Y W')=>Zdw W' At (some rad) ct G.f1.length cr G (Kd.C_below HT.out (Zaf (Zaf HB.out HBY.out) hb)) S0 c0 (Zei (Zbm G u5) 0).f0 (Kd.C_below HCAL.out (Zaf (Zaf HB.out HBY.out) hb)) HNM.out t);generalize (Zei (Zbm G u5) 0).f0=nm0 at *;generalize Zcm G t nm0=wb at *;have HE:=Zaa.mk hE;clear hE;refine Zeb 19 _ depC9 (valC9 gb b7 G.f0.length G.f1.length (Zbm G u5).f2.length nm0.length ct cr sc c0 At S0 rad sd t u5 wb) Zca (by kernel_rfl) (by kernel_rfl) (by kernel_rfl) rfl Zbk Zbf ?step ?fin
  case step=>
   refine⟨?_,?_,?_,?_,?_,?_,?_,?_,?_,?_,?_,?_,?_,?_,?_,?_,?_,?_,?_,trivial⟩ <;> intro W hR0 <;> have hR:=Zaf (Zam (Below.refl _ Y)) hR0
   all_goals try (
    first | refine Zal rfl (Zad (W':=W) ?_ ⟨Zbr,rfl⟩) | refine Zbo (by simp only[Zao,depC9,Zai,valC9];rfl) (Zad (W':=W) ?_ ⟨Zbr,rfl⟩)
    have c0:=Zab hR g0;have c1:=Zab hR g1;have c2:=Zab hR x8;have c3:=Zab hR r2;have c4:=Zab hR s0;simp only[Zao,depC9,Zai,valC9];go_simp
    done)
   ·refine Zal rfl (Zbi (W':=W) (f:=42) (args:=#[.agg #[.slice At G.f0.length ct,.slice (some rad) G.f1.length cr],.slice S0 nm0.length c0,.int .i64 t]) ?_ ((HWI.out W hR).mono ?_))
    ·simp only[Zao,depC9,Zai,valC9];go_simp
    ·rintro e w1 ⟨rfl,hb⟩;exact⟨_,rfl,hb,rfl⟩
  case fin=>
   intro W hR0;have hR:=Zaf (Zam (Below.refl _ Y)) hR0;clear hR0;rw[show List.range 19=[0,1,2,3,4,5,6,7,8,9,10,11,12,13,14,15,16,17,18]from rfl];simp only[Zao,Zai,valC9,Act.put,List.getElem?_toArray,List.getElem?_cons_zero,List.getElem?_cons_succ,Option.bind_some,List.setIfInBounds_toArray,List.set_cons_zero,List.set_cons_succ,List.drop_succ_cons,List.drop_zero];have HVW:=Zaa.mk (Kd.R_below HV8.out hR);have HBW:=Zaa.mk (Zaf (Zaf HB.out HBY.out) hR);have x8:=Zab hR x8;clear hR;cases wb
   case' false=>
    have HRS:=Zaa.mk (show res=[(p,p)] by rw[HE.out];simp);clear HE;go_wp2
    go_ret
    rw[HRS.out];exact⟨_,rfl,HVW.out,HBW.out⟩
   case' true=>
    have HRS:=Zaa.mk (show res=Zoj (bg u5 0,-1) [(p,p)] by rw[HE.out];simp);clear HE;have HBG:=Zaa.mk (Zje W gb G its ss (HV.out.below HBW.out) (by have:=HOK.out.len;omega) u5 0);have HPC:=Zaa.mk (fun r=>Zmb W w.heap.size (.slice (some ⟨b8,0,none⟩) 1 1) [(p,p)] r (-1) HVW.out HBW.out.size (by simp))
    go_wp2_with (first | (go_at_call 52;(with_reducible refine HBG.out.mono ?_);rintro e w5 ⟨r5,rfl,hr5,hw5⟩;obtain rfl:=hw5.symm;have HR5:=Zaa.mk (HBQ.out r5 hr5);clear hr5) | (go_at_call 51;(with_reducible refine (HPC.out _).mono ?_);rintro e w6 ⟨v6,rfl,hv6,hb6⟩;obtain⟨A6,c6,rfl⟩:=Kd.R_slice hv6;have HV6:=Zaa.mk hv6;have HB6:=Zaa.mk hb6;clear hv6 hb6))
    go_ret
    rw[HRS.out];exact⟨_,rfl,by rw[←HR5.out];exact HV6.out,Zaf HBW.out HB6.out⟩
 have n1:(u0==1)=false:=by simpa using e1
 rw[if_neg e0,if_neg e1]at hE;have HE:=Zaa.mk hE;have HRQ:=Zaa.mk (HRQ.out e0 e1);clear hE e0 e1 HFQ;go_wp2
 clear n0 n1 x0
 go_loopw [9,10] (fun u i wr=>∃k:Nat,k≤L.length∧i=.int .i64 k∧Zaa (kP.R 53 wr w.heap.size (fun _=>True) u (Ziw G its t L k))∧Zaa (Below X.heap.size X wr)) (fun _ i _=>L.length-(intOf i).toNat)
 case atStart=>exact⟨0,Nat.zero_le _,rfl,⟨Kd.R_nil _ _ _ _ _⟩,⟨Zbr⟩⟩
 case round=>
  obtain⟨k,hk,rfl,HU,HBR⟩:=hrel;by_cases hkl:k<L.length
  ·have x5:=Zab HBR.out x5;have g0:=Zab HBR.out g0;have g1:=Zab HBR.out g1;have g2:=Zab HBR.out g2;have HBA:=Zaa.mk (Zaf HB.out HBR.out);clear x6 x8 x9 x10;have HR:=HNX.out.2 (rd L k) (Zfv hkl);obtain⟨q,hq⟩:∃q,q=rd L k:=⟨_,rfl⟩
   obtain⟨a2,rfl,hq0⟩:=Kd.at_int (Kd.C_below HN5.out HBA.out) (k:Int) (by omega) (by omega);rw[Int.toNat_natCast,←hq]at hq0;rw[←hq]at HR;obtain⟨q0,q1⟩:=HR;obtain⟨ad',B2,d2,B3,d3,B4,d4,B5,d5,e8,_,m1,m2,m3,m4,_,_,m7,_,_,_,_,s2,_⟩:=Zju HI.out q q0 q1;obtain rfl:=Option.some.inj e8;have m1:=Zab HBA.out m1;have m2:=Zab HBA.out m2;have m3:=Zab HBA.out m3;have m4:=Zab HBA.out m4;have m7:=Zab HBA.out m7;have HS2:=Zaa.mk s2;have HS3:=Zaa.mk (HOK.out.nm q q0 q1).1;have hF:Ziw G its t L (k+1)=Zhi G its t (Ziw G its t L k) q:=by rw[hq];rfl
   unfold Zhi at hF;have HLN:Zaa ((Ziw G its t L k).length≤90000):=⟨by have h1:=Zmm G its t L k;have:=HLL.out;omega⟩
   have HF:=Zaa.mk hF;have HKL:=Zaa.mk hkl;clear hF hq s2 e8;obtain⟨O,hO⟩:∃O,O=Ziw G its t L k:=⟨_,rfl⟩
   rw[←hO]at HU HF HLN;clear hO;obtain⟨Au,cu,rfl⟩:=Kd.R_slice HU.out;generalize (Zak its q).f1.f0=fk at *;generalize (Zak its q).f4=fi at *
   go_upto_region 18 with (fail)
   have hbz:=Zae (Below.refl _ wr) (.cells #[.int .i64 fk,.slice B2 (Zak its q).f1.f1.length d2,.slice B3 (Zak its q).f1.f2.length d3,.slice B4 (Zak its q).f1.f3.length d4] 76);have hbk:=Zaq wr (.cells #[.int .i64 fk,.slice B2 (Zak its q).f1.f1.length d2,.slice B3 (Zak its q).f1.f2.length d3,.slice B4 (Zak its q).f1.f3.length d4] 76);have z0:=(Zac hbk 0).trans rfl;have z1:=(Zac hbk 1).trans rfl;have HBZ:=Zaa.mk (Zaf HBR.out hbz);have HBW:=Zaa.mk (Zaf HBA.out hbz);have HUZ:=Zaa.mk (Kd.R_below HU.out hbz);have g0:=Zab hbz g0;have g1:=Zab hbz g1;have g2:=Zab hbz g2;have m7:=Zab hbz m7;clear HU m1 m2 m3 m4 hq0 x5 hbk hbz;generalize wr.alloc (.cells #[.int .i64 fk,.slice B2 (Zak its q).f1.f1.length d2,.slice B3 (Zak its q).f1.f2.length d3,.slice B4 (Zak its q).f1.f3.length d4] 76)=Z at *;generalize wr.heap.size=bz at z0 z1 ⊢;have HPC:=Zaa.mk (fun (W':World) (hb:Below Z.heap.size Z W') (a:Int)=>Zmb W' w.heap.size (.slice Au O.length cu) O a q (Kd.R_below HUZ.out hb) (Zaf HBW.out hb).size (by have:=HLN.out;omega));by_cases e4:fk=4
   ·subst e4;rw[if_pos rfl]at HF
    go_wp2_with (go_at_call 51;(with_reducible refine (HPC.out _ (by repeat (first | exact Zbr | refine Zah ?_ _ | refine Zar ?_ | refine Zam ?_)) 0).mono ?_);rintro e w9 ⟨v9,rfl,hv9,hb9⟩;have HV9:=Zaa.mk hv9;have HB9:=Zaa.mk (Zaf HBZ.out hb9);have z0:=Zab hb9 z0;clear hv9 hb9)
    go_quiet (fail)
    go_wp2
    go_roundw
    case rel=>exact⟨k+1,HKL.out,by rw[Zbz k (by have:=HKL.out;have:=HLL.out;omega)],⟨by rw[HF.out];exact Kd.R_below HV9.out (by repeat (first | exact Zbr | refine Zah ?_ _ | refine Zar ?_ | refine Zam ?_))⟩,⟨Zaf HB9.out (by repeat (first | exact Zbr | refine Zah ?_ _ | refine Zar ?_ | refine Zam ?_))⟩⟩
    case measure=>exact Zcc L.length k HKL.out (by have:=HLL.out;omega)
   have n4:(fk==4)=false:=by simpa using e4
   rw[if_neg e4]at HF;by_cases e3:fk=3
   rotate_left
   ·have n3:(fk==3)=false:=by simpa using e3
    rw[if_neg (fun h=>e3 h.1)]at HF;clear e3 e4;go_wp2
    go_quiet (fail)
    go_wp2
    go_roundw
    case rel=>exact⟨k+1,HKL.out,by rw[Zbz k (by have:=HKL.out;have:=HLL.out;omega)],⟨by rw[HF.out];exact Kd.R_below HUZ.out (by repeat (first | exact Zbr | refine Zah ?_ _ | refine Zar ?_ | refine Zam ?_))⟩,⟨Zaf HBZ.out (by repeat (first | exact Zbr | refine Zah ?_ _ | refine Zar ?_ | refine Zam ?_))⟩⟩
    case measure=>exact Zcc L.length k HKL.out (by have:=HLL.out;omega)
   subst e3;clear e4;have HWI:=Zaa.mk (fun (W':World) (hb:Below Z.heap.size Z W')=>Zdw W' At Ar ct G.f1.length cr G (Kd.C_below HT.out (Zaf HBW.out hb)) B2 d2 (Zak its q).f1.f1 (Kd.C_below HS2.out (Zaf HBW.out hb)) (by have:=HS3.out;omega) t);generalize (Zak its q).f1.f1=nm at *;generalize Zcm G t nm=wb at *
   go_upto_region 20 with (fail)
   refine Zeb 13 _ Zry (Znu gb bz G.f0.length G.f1.length nm.length ct cr d2 At Ar B2 t wb) Zca (by kernel_rfl) (by kernel_rfl) (by kernel_rfl) rfl Zbk Zbf ?step ?fin
   case step=>
    refine⟨?_,?_,?_,?_,?_,?_,?_,?_,?_,?_,?_,?_,?_,trivial⟩ <;> intro W hR0 <;> have hR:=Zaf (Zam (Below.refl _ Z)) hR0
    all_goals try (
     first | refine Zal rfl (Zad (W':=W) ?_ ⟨Zbr,rfl⟩) | refine Zbo (by simp only[Zao,Zry,Zai,Znu];rfl) (Zad (W':=W) ?_ ⟨Zbr,rfl⟩)
     have c0:=Zab hR g0;have c1:=Zab hR g1;have c2:=Zab hR z0;have c3:=Zab hR z1;simp only[Zao,Zry,Zai,Znu];go_simp
     done)
    ·refine Zbo (by simp only[Zao,Zry,Zai,Znu];rfl) (Zbi (W':=W) (f:=42) (args:=#[.agg #[.slice At G.f0.length ct,.slice Ar G.f1.length cr],.slice B2 nm.length d2,.int .i64 t]) ?_ ((HWI.out W hR).mono ?_))
     ·simp only[Zao,Zry,Zai,Znu];go_simp
     ·rintro e w1 ⟨rfl,hb⟩;exact⟨_,rfl,hb,rfl⟩
   case fin=>
    intro W hR0;have hR:=Zaf (Zam (Below.refl _ Z)) hR0;clear hR0;rw[show List.range 13=[0,1,2,3,4,5,6,7,8,9,10,11,12]from rfl];simp only[Zao,Zai,Znu,Act.put,List.getElem?_toArray,List.getElem?_cons_zero,List.getElem?_cons_succ,Option.bind_some,List.setIfInBounds_toArray,List.set_cons_zero,List.set_cons_succ,List.drop_succ_cons,List.drop_zero];have HBY:=Zaa.mk hR;have g2:=Zab hR g2;have m7:=Zab hR m7;clear hR;cases wb
    case' false=>
     rw[if_neg (by simp)]at HF;go_wp2
     go_roundw
     case rel=>exact⟨k+1,HKL.out,by rw[Zbz k (by have:=HKL.out;have:=HLL.out;omega)],⟨by rw[HF.out];exact Kd.R_below HUZ.out HBY.out⟩,⟨Zaf HBZ.out HBY.out⟩⟩
     case measure=>exact Zcc L.length k HKL.out (by have:=HLL.out;omega)
    case' true=>
     rw[if_pos (by simp)]at HF;have HPY:=Zaa.mk (HPC.out W HBY.out fi)
     go_wp2_with (go_at_call 51;(with_reducible refine HPY.out.mono ?_);rintro e w9 ⟨v9,rfl,hv9,hb9⟩;have HV9:=Zaa.mk hv9;have HB9:=Zaa.mk (Zaf (Zaf HBZ.out HBY.out) hb9);clear hv9 hb9)
     go_roundw
     case rel=>exact⟨k+1,HKL.out,by rw[Zbz k (by have:=HKL.out;have:=HLL.out;omega)],⟨by rw[HF.out];exact HV9.out⟩,HB9⟩
     case measure=>exact Zcc L.length k HKL.out (by have:=HLL.out;omega)
  ·obtain rfl:k=L.length:=by omega
   have x5:=Zab HBR.out x5;have x6:=Zab HBR.out x6;have x8:=Zab HBR.out x8;have x9:=Zab HBR.out x9;have x10:=Zab HBR.out x10;have g0:=Zab HBR.out g0;have g1:=Zab HBR.out g1;have HBA:=Zaa.mk (Zaf HB.out HBR.out);have HLN:Zaa ((Ziw G its t L L.length).length≤90000):=⟨by have h1:=Zmm G its t L L.length;have:=HLL.out;omega⟩
   obtain⟨O,hO⟩:∃O,O=Ziw G its t L L.length:=⟨_,rfl⟩
   rw[←hO]at HU HE HLN;clear hO g2;unfold lastR at HE;obtain⟨Au,cu,rfl⟩:=Kd.R_slice HU.out;cases u3 with
   | false=>
    rw[if_neg (by simp)]at HE;go_wp2
    go_ret
    rw[HE.out];exact⟨_,rfl,HU.out,HBA.out⟩
   | true=>
   by_cases e7:u7<0
   rotate_left
   ·have n7:decide (u7<0)=false:=decide_eq_false e7;rw[if_neg (fun h=>e7 h.2.1)]at HE;clear e7;go_wp2
    go_ret
    rw[HE.out];exact⟨_,rfl,HU.out,HBA.out⟩
   have n7:decide (u7<0)=true:=decide_eq_true e7;by_cases e5:0≤u5
   rotate_left
   ·have n5:decide (0≤u5)=false:=decide_eq_false e5;rw[if_neg (fun h=>e5 h.2.2.1)]at HE;clear e5 e7;go_wp2
    go_ret
    rw[HE.out];exact⟨_,rfl,HU.out,HBA.out⟩
   have n5:decide (0≤u5)=true:=decide_eq_true e5;obtain⟨r1,j0,j1⟩:=HRQ.out e5;obtain⟨j,rfl⟩:∃j:Nat,u6=j:=⟨u6.toNat,by omega⟩
   obtain⟨rad,S2,sc,hAr,_,_,m2,_,hst⟩:=Zmx HGR.out u5 e5 r1;subst hAr;change w.cell? _=some (.slice S2 (Zbm G u5).f2.length sc)at m2;have r2:=Zab HBA.out m2;have HJW:Zaa (wrap64 ((j:Int)+1)=(j:Int)+1):=⟨by unfold wrap64;omega⟩
   have HJW2:Zaa (IntKind.i64.wrap ((j:Int)+1)=(j:Int)+1):=⟨by rw[IntKind.wrap_i64];omega⟩
   have HJ0:Zaa (0≤(j:Int)+1):=⟨by omega⟩
   have HE7:=Zaa.mk e7;have HR5:=Zaa.mk e5;have HR1:=Zaa.mk r1;have HJ1:=Zaa.mk j1;change k79.C w S2 (Zbm G u5).f2.length (Zbm G u5).f2 at hst;have HST:=Zaa.mk hst;clear m2 hst j0 j1 e7;obtain⟨ns,hns⟩:∃ns,ns=(Zbm G u5).f2.length:=⟨_,rfl⟩
   rw[←hns]at r2 HE HST;have HNS:=Zaa.mk hns;clear hns;by_cases ej:(j:Int)+1<ns
   rotate_left
   ·rw[if_neg (fun h=>ej h.2.2.2.1)]at HE;have n6:decide ((j:Int)+1<(ns:Int))=false:=decide_eq_false ej;have hjw:=HJW.out;clear ej;go_wp2
    go_quiet (fail)
    go_wp2
    go_quiet (fail)
    go_wp2
    go_ret
    rw[HE.out];exact⟨_,rfl,Kd.R_below HU.out (by repeat (first | exact Zbr | refine Zah ?_ _ | refine Zar ?_ | refine Zam ?_)),Zaf HBA.out (by repeat (first | exact Zbr | refine Zah ?_ _ | refine Zar ?_ | refine Zam ?_))⟩
   have HJL:Zaa ((j:Int)+1<ns):=⟨ej⟩
   obtain⟨sd,S0,c0,_,_,_,_,_,_,hS2,s0,_,_,_,_,_,hcal,_⟩:=Zoq HST.out ((j:Int)+1) (by omega) (by omega);subst hS2;have HNM:=Zaa.mk (HQ.out.names u5 ((j:Int)+1) HR5.out HR1.out (by omega) (by have:=HNS.out;omega));have HBQ:=Zaa.mk (fun r hr=>HQ.out.bgn u5 ((j:Int)+1) HR5.out HR1.out (by omega) (by have:=HNS.out;omega) r hr);rw[show ((j:Int)+1).toNat=j+1 by omega]at s0;change w.cell? (sd.add ((j+1)*5))=some (.slice S0 (Zei (Zbm G u5) ((j:Int)+1)).f0.length c0)at s0;change Kd.string.C w S0 (Zei (Zbm G u5) ((j:Int)+1)).f0.length (Zei (Zbm G u5) ((j:Int)+1)).f0 at hcal;have HCAL:=Zaa.mk hcal;have s0:=Zab HBA.out s0;clear hcal ej;go_wp2
   go_quiet (fail)
   go_wp2
   have hbz:=Zah (Below.refl wr.heap.size wr) nq;have g0:=Zab hbz g0;have g1:=Zab hbz g1;have s0:=Zab hbz s0;have x8:=Zab hbz x8;have x9:=Zab hbz x9;have HBW:=Zaa.mk (Zaf HBA.out hbz);have HUZ:=Zaa.mk (Kd.R_below HU.out hbz);clear r2 x5 x6 x10 n7 n5;generalize wr.drewN nq=Z at *;have HWI:=Zaa.mk (fun (W':World) (hb:Below Z.heap.size Z W')=>Zdw W' At (some rad) ct G.f1.length cr G (Kd.C_below HT.out (Zaf HBW.out hb)) S0 c0 (Zei (Zbm G u5) ((j:Int)+1)).f0 (Kd.C_below HCAL.out (Zaf HBW.out hb)) HNM.out t);generalize (Zei (Zbm G u5) ((j:Int)+1)).f0=nm0 at *;generalize Zcm G t nm0=wb at *;refine Zeb 21 _ Zrx (Znt gb b7 G.f0.length G.f1.length ns nm0.length ct cr sc c0 j At S0 rad sd t wb) Zca (by kernel_rfl) (by kernel_rfl) (by kernel_rfl) rfl Zbk Zbf ?step ?fin
   case step=>
    refine⟨?_,?_,?_,?_,?_,?_,?_,?_,?_,?_,?_,?_,?_,?_,?_,?_,?_,?_,?_,?_,?_,trivial⟩ <;> intro W hR0 <;> have hR:=Zaf (Zam (Below.refl _ Z)) hR0
    all_goals try (
     first | refine Zal rfl (Zad (W':=W) ?_ ⟨Zbr,rfl⟩) | refine Zbo (by simp only[Zao,Zrx,Zai,Znt];rfl) (Zad (W':=W) ?_ ⟨Zbr,rfl⟩)
     have:=HJW.out;have:=HJW2.out;have:=HJL.out;have:=HJ0.out;have c0:=Zab hR g0;have c1:=Zab hR g1;have c2:=Zab hR x9;have c3:=Zab hR s0;simp only[Zao,Zrx,Zai,Znt];go_simp
     done)
    ·refine Zbo (by simp only[Zao,Zrx,Zai,Znt];rfl) (Zbi (W':=W) (f:=42) (args:=#[.agg #[.slice At G.f0.length ct,.slice (some rad) G.f1.length cr],.slice S0 nm0.length c0,.int .i64 t]) ?_ ((HWI.out W hR).mono ?_))
     ·simp only[Zao,Zrx,Zai,Znt];go_simp
     ·rintro e w1 ⟨rfl,hb⟩;exact⟨_,rfl,hb,rfl⟩
   case fin=>
    intro W hR0;have hR:=Zaf (Zam (Below.refl _ Z)) hR0;clear hR0;rw[show List.range 21=[0,1,2,3,4,5,6,7,8,9,10,11,12,13,14,15,16,17,18,19,20]from rfl];simp only[Zao,Zai,Znt,Act.put,List.getElem?_toArray,List.getElem?_cons_zero,List.getElem?_cons_succ,Option.bind_some,List.setIfInBounds_toArray,List.set_cons_zero,List.set_cons_succ,List.drop_succ_cons,List.drop_zero];have HBY:=Zaa.mk hR;have x8:=Zab hR x8;have x9:=Zab hR x9;clear hR;cases wb
    case' false=>
     have HRS:Zaa (res=O):=⟨by rw[HE.out,if_neg];rintro⟨_,_,_,_,h⟩;exact absurd h (by simp)⟩
     clear HE;go_wp2
     go_ret
     rw[HRS.out];exact⟨_,rfl,Kd.R_below HUZ.out HBY.out,Zaf HBW.out HBY.out⟩
    case' true=>
     have HRS:Zaa (res=Zoj (bg u5 ((j:Int)+1),-1) O):=⟨by rw[HE.out,if_pos];exact⟨by trivial,HE7.out,HR5.out,HJL.out,by trivial⟩⟩
     clear HE;have hjw:=HJW.out;have HBG:=Zaa.mk (Zje W gb G its ss (HV.out.below (Zaf HBW.out HBY.out)) (by have:=HOK.out.len;omega) u5 ((j:Int)+1));have HPC:=Zaa.mk (fun r=>Zmb W w.heap.size (.slice Au O.length cu) O r (-1) (Kd.R_below HUZ.out HBY.out) (Zaf HBW.out HBY.out).size (by have:=HLN.out;omega))
     go_wp2_with (first | (go_at_call 52;(with_reducible refine HBG.out.mono ?_);rintro e w5 ⟨r5,rfl,hr5,hw5⟩;obtain rfl:=hw5.symm;have HR5:=Zaa.mk (HBQ.out r5 hr5);clear hr5) | (go_at_call 51;(with_reducible refine (HPC.out _).mono ?_);rintro e w6 ⟨v6,rfl,hv6,hb6⟩;obtain⟨A6,c6,rfl⟩:=Kd.R_slice hv6;have HV6:=Zaa.mk hv6;have HB6:=Zaa.mk hb6;clear hv6 hb6))
     go_ret
     rw[HRS.out];exact⟨_,rfl,by rw[←HR5.out];exact HV6.out,Zaf (Zaf HBW.out HBY.out) HB6.out⟩
end Go.Proofs.YtpagbjdmiepgmaaGreatDoor.PVpa
