/- Joined from texts of this seat, in their order. -/
import Derived.Test.YtaokkliamoghbaaGreatDoorJAg
import Derived.Deep.RegionHeld3
set_option linter.unusedVariables false
set_option linter.unusedSimpArgs false
set_option linter.unusedSectionVars false
set_option maxRecDepth 100000
namespace Go.Proofs.YtaokkliamoghbaaGreatDoor.PVpa
open Go.RowKit Go.Proofs.YtaokkliamoghbaaGreatDoorW.PrintWords Go.Proofs.YtaokkliamoghbaaGreatDoorW.PrintLast Go.Proofs.YtaokkliamoghbaaGreatDoorW.PrintMore
def PatV (w0:W0)(p:S76)(v:Value):Prop:=
 ∃A1 c1 A2 c2 A3 c3,v=.agg #[.int .i64 p.f0,.slice A1 p.f1.length c1,.slice A2 p.f2.length c2,.slice A3 p.f3.length c3] ∧
  p.f1.length≤c1∧Kd.string.C w0 A1 p.f1.length p.f1∧p.f2.length≤c2∧Kd.string.C w0 A2 p.f2.length p.f2∧p.f3.length≤c3∧k76.C w0 A3 p.f3.length p.f3
def Zge (φ:Nat→Nat)(sh:List (Nat × Sh)):Prop:=∀k k' x x',(k,x)∈sh→(k',x')∈sh→φ k=φ k'→k=k'
structure Zlh (w0:W0)(W:World)(gb:Nat)(h0 h1 vs vf:Value)(φ:Nat→Nat)(v:Value)(s:St)(x:Sx)(s':St)(e:Ending)(w':World):Prop where
 out:∃v1 v2 φ' v',e=.returned (.agg #[.int .i64 0,v1,v2,.bool x.empty,.int .i64 0,.int .i64 0])∧Ri w0 w' v1 x.first∧Ri w0 w' v2 x.last∧VS w0 w' gb h0 h1 vs vf φ' v' s'.pl s'.sh∧KeptV W w' gb v∧NewOr W v v' ∧
  (∀k,k<s.pl.length→φ' k=φ k)∧(∀k y,(k,y)∈s'.sh→(k,y)∈s.sh∨(s.pl.length≤k∧W.heap.size≤φ' k))∧(Zge φ s.sh→Zge φ' s'.sh)
def WalkC (n:Nat):Prop:=∀(w0:W0) (W:World) (gb:Nat) (h0 h1 vs vf:Value) (φ:Nat→Nat) (v:Value) (s:St) (b:Nat) (p:S76) (vp:Value),VS w0 W gb h0 h1 vs vf φ v s.pl s.sh→Good s→b<s.pl.length→Zfc n p→s.pl.length+Zcy n p≤100000→PatV w0 p vp →
 Calls Tryz.prog 75 #[.pointer (some ⟨gb,0,none⟩),.pointer (some ⟨φ b,0,none⟩),vp] W (Zlh w0 W gb h0 h1 vs vf φ v s (Zax n b p s).1 (Zax n b p s).2)
theorem VS.other {w0:W0}{W W':World}{gb:Nat}{h0 h1 vs vf:Value}{φ:Nat→Nat}{v:Value}{pl:List Pl}{sh:List (Nat × Sh)}(h:VS w0 W gb h0 h1 vs vf φ v pl sh){br:Nat}{cs:Array Value}(hr:W.heap[br]?=some (.cells cs 126 (0,0)))(hk:Kept W W' (fun k=>k=br))(hb:Below w0.heap.size w0 W')(hn:∀k x,(k,x)∈sh→φ k≠br):VS w0 W' gb h0 h1 vs vf φ v pl sh:=by
 have ks:Same3 W W':=fun k cells hc=>hk.2 k (Zau hc) (fun he=>by subst he;rw[hr]at hc;injection hc with hc;injection hc with _ hc;exact absurd hc (by decide))
 obtain⟨inner,ho,hre⟩:=h.row;refine⟨h.ge,?_,⟨inner,Zci ho (fun k hk'=>hk.2 k (Zdb ho k hk') (fun he=>by subst he;obtain⟨cells,hc⟩:=Zaq ho _ hk';rw[hr]at hc;injection hc with hc;injection hc with _ hc;exact absurd hc (by decide))),hre.imp_ (fun _ _ hp=>hp.same ks)⟩,fun k x hx=>(h.shapes k x hx).keep ks (fun cs hc=>hk.2 _ (Zau hc) (hn k x hx)),hb,fun k hk'=>h.new k (Nat.le_trans hk.1 hk')⟩;exact (hk.2 gb (Zau h.blk) (fun he=>by subst he;have h2:=h.blk;rw[hr]at h2;injection h2 with hc;injection hc with _ hc;exact absurd hc (by decide))).trans h.blk
abbrev Zcc:Array Value:=#[.int .i64 0,.slice none 0 0,.slice none 0 0,.bool false,.int .i64 0,.int .i64 0]
structure Fr (W X:World)(bp br:Nat)(pc:Array Value):Prop where
 p:X.heap[bp]?=some (.cells pc 73 (0,0))
 r:X.heap[br]?=some (.cells Zcc 126 (0,0))
 lo:W.heap.size≤br
 sz:W.heap.size≤X.heap.size
theorem Fr.first (W:World)(pc:Array Value):Fr W ((W.alloc (.cells pc 73)).alloc (.cells Zcc 126)) W.heap.size (W.heap.size+1) pc:=by
 refine⟨Zai (Zaj W _) _,?_,by omega,by simp;omega⟩;have:=Zaj (W.alloc (.cells pc 73)) (.cells Zcc 126);simpa using this
theorem Fr.below {W X X':World}{bp br:Nat}{pc:Array Value}(h:Fr W X bp br pc)(hb:Below X.heap.size X X'):Fr W X' bp br pc:=⟨Zaf h.p hb,Zaf h.r hb,h.lo,Nat.le_trans h.sz hb.size⟩
theorem Fr.kept {W X X':World}{bp br:Nat}{pc:Array Value}(h:Fr W X bp br pc){w0:W0}{gb:Nat}{h0 h1 vs vf:Value}{φ:Nat→Nat}{v:Value}{pl:List Pl}{sh:List (Nat × Sh)}(hv:VS w0 X gb h0 h1 vs vf φ v pl sh)(hk:KeptV X X' gb v):Fr W X' bp br pc:=
 ⟨hv.keep hk h.p (by decide) (by decide),hv.keep hk h.r (by decide) (by decide),h.lo,Nat.le_trans h.sz hk.1⟩
structure Cl (X:World)(bp br:Nat)(pc:Array Value):Prop where
 p:∀i u,pc[i]?=some u→X.cell? ⟨bp,i,none⟩=some u
 p2:∀i u,pc[i]?=some u→∀o o',((X.alloc o).alloc o').cell? ⟨bp,i,none⟩=some u
 r:∀i u,Zcc[i]?=some u→X.cell? ⟨br,i,none⟩=some u
 r2:∀i u,Zcc[i]?=some u→∀o o',((X.alloc o).alloc o').cell? ⟨br,i,none⟩=some u
 f:∀i,X.frozen? ⟨br,i,none⟩=false
 f2:∀i o o',((X.alloc o).alloc o').frozen? ⟨br,i,none⟩=false
theorem Fr.cl {W X:World}{bp br:Nat}{pc:Array Value}(h:Fr W X bp br pc):Cl X bp br pc:=
 ⟨fun i _ hu=>(Zaa h.p i).trans hu,fun i _ hu o o'=>(Zaa (Zai (Zai h.p o) o') i).trans hu,fun i _ hu=>(Zaa h.r i).trans hu,fun i _ hu o o'=>(Zaa (Zai (Zai h.r o) o') i).trans hu,
  fun i=>Zam h.r i,fun i o o'=>Zam (Zai (Zai h.r o) o') i⟩
def put6 (Y:World)(br:Nat)(d0 d1 d2 d3 d4 d5:Value):World:=
 (((((Y.setCell ⟨br,0,none⟩ d0).setCell ⟨br,1,none⟩ d1).setCell ⟨br,2,none⟩ d2).setCell ⟨br,3,none⟩ d3).setCell ⟨br,4,none⟩ d4).setCell ⟨br,5,none⟩ d5
theorem put6_blk {Y:World}{br:Nat}{cs:Array Value}(hc:cs.size=6)(h:Y.heap[br]?=some (.cells cs 126 (0,0)))(d0 d1 d2 d3 d4 d5:Value):(put6 Y br d0 d1 d2 d3 d4 d5).heap[br]?=some (.cells #[d0,d1,d2,d3,d4,d5] 126 (0,0)):=by
 obtain⟨l⟩:=cs;obtain⟨a0,a1,a2,a3,a4,a5,rfl⟩:∃a0 a1 a2 a3 a4 a5,l=[a0,a1,a2,a3,a4,a5]:=by
  match l,hc with
  | [a0,a1,a2,a3,a4,a5],_=>exact⟨a0,a1,a2,a3,a4,a5,rfl⟩
 unfold put6;refine Zce (cs:=#[d0,d1,d2,d3,d4,a5]) ?_ 5 _ rfl
 refine Zce (cs:=#[d0,d1,d2,d3,a4,a5]) ?_ 4 _ rfl
 refine Zce (cs:=#[d0,d1,d2,a3,a4,a5]) ?_ 3 _ rfl
 refine Zce (cs:=#[d0,d1,a2,a3,a4,a5]) ?_ 2 _ rfl
 refine Zce (cs:=#[d0,a1,a2,a3,a4,a5]) ?_ 1 _ rfl
 exact Zce (cs:=#[a0,a1,a2,a3,a4,a5]) h 0 _ rfl
theorem Zki (Y:World)(br:Nat)(d0 d1 d2 d3 d4 d5:Value):Kept Y (put6 Y br d0 d1 d2 d3 d4 d5) (fun k=>k=br):=by
 refine⟨by simp[put6,World.setCell],fun i _ hn=>?_⟩;unfold put6
 iterate 6 rw[Below.heap_setCell _ _ _ i (fun he=>hn he)]
theorem Zma {w0:W0}{Y:World}{br:Nat}(h:Below w0.heap.size w0 Y)(hb:w0.heap.size≤br)(d0 d1 d2 d3 d4 d5:Value):Below w0.heap.size w0 (put6 Y br d0 d1 d2 d3 d4 d5):=by
 unfold put6
 iterate 6 refine Below.setCell ?_ hb _
 exact h
abbrev put97 (Y:World)(br:Nat)(c1 c2:Value)(e:Bool):World:=put6 Y br (.int .i64 0) c1 c2 (.bool e) (.int .i64 0) (.int .i64 0)
theorem Zck {Y:World}{br:Nat}{cs:Array Value}(hc:cs.size=6)(h:Y.heap[br]?=some (.cells cs 126 (0,0)))(c1 c2:Value)(e:Bool):(put97 Y br c1 c2 e).heap[br]?=some (.cells #[.int .i64 0,c1,c2,.bool e,.int .i64 0,.int .i64 0] 126 (0,0)):=put6_blk hc h _ _ _ _ _ _
theorem put97_kept (Y:World)(br:Nat)(c1 c2:Value)(e:Bool):Kept Y (put97 Y br c1 c2 e) (fun k=>k=br):=Zki _ _ _ _ _ _ _ _
theorem Zqq {w0:W0}{Y:World}{br:Nat}(h:Below w0.heap.size w0 Y)(hb:w0.heap.size≤br)(c1 c2:Value)(e:Bool):Below w0.heap.size w0 (put97 Y br c1 c2 e):=Zma h hb _ _ _ _ _ _
theorem Zha {W W':World}{br:Nat}{cs:Array Value}(hr:W.heap[br]?=some (.cells cs 126 (0,0)))(hk:Kept W W' (fun k=>k=br)):Same3 W W':=
 fun k cells hc=>hk.2 k (Zau hc) (fun he=>by subst he;rw[hr]at hc;injection hc with hc;injection hc with _ hc;exact absurd hc (by decide))
theorem Zdn {w0:W0}{W Y:World}{gb:Nat}{h0 h1 vs vf:Value}{φ φ':Nat→Nat}{v v':Value}{s s':St}{x:Sx}{bp br:Nat}{pc:Array Value}{c1 c2:Value}(hv:VS w0 W gb h0 h1 vs vf φ v s.pl s.sh)(hg:Good s)
 (hf:Fr W Y bp br pc) (hy:VS w0 Y gb h0 h1 vs vf φ' v' s'.pl s'.sh) (hk:KeptV W Y gb v) (hn:NewOr W v v') (r1:Ri w0 Y c1 x.first) (r2:Ri w0 Y c2 x.last)
 (he:∀k,k<s.pl.length→φ' k=φ k) (hs:∀k y,(k,y)∈s'.sh→(k,y)∈s.sh∨(s.pl.length≤k∧br<φ' k)) (hi:Zge φ s.sh→Zge φ' s'.sh) :
 Zlh w0 W gb h0 h1 vs vf φ v s x s' (.returned (.agg #[.int .i64 0,c1,c2,.bool x.empty,.int .i64 0,.int .i64 0])) (put97 Y br c1 c2 x.empty):=by
 have hp:=put97_kept Y br c1 c2 x.empty;have h3:=Zha hf.r hp;have hlo:=hf.lo;refine⟨c1,c2,φ',v',rfl,r1.same h3,r2.same h3,hy.other hf.r hp (Zqq hy.bel (Nat.le_trans hv.bel.size hlo) _ _ _) (fun k y hky he'=>?_),?_,hn,he,fun k y hky=>?_,hi⟩
 ·rcases hs k y hky with h | ⟨_,h⟩
  ·have hlt:=(hg.shs k y h).1;obtain⟨v1,v2,hc,_⟩:=(hv.shapes k y h).cells;have:=Zau hc;rw[he k hlt]at he';omega
  ·omega
 ·exact hk.then_ hp (fun k hk'=>.inr (by rw[hk'];exact hlo))
 ·rcases hs k y hky with h | ⟨h,h2⟩
  ·exact .inl h
  ·exact .inr ⟨h,by omega⟩
theorem ri_one {w0:W0}{w:World}(hb:w0.heap.size≤w.heap.size)(hn:∀k,w.heap.size≤k→w0.ok k)(q:Int)(g:Nat)(hg:g=w.heap.size):Ri w0 (w.alloc (.cells #[.int .i64 q] 3)) (.slice (some ⟨g,0,none⟩) 1 1) [q]:=by
 obtain⟨v,e,hr,_⟩:=Znn hg (Below.refl _ w) q;injection e with e
 subst e;exact Kd.R_of_own (Kd.own_of_R (Kd.R_lower hr hb)) (fun k hk=>hn k (World.ownsRow.lt (Kd.own_of_R hr) k hk).1)
theorem Zap {w0:W0}{w w':World}{v:Value}{l:List Int}(h:Ri w0 w v l)(hb:Below w.heap.size w w'):Ri w0 w' v l:=h.same (Same3.below hb)
theorem Znl {w0:W0}{W Y:World}{gb:Nat}{h0 h1 vs vf:Value}{φ φ':Nat→Nat}{v v':Value}{s s':St}{bp br:Nat}{pc:Array Value}{k:Int}{e:Bool}(hv:VS w0 W gb h0 h1 vs vf φ v s.pl s.sh)(hg:Good s)
 (hf:Fr W Y bp br pc) (hy:VS w0 Y gb h0 h1 vs vf φ' v' s'.pl s'.sh) (hk:KeptV W Y gb v) (hn:NewOr W v v')
 (he:∀k,k<s.pl.length→φ' k=φ k) (hs:∀k y,(k,y)∈s'.sh→(k,y)∈s.sh∨(s.pl.length≤k∧br<φ' k)) (hi:Zge φ s.sh→Zge φ' s'.sh) (g1 g2:Nat) (e1:g1=Y.heap.size) (e2:g2=Y.heap.size+1) :
 Zlh w0 W gb h0 h1 vs vf φ v s ⟨[k],[k],e⟩ s' (.returned (.agg #[.int .i64 0,.slice (some ⟨g1,0,none⟩) 1 1,.slice (some ⟨g2,0,none⟩) 1 1,.bool e,.int .i64 0,.int .i64 0]))
  (put97 ((Y.alloc (.cells #[.int .i64 k] 3)).alloc (.cells #[.int .i64 k] 3)) br (.slice (some ⟨g1,0,none⟩) 1 1) (.slice (some ⟨g2,0,none⟩) 1 1) e):=by
 have b1:=Zab (Below.refl Y.heap.size Y) (.cells #[.int .i64 k] 3);have b2:=Zab (Below.refl (Y.alloc (.cells #[.int .i64 k] 3)).heap.size (Y.alloc (.cells #[.int .i64 k] 3))) (.cells #[.int .i64 k] 3);have b3:=Zae b1 b2;exact Zdn (x:=⟨[k],[k],e⟩) hv hg (hf.below b3) (hy.below b3) (hk.below b3) hn (Zap (ri_one hy.bel.size hy.new k g1 e1) b2) (ri_one (by have h9:w0.heap.size≤Y.heap.size:=hy.bel.size;simp;omega) (fun j hj=>hy.new j (by simp at hj;omega)) k g2 (by simp[e2])) he hs hi
set_option maxHeartbeats 4000000 in
theorem walk_tok (n:Nat)(w0:W0)(W:World)(gb:Nat)(h0 h1 vs vf:Value)(φ:Nat→Nat)(v:Value)(s:St)(b:Nat)(p:S76)(vp:Value)(h:VS w0 W gb h0 h1 vs vf φ v s.pl s.sh)(hg:Good s)(hb:b<s.pl.length)(hn:s.pl.length≤99999)(hp:PatV w0 p vp)(hk:p.f0=2) :
 Calls Tryz.prog 75 #[.pointer (some ⟨gb,0,none⟩),.pointer (some ⟨φ b,0,none⟩),vp] W (Zlh w0 W gb h0 h1 vs vf φ v s ⟨[(s.pl.length:Int)],[(s.pl.length:Int)],false⟩ (s.add (Zbe b p))):=by
 obtain⟨A1,c1,A2,c2,A3,c3,rfl,l1,g1,l2,g2,l3,g3⟩:=hp;rw[hk];have HV:=Zrw.mk h;have HP:Zrw (∀W',PlV φ w0 W' (Zbe b p) (.agg #[.int .i64 3,.pointer (some ⟨φ b,0,none⟩),.int .i64 2,.slice A1 p.f1.length c1,.slice A2 p.f2.length c2,.slice A3 p.f3.length c3,.pointer none,.slice none 0 0,.int .i64 0])):=
  ⟨fun W'=>⟨_,rfl,A1,c1,A2,c2,A3,c3,.slice none 0 0,by rw[←hk];rfl,l1,g1,l2,g2,l3,g3,Kd.R_nil _ _ _ _ _⟩⟩
 have HG:=Zrw.mk hg;clear h hg g1 g2 g3
 go_enter Tryz.func75,Tryz.ntmps75
 go_upto_region 1 with (fail)
 have HFR:=Zrw.mk (Fr.first W #[.int .i64 2,.slice A1 p.f1.length c1,.slice A2 p.f2.length c2,.slice A3 p.f3.length c3]);have HVX:=Zrw.mk (HV.out.below (Zab (Zab (Below.refl _ W) (.cells #[.int .i64 2,.slice A1 p.f1.length c1,.slice A2 p.f2.length c2,.slice A3 p.f3.length c3] 73)) (.cells Zcc 126)));have HKX:=Zrw.mk (KeptV.of_below (Zab (Zab (Below.refl _ W) (.cells #[.int .i64 2,.slice A1 p.f1.length c1,.slice A2 p.f2.length c2,.slice A3 p.f3.length c3] 73)) (.cells Zcc 126)) gb v);generalize (W.alloc (.cells #[.int .i64 2,.slice A1 p.f1.length c1,.slice A2 p.f2.length c2,.slice A3 p.f3.length c3] 73)).alloc (.cells Zcc 126)=X at *;generalize W.heap.size+1=br at *;generalize W.heap.size=bp at *;have p0:=HFR.out.cl.p 0 _ rfl;have p1:=HFR.out.cl.p 1 _ rfl;have p2:=HFR.out.cl.p 2 _ rfl;have p3:=HFR.out.cl.p 3 _ rfl
 go_wp2_with (go_at_call 59;(with_reducible refine (Zgq w0 X gb h0 h1 vs vf φ v s.pl s.sh HVX.out (Zbe b p) _ (HP.out _) (by omega)).mono ?_);rintro e w5 ⟨rfl,v5,hv5,hk5,hn5⟩;have HFR5:=Zrw.mk (HFR.out.kept HVX.out hk5);have p0:=HFR5.out.cl.p 0 _ rfl;have p0a:=HFR5.out.cl.p2 0 _ rfl;have r0:=HFR5.out.cl.r2 0 _ rfl;have r1:=HFR5.out.cl.r2 1 _ rfl;have r2:=HFR5.out.cl.r2 2 _ rfl;have r3:=HFR5.out.cl.r2 3 _ rfl;have r4:=HFR5.out.cl.r2 4 _ rfl;have r5:=HFR5.out.cl.r2 5 _ rfl;have rf:=HFR5.out.cl.f2;have HV5:=Zrw.mk hv5;have HK5:=Zrw.mk hk5;have HN5:=Zrw.mk hn5;clear hv5 hk5 hn5)
 refine bodyPost_ret (results_cell_row rfl _ _ br 126 #[.int .i64 0,.slice (some ⟨w5.heap.size,0,none⟩) 1 1,.slice (some ⟨w5.heap.size+1,0,none⟩) 1 1,.bool false,.int .i64 0,.int .i64 0] (0,0) _ rfl (Zck rfl (Zai (Zai HFR5.out.r _) _) _ _ _) Tryz.underlying126 rfl (by kernel_rfl)) rfl ?_
 exact Znl (s':=s.add (Zbe b p)) HV.out HG.out HFR5.out HV5.out (HKX.out.trans HK5.out (NewOr.refl _ _)) (HN5.out.elim .inl (fun⟨g,h1,h2⟩=>.inr ⟨g,h1,Nat.le_trans HKX.out.1 h2⟩)) (fun _ _=>rfl) (fun _ _ h=>.inl h) (fun h=>h) _ _ rfl rfl
theorem Zec {W X:World}{v v':Value}{gb:Nat}(hk:KeptV W X gb v)(hn:NewOr X v v'):NewOr W v v':=hn.elim .inl (fun⟨g,h1,h2⟩=>.inr ⟨g,h1,Nat.le_trans hk.1 h2⟩)
set_option maxHeartbeats 4000000 in
theorem walk_well (n:Nat)(w0:W0)(W:World)(gb:Nat)(h0 h1 vs vf:Value)(φ:Nat→Nat)(v:Value)(s:St)(b:Nat)(p:S76)(vp:Value)(h:VS w0 W gb h0 h1 vs vf φ v s.pl s.sh)(hg:Good s)(hb:b<s.pl.length)(hn:s.pl.length≤99999)(hp:PatV w0 p vp)(hk:p.f0=4) :
 Calls Tryz.prog 75 #[.pointer (some ⟨gb,0,none⟩),.pointer (some ⟨φ b,0,none⟩),vp] W (Zlh w0 W gb h0 h1 vs vf φ v s ⟨[(s.pl.length:Int)],[(s.pl.length:Int)],true⟩ ((s.add (Zbe b p)).link [(s.pl.length:Int)] [(s.pl.length:Int)])):=by
 obtain⟨A1,c1,A2,c2,A3,c3,rfl,l1,g1,l2,g2,l3,g3⟩:=hp;rw[hk];have HV:=Zrw.mk h;have HP:Zrw (∀W',PlV φ w0 W' (Zbe b p) (.agg #[.int .i64 3,.pointer (some ⟨φ b,0,none⟩),.int .i64 4,.slice A1 p.f1.length c1,.slice A2 p.f2.length c2,.slice A3 p.f3.length c3,.pointer none,.slice none 0 0,.int .i64 0])):=
  ⟨fun W'=>⟨_,rfl,A1,c1,A2,c2,A3,c3,.slice none 0 0,by rw[←hk];rfl,l1,g1,l2,g2,l3,g3,Kd.R_nil _ _ _ _ _⟩⟩
 have HG:=Zrw.mk hg;have HGA:=Zrw.mk (show AllRis (s.pl++[Zbe b p]).length (s.pl++[Zbe b p])from (hg.add (Zbe b p) rfl (fun k hk=>by injection hk with hk;omega) (fun k hk=>by cases hk)).ris);clear h hg g1 g2 g3
 go_enter Tryz.func75,Tryz.ntmps75
 go_upto_region 1 with (fail)
 have HFR:=Zrw.mk (Fr.first W #[.int .i64 4,.slice A1 p.f1.length c1,.slice A2 p.f2.length c2,.slice A3 p.f3.length c3]);have HVX:=Zrw.mk (HV.out.below (Zab (Zab (Below.refl _ W) (.cells #[.int .i64 4,.slice A1 p.f1.length c1,.slice A2 p.f2.length c2,.slice A3 p.f3.length c3] 73)) (.cells Zcc 126)));have HKX:=Zrw.mk (KeptV.of_below (Zab (Zab (Below.refl _ W) (.cells #[.int .i64 4,.slice A1 p.f1.length c1,.slice A2 p.f2.length c2,.slice A3 p.f3.length c3] 73)) (.cells Zcc 126)) gb v);generalize (W.alloc (.cells #[.int .i64 4,.slice A1 p.f1.length c1,.slice A2 p.f2.length c2,.slice A3 p.f3.length c3] 73)).alloc (.cells Zcc 126)=X at *;generalize W.heap.size+1=br at *;generalize W.heap.size=bp at *;have p0:=HFR.out.cl.p 0 _ rfl;have p1:=HFR.out.cl.p 1 _ rfl;have p2:=HFR.out.cl.p 2 _ rfl;have p3:=HFR.out.cl.p 3 _ rfl
 go_wp2_with (first | (go_at_call 59;(with_reducible refine (Zgq w0 X gb h0 h1 vs vf φ v s.pl s.sh HVX.out (Zbe b p) _ (HP.out _) (by omega)).mono ?_);rintro e w5 ⟨rfl,v5,hv5,hk5,hn5⟩;have HFR5:=Zrw.mk (HFR.out.kept HVX.out hk5);have p0:=HFR5.out.cl.p 0 _ rfl;have HV5:=Zrw.mk hv5;have HK5:=Zrw.mk hk5;have HN5:=Zrw.mk hn5;clear hv5 hk5 hn5) | (go_at_call 95;(with_reducible refine (Zks w0 ((w5.alloc (.cells #[.int .i64 s.pl.length] 3)).alloc (.cells #[.int .i64 s.pl.length] 3)) gb h0 h1 vs vf φ v5 _ s.sh ((HV5.out.below (Zab Zbr _)).below (Zab Zbr _)) _ _ [(s.pl.length:Int)] [(s.pl.length:Int)] (Zap (ri_one HV5.out.bel.size HV5.out.new _ _ rfl) (Zab Zbr _)) (ri_one (by have h9:w0.heap.size≤w5.heap.size:=HV5.out.bel.size;simp;omega) (fun j hj=>HV5.out.new j (by simp at hj;omega)) _ _ (by simp)) (Ris.one (by omega) (by simp;omega)) (Ris.one (by omega) (by simp;omega)) HGA.out (by simp;omega)).mono ?_);rintro e w6 ⟨rfl,hv6,hk6⟩;have hk6:=KeptV.trans (KeptV.of_below (Zae (Zab (Below.refl _ w5) (.cells #[.int .i64 s.pl.length] 3)) (Zab Zbr (.cells #[.int .i64 s.pl.length] 3))) gb v5) hk6 (NewOr.refl _ _);have HFR6:=Zrw.mk (HFR5.out.kept HV5.out hk6);have p0:=HFR6.out.cl.p 0 _ rfl;have p0a:=HFR6.out.cl.p2 0 _ rfl;have r0:=HFR6.out.cl.r2 0 _ rfl;have r1:=HFR6.out.cl.r2 1 _ rfl;have r2:=HFR6.out.cl.r2 2 _ rfl;have r3:=HFR6.out.cl.r2 3 _ rfl;have r4:=HFR6.out.cl.r2 4 _ rfl;have r5:=HFR6.out.cl.r2 5 _ rfl;have rf:=HFR6.out.cl.f2;have HV6:=Zrw.mk hv6;have HK6:=Zrw.mk hk6;clear hv6 hk6))
 refine bodyPost_ret (results_cell_row rfl _ _ br 126 #[.int .i64 0,.slice (some ⟨w6.heap.size,0,none⟩) 1 1,.slice (some ⟨w6.heap.size+1,0,none⟩) 1 1,.bool true,.int .i64 0,.int .i64 0] (0,0) _ rfl (Zck rfl (Zai (Zai HFR6.out.r _) _) _ _ _) Tryz.underlying126 rfl (by kernel_rfl)) rfl ?_
 exact Znl (s':=(s.add (Zbe b p)).link [(s.pl.length:Int)] [(s.pl.length:Int)]) HV.out HG.out HFR6.out HV6.out (HKX.out.trans (HK5.out.trans HK6.out HN5.out) (NewOr.refl _ _)) (Zec HKX.out HN5.out) (fun _ _=>rfl) (fun _ _ h=>.inl h) (fun h=>h) _ _ rfl rfl
set_option maxHeartbeats 4000000 in
theorem walk_none (w0:W0)(W:World)(gb:Nat)(h0 h1 vs vf:Value)(φ:Nat→Nat)(v:Value)(s:St)(b:Nat)(p:S76)(vp:Value)(h:VS w0 W gb h0 h1 vs vf φ v s.pl s.sh)(hg:Good s)(hp:PatV w0 p vp)(k2:p.f0≠2)(k3:p.f0≠3)(k4:p.f0≠4)(k5:p.f0≠5)(k6:p.f0≠6)(k7:p.f0≠7) :
 Calls Tryz.prog 75 #[.pointer (some ⟨gb,0,none⟩),.pointer (some ⟨φ b,0,none⟩),vp] W (Zlh w0 W gb h0 h1 vs vf φ v s ⟨[],[],true⟩ s):=by
 obtain⟨A1,c1,A2,c2,A3,c3,rfl,l1,g1,l2,g2,l3,g3⟩:=hp;have HV:=Zrw.mk h;have HG:=Zrw.mk hg;have z2:(p.f0==2)=false:=by simpa using k2
 have z3:(p.f0==3)=false:=by simpa using k3
 have z4:(p.f0==4)=false:=by simpa using k4
 have z5:(p.f0==5)=false:=by simpa using k5
 have z6:(p.f0==6)=false:=by simpa using k6
 have z7:(p.f0==7)=false:=by simpa using k7
 clear h hg g1 g2 g3 k2 k3 k4 k5 k6 k7;generalize p.f0=kd at *
 go_enter Tryz.func75,Tryz.ntmps75
 go_upto_region 1 with (fail)
 have HFR:=Zrw.mk (Fr.first W #[.int .i64 kd,.slice A1 p.f1.length c1,.slice A2 p.f2.length c2,.slice A3 p.f3.length c3]);have HVX:=Zrw.mk (HV.out.below (Zab (Zab (Below.refl _ W) (.cells #[.int .i64 kd,.slice A1 p.f1.length c1,.slice A2 p.f2.length c2,.slice A3 p.f3.length c3] 73)) (.cells Zcc 126)));have HKX:=Zrw.mk (KeptV.of_below (Zab (Zab (Below.refl _ W) (.cells #[.int .i64 kd,.slice A1 p.f1.length c1,.slice A2 p.f2.length c2,.slice A3 p.f3.length c3] 73)) (.cells Zcc 126)) gb v);generalize (W.alloc (.cells #[.int .i64 kd,.slice A1 p.f1.length c1,.slice A2 p.f2.length c2,.slice A3 p.f3.length c3] 73)).alloc (.cells Zcc 126)=X at *;generalize W.heap.size+1=br at *;generalize W.heap.size=bp at *;have p0:=HFR.out.cl.p 0 _ rfl;have r0:=HFR.out.cl.r 0 _ rfl;have r1:=HFR.out.cl.r 1 _ rfl;have r2:=HFR.out.cl.r 2 _ rfl;have r3:=HFR.out.cl.r 3 _ rfl;have r4:=HFR.out.cl.r 4 _ rfl;have r5:=HFR.out.cl.r 5 _ rfl;have rf:=HFR.out.cl.f;go_wp2
 refine bodyPost_ret (results_cell_row rfl _ _ br 126 #[.int .i64 0,.slice none 0 0,.slice none 0 0,.bool true,.int .i64 0,.int .i64 0] (0,0) _ rfl (Zck rfl HFR.out.r _ _ _) Tryz.underlying126 rfl (by kernel_rfl)) rfl ?_
 exact Zdn (x:=⟨[],[],true⟩) (s':=s) HV.out HG.out HFR.out HVX.out HKX.out (NewOr.refl _ _) (Kd.R_nil _ _ _ _ _) (Kd.R_nil _ _ _ _ _) (fun _ _=>rfl) (fun _ _ h=>.inl h) (fun h=>h)
theorem VS.phi {w0:W0}{W:World}{gb:Nat}{h0 h1 vs vf:Value}{φ φ':Nat→Nat}{v:Value}{s:St}(h:VS w0 W gb h0 h1 vs vf φ v s.pl s.sh)(hg:Good s)(he:∀k,k<s.pl.length→φ' k=φ k):VS w0 W gb h0 h1 vs vf φ' v s.pl s.sh:=by
 obtain⟨inner,ho,hr⟩:=h.row;refine⟨h.ge,h.blk,⟨inner,ho,hr.1,fun j p hj=>?_⟩,fun k x hx=>by rw[he k (hg.shs k x hx).1];exact h.shapes k x hx,h.bel,h.new⟩;have e:s.pl.getD j zPl=p:=by rw[List.getD_eq_getElem?_getD,hj];rfl
 exact (hr.2 j p hj).phi (fun k hk=>he k (hg.ids j k (by rw[e];exact hk))) (fun k hk=>he k (hg.ins j k (by rw[e];exact hk)))
structure PatE (w0:W0)(W:World)(gb:Nat)(h0 h1 vs vf:Value)(φ:Nat→Nat)(v:Value)(s s':St)(e:Ending)(w':World):Prop where
 out:∃φ' v',e=.returned (.pointer (some ⟨φ' s.pl.length,0,none⟩))∧VS w0 w' gb h0 h1 vs vf φ' v' s'.pl s'.sh∧KeptV W w' gb v∧NewOr W v v' ∧
  (∀k,k<s.pl.length→φ' k=φ k)∧(∀k y,(k,y)∈s'.sh→(k,y)∈s.sh∨(s.pl.length≤k∧W.heap.size≤φ' k))∧(Zge φ s.sh→Zge φ' s'.sh)
def PatC (n:Nat):Prop:=∀(w0:W0) (W:World) (gb:Nat) (h0 h1 vs vf:Value) (φ:Nat→Nat) (v:Value) (s:St) (p:S76) (vp:Value) (rule step:Int),VS w0 W gb h0 h1 vs vf φ v s.pl s.sh→Good s→Zfc n p→s.pl.length+1+Zcy n p≤100000→PatV w0 p vp →
 Calls Tryz.prog 60 #[.pointer (some ⟨gb,0,none⟩),vp,.int .i64 rule,.int .i64 step] W (PatE w0 W gb h0 h1 vs vf φ v s (Zhp (Zax n) p rule step s))
theorem pat_end {w0:W0}{W Y:World}{gb:Nat}{h0 h1 vs vf:Value}{φ φ2:Nat→Nat}{v v':Value}{s s2:St}{x:Sx}{bp g:Nat}{pc:Array Value}{c1 c2:Value}{rule step:Int}(hv:VS w0 W gb h0 h1 vs vf φ v s.pl s.sh)(hg:Good s)
 (hf:Fr W Y bp g pc) (hy:VS w0 Y gb h0 h1 vs vf φ2 v' s2.pl s2.sh) (hk:KeptV W Y gb v) (hn:NewOr W v v') (r1:Ri w0 Y c1 x.first) (r2:Ri w0 Y c2 x.last)
 (eg:φ2 s.pl.length=g) (he:∀k,k<s.pl.length→φ2 k=φ k) (hs:∀k y,(k,y)∈s2.sh→(k,y)∈s.sh∨(s.pl.length<k∧g<φ2 k)) (hi:Zge φ s.sh→Zge φ2 s2.sh) :
 PatE w0 W gb h0 h1 vs vf φ v s (s2.close s.pl.length x rule step) (.returned (.pointer (some ⟨g,0,none⟩))) (put6 Y g (.int .i64 s.pl.length) c1 c2 (.bool x.empty) (.int .i64 rule) (.int .i64 step)):=by
 have hp:=Zki Y g (.int .i64 s.pl.length) c1 c2 (.bool x.empty) (.int .i64 rule) (.int .i64 step);have h3:=Zha hf.r hp;have hlo:=hf.lo;have hne:∀k y,(k,y)∈s2.sh→φ2 k≠g:=fun k y hky he'=>by
  rcases hs k y hky with h | ⟨_,h⟩
  ·have hlt:=(hg.shs k y h).1;obtain⟨v1,v2,hc,_⟩:=(hv.shapes k y h).cells;have:=Zau hc;rw[he k hlt]at he';omega
  ·omega
 have hvo:=hy.other hf.r hp (Zma hy.bel (Nat.le_trans hv.bel.size hlo) _ _ _ _ _ _) hne;refine⟨φ2,v',by rw[eg],⟨hvo.ge,hvo.blk,hvo.row,fun k y hky=>?_,hvo.bel,hvo.new⟩,hk.then_ hp (fun k hk'=>.inr (by rw[hk'];exact hlo)),hn,he,fun k y hky=>?_,fun hin=>?_⟩
 ·rcases List.mem_append.1 hky with hky | hky
  ·exact hvo.shapes k y hky
  ·rw[List.mem_singleton]at hky;injection hky with e1 e2
   subst e1;subst e2;rw[eg];exact⟨Nat.le_trans hv.bel.size hlo,c1,c2,put6_blk rfl hf.r _ _ _ _ _ _,r1.same h3,r2.same h3⟩
 ·rcases List.mem_append.1 hky with hky | hky
  ·rcases hs k y hky with h | ⟨h,h2⟩
   ·exact .inl h
   ·exact .inr ⟨by omega,by omega⟩
  ·rw[List.mem_singleton]at hky;injection hky with e1 e2
   subst e1;exact .inr ⟨Nat.le_refl _,by rw[eg];exact hlo⟩
 ·intro k k' y y' h1 h2 h3
  rcases List.mem_append.1 h1 with h1 | h1 <;> rcases List.mem_append.1 h2 with h2 | h2
  ·exact hi hin k k' y y' h1 h2 h3
  ·rw[List.mem_singleton]at h2;injection h2 with e1 e2
   subst e1;exact absurd (h3.trans eg) (hne k y h1)
  ·rw[List.mem_singleton]at h1;injection h1 with e1 e2
   subst e1;exact absurd (h3.symm.trans eg) (hne k' y' h2)
  ·rw[List.mem_singleton]at h1 h2;injection h1 with e1 e2
   injection h2 with e3 e4
   rw[e1,e3]
set_option maxHeartbeats 4000000 in
theorem Zfu (n:Nat)(hw:WalkC n):PatC n:=by
 intro w0 W gb h0 h1 vs vf φ v s p vp rule step h hg hok hlen hp;have HPV:=Zrw.mk hp;obtain⟨A1,c1,A2,c2,A3,c3,rfl,l1,g1,l2,g2,l3,g3⟩:=hp;have HV:=Zrw.mk h;have HG:=Zrw.mk hg;have HW:=Zrw.mk hw;have HOK:=Zrw.mk hok;clear h hg hw hok g1 g2 g3
 go_enter Tryz.func60,Tryz.ntmps60
 go_upto_region 2 with (fail)
 have HFR:=Zrw.mk (Fr.first W #[.int .i64 p.f0,.slice A1 p.f1.length c1,.slice A2 p.f2.length c2,.slice A3 p.f3.length c3]);have HVX:=Zrw.mk (HV.out.below (Zab (Zab (Below.refl _ W) (.cells #[.int .i64 p.f0,.slice A1 p.f1.length c1,.slice A2 p.f2.length c2,.slice A3 p.f3.length c3] 73)) (.cells Zcc 126)));have HKX:=Zrw.mk (KeptV.of_below (Zab (Zab (Below.refl _ W) (.cells #[.int .i64 p.f0,.slice A1 p.f1.length c1,.slice A2 p.f2.length c2,.slice A3 p.f3.length c3] 73)) (.cells Zcc 126)) gb v);generalize (W.alloc (.cells #[.int .i64 p.f0,.slice A1 p.f1.length c1,.slice A2 p.f2.length c2,.slice A3 p.f3.length c3] 73)).alloc (.cells Zcc 126)=X at *;have hgX:W.heap.size≤W.heap.size+1:=Nat.le_succ _;have HLO:Zrw (∀k x,(k,x)∈s.sh→φ k<W.heap.size):=⟨fun k x hk=>by obtain⟨v1,v2,hc,_⟩:=(HV.out.shapes k x hk).cells;exact Zau hc⟩
 generalize hgg:W.heap.size+1=g at *;generalize hbp:W.heap.size=bp at *;obtain⟨φ1,hφ1⟩:∃φ1:Nat→Nat,φ1=fun k=>if k=s.pl.length then g else φ k:=⟨_,rfl⟩
 have H1:Zrw (∀k,k<s.pl.length→φ1 k=φ k):=⟨fun k hk=>by rw[hφ1];simp;omega⟩
 have H2:Zrw (φ1 s.pl.length=g):=⟨by rw[hφ1];simp⟩
 have HV1:=Zrw.mk (HVX.out.phi HG.out H1.out);have HP:Zrw (∀W',PlV φ1 w0 W' (Zbq s.pl.length) (.agg #[.int .i64 2,.pointer (some ⟨g,0,none⟩),.int .i64 0,.slice none 0 0,.slice none 0 0,.slice none 0 0,.pointer none,.slice none 0 0,.int .i64 0])):=
  ⟨fun W'=>⟨_,rfl,none,0,none,0,none,0,.slice none 0 0,by rw[show ptr φ1 (Zbq s.pl.length).shape=.pointer (some ⟨g,0,none⟩)from by show Value.pointer (some ⟨φ1 s.pl.length,0,none⟩)=_;rw[H2.out]];rfl,Nat.zero_le _,Kd.C_nil _ _,Nat.zero_le _,Kd.C_nil _ _,Nat.zero_le _,Kd.C_nil _ _,Kd.R_nil _ _ _ _ _⟩⟩
 clear hφ1;have p0:=HFR.out.cl.p 0 _ rfl;have p1:=HFR.out.cl.p 1 _ rfl;have p2:=HFR.out.cl.p 2 _ rfl;have p3:=HFR.out.cl.p 3 _ rfl;have HHI:Zrw (g<X.heap.size):=⟨Zau HFR.out.r⟩
 obtain⟨x,hx⟩:∃x,x=(Zax n s.pl.length p (s.add (Zbq s.pl.length))).1:=⟨_,rfl⟩
 obtain⟨s2,hs2⟩:∃s2,s2=(Zax n s.pl.length p (s.add (Zbq s.pl.length))).2:=⟨_,rfl⟩
 have HSX:Zrw (Zhp (Zax n) p rule step s=s2.close s.pl.length x rule step):=⟨by unfold Zhp;rw[←hx,←hs2]⟩
 have HC:Zrw (∀w5 v5,VS w0 w5 gb h0 h1 vs vf φ1 v5 (s.pl++[Zbq s.pl.length]) s.sh→Calls Tryz.prog 75 #[.pointer (some ⟨gb,0,none⟩),.pointer (some ⟨g,0,none⟩),.agg #[.int .i64 p.f0,.slice A1 p.f1.length c1,.slice A2 p.f2.length c2,.slice A3 p.f3.length c3]] w5 (Zlh w0 w5 gb h0 h1 vs vf φ1 v5 (s.add (Zbq s.pl.length)) x s2)):=⟨fun w5 v5 hv5=>by
  have hc:=HW.out w0 w5 gb h0 h1 vs vf φ1 v5 (s.add (Zbq s.pl.length)) s.pl.length p _ hv5 (HG.out.add _ rfl (fun k hk=>by injection hk with hk;omega) (fun k hk=>by cases hk)) (by simp[St.add]) HOK.out (by simp[St.add];omega) HPV.out;rw[H2.out,←hx,←hs2]at hc;exact hc⟩
 clear hx hs2
 go_wp2_with (first
  | (go_at_call 59;(with_reducible refine (Zgq w0 X gb h0 h1 vs vf φ1 v s.pl s.sh HV1.out (Zbq s.pl.length) _ (HP.out _) (by omega)).mono ?_);rintro e w5 ⟨rfl,v5,hv5,hk5,hn5⟩;have HFR5:=Zrw.mk (HFR.out.kept HV1.out hk5);have p0:=HFR5.out.cl.p 0 _ rfl;have p1:=HFR5.out.cl.p 1 _ rfl;have p2:=HFR5.out.cl.p 2 _ rfl;have p3:=HFR5.out.cl.p 3 _ rfl;have HV5:=Zrw.mk hv5;have HK5:=Zrw.mk hk5;have HN5:=Zrw.mk hn5;clear hv5 hk5 hn5)
  | (go_at_call 75;(with_reducible refine (HC.out _ _ HV5.out).mono ?_);rintro e w6 ⟨x1,x2,φ2,v6,rfl,hr1,hr2,hv6,hk6,hn6,he6,hs6,hi6⟩;obtain⟨B1,d1,rfl,hl1,_⟩:=hr1.C;obtain⟨B2,d2,rfl,hl2,_⟩:=hr2.C;have HFR6:=Zrw.mk (HFR5.out.kept HV5.out hk6);have HR1:=Zrw.mk hr1;have HR2:=Zrw.mk hr2;have HV6:=Zrw.mk hv6;have HK6:=Zrw.mk hk6;have HN6:=Zrw.mk hn6;have HE6:=Zrw.mk he6;have HS6:=Zrw.mk hs6;have HI6:=Zrw.mk hi6;have HFA:=fun o=>(HFR6.out.below (Zab Zbr o)).cl;have r0:=fun o=>(HFA o).r 0 _ rfl;have r1:=fun o=>(HFA o).r 1 _ rfl;have r2:=fun o=>(HFA o).r 2 _ rfl;have r3:=fun o=>(HFA o).r 3 _ rfl;have r4:=fun o=>(HFA o).r 4 _ rfl;have r5:=fun o=>(HFA o).r 5 _ rfl;have rf:=fun o=>(HFA o).f;clear hr1 hr2 hv6 hk6 hn6 he6 hs6 hi6 HFA))
 go_ret
 have hal:(s.add (Zbq s.pl.length)).pl.length=s.pl.length+1:=by simp[St.add]
 have hbA:=Zab (Below.refl _ w6) (.cells #[.int .i64 0,.slice B1 x.first.length d1,.slice B2 x.last.length d2,.bool x.empty,.int .i64 0,.int .i64 0] 126);have hk56:=HKX.out.trans (HK5.out.trans HK6.out HN5.out) (NewOr.refl _ _);have hsz:X.heap.size≤w5.heap.size:=HK5.out.1;have hhi:=HHI.out;rw[HSX.out];exact pat_end HV.out HG.out (HFR6.out.below hbA) (HV6.out.below hbA) (hk56.below hbA) (NewOr.trans (Zec HKX.out HN5.out) HN6.out (Nat.le_trans HKX.out.1 hsz)) (Zap HR1.out hbA) (Zap HR2.out hbA)
  ((HE6.out _ (by omega)).trans H2.out) (fun k hk=>(HE6.out k (by omega)).trans (H1.out k hk)) (fun k y hky=>(HS6.out k y hky).elim .inl (fun⟨h,h2⟩=>.inr ⟨by omega,by omega⟩))
  (fun hin=>HI6.out (fun k k' y y' h1 h2 h3=>hin k k' y y' h1 h2 (by rw[←H1.out k (HG.out.shs k y h1).1,←H1.out k' (HG.out.shs k' y' h2).1];exact h3)))
theorem kid0 {w0:W0}{A:Option Addr}{n:Nat}{xs:List S76}(h:k76.C w0 A n xs)(hi:0<n):∃ad D1 d1 D2 d2 D3 d3,A=some ad ∧
 PatV w0 (Zak xs 0) (.agg #[.int .i64 (Zak xs 0).f0,.slice D1 (Zak xs 0).f1.length d1,.slice D2 (Zak xs 0).f2.length d2,.slice D3 (Zak xs 0).f3.length d3]) ∧
 ∀W,Below w0.heap.size w0 W→W.cell? ad=some (.int .i64 (Zak xs 0).f0)∧W.cell? ⟨ad.block,ad.off+1,none⟩=some (.slice D1 (Zak xs 0).f1.length d1)∧W.cell? ⟨ad.block,ad.off+2,none⟩=some (.slice D2 (Zak xs 0).f2.length d2)∧W.cell? ⟨ad.block,ad.off+3,none⟩=some (.slice D3 (Zak xs 0).f3.length d3):=by
 obtain⟨ad,D1,d1,D2,d2,D3,d3,e,c0,c1,c2,c3,r⟩:=at_T76 h 0 (Int.le_refl _) (by omega);have z:ad.add ((0:Int).toNat*4)=ad:=by unfold Addr.add;simp
 rw[z]at c0 c1 c2 c3;exact⟨ad,D1,d1,D2,d2,D3,d3,e,⟨D1,d1,D2,d2,D3,d3,rfl,r⟩,fun W hW=>⟨Zad hW c0,Zad hW c1,Zad hW c2,Zad hW c3⟩⟩
theorem kid1 {w0:W0}{ad:Addr}{n:Nat}{xs:List S76}(h:k76.C w0 (some ad) n xs)(hi:1<n):∃D1 d1 D2 d2 D3 d3,
 PatV w0 (Zak xs 1) (.agg #[.int .i64 (Zak xs 1).f0,.slice D1 (Zak xs 1).f1.length d1,.slice D2 (Zak xs 1).f2.length d2,.slice D3 (Zak xs 1).f3.length d3]) ∧
 ∀W,Below w0.heap.size w0 W→W.cell? ⟨ad.block,ad.off+4,none⟩=some (.int .i64 (Zak xs 1).f0)∧W.cell? ⟨ad.block,ad.off+4+1,none⟩=some (.slice D1 (Zak xs 1).f1.length d1)∧W.cell? ⟨ad.block,ad.off+4+2,none⟩=some (.slice D2 (Zak xs 1).f2.length d2)∧W.cell? ⟨ad.block,ad.off+4+3,none⟩=some (.slice D3 (Zak xs 1).f3.length d3):=by
 obtain⟨ad',D1,d1,D2,d2,D3,d3,e,c0,c1,c2,c3,r⟩:=at_T76 h 1 (by omega) (by omega);injection e with e
 subst e;have z:ad.add ((1:Int).toNat*4)=⟨ad.block,ad.off+4,none⟩:=by unfold Addr.add;simp
 rw[z]at c0 c1 c2 c3;exact⟨D1,d1,D2,d2,D3,d3,⟨D1,d1,D2,d2,D3,d3,rfl,r⟩,fun W hW=>⟨Zad hW c0,Zad hW c1,Zad hW c2,Zad hW c3⟩⟩
set_option maxHeartbeats 4000000 in
theorem walk_pin (n:Nat)(hpc:PatC n)(hwg:WGood n)(w0:W0)(W:World)(gb:Nat)(h0 h1 vs vf:Value)(φ:Nat→Nat)(v:Value)(s:St)(b:Nat)(p:S76)(vp:Value)(h:VS w0 W gb h0 h1 vs vf φ v s.pl s.sh)(hg:Good s)(hb:b<s.pl.length)(hp:PatV w0 p vp)(hk:p.f0=3)
 (hc1:1≤p.f3.length) (hok:Zfc n (Zak p.f3 0)) (hlen:s.pl.length+2+Zcy n (Zak p.f3 0)≤100000) :
 Calls Tryz.prog 75 #[.pointer (some ⟨gb,0,none⟩),.pointer (some ⟨φ b,0,none⟩),vp] W (Zlh w0 W gb h0 h1 vs vf φ v s ⟨[(s.pl.length:Int)],[(s.pl.length:Int)],false⟩ ((Zhp (Zax n) (Zak p.f3 0) (-1) (-1) (s.add (Zbe b p))).inner s.pl.length (s.pl.length+1))):=by
 obtain⟨A1,c1,A2,c2,A3,c3,rfl,l1,g1,l2,g2,l3,g3⟩:=hp;rw[hk];have HV:=Zrw.mk h;have HP:Zrw (∀W',PlV φ w0 W' (Zbe b p) (.agg #[.int .i64 3,.pointer (some ⟨φ b,0,none⟩),.int .i64 3,.slice A1 p.f1.length c1,.slice A2 p.f2.length c2,.slice A3 p.f3.length c3,.pointer none,.slice none 0 0,.int .i64 0])):=
  ⟨fun W'=>⟨_,rfl,A1,c1,A2,c2,A3,c3,.slice none 0 0,by show _=[Value.int .i64 3,ptr φ (some b),Value.int .i64 p.f0,Value.slice A1 p.f1.length c1,Value.slice A2 p.f2.length c2,Value.slice A3 p.f3.length c3,ptr φ none,Value.slice none 0 0,Value.int .i64 0];rw[hk];rfl,l1,g1,l2,g2,l3,g3,Kd.R_nil _ _ _ _ _⟩⟩
 have HG:=Zrw.mk hg;have hgood:Good (s.add (Zbe b p)):=hg.add _ rfl (fun k hk=>by injection hk with hk;omega) (fun k hk=>by cases hk);have hal:(s.add (Zbe b p)).pl.length=s.pl.length+1:=by simp[St.add]
 obtain⟨ad,D1,d1,D2,d2,D3,d3,rfl,hq,hcells⟩:=kid0 g3 (by omega);have hpg:=Zho hwg (Zak p.f3 0) (-1) (-1) _ hgood;obtain⟨s3,hs3⟩:∃s3,s3=Zhp (Zax n) (Zak p.f3 0) (-1) (-1) (s.add (Zbe b p)):=⟨_,rfl⟩
 have HC:Zrw (∀w5 v5,VS w0 w5 gb h0 h1 vs vf φ v5 (s.pl++[Zbe b p]) s.sh→Calls Tryz.prog 60 #[.pointer (some ⟨gb,0,none⟩),.agg #[.int .i64 (Zak p.f3 0).f0,.slice D1 (Zak p.f3 0).f1.length d1,.slice D2 (Zak p.f3 0).f2.length d2,.slice D3 (Zak p.f3 0).f3.length d3],.int .i64 (-1),.int .i64 (-1)] w5 (PatE w0 w5 gb h0 h1 vs vf φ v5 (s.add (Zbe b p)) s3)):=⟨fun w5 v5 hv5=>by
  rw[hs3];exact hpc w0 w5 gb h0 h1 vs vf φ v5 (s.add (Zbe b p)) (Zak p.f3 0) _ (-1) (-1) hv5 hgood hok (by omega) hq⟩
 rw[←hs3]at hpg ⊢;have hl3:s3.pl.length=s.pl.length+2+Zcy n (Zak p.f3 0):=by rw[hpg.2,hal]
 have HPG:=Zrw.mk hpg;have HCE:=Zrw.mk hcells;clear hs3 h hg g1 g2 g3 hgood hpc hwg hq hok hpg hcells;generalize Zak p.f3 0=q at *
 go_enter Tryz.func75,Tryz.ntmps75
 go_upto_region 1 with (fail)
 have HFR:=Zrw.mk (Fr.first W #[.int .i64 3,.slice A1 p.f1.length c1,.slice A2 p.f2.length c2,.slice (some ad) p.f3.length c3]);have HVX:=Zrw.mk (HV.out.below (Zab (Zab (Below.refl _ W) (.cells #[.int .i64 3,.slice A1 p.f1.length c1,.slice A2 p.f2.length c2,.slice (some ad) p.f3.length c3] 73)) (.cells Zcc 126)));have HKX:=Zrw.mk (KeptV.of_below (Zab (Zab (Below.refl _ W) (.cells #[.int .i64 3,.slice A1 p.f1.length c1,.slice A2 p.f2.length c2,.slice (some ad) p.f3.length c3] 73)) (.cells Zcc 126)) gb v);generalize (W.alloc (.cells #[.int .i64 3,.slice A1 p.f1.length c1,.slice A2 p.f2.length c2,.slice (some ad) p.f3.length c3] 73)).alloc (.cells Zcc 126)=X at *;generalize W.heap.size+1=br at *;generalize W.heap.size=bp at *;have p0:=HFR.out.cl.p 0 _ rfl;have p1:=HFR.out.cl.p 1 _ rfl;have p2:=HFR.out.cl.p 2 _ rfl;have p3:=HFR.out.cl.p 3 _ rfl;have HHI:Zrw (br<X.heap.size):=⟨Zau HFR.out.r⟩
 go_upto_region 11 with (first
  | (go_at_call 59;(with_reducible refine (Zgq w0 X gb h0 h1 vs vf φ v s.pl s.sh HVX.out (Zbe b p) _ (HP.out _) (by omega)).mono ?_);rintro e w5 ⟨rfl,v5,hv5,hk5,hn5⟩;have HFR5:=Zrw.mk (HFR.out.kept HVX.out hk5);have p0:=HFR5.out.cl.p 0 _ rfl;have p3:=HFR5.out.cl.p 3 _ rfl;obtain⟨q0,q1,q2,q3⟩:=HCE.out w5 hv5.bel;have HV5:=Zrw.mk hv5;have HK5:=Zrw.mk hk5;have HN5:=Zrw.mk hn5;clear hv5 hk5 hn5)
  | (go_at_call 60;(with_reducible refine (HC.out _ _ HV5.out).mono ?_);rintro e w6 ⟨φ2,v6,rfl,hv6,hk6,hn6,he6,hs6,hi6⟩;obtain⟨A6,c6,rfl,hlc6⟩:=hv6.row.slice_;obtain⟨ae,cs,rfl,hps,hcell,hfz⟩:=hv6.at_ rfl s.pl.length (by omega);obtain⟨E1,e1,E2,e2,E3,e3,u4,rfl,_⟩:=hps;have y6:=hcell 6 _ rfl;rw[Zkj]at y6;have y2:=hv6.cell2;have HFR6:=Zrw.mk (HFR5.out.kept HV5.out hk6);have HV6:=Zrw.mk hv6;have HK6:=Zrw.mk hk6;have HN6:=Zrw.mk hn6;have HE6:=Zrw.mk he6;have HS6:=Zrw.mk hs6;have HI6:=Zrw.mk hi6;clear hcell hv6 hk6 hn6 he6 hs6 hi6 hlc6))
 have hset:=HV6.out.setAt (A:=some ae) (c:=c6) rfl rfl s.pl.length (by omega) 6 (by omega) (.pointer (some ⟨φ2 (s.pl.length+1),0,none⟩)) { s3.pl.getD s.pl.length zPl with inner:=some (s.pl.length+1) } (fun c hc hp=>hp.setInner (some (s.pl.length+1)));have HFR7:=Zrw.mk (HFR6.out.kept HV6.out hset.2);have HV7:=Zrw.mk hset.1;have HK7:=Zrw.mk hset.2;clear hset y6 y2 hfz q0 q1 q2 q3 p0 p1 p2 p3;generalize w6.setCell ⟨(ae.add (s.pl.length*9)).block,(ae.add (s.pl.length*9)).off+6,none⟩ (.pointer (some ⟨φ2 (s.pl.length+1),0,none⟩))=Y at *;have p0a:=HFR7.out.cl.p2 0 _ rfl;have r0:=HFR7.out.cl.r2 0 _ rfl;have r1:=HFR7.out.cl.r2 1 _ rfl;have r2:=HFR7.out.cl.r2 2 _ rfl;have r3:=HFR7.out.cl.r2 3 _ rfl;have r4:=HFR7.out.cl.r2 4 _ rfl;have r5:=HFR7.out.cl.r2 5 _ rfl;have rf:=HFR7.out.cl.f2;go_wp2
 refine bodyPost_ret (results_cell_row rfl _ _ br 126 #[.int .i64 0,.slice (some ⟨Y.heap.size,0,none⟩) 1 1,.slice (some ⟨Y.heap.size+1,0,none⟩) 1 1,.bool false,.int .i64 0,.int .i64 0] (0,0) _ rfl (Zck rfl (Zai (Zai HFR7.out.r _) _) _ _ _) Tryz.underlying126 rfl (by kernel_rfl)) rfl ?_
 have hkk:=HKX.out.trans (HK5.out.trans (HK6.out.trans HK7.out HN6.out) HN5.out) (NewOr.refl _ _);have hsz:X.heap.size≤w5.heap.size:=HK5.out.1;have hhi:=HHI.out;exact Znl (s':=s3.inner s.pl.length (s.pl.length+1)) HV.out HG.out HFR7.out HV7.out hkk (NewOr.trans (Zec HKX.out HN5.out) HN6.out (Nat.le_trans HKX.out.1 hsz))
  (fun k hk=>HE6.out k (by omega)) (fun k y hky=>(HS6.out k y hky).elim .inl (fun⟨h,h2⟩=>.inr ⟨by omega,by omega⟩)) HI6.out _ _ rfl rfl
abbrev Zgp (c1 c2:Value)(e:Bool):Array Value:=#[.int .i64 0,c1,c2,.bool e,.int .i64 0,.int .i64 0]
theorem Zeh {w0:W0}{W W':World}{gb:Nat}{h0 h1 vs vf:Value}{φ:Nat→Nat}{v:Value}{pl:List Pl}{sh:List (Nat × Sh)}(h:VS w0 W gb h0 h1 vs vf φ v pl sh)(hk:KeptV W W' gb v){g:Nat}{cs:Array Value}(hg:W.heap[g]?=some (.cells cs 126 (0,0))):W'.heap[g]?=some (.cells cs 126 (0,0)):=h.keep hk hg (by decide) (by decide)
theorem AllRis.good {s:St}(h:Good s):AllRis s.pl.length s.pl:=h.ris
set_option maxHeartbeats 4000000 in
theorem walk_star (n:Nat)(hw:WalkC n)(hwg:WGood n)(w0:W0)(W:World)(gb:Nat)(h0 h1 vs vf:Value)(φ:Nat→Nat)(v:Value)(s:St)(b:Nat)(p:S76)(vp:Value)(h:VS w0 W gb h0 h1 vs vf φ v s.pl s.sh)(hg:Good s)(hb:b<s.pl.length)(hp:PatV w0 p vp)(hk:p.f0=7)
 (hc1:1≤p.f3.length) (hok:Zfc n (Zak p.f3 0)) (hlen:s.pl.length+Zcy n (Zak p.f3 0)≤100000) :
 Calls Tryz.prog 75 #[.pointer (some ⟨gb,0,none⟩),.pointer (some ⟨φ b,0,none⟩),vp] W (Zlh w0 W gb h0 h1 vs vf φ v s ⟨(Zax n b (Zak p.f3 0) s).1.first,(Zax n b (Zak p.f3 0) s).1.last,true⟩ ((Zax n b (Zak p.f3 0) s).2.link (Zax n b (Zak p.f3 0) s).1.last (Zax n b (Zak p.f3 0) s).1.first)):=by
 obtain⟨A1,c1,A2,c2,A3,c3,rfl,l1,g1,l2,g2,l3,g3⟩:=hp;rw[hk];have HV:=Zrw.mk h;have HG:=Zrw.mk hg;obtain⟨ad,D1,d1,D2,d2,D3,d3,rfl,hq,hcells⟩:=kid0 g3 (by omega);have hwq:=hwg b (Zak p.f3 0) s hg hb;have hc:=fun W v hv=>hw w0 W gb h0 h1 vs vf φ v s b (Zak p.f3 0) _ hv hg hb hok hlen hq
 generalize (Zax n b (Zak p.f3 0) s).1=x at *;generalize (Zax n b (Zak p.f3 0) s).2=s2 at *;obtain⟨hg2,hl2,hr1,hr2⟩:=hwq;have HRA:=Zrw.mk hg2.ris;have HRF:Zrw (Ris s2.pl.length x.first):=⟨by rw[hl2];exact hr1⟩
 have HRL:Zrw (Ris s2.pl.length x.last):=⟨by rw[hl2];exact hr2⟩
 have HC:=Zrw.mk hc;have HCE:=Zrw.mk hcells;have hl2':s2.pl.length≤100000:=by omega
 clear h hg g1 g2 g3 hw hwg hq hok hc hcells hg2 hr1 hr2;generalize Zak p.f3 0=q at *
 go_enter Tryz.func75,Tryz.ntmps75
 go_upto_region 1 with (fail)
 have HFR:=Zrw.mk (Fr.first W #[.int .i64 7,.slice A1 p.f1.length c1,.slice A2 p.f2.length c2,.slice (some ad) p.f3.length c3]);have HVX:=Zrw.mk (HV.out.below (Zab (Zab (Below.refl _ W) (.cells #[.int .i64 7,.slice A1 p.f1.length c1,.slice A2 p.f2.length c2,.slice (some ad) p.f3.length c3] 73)) (.cells Zcc 126)));have HKX:=Zrw.mk (KeptV.of_below (Zab (Zab (Below.refl _ W) (.cells #[.int .i64 7,.slice A1 p.f1.length c1,.slice A2 p.f2.length c2,.slice (some ad) p.f3.length c3] 73)) (.cells Zcc 126)) gb v);generalize (W.alloc (.cells #[.int .i64 7,.slice A1 p.f1.length c1,.slice A2 p.f2.length c2,.slice (some ad) p.f3.length c3] 73)).alloc (.cells Zcc 126)=X at *;generalize W.heap.size+1=br at *;generalize W.heap.size=bp at *;have p0:=HFR.out.cl.p 0 _ rfl;have p3:=HFR.out.cl.p 3 _ rfl;have HHI:Zrw (br<X.heap.size):=⟨Zau HFR.out.r⟩
 obtain⟨q0,q1,q2,q3⟩:=HCE.out X HVX.out.bel
 go_wp2_with (first
  | (go_at_call 75;(with_reducible refine (HC.out _ _ HVX.out).mono ?_);rintro e w5 ⟨x1,x2,φ2,v5,rfl,hr1,hr2,hv5,hk5,hn5,he5,hs5,hi5⟩;obtain⟨B1,d1,rfl,hl1,_⟩:=hr1.C;obtain⟨B2,d2,rfl,hl2,_⟩:=hr2.C;have HFR5:=Zrw.mk (HFR.out.kept HVX.out hk5);have HR1:=Zrw.mk hr1;have HR2:=Zrw.mk hr2;have HV5:=Zrw.mk hv5;have HK5:=Zrw.mk hk5;have HN5:=Zrw.mk hn5;have HE5:=Zrw.mk he5;have HS5:=Zrw.mk hs5;have HI5:=Zrw.mk hi5;clear hr1 hr2 hv5 hk5 hn5 he5 hs5 hi5)
  | (go_at_call 95;(with_reducible refine (Zks w0 _ gb h0 h1 vs vf φ2 v5 s2.pl s2.sh (HV5.out.below (Zab Zbr _)) _ _ x.last x.first (Zap HR2.out (Zab Zbr _)) (Zap HR1.out (Zab Zbr _)) HRL.out HRF.out HRA.out hl2').mono ?_);rintro e w6 ⟨rfl,hv6,hk6⟩;have hbx:=Zeh (HV5.out.below (Zab (Below.refl _ w5) (.cells (Zgp (.slice B1 x.first.length d1) (.slice B2 x.last.length d2) x.empty) 126))) hk6 (Zaj w5 (.cells (Zgp (.slice B1 x.first.length d1) (.slice B2 x.last.length d2) x.empty) 126));have hk6:=KeptV.trans (KeptV.of_below (Zab (Below.refl _ w5) (.cells (Zgp (.slice B1 x.first.length d1) (.slice B2 x.last.length d2) x.empty) 126)) gb v5) hk6 (NewOr.refl _ _);have t1:=(Zaa hbx 1).trans rfl;have t2:=(Zaa hbx 2).trans rfl;have HFR6:=Zrw.mk (HFR5.out.kept HV5.out hk6);have r0:=HFR6.out.cl.r 0 _ rfl;have r1:=HFR6.out.cl.r 1 _ rfl;have r2:=HFR6.out.cl.r 2 _ rfl;have r3:=HFR6.out.cl.r 3 _ rfl;have r4:=HFR6.out.cl.r 4 _ rfl;have r5:=HFR6.out.cl.r 5 _ rfl;have rf:=HFR6.out.cl.f;have HV6:=Zrw.mk hv6;have HK6:=Zrw.mk hk6;clear hv6 hk6 hbx))
 refine bodyPost_ret (results_cell_row rfl _ _ br 126 #[.int .i64 0,.slice B1 x.first.length d1,.slice B2 x.last.length d2,.bool true,.int .i64 0,.int .i64 0] (0,0) _ rfl (Zck rfl HFR6.out.r _ _ _) Tryz.underlying126 rfl (by kernel_rfl)) rfl ?_
 have hkk:=HKX.out.trans (HK5.out.trans HK6.out HN5.out) (NewOr.refl _ _);have hhi:=HHI.out;have h36:=HV5.out.same3 HK6.out;exact Zdn (x:=⟨x.first,x.last,true⟩) (s':=s2.link x.last x.first) HV.out HG.out HFR6.out HV6.out hkk (Zec HKX.out HN5.out) (HR1.out.same h36) (HR2.out.same h36)
  HE5.out (fun k y hky=>(HS5.out k y hky).elim .inl (fun⟨h,h2⟩=>.inr ⟨h,by omega⟩)) HI5.out
structure Sq (w0:W0)(W Y:World)(gb:Nat)(h0 h1 vs vf:Value)(φ:Nat→Nat)(v v5:Value)(s2:St)(bp br:Nat)(pc:Array Value)(b9 b10 b11:Nat)(a c:Sx)(a1 a2 c1 c2 f l:Value)(lf ll:List Int)(e:Bool):Prop where
 fr:Fr W Y bp br pc
 vs:VS w0 Y gb h0 h1 vs vf φ v5 s2.pl s2.sh
 k:KeptV W Y gb v
 k9:Y.heap[b9]?=some (.cells (Zgp a1 a2 a.empty) 126 (0,0))
 k10:Y.heap[b10]?=some (.cells (Zgp c1 c2 c.empty) 126 (0,0))
 k11:Y.heap[b11]?=some (.cells (Zgp f l e) 126 (0,0))
 ra1:Ri w0 Y a1 a.first
 ra2:Ri w0 Y a2 a.last
 rc1:Ri w0 Y c1 c.first
 rc2:Ri w0 Y c2 c.last
 rf:Ri w0 Y f lf
 rl:Ri w0 Y l ll
 sh:∀k x,(k,x)∈s2.sh→φ k<b11
 ord:br<b9∧b9<b10∧b10<b11
 lo:w0.heap.size≤br
section
variable {w0:W0}{W Y Y':World}{gb:Nat}{h0 h1 vs vf:Value}{φ:Nat→Nat}{v v5:Value}{s2:St}{bp br:Nat}{pc:Array Value}{b9 b10 b11:Nat}{a c:Sx}{a1 a2 c1 c2 f l:Value}{lf ll:List Int}{e:Bool}
theorem Sq.below (h:Sq w0 W Y gb h0 h1 vs vf φ v v5 s2 bp br pc b9 b10 b11 a c a1 a2 c1 c2 f l lf ll e)(hb:Below Y.heap.size Y Y'):Sq w0 W Y' gb h0 h1 vs vf φ v v5 s2 bp br pc b9 b10 b11 a c a1 a2 c1 c2 f l lf ll e:=
 ⟨h.fr.below hb,h.vs.below hb,h.k.below hb,Zaf h.k9 hb,Zaf h.k10 hb,Zaf h.k11 hb,Zap h.ra1 hb,Zap h.ra2 hb,Zap h.rc1 hb,Zap h.rc2 hb,Zap h.rf hb,Zap h.rl hb,h.sh,h.ord,h.lo⟩
theorem Sq.other (h:Sq w0 W Y gb h0 h1 vs vf φ v v5 s2 bp br pc b9 b10 b11 a c a1 a2 c1 c2 f l lf ll e)(i:Nat)(u:Value):Kept Y (Y.setCell ⟨b11,i,none⟩ u) (fun k=>k=b11)∧Same3 Y (Y.setCell ⟨b11,i,none⟩ u)∧Fr W (Y.setCell ⟨b11,i,none⟩ u) bp br pc∧VS w0 (Y.setCell ⟨b11,i,none⟩ u) gb h0 h1 vs vf φ v5 s2.pl s2.sh∧KeptV W (Y.setCell ⟨b11,i,none⟩ u) gb v:=by
 have hk:Kept Y (Y.setCell ⟨b11,i,none⟩ u) (fun k=>k=b11):=⟨by simp[World.setCell],fun j _ hn=>Below.heap_setCell _ _ _ j (fun he=>hn he)⟩
 have ho:=h.ord;have hlo:=h.fr.lo;have hge:w0.heap.size≤b11:=by have:=h.lo;omega
 refine⟨hk,Zha h.k11 hk,⟨?_,?_,hlo,Nat.le_trans h.fr.sz hk.1⟩,h.vs.other h.k11 hk (h.vs.bel.setCell hge u) (fun k x hx=>by have:=h.sh k x hx;omega),h.k.then_ hk (fun k hk'=>.inr (by omega))⟩
 ·exact (hk.2 _ (Zau h.fr.p) (fun he=>by have h1:=h.fr.p;rw[he,h.k11]at h1;injection h1 with h1;injection h1 with _ h1;exact absurd h1 (by decide))).trans h.fr.p
 ·exact (hk.2 _ (Zau h.fr.r) (by omega)).trans h.fr.r
theorem Sq.put1 (h:Sq w0 W Y gb h0 h1 vs vf φ v v5 s2 bp br pc b9 b10 b11 a c a1 a2 c1 c2 f l lf ll e){u:Value}{lu:List Int}(hu:Ri w0 Y u lu):Sq w0 W (Y.setCell ⟨b11,1,none⟩ u) gb h0 h1 vs vf φ v v5 s2 bp br pc b9 b10 b11 a c a1 a2 c1 c2 u l lu ll e:=by
 obtain⟨hk,h3,hf,hv,hkv⟩:=h.other 1 u;have ho:=h.ord;exact⟨hf,hv,hkv,(hk.2 _ (Zau h.k9) (by omega)).trans h.k9,(hk.2 _ (Zau h.k10) (by omega)).trans h.k10,Zce h.k11 1 u rfl,h.ra1.same h3,h.ra2.same h3,h.rc1.same h3,h.rc2.same h3,hu.same h3,h.rl.same h3,h.sh,h.ord,h.lo⟩
theorem Sq.put2 (h:Sq w0 W Y gb h0 h1 vs vf φ v v5 s2 bp br pc b9 b10 b11 a c a1 a2 c1 c2 f l lf ll e){u:Value}{lu:List Int}(hu:Ri w0 Y u lu):Sq w0 W (Y.setCell ⟨b11,2,none⟩ u) gb h0 h1 vs vf φ v v5 s2 bp br pc b9 b10 b11 a c a1 a2 c1 c2 f u lf lu e:=by
 obtain⟨hk,h3,hf,hv,hkv⟩:=h.other 2 u;have ho:=h.ord;exact⟨hf,hv,hkv,(hk.2 _ (Zau h.k9) (by omega)).trans h.k9,(hk.2 _ (Zau h.k10) (by omega)).trans h.k10,Zce h.k11 2 u rfl,h.ra1.same h3,h.ra2.same h3,h.rc1.same h3,h.rc2.same h3,h.rf.same h3,hu.same h3,h.sh,h.ord,h.lo⟩
end
theorem ri_C {w0:W0}{W:World}{A:Option Addr}{c:Nat}{l:List Int}(h:Ri w0 W (.slice A l.length c) l):(Kd.int .i64).C W A l.length l:=by
 obtain⟨A',c',e,_,hc⟩:=h.C;injection e with e _ _
 subst e;exact hc
set_option maxHeartbeats 8000000 in
theorem walk_seq (n:Nat)(hw:WalkC n)(hwg:WGood n)(w0:W0)(W:World)(gb:Nat)(h0 h1 vs vf:Value)(φ:Nat→Nat)(v:Value)(s:St)(b:Nat)(p:S76)(vp:Value)(h:VS w0 W gb h0 h1 vs vf φ v s.pl s.sh)(hg:Good s)(hb:b<s.pl.length)(hp:PatV w0 p vp)(hk:p.f0=5)
 (hc1:2≤p.f3.length) (hok:Zfc n (Zak p.f3 0)) (hok2:Zfc n (Zak p.f3 1)) (hlen:s.pl.length+(Zcy n (Zak p.f3 0)+Zcy n (Zak p.f3 1))≤100000) :
 Calls Tryz.prog 75 #[.pointer (some ⟨gb,0,none⟩),.pointer (some ⟨φ b,0,none⟩),vp] W (Zlh w0 W gb h0 h1 vs vf φ v s
  (seqX (Zax n b (Zak p.f3 0) s).1 (Zax n b (Zak p.f3 1) (Zax n b (Zak p.f3 0) s).2).1)
  ((Zax n b (Zak p.f3 1) (Zax n b (Zak p.f3 0) s).2).2.link (Zax n b (Zak p.f3 0) s).1.last (Zax n b (Zak p.f3 1) (Zax n b (Zak p.f3 0) s).2).1.first)):=by
 obtain⟨A1,c1,A2,c2,A3,c3,rfl,l1,g1,l2,g2,l3,g3⟩:=hp;rw[hk];have HV:=Zrw.mk h;have HG:=Zrw.mk hg;obtain⟨ad,D1,d1,D2,d2,D3,d3,rfl,hq,hcells⟩:=kid0 g3 (by omega);obtain⟨F1,f1,F2,f2,F3,f3,hr,hcells2⟩:=kid1 g3 (by omega);have hwq:=hwg b (Zak p.f3 0) s hg hb;have hc:=fun W v hv=>hw w0 W gb h0 h1 vs vf φ v s b (Zak p.f3 0) _ hv hg hb hok (by omega) hq
 generalize (Zax n b (Zak p.f3 0) s).1=x at *;generalize (Zax n b (Zak p.f3 0) s).2=sa at *;obtain⟨hga,hla,hra1,hra2⟩:=hwq;have hwr:=hwg b (Zak p.f3 1) sa hga (by omega);have hd:=fun W φ v hv=>hw w0 W gb h0 h1 vs vf φ v sa b (Zak p.f3 1) _ hv hga (by omega) hok2 (by omega) hr
 generalize (Zax n b (Zak p.f3 1) sa).1=y at *;generalize (Zax n b (Zak p.f3 1) sa).2=s2 at *;obtain⟨hg2,hl2,hrb1,hrb2⟩:=hwr;have HRA:=Zrw.mk hg2.ris;have HXF:Zrw (Ris s2.pl.length x.first):=⟨hra1.mono (by omega)⟩
 have HXL:Zrw (Ris s2.pl.length x.last):=⟨hra2.mono (by omega)⟩
 have HYF:Zrw (Ris s2.pl.length y.first):=⟨hrb1.mono (by omega)⟩
 have HYL:Zrw (Ris s2.pl.length y.last):=⟨hrb2.mono (by omega)⟩
 have HC:=Zrw.mk hc;have HD:=Zrw.mk hd;have HCE:=Zrw.mk hcells;have HCF:=Zrw.mk hcells2;have HGA:=Zrw.mk hga;have hl2':s2.pl.length≤100000:=by omega
 have hls:s.pl.length≤sa.pl.length:=by omega
 have hbs:b<s.pl.length:=hb;clear h hg g1 g2 g3 hw hwg hq hok hc hcells hg2 hra1 hra2 hrb1 hrb2 hcells2 hd hr hok2 hga hb;generalize Zak p.f3 0=q at *;generalize Zak p.f3 1=r at *
 go_enter Tryz.func75,Tryz.ntmps75
 go_upto_region 1 with (fail)
 have HFR:=Zrw.mk (Fr.first W #[.int .i64 5,.slice A1 p.f1.length c1,.slice A2 p.f2.length c2,.slice (some ad) p.f3.length c3]);have HVX:=Zrw.mk (HV.out.below (Zab (Zab (Below.refl _ W) (.cells #[.int .i64 5,.slice A1 p.f1.length c1,.slice A2 p.f2.length c2,.slice (some ad) p.f3.length c3] 73)) (.cells Zcc 126)));have HKX:=Zrw.mk (KeptV.of_below (Zab (Zab (Below.refl _ W) (.cells #[.int .i64 5,.slice A1 p.f1.length c1,.slice A2 p.f2.length c2,.slice (some ad) p.f3.length c3] 73)) (.cells Zcc 126)) gb v);have HLO:Zrw (w0.heap.size≤W.heap.size+1):=⟨by have h9:w0.heap.size≤W.heap.size:=HV.out.bel.size;omega⟩
 generalize (W.alloc (.cells #[.int .i64 5,.slice A1 p.f1.length c1,.slice A2 p.f2.length c2,.slice (some ad) p.f3.length c3] 73)).alloc (.cells Zcc 126)=X at *;generalize W.heap.size+1=br at *;generalize W.heap.size=bp at *;have p0:=HFR.out.cl.p 0 _ rfl;have p3:=HFR.out.cl.p 3 _ rfl;have HHI:Zrw (br<X.heap.size):=⟨Zau HFR.out.r⟩
 obtain⟨q0,q1,q2,q3⟩:=HCE.out X HVX.out.bel
 go_upto_region 14 with (go_at_call 75;(with_reducible refine (HC.out _ _ HVX.out).mono ?_);rintro e w5 ⟨x1,x2,φ2,v5,rfl,hr1,hr2,hv5,hk5,hn5,he5,hs5,hi5⟩;obtain⟨B1,e1,rfl,hl1,_⟩:=hr1.C;obtain⟨B2,e2,rfl,hl2,_⟩:=hr2.C;have HFR5:=Zrw.mk (HFR.out.kept HVX.out hk5);have HR1:=Zrw.mk hr1;have HR2:=Zrw.mk hr2;have HV5:=Zrw.mk hv5;have HK5:=Zrw.mk hk5;have HN5:=Zrw.mk hn5;have HE5:=Zrw.mk he5;have HS5:=Zrw.mk hs5;have HI5:=Zrw.mk hi5;clear hr1 hr2 hv5 hk5 hn5 he5 hs5 hi5)
 have hb6:=Zab (Below.refl _ w5) (.cells (Zgp (.slice B1 x.first.length e1) (.slice B2 x.last.length e2) x.empty) 126);have HFR6:=Zrw.mk (HFR5.out.below hb6);have HV6:=Zrw.mk (HV5.out.below hb6);have HK6:=Zrw.mk (show KeptV W _ gb v from (HKX.out.trans HK5.out (NewOr.refl _ _)).below hb6);have HN6:=Zrw.mk (Zec HKX.out HN5.out);have HB9:=Zrw.mk (Zaj w5 (.cells (Zgp (.slice B1 x.first.length e1) (.slice B2 x.last.length e2) x.empty) 126));have HR1:=Zrw.mk (Zap HR1.out hb6);have HR2:=Zrw.mk (Zap HR2.out hb6);have HO9:Zrw (br<w5.heap.size):=⟨Zau HFR5.out.r⟩
 have HS9:Zrw (∀k z,(k,z)∈sa.sh→φ2 k<w5.heap.size):=⟨fun k z hk=>by obtain⟨u1,u2,hc,_⟩:=(HV5.out.shapes k z hk).cells;exact Zau hc⟩
 clear hb6 HFR5 HV5 HK5 HN5;generalize w5.alloc (.cells (Zgp (.slice B1 x.first.length e1) (.slice B2 x.last.length e2) x.empty) 126)=X6 at *;generalize w5.heap.size=b9 at *;have hd6:=HD.out X6 φ2 v5 HV6.out;rw[HE5.out b hbs]at hd6;have HD6:=Zrw.mk hd6;clear hd6 q0 q1 q2 q3 p0 p3;have p3:=HFR6.out.cl.p 3 _ rfl;obtain⟨q0,q1,q2,q3⟩:=HCF.out X6 HV6.out.bel
 go_upto_region 15 with (go_at_call 75;(with_reducible refine HD6.out.mono ?_);rintro e w7 ⟨x1,x2,φ3,v7,rfl,hr1,hr2,hv7,hk7,hn7,he7,hs7,hi7⟩;obtain⟨C1,j1,rfl,hl1,_⟩:=hr1.C;obtain⟨C2,j2,rfl,hl2,_⟩:=hr2.C;have HFR7:=Zrw.mk (HFR6.out.kept HV6.out hk7);have HS1:=Zrw.mk hr1;have HS2:=Zrw.mk hr2;have HV7:=Zrw.mk hv7;have HK7:=Zrw.mk hk7;have HN7:=Zrw.mk hn7;have HE7:=Zrw.mk he7;have HS7:=Zrw.mk hs7;have HI7:=Zrw.mk hi7;clear hr1 hr2 hv7 hk7 hn7 he7 hs7 hi7)
 have hb8:=Zab (Below.refl _ w7) (.cells (Zgp (.slice C1 y.first.length j1) (.slice C2 y.last.length j2) y.empty) 126);have h367:=HV6.out.same3 HK7.out;have HFR8:=Zrw.mk (HFR7.out.below hb8);have HV8:=Zrw.mk (HV7.out.below hb8);have HK8:=Zrw.mk (show KeptV W _ gb v from (HK6.out.trans HK7.out HN6.out).below hb8);have HN8:=Zrw.mk (NewOr.trans HN6.out HN7.out HK6.out.1);have HB9':=Zrw.mk (Zaf (Zeh HV6.out HK7.out HB9.out) hb8);have HB10:=Zrw.mk (Zaj w7 (.cells (Zgp (.slice C1 y.first.length j1) (.slice C2 y.last.length j2) y.empty) 126));have HR1:=Zrw.mk (Zap (HR1.out.same h367) hb8);have HR2:=Zrw.mk (Zap (HR2.out.same h367) hb8);have HS1:=Zrw.mk (Zap HS1.out hb8);have HS2:=Zrw.mk (Zap HS2.out hb8);have HO10:Zrw (b9<w7.heap.size):=⟨Zau (Zeh HV6.out HK7.out HB9.out)⟩
 have HS10:Zrw (∀k z,(k,z)∈s2.sh→φ3 k<w7.heap.size):=⟨fun k z hk=>by obtain⟨u1,u2,hc,_⟩:=(HV7.out.shapes k z hk).cells;exact Zau hc⟩
 have HSS:Zrw (∀k z,(k,z)∈s2.sh→(k,z)∈s.sh∨(s.pl.length≤k∧br<φ3 k)):=⟨fun k z hk=>by
  have ho9:=HO9.out;have hb9:=Zau HB9.out;have hhi:=HHI.out
  rcases HS7.out k z hk with h | ⟨h,h2⟩
  ·rcases HS5.out k z h with h3 | ⟨h3,h4⟩
   ·exact .inl h3
   ·refine .inr ⟨h3,?_⟩;rw[HE7.out k (HGA.out.shs k z h).1];omega
  ·exact .inr ⟨by omega,by omega⟩⟩
 have HEE:Zrw (∀k,k<s.pl.length→φ3 k=φ k):=⟨fun k hk=>(HE7.out k (by omega)).trans (HE5.out k hk)⟩
 have HII:Zrw (Zge φ s.sh→Zge φ3 s2.sh):=⟨fun h=>HI7.out (HI5.out h)⟩
 clear hb8 HFR7 HK7 HN7 h367 HFR6 HV6 HK6 HN6 HB9 HS9 HE7 HS7 HI7 HE5 HS5 HI5 q0 q1 q2 q3 p3 HD6 HV7;generalize w7.alloc (.cells (Zgp (.slice C1 y.first.length j1) (.slice C2 y.last.length j2) y.empty) 126)=X8 at *;generalize w7.heap.size=b10 at *;have t1:=(Zaa HB9'.out 2).trans rfl;have t2:=(Zaa HB10.out 1).trans rfl
 go_upto_region 16 with (go_at_call 95;(with_reducible refine (Zks w0 X8 gb h0 h1 vs vf φ3 v7 s2.pl s2.sh HV8.out _ _ x.last y.first HR2.out HS1.out HXL.out HYF.out HRA.out hl2').mono ?_);rintro e w9 ⟨rfl,hv9,hk9⟩;have HV9:=Zrw.mk hv9;have HK9:=Zrw.mk hk9;clear hv9 hk9)
 obtain⟨xf,xl,xe⟩:=x;obtain⟨yf,yl,ye⟩:=y;have h389:=HV8.out.same3 HK9.out;have HFR9:=Zrw.mk (HFR8.out.kept HV8.out HK9.out);have HB9':=Zrw.mk (Zeh HV8.out HK9.out HB9'.out);have HB10:=Zrw.mk (Zeh HV8.out HK9.out HB10.out);have HR1:=Zrw.mk (HR1.out.same h389);have HR2:=Zrw.mk (HR2.out.same h389);have HS1:=Zrw.mk (HS1.out.same h389);have HS2:=Zrw.mk (HS2.out.same h389);have HS11:Zrw (∀k z,(k,z)∈s2.sh→φ3 k<w9.heap.size):=⟨fun k z hk=>by obtain⟨u1,u2,hc,_⟩:=(HV9.out.shapes k z hk).cells;exact Zau hc⟩
 clear h389 t1 t2;have t91:=(Zaa HB9'.out 1).trans rfl;have t92:=(Zaa HB9'.out 2).trans rfl;have t93:=(Zaa HB9'.out 3).trans rfl;have t101:=(Zaa HB10.out 1).trans rfl;have t102:=(Zaa HB10.out 2).trans rfl;have t103:=(Zaa HB10.out 3).trans rfl;cases xe <;> cases ye
 ·go_upto_region 17 with (fail)
  have hbA:=Zab (Below.refl _ w9) (.cells (Zgp (.slice B1 xf.length e1) (.slice C2 yl.length j2) false) 126);have HSQ:Zrw (Sq w0 W (w9.alloc (.cells (Zgp (.slice B1 xf.length e1) (.slice C2 yl.length j2) false) 126)) gb h0 h1 vs vf φ3 v v7 (s2.link xl yf) bp br _ b9 b10 w9.heap.size ⟨xf,xl,false⟩ ⟨yf,yl,false⟩ (.slice B1 xf.length e1) (.slice B2 xl.length e2) (.slice C1 yf.length j1) (.slice C2 yl.length j2) (.slice B1 xf.length e1) (.slice C2 yl.length j2) xf yl false):=⟨HFR9.out.below hbA,HV9.out.below hbA,Kept.below (HK8.out.trans HK9.out HN8.out) hbA,Zaf HB9'.out hbA,Zaf HB10.out hbA,Zaj w9 _,Zap HR1.out hbA,Zap HR2.out hbA,Zap HS1.out hbA,Zap HS2.out hbA,Zap HR1.out hbA,Zap HS2.out hbA,HS11.out,⟨HO9.out,HO10.out,Zau HB10.out⟩,HLO.out⟩
  clear hbA t91 t92 t93 t101 t102 t103;generalize w9.alloc (.cells (Zgp (.slice B1 xf.length e1) (.slice C2 yl.length j2) false) 126)=Y at *;generalize w9.heap.size=b11 at *;have t91:=(Zaa HSQ.out.k9 1).trans rfl;have t92:=(Zaa HSQ.out.k9 2).trans rfl;have t93:=(Zaa HSQ.out.k9 3).trans rfl;have t101:=(Zaa HSQ.out.k10 1).trans rfl;have t102:=(Zaa HSQ.out.k10 2).trans rfl;have t103:=(Zaa HSQ.out.k10 3).trans rfl
  go_upto_region 19 with (fail)
  clear t91 t92 t93 t101 t102 t103;have t91:=(Zaa HSQ.out.k9 1).trans rfl;have t92:=(Zaa HSQ.out.k9 2).trans rfl;have t93:=(Zaa HSQ.out.k9 3).trans rfl;have t101:=(Zaa HSQ.out.k10 1).trans rfl;have t102:=(Zaa HSQ.out.k10 2).trans rfl;have t103:=(Zaa HSQ.out.k10 3).trans rfl
  go_upto_region 21 with (fail)
  clear t91 t92 t93 t101 t102 t103;have t110:=(Zaa HSQ.out.k11 0).trans rfl;have t111:=(Zaa HSQ.out.k11 1).trans rfl;have t112:=(Zaa HSQ.out.k11 2).trans rfl;have t113:=(Zaa HSQ.out.k11 3).trans rfl;have t114:=(Zaa HSQ.out.k11 4).trans rfl;have t115:=(Zaa HSQ.out.k11 5).trans rfl;have r0:=HSQ.out.fr.cl.r 0 _ rfl;have r1:=HSQ.out.fr.cl.r 1 _ rfl;have r2:=HSQ.out.fr.cl.r 2 _ rfl;have r3:=HSQ.out.fr.cl.r 3 _ rfl;have r4:=HSQ.out.fr.cl.r 4 _ rfl;have r5:=HSQ.out.fr.cl.r 5 _ rfl;have rf:=HSQ.out.fr.cl.f;go_wp2
  refine bodyPost_ret (results_cell_row rfl _ _ br 126 #[.int .i64 0,.slice B1 xf.length e1,.slice C2 yl.length j2,.bool false,.int .i64 0,.int .i64 0] (0,0) _ rfl (Zck rfl HSQ.out.fr.r _ _ _) Tryz.underlying126 rfl (by kernel_rfl)) rfl ?_
  exact Zdn (x:=⟨xf,yl,false⟩) (s':=s2.link xl yf) HV.out HG.out HSQ.out.fr HSQ.out.vs HSQ.out.k HN8.out HSQ.out.rf HSQ.out.rl HEE.out HSS.out HII.out
 ·go_upto_region 17 with (fail)
  have hbA:=Zab (Below.refl _ w9) (.cells (Zgp (.slice B1 xf.length e1) (.slice C2 yl.length j2) false) 126);have HSQ:Zrw (Sq w0 W (w9.alloc (.cells (Zgp (.slice B1 xf.length e1) (.slice C2 yl.length j2) false) 126)) gb h0 h1 vs vf φ3 v v7 (s2.link xl yf) bp br _ b9 b10 w9.heap.size ⟨xf,xl,false⟩ ⟨yf,yl,true⟩ (.slice B1 xf.length e1) (.slice B2 xl.length e2) (.slice C1 yf.length j1) (.slice C2 yl.length j2) (.slice B1 xf.length e1) (.slice C2 yl.length j2) xf yl false):=⟨HFR9.out.below hbA,HV9.out.below hbA,Kept.below (HK8.out.trans HK9.out HN8.out) hbA,Zaf HB9'.out hbA,Zaf HB10.out hbA,Zaj w9 _,Zap HR1.out hbA,Zap HR2.out hbA,Zap HS1.out hbA,Zap HS2.out hbA,Zap HR1.out hbA,Zap HS2.out hbA,HS11.out,⟨HO9.out,HO10.out,Zau HB10.out⟩,HLO.out⟩
  clear hbA t91 t92 t93 t101 t102 t103;generalize w9.alloc (.cells (Zgp (.slice B1 xf.length e1) (.slice C2 yl.length j2) false) 126)=Y at *;generalize w9.heap.size=b11 at *;have t91:=(Zaa HSQ.out.k9 1).trans rfl;have t92:=(Zaa HSQ.out.k9 2).trans rfl;have t93:=(Zaa HSQ.out.k9 3).trans rfl;have t101:=(Zaa HSQ.out.k10 1).trans rfl;have t102:=(Zaa HSQ.out.k10 2).trans rfl;have t103:=(Zaa HSQ.out.k10 3).trans rfl
  go_upto_region 19 with (fail)
  clear t91 t92 t93 t101 t102 t103;have t91:=(Zaa HSQ.out.k9 1).trans rfl;have t92:=(Zaa HSQ.out.k9 2).trans rfl;have t93:=(Zaa HSQ.out.k9 3).trans rfl;have t101:=(Zaa HSQ.out.k10 1).trans rfl;have t102:=(Zaa HSQ.out.k10 2).trans rfl;have t103:=(Zaa HSQ.out.k10 3).trans rfl;have HCA:Zrw ((Kd.int .i64).C Y B2 xl.length xl):=⟨ri_C HSQ.out.ra2⟩
  have HCB:Zrw ((Kd.int .i64).C Y C2 yl.length yl):=⟨ri_C HSQ.out.rc2⟩
  have HLA:Zrw (xl.length≤100000):=⟨Nat.le_trans HXL.out.len hl2'⟩
  have HLB:Zrw (yl.length≤100000):=⟨Nat.le_trans HYL.out.len hl2'⟩
  go_upto_region 21 with (go_at_call 96;(with_reducible refine (Zdq B2 C2 e2 j2 xl yl Y HCA.out HCB.out HLA.out HLB.out).mono ?_);rintro e w11 ⟨v10,rfl,ho,hb⟩;obtain⟨G2,n2,rfl⟩:=Kd.R_slice ho;have HU:=Zrw.mk (HSQ.out.vs.ri ho (Nat.le_refl _));have HSQX:=Zrw.mk (HSQ.out.below hb);have z1:=(Zaa HSQX.out.k11 2).trans rfl;have zf:=Zam HSQX.out.k11 2;clear ho hb)
  have HSQ:=Zrw.mk (HSQX.out.put2 HU.out);clear HSQX HU z1 zf HCA HCB HLA HLB t91 t92 t93 t101 t102 t103;generalize w11.setCell ⟨b11,2,none⟩ (.slice G2 (Zcj xl yl).length n2)=Y3 at *;have t110:=(Zaa HSQ.out.k11 0).trans rfl;have t111:=(Zaa HSQ.out.k11 1).trans rfl;have t112:=(Zaa HSQ.out.k11 2).trans rfl;have t113:=(Zaa HSQ.out.k11 3).trans rfl;have t114:=(Zaa HSQ.out.k11 4).trans rfl;have t115:=(Zaa HSQ.out.k11 5).trans rfl;have r0:=HSQ.out.fr.cl.r 0 _ rfl;have r1:=HSQ.out.fr.cl.r 1 _ rfl;have r2:=HSQ.out.fr.cl.r 2 _ rfl;have r3:=HSQ.out.fr.cl.r 3 _ rfl;have r4:=HSQ.out.fr.cl.r 4 _ rfl;have r5:=HSQ.out.fr.cl.r 5 _ rfl;have rf:=HSQ.out.fr.cl.f;go_wp2
  refine bodyPost_ret (results_cell_row rfl _ _ br 126 #[.int .i64 0,.slice B1 xf.length e1,.slice G2 (Zcj xl yl).length n2,.bool false,.int .i64 0,.int .i64 0] (0,0) _ rfl (Zck rfl HSQ.out.fr.r _ _ _) Tryz.underlying126 rfl (by kernel_rfl)) rfl ?_
  exact Zdn (x:=⟨xf,Zcj xl yl,false⟩) (s':=s2.link xl yf) HV.out HG.out HSQ.out.fr HSQ.out.vs HSQ.out.k HN8.out HSQ.out.rf HSQ.out.rl HEE.out HSS.out HII.out
 ·go_upto_region 17 with (fail)
  have hbA:=Zab (Below.refl _ w9) (.cells (Zgp (.slice B1 xf.length e1) (.slice C2 yl.length j2) false) 126);have HSQ:Zrw (Sq w0 W (w9.alloc (.cells (Zgp (.slice B1 xf.length e1) (.slice C2 yl.length j2) false) 126)) gb h0 h1 vs vf φ3 v v7 (s2.link xl yf) bp br _ b9 b10 w9.heap.size ⟨xf,xl,true⟩ ⟨yf,yl,false⟩ (.slice B1 xf.length e1) (.slice B2 xl.length e2) (.slice C1 yf.length j1) (.slice C2 yl.length j2) (.slice B1 xf.length e1) (.slice C2 yl.length j2) xf yl false):=⟨HFR9.out.below hbA,HV9.out.below hbA,Kept.below (HK8.out.trans HK9.out HN8.out) hbA,Zaf HB9'.out hbA,Zaf HB10.out hbA,Zaj w9 _,Zap HR1.out hbA,Zap HR2.out hbA,Zap HS1.out hbA,Zap HS2.out hbA,Zap HR1.out hbA,Zap HS2.out hbA,HS11.out,⟨HO9.out,HO10.out,Zau HB10.out⟩,HLO.out⟩
  clear hbA t91 t92 t93 t101 t102 t103;generalize w9.alloc (.cells (Zgp (.slice B1 xf.length e1) (.slice C2 yl.length j2) false) 126)=Y at *;generalize w9.heap.size=b11 at *;have t91:=(Zaa HSQ.out.k9 1).trans rfl;have t92:=(Zaa HSQ.out.k9 2).trans rfl;have t93:=(Zaa HSQ.out.k9 3).trans rfl;have t101:=(Zaa HSQ.out.k10 1).trans rfl;have t102:=(Zaa HSQ.out.k10 2).trans rfl;have t103:=(Zaa HSQ.out.k10 3).trans rfl;have HCA:Zrw ((Kd.int .i64).C Y B1 xf.length xf):=⟨ri_C HSQ.out.ra1⟩
  have HCB:Zrw ((Kd.int .i64).C Y C1 yf.length yf):=⟨ri_C HSQ.out.rc1⟩
  have HLA:Zrw (xf.length≤100000):=⟨Nat.le_trans HXF.out.len hl2'⟩
  have HLB:Zrw (yf.length≤100000):=⟨Nat.le_trans HYF.out.len hl2'⟩
  go_upto_region 19 with (go_at_call 96;(with_reducible refine (Zdq B1 C1 e1 j1 xf yf Y HCA.out HCB.out HLA.out HLB.out).mono ?_);rintro e w10 ⟨v10,rfl,ho,hb⟩;obtain⟨G1,n1,rfl⟩:=Kd.R_slice ho;have HU:=Zrw.mk (HSQ.out.vs.ri ho (Nat.le_refl _));have HSQX:=Zrw.mk (HSQ.out.below hb);have z1:=(Zaa HSQX.out.k11 1).trans rfl;have zf:=Zam HSQX.out.k11 1;clear ho hb)
  have HSQ:=Zrw.mk (HSQX.out.put1 HU.out);clear HSQX HU z1 zf HCA HCB HLA HLB t91 t92 t93 t101 t102 t103;generalize w10.setCell ⟨b11,1,none⟩ (.slice G1 (Zcj xf yf).length n1)=Y2 at *;have t91:=(Zaa HSQ.out.k9 1).trans rfl;have t92:=(Zaa HSQ.out.k9 2).trans rfl;have t93:=(Zaa HSQ.out.k9 3).trans rfl;have t101:=(Zaa HSQ.out.k10 1).trans rfl;have t102:=(Zaa HSQ.out.k10 2).trans rfl;have t103:=(Zaa HSQ.out.k10 3).trans rfl
  go_upto_region 21 with (fail)
  clear t91 t92 t93 t101 t102 t103;have t110:=(Zaa HSQ.out.k11 0).trans rfl;have t111:=(Zaa HSQ.out.k11 1).trans rfl;have t112:=(Zaa HSQ.out.k11 2).trans rfl;have t113:=(Zaa HSQ.out.k11 3).trans rfl;have t114:=(Zaa HSQ.out.k11 4).trans rfl;have t115:=(Zaa HSQ.out.k11 5).trans rfl;have r0:=HSQ.out.fr.cl.r 0 _ rfl;have r1:=HSQ.out.fr.cl.r 1 _ rfl;have r2:=HSQ.out.fr.cl.r 2 _ rfl;have r3:=HSQ.out.fr.cl.r 3 _ rfl;have r4:=HSQ.out.fr.cl.r 4 _ rfl;have r5:=HSQ.out.fr.cl.r 5 _ rfl;have rf:=HSQ.out.fr.cl.f;go_wp2
  refine bodyPost_ret (results_cell_row rfl _ _ br 126 #[.int .i64 0,.slice G1 (Zcj xf yf).length n1,.slice C2 yl.length j2,.bool false,.int .i64 0,.int .i64 0] (0,0) _ rfl (Zck rfl HSQ.out.fr.r _ _ _) Tryz.underlying126 rfl (by kernel_rfl)) rfl ?_
  exact Zdn (x:=⟨Zcj xf yf,yl,false⟩) (s':=s2.link xl yf) HV.out HG.out HSQ.out.fr HSQ.out.vs HSQ.out.k HN8.out HSQ.out.rf HSQ.out.rl HEE.out HSS.out HII.out
 ·go_upto_region 17 with (fail)
  have hbA:=Zab (Below.refl _ w9) (.cells (Zgp (.slice B1 xf.length e1) (.slice C2 yl.length j2) true) 126);have HSQ:Zrw (Sq w0 W (w9.alloc (.cells (Zgp (.slice B1 xf.length e1) (.slice C2 yl.length j2) true) 126)) gb h0 h1 vs vf φ3 v v7 (s2.link xl yf) bp br _ b9 b10 w9.heap.size ⟨xf,xl,true⟩ ⟨yf,yl,true⟩ (.slice B1 xf.length e1) (.slice B2 xl.length e2) (.slice C1 yf.length j1) (.slice C2 yl.length j2) (.slice B1 xf.length e1) (.slice C2 yl.length j2) xf yl true):=⟨HFR9.out.below hbA,HV9.out.below hbA,Kept.below (HK8.out.trans HK9.out HN8.out) hbA,Zaf HB9'.out hbA,Zaf HB10.out hbA,Zaj w9 _,Zap HR1.out hbA,Zap HR2.out hbA,Zap HS1.out hbA,Zap HS2.out hbA,Zap HR1.out hbA,Zap HS2.out hbA,HS11.out,⟨HO9.out,HO10.out,Zau HB10.out⟩,HLO.out⟩
  clear hbA t91 t92 t93 t101 t102 t103;generalize w9.alloc (.cells (Zgp (.slice B1 xf.length e1) (.slice C2 yl.length j2) true) 126)=Y at *;generalize w9.heap.size=b11 at *;have t91:=(Zaa HSQ.out.k9 1).trans rfl;have t92:=(Zaa HSQ.out.k9 2).trans rfl;have t93:=(Zaa HSQ.out.k9 3).trans rfl;have t101:=(Zaa HSQ.out.k10 1).trans rfl;have t102:=(Zaa HSQ.out.k10 2).trans rfl;have t103:=(Zaa HSQ.out.k10 3).trans rfl;have HCA:Zrw ((Kd.int .i64).C Y B1 xf.length xf):=⟨ri_C HSQ.out.ra1⟩
  have HCB:Zrw ((Kd.int .i64).C Y C1 yf.length yf):=⟨ri_C HSQ.out.rc1⟩
  have HLA:Zrw (xf.length≤100000):=⟨Nat.le_trans HXF.out.len hl2'⟩
  have HLB:Zrw (yf.length≤100000):=⟨Nat.le_trans HYF.out.len hl2'⟩
  go_upto_region 19 with (go_at_call 96;(with_reducible refine (Zdq B1 C1 e1 j1 xf yf Y HCA.out HCB.out HLA.out HLB.out).mono ?_);rintro e w10 ⟨v10,rfl,ho,hb⟩;obtain⟨G1,n1,rfl⟩:=Kd.R_slice ho;have HU:=Zrw.mk (HSQ.out.vs.ri ho (Nat.le_refl _));have HSQX:=Zrw.mk (HSQ.out.below hb);have z1:=(Zaa HSQX.out.k11 1).trans rfl;have zf:=Zam HSQX.out.k11 1;clear ho hb)
  have HSQ:=Zrw.mk (HSQX.out.put1 HU.out);clear HSQX HU z1 zf HCA HCB HLA HLB t91 t92 t93 t101 t102 t103;generalize w10.setCell ⟨b11,1,none⟩ (.slice G1 (Zcj xf yf).length n1)=Y2 at *;have t91:=(Zaa HSQ.out.k9 1).trans rfl;have t92:=(Zaa HSQ.out.k9 2).trans rfl;have t93:=(Zaa HSQ.out.k9 3).trans rfl;have t101:=(Zaa HSQ.out.k10 1).trans rfl;have t102:=(Zaa HSQ.out.k10 2).trans rfl;have t103:=(Zaa HSQ.out.k10 3).trans rfl;have HCA:Zrw ((Kd.int .i64).C Y2 B2 xl.length xl):=⟨ri_C HSQ.out.ra2⟩
  have HCB:Zrw ((Kd.int .i64).C Y2 C2 yl.length yl):=⟨ri_C HSQ.out.rc2⟩
  have HLA:Zrw (xl.length≤100000):=⟨Nat.le_trans HXL.out.len hl2'⟩
  have HLB:Zrw (yl.length≤100000):=⟨Nat.le_trans HYL.out.len hl2'⟩
  go_upto_region 21 with (go_at_call 96;(with_reducible refine (Zdq B2 C2 e2 j2 xl yl Y2 HCA.out HCB.out HLA.out HLB.out).mono ?_);rintro e w11 ⟨v10,rfl,ho,hb⟩;obtain⟨G2,n2,rfl⟩:=Kd.R_slice ho;have HU:=Zrw.mk (HSQ.out.vs.ri ho (Nat.le_refl _));have HSQX:=Zrw.mk (HSQ.out.below hb);have z1:=(Zaa HSQX.out.k11 2).trans rfl;have zf:=Zam HSQX.out.k11 2;clear ho hb)
  have HSQ:=Zrw.mk (HSQX.out.put2 HU.out);clear HSQX HU z1 zf HCA HCB HLA HLB t91 t92 t93 t101 t102 t103;generalize w11.setCell ⟨b11,2,none⟩ (.slice G2 (Zcj xl yl).length n2)=Y3 at *;have t110:=(Zaa HSQ.out.k11 0).trans rfl;have t111:=(Zaa HSQ.out.k11 1).trans rfl;have t112:=(Zaa HSQ.out.k11 2).trans rfl;have t113:=(Zaa HSQ.out.k11 3).trans rfl;have t114:=(Zaa HSQ.out.k11 4).trans rfl;have t115:=(Zaa HSQ.out.k11 5).trans rfl;have r0:=HSQ.out.fr.cl.r 0 _ rfl;have r1:=HSQ.out.fr.cl.r 1 _ rfl;have r2:=HSQ.out.fr.cl.r 2 _ rfl;have r3:=HSQ.out.fr.cl.r 3 _ rfl;have r4:=HSQ.out.fr.cl.r 4 _ rfl;have r5:=HSQ.out.fr.cl.r 5 _ rfl;have rf:=HSQ.out.fr.cl.f;go_wp2
  refine bodyPost_ret (results_cell_row rfl _ _ br 126 #[.int .i64 0,.slice G1 (Zcj xf yf).length n1,.slice G2 (Zcj xl yl).length n2,.bool true,.int .i64 0,.int .i64 0] (0,0) _ rfl (Zck rfl HSQ.out.fr.r _ _ _) Tryz.underlying126 rfl (by kernel_rfl)) rfl ?_
  exact Zdn (x:=⟨Zcj xf yf,Zcj xl yl,true⟩) (s':=s2.link xl yf) HV.out HG.out HSQ.out.fr HSQ.out.vs HSQ.out.k HN8.out HSQ.out.rf HSQ.out.rl HEE.out HSS.out HII.out
theorem Zfp {w:World}{b9 b10:Nat}{a1 a2 c1 c2:Value}{e d:Bool}(h9:w.heap[b9]?=some (.cells (Zgp a1 a2 e) 126 (0,0)))(h10:w.heap[b10]?=some (.cells (Zgp c1 c2 d) 126 (0,0))) :
 w.cell? ⟨b9,1,none⟩=some a1∧w.cell? ⟨b9,2,none⟩=some a2∧w.cell? ⟨b9,3,none⟩=some (.bool e)∧w.cell? ⟨b10,1,none⟩=some c1∧w.cell? ⟨b10,2,none⟩=some c2∧w.cell? ⟨b10,3,none⟩=some (.bool d):=
 ⟨(Zaa h9 1).trans rfl,(Zaa h9 2).trans rfl,(Zaa h9 3).trans rfl,(Zaa h10 1).trans rfl,(Zaa h10 2).trans rfl,(Zaa h10 3).trans rfl⟩
theorem tw_put {w:World}{b9 b10 br:Nat}{a1 a2 c1 c2:Value}{e d:Bool}(h9:w.heap[b9]?=some (.cells (Zgp a1 a2 e) 126 (0,0)))(h10:w.heap[b10]?=some (.cells (Zgp c1 c2 d) 126 (0,0)))(n9:br<b9)(n10:b9<b10)(d0 d1 d2 d3 d4 d5:Value) :
 ((((((w.setCell ⟨br,0,none⟩ d0).setCell ⟨br,1,none⟩ d1).setCell ⟨br,2,none⟩ d2).setCell ⟨br,3,none⟩ d3).setCell ⟨br,4,none⟩ d4).setCell ⟨br,5,none⟩ d5).cell? ⟨b9,1,none⟩=some a1∧((((((w.setCell ⟨br,0,none⟩ d0).setCell ⟨br,1,none⟩ d1).setCell ⟨br,2,none⟩ d2).setCell ⟨br,3,none⟩ d3).setCell ⟨br,4,none⟩ d4).setCell ⟨br,5,none⟩ d5).cell? ⟨b9,2,none⟩=some a2∧((((((w.setCell ⟨br,0,none⟩ d0).setCell ⟨br,1,none⟩ d1).setCell ⟨br,2,none⟩ d2).setCell ⟨br,3,none⟩ d3).setCell ⟨br,4,none⟩ d4).setCell ⟨br,5,none⟩ d5).cell? ⟨b9,3,none⟩=some (.bool e)∧((((((w.setCell ⟨br,0,none⟩ d0).setCell ⟨br,1,none⟩ d1).setCell ⟨br,2,none⟩ d2).setCell ⟨br,3,none⟩ d3).setCell ⟨br,4,none⟩ d4).setCell ⟨br,5,none⟩ d5).cell? ⟨b10,1,none⟩=some c1∧((((((w.setCell ⟨br,0,none⟩ d0).setCell ⟨br,1,none⟩ d1).setCell ⟨br,2,none⟩ d2).setCell ⟨br,3,none⟩ d3).setCell ⟨br,4,none⟩ d4).setCell ⟨br,5,none⟩ d5).cell? ⟨b10,2,none⟩=some c2∧((((((w.setCell ⟨br,0,none⟩ d0).setCell ⟨br,1,none⟩ d1).setCell ⟨br,2,none⟩ d2).setCell ⟨br,3,none⟩ d3).setCell ⟨br,4,none⟩ d4).setCell ⟨br,5,none⟩ d5).cell? ⟨b10,3,none⟩=some (.bool d):=by
 have hk:=Zki w br d0 d1 d2 d3 d4 d5;exact Zfp ((hk.2 _ (Zau h9) (by omega)).trans h9) ((hk.2 _ (Zau h10) (by omega)).trans h10)
set_option maxHeartbeats 8000000 in
theorem walk_alt (n:Nat)(hw:WalkC n)(hwg:WGood n)(w0:W0)(W:World)(gb:Nat)(h0 h1 vs vf:Value)(φ:Nat→Nat)(v:Value)(s:St)(b:Nat)(p:S76)(vp:Value)(h:VS w0 W gb h0 h1 vs vf φ v s.pl s.sh)(hg:Good s)(hb:b<s.pl.length)(hp:PatV w0 p vp)(hk:p.f0=6)
 (hc1:2≤p.f3.length) (hok:Zfc n (Zak p.f3 0)) (hok2:Zfc n (Zak p.f3 1)) (hlen:s.pl.length+(Zcy n (Zak p.f3 0)+Zcy n (Zak p.f3 1))≤100000) :
 Calls Tryz.prog 75 #[.pointer (some ⟨gb,0,none⟩),.pointer (some ⟨φ b,0,none⟩),vp] W (Zlh w0 W gb h0 h1 vs vf φ v s
  (altX (Zax n b (Zak p.f3 0) s).1 (Zax n b (Zak p.f3 1) (Zax n b (Zak p.f3 0) s).2).1)
  (Zax n b (Zak p.f3 1) (Zax n b (Zak p.f3 0) s).2).2):=by
 obtain⟨A1,c1,A2,c2,A3,c3,rfl,l1,g1,l2,g2,l3,g3⟩:=hp;rw[hk];have HV:=Zrw.mk h;have HG:=Zrw.mk hg;obtain⟨ad,D1,d1,D2,d2,D3,d3,rfl,hq,hcells⟩:=kid0 g3 (by omega);obtain⟨F1,f1,F2,f2,F3,f3,hr,hcells2⟩:=kid1 g3 (by omega);have hwq:=hwg b (Zak p.f3 0) s hg hb;have hc:=fun W v hv=>hw w0 W gb h0 h1 vs vf φ v s b (Zak p.f3 0) _ hv hg hb hok (by omega) hq
 generalize (Zax n b (Zak p.f3 0) s).1=x at *;generalize (Zax n b (Zak p.f3 0) s).2=sa at *;obtain⟨hga,hla,hra1,hra2⟩:=hwq;have hwr:=hwg b (Zak p.f3 1) sa hga (by omega);have hd:=fun W φ v hv=>hw w0 W gb h0 h1 vs vf φ v sa b (Zak p.f3 1) _ hv hga (by omega) hok2 (by omega) hr
 generalize (Zax n b (Zak p.f3 1) sa).1=y at *;generalize (Zax n b (Zak p.f3 1) sa).2=s2 at *;obtain⟨hg2,hl2,hrb1,hrb2⟩:=hwr;have HRA:=Zrw.mk hg2.ris;have HXF:Zrw (Ris s2.pl.length x.first):=⟨hra1.mono (by omega)⟩
 have HXL:Zrw (Ris s2.pl.length x.last):=⟨hra2.mono (by omega)⟩
 have HYF:Zrw (Ris s2.pl.length y.first):=⟨hrb1.mono (by omega)⟩
 have HYL:Zrw (Ris s2.pl.length y.last):=⟨hrb2.mono (by omega)⟩
 have HC:=Zrw.mk hc;have HD:=Zrw.mk hd;have HCE:=Zrw.mk hcells;have HCF:=Zrw.mk hcells2;have HGA:=Zrw.mk hga;have hl2':s2.pl.length≤100000:=by omega
 have hls:s.pl.length≤sa.pl.length:=by omega
 have hbs:b<s.pl.length:=hb;clear h hg g1 g2 g3 hw hwg hq hok hc hcells hg2 hra1 hra2 hrb1 hrb2 hcells2 hd hr hok2 hga hb;generalize Zak p.f3 0=q at *;generalize Zak p.f3 1=r at *
 go_enter Tryz.func75,Tryz.ntmps75
 go_upto_region 1 with (fail)
 have HFR:=Zrw.mk (Fr.first W #[.int .i64 6,.slice A1 p.f1.length c1,.slice A2 p.f2.length c2,.slice (some ad) p.f3.length c3]);have HVX:=Zrw.mk (HV.out.below (Zab (Zab (Below.refl _ W) (.cells #[.int .i64 6,.slice A1 p.f1.length c1,.slice A2 p.f2.length c2,.slice (some ad) p.f3.length c3] 73)) (.cells Zcc 126)));have HKX:=Zrw.mk (KeptV.of_below (Zab (Zab (Below.refl _ W) (.cells #[.int .i64 6,.slice A1 p.f1.length c1,.slice A2 p.f2.length c2,.slice (some ad) p.f3.length c3] 73)) (.cells Zcc 126)) gb v);have HLO:Zrw (w0.heap.size≤W.heap.size+1):=⟨by have h9:w0.heap.size≤W.heap.size:=HV.out.bel.size;omega⟩
 generalize (W.alloc (.cells #[.int .i64 6,.slice A1 p.f1.length c1,.slice A2 p.f2.length c2,.slice (some ad) p.f3.length c3] 73)).alloc (.cells Zcc 126)=X at *;generalize W.heap.size+1=br at *;generalize W.heap.size=bp at *;have p0:=HFR.out.cl.p 0 _ rfl;have p3:=HFR.out.cl.p 3 _ rfl;have HHI:Zrw (br<X.heap.size):=⟨Zau HFR.out.r⟩
 obtain⟨q0,q1,q2,q3⟩:=HCE.out X HVX.out.bel
 go_upto_region 24 with (go_at_call 75;(with_reducible refine (HC.out _ _ HVX.out).mono ?_);rintro e w5 ⟨x1,x2,φ2,v5,rfl,hr1,hr2,hv5,hk5,hn5,he5,hs5,hi5⟩;obtain⟨B1,e1,rfl,hl1,_⟩:=hr1.C;obtain⟨B2,e2,rfl,hl2,_⟩:=hr2.C;have HFR5:=Zrw.mk (HFR.out.kept HVX.out hk5);have HR1:=Zrw.mk hr1;have HR2:=Zrw.mk hr2;have HV5:=Zrw.mk hv5;have HK5:=Zrw.mk hk5;have HN5:=Zrw.mk hn5;have HE5:=Zrw.mk he5;have HS5:=Zrw.mk hs5;have HI5:=Zrw.mk hi5;clear hr1 hr2 hv5 hk5 hn5 he5 hs5 hi5)
 have hb6:=Zab (Below.refl _ w5) (.cells (Zgp (.slice B1 x.first.length e1) (.slice B2 x.last.length e2) x.empty) 126);have HFR6:=Zrw.mk (HFR5.out.below hb6);have HV6:=Zrw.mk (HV5.out.below hb6);have HK6:=Zrw.mk (show KeptV W _ gb v from (HKX.out.trans HK5.out (NewOr.refl _ _)).below hb6);have HN6:=Zrw.mk (Zec HKX.out HN5.out);have HB9:=Zrw.mk (Zaj w5 (.cells (Zgp (.slice B1 x.first.length e1) (.slice B2 x.last.length e2) x.empty) 126));have HR1:=Zrw.mk (Zap HR1.out hb6);have HR2:=Zrw.mk (Zap HR2.out hb6);have HO9:Zrw (br<w5.heap.size):=⟨Zau HFR5.out.r⟩
 have HS9:Zrw (∀k z,(k,z)∈sa.sh→φ2 k<w5.heap.size):=⟨fun k z hk=>by obtain⟨u1,u2,hc,_⟩:=(HV5.out.shapes k z hk).cells;exact Zau hc⟩
 clear hb6 HFR5 HV5 HK5 HN5;generalize w5.alloc (.cells (Zgp (.slice B1 x.first.length e1) (.slice B2 x.last.length e2) x.empty) 126)=X6 at *;generalize w5.heap.size=b9 at *;have hd6:=HD.out X6 φ2 v5 HV6.out;rw[HE5.out b hbs]at hd6;have HD6:=Zrw.mk hd6;clear hd6 q0 q1 q2 q3 p0 p3;have p3:=HFR6.out.cl.p 3 _ rfl;obtain⟨q0,q1,q2,q3⟩:=HCF.out X6 HV6.out.bel
 go_upto_region 25 with (go_at_call 75;(with_reducible refine HD6.out.mono ?_);rintro e w7 ⟨x1,x2,φ3,v7,rfl,hr1,hr2,hv7,hk7,hn7,he7,hs7,hi7⟩;obtain⟨C1,j1,rfl,hl1,_⟩:=hr1.C;obtain⟨C2,j2,rfl,hl2,_⟩:=hr2.C;have HFR7:=Zrw.mk (HFR6.out.kept HV6.out hk7);have HS1:=Zrw.mk hr1;have HS2:=Zrw.mk hr2;have HV7:=Zrw.mk hv7;have HK7:=Zrw.mk hk7;have HN7:=Zrw.mk hn7;have HE7:=Zrw.mk he7;have HS7:=Zrw.mk hs7;have HI7:=Zrw.mk hi7;clear hr1 hr2 hv7 hk7 hn7 he7 hs7 hi7)
 have hb8:=Zab (Below.refl _ w7) (.cells (Zgp (.slice C1 y.first.length j1) (.slice C2 y.last.length j2) y.empty) 126);have h367:=HV6.out.same3 HK7.out;have HFR8:=Zrw.mk (HFR7.out.below hb8);have HV8:=Zrw.mk (HV7.out.below hb8);have HK8:=Zrw.mk (show KeptV W _ gb v from (HK6.out.trans HK7.out HN6.out).below hb8);have HN8:=Zrw.mk (NewOr.trans HN6.out HN7.out HK6.out.1);have HB9':=Zrw.mk (Zaf (Zeh HV6.out HK7.out HB9.out) hb8);have HB10:=Zrw.mk (Zaj w7 (.cells (Zgp (.slice C1 y.first.length j1) (.slice C2 y.last.length j2) y.empty) 126));have HR1:=Zrw.mk (Zap (HR1.out.same h367) hb8);have HR2:=Zrw.mk (Zap (HR2.out.same h367) hb8);have HS1:=Zrw.mk (Zap HS1.out hb8);have HS2:=Zrw.mk (Zap HS2.out hb8);have HO10:Zrw (b9<w7.heap.size):=⟨Zau (Zeh HV6.out HK7.out HB9.out)⟩
 have HS10:Zrw (∀k z,(k,z)∈s2.sh→φ3 k<w7.heap.size):=⟨fun k z hk=>by obtain⟨u1,u2,hc,_⟩:=(HV7.out.shapes k z hk).cells;exact Zau hc⟩
 have HSS:Zrw (∀k z,(k,z)∈s2.sh→(k,z)∈s.sh∨(s.pl.length≤k∧br<φ3 k)):=⟨fun k z hk=>by
  have ho9:=HO9.out;have hb9:=Zau HB9.out;have hhi:=HHI.out
  rcases HS7.out k z hk with h | ⟨h,h2⟩
  ·rcases HS5.out k z h with h3 | ⟨h3,h4⟩
   ·exact .inl h3
   ·refine .inr ⟨h3,?_⟩;rw[HE7.out k (HGA.out.shs k z h).1];omega
  ·exact .inr ⟨by omega,by omega⟩⟩
 have HEE:Zrw (∀k,k<s.pl.length→φ3 k=φ k):=⟨fun k hk=>(HE7.out k (by omega)).trans (HE5.out k hk)⟩
 have HII:Zrw (Zge φ s.sh→Zge φ3 s2.sh):=⟨fun h=>HI7.out (HI5.out h)⟩
 clear hb8 HFR7 HK7 HN7 h367 HFR6 HV6 HK6 HN6 HB9 HS9 HE7 HS7 HI7 HE5 HS5 HI5 q0 q1 q2 q3 p3 HD6 HV7;generalize w7.alloc (.cells (Zgp (.slice C1 y.first.length j1) (.slice C2 y.last.length j2) y.empty) 126)=X8 at *;generalize w7.heap.size=b10 at *;obtain⟨xf,xl,xe⟩:=x;obtain⟨yf,yl,ye⟩:=y;have HLA:Zrw (xf.length≤100000∧yf.length≤100000):=⟨Nat.le_trans HXF.out.len hl2',Nat.le_trans HYF.out.len hl2'⟩
 have HLB:Zrw (xl.length≤100000∧yl.length≤100000):=⟨Nat.le_trans HXL.out.len hl2',Nat.le_trans HYL.out.len hl2'⟩
 have HC1:Zrw (∀w,Below X8.heap.size X8 w→Calls Tryz.prog 96 #[.slice B1 xf.length e1,.slice C1 yf.length j1] w fun e w'=>∃v,e=.returned v∧(Kd.int .i64).R 3 w' w.heap.size (fun _=>True) v (Zcj xf yf)∧Below w.heap.size w w'):=⟨fun w hw=>Zdq B1 C1 e1 j1 xf yf w (Kd.C_below (ri_C HR1.out) hw) (Kd.C_below (ri_C HS1.out) hw) HLA.out.1 HLA.out.2⟩
 have HC2:Zrw (∀w,Below X8.heap.size X8 w→Calls Tryz.prog 96 #[.slice B2 xl.length e2,.slice C2 yl.length j2] w fun e w'=>∃v,e=.returned v∧(Kd.int .i64).R 3 w' w.heap.size (fun _=>True) v (Zcj xl yl)∧Below w.heap.size w w'):=⟨fun w hw=>Zdq B2 C2 e2 j2 xl yl w (Kd.C_below (ri_C HR2.out) hw) (Kd.C_below (ri_C HS2.out) hw) HLB.out.1 HLB.out.2⟩
 have HBD:Zrw (Below X8.heap.size X8 X8.drew):=⟨Zdm Zbr⟩
 have HSZ:Zrw (w0.heap.size≤X8.heap.size):=⟨HV8.out.bel.size⟩
 cases xe
 ·cases ye
  ·first | (go_region_held3 (fun w'=>w'.cell? ⟨b9,1,none⟩=some (.slice B1 xf.length e1)∧w'.cell? ⟨b9,2,none⟩=some (.slice B2 xl.length e2)∧w'.cell? ⟨b9,3,none⟩=some (.bool false)∧w'.cell? ⟨b10,1,none⟩=some (.slice C1 yf.length j1)∧w'.cell? ⟨b10,2,none⟩=some (.slice C2 yl.length j2)∧w'.cell? ⟨b10,3,none⟩=some (.bool false))
    (first | (with_reducible exact tw_put (Zaf HB9'.out HBV.out) (Zaf HB10.out HBV.out) HO9.out HO10.out _ _ _ _ _ _) | (with_reducible exact Zfp (Zaf HB9'.out HBV.out) (Zaf HB10.out HBV.out)) | (with_reducible exact Zfp (Zaf HB9'.out HBD.out) (Zaf HB10.out HBD.out)))
    (first | (go_simp;go_at_call 96;(with_reducible refine (HC1.out _ (by first | exact HBV.out | exact HBD.out)).mono ?_);rintro e w10 ⟨v10,rfl,ho,hb⟩;obtain⟨G1,n1,rfl⟩:=Kd.R_slice ho;have hb8:Below X8.heap.size X8 w10:=Zae (by first | exact HBV.out | exact HBD.out) hb;have HU1:=Zrw.mk (HV8.out.ri ho (by first | exact HBV.out.size | exact HBD.out.size));(try (have HU2:=Zrw.mk (Zap HU2.out hb)));have HFRE:=Zrw.mk (HFR8.out.below hb8);have r0:=HFRE.out.cl.r 0 _ rfl;have r1:=HFRE.out.cl.r 1 _ rfl;have r2:=HFRE.out.cl.r 2 _ rfl;have r3:=HFRE.out.cl.r 3 _ rfl;have r4:=HFRE.out.cl.r 4 _ rfl;have r5:=HFRE.out.cl.r 5 _ rfl;have rf:=HFRE.out.cl.f;have HBV:=Zrw.mk hb8;clear ho hb hb8) | (go_simp;go_at_call 96;(with_reducible refine (HC2.out _ (by first | exact HBV.out | exact HBD.out)).mono ?_);rintro e w11 ⟨v11,rfl,ho,hb⟩;obtain⟨G2,n2,rfl⟩:=Kd.R_slice ho;have hb8:Below X8.heap.size X8 w11:=Zae (by first | exact HBV.out | exact HBD.out) hb;have HU2:=Zrw.mk (HV8.out.ri ho (by first | exact HBV.out.size | exact HBD.out.size));(try (have HU1:=Zrw.mk (Zap HU1.out hb)));have HFRE:=Zrw.mk (HFR8.out.below hb8);have r0:=HFRE.out.cl.r 0 _ rfl;have r1:=HFRE.out.cl.r 1 _ rfl;have r2:=HFRE.out.cl.r 2 _ rfl;have r3:=HFRE.out.cl.r 3 _ rfl;have r4:=HFRE.out.cl.r 4 _ rfl;have r5:=HFRE.out.cl.r 5 _ rfl;have rf:=HFRE.out.cl.f;have HBV:=Zrw.mk hb8;clear ho hb hb8))) | fail
   all_goals (
    go_wp2
    refine bodyPost_ret (results_cell_row rfl _ _ br 126 #[.int .i64 0,.slice G1 (Zcj xf yf).length n1,.slice G2 (Zcj xl yl).length n2,.bool false,.int .i64 0,.int .i64 0] (0,0) _ rfl (Zck rfl HFRE.out.r _ _ _) Tryz.underlying126 rfl (by kernel_rfl)) rfl ?_
    exact Zdn (x:=⟨Zcj xf yf,Zcj xl yl,false⟩) (s':=s2) HV.out HG.out HFRE.out (HV8.out.below HBV.out) (Kept.below HK8.out HBV.out) HN8.out HU1.out HU2.out HEE.out HSS.out HII.out)
  ·first | (go_region_held3 (fun w'=>w'.cell? ⟨b9,1,none⟩=some (.slice B1 xf.length e1)∧w'.cell? ⟨b9,2,none⟩=some (.slice B2 xl.length e2)∧w'.cell? ⟨b9,3,none⟩=some (.bool false)∧w'.cell? ⟨b10,1,none⟩=some (.slice C1 yf.length j1)∧w'.cell? ⟨b10,2,none⟩=some (.slice C2 yl.length j2)∧w'.cell? ⟨b10,3,none⟩=some (.bool true))
    (first | (with_reducible exact tw_put (Zaf HB9'.out HBV.out) (Zaf HB10.out HBV.out) HO9.out HO10.out _ _ _ _ _ _) | (with_reducible exact Zfp (Zaf HB9'.out HBV.out) (Zaf HB10.out HBV.out)) | (with_reducible exact Zfp (Zaf HB9'.out HBD.out) (Zaf HB10.out HBD.out)))
    (first | (go_simp;go_at_call 96;(with_reducible refine (HC1.out _ (by first | exact HBV.out | exact HBD.out)).mono ?_);rintro e w10 ⟨v10,rfl,ho,hb⟩;obtain⟨G1,n1,rfl⟩:=Kd.R_slice ho;have hb8:Below X8.heap.size X8 w10:=Zae (by first | exact HBV.out | exact HBD.out) hb;have HU1:=Zrw.mk (HV8.out.ri ho (by first | exact HBV.out.size | exact HBD.out.size));(try (have HU2:=Zrw.mk (Zap HU2.out hb)));have HFRE:=Zrw.mk (HFR8.out.below hb8);have r0:=HFRE.out.cl.r 0 _ rfl;have r1:=HFRE.out.cl.r 1 _ rfl;have r2:=HFRE.out.cl.r 2 _ rfl;have r3:=HFRE.out.cl.r 3 _ rfl;have r4:=HFRE.out.cl.r 4 _ rfl;have r5:=HFRE.out.cl.r 5 _ rfl;have rf:=HFRE.out.cl.f;have HBV:=Zrw.mk hb8;clear ho hb hb8) | (go_simp;go_at_call 96;(with_reducible refine (HC2.out _ (by first | exact HBV.out | exact HBD.out)).mono ?_);rintro e w11 ⟨v11,rfl,ho,hb⟩;obtain⟨G2,n2,rfl⟩:=Kd.R_slice ho;have hb8:Below X8.heap.size X8 w11:=Zae (by first | exact HBV.out | exact HBD.out) hb;have HU2:=Zrw.mk (HV8.out.ri ho (by first | exact HBV.out.size | exact HBD.out.size));(try (have HU1:=Zrw.mk (Zap HU1.out hb)));have HFRE:=Zrw.mk (HFR8.out.below hb8);have r0:=HFRE.out.cl.r 0 _ rfl;have r1:=HFRE.out.cl.r 1 _ rfl;have r2:=HFRE.out.cl.r 2 _ rfl;have r3:=HFRE.out.cl.r 3 _ rfl;have r4:=HFRE.out.cl.r 4 _ rfl;have r5:=HFRE.out.cl.r 5 _ rfl;have rf:=HFRE.out.cl.f;have HBV:=Zrw.mk hb8;clear ho hb hb8))) | fail
   all_goals (
    go_wp2
    refine bodyPost_ret (results_cell_row rfl _ _ br 126 #[.int .i64 0,.slice G1 (Zcj xf yf).length n1,.slice G2 (Zcj xl yl).length n2,.bool true,.int .i64 0,.int .i64 0] (0,0) _ rfl (Zck rfl HFRE.out.r _ _ _) Tryz.underlying126 rfl (by kernel_rfl)) rfl ?_
    exact Zdn (x:=⟨Zcj xf yf,Zcj xl yl,true⟩) (s':=s2) HV.out HG.out HFRE.out (HV8.out.below HBV.out) (Kept.below HK8.out HBV.out) HN8.out HU1.out HU2.out HEE.out HSS.out HII.out)
 ·refine wp_region_noPanic ?_
  refine wp_region_held_drew (S:=(fun w'=>w'.cell? ⟨b9,1,none⟩=some (.slice B1 xf.length e1)∧w'.cell? ⟨b9,2,none⟩=some (.slice B2 xl.length e2)∧w'.cell? ⟨b9,3,none⟩=some (.bool true)∧w'.cell? ⟨b10,1,none⟩=some (.slice C1 yf.length j1)∧w'.cell? ⟨b10,2,none⟩=some (.slice C2 yl.length j2)∧w'.cell? ⟨b10,3,none⟩=some (.bool ye))) (by kernel_rfl) (Zfp (Zaf HB9'.out HBD.out) (Zaf HB10.out HBD.out)) (fun hHeld=>?_);refine wpAnyH_take (i:=0) (v:=?_) rfl (by kernel_rfl) (by kernel_rfl) (by kernel_rfl) (fun _ _ _ h=>h) (Or.inl ⟨by rfl,?_⟩) hHeld ?_
  rotate_left
  ·intro w hSw;(try dsimp only at hSw);go_simp;try (with_reducible rfl)
  (try simp only[Act.put,List.setIfInBounds_toArray,List.set_cons_zero,List.set_cons_succ])
  refine wpAnyH_take (i:=1) (v:=?_) rfl (by kernel_rfl) (by kernel_rfl) (by kernel_rfl) (fun _ _ _ h=>h) (Or.inl ⟨by rfl,?_⟩) hHeld ?_
  rotate_left
  ·intro w hSw;(try dsimp only at hSw);go_simp;try (with_reducible rfl)
  (try simp only[Act.put,List.setIfInBounds_toArray,List.set_cons_zero,List.set_cons_succ])
  refine wpAnyH_take (i:=2) (v:=?_) rfl (by kernel_rfl) (by kernel_rfl) (by kernel_rfl) (fun _ _ _ h=>h) (Or.inl ⟨by rfl,?_⟩) hHeld ?_
  rotate_left
  ·intro w hSw;(try dsimp only at hSw);go_simp;try (with_reducible rfl)
  (try simp only[Act.put,List.setIfInBounds_toArray,List.set_cons_zero,List.set_cons_succ])
  refine wpAnyH_take (i:=3) (v:=?_) rfl (by kernel_rfl) (by kernel_rfl) (by kernel_rfl) (fun _ _ _ h=>h) (Or.inl ⟨by rfl,?_⟩) hHeld ?_
  rotate_left
  ·intro w hSw;(try dsimp only at hSw);go_simp;try (with_reducible rfl)
  (try simp only[Act.put,List.setIfInBounds_toArray,List.set_cons_zero,List.set_cons_succ])
  refine wpAnyH_take (i:=5) (v:=?_) rfl (by kernel_rfl) (by kernel_rfl) (by kernel_rfl) (fun _ _ _ h=>h) (Or.inl ⟨by rfl,?_⟩) hHeld ?_
  rotate_left
  ·intro w hSw;(try dsimp only at hSw);go_simp;try (with_reducible rfl)
  (try simp only[Act.put,List.setIfInBounds_toArray,List.set_cons_zero,List.set_cons_succ])
  refine wpAnyH_take (i:=6) (v:=?_) rfl (by kernel_rfl) (by kernel_rfl) (by kernel_rfl) (fun _ _ _ h=>h) (Or.inl ⟨by rfl,?_⟩) hHeld ?_
  rotate_left
  ·intro w hSw;(try dsimp only at hSw);go_simp;try (with_reducible rfl)
  (try simp only[Act.put,List.setIfInBounds_toArray,List.set_cons_zero,List.set_cons_succ])
  refine wpAnyH_take (i:=7) (v:=?_) rfl (by kernel_rfl) (by kernel_rfl) (by kernel_rfl) (fun _ _ _ h=>h) (Or.inl ⟨by rfl,?_⟩) hHeld ?_
  rotate_left
  ·intro w hSw;(try dsimp only at hSw);go_simp;try (with_reducible rfl)
  (try simp only[Act.put,List.setIfInBounds_toArray,List.set_cons_zero,List.set_cons_succ])
  refine wpAnyH_take (i:=8) (v:=?_) rfl (by kernel_rfl) (by kernel_rfl) (by kernel_rfl) (fun _ _ _ h=>h) (Or.inl ⟨by rfl,?_⟩) hHeld ?_
  rotate_left
  ·intro w hSw;(try dsimp only at hSw);go_simp;try (with_reducible rfl)
  (try simp only[Act.put,List.setIfInBounds_toArray,List.set_cons_zero,List.set_cons_succ])
  refine wpAnyH_take (i:=10) (v:=?_) rfl (by kernel_rfl) (by kernel_rfl) (by kernel_rfl) (fun _ _ _ h=>h) (Or.inl ⟨by rfl,?_⟩) hHeld ?_
  rotate_left
  ·intro w hSw;(try dsimp only at hSw);go_simp;try (with_reducible rfl)
  (try simp only[Act.put,List.setIfInBounds_toArray,List.set_cons_zero,List.set_cons_succ])
  refine wpAnyH_take (i:=11) (v:=?_) rfl (by kernel_rfl) (by kernel_rfl) (by kernel_rfl) (fun _ _ _ h=>h) (Or.inl ⟨by rfl,?_⟩) hHeld ?_
  rotate_left
  ·intro w hSw;(try dsimp only at hSw);go_simp;try (with_reducible rfl)
  (try simp only[Act.put,List.setIfInBounds_toArray,List.set_cons_zero,List.set_cons_succ])
  refine wpAnyH_ready (rs:=[4]) (by kernel_rfl) (by simp) ?_
  refine AllReadyH.cons rfl (fun K hK=>?_) AllReadyH.nil;go_simp;go_at_call 96;(with_reducible refine (HC1.out _ HBD.out).mono ?_);rintro e w10 ⟨v10,rfl,ho,hb⟩;obtain⟨G1,n1,rfl⟩:=Kd.R_slice ho;have hb8:Below X8.heap.size X8 w10:=Zae HBD.out hb;have HU1:=Zrw.mk (HV8.out.ri ho HBD.out.size);have HFRE:=Zrw.mk (HFR8.out.below hb8);have HBV:=Zrw.mk hb8;clear ho hb hb8;refine hK.out _ _ (Zfp (Zaf HB9'.out HBV.out) (Zaf HB10.out HBV.out)) (fun hHeld=>?_);clear hK K
  (try simp only[Act.put,List.setIfInBounds_toArray,List.set_cons_zero,List.set_cons_succ])
  refine wpAnyH_ready (rs:=[9]) (by kernel_rfl) (by simp) ?_
  refine AllReadyH.cons rfl (fun K hK=>?_) AllReadyH.nil;go_simp;go_at_call 96;(with_reducible refine (HC2.out _ HBV.out).mono ?_);rintro e w11 ⟨v11,rfl,ho,hb⟩;obtain⟨G2,n2,rfl⟩:=Kd.R_slice ho;have hb8:Below X8.heap.size X8 w11:=Zae HBV.out hb;have HU2:=Zrw.mk (HV8.out.ri ho HBV.out.size);have HU1:=Zrw.mk (Zap HU1.out hb);have HFRE:=Zrw.mk (HFR8.out.below hb8);have HBV:=Zrw.mk hb8;clear ho hb hb8;refine hK.out _ _ (Zfp (Zaf HB9'.out HBV.out) (Zaf HB10.out HBV.out)) (fun hHeld=>?_);clear hK K
  (try simp only[Act.put,List.setIfInBounds_toArray,List.set_cons_zero,List.set_cons_succ])
  refine wpAnyH_take (i:=12) (v:=?_) rfl (by kernel_rfl) (by kernel_rfl) (by kernel_rfl) (fun _ _ _ h=>h) (Or.inl ⟨by rfl,?_⟩) hHeld ?_
  rotate_left
  ·intro w hSw;(try dsimp only at hSw);go_simp;try (with_reducible rfl)
  (try simp only[Act.put,List.setIfInBounds_toArray,List.set_cons_zero,List.set_cons_succ])
  refine wpAnyH_take (i:=13) (v:=undef) rfl (by kernel_rfl) (by kernel_rfl) (by kernel_rfl) (fun _ _ _ h=>h) (Or.inr ⟨by kernel_rfl,rfl⟩) hHeld ?_
  (try simp only[Act.put,List.setIfInBounds_toArray,List.set_cons_zero,List.set_cons_succ])
  refine wpAnyH_take (i:=14) (v:=undef) rfl (by kernel_rfl) (by kernel_rfl) (by kernel_rfl) (fun _ _ _ h=>h) (Or.inr ⟨by kernel_rfl,rfl⟩) hHeld ?_
  (try simp only[Act.put,List.setIfInBounds_toArray,List.set_cons_zero,List.set_cons_succ])
  refine wpAnyH_take (i:=15) (v:=?_) rfl (by kernel_rfl) (by kernel_rfl) (by kernel_rfl) (fun _ _ _ h=>h) (Or.inl ⟨by rfl,?_⟩) hHeld ?_
  rotate_left
  ·intro w hSw;(try dsimp only at hSw);go_simp;try (with_reducible rfl)
  (try simp only[Act.put,List.setIfInBounds_toArray,List.set_cons_zero,List.set_cons_succ])
  refine wpAnyH_take (i:=16) (v:=?_) rfl (by kernel_rfl) (by kernel_rfl) (by kernel_rfl) (fun _ _ _ h=>h) (Or.inl ⟨by rfl,?_⟩) hHeld ?_
  rotate_left
  ·intro w hSw;(try dsimp only at hSw);go_simp;try (with_reducible rfl)
  (try simp only[Act.put,List.setIfInBounds_toArray,List.set_cons_zero,List.set_cons_succ])
  have r0:=HFRE.out.cl.r 0 _ rfl;have r1:=HFRE.out.cl.r 1 _ rfl;have r2:=HFRE.out.cl.r 2 _ rfl;have r3:=HFRE.out.cl.r 3 _ rfl;have r4:=HFRE.out.cl.r 4 _ rfl;have r5:=HFRE.out.cl.r 5 _ rfl;have rf:=HFRE.out.cl.f;refine wpAnyH_ready (rs:=[17]) (by kernel_rfl) (by simp) ?_
  refine AllReadyH.cons rfl (fun K hK=>?_) AllReadyH.nil;go_simp;refine hK.out _ _ (tw_put (Zaf HB9'.out HBV.out) (Zaf HB10.out HBV.out) HO9.out HO10.out _ _ _ _ _ _) (fun hHeld=>?_);clear hK K
  (try simp only[Act.put,List.setIfInBounds_toArray,List.set_cons_zero,List.set_cons_succ])
  refine wpAnyH_done (by kernel_rfl) ?_ _
  refine NoPanic.normal ?_
  go_wp2
  refine bodyPost_ret (results_cell_row rfl _ _ br 126 #[.int .i64 0,.slice G1 (Zcj xf yf).length n1,.slice G2 (Zcj xl yl).length n2,.bool true,.int .i64 0,.int .i64 0] (0,0) _ rfl (Zck rfl HFRE.out.r _ _ _) Tryz.underlying126 rfl (by kernel_rfl)) rfl ?_
  exact Zdn (x:=⟨Zcj xf yf,Zcj xl yl,true⟩) (s':=s2) HV.out HG.out HFRE.out (HV8.out.below HBV.out) (Kept.below HK8.out HBV.out) HN8.out HU1.out HU2.out HEE.out HSS.out HII.out
theorem walkC:∀n,WalkC n
 | 0=>fun _ _ _ _ _ _ _ _ _ _ _ _ _ _ _ _ hok _ _=>hok.elim
 | n+1=>by
  have ih:=walkC n;have hwg:=Zhd n;intro w0 W gb h0 h1 vs vf φ v s b p vp h hg hb hok hlen hp;obtain⟨_,_,k3,k56,k7⟩:=hok;unfold Zax;unfold Zcy at hlen;by_cases c3:p.f0=3
  ·rw[if_pos (.inr (.inr c3))];rw[if_pos c3]at hlen;have e4:decide (p.f0=4)=false:=decide_eq_false (by omega);have e1:Zey b p s=s.add (Zbe b p):=by unfold Zey;rw[if_neg (by omega)]
   have hal:(s.add (Zbe b p)).pl.length=s.pl.length+1:=by simp[St.add]
   rw[e4];unfold Zhv;rw[if_pos c3,e1,hal];exact walk_pin n (Zfu n ih) hwg w0 W gb h0 h1 vs vf φ v s b p vp h hg hb hp c3 (k3 c3).1 (k3 c3).2 (by omega)
  ·rw[if_neg c3]at hlen;by_cases c2:p.f0=2
   ·rw[if_pos (.inl c2)];rw[if_pos (.inl c2)]at hlen;have e4:decide (p.f0=4)=false:=decide_eq_false (by omega);have e1:Zhv (Zax n) b p s=s.add (Zbe b p):=by unfold Zhv Zey;rw[if_neg c3,if_neg (by omega)]
    rw[e4,e1];exact walk_tok n w0 W gb h0 h1 vs vf φ v s b p vp h hg hb (by omega) hp c2
   ·by_cases c4:p.f0=4
    ·rw[if_pos (.inr (.inl c4))];rw[if_pos (.inr c4)]at hlen;have e4:decide (p.f0=4)=true:=decide_eq_true c4;have e1:Zhv (Zax n) b p s=(s.add (Zbe b p)).link [(s.pl.length:Int)] [(s.pl.length:Int)]:=by unfold Zhv Zey;rw[if_neg c3,if_pos c4]
     rw[e4,e1];exact walk_well n w0 W gb h0 h1 vs vf φ v s b p vp h hg hb (by omega) hp c4
    ·rw[if_neg (show ¬(p.f0=2∨p.f0=4∨p.f0=3) by omega)];rw[if_neg (show ¬(p.f0=2∨p.f0=4) by omega)]at hlen;by_cases c5:p.f0=5
     ·rw[if_pos c5];rw[if_pos (.inl c5)]at hlen;exact walk_seq n ih hwg w0 W gb h0 h1 vs vf φ v s b p vp h hg hb hp c5 (k56 (.inl c5)).1 (k56 (.inl c5)).2.1 (k56 (.inl c5)).2.2 hlen
     ·rw[if_neg c5];by_cases c6:p.f0=6
      ·rw[if_pos c6];rw[if_pos (.inr c6)]at hlen;exact walk_alt n ih hwg w0 W gb h0 h1 vs vf φ v s b p vp h hg hb hp c6 (k56 (.inr c6)).1 (k56 (.inr c6)).2.1 (k56 (.inr c6)).2.2 hlen
      ·rw[if_neg c6];rw[if_neg (show ¬(p.f0=5∨p.f0=6) by omega)]at hlen;by_cases c7:p.f0=7
       ·rw[if_pos c7];rw[if_pos c7]at hlen;exact walk_star n ih hwg w0 W gb h0 h1 vs vf φ v s b p vp h hg hb hp c7 (k7 c7).1 (k7 c7).2 hlen
       ·rw[if_neg c7];exact walk_none w0 W gb h0 h1 vs vf φ v s b p vp h hg hp c2 c3 c4 c5 c6 c7
theorem patternC (n:Nat):PatC n:=Zfu n (walkC n)
structure Bt where
 st:St
 steps:List (List Nat)
 frees:List Int
def Zgt (i:Int):Pl:=⟨1,none,z76,none,[],i⟩
def Zix:Pl:=⟨0,none,z76,none,[],0⟩
def Zay (D:Nat)(i:Int)(r:S52)(s:St):Nat→St × List Nat
 | 0=>(s,[])
 | k+1=>(Zhp (Zax D) (Zgs r k).f1 i k (Zay D i r s k).1,(Zay D i r s k).2++[(Zay D i r s k).1.pl.length])
def Zdg (i:Int)(r:S52)(s:St):St:=if r.f1=true then s.add (Zgt i)else s
def Zls (r:S52)(s:St):Int:=if r.f1=true then s.pl.length else -1
def Zqn (D:Nat)(i:Int)(r:S52)(b:Bt):Bt:=
 ⟨(Zay D i r (Zdg i r b.st) r.f2.length).1,b.steps++[(Zay D i r (Zdg i r b.st) r.f2.length).2],b.frees++[Zls r b.st]⟩
def Zbl (D:Nat)(G:S26):Nat→Bt
 | 0=>⟨⟨[Zix],[]⟩,[],[]⟩
 | i+1=>Zqn D i (Zcq G i) (Zbl D G i)
def stepsN (D:Nat)(r:S52):Nat→Nat
 | 0=>0
 | k+1=>stepsN D r k+(1+Zcy D (Zgs r k).f1)
def buildN (D:Nat)(G:S26):Nat→Nat
 | 0=>1
 | i+1=>buildN D G i+((if (Zcq G i).f1=true then 1 else 0)+stepsN D (Zcq G i) (Zcq G i).f2.length)
theorem Zka (D:Nat)(i:Int)(r:S52)(s:St)(h:Good s)(k:Nat):Good (Zay D i r s k).1∧(Zay D i r s k).1.pl.length=s.pl.length+stepsN D r k∧∀q∈(Zay D i r s k).2,q<(Zay D i r s k).1.pl.length:=by
 induction k with
 | zero=>exact⟨h,rfl,fun q hq=>by cases hq⟩
 | succ k ih=>
  obtain⟨h1,h2,h3⟩:=ih;obtain⟨p1,p2⟩:=Zho (Zhd D) (Zgs r k).f1 i k _ h1;refine⟨p1,?_,fun q hq=>?_⟩
  ·show (Zhp (Zax D) (Zgs r k).f1 i k (Zay D i r s k).1).pl.length=s.pl.length+(stepsN D r k+(1+Zcy D (Zgs r k).f1))
   omega
  ·show q<(Zhp (Zax D) (Zgs r k).f1 i k (Zay D i r s k).1).pl.length
   rcases List.mem_append.1 hq with hq | hq
   ·have:=h3 q hq;omega
   ·rw[List.mem_singleton]at hq;omega
theorem Zmk (i:Int)(r:S52)(s:St)(h:Good s):Good (Zdg i r s)∧(Zdg i r s).pl.length=s.pl.length+(if r.f1=true then 1 else 0):=by
 unfold Zdg
 split
 ·exact⟨h.add _ rfl (fun k hk=>by cases hk) (fun k hk=>by cases hk),by simp[St.add]⟩
 ·exact⟨h,rfl⟩
theorem wide_good:Good ⟨[Zix],[]⟩:=by
 refine⟨?_,?_,?_,?_⟩
 ·intro q;show Ris 1 (([Zix]:List Pl).getD q zPl).follow;cases q <;> exact Ris.nil _
 ·intro q k hq;cases q <;> cases hq
 ·intro q k hq;cases q <;> cases hq
 ·intro k x hk;cases hk
structure GoodB (b:Bt):Prop where
 st:Good b.st
 steps:∀l∈b.steps,∀q∈l,q<b.st.pl.length
theorem Zeg (D:Nat)(G:S26)(i:Nat):GoodB (Zbl D G i)∧(Zbl D G i).st.pl.length=buildN D G i:=by
 induction i with
 | zero=>exact⟨⟨wide_good,fun l hl=>by cases hl⟩,rfl⟩
 | succ i ih=>
  obtain⟨h1,h2⟩:=ih;obtain⟨f1,f2⟩:=Zmk i (Zcq G i) _ h1.st;obtain⟨s1,s2,s3⟩:=Zka D i (Zcq G i) _ f1 (Zcq G i).f2.length;refine⟨⟨s1,fun l hl q hq=>?_⟩,?_⟩
  ·show q<(Zay D i (Zcq G i) (Zdg i (Zcq G i) (Zbl D G i).st) (Zcq G i).f2.length).1.pl.length
   rcases List.mem_append.1 hl with hl | hl
   ·have:=h1.steps l hl q hq;omega
   ·rw[List.mem_singleton]at hl;subst hl;exact s3 q hq
  ·show (Zay D i (Zcq G i) (Zdg i (Zcq G i) (Zbl D G i).st) (Zcq G i).f2.length).1.pl.length=buildN D G i+_;omega
theorem R_congr {α:Type}{d d':Kd α}{e:Nat}{w:World}{base:Nat}{ok:Nat→Prop}{v:Value}{xs:List α}(hs:d.sz=d'.sz)(hr:d.R e w base ok v xs)(h:∀x∈xs,∀ok' cs,d.M w base ok' x cs→d'.M w base ok' x cs):d'.R e w base ok v xs:=by
 unfold Kd.R at hr ⊢;rw[←hs];obtain⟨h0,inner,ho,hl,hp⟩:=hr;exact⟨h0,inner,ho,hl,fun j p hj=>h p (List.mem_of_getElem? hj) _ _ (hp j p hj)⟩
theorem ptrs_phi {φ φ':Nat→Nat}{e:Nat}{w:World}{base:Nat}{ok:Nat→Prop}{v:Value}{xs:List Nat}(h:(Zgl φ).R e w base ok v xs)(he:∀q∈xs,φ' q=φ q):(Zgl φ').R e w base ok v xs:=
 R_congr (d:=Zgl φ) (d':=Zgl φ') rfl h (fun x hx ok' cs hM=>by
  have h1:cs=[Value.pointer (some ⟨φ x,0,none⟩)]:=hM;show cs=[Value.pointer (some ⟨φ' x,0,none⟩)]
  rw[he x hx];exact h1)
theorem Zok {φ φ':Nat→Nat}{w:World}{base:Nat}{ok:Nat→Prop}{v:Value}{xs:List (List Nat)}(h:(Kd.slice 120 (Zgl φ)).R 123 w base ok v xs)(he:∀l∈xs,∀q∈l,φ' q=φ q):(Kd.slice 120 (Zgl φ')).R 123 w base ok v xs:=
 R_congr (d:=Kd.slice 120 (Zgl φ)) (d':=Kd.slice 120 (Zgl φ')) rfl h (fun l hl ok' cs ⟨u,hu,hR⟩=>⟨u,hu,ptrs_phi hR (he l hl)⟩)
theorem R_keptW {α:Type}{d:Kd α}{e:Nat}{W W':World}{base:Nat}{ok:Nat→Prop}{u:Value}{xs:List α}(hr:d.R e W base ok u xs){w0:W0}{gb:Nat}{h0 h1 vs vf:Value}{φ:Nat→Nat}{v:Value}{pl:List Pl}{sh:List (Nat × Sh)}
 (h:VS w0 W gb h0 h1 vs vf φ v pl sh) (hk:KeptV W W' gb v) (ht:∀q,q∈e :: d.E→q≠118∧q≠122):d.R e W' base ok u xs:=by
 have r1:=Kd.R_types hr h.blk (fun q hq=>(ht q hq).1);obtain⟨inner,ho,_⟩:=h.row;cases hv:v.ownBlock with
 | none=>
  exact Kd.R_mono (Kd.R_kept r1 hk (fun k hk' hS=>by
   rcases hS with hS | hS
   ·exact hk'.2 hS
   ·rw[hv]at hS;cases hS)) (fun _ hk'=>hk'.1)
 | some b=>
  obtain⟨cells,hc⟩:=Zaq ho b hv;have r2:=Kd.R_types r1 hc (fun q hq=>(ht q hq).2);exact Kd.R_mono (Kd.R_kept r2 hk (fun k hk' hS=>by
   rcases hS with hS | hS
   ·exact hk'.1.2 hS
   ·rw[hv]at hS;injection hS with hS;exact hk'.2 hS.symm)) (fun _ hk'=>hk'.1.1)
theorem Zlj {α:Type}{d:Kd α}{e:Nat}{W W':World}{base:Nat}{u:Value}{xs:List α}(hr:d.R e W base (fun _=>True) u xs){w0:W0}{gb:Nat}{h0 h1 vs vf:Value}{φ:Nat→Nat}{v:Value}{pl:List Pl}{sh:List (Nat × Sh)}
 (h:VS w0 W gb h0 h1 vs vf φ v pl sh) (hk:KeptV W W' gb v) (ht:∀q,q∈e :: d.E→q≠118∧q≠122):d.R e W' base (fun _=>True) u xs:=R_keptW hr h hk ht
theorem VS.grown88 {w0:W0}{W W':World}{gb:Nat}{h0 h1 vs vf:Value}{φ:Nat→Nat}{v:Value}{pl:List Pl}{sh:List (Nat × Sh)}(h:VS w0 W gb h0 h1 vs vf φ v pl sh){u:Value}(hg:W.grownBy W' u.ownBlock)(hu:∀k,u.ownBlock=some k→∃cells,W.heap[k]?=some (.cells cells 120 (0,0)))(hb:Below w0.heap.size w0 W'):VS w0 W' gb h0 h1 vs vf φ v pl sh:=by
 have blk:∀(g:Nat) (cs:Array Value) (e:Nat),W.heap[g]?=some (.cells cs e (0,0))→e≠120→W'.heap[g]?=some (.cells cs e (0,0)):=fun g cs e hgc he=>by
  refine (hg.block g (Zau hgc) (fun hS=>?_)).trans hgc;obtain⟨cells,hc⟩:=hu g hS.symm;rw[hgc]at hc;injection hc with hc;injection hc with _ hc;exact he hc
 have h3:Same3 W W':=fun k cells hc=>(blk k cells 3 hc (by decide)).trans hc.symm
 obtain⟨inner,ho,hr⟩:=h.row;refine⟨h.ge,blk gb _ 118 h.blk (by decide),⟨inner,Zci ho (fun k hk'=>?_),hr.imp_ (fun x c hp=>hp.same h3)⟩,fun k x hx=>?_,hb,fun k hk'=>h.new k (Nat.le_trans hg.size hk')⟩
 ·obtain⟨c1,hc1⟩:=Zaq ho k hk';exact (blk k c1 122 hc1 (by decide)).trans hc1.symm
 ·obtain⟨v1,v2,hc,r1,r2⟩:=(h.shapes k x hx).cells;exact⟨(h.shapes k x hx).ge,v1,v2,blk _ _ 126 hc (by decide),r1.same h3,r2.same h3⟩
abbrev W0.off (w:World)(vf:Value):W0:=⟨w,fun k=>vf.ownBlock≠some k⟩
structure BS (w W:World)(gb:Nat)(h0 h1:Value)(φ:Nat→Nat)(b:Bt)(vs vf v:Value):Prop where
 mach:VS (W0.off w vf) W gb h0 h1 vs vf φ v b.st.pl b.st.sh
 steps:(Kd.slice 120 (Zgl φ)).R 123 W w.heap.size (fun _=>True) vs b.steps
 frees:(Kd.int .i64).R 3 W w.heap.size (fun _=>True) vf b.frees
 good:GoodB b
 inj:Zge φ b.st.sh
theorem Zmw (φ:Nat→Nat):∀q,q∈123 :: (Kd.slice 120 (Zgl φ)).E→q≠118∧q≠122:=by
 intro q hq;have hq:q∈[123,120]:=hq;simp at hq;omega
theorem types3:∀q,q∈3 :: (Kd.int .i64).E→q≠118∧q≠122:=by
 intro q hq;have hq:q∈[3]:=hq;simp at hq;omega
section
variable {w W W':World}{gb:Nat}{h0 h1:Value}{φ:Nat→Nat}{b:Bt}{vs vf v:Value}
theorem BS.below (h:BS w W gb h0 h1 φ b vs vf v)(hb:Below W.heap.size W W'):BS w W' gb h0 h1 φ b vs vf v:=
 ⟨h.mach.below hb,Kd.R_below h.steps hb,Kd.R_below h.frees hb,h.good,h.inj⟩
theorem BS.add (h:BS w W gb h0 h1 φ b vs vf v){x:Pl}{v':Value}(hv:VS (W0.off w vf) W' gb h0 h1 vs vf φ v' (b.st.pl++[x]) b.st.sh)(hk:KeptV W W' gb v)(hg:Good (b.st.add x)):BS w W' gb h0 h1 φ ⟨b.st.add x,b.steps,b.frees⟩ vs vf v':=
 ⟨hv,Zlj h.steps h.mach hk (Zmw φ),Zlj h.frees h.mach hk types3,⟨hg,fun l hl q hq=>by have:=h.good.steps l hl q hq;simp[St.add];omega⟩,h.inj⟩
theorem BS.pat (h:BS w W gb h0 h1 φ b vs vf v){D:Nat}{p:S76}{rule step:Int}{e:Ending}(he:PatE (W0.off w vf) W gb h0 h1 vs vf φ v b.st (Zhp (Zax D) p rule step b.st) e W') :
 ∃φ' v',e=.returned (.pointer (some ⟨φ' b.st.pl.length,0,none⟩))∧BS w W' gb h0 h1 φ' ⟨Zhp (Zax D) p rule step b.st,b.steps,b.frees⟩ vs vf v'∧(∀k,k<b.st.pl.length→φ' k=φ k)∧KeptV W W' gb v∧NewOr W v v':=by
 obtain⟨φ',v',he,hv,hk,hn,hE,_,hi⟩:=he.out;have hg:=Zho (Zhd D) p rule step b.st h.good.st;refine⟨φ',v',he,⟨hv,Zok (Zlj h.steps h.mach hk (Zmw φ)) (fun l hl q hq=>hE q (h.good.steps l hl q hq)),Zlj h.frees h.mach hk types3,⟨hg.1,fun l hl q hq=>?_⟩,hi h.inj⟩,hE,hk,hn⟩;have:=h.good.steps l hl q hq;show q<(Zhp (Zax D) p rule step b.st).pl.length;omega
theorem BS.row (h:BS w W gb h0 h1 φ b vs vf v){φ':Nat→Nat}{base:Nat}{u:Value}{l:List Nat}(hr:(Zgl φ).R 120 W base (fun _=>True) u l)(hk:KeptV W W' gb v)(hl:∀q∈l,φ' q=φ q):(Zgl φ').R 120 W' base (fun _=>True) u l:=
 ptrs_phi (Zlj hr h.mach hk (fun q hq=>by
  have hq:q∈[120]:=hq;simp at hq;omega)) hl
structure BU (w W:World)(gb:Nat)(h0 h1:Value)(φ:Nat→Nat)(b:Bt)(vs vf v u:Value)(l:List Nat):Prop where
 bs:BS w W gb h0 h1 φ b vs vf v
 row:(Zgl φ).R 120 W w.heap.size (fun _=>True) u l
 off:(Kd.slice 120 (Zgl φ)).R 123 W w.heap.size (fun k=>u.ownBlock≠some k) vs b.steps
theorem BU.below {u:Value}{l:List Nat}(h:BU w W gb h0 h1 φ b vs vf v u l)(hb:Below W.heap.size W W'):BU w W' gb h0 h1 φ b vs vf v u l:=⟨h.bs.below hb,Kd.R_below h.row hb,Kd.R_below h.off hb⟩
theorem BU.start (h:BS w W gb h0 h1 φ b vs vf v):BU w W gb h0 h1 φ b vs vf v (.slice none 0 0) []:=⟨h,Kd.R_nil _ _ _ _ _,Kd.R_mono h.steps (fun k _=>by simp[Value.ownBlock])⟩
theorem BU.pat {u:Value}{l:List Nat}(h:BU w W gb h0 h1 φ b vs vf v u l)(hl:∀q∈l,q<b.st.pl.length){D:Nat}{p:S76}{rule step:Int}{e:Ending}(he:PatE (W0.off w vf) W gb h0 h1 vs vf φ v b.st (Zhp (Zax D) p rule step b.st) e W') :
 ∃φ' v',e=.returned (.pointer (some ⟨φ' b.st.pl.length,0,none⟩))∧BU w W' gb h0 h1 φ' ⟨Zhp (Zax D) p rule step b.st,b.steps,b.frees⟩ vs vf v' u l:=by
 obtain⟨φ',v',e1,hb,hE,hk,_⟩:=h.bs.pat he;exact⟨φ',v',e1,hb,h.bs.row h.row hk (fun q hq=>hE q (hl q hq)),Zok (R_keptW h.off h.bs.mach hk (Zmw φ)) (fun l' hl' q hq=>hE q (h.bs.good.steps l' hl' q hq))⟩
theorem BU.push {u u':Value}{l l':List Nat}(h:BU w W gb h0 h1 φ b vs vf v u l)(hr:(Zgl φ).R 120 W' w.heap.size (fun _=>True) u' l')(hb:Below w.heap.size w W')(hg:W.grownBy W' u.ownBlock)(hat:u'.ownBlock=u.ownBlock∨∃k,u'.ownBlock=some k∧W.heap.size≤k):BU w W' gb h0 h1 φ b vs vf v u' l':=by
 obtain⟨inner,ho⟩:=Kd.R_own h.row;have hs:(Kd.slice 120 (Zgl φ)).R 123 W' w.heap.size (fun k=>u'.ownBlock≠some k) vs b.steps:=by
  have r2:=Kd.R_mono (Kd.R_bound h.off) (ok':=fun k=>u.ownBlock≠some k∧k<W.heap.size) (fun k hk=>⟨hk.1,hk.2.2.1⟩);exact Kd.R_mono (Kd.R_grown r2 hg (fun k hk he=>hk.1 he.symm)) (fun k hk=>by
   rcases hat with hat | ⟨k',h1,h2⟩
   ·rw[hat];exact hk.1
   ·rw[h1];intro he;injection he with he;have:=hk.2;omega)
 have hf:(Kd.int .i64).R 3 W' w.heap.size (fun _=>True) vf b.frees:=by
  cases hu:u.ownBlock with
  | none=>exact Kd.R_grown h.bs.frees hg (fun k _=>by rw[hu];simp)
  | some g=>
   obtain⟨cells,hc⟩:=Zaq ho g hu;exact Kd.R_mono (Kd.R_grown (Kd.R_types h.bs.frees hc (fun q hq=>by have hq:q∈[3]:=hq;simp at hq;omega)) hg (fun k hk he=>by rw[hu]at he;injection he with he;exact hk.2 he)) (fun _ _=>trivial)
 exact⟨⟨h.bs.mach.grown88 hg (fun k hk=>Zaq ho k hk) hb,Kd.R_mono hs (fun _ _=>trivial),hf,h.bs.good,h.bs.inj⟩,hr,hs⟩
theorem VS.rows (h:VS (W0.off w vf) W gb h0 h1 vs vf φ v b.st.pl b.st.sh){vf':Value}(hk:Kept W W' (fun k=>vs.ownBlock=some k∨vf.ownBlock=some k))(hb:Below w.heap.size w W')
 (hs:∀k,vs.ownBlock=some k→∃cells,W.heap[k]?=some (.cells cells 123 (0,0))) (hf:∀k,vf.ownBlock=some k→∃cells,W.heap[k]?=some (.cells cells 3 (0,0)))
 (hn:vf'.ownBlock=vf.ownBlock∨∃k,vf'.ownBlock=some k∧W.heap.size≤k) (hlt:∀k,vf'.ownBlock=some k→k<W'.heap.size):VS (W0.off w vf') W' gb h0 h1 vs vf φ v b.st.pl b.st.sh:=by
 have blk:∀(g:Nat) (cs:Array Value) (e:Nat),W.heap[g]?=some (.cells cs e (0,0))→e≠123→e≠3→W'.heap[g]?=some (.cells cs e (0,0)):=fun g cs e hg h91 h3=>by
  refine (hk.2 g (Zau hg) (fun hS=>?_)).trans hg
  rcases hS with hS | hS
  ·obtain⟨cells,hc⟩:=hs g hS;rw[hg]at hc;injection hc with hc;injection hc with _ hc;exact h91 hc
  ·obtain⟨cells,hc⟩:=hf g hS;rw[hg]at hc;injection hc with hc;injection hc with _ hc;exact h3 hc
 have ri:∀(u:Value) (l:List Int),Ri (W0.off w vf) W u l→Ri (W0.off w vf') W' u l:=fun u l hr=>by
  have ho:=Kd.own_of_R hr;refine Kd.R_of_own (Zci ho (fun k hk'=>hk.2 k (Zdb ho k hk') (fun hS=>?_))) (fun k hk'=>?_)
  ·rcases hS with hS | hS
   ·obtain⟨c1,hc1⟩:=Zaq ho k hk';obtain⟨c2,hc2⟩:=hs k hS;rw[hc1]at hc2;injection hc2 with hc;injection hc with _ hc;exact absurd hc (by decide)
   ·exact hr.1 k hk' hS
  ·rcases hn with hn | ⟨k',hk2,hle⟩
   ·show vf'.ownBlock≠some k;rw[hn];exact hr.1 k hk'
   ·show vf'.ownBlock≠some k;rw[hk2];intro he;injection he with he
    have:=Zdb ho k hk';omega
 obtain⟨inner,ho,hr⟩:=h.row;refine⟨h.ge,blk gb _ 118 h.blk (by decide) (by decide),⟨inner,Zci ho (fun k hk'=>?_),hr.imp_ (fun x c hp=>?_)⟩,fun k x hx=>?_,hb,fun k hk' he=>?_⟩
 ·obtain⟨c1,hc1⟩:=Zaq ho k hk';exact (blk k c1 122 hc1 (by decide) (by decide)).trans hc1.symm
 ·obtain⟨A1,c1,A2,c2,A3,c3,v4,e,l1,g1,l2,g2,l3,g3,g4⟩:=hp;exact⟨A1,c1,A2,c2,A3,c3,v4,e,l1,g1,l2,g2,l3,g3,ri _ _ g4⟩
 ·obtain⟨v1,v2,hc,r1,r2⟩:=(h.shapes k x hx).cells;exact⟨(h.shapes k x hx).ge,v1,v2,blk _ _ 126 hc (by decide) (by decide),ri _ _ r1,ri _ _ r2⟩
 ·have:=hlt k he;omega
theorem VS.store34 {w0:W0}{vs' vf':Value}{pl:List Pl}{sh:List (Nat × Sh)}(h:VS w0 W gb h0 h1 vs vf φ v pl sh):VS w0 ((W.setCell ⟨gb,3,none⟩ vs').setCell ⟨gb,4,none⟩ vf') gb h0 h1 vs' vf' φ v pl sh∧Kept W ((W.setCell ⟨gb,3,none⟩ vs').setCell ⟨gb,4,none⟩ vf') (fun k=>k=gb):=by
 have hk:Kept W ((W.setCell ⟨gb,3,none⟩ vs').setCell ⟨gb,4,none⟩ vf') (fun k=>k=gb):=⟨by simp[World.setCell],fun i _ hn=>by
  iterate 2 rw[Below.heap_setCell _ _ _ i (fun he=>hn he)]⟩
 have hkv:KeptV W ((W.setCell ⟨gb,3,none⟩ vs').setCell ⟨gb,4,none⟩ vf') gb v:=hk.mono (fun k hk'=>.inl hk');have h3:=h.same3 hkv;obtain⟨inner,ho,hr⟩:=h.row;refine⟨⟨h.ge,?_,⟨inner,Zci ho (fun k hk'=>hk.2 k (Zdb ho k hk') (fun he=>?_)),hr.imp_ (fun _ _ hp=>hp.same h3)⟩,fun k x hx=>(h.shapes k x hx).keep h3 (fun cs hc=>(h.keep hkv hc (by decide) (by decide)).trans hc.symm),(h.bel.setCell h.ge _).setCell h.ge _,fun k hk'=>h.new k (Nat.le_trans hk.1 hk')⟩,hk⟩
 ·exact Zce (Zce h.blk 3 vs' rfl) 4 vf' rfl
 ·subst he;exact Zch ho h.blk (by decide) hk'.symm
end
theorem info91:(Tryz.prog.info? 123).map (fun i=>(i.zero,i.size,i.bytes))=some (some (.slice none 0 0),1,24):=by kernel_rfl
theorem Zpg {α:Type}{Rr:α→List Value→Prop}{W:World}{g:Nat}{u:Value}{e:Nat}(h:W.heap[g]?=some (.cells #[u] e (0,0))){x:α}(hx:Rr x [u]):ReadsRow Rr 1 W (some ⟨g,0,none⟩) 1 [x]:=by
 refine⟨rfl,by omega,fun _=>⟨_,rfl,fun j p hj=>?_⟩⟩;cases j with
 | zero=>
  simp at hj;subst hj;refine⟨[u],rfl,hx,fun i v hv=>?_⟩;cases i with
  | zero=>
   simp at hv;subst hv;have e1:(⟨g,0,none⟩:Addr).add (0*1+0)=⟨g,0,none⟩:=rfl;rw[e1];exact (Zaa h 0).trans rfl
  | succ i=>simp at hv
 | succ j=>simp at hj
section
variable {ops:Array Oper}{o:Oper}{a:Act}{Q:Exit→Act→World→Prop}
theorem stepsA {w W:World}{K:Act→World→Prop}{φ:Nat→Nat}(hw:Region.wanted o (yielded ops a.tmps)=true)(s x:Operand)(ho:o.op=.call { callee:=.builtin .append,args:=#[s,x],argTypes:=#[116,116] })(vs u:Value)(xs:List (List Nat))(l:List Nat)(g:Nat)
 (hs:a.eval s=vs) (hx:a.eval x=.slice (some ⟨g,0,none⟩) 1 1) (hg:W.heap[g]?=some (.cells #[u] 123 (0,0))) (HO:(Kd.slice 120 (Zgl φ)).R 123 W w.heap.size (fun _=>True) vs xs) (HU:(Zgl φ).R 120 W w.heap.size (fun _=>True) u l) (HB:Below w.heap.size w W) (hl:xs.length≤100000)
 (h:∀v1 w1,(Kd.slice 120 (Zgl φ)).R 123 w1 w.heap.size (fun _=>True) v1 (xs++[l])→Below w.heap.size w w1→W.grownBy w1 vs.ownBlock→(v1.ownBlock=vs.ownBlock∨∃b,v1.ownBlock=some b∧W.heap.size≤b)→K (a.put o.dst v1) w1) :
 if Region.wanted o (yielded ops a.tmps)=true then Oper.wp Tryz.prog o a W K Q else K (a.put o.dst undef) W:=by
 obtain⟨inner,hown⟩:=Kd.R_own HO;have HU2:(Zgl φ).R 120 W w.heap.size (fun k=>some k≠vs.ownBlock) u l:=by
  cases hv:vs.ownBlock with
  | none=>exact Kd.R_mono HU (fun k _=>by simp)
  | some b=>
   obtain⟨cells,hc⟩:=Zaq hown b hv;exact Kd.R_mono (Kd.R_types HU hc (fun q hq=>by have hq:q∈[120]:=hq;simp at hq;omega)) (fun k hk he=>by injection he with he;exact hk.2 he)
 exact Kd.R_append_rows_step (Kd.slice 120 (Zgl φ)) (Rr:=fun y cs=>y=l∧cs=[u]) (w0:=w) w.heap.size hw s x 116 123 (.slice none 0 0) 24 ho Tryz.underlying116 info91 rfl Nat.one_pos (by omega) vs xs [l] _ 1 1 (fun _=>True) (fun k=>some k≠vs.ownBlock) hs hx HO (Zpg hg ⟨rfl,rfl⟩) (fun y cs hy=>by obtain⟨rfl,rfl⟩:=hy;exact⟨u,rfl,HU2⟩) (fun _ hk=>⟨trivial,hk⟩) (fun _ _=>trivial) HB HB.size (by omega) h
theorem freesA {w W:World}{K:Act→World→Prop}(hw:Region.wanted o (yielded ops a.tmps)=true)(s x:Operand)(ho:o.op=.call { callee:=.builtin .append,args:=#[s,x],argTypes:=#[41,41] })(vf:Value)(xs:List Int)(f:Int)(g:Nat)
 (hs:a.eval s=vf) (hx:a.eval x=.slice (some ⟨g,0,none⟩) 1 1) (hg:W.heap[g]?=some (.cells #[.int .i64 f] 3 (0,0))) (HO:(Kd.int .i64).R 3 W w.heap.size (fun _=>True) vf xs) (HB:Below w.heap.size w W) (hl:xs.length≤100000)
 (h:∀v1 w1,(Kd.int .i64).R 3 w1 w.heap.size (fun _=>True) v1 (xs++[f])→Below w.heap.size w w1→W.grownBy w1 vf.ownBlock→(v1.ownBlock=vf.ownBlock∨∃b,v1.ownBlock=some b∧W.heap.size≤b)→K (a.put o.dst v1) w1) :
 if Region.wanted o (yielded ops a.tmps)=true then Oper.wp Tryz.prog o a W K Q else K (a.put o.dst undef) W:=
 Kd.R_append_rows_step (Kd.int .i64) (Rr:=fun y cs=>y=f∧cs=[.int .i64 f]) (w0:=w) w.heap.size hw s x 41 3 (.int .i64 0) 8 ho Tryz.underlying41 Ziq rfl Nat.one_pos (by omega) vf xs [f] _ 1 1 (fun _=>True) (fun k=>some k≠vf.ownBlock) hs hx HO (Zpg hg ⟨rfl,rfl⟩) (fun y cs hy=>by obtain⟨rfl,rfl⟩:=hy;rfl) (fun _ hk=>⟨trivial,hk⟩) (fun _ _=>trivial) HB HB.size (by omega) h
end
theorem Zid (w:World)(o o':Obj):((w.alloc o).alloc o').heap[w.heap.size+1]?=some o':=by
 have z:=Zaj (w.alloc o) o';simpa using z
section
variable {w wr W W7:World}{gb:Nat}{h0 h1:Value}{φ:Nat→Nat}{b:Bt}{vs vf v u:Value}{l:List Nat}
structure A18 (w wr W W7:World)(gb:Nat)(h0 h1 vs vf v:Value)(fr:List Int):Prop where
 blk:W7.heap[gb]?=some (.cells #[h0,h1,v,vs,vf] 118 (0,0))
 frees:(Kd.int .i64).R 3 W7 w.heap.size (fun _=>True) vf fr
 new:∀g o,wr.heap.size≤g→W.heap[g]?=some o→W7.heap[g]?=some o
 kept:Kept wr W7 (fun k=>vs.ownBlock=some k)
theorem BU.a18 (h:BU w wr gb h0 h1 φ b vs vf v u l)(hW:Below wr.heap.size wr W)(hg:W.grownBy W7 vs.ownBlock):A18 w wr W W7 gb h0 h1 vs vf v b.frees:=by
 obtain⟨inner,ho⟩:=Kd.R_own h.bs.steps;have hgb:=Zaf h.bs.mach.blk hW;have ho2:=Zbx ho hW;refine⟨Zat hgb hg (Zch ho2 hgb (by decide)),?_,fun g o hge hgo=>Zat hgo hg (fun e=>by have:=Zdb ho g e.symm;omega),Kept.of_grown hg (Kept.of_below hW _) (fun k hk=>.inl hk)⟩;have hf:=Kd.R_below h.bs.frees hW;cases hv:vs.ownBlock with
 | none=>exact Kd.R_grown hf hg (fun k _=>by rw[hv];simp)
 | some g=>
  obtain⟨cells,hc⟩:=Zaq ho2 g hv;exact Kd.R_mono (Kd.R_grown (Kd.R_types hf hc (fun q hq=>by have hq:q∈[3]:=hq;simp at hq;omega)) hg (fun k hk he=>by rw[hv]at he;injection he with he;exact hk.2 he)) (fun _ _=>trivial)
structure B18 (w wr W9:World)(gb:Nat)(h0 h1 vs vf v v7:Value)(φ:Nat→Nat)(st:List (List Nat)):Prop where
 blk:W9.heap[gb]?=some (.cells #[h0,h1,v,vs,vf] 118 (0,0))
 steps:(Kd.slice 120 (Zgl φ)).R 123 W9 w.heap.size (fun _=>True) v7 st
 kept:Kept wr W9 (fun k=>vs.ownBlock=some k∨vf.ownBlock=some k)
theorem A18.b18 {W2 W9:World}{v7:Value}{fr:List Int}{st:List (List Nat)}(h:A18 w wr W W7 gb h0 h1 vs vf v fr)(hs:(Kd.slice 120 (Zgl φ)).R 123 W7 w.heap.size (fun _=>True) v7 st)(hW:Below W7.heap.size W7 W2)(hg:W2.grownBy W9 vf.ownBlock)(hf0:∀k,vf.ownBlock=some k→k<wr.heap.size):B18 w wr W9 gb h0 h1 vs vf v v7 φ st:=by
 obtain⟨inner,ho⟩:=Kd.R_own h.frees;have hgb:=Zaf h.blk hW;have ho2:=Zbx ho hW;refine⟨Zat hgb hg (Zch ho2 hgb (by decide)),?_,Kept.of_grown hg ((h.kept.below hW).mono (fun k hk=>.inl hk)) (fun k hk=>.inl (.inr hk))⟩;have hs2:=Kd.R_below hs hW;cases hv:vf.ownBlock with
 | none=>exact Kd.R_grown hs2 hg (fun k _=>by rw[hv];simp)
 | some g=>
  obtain⟨cells,hc⟩:=Zaq ho2 g hv;exact Kd.R_mono (Kd.R_grown (Kd.R_types hs2 hc (fun q hq=>by have hq:q∈[123,120]:=hq;simp at hq;omega)) hg (fun k hk he=>by rw[hv]at he;injection he with he;exact hk.2 he)) (fun _ _=>trivial)
theorem BU.rule18 {W9:World}{v7 v9:Value}{D:Nat}{i:Int}{r:S52}{b0:Bt}{s1:St}(hs1:s1=Zdg i r b0.st)(h:BU w wr gb h0 h1 φ ⟨(Zay D i r s1 r.f2.length).1,b0.steps,b0.frees⟩ vs vf v u l)(hg0:GoodB (Zqn D i r b0))
 (hb:B18 w wr W9 gb h0 h1 vs vf v v7 φ (b0.steps++[(Zay D i r s1 r.f2.length).2])) (hf:(Kd.int .i64).R 3 W9 w.heap.size (fun _=>True) v9 (b0.frees++[Zls r b0.st])) (hbel:Below w.heap.size w W9)
 (hn:v9.ownBlock=vf.ownBlock∨∃k,v9.ownBlock=some k∧wr.heap.size≤k) :
 BS w ((W9.setCell ⟨gb,3,none⟩ v7).setCell ⟨gb,4,none⟩ v9) gb h0 h1 φ (Zqn D i r b0) v7 v9 v:=by
 subst hs1;obtain⟨_,ho1⟩:=Kd.R_own h.bs.steps;obtain⟨_,ho2⟩:=Kd.R_own h.bs.frees;obtain⟨_,ho3⟩:=Kd.R_own hf;have hv:=h.bs.mach.rows (b:=⟨(Zay D i r (Zdg i r b0.st) r.f2.length).1,b0.steps,b0.frees⟩) (vf':=v9) hb.kept hbel (fun k hk=>Zaq ho1 k hk) (fun k hk=>Zaq ho2 k hk) hn (fun k hk=>Zdb ho3 k hk);have hv2:=hv.store34 (vs':=v7) (vf':=v9);refine⟨hv2.1,?_,?_,hg0,h.bs.inj⟩
 ·exact Kd.R_mono (Kd.R_kept (Kd.R_types hb.steps hb.blk (fun q hq=>(Zmw φ q hq).1)) hv2.2 (fun k hk e=>hk.2 e)) (fun _ _=>trivial)
 ·exact Kd.R_mono (Kd.R_kept (Kd.R_types hf hb.blk (fun q hq=>(types3 q hq).1)) hv2.2 (fun k hk e=>hk.2 e)) (fun _ _=>trivial)
end
end Go.Proofs.YtaokkliamoghbaaGreatDoor.PVpa
