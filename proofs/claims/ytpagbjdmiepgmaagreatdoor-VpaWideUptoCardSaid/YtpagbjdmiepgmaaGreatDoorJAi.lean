/- Joined from texts of this seat, in their order. -/
import Derived.Test.YtpagbjdmiepgmaaGreatDoorJAf
import Derived.Test.YtpagbjdmiepgmaaGreatDoorJAd
import Derived.Test.YtpagbjdmiepgmaaGreatDoorJAb
import Derived.Test.YtpagbjdmiepgmaaGreatDoorJAc
import Derived.Test.YtpagbjdmiepgmaaGreatDoorJAg
import Derived.Test.YtpagbjdmiepgmaaGreatDoorJAh
set_option linter.unusedVariables false
set_option linter.unusedSimpArgs false
set_option linter.unusedSectionVars false
namespace Go.Proofs.YtpagbjdmiepgmaaGreatDoor.PVpa
open Go.RowKit Go.Proofs.YtpagbjdmiepgmaaGreatDoorW.PrintWords Go.Proofs.YtpagbjdmiepgmaaGreatDoorW.PrintLast Go.Proofs.YtpagbjdmiepgmaaGreatDoorW.PrintMore
def depR18 : Nat → List Nat
  | 3 => [2]
  | 4 => [3]
  | 5 => [4]
  | 7 => [6]
  | 8 => [5, 7]
  | 10 => [9]
  | 11 => [10]
  | 12 => [11]
  | 14 => [13]
  | 15 => [12, 14, 8]
  | 16 => [0]
  | 17 => [16]
  | 18 => [17, 8, 15]
  | _ => []
def phiR18 (w wr : World) (gb : Nat) (h0 h1 v2 sv fv ru : Value) (fn : Int) (φ : Nat → Nat) (ns : Nat) (xs : List (List Nat)) (fr : List Int) : Nat → List Value → World → Prop
  | 0, [v], _ => v = .pointer (some ⟨gb, 0, none⟩)
  | 1, [v], _ => v = .pointer (some ⟨gb, 0, none⟩)
  | 2, [v], _ => v = .pointer (some ⟨gb, 0, none⟩)
  | 3, [v, _], _ => v = .pointer (some ⟨gb, 0, none⟩)
  | 4, [v, _], _ => v = .pointer (some ⟨gb, 3, none⟩)
  | 5, [v, _], _ => v = sv
  | 6, [v], _ => v = ru
  | 7, [v, _], W => ∃ gl, v = .slice (some ⟨gl, 0, none⟩) 1 1 ∧ wr.heap.size ≤ gl ∧ (Bf gb h0 h1 v2 sv fv W → W.heap[gl]? = some (.cells #[ru] 91 (0, 0)))
  | 8, [v, _, _], W => ∃ A c, v = .slice A (ns + 1) c ∧ (Bf gb h0 h1 v2 sv fv W → (Kd.slice 88 (kPtr φ)).R 91 W w.heap.size (fun _ => True) v xs)
  | 9, [v], _ => v = .pointer (some ⟨gb, 0, none⟩)
  | 10, [v, _], _ => v = .pointer (some ⟨gb, 0, none⟩)
  | 11, [v, _], _ => v = .pointer (some ⟨gb, 4, none⟩)
  | 12, [v, _], _ => v = fv
  | 13, [v], _ => v = .int .i64 fn
  | 14, [v, _], W => ∃ gl, v = .slice (some ⟨gl, 0, none⟩) 1 1 ∧ wr.heap.size ≤ gl ∧ (Bf gb h0 h1 v2 sv fv W → W.heap[gl]? = some (.cells #[.int .i64 fn] 3 (0, 0)))
  | 15, [v, _, _, _], W => (Bf gb h0 h1 v2 sv fv W → (Kd.int .i64).R 3 W w.heap.size (fun _ => True) v fr) ∧ (v.ownBlock = fv.ownBlock ∨ ∃ k, v.ownBlock = some k ∧ wr.heap.size ≤ k)
  | 16, [v, _], _ => v = .pointer (some ⟨gb, 0, none⟩)
  | 17, [v, _], _ => v = .pointer (some ⟨gb, 3, none⟩)
  | 18, [_, _, x8, x15], W => ∃ W9, W = W9.setCell ⟨gb, 3, none⟩ x8 ∧ B18 w wr W9 gb h0 h1 sv fv v2 x8 φ xs ∧ (Kd.int .i64).R 3 W9 w.heap.size (fun _ => True) x15 fr ∧ Below w.heap.size w W9 ∧ (x15.ownBlock = fv.ownBlock ∨ ∃ k, x15.ownBlock = some k ∧ wr.heap.size ≤ k)
  | _, _, _ => True
theorem phiR18_stab {w wr : World} {gb : Nat} {h0 h1 : Value} {φ : Nat → Nat} {b : Bt} {sv fv v2 ru : Value} {l : List Nat} (fn : Int) (ns : Nat) (xs : List (List Nat)) (fr : List Int) (h : BU w wr gb h0 h1 φ b sv fv v2 ru l) : ∀ i j vs W W', i ≠ j → aftB18 i j = true → wr.heap.size ≤ W.heap.size → preB w wr gb h0 h1 v2 sv fv j W → phiR18 w wr gb h0 h1 v2 sv fv ru fn φ ns xs fr i vs W → rsB gb h0 h1 v2 sv fv j W W' → phiR18 w wr gb h0 h1 v2 sv fv ru fn φ ns xs fr i vs W' := by
  intro i j vs W W' hij ha hs hp hf hr
  unfold phiR18 at hf ⊢
  split at hf
  case h_8 =>
    obtain ⟨gl, p1, p2, p3⟩ := hf
    exact ⟨gl, p1, p2, bf_stab h (F := fun W => W.heap[gl]? = some (.cells #[ru] 91 (0, 0))) hp hr p3 (fun hb hk => blk_below hk hb) (fun _ hg hk => blk_grown2 hk hg (fun e => by have := h.lt_s _ e.symm; omega)) (fun _ _ hg hk => blk_grown2 hk hg (fun e => by have := h.lt_f _ e.symm; omega))⟩
  case h_9 =>
    obtain ⟨A, c, p1, p3⟩ := hf
    exact ⟨A, c, p1, bf_stab h (F := fun W => (Kd.slice 88 (kPtr φ)).R 91 W w.heap.size (fun _ => True) _ xs) hp hr p3 (fun hb hk => Kd.R_below hk hb) (fun e => absurd e.symm hij) (fun _ hq hg hk => ((h.a18 (Below.refl _ _) hq).b18 hk (Below.refl _ _) hg (fun k hk => h.lt_f k hk)).steps)⟩
  case h_15 =>
    obtain ⟨gl, p1, p2, p3⟩ := hf
    exact ⟨gl, p1, p2, bf_stab h (F := fun W => W.heap[gl]? = some (.cells #[.int .i64 fn] 3 (0, 0))) hp hr p3 (fun hb hk => blk_below hk hb) (fun _ hg hk => blk_grown2 hk hg (fun e => by have := h.lt_s _ e.symm; omega)) (fun _ _ hg hk => blk_grown2 hk hg (fun e => by have := h.lt_f _ e.symm; omega))⟩
  case h_16 =>
    obtain ⟨p1, p2⟩ := hf
    exact ⟨bf_stab h (F := fun W => (Kd.int .i64).R 3 W w.heap.size (fun _ => True) _ fr) hp hr p1 (fun hb hk => Kd.R_below hk hb) (fun e => by subst e; simp [aftB18] at ha) (fun e => absurd e.symm hij), p2⟩
  case h_19 =>
    obtain rfl : j = 1 := by simpa [aftB18] using ha
    have hr2 : W' = W := hr
    rw [hr2]
    exact hf
  all_goals exact hf
end Go.Proofs.YtpagbjdmiepgmaaGreatDoor.PVpa
namespace Go.Proofs.YtpagbjdmiepgmaaGreatDoor.PVpa
open Go.RowKit Go.Proofs.YtpagbjdmiepgmaaGreatDoorW.PrintWords Go.Proofs.YtpagbjdmiepgmaaGreatDoorW.PrintLast Go.Proofs.YtpagbjdmiepgmaaGreatDoorW.PrintMore
set_option maxRecDepth 100000 in
set_option maxHeartbeats 4000000 in
theorem build_call (w : World) (At Ar : Option Addr) (ct cr : Nat) (G : S26) (D : Nat) (hr : k52.C w Ar G.f1.length G.f1) (hok : RulesOk D G) (hl : G.f1.length ≤ 1000) (j : Int)
    (hchk : ∀ W, Below w.heap.size w W → Calls Tryz.prog 31 #[.agg #[.slice At G.f0.length ct, .slice Ar G.f1.length cr]] W fun e w' => e = .returned (.tuple #[.int .i64 0, .int .i64 j]) ∧ Below W.heap.size W w') :
    Calls Tryz.prog 8 #[.agg #[.slice At G.f0.length ct, .slice Ar G.f1.length cr]] w fun e w' => ∃ gb φ vs vf v, e = .returned (.tuple #[.pointer (some ⟨gb, 0, none⟩), .int .i64 0]) ∧ BS w w' gb (.slice At G.f0.length ct) (.slice Ar G.f1.length cr) φ (buildK D G G.f1.length) vs vf v := by
  have HR := Aside0.mk hr
  have HOK := Aside0.mk hok
  have HC := Aside0.mk hchk
  clear hr hok hchk
  go_enter Tryz.func8, Tryz.ntmps8
  go_upto_region 5 with (go_at_call 31; (with_reducible refine (HC.out _ (below_alloc (Below.refl _ _) _)).mono ?_); rintro e w1 ⟨rfl, hb1⟩; have HB1 := Aside0.mk (below_step (below_alloc (Below.refl _ w) (.cells #[.slice At G.f0.length ct, .slice Ar G.f1.length cr] 26)) hb1); have k1 := blk_below (blk_new w (.cells #[.slice At G.f0.length ct, .slice Ar G.f1.length cr] 26)) hb1; have q0 := (blk_cell k1 0).trans rfl; have q1 := (blk_cell k1 1).trans rfl; have HK1 := Aside0.mk k1; clear k1 hb1)
  have hbX := blk_new w1 (.cells #[.slice At G.f0.length ct, .slice Ar G.f1.length cr, .slice none 0 0, .slice none 0 0, .slice none 0 0] 86)
  have HBX := Aside0.mk (below_step HB1.out (below_alloc (Below.refl _ w1) (.cells #[.slice At G.f0.length ct, .slice Ar G.f1.length cr, .slice none 0 0, .slice none 0 0, .slice none 0 0] 86)))
  have HK2 := Aside0.mk (blk_alloc HK1.out (.cells #[.slice At G.f0.length ct, .slice Ar G.f1.length cr, .slice none 0 0, .slice none 0 0, .slice none 0 0] 86))
  have HVX := Aside0.mk (VS.start w _ w1.heap.size _ _ (fun _ => 0) hbX HB1.out.size HBX.out)
  clear hbX q0 q1
  generalize w1.alloc (.cells #[.slice At G.f0.length ct, .slice Ar G.f1.length cr, .slice none 0 0, .slice none 0 0, .slice none 0 0] 86) = X at *
  generalize w1.heap.size = gb at *
  have HPW : Aside0 (PlV (fun _ => 0) (W0.off w (.slice none 0 0)) X widePl (.agg #[.int .i64 0, .pointer none, .int .i64 0, .slice none 0 0, .slice none 0 0, .slice none 0 0, .pointer none, .slice none 0 0, .int .i64 0])) :=
    ⟨⟨_, rfl, none, 0, none, 0, none, 0, .slice none 0 0, rfl, Nat.zero_le _, Kd.C_nil _ _, Nat.zero_le _, Kd.C_nil _ _, Nat.zero_le _, Kd.C_nil _ _, Kd.R_nil _ _ _ _ _⟩⟩
  go_upto_region 6 with (go_at_call 32; (with_reducible refine (add_call (W0.off w (.slice none 0 0)) X gb _ _ _ _ (fun _ => 0) (.slice none 0 0) [] [] HVX.out widePl _ HPW.out (by simp)).mono ?_); rintro e w2 ⟨rfl, v2, hv2, hk2, hn2⟩; have hk26 := HVX.out.keep hk2 HK2.out (by decide) (by decide); have q1 := (blk_cell hk26 1).trans rfl; have HB2 : Aside0 (BS w w2 gb (.slice At G.f0.length ct) (.slice Ar G.f1.length cr) (fun _ => 0) (buildK D G 0) (.slice none 0 0) (.slice none 0 0) v2) := ⟨⟨hv2, Kd.R_nil _ _ _ _ _, Kd.R_nil _ _ _ _ _, (buildK_good D G 0).1, fun _ _ _ _ h => by cases h⟩⟩; clear hv2 hk2 hn2 hk26)
  go_wp2
  clear q1
  go_loopw [30] (fun i wr => ∃ (k : Nat) (φ : Nat → Nat) (vs vf v : Value), k ≤ G.f1.length ∧ i = .int .i64 k ∧ Aside0 (BS w wr gb (.slice At G.f0.length ct) (.slice Ar G.f1.length cr) φ (buildK D G k) vs vf v)) (fun i _ => G.f1.length - (intOf i).toNat)
  case atStart => exact ⟨0, _, _, _, _, Nat.zero_le _, rfl, ⟨HB2.out⟩⟩
  case round =>
    obtain ⟨k, φ, vs, vf, v, hk, rfl, HB⟩ := hrel
    by_cases hkn : k < G.f1.length
    · have HGB := Aside0.mk (buildK_good D G k)
      obtain ⟨ad, S2, sc, rfl, m0, m1, m2, ls2, hs2⟩ := at_T52 HR.out (k : Int) (by omega) (by omega)
      have m0 := pw_cell_below HB.out.mach.bel m0
      have m1 := pw_cell_below HB.out.mach.bel m1
      have m2 := pw_cell_below HB.out.mach.bel m2
      rw [Int.toNat_natCast] at m0 m1 m2
      change wr.cell? ⟨_, _, none⟩ = some (.slice S2 (rlAt G k).f2.length sc) at m2
      change wr.cell? (ad.add (k * 3)) = some (.int .i64 (rlAt G k).f0) at m0
      change wr.cell? ⟨_, _, none⟩ = some (.bool (rlAt G k).f1) at m1
      change (rlAt G k).f2.length ≤ sc at ls2
      change k79.C w S2 (rlAt G k).f2.length (rlAt G k).f2 at hs2
      have HS2 := Aside0.mk hs2
      obtain ⟨r, hr⟩ : ∃ r, r = rlAt G k := ⟨_, rfl⟩
      have HRK := Aside0.mk hr
      have HBK : Aside0 (buildK D G (k + 1) = ruleB D k r (buildK D G k)) := ⟨by rw [hr]; rfl⟩
      have hfew := HOK.out.fewer hkn
      have hlen0 := HGB.out.2
      have hlen1 : (buildK D G k).st.pl.length ≤ 100000 := by omega
      clear hlen0
      have HPO := Aside0.mk (fun n (hn : n < (rlAt G k).f2.length) => HOK.out.pats k n hkn hn)
      obtain ⟨bt, hbt⟩ : ∃ bt, bt = buildK D G k := ⟨_, rfl⟩
      rw [← hr] at m0 m1 m2 ls2 HS2 hfew HPO
      rw [← hbt] at HB HBK HGB hlen1
      have HN12 : Aside0 (bt.steps.length ≤ 1000 ∧ bt.frees.length ≤ 1000) := ⟨by rw [hbt, (built D G k).n1, (built D G k).n2]; exact ⟨by omega, by omega⟩⟩
      have HG9 : Aside0 (GoodB (ruleB D k r bt)) := ⟨by have h9 := (buildK_good D G (k + 1)).1; rw [HBK.out] at h9; exact h9⟩
      clear hs2 hr hbt
      have HB8 := Aside0.mk (fun o => HB.out.below (below_alloc (Below.refl _ wr) o))
      have HN8 := Aside0.mk (fun o => blk_new wr o)
      have HP8 : Aside0 (∀ W', PlV φ (W0.off w vf) W' (freePl k) (.agg #[.int .i64 1, .pointer none, .int .i64 0, .slice none 0 0, .slice none 0 0, .slice none 0 0, .pointer none, .slice none 0 0, .int .i64 k])) :=
        ⟨fun W' => ⟨_, rfl, none, 0, none, 0, none, 0, .slice none 0 0, rfl, Nat.zero_le _, Kd.C_nil _ _, Nat.zero_le _, Kd.C_nil _ _, Nat.zero_le _, Kd.C_nil _ _, Kd.R_nil _ _ _ _ _⟩⟩
      cases hfr : r.f1
      case' false =>
        rw [hfr] at m1
        go_upto_region 13 with (fail)
        have HBY := Aside0.mk (HB8.out (.cells #[.int .i64 r.f0, .bool false, .slice S2 r.f2.length sc] 52))
        have HNY := Aside0.mk (HN8.out (.cells #[.int .i64 r.f0, .bool false, .slice S2 r.f2.length sc] 52))
        obtain ⟨fn, hfn⟩ : ∃ fn : Int, fn = -1 := ⟨_, rfl⟩
        have HFI := Aside0.mk hfn
        have HFN : Aside0 (freeN r bt.st = fn) := ⟨by rw [hfn]; unfold freeN; rw [if_neg (by simp [hfr])]⟩
        clear hfn
        have HF1 : Aside0 (free1 k r bt.st = bt.st) := ⟨by unfold free1; rw [if_neg (by simp [hfr])]⟩
        have HBZ : Aside0 (BS w _ gb _ _ φ ⟨free1 k r bt.st, bt.steps, bt.frees⟩ vs vf v) := ⟨by rw [HF1.out]; exact HBY.out⟩
        have b82 := (blk_cell HNY.out 2).trans rfl
        clear HBY HB8 HN8 HP8 m0 m1 m2
        generalize wr.alloc (.cells #[.int .i64 r.f0, .bool false, .slice S2 r.f2.length sc] 52) = Y at *
        generalize wr.heap.size = b8 at *
        obtain ⟨v1, hv1⟩ : ∃ v1, v1 = v := ⟨_, rfl⟩
        rw [← hv1] at HBZ
        clear hv1
      case' true =>
        rw [hfr] at m1
        go_upto_region 13 with (go_at_call 32; (with_reducible refine (add_call (W0.off w vf) _ gb _ _ vs vf φ v bt.st.pl bt.st.sh (HB8.out (.cells #[.int .i64 r.f0, .bool true, .slice S2 r.f2.length sc] 52)).mach (freePl k) _ (HP8.out _) (by omega)).mono ?_); rintro e w4 ⟨rfl, v1, hv4, hk4, hn4⟩; have HBY := Aside0.mk ((HB8.out (.cells #[.int .i64 r.f0, .bool true, .slice S2 r.f2.length sc] 52)).add hv4 hk4 (HGB.out.1.st.add _ rfl (fun k hk => by cases hk) (fun k hk => by cases hk))); have HNY := Aside0.mk ((HB8.out (.cells #[.int .i64 r.f0, .bool true, .slice S2 r.f2.length sc] 52)).mach.keep hk4 (HN8.out (.cells #[.int .i64 r.f0, .bool true, .slice S2 r.f2.length sc] 52)) (by decide) (by decide)); clear hv4 hk4 hn4)
        obtain ⟨fn, hfn⟩ : ∃ fn : Int, fn = bt.st.pl.length := ⟨_, rfl⟩
        have HFI := Aside0.mk hfn
        have HFN : Aside0 (freeN r bt.st = fn) := ⟨by rw [hfn]; unfold freeN; rw [if_pos hfr]⟩
        clear hfn
        have HF1 : Aside0 (free1 k r bt.st = bt.st.add (freePl k)) := ⟨by unfold free1; rw [if_pos hfr]⟩
        have HBZ : Aside0 (BS w w4 gb _ _ φ ⟨free1 k r bt.st, bt.steps, bt.frees⟩ vs vf v1) := ⟨by rw [HF1.out]; exact HBY.out⟩
        have b82 := (blk_cell HNY.out 2).trans rfl
        clear HBY HB8 HN8 HP8 m0 m1 m2
        generalize w4 = Y at *
        generalize wr.heap.size = b8 at *
      all_goals (
        have HG1 := Aside0.mk (free1_good k r bt.st HGB.out.1.st)
        obtain ⟨s1, hs1⟩ : ∃ s1, s1 = free1 k r bt.st := ⟨_, rfl⟩
        have HS1 := Aside0.mk hs1
        rw [← hs1] at HBZ HG1
        clear hs1
        have hrl : r.f2.length ≤ 100000 := by have := stepsN_ge D r r.f2.length; omega
        have hs1l : s1.pl.length + stepsN D r r.f2.length ≤ 100000 := by have := HG1.out.2; have := HGB.out.2; omega
        go_wp2
        go_loopw [10, 44] (fun u q wr => ∃ (n : Nat) (φ2 : Nat → Nat) (v2 : Value), n ≤ r.f2.length ∧ q = .int .i64 n ∧ Aside0 (BU w wr gb (.slice At G.f0.length ct) (.slice (some ad) G.f1.length cr) φ2 ⟨(stepsB D k r s1 n).1, bt.steps, bt.frees⟩ vs vf v2 u (stepsB D k r s1 n).2)) (fun _ q _ => r.f2.length - (intOf q).toNat)
        case atStart => exact ⟨0, φ, v1, Nat.zero_le _, rfl, ⟨BU.start HBZ.out⟩⟩
        case round =>
          obtain ⟨n, φ2, v2, hn, rfl, HBQ⟩ := hrel
          by_cases hnn : n < r.f2.length
          · obtain ⟨td, T0, t0, T2, t2, T3, t3, T4, t4, rfl, z0, z1, z2, z3, z4, _, _, hl2, hf2, hl3, hf3, hl4, hf4⟩ := at_T79 HS2.out (n : Int) (by omega) (by omega)
            rw [Int.toNat_natCast] at z0 z1 z2 z3 z4
            have z0 := pw_cell_below HBQ.out.bs.mach.bel z0
            have z1 := pw_cell_below HBQ.out.bs.mach.bel z1
            have z2 := pw_cell_below HBQ.out.bs.mach.bel z2
            have z3 := pw_cell_below HBQ.out.bs.mach.bel z3
            have z4 := pw_cell_below HBQ.out.bs.mach.bel z4
            have HPV : Aside0 (PatV (W0.off w vf) (spAt r n).f1 (.agg #[.int .i64 (rd_T79 r.f2 n).f1.f0, .slice T2 (rd_T79 r.f2 n).f1.f1.length t2, .slice T3 (rd_T79 r.f2 n).f1.f2.length t3, .slice T4 (rd_T79 r.f2 n).f1.f3.length t4])) := ⟨⟨T2, t2, T3, t3, T4, t4, rfl, hl2, hf2, hl3, hf3, hl4, hf4⟩⟩
            have HGQ := Aside0.mk (stepsB_good D k r s1 HG1.out.1 n)
            have hq1 := stepsN_mono D r (show n + 1 ≤ r.f2.length by omega)
            have hq2 : (stepsB D k r s1 n).1.pl.length + 1 + walkN D (spAt r n).f1 ≤ 100000 := by
              have := HGQ.out.2.1
              have e9 : stepsN D r (n + 1) = stepsN D r n + (1 + walkN D (spAt r n).f1) := rfl
              omega
            have hql : (stepsB D k r s1 n).2.length ≤ 100000 := by rw [stepsB_length]; omega
            have HSN : Aside0 (stepsB D k r s1 (n + 1) = (patW (walkP D) (spAt r n).f1 k n (stepsB D k r s1 n).1, (stepsB D k r s1 n).2 ++ [(stepsB D k r s1 n).1.pl.length])) := ⟨rfl⟩
            have HPO2 := Aside0.mk (HPO.out n hnn)
            have HQL := Aside0.mk hql
            have HQ2 := Aside0.mk hq2
            clear hl2 hf2 hl3 hf3 hl4 hf4 hq1 hq2 hql
            obtain ⟨sq, hsq⟩ : ∃ sq, sq = (stepsB D k r s1 n).1 := ⟨_, rfl⟩
            obtain ⟨lq, hlq⟩ : ∃ lq, lq = (stepsB D k r s1 n).2 := ⟨_, rfl⟩
            rw [← hsq] at HBQ HGQ HSN HQ2
            rw [← hlq] at HBQ HGQ HSN HQL
            clear hsq hlq
            generalize spAt r n = pq at *
            have HBB := Aside0.mk (fun o => HBQ.out.below (below_alloc (Below.refl _ wr) o))
            obtain ⟨Au, cu, rfl⟩ := Kd.R_slice HBQ.out.row
            have HPC := Aside0.mk (fun o => patternC D (W0.off w vf) (wr.alloc o) gb _ _ vs vf φ2 v2 sq pq.f1 _ k n (HBB.out o).bs.mach HGQ.out.1 HPO2.out HQ2.out HPV.out)
            go_wp2_with (first
              | (go_at_call 33; (with_reducible refine (HPC.out _).mono ?_); intro e w5 he; obtain ⟨φ3, v3, rfl, hb5⟩ := (HBB.out _).pat HGQ.out.2.2 he; have HB5 := Aside0.mk hb5; have HBA := Aside0.mk (fun o => hb5.below (below_alloc (Below.refl _ w5) o)); clear he hb5)
              | ((with_reducible refine gate_builtin (b := .append) (xs := #[.tmp 49, .tmp 56]) rfl ?_); at_builtin; refine Kd.R_append_row (fun b => Value.pointer (some ⟨φ3 b, 0, none⟩)) 0 (h1 := fun _ => rfl) (w0 := w) w.heap.size rfl (.tmp 49) (.tmp 56) 91 88 (.pointer none) 8 rfl Tryz.underlying91 info88 rfl (by omega) _ lq [sq.pl.length] _ _ _ (fun _ => True) rfl rfl (fun _ _ => trivial) ?aO ?aR ?aB ?aS ?aL ?_; (case aR => exact one_P (by simp) _); (case aO => exact Kd.R_alloc HB5.out.row _); (case aB => exact below_alloc HB5.out.bs.mach.bel _); (case aS => exact below_size (below_alloc HB5.out.bs.mach.bel _)); (case aL => have := HQL.out; omega); intro v6 w6 ho6 hb6 hg6 hat6; have HB6 := Aside0.mk ((HBA.out _).push ho6 hb6 hg6 hat6); clear ho6 hb6 hg6 hat6))
            go_roundw
            case rel => exact ⟨n + 1, φ3, v3, by omega, by go_num, ⟨by rw [HSN.out]; exact HB6.out⟩⟩
            case measure => simp [intOf]; omega
          · obtain rfl : n = r.f2.length := by omega
            obtain ⟨Av, cv, rfl⟩ := Kd.R_slice HBQ.out.bs.steps
            obtain ⟨Af, cf, rfl⟩ := Kd.R_slice HBQ.out.bs.frees
            obtain ⟨Au, cu, rfl⟩ := Kd.R_slice HBQ.out.row
            have hw : wrap64 ((k : Int) + 1) = k + 1 := wrap_succ (by omega)
            clear hfew hrl hs1l hlen1 hn hnn
            go_upto_region 18 with (fail)
            refine wp_region_makes3 19 _ depR18 (phiR18 w wr gb (.slice At G.f0.length ct) (.slice (some ad) G.f1.length cr) v2 (Value.slice Av bt.steps.length cv) (Value.slice Af bt.frees.length cf) (Value.slice Au (stepsB D k r s1 r.f2.length).2.length cu) fn φ2 bt.steps.length (bt.steps ++ [(stepsB D k r s1 r.f2.length).2]) (bt.frees ++ [fn])) aftB18 (preB w wr gb (.slice At G.f0.length ct) (.slice (some ad) G.f1.length cr) v2 (Value.slice Av bt.steps.length cv) (Value.slice Af bt.frees.length cf)) (rsB gb (.slice At G.f0.length ct) (.slice (some ad) G.f1.length cr) v2 (Value.slice Av bt.steps.length cv) (Value.slice Af bt.frees.length cf)) (fun w w1 => w.heap.size ≤ w1.heap.size) (by kernel_rfl) (by kernel_rfl) (by kernel_rfl) rfl (fun _ => Nat.le_refl _) (fun _ _ _ h h2 => Nat.le_trans h h2) (rsB_size gb _ _ _ _ _) (by kernel_rfl) (phiR18_stab _ _ _ _ HBQ.out) (preB_stab HBQ.out) (fun j hj => ?pre) ?step ?fin
            case pre => exact preB_start HBQ.out j
            case step =>
              repeat (rename_i z; clear z)
              refine ⟨?_, ?_, ?_, ?_, ?_, ?_, ?_, ?_, ?_, ?_, ?_, ?_, ?_, ?_, ?_, ?_, ?_, ?_, ?_, trivial⟩ <;> intro vals W hR0 hp hd
              · have hR : wr.heap.size ≤ W.heap.size := hR0
                refine does_value (W' := W) (v := .pointer (some ⟨gb, 0, none⟩)) ?_ ⟨rfl, rfl⟩
                clear hd
                simp only [acan, depR18, dstOf]
                go_simp
              · have hR : wr.heap.size ≤ W.heap.size := hR0
                refine does_value (W' := W) (v := .pointer (some ⟨gb, 0, none⟩)) ?_ ⟨rfl, rfl⟩
                clear hd
                simp only [acan, depR18, dstOf]
                go_simp
              · have hR : wr.heap.size ≤ W.heap.size := hR0
                refine does_value (W' := W) (v := .pointer (some ⟨gb, 0, none⟩)) ?_ ⟨rfl, rfl⟩
                clear hd
                simp only [acan, depR18, dstOf]
                go_simp
              · have hR : wr.heap.size ≤ W.heap.size := hR0
                have h2 : vals 2 = .pointer (some ⟨gb, 0, none⟩) := hd 2 (by simp [depR18])
                refine does_value (W' := W) (v := .pointer (some ⟨gb, 0, none⟩)) ?_ ⟨rfl, rfl⟩
                clear hd
                simp only [acan, depR18, dstOf, h2]
                go_simp
              · have hR : wr.heap.size ≤ W.heap.size := hR0
                have h3 : vals 3 = .pointer (some ⟨gb, 0, none⟩) := hd 3 (by simp [depR18])
                refine does_value (W' := W) (v := .pointer (some ⟨gb, 3, none⟩)) ?_ ⟨rfl, rfl⟩
                clear hd
                simp only [acan, depR18, dstOf, h3]
                go_simp
              · have hR : wr.heap.size ≤ W.heap.size := hR0
                have h4 : vals 4 = .pointer (some ⟨gb, 3, none⟩) := hd 4 (by simp [depR18])
                have hbk : W.heap[gb]? = _ := preB_bf HBQ.out hp (by decide)
                have g3 := (blk_cell hbk 3).trans rfl
                have g4 := (blk_cell hbk 4).trans rfl
                refine does_value (W' := W) (v := (Value.slice Av bt.steps.length cv)) ?_ ⟨rfl, rfl⟩
                clear hd
                simp only [acan, depR18, dstOf, h4]
                go_simp
              · have hR : wr.heap.size ≤ W.heap.size := hR0
                refine does_value (W' := W) (v := (Value.slice Au (stepsB D k r s1 r.f2.length).2.length cu)) ?_ ⟨rfl, rfl⟩
                clear hd
                simp only [acan, depR18, dstOf]
                go_simp
              · have hR : wr.heap.size ≤ W.heap.size := hR0
                have h6 : vals 6 = (Value.slice Au (stepsB D k r s1 r.f2.length).2.length cu) := hd 6 (by simp [depR18])
                clear hd
                refine does_value (W' := W.alloc (.cells #[(Value.slice Au (stepsB D k r s1 r.f2.length).2.length cu)] 91)) (v := .slice (some ⟨W.heap.size, 0, none⟩) 1 1) ?_ ⟨below_alloc (Below.refl _ _) _, W.heap.size, rfl, hR, fun _ => blk_new W _⟩
                simp only [acan, depR18, dstOf, h6]
                go_simp
              · have hR : wr.heap.size ≤ W.heap.size := hR0
                have h5 : vals 5 = (Value.slice Av bt.steps.length cv) := hd 5 (by simp [depR18])
                have h7 : ∃ gl, (vals 7) = .slice (some ⟨gl, 0, none⟩) 1 1 ∧ wr.heap.size ≤ gl ∧ (Bf gb (.slice At G.f0.length ct) (.slice (some ad) G.f1.length cr) v2 (Value.slice Av bt.steps.length cv) (Value.slice Af bt.frees.length cf) W → W.heap[gl]? = some (.cells #[(Value.slice Au (stepsB D k r s1 r.f2.length).2.length cu)] 91 (0, 0))) := hd 7 (by simp [depR18])
                obtain ⟨gl, e7, hg7, hk7⟩ := h7
                have hp2 : Below wr.heap.size wr W := hp
                have hk7 := hk7 (preB_bf HBQ.out hp (by decide))
                clear hd
                simp only [acan, depR18, dstOf, h5, e7]
                refine does_step (ops := #[]) rfl (fun K hK => ?_)
                refine stepsA (w := w) (φ := φ2) rfl (.tmp 64) (.tmp 66) rfl (Value.slice Av bt.steps.length cv) (Value.slice Au (stepsB D k r s1 r.f2.length).2.length cu) bt.steps (stepsB D k r s1 r.f2.length).2 gl rfl rfl hk7 (Kd.R_below HBQ.out.bs.steps hp2) (Kd.R_below HBQ.out.row hp2) (below_step HBQ.out.bs.mach.bel hp2) (by have := HN12.out; omega) (fun v1 w1 hr _ hg _ => hK _ _ ⟨hg, ?_⟩)
                obtain ⟨A7, c7, hv7⟩ := Kd.R_slice hr
                rw [List.length_append, List.length_singleton] at hv7
                exact ⟨A7, c7, hv7, fun _ => hr⟩
              · have hR : wr.heap.size ≤ W.heap.size := hR0
                refine does_value (W' := W) (v := .pointer (some ⟨gb, 0, none⟩)) ?_ ⟨rfl, rfl⟩
                clear hd
                simp only [acan, depR18, dstOf]
                go_simp
              · have hR : wr.heap.size ≤ W.heap.size := hR0
                have h9 : vals 9 = .pointer (some ⟨gb, 0, none⟩) := hd 9 (by simp [depR18])
                refine does_value (W' := W) (v := .pointer (some ⟨gb, 0, none⟩)) ?_ ⟨rfl, rfl⟩
                clear hd
                simp only [acan, depR18, dstOf, h9]
                go_simp
              · have hR : wr.heap.size ≤ W.heap.size := hR0
                have h10 : vals 10 = .pointer (some ⟨gb, 0, none⟩) := hd 10 (by simp [depR18])
                refine does_value (W' := W) (v := .pointer (some ⟨gb, 4, none⟩)) ?_ ⟨rfl, rfl⟩
                clear hd
                simp only [acan, depR18, dstOf, h10]
                go_simp
              · have hR : wr.heap.size ≤ W.heap.size := hR0
                have h11 : vals 11 = .pointer (some ⟨gb, 4, none⟩) := hd 11 (by simp [depR18])
                have hbk : W.heap[gb]? = _ := preB_bf HBQ.out hp (by decide)
                have g3 := (blk_cell hbk 3).trans rfl
                have g4 := (blk_cell hbk 4).trans rfl
                refine does_value (W' := W) (v := (Value.slice Af bt.frees.length cf)) ?_ ⟨rfl, rfl⟩
                clear hd
                simp only [acan, depR18, dstOf, h11]
                go_simp
              · have hR : wr.heap.size ≤ W.heap.size := hR0
                have hfn2 := HFI.out
                refine does_value (W' := W) (v := .int .i64 fn) ?_ ⟨rfl, rfl⟩
                clear hd
                simp only [acan, depR18, dstOf]
                go_simp
              · have hR : wr.heap.size ≤ W.heap.size := hR0
                have h13 : vals 13 = .int .i64 fn := hd 13 (by simp [depR18])
                clear hd
                refine does_value (W' := W.alloc (.cells #[.int .i64 fn] 3)) (v := .slice (some ⟨W.heap.size, 0, none⟩) 1 1) ?_ ⟨below_alloc (Below.refl _ _) _, W.heap.size, rfl, hR, fun _ => blk_new W _⟩
                simp only [acan, depR18, dstOf, h13]
                go_simp
              · have hR : wr.heap.size ≤ W.heap.size := hR0
                have h12 : vals 12 = (Value.slice Af bt.frees.length cf) := hd 12 (by simp [depR18])
                have h14 : ∃ gl, (vals 14) = .slice (some ⟨gl, 0, none⟩) 1 1 ∧ wr.heap.size ≤ gl ∧ (Bf gb (.slice At G.f0.length ct) (.slice (some ad) G.f1.length cr) v2 (Value.slice Av bt.steps.length cv) (Value.slice Af bt.frees.length cf) W → W.heap[gl]? = some (.cells #[.int .i64 fn] 3 (0, 0))) := hd 14 (by simp [depR18])
                have h8 : ∃ A c, (vals 8) = .slice A (bt.steps.length + 1) c ∧ (Bf gb (.slice At G.f0.length ct) (.slice (some ad) G.f1.length cr) v2 (Value.slice Av bt.steps.length cv) (Value.slice Af bt.frees.length cf) W → (Kd.slice 88 (kPtr φ2)).R 91 W w.heap.size (fun _ => True) (vals 8) (bt.steps ++ [(stepsB D k r s1 r.f2.length).2])) := hd 8 (by simp [depR18])
                obtain ⟨gl, e14, hg14, hk14⟩ := h14
                have hp2 : wr.grownBy W (Value.slice Av bt.steps.length cv).ownBlock := hp
                have hk14 := hk14 (preB_bf HBQ.out hp (by decide))
                have HA7 := HBQ.out.a18 (Below.refl _ _) hp2
                clear hd
                simp only [acan, depR18, dstOf, h12, e14]
                refine does_step (ops := #[]) rfl (fun K hK => ?_)
                exact freesA (w := w) rfl (.tmp 71) (.tmp 73) rfl (Value.slice Af bt.frees.length cf) bt.frees fn gl rfl rfl hk14 HA7.frees (HBQ.out.bs.mach.bel.grown hp2 HBQ.out.bs.mach.bel.size (fun k hk => HBQ.out.ge_s k hk)) (by have := HN12.out; omega) (fun v1 w1 hr _ hg hat => hK _ _ ⟨hg, fun _ => hr, hat.elim (fun h => .inl h) (fun ⟨b, h1, h2⟩ => .inr ⟨b, h1, Nat.le_trans hp2.size h2⟩)⟩)
              · have hR : wr.heap.size ≤ W.heap.size := hR0
                have h0 : vals 0 = .pointer (some ⟨gb, 0, none⟩) := hd 0 (by simp [depR18])
                refine does_value (W' := W) (v := .pointer (some ⟨gb, 0, none⟩)) ?_ ⟨rfl, rfl⟩
                clear hd
                simp only [acan, depR18, dstOf, h0]
                go_simp
              · have hR : wr.heap.size ≤ W.heap.size := hR0
                have h16 : vals 16 = .pointer (some ⟨gb, 0, none⟩) := hd 16 (by simp [depR18])
                refine does_value (W' := W) (v := .pointer (some ⟨gb, 3, none⟩)) ?_ ⟨rfl, rfl⟩
                clear hd
                simp only [acan, depR18, dstOf, h16]
                go_simp
              · have hR : wr.heap.size ≤ W.heap.size := hR0
                have h17 : vals 17 = .pointer (some ⟨gb, 3, none⟩) := hd 17 (by simp [depR18])
                have h8 : ∃ A c, (vals 8) = .slice A (bt.steps.length + 1) c ∧ (Bf gb (.slice At G.f0.length ct) (.slice (some ad) G.f1.length cr) v2 (Value.slice Av bt.steps.length cv) (Value.slice Af bt.frees.length cf) W → (Kd.slice 88 (kPtr φ2)).R 91 W w.heap.size (fun _ => True) (vals 8) (bt.steps ++ [(stepsB D k r s1 r.f2.length).2])) := hd 8 (by simp [depR18])
                have h15 : (Bf gb (.slice At G.f0.length ct) (.slice (some ad) G.f1.length cr) v2 (Value.slice Av bt.steps.length cv) (Value.slice Af bt.frees.length cf) W → (Kd.int .i64).R 3 W w.heap.size (fun _ => True) (vals 15) (bt.frees ++ [fn])) ∧ ((vals 15).ownBlock = (Value.slice Af bt.frees.length cf).ownBlock ∨ ∃ k, (vals 15).ownBlock = some k ∧ wr.heap.size ≤ k) := hd 15 (by simp [depR18])
                obtain ⟨A7, c7, e8, hs8⟩ := h8
                obtain ⟨hs15, hn15⟩ := h15
                obtain ⟨hbf, hkp, hbl⟩ : Bf gb (.slice At G.f0.length ct) (.slice (some ad) G.f1.length cr) v2 (Value.slice Av bt.steps.length cv) (Value.slice Af bt.frees.length cf) W ∧ Kept wr W (fun k => ((Value.slice Av bt.steps.length cv)).ownBlock = some k ∨ ((Value.slice Af bt.frees.length cf)).ownBlock = some k) ∧ Below w.heap.size w W := hp
                have hs8 := hs8 hbf
                have hs15 := hs15 hbf
                have HSB : Aside0 (B18 w wr W gb (.slice At G.f0.length ct) (.slice (some ad) G.f1.length cr) (Value.slice Av bt.steps.length cv) (Value.slice Af bt.frees.length cf) v2 (vals 8) φ2 (bt.steps ++ [(stepsB D k r s1 r.f2.length).2])) := ⟨⟨hbf, hs8, hkp⟩⟩
                have HS15 := Aside0.mk hs15
                have HN15 := Aside0.mk hn15
                have HBL := Aside0.mk hbl
                have y3 : W.cell? ⟨gb, 3, none⟩ = some (Value.slice Av bt.steps.length cv) := (blk_cell hbf 3).trans rfl
                have z3 : W.frozen? ⟨gb, 3, none⟩ = false := blk_frozen hbf 3
                have HBF := Aside0.mk hbf
                clear hd hs8 hs15 hn15 hkp hbl hbf
                skip
                refine does_skip (W' := W.setCell ⟨gb, 3, none⟩ (.slice A7 (bt.steps.length + 1) c7)) ?_ ⟨⟨?_, ?_⟩, W, by rw [e8], HSB.out, HS15.out, HBL.out, HN15.out⟩
                · simp only [acan, depR18, dstOf, e8, h17]
                  go_simp
                · rw [size_setCell]; exact Nat.le_refl _
                · exact fun hb => not_bf hb HBF.out (by omega)
            case fin =>
              intro vals W hR0 hF
              have f0 : vals 0 = .pointer (some ⟨gb, 0, none⟩) := hF 0 (by decide)
              have f1 : vals 1 = .pointer (some ⟨gb, 0, none⟩) := hF 1 (by decide)
              have f2 : vals 2 = .pointer (some ⟨gb, 0, none⟩) := hF 2 (by decide)
              have f3 : vals 3 = .pointer (some ⟨gb, 0, none⟩) := hF 3 (by decide)
              have f4 : vals 4 = .pointer (some ⟨gb, 3, none⟩) := hF 4 (by decide)
              have f5 : vals 5 = (Value.slice Av bt.steps.length cv) := hF 5 (by decide)
              have f6 : vals 6 = (Value.slice Au (stepsB D k r s1 r.f2.length).2.length cu) := hF 6 (by decide)
              have f7 : ∃ gl, (vals 7) = .slice (some ⟨gl, 0, none⟩) 1 1 ∧ wr.heap.size ≤ gl ∧ (Bf gb (.slice At G.f0.length ct) (.slice (some ad) G.f1.length cr) v2 (Value.slice Av bt.steps.length cv) (Value.slice Af bt.frees.length cf) W → W.heap[gl]? = some (.cells #[(Value.slice Au (stepsB D k r s1 r.f2.length).2.length cu)] 91 (0, 0))) := hF 7 (by decide)
              have f8 : ∃ A c, (vals 8) = .slice A (bt.steps.length + 1) c ∧ (Bf gb (.slice At G.f0.length ct) (.slice (some ad) G.f1.length cr) v2 (Value.slice Av bt.steps.length cv) (Value.slice Af bt.frees.length cf) W → (Kd.slice 88 (kPtr φ2)).R 91 W w.heap.size (fun _ => True) (vals 8) (bt.steps ++ [(stepsB D k r s1 r.f2.length).2])) := hF 8 (by decide)
              have f9 : vals 9 = .pointer (some ⟨gb, 0, none⟩) := hF 9 (by decide)
              have f10 : vals 10 = .pointer (some ⟨gb, 0, none⟩) := hF 10 (by decide)
              have f11 : vals 11 = .pointer (some ⟨gb, 4, none⟩) := hF 11 (by decide)
              have f12 : vals 12 = (Value.slice Af bt.frees.length cf) := hF 12 (by decide)
              have f13 : vals 13 = .int .i64 fn := hF 13 (by decide)
              have f14 : ∃ gl, (vals 14) = .slice (some ⟨gl, 0, none⟩) 1 1 ∧ wr.heap.size ≤ gl ∧ (Bf gb (.slice At G.f0.length ct) (.slice (some ad) G.f1.length cr) v2 (Value.slice Av bt.steps.length cv) (Value.slice Af bt.frees.length cf) W → W.heap[gl]? = some (.cells #[.int .i64 fn] 3 (0, 0))) := hF 14 (by decide)
              have f15 : (Bf gb (.slice At G.f0.length ct) (.slice (some ad) G.f1.length cr) v2 (Value.slice Av bt.steps.length cv) (Value.slice Af bt.frees.length cf) W → (Kd.int .i64).R 3 W w.heap.size (fun _ => True) (vals 15) (bt.frees ++ [fn])) ∧ ((vals 15).ownBlock = (Value.slice Af bt.frees.length cf).ownBlock ∨ ∃ k, (vals 15).ownBlock = some k ∧ wr.heap.size ≤ k) := hF 15 (by decide)
              have f16 : vals 16 = .pointer (some ⟨gb, 0, none⟩) := hF 16 (by decide)
              have f17 : vals 17 = .pointer (some ⟨gb, 3, none⟩) := hF 17 (by decide)
              have f18 : ∃ W9, W = W9.setCell ⟨gb, 3, none⟩ (vals 8) ∧ B18 w wr W9 gb (.slice At G.f0.length ct) (.slice (some ad) G.f1.length cr) (Value.slice Av bt.steps.length cv) (Value.slice Af bt.frees.length cf) v2 (vals 8) φ2 (bt.steps ++ [(stepsB D k r s1 r.f2.length).2]) ∧ (Kd.int .i64).R 3 W9 w.heap.size (fun _ => True) (vals 15) (bt.frees ++ [fn]) ∧ Below w.heap.size w W9 ∧ ((vals 15).ownBlock = (Value.slice Af bt.frees.length cf).ownBlock ∨ ∃ k, (vals 15).ownBlock = some k ∧ wr.heap.size ≤ k) := hF 18 (by decide)
              clear hF hR0
              rw [show List.range 19 = [0, 1, 2, 3, 4, 5, 6, 7, 8, 9, 10, 11, 12, 13, 14, 15, 16, 17, 18] from rfl]
              simp only [acan, dstOf, Act.put, List.getElem?_toArray, List.getElem?_cons_zero, List.getElem?_cons_succ, Option.bind_some, Option.bind_none, List.setIfInBounds_toArray, List.set_cons_zero, List.set_cons_succ, List.drop_succ_cons, List.drop_zero, f0, f1, f2, f3, f4, f5, f6, f9, f10, f11, f12, f13, f16, f17]
              obtain ⟨W9, rfl, hB9, hO9, hBL, hAT⟩ := f18
              obtain ⟨gl7, f7, _, _⟩ := f7
              obtain ⟨gl14, f14, _, _⟩ := f14
              obtain ⟨A7, c7, f8, _⟩ := f8
              clear f15
              generalize vals 15 = v9 at *
              generalize vals 18 = v18 at *
              obtain ⟨A9, c9, hv9⟩ := Kd.R_slice hO9
              rw [List.length_append, List.length_singleton] at hv9
              subst hv9
              rw [f8] at hB9
              simp only [f7, f14, f8]
              have HB9 := Aside0.mk hB9
              have HO9 := Aside0.mk hO9
              have HBL := Aside0.mk hBL
              have HAT := Aside0.mk hAT
              have y4 : W9.cell? ⟨gb, 4, none⟩ = some (.slice Af bt.frees.length cf) := (blk_cell HB9.out.blk 4).trans rfl
              have z4 : W9.frozen? ⟨gb, 4, none⟩ = false := blk_frozen HB9.out.blk 4
              have y3 : W9.cell? ⟨gb, 3, none⟩ = some (.slice Av bt.steps.length cv) := (blk_cell HB9.out.blk 3).trans rfl
              have z3 : W9.frozen? ⟨gb, 3, none⟩ = false := blk_frozen HB9.out.blk 3
              clear hB9 hO9 hBL hAT f7 f8 f14
              go_wp2
              go_roundw
              case rel =>
                refine ⟨k + 1, φ2, .slice A7 (bt.steps.length + 1) c7, .slice A9 (bt.frees.length + 1) c9, v2, hkn, (by first | (rw [hw]; simp; done) | (simp; done)), ⟨?_⟩⟩
                rw [HBK.out]
                refine HBQ.out.rule18 HS1.out HG9.out HB9.out ?_ HBL.out HAT.out
                rw [HFN.out]
                exact HO9.out
              case measure => first | exact meas hkn | (rw [hw]; exact meas hkn))
    · obtain rfl : k = G.f1.length := by omega
      go_wp2
      go_ret2
      exact ⟨gb, φ, vs, vf, v, rfl, HB.out⟩
end Go.Proofs.YtpagbjdmiepgmaaGreatDoor.PVpa
namespace Go.Proofs.YtpagbjdmiepgmaaGreatDoor.PVpa
open Go.RowKit Go.Proofs.YtpagbjdmiepgmaaGreatDoorW.PrintWords Go.Proofs.YtpagbjdmiepgmaaGreatDoorW.PrintLast Go.Proofs.YtpagbjdmiepgmaaGreatDoorW.PrintMore
theorem PlS.read {φ : Nat → Nat} {w0 : W0} {W : World} {x : Pl} {cs : List Value} (hb : Below w0.heap.size w0 W) (h : PlS φ w0 W x cs) : PlK φ W x cs := by
  obtain ⟨A1, c1, A2, c2, A3, c3, v4, rfl, l1, g1, l2, g2, l3, g3, g4⟩ := h
  obtain ⟨A4, c4, rfl, l4, h4⟩ := g4.C
  exact ⟨A1, c1, A2, c2, A3, c3, A4, c4, rfl, l1, Kd.C_below g1 hb, l2, Kd.C_below g2 hb, l3, Kd.C_below g3 hb, l4, h4⟩
theorem BS.read {w W : World} {gb : Nat} {At Ar : Option Addr} {ct cr : Nat} {G : S26} {φ : Nat → Nat} {b : Bt} {vs vf v : Value} (h : BS w W gb (.slice At G.f0.length ct) (.slice Ar G.f1.length cr) φ b vs vf v)
    (lt : G.f0.length ≤ ct) (ht : k70.C w At G.f0.length G.f0) (lr : G.f1.length ≤ cr) (hr : k52.C w Ar G.f1.length G.f1) : VR W gb G b.mach φ := by
  have hb := h.mach.bel
  obtain ⟨Ap, cp, rfl, lp, hp⟩ := h.mach.row.reads
  obtain ⟨As, cs, rfl, ls, hs⟩ := Kd.R_reads h.steps
  obtain ⟨Af, cf, rfl, lf, hf⟩ := Kd.R_reads h.frees
  refine ⟨⟨At, ct, Ar, cr, Ap, cp, As, cs, Af, cf, h.mach.blk, lt, Kd.C_below ht hb, lr, Kd.C_below hr hb, lp, hp.imp_ (Below.refl _ _) (fun _ _ hx => hx.read hb), ls, hs, lf, hf⟩, fun k x hk => ?_⟩
  obtain ⟨v1, v2, hc, r1, r2⟩ := (h.mach.shapes k x hk).cells
  obtain ⟨A1, c1, rfl, l1, g1⟩ := r1.C
  obtain ⟨A2, c2, rfl, l2, g2⟩ := r2.C
  exact ⟨A1, c1, A2, c2, hc, l1, g1, l2, g2⟩
end Go.Proofs.YtpagbjdmiepgmaaGreatDoor.PVpa
namespace Go.Proofs.YtpagbjdmiepgmaaGreatDoor.PVpa
open Go.RowKit Go.Proofs.YtpagbjdmiepgmaaGreatDoorW.PrintWords Go.Proofs.YtpagbjdmiepgmaaGreatDoorW.PrintLast Go.Proofs.YtpagbjdmiepgmaaGreatDoorW.PrintMore
def Nm (p : S76) : Prop := p.f1.length ≤ 100000 ∧ p.f2.length ≤ 100000
def AllNm (s : St) : Prop := ∀ q, Nm (s.pl.getD q zPl).p
theorem nm_z : Nm z76 := ⟨Nat.zero_le _, Nat.zero_le _⟩
theorem AllNm.add {s : St} (h : AllNm s) {x : Pl} (hx : Nm x.p) : AllNm (s.add x) := fun q => by
  show Nm ((s.pl ++ [x]).getD q zPl).p
  rw [getD_add]
  split
  · exact hx
  · exact h q
theorem AllNm.link {s : St} (h : AllNm s) (frm tt : List Int) : AllNm (s.link frm tt) := fun q => by
  show Nm ((linkK s.pl tt frm frm.length).getD q zPl).p
  rw [(linkK_same s.pl tt frm frm.length q).2.2.2.1]
  exact h q
theorem AllNm.inner {s : St} (h : AllNm s) (k b : Nat) : AllNm (s.inner k b) := fun q => by
  show Nm ((s.pl.set k _).getD q zPl).p
  rw [getD_set]
  split
  · exact h k
  · exact h q
theorem patW_nm {n : Nat} (hw : ∀ b p s, PatOk n p → AllNm s → AllNm (walkP n b p s).2) (p : S76) (rule step : Int) (s : St) (hp : PatOk n p) (h : AllNm s) : AllNm (patW (walkP n) p rule step s) :=
  fun q => hw s.pl.length p (s.add (beginPl s.pl.length)) hp (h.add nm_z) q
theorem item1_nm {b : Nat} {p : S76} {s : St} (hp : Nm p) (h : AllNm s) : AllNm (item1 b p s) := by
  unfold item1
  split
  · exact (h.add hp).link _ _
  · exact h.add hp
theorem walk_nm : ∀ (n b : Nat) (p : S76) (s : St), PatOk n p → AllNm s → AllNm (walkP n b p s).2
  | 0, _, _, _, hp, _ => hp.elim
  | n + 1, b, p, s, hp, h => by
    have ih := walk_nm n
    obtain ⟨n1, n2, k3, k56, k7⟩ := hp
    unfold walkP
    by_cases c1 : p.f0 = 2 ∨ p.f0 = 4 ∨ p.f0 = 3
    · rw [if_pos c1]
      show AllNm (itemW (walkP n) b p s)
      unfold itemW
      split
      · rename_i c3
        exact (patW_nm ih _ _ _ _ (k3 c3).2 (item1_nm ⟨n1, n2⟩ h)).inner _ _
      · exact item1_nm ⟨n1, n2⟩ h
    · rw [if_neg c1]
      split
      · rename_i c5
        exact (ih b _ _ (k56 (.inl c5)).2.2 (ih b _ s (k56 (.inl c5)).2.1 h)).link _ _
      · split
        · rename_i c6
          exact ih b _ _ (k56 (.inr c6)).2.2 (ih b _ s (k56 (.inr c6)).2.1 h)
        · split
          · rename_i c7
            exact (ih b _ s (k7 c7).2 h).link _ _
          · exact h
theorem stepsB_nm (D : Nat) (i : Int) (r : S52) (s : St) (h : AllNm s) (n : Nat) (hp : ∀ k, k < n → PatOk D (spAt r (k : Nat)).f1) : AllNm (stepsB D i r s n).1 := by
  induction n with
  | zero => exact h
  | succ n ih => exact patW_nm (walk_nm D) _ _ _ _ (hp n (by omega)) (ih (fun k hk => hp k (by omega)))
theorem build_nm (D : Nat) (G : S26) (n : Nat) (hp : ∀ i k : Nat, i < n → k < (rlAt G i).f2.length → PatOk D (spAt (rlAt G i) k).f1) : AllNm (buildK D G n).st := by
  induction n with
  | zero =>
    intro q
    show Nm (([widePl] : List Pl).getD q zPl).p
    cases q <;> exact nm_z
  | succ n ih =>
    have h1 := ih (fun i k hi hk => hp i k (by omega) hk)
    refine stepsB_nm D n (rlAt G n) _ ?_ _ (fun k hk => hp n k (by omega) hk)
    unfold free1
    split
    · exact h1.add nm_z
    · exact h1
theorem build_short (D : Nat) (G : S26) (n : Nat) (hp : ∀ i k : Nat, i < n → k < (rlAt G i).f2.length → PatOk D (spAt (rlAt G i) k).f1) : Short (buildK D G n) := fun q _ => build_nm D G n hp q
end Go.Proofs.YtpagbjdmiepgmaaGreatDoor.PVpa
namespace Go.Proofs.YtpagbjdmiepgmaaGreatDoor.PVpa
open Go.RowKit Go.Proofs.YtpagbjdmiepgmaaGreatDoorW.PrintWords Go.Proofs.YtpagbjdmiepgmaaGreatDoorW.PrintLast Go.Proofs.YtpagbjdmiepgmaaGreatDoorW.PrintMore
theorem mach_ok {G : S26} {D : Nat} {φ : Nat → Nat} (hok : RulesOk D G) (hg : Good (buildK D G G.f1.length).st) (hi : ShInj φ (buildK D G G.f1.length).st.sh) (hl : G.f1.length ≤ 1000) (hs : ∀ i : Nat, i < G.f1.length → 1 ≤ (rlAt G i).f2.length ∧ (rlAt G i).f2.length ≤ 1000) : (buildK D G G.f1.length).mach.Ok φ := by
  have hn1 := (built D G G.f1.length).n1
  refine built_ok (built D G G.f1.length) hg hi (build_short D G _ hok.pats) ?_ hl (fun i => ?_) (fun i hi2 => ?_)
  · rw [(buildK_good D G G.f1.length).2]
    exact hok.few
  · rcases Nat.lt_or_ge i G.f1.length with h | h
    · rw [build_rows D G _ i h]
      exact (hs i h).2
    · rw [List.getD_eq_getElem?_getD, List.getElem?_eq_none (by omega)]
      exact Nat.zero_le _
  · have h := build_rows D G _ i hi2
    have h1 := (hs i hi2).1
    match hc : (buildK D G G.f1.length).steps.getD i [] with
    | [] => rw [hc] at h; simp at h; omega
    | k :: r => exact ⟨k, r, rfl⟩
theorem build_good (w : World) (At Ar : Option Addr) (ct cr : Nat) (G : S26) (D : Nat) (hr : GramR w G At Ar ct cr) (hg : GramOk G) (hok : RulesOk D G) (ho : Own w) :
    Calls Tryz.prog 8 #[.agg #[.slice At G.f0.length ct, .slice Ar G.f1.length cr]] w fun e w' => ∃ gb φ, e = .returned (.tuple #[.pointer (some ⟨gb, 0, none⟩), .int .i64 0]) ∧ VR w' gb G (buildK D G G.f1.length).mach φ ∧ (buildK D G G.f1.length).mach.Ok φ ∧ Below w.heap.size w w' := by
  have hl : G.f1.length ≤ 1000 := Nat.le_trans hg.rfew (by decide)
  refine (build_call w At Ar ct cr G D hr.rules hok hl 0 (fun W hb => check_ok W G At Ar ct cr (hr.below hb) hg (ho.below hb))).mono ?_
  rintro e w' ⟨gb, φ, vs, vf, v, rfl, hB⟩
  refine ⟨gb, φ, rfl, hB.read hr.lt hr.toks hr.lr hr.rules, mach_ok hok hB.good.st hB.inj hl (fun i hi => ?_), hB.mach.bel⟩
  have h1 := hg.rules i hi
  rw [← nat_getD] at h1
  exact ⟨h1.one, Nat.le_trans h1.few (by decide)⟩
end Go.Proofs.YtpagbjdmiepgmaaGreatDoor.PVpa
namespace Go.Proofs.YtpagbjdmiepgmaaGreatDoor.PVpa
open Go.RowKit Go.Proofs.YtpagbjdmiepgmaaGreatDoorW.PrintWords Go.Proofs.YtpagbjdmiepgmaaGreatDoorW.PrintLast Go.Proofs.YtpagbjdmiepgmaaGreatDoorW.PrintMore
def p0 : S76 := ⟨2, [⟨#[97]⟩], [], []⟩
def r0 : S52 := ⟨0, true, [⟨nO, p0⟩]⟩
def g0 : S26 := ⟨T4, [r0]⟩
def m0 : Mach := (buildK 9 g0 1).mach
theorem p0_mk : Mk nAB nO nC 1 1 p0 := .inr (.inl ⟨rfl, ⟨by simp [p0], 0, 1, rfl⟩, rfl, rfl, Nat.le_refl _⟩)
theorem g0_gram : GramOk g0 := by
  refine ⟨by decide, by decide, fun i hi => tok4 i hi, by decide, fun i hi => ?_⟩
  obtain rfl : i = 0 := by simp [g0] at hi; omega
  refine ⟨by decide, by decide, by decide, fun j hj => ?_⟩
  obtain rfl : j = 0 := by simp [g0, r0] at hj; omega
  exact ⟨rfl, names4.2.1, 1, 1, 1, p0_mk.good names4.1 names4.2.1 names4.2.2, p0_mk.fit, by decide, by decide⟩
theorem g0_rules : RulesOk 9 g0 := by
  refine ⟨fun i k hi hk => ?_, by decide⟩
  obtain rfl : i = 0 := by simp [g0] at hi; omega
  obtain rfl : k = 0 := by
    have hk : k < 1 := hk
    omega
  exact (p0_mk.mono (by decide : 1 ≤ 9)).patOk (by decide) (by decide) (by decide)
theorem g0_calls : CallsOk g0 := by
  refine ⟨fun i j hi0 hi hj0 hj => ?_, fun i hi0 hi => ?_⟩
  · obtain rfl : i = 0 := by have hi : i < 1 := hi; omega
    obtain rfl : j = 0 := by have hj : j < 1 := hj; omega
    decide
  · obtain rfl : i = 0 := by have hi : i < 1 := hi; omega
    decide
theorem m0_len : m0.pl.length = 4 := by decide +kernel
theorem m0_start : startL m0 = [1] := by decide +kernel
theorem m0_rule3 : ruleI m0 3 = 0 := by decide +kernel
theorem m0_rule2 : ruleI m0 2 = -1 := by decide +kernel
theorem m0_bottom : (bottomL g0 m0 1 3).length = 1 := by decide +kernel
theorem m0_int : intL g0 m0 2 0 = [3] := by decide +kernel
theorem m0_ret : retL g0 m0 2 1 3 = [] := by decide +kernel
theorem m0_raw : rawC g0 m0 1 2 = [(1, 1), (2, -1)] := by decide +kernel
theorem m0_may : mayB g0 m0 1 2 1 = true := by decide +kernel
theorem m0_call : callL g0 m0 1 2 = [(1, 1), (2, -1)] := by
  unfold callL
  rw [if_pos m0_may, m0_raw]
  exact List.mergeSort_of_pairwise (by decide)
theorem m0_nodup : (rawC g0 m0 1 2).Nodup := by decide +kernel
end Go.Proofs.YtpagbjdmiepgmaaGreatDoor.PVpa
namespace Go.Proofs.YtpagbjdmiepgmaaGreatDoor.PVpa
open Go.RowKit Go.Proofs.YtpagbjdmiepgmaaGreatDoorW.PrintWords Go.Proofs.YtpagbjdmiepgmaaGreatDoorW.PrintLast Go.Proofs.YtpagbjdmiepgmaaGreatDoorW.PrintMore
theorem len_at (w : World) (gb : Nat) (Ap : Option Addr) (n cp : Nat) (h : w.cell? ⟨gb, 2, none⟩ = some (.slice Ap n cp)) :
    Calls Tryz.prog 10 #[.pointer (some ⟨gb, 0, none⟩)] w fun e w' => e = .returned (.int .i64 n) ∧ w' = w := by
  go_enter Tryz.func10, Tryz.ntmps10
  go_wp2
  go_ret
  exact ⟨rfl, rfl⟩
section
variable {w1 w3 : World} {g1 : Nat} {T R : Value}
def toldW (w3 : World) (g1 : Nat) : World :=
  ((((w3.alloc (.cells #[.string ⟨#[111]⟩] 9)).alloc (.cells #[.string ⟨#[97]⟩] 9)).alloc (.cells #[.slice (some ⟨w3.heap.size, 0, none⟩) 1 1, .int .i64 2, .slice (some ⟨w3.heap.size + 1, 0, none⟩) 1 1, .slice none 0 0, .slice none 0 0] 79)).alloc
    (.cells #[.int .i64 0, .bool true, .slice (some ⟨w3.heap.size + 1 + 1, 0, none⟩) 1 1] 52)).setCell ⟨g1, 1, none⟩ (.slice (some ⟨w3.heap.size + 1 + 1 + 1, 0, none⟩) 1 1)
theorem blk_at {w : World} {k : Nat} {o : Obj} (hk : k = w.heap.size) : (w.alloc o).heap[k]? = some o := by
  subst hk
  exact blk_new w o
theorem toldW_facts (hb : Below w1.heap.size w1 w3) (hg : g1 = w1.heap.size) (hk : w3.heap[g1]? = some (.cells #[T, R] 26 (0, 0))) :
    Below w1.heap.size w1 (toldW w3 g1) ∧ GBox (toldW w3 g1) g1 T (.slice (some ⟨w3.heap.size + 1 + 1 + 1, 0, none⟩) 1 1) ∧ k52.C (toldW w3 g1) (some ⟨w3.heap.size + 1 + 1 + 1, 0, none⟩) 1 [r0] ∧ ∀ k, k < w3.heap.size → k ≠ g1 → (toldW w3 g1).heap[k]? = w3.heap[k]? := by
  have hlt : g1 < w3.heap.size := lit_lt hk
  have k4 := blk_alloc (blk_alloc (blk_alloc (blk_alloc hk (.cells #[.string ⟨#[111]⟩] 9)) (.cells #[.string ⟨#[97]⟩] 9)) (.cells #[.slice (some ⟨w3.heap.size, 0, none⟩) 1 1, .int .i64 2, .slice (some ⟨w3.heap.size + 1, 0, none⟩) 1 1, .slice none 0 0, .slice none 0 0] 79)) (.cells #[.int .i64 0, .bool true, .slice (some ⟨w3.heap.size + 1 + 1, 0, none⟩) 1 1] 52)
  have b4 := below_alloc (below_alloc (below_alloc (below_alloc (Below.refl _ w3) (.cells #[.string ⟨#[111]⟩] 9)) (.cells #[.string ⟨#[97]⟩] 9)) (.cells #[.slice (some ⟨w3.heap.size, 0, none⟩) 1 1, .int .i64 2, .slice (some ⟨w3.heap.size + 1, 0, none⟩) 1 1, .slice none 0 0, .slice none 0 0] 79)) (.cells #[.int .i64 0, .bool true, .slice (some ⟨w3.heap.size + 1 + 1, 0, none⟩) 1 1] 52)
  have e0 := blk_alloc (blk_alloc (blk_alloc (blk_new w3 (.cells #[.string ⟨#[111]⟩] 9)) (.cells #[.string ⟨#[97]⟩] 9)) (.cells #[.slice (some ⟨w3.heap.size, 0, none⟩) 1 1, .int .i64 2, .slice (some ⟨w3.heap.size + 1, 0, none⟩) 1 1, .slice none 0 0, .slice none 0 0] 79)) (.cells #[.int .i64 0, .bool true, .slice (some ⟨w3.heap.size + 1 + 1, 0, none⟩) 1 1] 52)
  have e1 := blk_alloc (blk_alloc (blk_at (w := w3.alloc (.cells #[.string ⟨#[111]⟩] 9)) (k := w3.heap.size + 1) (o := .cells #[.string ⟨#[97]⟩] 9) (by simp)) (.cells #[.slice (some ⟨w3.heap.size, 0, none⟩) 1 1, .int .i64 2, .slice (some ⟨w3.heap.size + 1, 0, none⟩) 1 1, .slice none 0 0, .slice none 0 0] 79)) (.cells #[.int .i64 0, .bool true, .slice (some ⟨w3.heap.size + 1 + 1, 0, none⟩) 1 1] 52)
  have e2 := blk_alloc (blk_at (w := (w3.alloc (.cells #[.string ⟨#[111]⟩] 9)).alloc (.cells #[.string ⟨#[97]⟩] 9)) (k := w3.heap.size + 1 + 1) (o := .cells #[.slice (some ⟨w3.heap.size, 0, none⟩) 1 1, .int .i64 2, .slice (some ⟨w3.heap.size + 1, 0, none⟩) 1 1, .slice none 0 0, .slice none 0 0] 79) (by simp)) (.cells #[.int .i64 0, .bool true, .slice (some ⟨w3.heap.size + 1 + 1, 0, none⟩) 1 1] 52)
  have e3 := blk_at (w := ((w3.alloc (.cells #[.string ⟨#[111]⟩] 9)).alloc (.cells #[.string ⟨#[97]⟩] 9)).alloc (.cells #[.slice (some ⟨w3.heap.size, 0, none⟩) 1 1, .int .i64 2, .slice (some ⟨w3.heap.size + 1, 0, none⟩) 1 1, .slice none 0 0, .slice none 0 0] 79)) (k := w3.heap.size + 1 + 1 + 1) (o := .cells #[.int .i64 0, .bool true, .slice (some ⟨w3.heap.size + 1 + 1, 0, none⟩) 1 1] 52) (by simp)
  have far : ∀ k, k ≠ g1 → ∀ X : World, (X.setCell ⟨g1, 1, none⟩ (.slice (some ⟨w3.heap.size + 1 + 1 + 1, 0, none⟩) 1 1)).heap[k]? = X.heap[k]? := fun k hk X => Below.heap_setCell X ⟨g1, 1, none⟩ _ k hk
  have n0 : w3.heap.size ≠ g1 := by omega
  have n1 : w3.heap.size + 1 ≠ g1 := by omega
  have n2 : w3.heap.size + 1 + 1 ≠ g1 := by omega
  have n3 : w3.heap.size + 1 + 1 + 1 ≠ g1 := by omega
  have f0 := (far _ n0 _).trans e0
  have f1 := (far _ n1 _).trans e1
  have f2 := (far _ n2 _).trans e2
  have f3 := (far _ n3 _).trans e3
  refine ⟨(below_step hb b4).setCell (p := ⟨g1, 1, none⟩) (by show w1.heap.size ≤ g1; omega) _, ?_, ?_, fun k hk2 hne => (far k hne _).trans (b4.block k hk2)⟩
  · have h := blk_set k4 1 (.slice (some ⟨w3.heap.size + 1 + 1 + 1, 0, none⟩) 1 1)
    simpa [GBox, toldW] using h
  · have s1 : Kd.F Kd.string (toldW w3 g1) (fun _ => True) (some ⟨w3.heap.size, 0, none⟩) 1 [⟨#[111]⟩] := lit_F1 (cs := [.string ⟨#[111]⟩]) f0 trivial (fun _ _ => rfl)
    have s2 : Kd.F Kd.string (toldW w3 g1) (fun _ => True) (some ⟨w3.heap.size + 1, 0, none⟩) 1 [⟨#[97]⟩] := lit_F1 (cs := [.string ⟨#[97]⟩]) f1 trivial (fun _ _ => rfl)
    have s3 : Kd.F k79 (toldW w3 g1) (fun _ => True) (some ⟨w3.heap.size + 1 + 1, 0, none⟩) 1 [⟨nO, p0⟩] := lit_F1 (cs := [.slice (some ⟨w3.heap.size, 0, none⟩) 1 1, .int .i64 2, .slice (some ⟨w3.heap.size + 1, 0, none⟩) 1 1, .slice none 0 0, .slice none 0 0]) f2 trivial
      (k79_mkF (toldW w3 g1) _ ⟨nO, p0⟩ (Nat.le_refl _) s1 (Nat.le_refl _) s2 (Nat.le_refl _) (Kd.F_nil _ _ _) (Nat.le_refl _) (Kd.F_nil _ _ _))
    exact Kd.F_now (lit_F1 (ok := fun _ => True) (cs := [.int .i64 0, .bool true, .slice (some ⟨w3.heap.size + 1 + 1, 0, none⟩) 1 1]) f3 trivial (k52_mkF (toldW w3 g1) _ r0 (Nat.le_refl _) s3))
end
end Go.Proofs.YtpagbjdmiepgmaaGreatDoor.PVpa
namespace Go.Proofs.YtpagbjdmiepgmaaGreatDoor.PVpa
open Go.RowKit Go.Proofs.YtpagbjdmiepgmaaGreatDoorW.PrintWords Go.Proofs.YtpagbjdmiepgmaaGreatDoorW.PrintLast Go.Proofs.YtpagbjdmiepgmaaGreatDoorW.PrintMore
theorem gives_len {w w' : World} {l : List Int} {e : Ending} (h : Gives w l e w') : ∃ A c, e = .returned (.slice A l.length c) ∧ Below w.heap.size w w' := by
  obtain ⟨v, rfl, hr, hb⟩ := h
  obtain ⟨A, c, rfl, _⟩ := Kd.R_reads hr
  exact ⟨A, c, rfl, hb⟩
theorem gives_at0 {w w' : World} {q : Int} {l : List Int} {e : Ending} (h : Gives w (q :: l) e w') : ∃ ad c, e = .returned (.slice (some ad) (l.length + 1) c) ∧ w'.cell? ad = some (.int .i64 q) ∧ Below w.heap.size w w' := by
  obtain ⟨v, rfl, hr, hb⟩ := h
  obtain ⟨A, c, rfl, _, hc⟩ := Kd.R_reads hr
  obtain ⟨ad, rfl, h0⟩ := Kd.at_int hc (0 : Int) (by omega) (by simp)
  have e0 : ad.add (0 : Int).toNat = ad := Addr.add_zero' ad
  rw [e0] at h0
  exact ⟨ad, c, rfl, h0, hb⟩
theorem givesP_two {w w' : World} {a b c d : Int} {e : Ending} (h : GivesP w [(a, b), (c, d)] e w') : ∃ g k, e = .returned (.slice (some ⟨g, 0, none⟩) 2 k) ∧ w'.cell? ⟨g, 0, none⟩ = some (.int .i64 a) ∧ w'.cell? ⟨g, 1, none⟩ = some (.int .i64 b) ∧ w'.cell? ⟨g, 2, none⟩ = some (.int .i64 c) ∧ w'.cell? ⟨g, 3, none⟩ = some (.int .i64 d) ∧ Below w.heap.size w w' := by
  obtain ⟨v, rfl, ho, hb⟩ := h
  obtain ⟨_, ho⟩ := ho
  rcases ho with ⟨_, h2⟩ | ⟨g, cap, cur, rfl, _, hk, _, _, _, hx⟩
  · cases h2
  · have hcell : ∀ (j : Nat) (v : Value), (cellsP [(a, b), (c, d)])[j]? = some v → w'.cell? ⟨g, j, none⟩ = some v := fun j v hj => by
      rw [← hx, List.getElem?_take] at hj
      split at hj
      · rw [blk_cell hk]; simpa using hj
      · cases hj
    exact ⟨g, cap, rfl, hcell 0 _ rfl, hcell 1 _ rfl, hcell 2 _ rfl, hcell 3 _ rfl, hb⟩
theorem givesP_one {w w' : World} {a b : Int} {e : Ending} (h : GivesP w [(a, b)] e w') : ∃ g k, e = .returned (.slice (some ⟨g, 0, none⟩) 1 k) ∧ w'.cell? ⟨g, 0, none⟩ = some (.int .i64 a) ∧ w'.cell? ⟨g, 1, none⟩ = some (.int .i64 b) ∧ Below w.heap.size w w' := by
  obtain ⟨v, rfl, ho, hb⟩ := h
  obtain ⟨_, ho⟩ := ho
  rcases ho with ⟨_, h2⟩ | ⟨g, cap, cur, rfl, _, hk, _, _, _, hx⟩
  · cases h2
  · have hcell : ∀ (j : Nat) (v : Value), (cellsP [(a, b)])[j]? = some v → w'.cell? ⟨g, j, none⟩ = some v := fun j v hj => by
      rw [← hx, List.getElem?_take] at hj
      split at hj
      · rw [blk_cell hk]; simpa using hj
      · cases hj
    exact ⟨g, cap, rfl, hcell 0 _ rfl, hcell 1 _ rfl, hb⟩
end Go.Proofs.YtpagbjdmiepgmaaGreatDoor.PVpa
namespace Go.Proofs.YtpagbjdmiepgmaaGreatDoor.PVpa
open Go.RowKit Go.Proofs.YtpagbjdmiepgmaaGreatDoorW.PrintWords Go.Proofs.YtpagbjdmiepgmaaGreatDoorW.PrintLast Go.Proofs.YtpagbjdmiepgmaaGreatDoorW.PrintMore
abbrev faultV (a b : Int) : Value := .iface 122 (.agg #[.int .i64 a, .int .i64 b])
theorem must_bad (gc : Nat) (c wh : Int) (w : World) (h : w.cell? ⟨gc, 2, none⟩ = some (.int .i64 wh)) : Calls Tryz.prog 61 #[.pointer (some ⟨gc, 0, none⟩), .bool false, .int .i64 c] w fun e w' => e = .panicked [{ v := faultV c wh, recovered := false }] ∧ w' = w := by
  have hp : ∀ (v : Value) (w : World), (Instr.panic (.iface 122 v)).run Tryz.prog w = .halt (.panic (.iface 122 v)) w := fun _ _ => rfl
  go_enter Tryz.func61, Tryz.ntmps61
  go_wp2
  simp [bodyPost]
theorem work_bad (w : World) (gg : Nat) (hgg : w.heap[gg]? = some (.cells #[.slice none 0 0, .slice none 0 0] 26 (0, 0))) :
    Calls Tryz.prog 60 #[.pointer (some ⟨gg, 0, none⟩)] w fun e w' => e = .panicked [{ v := faultV 6 0, recovered := false }] ∧ Below w.heap.size w w' := by
  have q0 : w.cell? ⟨gg, 0, none⟩ = some (.slice none 0 0) := (blk_cell hgg 0).trans rfl
  have q1 : w.cell? ⟨gg, 1, none⟩ = some (.slice none 0 0) := (blk_cell hgg 1).trans rfl
  have q2 : ∀ o, (w.alloc o).cell? ⟨gg, 0, none⟩ = some (.slice none 0 0) := fun o => (blk_cell (blk_alloc hgg o) 0).trans rfl
  have HB := Aside0.mk (below_alloc (Below.refl _ w) (.cells #[.slice none 0 0, .slice none 0 0, .int .i64 0] 126))
  have HM := Aside0.mk (must_bad w.heap.size 6 0 (w.alloc (.cells #[.slice none 0 0, .slice none 0 0, .int .i64 0] 126)) ((blk_cell (blk_new w _) 2).trans rfl))
  clear hgg
  go_enter Tryz.func60, Tryz.ntmps60
  go_wp2_with (go_at_call 61; (with_reducible refine HM.out.mono ?_); rintro e w7 ⟨rfl, rfl⟩)
  simp [bodyPost]
  exact HB.out
set_option maxRecDepth 100000 in
set_option maxHeartbeats 2000000 in
theorem caught1_panicking (g : Nat) (a b x y : Int) (older : List PanicEntry) (w : World) (h0 : w.heap[g]? = some (.cells #[.int .i64 x, .int .i64 y] 122 (0, 0))) :
    CallsD Tryz.prog 83 #[.pointer (some ⟨g, 0, none⟩)] (.panicking ({ v := faultV a b, recovered := false } :: older)) w fun e u' w' => e = .returned (.tuple #[]) ∧ u' = .panicking ({ v := faultV a b, recovered := true } :: older) ∧ ∃ o, w' = ((w.setCell ⟨g, 0, none⟩ (.int .i64 a)).setCell ⟨g, 1, none⟩ (.int .i64 b)).alloc o := by
  have hta : ∀ w : World, (Instr.typeAssert (faultV a b) 20 122 true).run Tryz.prog w = .ok (.tuple #[.agg #[.int .i64 a, .int .i64 b], .bool true]) w := fun _ => by kernel_rfl
  have hgl := blk_lt h0
  have q0 : w.cell? ⟨g, 0, none⟩ = some (.int .i64 x) := (blk_cell h0 0).trans rfl
  have q1 : w.cell? ⟨g, 1, none⟩ = some (.int .i64 y) := (blk_cell h0 1).trans rfl
  have z0 : ∀ i, w.frozen? ⟨g, i, none⟩ = false := fun i => blk_frozen h0 i
  refine callsD_of_wpS Tryz.func83 rfl fun c₀ cs hu => ?_
  apply wpS_seq
  apply wpS_region
  simp [wpOpsS, go_sem, recoverD, hu, Tryz.ntmps83, Exit.thenS]
  apply wpS_seq
  apply wpS_region
  simp [wpOpsS, go_sem, Exit.thenS]
  refine wpS_cond (t := true) (by simp [Act.eval, Array.replicate]) ?_
  simp only [if_true]
  refine wpS_of_wp ?_
  change Code.wp _ _ _ ⟨#[.pointer (some ⟨g, 0, none⟩), faultV a b, undef, undef, faultV a b, faultV a b, .bool true, undef, undef, undef, undef, undef, undef, undef, undef, undef], []⟩ w
  go_wp2
  cases c₀
  simp [bodyPostS, results, Tryz.results83]
  exact ⟨_, rfl⟩
set_option maxRecDepth 100000 in
set_option maxHeartbeats 2000000 in
theorem caught_bad (w : World) (gg : Nat) (hw : ∀ W, Below w.heap.size w W → Calls Tryz.prog 60 #[.pointer (some ⟨gg, 0, none⟩)] W fun e w' => e = .panicked [{ v := faultV 6 0, recovered := false }] ∧ Below W.heap.size W w') :
    Calls Tryz.prog 59 #[.func (.func 60) #[] #[.pointer (some ⟨gg, 0, none⟩)]] w fun e w' => e = .returned (.agg #[.int .i64 6, .int .i64 0]) ∧ Below w.heap.size w w' := by
  have hmf : ∀ (fn : Fn) (first cap : Array Value) (w : World), (Instr.makeFunc fn first cap).run Tryz.prog w = .ok (.func fn first cap) w := fun _ _ _ _ => rfl
  have eg : ∀ args w, (callFunc 60 args).run Tryz.prog w = .ok (.enter 60 args) w := enters_of Tryz.func60 (by kernel_rfl) rfl
  have HB := Aside0.mk (below_alloc (Below.refl _ w) (.cells #[.int .i64 0, .int .i64 0] 122))
  have HK := Aside0.mk (blk_new w (.cells #[.int .i64 0, .int .i64 0] 122))
  have HW := Aside0.mk (hw _ HB.out)
  clear hw
  go_enter_defers Tryz.func59, Tryz.ntmps59
  go_wp2_with (go_at_fn 60; (with_reducible refine HW.out.mono ?_); rintro e w1 ⟨rfl, hb⟩; have HB1 := Aside0.mk (below_step HB.out hb); have HK1 := Aside0.mk (blk_below HK.out hb); clear hb)
  refine leaves_cons (f := 83) (args := #[.pointer (some ⟨w.heap.size, 0, none⟩)]) (by simp) (by simp [go_sem]) ?_
  refine (caught1_panicking w.heap.size 6 0 0 0 [] _ HK1.out).mono ?_
  rintro e u' w'' ⟨rfl, rfl, o, rfl⟩
  have HBY := below_alloc (below_set (j := 1) (v := .int .i64 0) (below_set (j := 0) (v := .int .i64 6) HB1.out (Nat.le_refl _)) (Nat.le_refl _)) o
  have kY := blk_alloc (blk_put (blk_put HK1.out 0 (.int .i64 6) rfl) 1 (.int .i64 0) rfl) o
  generalize ((w1.setCell ⟨w.heap.size, 0, none⟩ (.int .i64 6)).setCell ⟨w.heap.size, 1, none⟩ (.int .i64 0)).alloc o = Y at *
  have y0 : Y.cell? ⟨w.heap.size, 0, none⟩ = some (.int .i64 6) := (blk_cell kY 0).trans rfl
  have y1 : Y.cell? ⟨w.heap.size, 1, none⟩ = some (.int .i64 0) := (blk_cell kY 1).trans rfl
  clear HK1 HB1 HW HK HB
  simp [Leaves, settle, results, Tryz.results59, go_sem, y0, y1]
  exact HBY
set_option maxHeartbeats 1000000 in
theorem check_bad (w : World) :
    Calls Tryz.prog 31 #[.agg #[.slice none 0 0, .slice none 0 0]] w fun e w' => e = .returned (.tuple #[.int .i64 6, .int .i64 0]) ∧ Below w.heap.size w w' := by
  have hmf : ∀ (fn : Fn) (first cap : Array Value) (w : World), (Instr.makeFunc fn first cap).run Tryz.prog w = .ok (.func fn first cap) w := fun _ _ _ _ => rfl
  have HB := Aside0.mk (below_alloc (Below.refl _ w) (.cells #[.slice none 0 0, .slice none 0 0] 26))
  have HK := Aside0.mk (blk_new w (.cells #[.slice none 0 0, .slice none 0 0] 26))
  have HC := Aside0.mk (caught_bad (w.alloc (.cells #[.slice none 0 0, .slice none 0 0] 26)) w.heap.size (fun W hb => work_bad W w.heap.size (blk_below HK.out hb)))
  go_enter Tryz.func31, Tryz.ntmps31
  go_upto_region 2 with (go_at_call 59; (with_reducible refine HC.out.mono ?_); rintro e w1 ⟨rfl, hb⟩; have HB1 := Aside0.mk (below_step HB.out hb); clear hb)
  go_quiet (fail)
  go_wp2
  go_ret2
  exact ⟨rfl, pw_below_drewN (below_step HB1.out (below_alloc (Below.refl _ _) _)) _⟩
end Go.Proofs.YtpagbjdmiepgmaaGreatDoor.PVpa
namespace Go.Proofs.YtpagbjdmiepgmaaGreatDoor.PVpa
open Go.RowKit Go.Proofs.YtpagbjdmiepgmaaGreatDoorW.PrintWords Go.Proofs.YtpagbjdmiepgmaaGreatDoorW.PrintLast Go.Proofs.YtpagbjdmiepgmaaGreatDoorW.PrintMore
set_option maxRecDepth 100000 in
set_option maxHeartbeats 1000000 in
theorem build_bad (w : World) :
    Calls Tryz.prog 8 #[.agg #[.slice none 0 0, .slice none 0 0]] w fun e w' => e = .returned (.tuple #[.pointer none, .int .i64 6]) ∧ Below w.heap.size w w' := by
  have HB0 := Aside0.mk (below_alloc (Below.refl _ w) (.cells #[.slice none 0 0, .slice none 0 0] 26))
  have HC := Aside0.mk (check_bad (w.alloc (.cells #[.slice none 0 0, .slice none 0 0] 26)))
  go_enter Tryz.func8, Tryz.ntmps8
  go_wp2_with (go_at_call 31; (with_reducible refine HC.out.mono ?_); rintro e w1 ⟨rfl, hb1⟩; have HB1 := Aside0.mk (below_step HB0.out hb1); clear hb1)
  go_wp2
  go_ret2
  exact ⟨rfl, HB1.out⟩
end Go.Proofs.YtpagbjdmiepgmaaGreatDoor.PVpa
namespace Go.Proofs.YtpagbjdmiepgmaaGreatDoor.PVpa
open Go.RowKit Go.Proofs.YtpagbjdmiepgmaaGreatDoorW.PrintWords Go.Proofs.YtpagbjdmiepgmaaGreatDoorW.PrintLast Go.Proofs.YtpagbjdmiepgmaaGreatDoorW.PrintMore
set_option maxRecDepth 100000 in
set_option maxHeartbeats 2000000 in
theorem told_call (w : World) (ho : Own w) (hmk : ∀ W, Calls Tryz.prog 7 #[.slice none 0 0] W fun e w' => ∃ G At Ar ct cr, e = .returned (.agg #[.slice At G.f0.length ct, .slice Ar G.f1.length cr]) ∧ MakeOk 0 G ∧ GramR w' G At Ar ct cr ∧ Below W.heap.size W w') :
    Calls Tryz.prog 24 #[] w fun e w' => e = .returned (.bool true) ∧ Below w.heap.size w w' := by
  have HO := Aside0.mk ho
  have HMK := Aside0.mk hmk
  clear ho hmk
  go_enter Tryz.func24, Tryz.ntmps24
  go_upto_region 2 with (go_at_call 7; (with_reducible refine (HMK.out _).mono ?_); rintro e w1 ⟨G, At, Ar, ct, cr, rfl, hm, hg, hb1⟩; have HM := Aside0.mk hm; have HG := Aside0.mk hg; have HB1 := Aside0.mk hb1; clear hm hg hb1)
  have hbx := below_alloc (Below.refl _ w1) (.cells #[.slice At G.f0.length ct, .slice Ar G.f1.length cr] 26)
  have hkx := blk_new w1 (.cells #[.slice At G.f0.length ct, .slice Ar G.f1.length cr] 26)
  generalize w1.alloc (.cells #[.slice At G.f0.length ct, .slice Ar G.f1.length cr] 26) = X at *
  obtain ⟨g1, hg1⟩ : ∃ g1, g1 = w1.heap.size := ⟨_, rfl⟩
  rw [← hg1] at hkx ⊢
  have HBX := Aside0.mk (below_step HB1.out hbx)
  have HGX := Aside0.mk (HG.out.below hbx)
  have HKX := Aside0.mk hkx
  have HG1 : Aside0 (w.heap.size ≤ g1) := ⟨by have := HB1.out.size; omega⟩
  have q0 := (blk_cell hkx 0).trans rfl
  have q1 := (blk_cell hkx 1).trans rfl
  have HBG := Aside0.mk (build_good X At Ar ct cr G 9 HGX.out HM.out.gram HM.out.rulesOk (HO.out.below HBX.out))
  have HXB := Aside0.mk hbx
  have HGE := Aside0.mk hg1
  clear hbx hkx hg1
  go_upto_region 3 with (go_at_call 8; (with_reducible refine HBG.out.mono ?_); rintro e w2 ⟨ga, φa, rfl, hv2, ho2, hb2⟩; have HV2 := Aside0.mk hv2; have HB2 := Aside0.mk hb2; clear hv2 ho2 hb2)
  go_upto_region 4 with (go_at_call 8; (with_reducible refine (build_bad _).mono ?_); rintro e w3 ⟨rfl, hb3⟩; have HB3 := Aside0.mk hb3; clear hb3)
  have HK3 := Aside0.mk (blk_below (blk_below HKX.out HB2.out) HB3.out)
  have q0 := (blk_cell HK3.out 0).trans rfl
  have q1 := (blk_cell HK3.out 1).trans rfl
  have q1a : ∀ o1 o2 o3 o4, ((((w3.alloc o1).alloc o2).alloc o3).alloc o4).cell? ⟨g1, 1, none⟩ = some (.slice Ar G.f1.length cr) := fun o1 o2 o3 o4 => (blk_cell (blk_alloc (blk_alloc (blk_alloc (blk_alloc HK3.out o1) o2) o3) o4) 1).trans rfl
  have z1a : ∀ o1 o2 o3 o4, ((((w3.alloc o1).alloc o2).alloc o3).alloc o4).frozen? ⟨g1, 1, none⟩ = false := fun o1 o2 o3 o4 => blk_frozen (blk_alloc (blk_alloc (blk_alloc (blk_alloc HK3.out o1) o2) o3) o4) 1
  have HB3W := Aside0.mk (below_step (below_step HBX.out HB2.out) HB3.out)
  have HV3 := Aside0.mk (HV2.out.below HB3.out)
  have HG3 := Aside0.mk ((HGX.out.below HB2.out).below HB3.out)
  go_upto_region 5 with fail
  have hy := toldW_facts (w1 := w1) (w3 := w3) (g1 := g1) (T := .slice At G.f0.length ct) (R := .slice Ar G.f1.length cr) (below_step (below_step HXB.out HB2.out) HB3.out) HGE.out HK3.out
  obtain ⟨hy1, hy2, hy3, hy4⟩ := hy
  clear q0 q1 q1a z1a
  unfold toldW at hy1 hy2 hy3 hy4
  generalize ((((w3.alloc (.cells #[.string ⟨#[111]⟩] 9)).alloc (.cells #[.string ⟨#[97]⟩] 9)).alloc (.cells #[.slice (some ⟨w3.heap.size, 0, none⟩) 1 1, .int .i64 2, .slice (some ⟨w3.heap.size + 1, 0, none⟩) 1 1, .slice none 0 0, .slice none 0 0] 79)).alloc
    (.cells #[.int .i64 0, .bool true, .slice (some ⟨w3.heap.size + 1 + 1, 0, none⟩) 1 1] 52)).setCell ⟨g1, 1, none⟩ (.slice (some ⟨w3.heap.size + 1 + 1 + 1, 0, none⟩) 1 1) = Y at *
  obtain ⟨gR, hgR⟩ : ∃ gR, gR = w3.heap.size + 1 + 1 + 1 := ⟨_, rfl⟩
  rw [← hgR] at hy2 hy3 ⊢
  have hT4 : G.f0 = T4 := by
    obtain ⟨a1, a2, hk, _⟩ := HM.out.kind
    rcases hk with ⟨_, h, _⟩ | ⟨h, _⟩
    · exact h
    · omega
  have HGR : Aside0 (GramR Y g0 At (some ⟨gR, 0, none⟩) ct 1) := ⟨⟨by have := HG.out.lt; rw [hT4] at this; exact this, by have h9 := Kd.C_below HG.out.toks hy1; rw [hT4] at h9; exact h9, Nat.le_refl _, hy3⟩⟩
  have HYW := Aside0.mk (below_step HB1.out hy1)
  have HBG2 : Aside0 (Calls Tryz.prog 8 #[.agg #[.slice At T4.length ct, .slice (some ⟨gR, 0, none⟩) 1 1]] Y fun e w' => ∃ gb φ, e = .returned (.tuple #[.pointer (some ⟨gb, 0, none⟩), .int .i64 0]) ∧ VR w' gb g0 m0 φ ∧ m0.Ok φ ∧ Below Y.heap.size Y w') := ⟨build_good Y At (some ⟨gR, 0, none⟩) ct 1 g0 9 HGR.out g0_gram g0_rules (HO.out.below HYW.out)⟩
  have p0 := (blk_cell hy2 0).trans rfl
  have p1 := (blk_cell hy2 1).trans rfl
  rw [hT4] at p0
  have HY4 := Aside0.mk hy4
  clear hy1 hy2 hy3 hy4 hgR
  go_upto_region 6 with (go_at_call 8; (with_reducible refine HBG2.out.mono ?_); rintro e w4 ⟨gv, φ, rfl, hv4, ho4, hb4⟩; have HV4 := Aside0.mk hv4; have HO4 := Aside0.mk ho4; have HB4 := Aside0.mk hb4; clear hv4 ho4 hb4)
  have HV := Aside0.mk (fun W (hb : Below w4.heap.size w4 W) => HV4.out.below hb)
  have HFT := Aside0.mk (build_fits 9 g0 g0_calls)
  have HFT2 := Aside0.mk (build_fits2 9 g0)
  have HC16 : Aside0 (∀ W, Below w4.heap.size w4 W → Calls Tryz.prog 16 #[.pointer (some ⟨gv, 0, none⟩), .int .i64 1, .int .i64 2] W fun e w' => ∃ g k, e = .returned (.slice (some ⟨g, 0, none⟩) 2 k) ∧ w'.cell? ⟨g, 0, none⟩ = some (.int .i64 1) ∧ w'.cell? ⟨g, 1, none⟩ = some (.int .i64 1) ∧ w'.cell? ⟨g, 2, none⟩ = some (.int .i64 2) ∧ w'.cell? ⟨g, 3, none⟩ = some (.int .i64 (-1)) ∧ Below W.heap.size W w') :=
    ⟨fun W hb => (call_call W gv g0 m0 φ (HV.out W hb) HO4.out HFT.out HFT2.out 1 2 m0_nodup).mono (fun e w' h => by rw [m0_call] at h; exact givesP_two h)⟩
  have HC13 : Aside0 (∀ W, Below w4.heap.size w4 W → Calls Tryz.prog 13 #[.pointer (some ⟨gv, 0, none⟩), .int .i64 2, .int .i64 0] W fun e w' => ∃ ad c, e = .returned (.slice (some ad) 1 c) ∧ w'.cell? ad = some (.int .i64 3) ∧ Below W.heap.size W w') :=
    ⟨fun W hb => (int_call W gv g0 m0 φ (HV.out W hb) HO4.out 2 0).mono (fun e w' h => by rw [m0_int] at h; exact gives_at0 h)⟩
  have HC12 : Aside0 (∀ W, Below w4.heap.size w4 W → Calls Tryz.prog 12 #[.pointer (some ⟨gv, 0, none⟩)] W fun e w' => ∃ ad c, e = .returned (.slice (some ad) 1 c) ∧ w'.cell? ad = some (.int .i64 1) ∧ Below W.heap.size W w') :=
    ⟨fun W hb => (start_call W gv g0 m0 φ (HV.out W hb) HO4.out).mono (fun e w' h => by rw [m0_start] at h; exact gives_at0 h)⟩
  have HC20 : Aside0 (∀ W, Below w4.heap.size w4 W → Calls Tryz.prog 20 #[.pointer (some ⟨gv, 0, none⟩), .int .i64 1, .int .i64 3] W fun e w' => ∃ A c, e = .returned (.slice A 1 c) ∧ Below W.heap.size W w') :=
    ⟨fun W hb => (bottom_call W gv g0 m0 φ (HV.out W hb) 1 3).mono (fun e w' h => by have h := gives_len h; rw [m0_bottom] at h; exact h)⟩
  have HC18 : Aside0 (∀ W, Below w4.heap.size w4 W → Calls Tryz.prog 18 #[.pointer (some ⟨gv, 0, none⟩), .int .i64 2, .int .i64 1, .int .i64 3] W fun e w' => ∃ A c, e = .returned (.slice A 0 c) ∧ Below W.heap.size W w') :=
    ⟨fun W hb => (ret_call W gv g0 m0 φ (HV.out W hb) HO4.out 2 1 3).mono (fun e w' h => by rw [m0_ret] at h; exact gives_len h)⟩
  have HC10 : Aside0 (∀ W, Below w4.heap.size w4 W → Calls Tryz.prog 10 #[.pointer (some ⟨gv, 0, none⟩)] W fun e w' => e = .returned (.int .i64 4) ∧ w' = W) :=
    ⟨fun W hb => (len_call W gv g0 m0 φ (HV.out W hb)).mono (fun e w' h => by rw [m0_len] at h; exact h)⟩
  have HC22 : Aside0 (∀ W, Below w4.heap.size w4 W → Calls Tryz.prog 22 #[.pointer (some ⟨gv, 0, none⟩), .int .i64 3] W fun e w' => e = .returned (.int .i64 0) ∧ Below W.heap.size W w') :=
    ⟨fun W hb => (rule_call W gv g0 m0 φ (HV.out W hb) HO4.out 3).mono (fun e w' h => by rw [m0_rule3] at h; exact ⟨h.1, h.2.below⟩)⟩
  have HC22b : Aside0 (∀ W, Below w4.heap.size w4 W → Calls Tryz.prog 22 #[.pointer (some ⟨gv, 0, none⟩), .int .i64 2] W fun e w' => e = .returned (.int .i64 (-1)) ∧ Below W.heap.size W w') :=
    ⟨fun W hb => (rule_call W gv g0 m0 φ (HV.out W hb) HO4.out 2).mono (fun e w' h => by rw [m0_rule2] at h; exact ⟨h.1, h.2.below⟩)⟩
  obtain ⟨At0, ct0, Ar0, cr0, Apa, cpa, Asa, csa, Afa, cfa, hca, _⟩ := HV2.out.cells
  have hpa : w2.cell? ⟨ga, 2, none⟩ = some (.slice Apa 1 cpa) := by
    have h1 : w2.cell? ⟨ga, 2, none⟩ = some (.slice Apa (buildK 9 G G.f1.length).mach.pl.length cpa) := (blk_cell hca 2).trans rfl
    have h2 : G.f1.length = 0 := Nat.le_zero.1 HM.out.fewer
    rw [h2] at h1
    exact h1
  have hne : ga ≠ g1 := ne_blk (blk_below hca HB3.out) HK3.out (by decide)
  have hpy : Y.cell? ⟨ga, 2, none⟩ = some (.slice Apa 1 cpa) := by
    have h3 := pw_cell_below HB3.out hpa
    have h4 := HY4.out ga (lit_lt (blk_below hca HB3.out)) hne
    rw [← World.cell?_of_block (a := ⟨ga, 2, none⟩) h4] at h3
    exact h3
  have HC10a : Aside0 (∀ W, Below w4.heap.size w4 W → Calls Tryz.prog 10 #[.pointer (some ⟨ga, 0, none⟩)] W fun e w' => e = .returned (.int .i64 1) ∧ w' = W) :=
    ⟨fun W hb => len_at W ga Apa 1 cpa (pw_cell_below hb (pw_cell_below HB4.out hpy))⟩
  have HW4 := Aside0.mk (below_step HYW.out HB4.out)
  clear hca hpa hne hpy p0 p1
  go_upto_region 9 with (go_at_call 16; (with_reducible refine (HC16.out _ (Below.refl _ _)).mono ?_); rintro e w5 ⟨gc, kc, rfl, c0, c1, c2, c3, hb5⟩; have HB5 := Aside0.mk hb5; have C0 := Aside0.mk c0; have C1 := Aside0.mk c1; have C2 := Aside0.mk c2; have C3 := Aside0.mk c3; clear c0 c1 c2 c3 hb5)
  go_upto_region 10 with (go_at_call 13; (with_reducible refine (HC13.out _ HB5.out).mono ?_); rintro e w6 ⟨ai, ki, rfl, i0, hb6⟩; have I0 := Aside0.mk i0; have HB6 := Aside0.mk (below_step HB5.out hb6); have C0 := Aside0.mk (pw_cell_below hb6 C0.out); have C1 := Aside0.mk (pw_cell_below hb6 C1.out); have C2 := Aside0.mk (pw_cell_below hb6 C2.out); have C3 := Aside0.mk (pw_cell_below hb6 C3.out); clear i0 hb6)
  have heq1 : ∀ W, (Op.equalIn 10000 53 (.agg #[.int .i64 1, .int .i64 1]) (.agg #[.int .i64 1, .int .i64 1])).run Tryz.prog W = .ok true W := fun W => by kernel_rfl
  have heq2 : ∀ W, (Op.equalIn 10000 53 (.agg #[.int .i64 2, .int .i64 (-1)]) (.agg #[.int .i64 2, .int .i64 (-1)])).run Tryz.prog W = .ok true W := fun W => by kernel_rfl
  have HB6C := Aside0.mk (Below.refl w6.heap.size w6)
  go_wp2_with (first
    | (go_at_call 10; first
        | ((with_reducible refine (HC10a.out _ (below_step HB6.out HB6C.out)).mono ?_); rintro e w7 ⟨rfl, hw⟩; obtain rfl := hw.symm)
        | ((with_reducible refine (HC10.out _ (below_step HB6.out HB6C.out)).mono ?_); rintro e w7 ⟨rfl, hw⟩; obtain rfl := hw.symm)
        | ((with_reducible refine (len_nil _).mono ?_); rintro e w7 ⟨rfl, hw⟩; obtain rfl := hw.symm))
    | (go_at_call 12; (with_reducible refine (HC12.out _ (below_step HB6.out HB6C.out)).mono ?_); rintro e w7 ⟨aS, ks, rfl, s0, hb⟩; have HB6C := Aside0.mk (below_step HB6C.out hb); have c0 := pw_cell_below HB6C.out C0.out; have c1 := pw_cell_below HB6C.out C1.out; have c2 := pw_cell_below HB6C.out C2.out; have c3 := pw_cell_below HB6C.out C3.out; have i0 := pw_cell_below HB6C.out I0.out; clear hb)
    | (go_at_call 22; first
        | ((with_reducible refine (HC22.out _ (below_step HB6.out HB6C.out)).mono ?_); rintro e w7 ⟨rfl, hb⟩; have HB6C := Aside0.mk (below_step HB6C.out hb); clear hb)
        | ((with_reducible refine (HC22b.out _ (below_step HB6.out HB6C.out)).mono ?_); rintro e w7 ⟨rfl, hb⟩; have HB6C := Aside0.mk (below_step HB6C.out hb); clear hb)
        | ((with_reducible refine (rule_nil _ _).mono ?_); rintro e w7 ⟨rfl, hw⟩; obtain rfl := hw.symm))
    | (go_at_call 20; (with_reducible refine (HC20.out _ (below_step HB6.out HB6C.out)).mono ?_); rintro e w7 ⟨aB, kb, rfl, hb⟩; have HB6C := Aside0.mk (below_step HB6C.out hb); clear hb)
    | (go_at_call 18; (with_reducible refine (HC18.out _ (below_step HB6.out HB6C.out)).mono ?_); rintro e w7 ⟨aR, kr, rfl, hb⟩; have HB6C := Aside0.mk (below_step HB6C.out hb); clear hb))
  go_ret
  exact ⟨rfl, below_step HW4.out (below_step HB6.out HB6C.out)⟩
end Go.Proofs.YtpagbjdmiepgmaaGreatDoor.PVpa
namespace Go.Proofs.YtpagbjdmiepgmaaGreatDoor.PVpa
open Go.RowKit Go.Proofs.YtpagbjdmiepgmaaGreatDoorW.PrintWords Go.Proofs.YtpagbjdmiepgmaaGreatDoorW.PrintLast Go.Proofs.YtpagbjdmiepgmaaGreatDoorW.PrintMore
theorem make_call (w : World) (A : Option Addr) (cl : Nat) (l : List (List Int)) (hl : (Kd.slice 3 (Kd.int .i64)).C w A l.length l) (hs : ∀ x ∈ l, x.length ≤ 1048576) :
    Calls Tryz.prog 7 #[.slice A l.length cl] w fun e w' => ∃ G At Ar ct cr, e = .returned (.agg #[.slice At G.f0.length ct, .slice Ar G.f1.length cr]) ∧ MakeOk l.length G ∧ GramR w' G At Ar ct cr ∧ Below w.heap.size w w' := by
  by_cases h3 : l.length ≤ 3
  · exact make4_call w A cl l h3 hl hs
  · exact make6_call w A cl l h3 hl hs
theorem told_true (w : World) (ho : Own w) : Calls Tryz.prog 24 #[] w fun e w' => e = .returned (.bool true) ∧ Below w.heap.size w w' :=
  told_call w ho (fun W => make_call W none 0 [] (Kd.C_nil _ _) (fun x hx => by cases hx))
end Go.Proofs.YtpagbjdmiepgmaaGreatDoor.PVpa
namespace Go.Proofs.YtpagbjdmiepgmaaGreatDoor.PVpa
open Go.RowKit Go.Proofs.YtpagbjdmiepgmaaGreatDoorW.PrintWords Go.Proofs.YtpagbjdmiepgmaaGreatDoorW.PrintLast Go.Proofs.YtpagbjdmiepgmaaGreatDoorW.PrintMore
structure Wide0 (M : Mach) : Prop where
  len : 0 < M.pl.length
  alike : Alike (M.pl.getD 0 zPl) widePl
  none_ : (M.pl.getD 0 zPl).follow = []
structure Toks4 (G : S26) : Prop where
  len : 3 < G.f0.length
  t0 : (tkAt G 0).f1 = 0
  t2 : (tkAt G 2).f1 = 1
  t3 : (tkAt G 3).f1 = 2
theorem MakeOk.toks4 {n : Nat} {G : S26} (h : MakeOk n G) : Toks4 G := by
  obtain ⟨a1, a2, hk, _⟩ := h.kind
  rcases hk with ⟨_, ht, _⟩ | ⟨_, ht, _⟩
  · exact ⟨by rw [ht]; decide, by unfold tkAt; rw [ht]; rfl, by unfold tkAt; rw [ht]; rfl, by unfold tkAt; rw [ht]; rfl⟩
  · exact ⟨by rw [ht]; decide, by unfold tkAt; rw [ht]; rfl, by unfold tkAt; rw [ht]; rfl, by unfold tkAt; rw [ht]; rfl⟩
section
variable {G : S26} {M : Mach}
theorem Wide0.pl (h : Wide0 M) : (plAt M.pl 0).kind = 0 ∧ (plAt M.pl 0).shape = none ∧ (plAt M.pl 0).p = z76 ∧ (plAt M.pl 0).follow = [] := ⟨h.alike.kind, h.alike.shape, h.alike.p, h.none_⟩
theorem Wide0.stays (h : Wide0 M) : staysB M 0 = true := by
  unfold staysB
  rw [h.pl.1]
  rfl
theorem Wide0.next (h : Wide0 M) : nextL M 0 = [] := by
  unfold nextL
  rw [if_neg (by rw [h.pl.1]; decide), h.pl.2.2.2]
theorem wide_rule (h : Wide0 M) : ruleI M 0 = -1 := by
  unfold ruleI
  rw [h.pl.2.1]
  split <;> rfl
theorem may_int (h : Wide0 M) (t : Toks4 G) : mayB G M 0 0 0 = true ∧ mayB G M 0 (-1) 0 = true ∧ mayB G M 0 2 0 = false ∧ mayB G M 0 2 1 = true ∧ mayB G M 0 3 2 = true := by
  have h1 := h.len
  have h2 := t.len
  unfold mayB
  rw [t.t0, t.t2, t.t3]
  refine ⟨?_, ?_, ?_, ?_, ?_⟩ <;> simp <;> omega
theorem wide_int (h : Wide0 M) (t : Toks4 G) : intL G M 0 0 = [0] ∧ intL G M 0 (-1) = [0] ∧ intL G M 0 2 = [] := by
  obtain ⟨h1, h2, h3, _⟩ := may_int h t
  unfold intL
  rw [h1, h2, h3, h.stays]
  exact ⟨rfl, rfl, rfl⟩
theorem wide_bottom (h : Wide0 M) : bottomL G M 0 3 = [] := by
  unfold bottomL
  rw [if_neg (by rw [h.pl.1]; intro e; exact absurd e.2 (by decide))]
theorem wide_ret (h : Wide0 M) (t : Toks4 G) : retL G M 0 0 3 = [0] := by
  unfold retL
  rw [if_pos ⟨(may_int h t).2.2.2.2, by decide, by have := h.len; omega, by unfold retB; rw [h.stays]; rfl⟩]
theorem wide_raw (h : Wide0 M) : rawC G M 0 2 = [(0, 0)] := by
  unfold rawC callA callB callD
  rw [h.stays, h.pl.1, h.pl.2.1, h.next]
  rfl
theorem wide_call (h : Wide0 M) (t : Toks4 G) : callL G M 0 2 = [(0, 0)] := by
  unfold callL
  rw [if_pos (may_int h t).2.2.2.1, wide_raw h]
  exact List.mergeSort_of_pairwise (by decide)
theorem wide_nodup (h : Wide0 M) : (rawC G M 0 2).Nodup := by rw [wide_raw h]; decide
end
end Go.Proofs.YtpagbjdmiepgmaaGreatDoor.PVpa
namespace Go.Proofs.YtpagbjdmiepgmaaGreatDoor.PVpa
open Go.RowKit Go.Proofs.YtpagbjdmiepgmaaGreatDoorW.PrintWords Go.Proofs.YtpagbjdmiepgmaaGreatDoorW.PrintLast Go.Proofs.YtpagbjdmiepgmaaGreatDoorW.PrintMore
def From (m : Nat) (l : List Int) : Prop := ∀ x ∈ l, (m : Int) ≤ x
theorem From.both {m : Nat} {a b : List Int} (h : From m a) (k : From m b) : From m (bothL a b) := fun x hx => (mem_bothL hx).elim (h x) (k x)
theorem From.one {m n : Nat} (h : m ≤ n) : From m [(n : Int)] := fun x hx => by simp at hx; omega
theorem From.none_ (m : Nat) : From m [] := fun x hx => by cases hx
structure Fo (m : Nat) (s s' : St) : Prop where
  len : m ≤ s'.pl.length
  same : ∀ q, q < m → (s'.pl.getD q zPl).follow = (s.pl.getD q zPl).follow
theorem Fo.refl {m : Nat} {s : St} (h : m ≤ s.pl.length) : Fo m s s := ⟨h, fun _ _ => rfl⟩
theorem Fo.trans {m : Nat} {a b c : St} (h : Fo m a b) (k : Fo m b c) : Fo m a c := ⟨k.len, fun q hq => (k.same q hq).trans (h.same q hq)⟩
theorem Fo.add {m : Nat} {a s : St} (h : Fo m a s) (x : Pl) : Fo m a (s.add x) := by
  refine ⟨by show m ≤ (s.pl ++ [x]).length; rw [List.length_append]; have := h.len; omega, fun q hq => ?_⟩
  show ((s.pl ++ [x]).getD q zPl).follow = _
  rw [getD_add, if_neg (by have := h.len; omega)]
  exact h.same q hq
theorem set_follow (pl : List Pl) (k q : Nat) (x : Pl) (h : k ≠ q) : ((pl.set k x).getD q zPl).follow = (pl.getD q zPl).follow := by
  rw [List.getD_eq_getElem?_getD, List.getElem?_set_ne h, ← List.getD_eq_getElem?_getD]
theorem linkK_follow (pl : List Pl) (tt frm : List Int) (m q : Nat) (hq : q < m) (hf : From m frm) : ∀ k, k ≤ frm.length → ((linkK pl tt frm k).getD q zPl).follow = (pl.getD q zPl).follow
  | 0, _ => rfl
  | k + 1, hk => by
    show ((linkOne (linkK pl tt frm k) tt (rd frm k).toNat).getD q zPl).follow = _
    have h1 : (m : Int) ≤ rd frm k := by
      refine hf _ ?_
      unfold rd
      rw [Int.toNat_natCast, List.getD_eq_getElem?_getD, List.getElem?_eq_getElem (by omega)]
      exact List.getElem_mem (by omega)
    unfold linkOne
    rw [set_follow _ _ _ _ (by omega)]
    exact linkK_follow pl tt frm m q hq hf k (by omega)
theorem Fo.link {m : Nat} {a s : St} (h : Fo m a s) {frm tt : List Int} (hf : From m frm) : Fo m a (s.link frm tt) := by
  refine ⟨by show m ≤ (linkL s.pl frm tt).length; unfold linkL; rw [linkK_length]; exact h.len, fun q hq => ?_⟩
  show ((linkL s.pl frm tt).getD q zPl).follow = _
  unfold linkL
  rw [linkK_follow _ _ _ m q hq hf _ (Nat.le_refl _)]
  exact h.same q hq
theorem Fo.inner {m : Nat} {a s : St} (h : Fo m a s) (k b : Nat) (hk : m ≤ k) : Fo m a (s.inner k b) := by
  refine ⟨by show m ≤ (s.pl.set k _).length; rw [List.length_set]; exact h.len, fun q hq => ?_⟩
  show ((s.pl.set k _).getD q zPl).follow = _
  rw [set_follow _ _ _ _ (by omega)]
  exact h.same q hq
theorem Fo.close {m : Nat} {a s : St} (h : Fo m a s) (b : Nat) (x : Sx) (rule step : Int) : Fo m a (s.close b x rule step) := ⟨h.len, h.same⟩
def WFo (n : Nat) : Prop := ∀ (m b : Nat) (p : S76) (s : St), m ≤ s.pl.length → Fo m s (walkP n b p s).2 ∧ From m (walkP n b p s).1.first ∧ From m (walkP n b p s).1.last
theorem patW_fo {n : Nat} (ih : WFo n) (p : S76) (rule step : Int) (m : Nat) (s : St) (h : m ≤ s.pl.length) : Fo m s (patW (walkP n) p rule step s) := by
  have h1 := (Fo.refl h).add (beginPl s.pl.length)
  exact (h1.trans (ih m s.pl.length p (s.add (beginPl s.pl.length)) h1.len).1).close _ _ _ _
theorem item1_fo {b : Nat} (p : S76) {m : Nat} {s : St} (h : m ≤ s.pl.length) : Fo m s (item1 b p s) := by
  unfold item1
  split
  · exact ((Fo.refl h).add _).link (From.one h)
  · exact (Fo.refl h).add _
theorem walk_fo : ∀ n, WFo n
  | 0 => fun m b p s h => ⟨Fo.refl h, From.none_ m, From.none_ m⟩
  | n + 1 => fun m b p s h => by
    have ih := walk_fo n
    unfold walkP
    split
    · refine ⟨?_, From.one h, From.one h⟩
      unfold itemW
      have h1 := item1_fo (b := b) p h
      split
      · exact (h1.trans (patW_fo ih _ _ _ m _ h1.len)).inner _ _ h
      · exact h1
    · have i1 := ih m b (rd_T76 p.f3 0) s h
      have i2 := ih m b (rd_T76 p.f3 1) _ i1.1.len
      split
      · refine ⟨(i1.1.trans i2.1).link i1.2.2, ?_, ?_⟩
        · show From m (if _ then _ else _)
          split
          · exact i1.2.1.both i2.2.1
          · exact i1.2.1
        · show From m (if _ then _ else _)
          split
          · exact i1.2.2.both i2.2.2
          · exact i2.2.2
      · split
        · exact ⟨i1.1.trans i2.1, i1.2.1.both i2.2.1, i1.2.2.both i2.2.2⟩
        · split
          · exact ⟨i1.1.link i1.2.2, i1.2.1, i1.2.2⟩
          · exact ⟨Fo.refl h, From.none_ m, From.none_ m⟩
theorem stepsB_fo (D : Nat) (i : Int) (r : S52) (m : Nat) (s : St) (h : m ≤ s.pl.length) : ∀ n, Fo m s (stepsB D i r s n).1
  | 0 => Fo.refl h
  | n + 1 => by
    have ih := stepsB_fo D i r m s h n
    exact ih.trans (patW_fo (walk_fo D) _ _ _ m _ ih.len)
end Go.Proofs.YtpagbjdmiepgmaaGreatDoor.PVpa
namespace Go.Proofs.YtpagbjdmiepgmaaGreatDoor.PVpa
open Go.RowKit Go.Proofs.YtpagbjdmiepgmaaGreatDoorW.PrintWords Go.Proofs.YtpagbjdmiepgmaaGreatDoorW.PrintLast Go.Proofs.YtpagbjdmiepgmaaGreatDoorW.PrintMore
theorem free1_fo (i : Int) (r : S52) {m : Nat} {s : St} (h : m ≤ s.pl.length) : Fo m s (free1 i r s) := by
  unfold free1
  split
  · exact (Fo.refl h).add _
  · exact Fo.refl h
theorem build_fo (D : Nat) (G : S26) : ∀ i, 1 ≤ (buildK D G i).st.pl.length ∧ ((buildK D G i).st.pl.getD 0 zPl).follow = []
  | 0 => ⟨Nat.le_refl _, rfl⟩
  | i + 1 => by
    obtain ⟨h1, h2⟩ := build_fo D G i
    have f1 := free1_fo (i : Int) (rlAt G i) h1
    have f2 := f1.trans (stepsB_fo D i (rlAt G i) 1 _ f1.len (rlAt G i).f2.length)
    exact ⟨f2.len, (f2.same 0 (by decide)).trans h2⟩
theorem build_wide (D : Nat) (G : S26) (n : Nat) : Wide0 (buildK D G n).mach := ⟨(built D G n).front.1, (built D G n).front.2, (build_fo D G n).2⟩
theorem frees_at (D : Nat) (G : S26) (i : Nat) : ∀ n, i < n → (buildK D G n).frees.getD i 0 = freeN (rlAt G i) (buildK D G i).st
  | 0, h => by omega
  | n + 1, h => by
    show ((buildK D G n).frees ++ [freeN (rlAt G n) (buildK D G n).st]).getD i 0 = _
    rw [getD_app]
    have hn := (built D G n).n2
    by_cases e : i = n
    · rw [if_pos (by omega), e]
    · rw [if_neg (by omega)]
      exact frees_at D G i n (by omega)
theorem steps_at (D : Nat) (G : S26) (i : Nat) : ∀ n, i < n → (buildK D G n).steps.getD i [] = (stepsB D i (rlAt G i) (free1 i (rlAt G i) (buildK D G i).st) (rlAt G i).f2.length).2
  | 0, h => by omega
  | n + 1, h => by
    show ((buildK D G n).steps ++ [(stepsB D n (rlAt G n) (free1 n (rlAt G n) (buildK D G n).st) (rlAt G n).f2.length).2]).getD i [] = _
    rw [getD_app]
    have hn := (built D G n).n1
    by_cases e : i = n
    · rw [if_pos (by omega), e]
    · rw [if_neg (by omega)]
      exact steps_at D G i n (by omega)
theorem stepsB_first (D : Nat) (i : Int) (r : S52) (s : St) : ∀ k, 1 ≤ k → (stepsB D i r s k).2.getD 0 0 = s.pl.length
  | 0, h => by omega
  | k + 1, _ => by
    show ((stepsB D i r s k).2 ++ [(stepsB D i r s k).1.pl.length]).getD 0 0 = _
    rw [getD_app]
    have hl := stepsB_len D i r s k
    by_cases e : k = 0
    · subst e; rfl
    · rw [if_neg (by omega)]
      exact stepsB_first D i r s k (by omega)
theorem buildN_rises (D : Nat) (G : S26) (i : Nat) (h : 1 ≤ (rlAt G i).f2.length) : buildN D G i < buildN D G (i + 1) := by
  show buildN D G i < buildN D G i + ((if (rlAt G i).f1 = true then 1 else 0) + stepsN D (rlAt G i) (rlAt G i).f2.length)
  have := stepsN_ge D (rlAt G i) (rlAt G i).f2.length
  omega
theorem buildN_pos (D : Nat) (G : S26) : ∀ i, 1 ≤ buildN D G i
  | 0 => Nat.le_refl _
  | i + 1 => Nat.le_trans (buildN_pos D G i) (Nat.le_add_right _ _)
end Go.Proofs.YtpagbjdmiepgmaaGreatDoor.PVpa
namespace Go.Proofs.YtpagbjdmiepgmaaGreatDoor.PVpa
open Go.RowKit Go.Proofs.YtpagbjdmiepgmaaGreatDoorW.PrintWords Go.Proofs.YtpagbjdmiepgmaaGreatDoorW.PrintLast Go.Proofs.YtpagbjdmiepgmaaGreatDoorW.PrintMore
variable {D n i : Nat} {G : S26}
theorem headD_getD (l : List Nat) : l.headD 0 = l.getD 0 0 := by cases l <;> rfl
theorem steps_head (hi : i < n) (h1 : 1 ≤ (rlAt G i).f2.length) (hf : (rlAt G i).f1 = false) : ((buildK D G n).steps.getD i []).headD 0 = buildN D G i := by
  rw [headD_getD, steps_at D G i n hi, stepsB_first D i (rlAt G i) _ _ h1, ← (buildK_good D G i).2]
  unfold free1
  rw [if_neg (by rw [hf]; decide)]
theorem start_place (hi : i < n) (h1 : 1 ≤ (rlAt G i).f2.length) : startAt (buildK D G n).mach i = buildN D G i := by
  unfold startAt
  have hr : rd (buildK D G n).mach.frees (i : Int) = freeN (rlAt G i) (buildK D G i).st := by
    unfold rd
    rw [Int.toNat_natCast]
    exact frees_at D G i n hi
  rw [hr]
  cases hf : (rlAt G i).f1 with
  | true =>
    have e : freeN (rlAt G i) (buildK D G i).st = (buildK D G i).st.pl.length := by unfold freeN; rw [if_pos hf]
    rw [e, if_neg (by omega), (buildK_good D G i).2]
  | false =>
    have e : freeN (rlAt G i) (buildK D G i).st = -1 := by unfold freeN; rw [if_neg (by rw [hf]; decide)]
    rw [e, if_pos (by decide)]
    show (((((buildK D G n).steps.getD i []).headD 0 : Nat)) : Int) = _
    rw [steps_head hi h1 hf]
theorem start_kind (hi : i < n) (h1 : 1 ≤ (rlAt G i).f2.length) : (((plAt (buildK D G n).mach.pl (buildN D G i)).kind = 1) ↔ (rlAt G i).f1 = true) ∧ buildN D G i < (buildK D G n).st.pl.length := by
  have hb := built D G n
  cases hf : (rlAt G i).f1 with
  | true =>
    have e : (buildK D G n).frees.getD i 0 = buildN D G i := by
      rw [frees_at D G i n hi]
      unfold freeN
      rw [if_pos hf, (buildK_good D G i).2]
    rcases hb.frees i hi with h | ⟨_, h3, h4⟩
    · rw [e] at h; omega
    · rw [e] at h3 h4
      refine ⟨⟨fun _ => rfl, fun _ => ?_⟩, by omega⟩
      exact h4.kind
  | false =>
    have hm : buildN D G i ∈ (buildK D G n).steps.getD i [] := by
      have hl := build_rows D G n i hi
      rw [← steps_head hi h1 hf]
      match hc : (buildK D G n).steps.getD i [] with
      | [] => rw [hc] at hl; simp at hl; omega
      | k :: r => exact List.mem_cons_self
    obtain ⟨_, h3, h4⟩ := hb.fin i _ hm
    refine ⟨⟨fun hk => ?_, fun h => by cases h⟩, h3⟩
    have h5 := h4.kind
    unfold plAt at hk
    rw [Int.toNat_natCast] at hk
    have h6 : (1 : Int) = 2 := hk.symm.trans h5
    omega
theorem start_bottom (t : Toks4 G) (hi : i < n) (h1 : 1 ≤ (rlAt G i).f2.length) : (bottomL G (buildK D G n).mach (buildN D G i) 3).length = if (rlAt G i).f1 = true then 1 else 0 := by
  obtain ⟨hk, hl⟩ := start_kind (D := D) hi h1
  have hm : mayB G (buildK D G n).mach (buildN D G i) 3 2 = true := by
    have h2 := t.len
    unfold mayB
    rw [t.t3]
    have h3 : ((buildN D G i : Nat) : Int) < ((buildK D G n).mach.pl.length : Int) := by
      have : (buildK D G n).mach.pl.length = (buildK D G n).st.pl.length := rfl
      omega
    simp
    omega
  unfold bottomL
  by_cases hf : (rlAt G i).f1 = true
  · rw [if_pos ⟨hm, hk.2 hf⟩, if_pos hf]; rfl
  · rw [if_neg (fun e => hf (hk.1 e.2)), if_neg hf]; rfl
end Go.Proofs.YtpagbjdmiepgmaaGreatDoor.PVpa
namespace Go
section
variable {P : Program} {ops : Array Oper} {md : Region.Mode}
def growgB (md : Region.Mode) (ops : Array Oper) (m N : Nat) (deps : Nat → List Nat) : Bool :=
  Region.noSelect ops && decide (m ≤ ops.size) &&
  (List.range m).all (fun i =>
    (match ops[i]? with
      | some o => o.after.all fun e => !Region.binds md e || decide (e.on < i)
      | none => false)
    && ((deps i).all fun k => decide (k < m) && Region.waitsFor md ops i k)
    && ((looks ops i).all fun t => ((deps i).any fun j => dstOf ops j == some t) || ((List.range m).all fun j => dstOf ops j != some t || j == i || Region.waitsFor md ops j i))
    && (match dstOf ops i with | some d => decide (d < N) | none => true)
    && ((List.range m).all fun j => j == i || (dstOf ops i).isNone || dstOf ops j != dstOf ops i))
  && (decide (m = ops.size) || (Region.sinkB md ops m && Region.chainB md ops m))
section main
variable {Q : Exit → Act → World → Prop} {a0 : Act} {w0 : World} {m N : Nat} {deps : Nat → List Nat} {Φ : Nat → List Value → World → Prop} {R : World → World → Prop}
theorem growg_go (hB : growgB md ops m N deps = true) (hT : Region.seqB md ops (ops.size - m) m (headOnly m ops.size) = true) (hN : a0.tmps.size = N) (hRt : ∀ w w1 w2, R w w1 → R w1 w2 → R w w2)
    (stab : ∀ i vs w w', Φ i vs w → R w w' → Φ i vs w')
    (step : ∀ i o, i < m → ops[i]? = some o → ∀ (vals : Nat → Value) W, R w0 W → (∀ j ∈ deps i, Φ j ((j :: deps j).map vals) W) →
      ∀ K : Act → World → Prop, (∀ v w', R W w' → Φ i (v :: (deps i).map vals) w' → K ((acan ops a0 vals (deps i)).put o.dst v) w') → if Region.wanted o (yielded ops (acan ops a0 vals (deps i)).tmps) = true then Oper.wp P o (acan ops a0 vals (deps i)) W K (fun _ _ _ => False) else K ((acan ops a0 vals (deps i)).put o.dst undef) W)
    (fin : ∀ (vals : Nat → Value) W, R w0 W → (∀ j, j < m → Φ j ((j :: deps j).map vals) W) → wpList P ops Q (ops.toList.drop m) (acan ops a0 vals (List.range m)) W) :
    ∀ k listed a w vals, cntL listed m = k → GInv md ops m a0 deps Φ R w0 listed a vals w → wpAny P md ops Q (ops.size - m + k) listed a w := by
  simp only [growgB, Bool.and_eq_true, Bool.or_eq_true, decide_eq_true_eq] at hB
  obtain ⟨⟨⟨hsel, hms⟩, hall⟩, hsink⟩ := hB
  simp only [Bool.and_eq_true, List.all_eq_true, List.mem_range, decide_eq_true_eq] at hall
  have hdst : ∀ j, j < m → ∀ e, dstOf ops j = some e → e < a0.tmps.size := fun j hj e he => by
    have := (hall j hj).1.2
    rw [he] at this
    rw [hN]
    simpa using this
  have hdis : ∀ i j, i < m → j < m → ∀ t, dstOf ops i = some t → dstOf ops j = some t → j = i := fun i j hi hj t h1 h2 => by
    have := (hall i hi).2 j hj
    simp only [Bool.or_eq_true, beq_iff_eq, bne_iff_ne, ne_eq, h1, h2, Option.isNone_some, Bool.false_eq_true, or_false, not_true_eq_false] at this
    exact this
  intro k
  induction k with
  | zero =>
    intro listed a w vals hc inv
    have hl := cntL_zero m hc
    have e1 : listed = headOnly m ops.size := by
      apply Array.ext
      · simp [headOnly, inv.lsize]
      · intro i h1 h2
        have hi : i < ops.size := by rw [← inv.lsize]; exact h1
        simp only [headOnly, Array.getElem_map, Array.getElem_range]
        by_cases him : i < m
        · have := hl i him
          simp [h1] at this
          rw [this, decide_eq_true him]
        · have := inv.tail i (by omega) hi
          simp [h1] at this
          rw [this, decide_eq_false him]
    have e2 : a = acan ops a0 vals (List.range m) := by
      refine Act.ext' (by rw [acan_size]; exact inv.size) (by rw [acan_defers]; exact inv.defers) (fun t => ?_)
      have hg := acan_get (ops := ops) a0 vals t (List.range m) (fun j hj => hdst j (List.mem_range.1 hj))
      by_cases hx : ∃ j, j < m ∧ dstOf ops j = some t
      · obtain ⟨j, hj, hd⟩ := hx
        rw [hg.1 j (List.mem_range.2 hj) hd (fun i hi hd2 => hdis j i hj (List.mem_range.1 hi) t hd hd2)]
        exact inv.done j hj (hl j hj) t hd
      · rw [hg.2 (fun j hj hd => hx ⟨j, List.mem_range.1 hj, hd⟩)]
        exact inv.open_ t (fun j hj _ hd => hx ⟨j, hj, hd⟩)
    rw [e1, e2]
    have hlen : (ops.toList.drop m).length = ops.size - m := by simp
    have h3 := wpAny_of_seq (P := P) (md := md) (ops := ops) (Q' := Q) (ops.toList.drop m) m (headOnly m ops.size) (acan ops a0 vals (List.range m)) w (fun j => by simp) (by rw [hlen]; exact hT) (fin vals w inv.rel (fun j hj => inv.facts j hj (hl j hj)))
    rw [hlen] at h3
    exact h3
  | succ k ih =>
    intro listed a w vals hc inv
    obtain ⟨j0, hj0, hu0, hb0⟩ := cntL_least m (by omega : cntL listed m ≠ 0)
    have hin : ∀ i, i < ops.size → listed.getD i true = true → listed.getD i false = true := fun i hi h => by
      have : i < listed.size := by rw [inv.lsize]; exact hi
      simp [this] at h ⊢
      exact h
    refine ⟨fun h0 => ?_, fun i hi => ?_⟩
    · have hr : j0 ∈ Region.ready md ops listed := by
        have h1 := (hall j0 hj0).1.1.1.1
        cases ho : ops[j0]? with
        | none => rw [ho] at h1; cases h1
        | some o =>
          rw [ho] at h1
          simp only [Array.all_eq_true_iff_forall_mem] at h1
          refine mem_ready.2 ⟨hu0, o, ho, fun e he hb => ?_⟩
          have h2 := h1 e he
          rw [hb] at h2
          simp at h2
          exact hin _ (by omega) (hb0 _ h2)
      rw [h0] at hr
      cases hr
    · obtain ⟨hui, o, ho, hafter⟩ := mem_ready.1 hi
      have him : i < m := by
        rcases Nat.lt_or_ge i m with h | h
        · exact h
        · exfalso
          have his : i < ops.size := (Array.getElem?_eq_some_iff.1 ho).1
          rcases hsink with h2 | ⟨hs1, hs2⟩
          · omega
          · have hinv : HeadInv md ops m listed := ⟨inv.lsize, fun j oj hj hl e he hb => ?_, inv.tail⟩
            · exact tail_waits hs1 hs2 (by omega) hinv (m - j0) j0 rfl hj0 hu0 i h hi
            · have hjs : j < ops.size := (Array.getElem?_eq_some_iff.1 hj).1
              have hl2 : listed.getD j true = true := by
                have : j < listed.size := by rw [inv.lsize]; exact hjs
                simp [this] at hl ⊢
                exact hl
              rcases Nat.lt_or_ge j m with hjm | hjm
              · refine inv.closed j hjm hl2 e.on ?_
                unfold Region.waitsFor
                rw [hj]
                exact Array.any_eq_true'.2 ⟨e, he, by simp [hb]⟩
              · have := inv.tail j hjm hjs
                rw [hl2] at this
                cases this
      have hfact := hall i him
      have hdl : ∀ j ∈ deps i, j < m ∧ listed.getD j true = true := fun j hj => by
        obtain ⟨h2, h3⟩ := hfact.1.1.1.2 j hj
        refine ⟨h2, ?_⟩
        have h4 := waits_listed hi h3
        cases hb : listed.getD j true with
        | true => rfl
        | false => have := getD_both hb; rw [h4] at this; cases this
      have hdo : dstOf ops i = o.dst := by unfold dstOf; rw [ho]; rfl
      have hlk : looks ops i = o.looksAt ops := by unfold looks; rw [ho]
      have hsame : ∀ t ∈ o.looksAt ops, a.tmps.getD t undef = (acan ops a0 vals (deps i)).tmps.getD t undef := fun t ht => by
        have h1 := hfact.1.1.2
        rw [hlk] at h1
        have h1 := h1 t ht
        simp only [Bool.or_eq_true, List.any_eq_true, List.all_eq_true, beq_iff_eq, bne_iff_ne, ne_eq, List.mem_range] at h1
        have hg := acan_get (ops := ops) a0 vals t (deps i) (fun j hj => hdst j (hdl j hj).1)
        rcases h1 with ⟨j, hj, hd⟩ | h2
        · rw [hg.1 j hj hd (fun k hk hd2 => hdis j k (hdl j hj).1 (hdl k hk).1 t hd hd2)]
          exact inv.done j (hdl j hj).1 (hdl j hj).2 t hd
        · have hno : ∀ j, j < m → listed.getD j true = true → dstOf ops j ≠ some t := fun j hj hlj hd => by
            rcases h2 j hj with (h3 | h3) | h3
            · exact h3 hd
            · subst h3; rw [hui] at hlj; cases hlj
            · have h5 := inv.closed j hj hlj i h3
              have h4 := getD_both hui
              rw [h5] at h4
              cases h4
          rw [inv.open_ t hno, hg.2 (fun j hj => hno j (hdl j hj).1 (hdl j hj).2)]
      have hsz : a.tmps.size = (acan ops a0 vals (deps i)).tmps.size := by rw [acan_size]; exact inv.size
      have hwant : Region.wanted o (yielded ops a.tmps) = Region.wanted o (yielded ops (acan ops a0 vals (deps i)).tmps) := by
        unfold Region.wanted
        cases hg : o.guard with
        | none => rfl
        | some g =>
          obtain ⟨g, b⟩ := g
          have hy : yielded ops a.tmps g = yielded ops (acan ops a0 vals (deps i)).tmps g := by
            unfold yielded
            cases hd : (ops[g]?).bind (·.dst) with
            | none => rfl
            | some t =>
              have h1 := hsame t (List.mem_append_right _ (by rw [hg]; simp [hd]))
              have h2 : a.tmps[t]? = (acan ops a0 vals (deps i)).tmps[t]? := by
                by_cases ht : t < a.tmps.size
                · have ht2 : t < (acan ops a0 vals (deps i)).tmps.size := by rw [← hsz]; exact ht
                  simpa [ht, ht2] using h1
                · rw [Array.getElem?_eq_none (Nat.not_lt.1 ht), Array.getElem?_eq_none (by rw [← hsz]; exact Nat.not_lt.1 ht)]
              simp only [Option.bind_some, h2]
          simp only [hy]
      have hnot : i ∉ deps i := fun h => by
        have := (hdl i h).2
        rw [hui] at this
        cases this
      have hst := step i o him ho vals w inv.rel (fun j hj => inv.facts j (hdl j hj).1 (hdl j hj).2)
        (fun a' w' => ∃ v, a' = (acan ops a0 vals (deps i)).put o.dst v ∧ R w w' ∧ Φ i (v :: (deps i).map vals) w') (fun v w' h1 h2 => ⟨v, rfl, h1, h2⟩)
      have hev : execOp a.eval o = execOp (acan ops a0 vals (deps i)).eval o := execOp_congr o (fun cs b => Region.noSelect_spec hsel i o cs b ho) (fun x hx => by
        cases x with
        | tmp t => exact hsame t (List.mem_append_left _ (List.mem_filterMap.2 ⟨.tmp t, by simpa using hx, rfl⟩))
        | _ => rfl)
      have cont : ∀ v w', R w w' ∧ Φ i (v :: (deps i).map vals) w' → wpAny P md ops Q (ops.size - m + k) (listed.setIfInBounds i true) (a.put o.dst v) w' := ?cont
      unfold wpOp
      simp only [ho]
      rw [hwant]
      split at hst
      · rename_i hw
        rw [if_pos hw]
        exact .inl (wp_transfer hev (fun e he => by rw [acan_size]; exact hdst i him e (hdo.trans he)) (by rw [acan_defers]; exact inv.defers) cont hst)
      · rename_i hw
        rw [if_neg hw]
        obtain ⟨v, he, h⟩ := hst
        rw [put_inj he (fun e he => by rw [acan_size]; exact hdst i him e (hdo.trans he)) a]
        exact cont v w h
      rintro v w' ⟨hR, hΦ⟩
      have hmap : ∀ l : List Nat, i ∉ l → l.map (fun j => if j = i then v else vals j) = l.map vals := fun l hl => List.map_congr_left (fun j hj => if_neg (fun e : j = i => hl (by rw [← e]; exact hj)))
      have his : i < listed.size := by rw [inv.lsize]; exact (Array.getElem?_eq_some_iff.1 ho).1
      have hset : ∀ j, (listed.setIfInBounds i true).getD j true = true → j ≠ i → listed.getD j true = true := fun j hj hne => by
        rw [getD_set_ne true (fun e => hne e.symm)] at hj
        exact hj
      refine ih (listed.setIfInBounds i true) (a.put o.dst v) w' (fun j => if j = i then v else vals j) ?_ ⟨?_, ?_, ?_, ?_, ?_, ?_, ?_, ?_, ?_⟩
      · have := cntL_set hui m
        rw [if_pos him] at this
        omega
      · rw [put_size]; exact inv.size
      · rw [put_defers]; exact inv.defers
      · simp [inv.lsize]
      · intro j hj hlj d hd
        rw [put_get _ _ _ _ (fun e he => by rw [inv.size]; exact hdst i him e (hdo.trans he))]
        by_cases hji : j = i
        · subst hji
          rw [if_pos (hdo.symm.trans hd), if_pos rfl]
        · rw [if_neg (fun h => hji (hdis i j him hj d (hdo.trans h) hd)), if_neg hji]
          exact inv.done j hj (hset j hlj hji) d hd
      · intro t ht
        have hti := ht i him (by simp [his])
        rw [put_get _ _ _ _ (fun e he => by rw [inv.size]; exact hdst i him e (hdo.trans he)), if_neg (fun h => hti (hdo.trans h))]
        refine inv.open_ t (fun j hj hlj => ?_)
        by_cases hji : j = i
        · subst hji; exact hti
        · exact ht j hj (by rw [getD_set_ne true (fun e => hji e.symm)]; exact hlj)
      · intro j hj hlj
        by_cases hji : j = i
        · subst hji
          have e : (j :: deps j).map (fun k => if k = j then v else vals k) = v :: (deps j).map vals := by
            rw [List.map_cons, if_pos rfl, hmap _ hnot]
          rw [e]
          exact hΦ
        · have hlj' := hset j hlj hji
          rw [hmap (j :: deps j) (fun h => by
            rcases List.mem_cons.1 h with h | h
            · exact hji h.symm
            · have h2 := inv.closed j hj hlj' i ((hall j hj).1.1.1.2 i h).2
              have h4 := getD_both hui
              rw [h2] at h4
              cases h4)]
          exact stab _ _ _ _ (inv.facts j hj hlj') hR
      · exact hRt _ _ _ inv.rel hR
      · intro t ht ht2
        rw [getD_set_ne true (by omega)]
        exact inv.tail t ht ht2
      · intro j hj hlj k hk
        by_cases hki : k = i
        · subst hki; simp [his]
        · rw [getD_set_ne false (fun e => hki e.symm)]
          by_cases hji : j = i
          · subst hji
            exact waits_listed hi hk
          · exact inv.closed j hj (hset j hlj hji) k hk
end main
theorem wp_region_growg {id : Nat} {Q : Exit → Act → World → Prop} {a0 : Act} {w : World} {l : List Oper} (m N : Nat) (deps : Nat → List Nat) (Φ : Nat → List Value → World → Prop) (R : World → World → Prop)
    (hm : P.follows .mixedOrders = true) (hB : growgB .any l.toArray m N deps = true) (hT : Region.seqB .any l.toArray (l.toArray.size - m) m (headOnly m l.toArray.size) = true) (hN : a0.tmps.size = N)
    (hRr : ∀ w, R w w) (hRt : ∀ w w1 w2, R w w1 → R w1 w2 → R w w2) (stab : ∀ i vs w w', Φ i vs w → R w w' → Φ i vs w')
    (step : ∀ i o, i < m → l.toArray[i]? = some o → ∀ (vals : Nat → Value) W, R w.drew W → (∀ j ∈ deps i, Φ j ((j :: deps j).map vals) W) →
      ∀ K : Act → World → Prop, (∀ v w', R W w' → Φ i (v :: (deps i).map vals) w' → K ((acan l.toArray a0 vals (deps i)).put o.dst v) w') → if Region.wanted o (yielded l.toArray (acan l.toArray a0 vals (deps i)).tmps) = true then Oper.wp P o (acan l.toArray a0 vals (deps i)) W K (fun _ _ _ => False) else K ((acan l.toArray a0 vals (deps i)).put o.dst undef) W)
    (fin : ∀ (vals : Nat → Value) W, R w.drew W → (∀ j, j < m → Φ j ((j :: deps j).map vals) W) → wpList P l.toArray Q (l.drop m) (acan l.toArray a0 vals (List.range m)) W) :
    (Code.region id l.toArray true).wp P Q a0 w := by
  refine wp_region_any hm ?_
  have hms : m ≤ l.toArray.size := by
    simp only [growgB, Bool.and_eq_true, decide_eq_true_eq] at hB
    exact hB.1.1.2
  have h0 : ∀ j, j < l.toArray.size → (Array.replicate l.toArray.size false).getD j true = false := fun j hj => getD_in (by simpa using hj) (getD_replicate_false _ _)
  have hc : cntL (Array.replicate l.toArray.size false) m = m := by
    have : ∀ n, n ≤ l.toArray.size → cntL (Array.replicate l.toArray.size false) n = n := fun n => by
      induction n with
      | zero => intro _; rfl
      | succ n ih => intro hn; unfold cntL; rw [ih (by omega), h0 n (by omega)]; rfl
    exact this m hms
  have h := growg_go (P := P) (md := .any) (ops := l.toArray) (Q := Q) (a0 := a0) (w0 := w.drew) (m := m) (N := N) (deps := deps) (Φ := Φ) (R := R) hB hT hN hRt stab step (by simpa using fin) m (Array.replicate l.toArray.size false) a0 w.drew (fun _ => undef) hc
    ⟨rfl, rfl, by simp, (fun j hj hl => by rw [h0 j (by omega)] at hl; exact absurd hl (by decide)), (fun t _ => rfl), (fun j hj hl => by rw [h0 j (by omega)] at hl; exact absurd hl (by decide)), hRr _, (fun t ht ht2 => h0 t ht2), (fun j hj hl => by rw [h0 j (by omega)] at hl; exact absurd hl (by decide))⟩
  have e : l.toArray.size - m + m = l.toArray.size := by omega
  rw [e] at h
  exact h
def DoesG (P : Program) (ops : Array Oper) (o : Oper) (a : Act) (W : World) (T : Value → World → Prop) : Prop := ∀ K : Act → World → Prop, (∀ v w', T v w' → K (a.put o.dst v) w') → if Region.wanted o (yielded ops a.tmps) = true then Oper.wp P o a W K (fun _ _ _ => False) else K (a.put o.dst undef) W
theorem doesg_yes {o : Oper} {a : Act} {W : World} {T : Value → World → Prop} (hw : Region.wanted o (yielded ops a.tmps) = true) (h : Does P o a W T) : DoesG P ops o a W T := fun K hK => by
  rw [if_pos hw]
  exact h K hK
theorem doesg_no {o : Oper} {a : Act} {W : World} {T : Value → World → Prop} (hw : Region.wanted o (yielded ops a.tmps) = false) (h : T undef W) : DoesG P ops o a W T := fun K hK => by
  rw [if_neg (by rw [hw]; decide)]
  exact hK undef W h
theorem doesg_open {o : Oper} {a : Act} {W : World} {T : Value → World → Prop} (hg : o.guard = none) (h : Does P o a W T) : DoesG P ops o a W T := doesg_yes (by unfold Region.wanted; rw [hg]) h
theorem wp_region_makesg {id : Nat} {Q : Exit → Act → World → Prop} {a0 : Act} {w : World} {l : List Oper} (m N : Nat) (deps : Nat → List Nat) (Φ : Nat → List Value → World → Prop) (R : World → World → Prop)
    (hm : P.follows .mixedOrders = true) (hB : growgB .any l.toArray m N deps = true) (hT : Region.seqB .any l.toArray (l.toArray.size - m) m (headOnly m l.toArray.size) = true) (hN : a0.tmps.size = N)
    (hRr : ∀ w, R w w) (hRt : ∀ w w1 w2, R w w1 → R w1 w2 → R w w2) (stab : ∀ i vs w w', Φ i vs w → R w w' → Φ i vs w')
    (steps : AllSteps (fun i o => ∀ (vals : Nat → Value) W, R w.drew W → (∀ j ∈ deps i, Φ j ((j :: deps j).map vals) W) → DoesG P l.toArray o (acan l.toArray a0 vals (deps i)) W (fun v w' => R W w' ∧ Φ i (v :: (deps i).map vals) w')) 0 (l.take m))
    (fin : ∀ (vals : Nat → Value) W, R w.drew W → (∀ j, j < m → Φ j ((j :: deps j).map vals) W) → wpList P l.toArray Q (l.drop m) (acan l.toArray a0 vals (List.range m)) W) :
    (Code.region id l.toArray true).wp P Q a0 w := by
  refine wp_region_growg m N deps Φ R hm hB hT hN hRr hRt stab (fun i o hi ho vals W hR hd K hK => ?_) fin
  have h := AllSteps.at_ steps i o (by rw [List.getElem?_take, if_pos hi]; simpa using ho) vals W hR (by simpa using hd) K
  simp only [Nat.zero_add] at h
  exact h (fun v w' ⟨h1, h2⟩ => hK v w' h1 h2)
end
end Go
