/- LinesBack: the walk. -/
import Derived.Test.YtcjfhcfkjnfihaaG
import Derived.Test.YtcjfhcfkjnfihaaTold
namespace Go.Proofs.Ytcjfhcfkjnfihaa.PLines
open Go.RowKit Go.Proofs.YtcjfhcfkjnfihaaW.PrintWords Go.Proofs.YtcjfhcfkjnfihaaW.PrintLast Go.Proofs.YtcjfhcfkjnfihaaW.PrintMore

set_option maxHeartbeats 8000000 in
set_option maxRecDepth 100000 in
theorem back_big (A0 : Option Addr) (c0 n0 : Nat) (A1 : Option Addr) (c1 n1 : Nat) (a : Int) (w : World) (h : 200 < (n0 : Int) ∨ 60 < (n1 : Int)) :
    Calls Try.prog 6 #[.slice A0 n0 c0, .slice A1 n1 c1, .int .i64 a] w fun e w' => e = .returned (.bool true) ∧ Below w.heap.size w w' := by
  by_cases q0 : 200 < (n0 : Int)
  · have q1 : decide (200 < (n0 : Int)) = true := decide_eq_true q0
    clear q0 h
    go_enter Try.func6, Try.ntmps6
    go_wp2_with (go_at_call 7; go_must (refine (told_calls _).mono ?_); rintro e w1 ⟨rfl, hb⟩; have HB := Aside0.mk hb; clear hb)
    go_ret
    exact ⟨rfl, HB.out⟩
  · have q1 : decide (200 < (n0 : Int)) = false := decide_eq_false q0
    have q2 : decide (60 < (n1 : Int)) = true := decide_eq_true (by omega)
    clear q0 h
    go_enter Try.func6, Try.ntmps6
    go_wp2_with (go_at_call 7; go_must (refine (told_calls _).mono ?_); rintro e w1 ⟨rfl, hb⟩; have HB := Aside0.mk hb; clear hb)
    go_ret
    exact ⟨rfl, HB.out⟩

set_option maxHeartbeats 8000000 in
set_option maxRecDepth 100000 in
theorem back_small (A0 : Option Addr) (c0 : Nat) (b : List Int) (A1 : Option Addr) (c1 : Nat) (ins : List Int) (a : Int) (w : World) (hr0 : Kd.C (Kd.int .u8) w A0 b.length b) (hc0 : b.length ≤ c0) (hr1 : Kd.C (Kd.int .u8) w A1 ins.length ins) (hc1 : ins.length ≤ c1)
    (hb : (b.length : Int) ≤ 200) (hi : (ins.length : Int) ≤ 60) (p : Nat) (hp : p ≤ b.length) (hz : ¬ IntKind.u64.wrap (wrap64 ((b.length : Int) + 1)) = 0) (hpa : wrap64 ((IntKind.u64.wrap a).tmod (IntKind.u64.wrap (wrap64 ((b.length : Int) + 1)))) = p) :
    Calls Try.prog 6 #[.slice A0 b.length c0, .slice A1 ins.length c1, .int .i64 a] w fun e w' => e = .returned (.bool true) ∧ Below w.heap.size w w' := by
  have q1 : decide (200 < (b.length : Int)) = false := decide_eq_false (by omega)
  have q2 : decide (60 < (ins.length : Int)) = false := decide_eq_false (by omega)
  have HR0 := Aside0.mk hr0
  have HR1 := Aside0.mk hr1
  have HC0 := Aside0.mk hc0
  have HC1 := Aside0.mk hc1
  have HB0 := Aside0.mk hb
  have HI0 := Aside0.mk hi
  have HP := Aside0.mk hp
  have HPA := Aside0.mk hpa
  clear hr0 hr1 hc0 hc1 hb hi hp hpa
  go_enter Try.func6, Try.ntmps6
  go_upto_region 4 with (go_at_call 15; go_must (refine (new_call w w (Below.refl _ _)).mono ?_); rintro e w5 ⟨g, v5, rfl, hix, hb, hb2⟩; have HI := Aside0.mk hix; have HX := Aside0.mk hb; clear hix hb hb2)
  go_upto_region 7 with (go_at_call 16; go_must (refine (feed_call w _ g v5 [0] 0 HI.out HX.out (by decide) (by decide) (by decide) _ _ b (Kd.C_below HR0.out HX.out) HC0.out (by have := HB0.out; omega)).mono ?_); rintro e w6 ⟨rfl, v6, hix, hb⟩; have HI6 := Aside0.mk hix; clear HX; have HX := Aside0.mk hb; clear hix hb)
  obtain ⟨S, hS⟩ : ∃ S, S = st b := ⟨_, rfl⟩
  have HS := Aside0.mk hS
  have HI7 : Aside0 (Ix w w6 g v6 S (b.length : Int)) := ⟨by have h := HI6.out; rw [Int.zero_add] at h; rw [hS]; exact h⟩
  have HSL : Aside0 (S.length ≤ 201) := ⟨by rw [hS]; have := st_len b; have := HB0.out; omega⟩
  clear hS HI6 HI
  go_upto_region 8 with (go_at_call_of 18 (Value.pointer (some ⟨g, 0, none⟩)); go_must (refine (starts_call w _ g v6 S b.length HI7.out (by have := HSL.out; omega)).mono ?_); rintro e w7 ⟨v7, rfl, ho, hb⟩; obtain ⟨Aw, cw, rfl⟩ := Kd.R_slice ho; have HO := Aside0.mk (Kd.R_mono (Kd.R_bound ho) (ok' := fun k => k ≠ g) (fun k hk => by have h1 := blk_lt HI7.out.cell; have h2 := hk.2.1; show k ≠ g; omega)); have HI8 := Aside0.mk (HI7.out.below hb); have HN := Aside0.mk (below_step HX.out hb); clear HX; have HX := HN; clear HN ho hb)
  go_upto_region 9 with (fail)
  rw [HPA.out]
  obtain ⟨b1, hb1⟩ : ∃ b1, b1 = b.take p ++ ins ++ b.drop (p + 0) := ⟨_, rfl⟩
  have hb1l : (b1.length : Int) = b.length + ins.length := by rw [hb1, List.length_append, List.length_append, List.length_take, List.length_drop]; have := HP.out; omega
  have hsp : spF S p 0 ins = st b1 := by rw [HS.out, hb1]; exact spF_st b ins p 0 (by have := HP.out; omega)
  have hcnt : (st b1).length = S.length + (behF ins p).length := by rw [← hsp, HS.out]; exact spF_len b ins p
  have hback : spF (st b1) p ins.length [] = S := by
    have h := spF_st b1 [] p ins.length (by have := HP.out; omega)
    have hlp : (b.take p).length = p := by rw [List.length_take]; have := HP.out; omega
    have e1 : b1.take p = b.take p := by rw [hb1, List.append_assoc, List.take_left' hlp]
    have e2 : b1.drop (p + ins.length) = b.drop p := by rw [hb1, List.drop_left' (by rw [List.length_append, hlp]), Nat.add_zero]
    rw [e1, e2, List.append_nil, List.take_append_drop, ← HS.out] at h
    exact h
  obtain ⟨S1, hS1⟩ : ∃ S1, S1 = st b1 := ⟨_, rfl⟩
  have HS1L : Aside0 (S1.length ≤ 261) := ⟨by rw [hS1]; have := st_len b1; have := HB0.out; have := HI0.out; omega⟩
  have HEL1 : Aside0 (∀ x ∈ S1, 0 ≤ x ∧ x ≤ 1000000) := ⟨fun x hx => by rw [hS1] at hx; have := st_bound b1 x hx; have := HB0.out; have := HI0.out; omega⟩
  have HEL : Aside0 (∀ x ∈ S, 0 ≤ x ∧ x ≤ 1000000) := ⟨fun x hx => by rw [HS.out] at hx; have := st_bound b x hx; have := HB0.out; omega⟩
  have HN0 : Aside0 (S ≠ []) := ⟨by rw [HS.out]; simp [st]⟩
  have HN1 : Aside0 (S1 ≠ []) := ⟨by rw [hS1]; simp [st]⟩
  rw [← hS1] at hsp hcnt hback
  have HSP := Aside0.mk hsp
  have HCNT := Aside0.mk hcnt
  have HBACK := Aside0.mk hback
  have HB1L := Aside0.mk hb1l
  clear hsp hcnt hback hS1 hb1l hb1
  go_upto_region 10 with (go_at_call 17; go_must (refine (splice_good w _ g v6 S b.length HI8.out HX.out (by have := HSL.out; omega) HN0.out HEL.out (by omega) (by have := HB0.out; omega) _ _ ins (Kd.C_below HR1.out HX.out) HC1.out (by have := HI0.out; omega) p 0 0 (by omega) (by omega) (by have := HP.out; omega) (by have := HP.out; omega)).mono ?_); rintro e w8 ⟨rfl, v8, hix, hbb, hkk⟩; rw [HSP.out, show (b.length : Int) - 0 + (ins.length : Int) = b.length + ins.length by omega] at hix; have HI9 := Aside0.mk hix; have HO9 := Aside0.mk (Kd.R_keep HO.out hkk (fun k hk => hk)); clear HX HO; have HX := Aside0.mk hbb; clear hix hbb hkk)
  clear hz HPA
  have HR1b := Aside0.mk (Kd.C_below HR1.out HX.out)
  go_wp2_with fail
  go_loopw [11, 12] (fun s11 s12 wr => ∃ k : Nat, k ≤ ins.length ∧ s12 = .int .i64 (k : Int) ∧ s11 = .int .i64 ((behK ins p k).length : Int) ∧ Aside0 (wr = w8))
    (fun _ i _ => ins.length - (intOf i).toNat)
  case atStart => exact ⟨0, Nat.zero_le _, rfl, rfl, ⟨rfl⟩⟩
  case round =>
    obtain ⟨k, hk, rfl, rfl, HW⟩ := hrel
    obtain rfl := HW.out
    clear HW
    by_cases hkl : k < ins.length
    · obtain ⟨ad4, e4, hx0⟩ := Kd.at_int HR1b.out (k : Int) (by omega) (by omega)
      subst e4
      simp only [Int.toNat_natCast] at hx0
      have hle := behK_le ins p k
      obtain ⟨cn, hcn⟩ : ∃ cn, cn = (behK ins p k).length := ⟨_, rfl⟩
      have e1 : (behK ins p (k + 1)).length = if rd ins k = 10 then cn + 1 else cn := by
        rw [hcn]
        show (if rd ins k = 10 then _ else _ : List Int).length = _
        split
        · rw [List.length_append, List.length_singleton]
        · rfl
      obtain ⟨y, hy⟩ : ∃ y, y = rd ins k := ⟨_, rfl⟩
      rw [← hy] at hx0 e1
      rw [← hcn] at hle ⊢
      have HE := Aside0.mk e1
      have hk60 := HI0.out
      clear e1 hcn hy
      by_cases c : y = 10
      · have cb : (y == 10) = true := beq_iff_eq.mpr c
        have HC := Aside0.mk c
        clear c
        go_wp2
        go_roundw
        case measure => simp [intOf]; omega
        case rel => exact ⟨k + 1, by omega, by simp, by rw [HE.out, if_pos HC.out]; simp, ⟨by trivial⟩⟩
      · have cb : (y == 10) = false := beq_eq_false_iff_ne.mpr c
        have HC := Aside0.mk c
        clear c
        go_wp2
        go_roundw
        case measure => simp [intOf]; omega
        case rel => exact ⟨k + 1, by omega, by simp, by rw [HE.out, if_neg HC.out], ⟨by trivial⟩⟩
    · obtain rfl : k = ins.length := by omega
      clear hk hkl
      obtain ⟨cn, hcn⟩ : ∃ cn, cn = (behK ins p ins.length).length := ⟨_, rfl⟩
      rw [← hcn]
      have HCN : Aside0 (S1.length = S.length + cn) := ⟨by rw [hcn]; exact HCNT.out⟩
      clear hcn
      go_upto_region 17 with (go_at_call_of 18 (Value.pointer (some ⟨g, 0, none⟩)); go_must (refine (starts_call w _ g v8 S1 _ HI9.out (by have := HS1L.out; omega)).mono ?_); rintro e w10 ⟨v10, rfl, ho, hb⟩; obtain ⟨A10, c10, rfl⟩ := Kd.R_slice ho; have HO10 := Aside0.mk (Kd.R_below HO9.out hb); have HI10 := Aside0.mk (HI9.out.below hb); have HN := Aside0.mk (below_step HX.out hb); clear HX; have HX := HN; clear HN ho hb)
      have hnil : Kd.C (Kd.int .u8) w10 none ([] : List Int).length [] := ⟨rfl, by decide, fun h => absurd h (by decide)⟩
      have HNIL := Aside0.mk hnil
      clear hnil
      go_upto_region 18 with (go_at_call 17; go_must (refine (splice_good w _ g v8 S1 (b.length + ins.length) HI10.out HX.out (by have := HS1L.out; omega) HN1.out HEL1.out (by omega) (by have := HB0.out; have := HI0.out; omega) none 0 [] HNIL.out (by decide) (by decide) p ins.length 9 (by omega) (by omega) (by have := HP.out; omega) (by have := HP.out; omega)).mono ?_); rintro e w11 ⟨rfl, v11, hix, hbb, hkk⟩; rw [HBACK.out] at hix; have HI11 := Aside0.mk hix; have HO11 := Aside0.mk (Kd.R_keep HO10.out hkk (fun k hk => hk)); clear HX; have HX := Aside0.mk hbb; clear hix hbb hkk)
      have hw : IntKind.i64.wrap ((S.length : Int) + (cn : Int)) = S1.length := by
        have h1 := HCN.out
        have h2 := HS1L.out
        have h3 : (S1.length : Int) = S.length + cn := by omega
        rw [h3]
        simp [IntKind.wrap, IntKind.bits, IntKind.signed]
        omega
      obtain ⟨kn, hkn⟩ := numbers_ev S (by have := HSL.out; omega)
      have HKN := Aside0.mk (show gobolaw4_numbers.f kn S S = some true from hkn kn (Nat.le_refl _))
      clear hkn
      go_wp2_with (first | (go_at_call 7; go_must (refine (told_calls _).mono ?_); rintro e w12 ⟨rfl, hb⟩; have HO12 := Aside0.mk (Kd.R_below HO11.out hb); have HI12 := Aside0.mk (HI11.out.below hb); have HN := Aside0.mk (below_step HX.out hb); clear HX; have HX := HN; clear HN hb) | (go_at_call 18; go_must (refine (starts_call w _ g v11 S _ HI12.out (by have := HSL.out; omega)).mono ?_); rintro e w13 ⟨v13, rfl, ho, hb⟩; obtain ⟨A13, c13, rfl⟩ := Kd.R_slice ho; have HO13 := Aside0.mk (Kd.R_below HO12.out hb); have HOS := Aside0.mk ho; have HN := Aside0.mk (below_step HX.out hb); clear HX; have HX := HN; clear HN ho hb) | (go_at_call 12; go_must (refine (gobolaw4_numbers.calls kn _ _ S _ _ S true _ (Kd.R_reads' HOS.out).2.2 (Kd.R_reads' HOS.out).2.1 (Kd.R_reads' HO13.out).2.2 (Kd.R_reads' HO13.out).2.1 HKN.out).mono ?_); rintro e w14 ⟨rfl, hd⟩; have HD := Aside0.mk hd; clear hd))
      go_ret
      exact ⟨rfl, below_step HX.out HD.out.below⟩

theorem back_walk (a0 : Option Addr) (len0 cap0 : Nat) (z0 : List Int) (a1 : Option Addr) (len1 cap1 : Nat) (z1 : List Int) (a : Int) (w : World)
    (w0 : (a0 = none ∧ len0 = 0 ∧ cap0 = 0 ∧ z0 = []) ∨ ∃ x, a0 = some x ∧ len0 ≤ cap0 ∧ cap0 ≤ maxLen ∧ z0.length = cap0 ∧ (∀ i, i < z0.length → w.cell? (x.add i) = some (.int .u8 (z0.getD i 0))) ∧ ∀ n ∈ z0, (Lit.int .u8 n).wf = true)
    (w1 : (a1 = none ∧ len1 = 0 ∧ cap1 = 0 ∧ z1 = []) ∨ ∃ x, a1 = some x ∧ len1 ≤ cap1 ∧ cap1 ≤ maxLen ∧ z1.length = cap1 ∧ (∀ i, i < z1.length → w.cell? (x.add i) = some (.int .u8 (z1.getD i 0))) ∧ ∀ n ∈ z1, (Lit.int .u8 n).wf = true) :
    Calls Try.prog 6 #[.slice a0 len0 cap0, .slice a1 len1 cap1, .int .i64 a] w fun e w' => e = .returned (.bool true) ∧ Below w.heap.size w w' := by
  obtain ⟨l0, rfl, hr0, _, _, hc0⟩ := ReadsInt.ofRowC w0
  obtain ⟨l1, rfl, hr1, _, _, hc1⟩ := ReadsInt.ofRowC w1
  by_cases c : 200 < (l0.length : Int) ∨ 60 < (l1.length : Int)
  · exact back_big a0 cap0 _ a1 cap1 _ a w c
  · have hz : IntKind.u64.wrap (wrap64 ((l0.length : Int) + 1)) = l0.length + 1 := by
      rw [show wrap64 ((l0.length : Int) + 1) = (l0.length : Int) + 1 by unfold wrap64; omega]
      simp [IntKind.wrap, IntKind.bits, IntKind.signed]
      omega
    have hu : 0 ≤ IntKind.u64.wrap a := by simp [IntKind.wrap, IntKind.bits, IntKind.signed]; omega
    have h1 := Int.tmod_nonneg ((l0.length : Int) + 1) hu
    have h2 := Int.tmod_lt_of_pos (IntKind.u64.wrap a) (show (0 : Int) < (l0.length : Int) + 1 by omega)
    obtain ⟨q, hq⟩ : ∃ q, q = (IntKind.u64.wrap a).tmod ((l0.length : Int) + 1) := ⟨_, rfl⟩
    rw [← hq] at h1 h2
    refine back_small a0 cap0 l0 a1 cap1 l1 a w (Kd.C_of_reads (d := (0 : Int)) (h1 := fun _ => rfl) hr0) hc0 (Kd.C_of_reads (d := (0 : Int)) (h1 := fun _ => rfl) hr1) hc1 (by omega) (by omega) q.toNat (by omega) (by rw [hz]; omega) ?_
    rw [hz, ← hq, show wrap64 q = q by unfold wrap64; omega]
    omega
end Go.Proofs.Ytcjfhcfkjnfihaa.PLines
