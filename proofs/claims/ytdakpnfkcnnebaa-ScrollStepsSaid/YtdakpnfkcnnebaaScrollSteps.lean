/- A step is somewhere from 0 to 1; there and back within is where it was; without a number it stays: for any place of 64ths, any step of 64ths and any float. -/
import Derived.Test.YtdakpnfkcnnebaaWf
import Derived.Test.YtdakpnfkcnnebaaPs
namespace Go.Proofs.Ytdakpnfkcnnebaa.scrollSteps
open Go.ChangeShapes Go.WideShapes Go.ChangeAt Go.RowKit Fl
set_option linter.unusedVariables false

theorem xor_top (x : Nat) (h : x < 2 ^ 63) : x ^^^ 2 ^ 63 = 2 ^ 63 + x := by
  have e := Nat.two_pow_add_eq_or_of_lt h 1
  rw [Nat.mul_one] at e
  rw [e]
  refine Nat.eq_of_testBit_eq fun i => ?_
  rw [Nat.testBit_xor, Nat.testBit_or, Nat.testBit_two_pow]
  by_cases e : 63 = i
  · subst e
    rw [Nat.testBit_lt_two_pow h]; rfl
  · simp [e]
theorem neg_sF (s : Bool) (k : Nat) (h : k ≤ 64) : Op.negFloat .f64 (sF s k) = sF (!s) k := by
  show sF s k ^^^ 2 ^ 63 = _
  cases s
  · exact xor_top _ (pF_small k h)
  · show (2 ^ 63 + pF k) ^^^ 2 ^ 63 = pF k
    rw [← xor_top _ (pF_small k h), Nat.xor_assoc, Nat.xor_self, Nat.xor_zero]

theorem notN_sF (s : Bool) (k : Nat) (h : k ≤ 64) : isN (sF s k) = false := by
  unfold isN
  rw [order_self _ (by rw [(sF_all s k h).1]; exact Nat.le_trans (pF_all k h).2.2.1 (by decide))]
  rfl

theorem step_sF (i k n : Nat) (s : Bool) (hi : i ≤ 64) (hk : k ≤ 64) (hn : n ≤ 64) (h : (i : Int) + (if s then -(k : Int) else k) = n) : stepF (pF i) (sF s k) = pF n := by
  unfold stepF
  rw [notN_sF s k hk, if_neg (by simp), partB_of_le _ (pF_all i hi).2.2.1]
  unfold fadd
  rw [add_sF i k n s hi hk hn h, Option.getD_some, partB_of_le _ (pF_all n hn).2.2.1]

theorem step_le (f y : Nat) (hf : f < 2 ^ 64) : stepF f y ≤ one := by
  unfold stepF
  cases h : isN y
  · rw [if_neg (by simp)]
    exact partB_le _ (add_part _ y (partB_le f hf) h).2
  · rw [if_pos rfl]; exact partB_le f hf

theorem step_nan (p : Nat) (hp : p ≤ one) : stepF p 9221120237041090561 = p := by
  unfold stepF
  rw [if_pos (by decide +kernel)]
  exact partB_of_le p hp
theorem inf_read (s : Bool) (x : Nat) (h : x % 2 ^ 63 = 2047 * 2 ^ 52) (hs : sg x = s) (p : Nat) (hp : p ≤ one) : fadd p x = Ieee.double.word s (2047 * 2 ^ 52) := by
  have h2 : one < 2047 * 2 ^ 52 := one_lt
  obtain ⟨m, i, e1, _, _, _⟩ := read_num p (by rw [mod_small (by omega)]; omega)
  unfold fadd Ieee.Format.add
  rw [e1, read_inf x h, hs]
  rfl
theorem step_inf (p : Nat) (hp : p ≤ one) : stepF p 9218868437227405312 = one ∧ stepF p 18442240474082181120 = 0 := by
  unfold stepF
  rw [partB_of_le p hp, inf_read false 9218868437227405312 (by decide) (by decide) p hp, inf_read true 18442240474082181120 (by decide) (by decide) p hp]
  have n1 : isN 9218868437227405312 = false := by decide +kernel
  have n2 : isN 18442240474082181120 = false := by decide +kernel
  rw [n1, n2, if_neg (by decide), if_neg (by decide)]
  decide +kernel

theorem inf_up (w : World) : Calls Try.prog 44 #[.int .i64 1] w fun e w' => e = .returned (fl 9218868437227405312) ∧ w = w' := by
  go_enter Try.func44, Try.ntmps44
  go_wp2
  go_ret
  exact ⟨rfl, rfl⟩
theorem inf_down (w : World) : Calls Try.prog 44 #[.int .i64 (-1)] w fun e w' => e = .returned (fl 18442240474082181120) ∧ w = w' := by
  go_enter Try.func44, Try.ntmps44
  go_wp2
  go_ret
  exact ⟨rfl, rfl⟩

theorem rest64 (a : Int) : ∃ j : Int, (IntKind.u64.wrap a).tmod 65 = j ∧ 0 ≤ j ∧ j < 65 := by
  have h0 : 0 ≤ IntKind.u64.wrap a := by
    show 0 ≤ a % 18446744073709551616
    omega
  exact ⟨_, rfl, Int.tmod_nonneg 65 h0, Int.tmod_lt_of_pos _ (by omega)⟩

theorem walk1 (f P P' q q' s : Nat) (a0 a1 i j : Int) (hf : f < 2 ^ 64) (hP : P < 2 ^ 64) (hP' : P' < 2 ^ 64) (w : World)
    (hi : (IntKind.u64.wrap a0).tmod 65 = i) (hj : (IntKind.u64.wrap a1).tmod 65 = j)
    (r1 : ∀ w, (binOp .quo 23 (.float .f64 (floatOfInt .f64 i)) (.float .f64 4634204016564240384)).run Try.prog w = .ok (.float .f64 P) w)
    (r2 : ∀ w, (binOp .quo 23 (.float .f64 (floatOfInt .f64 j)) (.float .f64 4634204016564240384)).run Try.prog w = .ok (.float .f64 P') w)
    (r3 : ∀ w, (binOp .sub 23 (.float .f64 P') (.float .f64 P)).run Try.prog w = .ok (.float .f64 q) w)
    (r4 : ∀ w, (Op.unary .neg (.float .f64 q)).run Try.prog w = .ok (.float .f64 q') w)
    (e1 : stepF f q = s) (e2 : stepF P q = P') (e3 : stepF P' q' = P) (e4 : stepF P 9221120237041090561 = P) (e5 : stepF P 9218868437227405312 = 4607182418800017408) (e6 : stepF P 18442240474082181120 = 0)
    (t1 : (FloatKind.f64.format.order P P == some Ordering.eq) = true)
    (t2 : (FloatKind.f64.format.order s 0 == some Ordering.gt || FloatKind.f64.format.order s 0 == some Ordering.eq) = true)
    (t3 : (FloatKind.f64.format.order s 4607182418800017408 == some Ordering.lt || FloatKind.f64.format.order s 4607182418800017408 == some Ordering.eq) = true) :
    Calls Try.prog 11 #[.int .i64 a0, .int .i64 a1, fl f] w fun e w' => e = .returned (.bool true) ∧ Grown w w' := by
  have o1 : (FloatKind.f64.format.order 4607182418800017408 4607182418800017408 == some Ordering.eq) = true := by decide +kernel
  have o4 : (FloatKind.f64.format.order 0 0 == some Ordering.eq) = true := by decide +kernel
  go_enter Try.func11, Try.ntmps11
  go_wp2_with fail
  refine (step_any f q _ hf).mono ?_
  rintro e w1 ⟨rfl, rfl⟩
  rw [e1]
  go_wp2_with fail
  refine (told_any _).mono ?_
  rintro e w5 ⟨rfl, g5⟩
  go_wp2_with fail
  refine (step_any P q _ hP).mono ?_
  rintro e w2 ⟨rfl, rfl⟩
  rw [e2]
  go_wp2_with fail
  refine (step_any P' q' _ hP').mono ?_
  rintro e w3 ⟨rfl, rfl⟩
  rw [e3]
  go_wp2_with fail
  refine (nan_any _).mono ?_
  rintro e w4 ⟨rfl, rfl⟩
  go_wp2_with fail
  refine (step_any P _ _ hP).mono ?_
  rintro e w6 ⟨rfl, rfl⟩
  rw [e4]
  go_wp2_with fail
  refine (inf_up _).mono ?_
  rintro e w7 ⟨rfl, rfl⟩
  go_wp2_with fail
  refine (step_any P _ _ hP).mono ?_
  rintro e w8 ⟨rfl, rfl⟩
  rw [e5]
  go_wp2_with fail
  refine (inf_down _).mono ?_
  rintro e w9 ⟨rfl, rfl⟩
  go_wp2_with fail
  refine (step_any P _ _ hP).mono ?_
  rintro e w10 ⟨rfl, rfl⟩
  rw [e6]
  go_wp2
  go_ret
  exact ⟨rfl, g5⟩

theorem w64 : ofI 64 = 4634204016564240384 := by decide +kernel
theorem walk (a0 a1 : Int) (f : Nat) (w1 : (Lit.int .i64 a0).wf = true) (w2 : (Lit.int .i64 a1).wf = true) (w0 : (Lit.float .f64 f).wf = true) (w : World) :
    Calls Try.prog 11 #[.int .i64 a0, .int .i64 a1, fl f] w fun e w' => e = .returned (.bool true) ∧ Grown w w' := by
  have hf := wf_lt w0
  obtain ⟨i, hi, i0, i1⟩ := rest64 a0
  obtain ⟨j, hj, j0, j1⟩ := rest64 a1
  have pi := pF_all i.toNat (by omega)
  have pj := pF_all j.toNat (by omega)
  rw [w64] at pi pj
  have hk : j.toNat - i.toNat + (i.toNat - j.toNat) ≤ 64 := by omega
  have hs := sub_sF i.toNat j.toNat (by omega) (by omega)
  have l1 : one < 2 ^ 64 := by decide
  refine walk1 f (pF i.toNat) (pF j.toNat) _ _ _ a0 a1 i j hf (Nat.lt_of_le_of_lt pi.2.2.1 l1) (Nat.lt_of_le_of_lt pj.2.2.1 l1) w hi hj
    (fun w => run_float_arith w .quo 23 .f64 _ _ _ (by rw [ofI_of i i0]; exact pi.1)) (fun w => run_float_arith w .quo 23 .f64 _ _ _ (by rw [ofI_of j j0]; exact pj.1))
    (fun w => run_float_arith w .sub 23 .f64 _ _ _ hs) (fun w => rfl) rfl ?_ ?_ (step_nan _ pi.2.2.1) (step_inf _ pi.2.2.1).1 (step_inf _ pi.2.2.1).2 (eq_some _ (Nat.le_trans pi.2.2.1 (by decide)))
    (ge_zero _ (step_le f _ hf)) (le_one _ (step_le f _ hf))
  · refine step_sF _ _ _ _ (by omega) hk (by omega) ?_
    by_cases c : j.toNat < i.toNat
    · simp only [c, decide_true, if_true]; omega
    · simp only [c, decide_false, Bool.false_eq_true, if_false]; omega
  · rw [neg_sF _ _ hk]
    refine step_sF _ _ _ _ (by omega) hk (by omega) ?_
    by_cases c : j.toNat < i.toNat
    · simp only [c, decide_true, Bool.not_true, Bool.false_eq_true, if_false]; omega
    · simp only [c, decide_false, Bool.not_false, if_true]; omega

set_option maxRecDepth 100000 in
theorem lifted (os : Os) (started : os.Started) (H : Type) (enc : TypeId × Value → H) :
    ReturnsInHanded {} Try.checked os 11 .any (Rows.scrollStepsSpec.pre6 enc Try.prog Try.f11 Rows.scrollStepsRow.domain false) (Rows.scrollStepsSpec.post enc Try.prog Try.f11 false true false false) := by
  refine returnsInHanded_of_change (C := Try.checked) own started (by kernel_rfl) Try.func11
    (ChangeSpec.witness6 (enc := enc) (C := Try.checked) false ⟨#[], #[.int .i64 0, .int .i64 0, .float .f64 0], []⟩ 8 (by kernel_rfl) (by kernel_rfl) (by kernel_rfl) (by kernel_rfl)) ?_
  intro W base args ds gs before hval0 hW hcnd _
  have hval : ∀ (j : Nat) t v, Try.f11.params[j]? = some t → args[j]? = some v → Value.okWide Try.prog W .any base t v := hval0
  have hW' := hW
  obtain ⟨p, q, hA0, hV, rfl, hfz, hnd⟩ := hW
  have hA : DataW.TrodAll enc Try.prog W 0 (fun _ => true) true Try.f11.params.toList args.toList ds p := hA0
  rw [Try.params11] at hA hval
  obtain ⟨v0, vs0, d0, ds0, p0, q0, hargs, rfl, rfl, h0, r0⟩ := trodAll_cons hA
  obtain ⟨v1, vs1, d1, ds1, p1, q1, rfl, rfl, rfl, h1, r1⟩ := trodAll_cons r0
  obtain ⟨v2, vs2, d2, ds2, p2, q2, rfl, rfl, rfl, h2, r2⟩ := trodAll_cons r1
  obtain ⟨rfl, rfl, rfl⟩ := trodAll_nil r2
  obtain rfl : args = #[v0, v1, v2] := by cases args; simp_all
  obtain ⟨rfl, rfl⟩ := trodVars_none hV
  obtain ⟨a0, rfl, rfl, rfl, w0⟩ := open_int Try.underlying3 (hval 0 3 v0 rfl rfl) h0
  obtain ⟨a1, rfl, rfl, rfl, w1⟩ := open_int Try.underlying3 (hval 1 3 v1 rfl rfl) h1
  obtain ⟨a2, rfl, rfl, rfl, w2⟩ := open_float Try.underlying23 (hval 2 23 v2 rfl rfl) h2
  clear hA0 hval0
  simp only [List.append_nil] at hW'
  refine (walk a0 a1 a2 w0 w1 w2 W).mono fun e W' ⟨he, hg⟩ => ?_
  subst he
  exact ⟨_, rfl, post_of_same (pa := []) (pv := []) hW' (fun _ _ _ => (trodAll_cons_mk (shut_bool Try.underlying4 _) trodAll_mk0)) (fun sp _ => (trodAll_cons_mk (shut_int Try.underlying3 w0) (trodAll_cons_mk (shut_int Try.underlying3 w1) (trodAll_cons_mk (shut_float Try.underlying23 w2) trodAll_mk0)))) (fun _ _ => rfl) rfl
    (hg.frame _) hg.2.1 (ok_one (by kernel_rfl) rfl (okWide_bool_mk Try.underlying4 _))⟩

theorem over : Rows.scrollStepsRow.holds Try.pinned (OpenSpec.ofChange Rows.scrollStepsSpec) :=
  OpenClaim.holds_of_wide 11 Try.f11 rfl rfl rfl rfl rfl rfl rfl ⟨rfl, rfl, rfl, rfl, rfl⟩ rfl rfl rfl rfl rfl (by kernel_rfl) Try.func11 (by kernel_rfl)
    (of_decide_eq_true (by kernel_rfl)) (by unfold Func.isWrapper; first | (rw [if_pos (by decide +kernel)]; kernel_rfl) | (rw [if_neg (by decide +kernel)]; exact ⟨rfl, rfl⟩))
    (fun os started H enc _ => lifted os started H enc)

theorem proved : Rows.ScrollStepsSaid := over
#print axioms proved
end Go.Proofs.Ytdakpnfkcnnebaa.scrollSteps
