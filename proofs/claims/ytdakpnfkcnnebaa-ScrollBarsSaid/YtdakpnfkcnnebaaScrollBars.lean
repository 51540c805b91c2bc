/- A bar lies within; it is the whole of it if all is seen: for any float and any numbers up to 10,000. -/
import Derived.Test.YtdakpnfkcnnebaaWl
namespace Go.Proofs.Ytdakpnfkcnnebaa.scrollBars
open Go.ChangeShapes Go.WideShapes Go.ChangeAt Go.RowKit Fl
set_option linter.unusedVariables false

/-- How long a bar is: between steps of 2 ^ -53, neither nothing nor the whole. -/
theorem long (k m : Nat) (hk0 : 0 < k) (hk : k < m) (hm : m ≤ 10000) : 0 < fdiv (ofI k) (ofI m) ∧ fdiv (ofI k) (ofI m) < one := by
  obtain ⟨a, b, a1, hb1, hb2, a2, hb3⟩ := steps k m (by omega) (by omega)
  obtain ⟨q1, q2⟩ := share_bd k m a b (by omega) (by omega) (by omega) a1 hb1 hb2
  have ha0 : 0 < a := by
    rcases Nat.eq_zero_or_pos a with h | h
    · rw [h, Nat.zero_mul] at a2; omega
    · exact h
  have hb0 : b < 9007199254740992 := by
    rcases Nat.lt_or_ge b 9007199254740992 with h | h
    · exact h
    · have e : b = 9007199254740992 := by omega
      rw [e] at hb3; omega
  have gp : 0 < G := pw_pos 1021
  constructor
  · refine lt_of_mg ?_
    rw [mg_zero]
    exact Nat.lt_of_lt_of_le (Nat.mul_pos ha0 gp) q1
  · refine lt_of_mg ?_
    rw [one_mg, E_G]
    exact Nat.lt_of_le_of_lt q2 (Nat.mul_lt_mul_of_pos_right hb0 gp)

theorem mg_pw (L k : Nat) (h : L = 0 ∨ 2 ^ 52 ≤ k) (hk : k ≤ 2 ^ 53) : mg (L * 2 ^ 52 + k) = k * pw L := by rw [mg_of L k h hk, pw_def]
/-- The least float above 1. -/
theorem one1_mg : mg 4607182418800017409 = E + 2 * G := by
  have h := mg_pw 1022 (2 ^ 52 + 1) (Or.inr (by decide)) (by decide)
  have e : 1022 * 2 ^ 52 + (2 ^ 52 + 1) = 4607182418800017409 := by decide
  have e2 : E = 2 ^ 52 * pw 1022 := pw_add 52 1022
  have e3 : pw 1022 = 2 * G := pw_succ 1021
  rw [e, Nat.add_mul, Nat.one_mul, ← e2, e3] at h
  exact h

/-- Where a bar begins, and how long it is: together hardly more than 1. -/
theorem ends (p l : Nat) (hp : p ≤ one) (hl : l ≤ one) : Ieee.double.add (fmul p (fsub one l)) l = some (fadd (fmul p (fsub one l)) l) ∧ fadd (fmul p (fsub one l)) l ≤ 4607182418800017409 ∧ fmul p (fsub one l) ≤ one := by
  obtain ⟨_, s2, s3⟩ := fsub_one l hl
  obtain ⟨_, m2, m3⟩ := fmul_le p (fsub one l) hp s3
  have hr : fmul p (fsub one l) < 2047 * 2 ^ 52 := Nat.lt_of_le_of_lt m3 (Nat.lt_of_le_of_lt s3 one_lt)
  have ha := add_nn _ l hr (Nat.lt_of_le_of_lt hl one_lt)
  have e : fadd (fmul p (fsub one l)) l = R 1074 (mg (fmul p (fsub one l)) + mg l) := by unfold fadd; rw [ha, Option.getD_some]
  refine ⟨by rw [ha, e], ?_, Nat.le_trans m3 s3⟩
  rw [e]
  refine R1_le (by decide) ?_
  rw [one1_mg]
  have h1 := mg_le m3
  -- 1 - l, rounded, is at most the next step of 2 ^ -53 above it
  have gp : 0 < G := pw_pos 1021
  have hl' := mg_le hl
  rw [one_mg] at hl'
  have h2 : mg (fsub one l) ≤ (E - mg l) + G := by
    have h3 := Nat.div_add_mod (E - mg l) G
    have h4 := Nat.mod_lt (E - mg l) gp
    obtain ⟨c, hc⟩ : ∃ c, c = (E - mg l) / G := ⟨_, rfl⟩
    rw [← hc, Nat.mul_comm] at h3
    by_cases z : (E - mg l) % G = 0
    · have c53 : c ≤ 2 ^ 53 := by
        have : c * G ≤ 9007199254740992 * G := by rw [← E_G]; omega
        exact Nat.le_of_mul_le_mul_right this gp
      obtain ⟨r, hr, er⟩ := gridG c c53
      have : fsub one l ≤ r := by rw [s2]; exact R1_le hr (by rw [er]; omega)
      have := mg_le this
      rw [er] at this; omega
    · have c53 : c + 1 ≤ 2 ^ 53 := by
        have : c * G < 9007199254740992 * G := by rw [← E_G]; omega
        have := Nat.lt_of_mul_lt_mul_right this
        have e53 : (2 : Nat) ^ 53 = 9007199254740992 := by decide
        rw [e53]; exact this
      obtain ⟨r, hr, er⟩ := gridG (c + 1) c53
      have : fsub one l ≤ r := by rw [s2]; exact R1_le hr (by rw [er, Nat.add_mul, Nat.one_mul]; omega)
      have := mg_le this
      rw [er, Nat.add_mul, Nat.one_mul] at this; omega
  omega

theorem walk1 (f p l s : Nat) (a1 a2 i j : Int) (hf : f < 2 ^ 64) (w : World)
    (hi : wrap64 ((IntKind.u64.wrap a1).tmod 10000) = i) (hj : wrap64 ((IntKind.u64.wrap a2).tmod 10000) = j) (i0 : 0 ≤ i) (i1 : i < 10000) (j0 : 0 ≤ j) (j1 : j < 10000) (hij : j < i)
    (ha : barF f (1 + i) (1 + j) = p) (hb : barL (1 + i) (1 + j) = l)
    (t1 : (FloatKind.f64.format.order p 0 == some Ordering.gt || FloatKind.f64.format.order p 0 == some Ordering.eq) = true)
    (t2 : (FloatKind.f64.format.order l 0 == some Ordering.gt) = true) (t3 : (FloatKind.f64.format.order l 4607182418800017408 == some Ordering.lt) = true)
    (t4 : ∀ w, (binOp .add 23 (.float .f64 p) (.float .f64 l)).run Try.prog w = .ok (.float .f64 s) w)
    (t5 : (FloatKind.f64.format.order s 4607182418800017409 == some Ordering.lt || FloatKind.f64.format.order s 4607182418800017409 == some Ordering.eq) = true) :
    Calls Try.prog 5 #[fl f, .int .i64 a1, .int .i64 a2] w fun e w' => e = .returned (.bool true) ∧ Grown w w' := by
  go_enter Try.func5, Try.ntmps5
  go_wp2_with fail
  refine (bar_any f _ _ _ hf).mono ?_
  rintro e w1 ⟨rfl, g1⟩
  rw [ha, hb]
  go_wp2_with fail
  refine (told_any _).mono ?_
  rintro e w5 ⟨rfl, g5⟩
  go_wp2
  go_ret
  exact ⟨rfl, Grown.trans g1 g5⟩
theorem walk2 (f : Nat) (a1 a2 i j : Int) (hf : f < 2 ^ 64) (w : World)
    (hi : wrap64 ((IntKind.u64.wrap a1).tmod 10000) = i) (hj : wrap64 ((IntKind.u64.wrap a2).tmod 10000) = j) (i0 : 0 ≤ i) (i1 : i < 10000) (j0 : 0 ≤ j) (j1 : j < 10000) (hij : i ≤ j)
    (ha : barF f (1 + i) (1 + j) = 0) (hb : barL (1 + i) (1 + j) = 4607182418800017408) :
    Calls Try.prog 5 #[fl f, .int .i64 a1, .int .i64 a2] w fun e w' => e = .returned (.bool true) ∧ Grown w w' := by
  have o1 : (FloatKind.f64.format.order 4607182418800017408 4607182418800017408 == some Ordering.eq) = true := by decide +kernel
  have o4 : (FloatKind.f64.format.order 0 0 == some Ordering.eq) = true := by decide +kernel
  go_enter Try.func5, Try.ntmps5
  go_wp2_with fail
  refine (bar_any f _ _ _ hf).mono ?_
  rintro e w1 ⟨rfl, g1⟩
  rw [ha, hb]
  go_wp2_with fail
  refine (told_any _).mono ?_
  rintro e w5 ⟨rfl, g5⟩
  go_wp2
  go_ret
  exact ⟨rfl, Grown.trans g1 g5⟩

theorem walk (f : Nat) (a1 a2 : Int) (w0 : (Lit.float .f64 f).wf = true) (w2 : (Lit.int .i64 a1).wf = true) (w3 : (Lit.int .i64 a2).wf = true) (w : World) :
    Calls Try.prog 5 #[fl f, .int .i64 a1, .int .i64 a2] w fun e w' => e = .returned (.bool true) ∧ Grown w w' := by
  have hf := wf_lt w0
  obtain ⟨i, hi, i0, i1⟩ := rest a1 10000 (by omega) (by omega)
  obtain ⟨j, hj, j0, j1⟩ := rest a2 10000 (by omega) (by omega)
  have ki := kept_of i i0 (by omega)
  have kj := kept_of j j0 (by omega)
  rcases Int.lt_or_le j i with c | c
  · have eb : barL (1 + i) (1 + j) = fdiv (ofI (1 + j).toNat) (ofI (1 + i).toNat) := by
      unfold barL; rw [ki, kj, if_pos (by omega), ofI_of _ (by omega), ofI_of _ (by omega)]
    have ea : barF f (1 + i) (1 + j) = fmul (partB f) (fsub one (fdiv (ofI (1 + j).toNat) (ofI (1 + i).toNat))) := by
      unfold barF; rw [ki, kj, if_pos (by omega), ofI_of _ (by omega), ofI_of _ (by omega)]
    obtain ⟨l1, l2⟩ := long (1 + j).toNat (1 + i).toNat (by omega) (by omega) (by omega)
    obtain ⟨s1, s2, s3⟩ := ends (partB f) _ (partB_le f hf) (Nat.le_of_lt l2)
    have hl : fdiv (ofI (1 + j).toNat) (ofI (1 + i).toNat) ≤ 2047 * 2 ^ 52 := Nat.le_trans (Nat.le_of_lt l2) (by decide)
    exact walk1 f _ _ _ a1 a2 i j hf w hi hj i0 i1 j0 j1 c ea eb (ge_zero _ s3) (gt_some _ _ l1 hl) (lt_some _ _ l2 (by decide)) (fun w => run_float_arith w .add 23 .f64 _ _ _ s1) (le_some _ _ s2 (by decide))
  · have eb : barL (1 + i) (1 + j) = 4607182418800017408 := by unfold barL; rw [ki, kj, if_neg (by omega)]
    have ea : barF f (1 + i) (1 + j) = 0 := by unfold barF; rw [ki, kj, if_neg (by omega)]
    exact walk2 f a1 a2 i j hf w hi hj i0 i1 j0 j1 c ea eb

set_option maxRecDepth 100000 in
theorem lifted (os : Os) (started : os.Started) (H : Type) (enc : TypeId × Value → H) :
    ReturnsInHanded {} Try.checked os 5 .any (Rows.scrollBarsSpec.pre6 enc Try.prog Try.f5 Rows.scrollBarsRow.domain false) (Rows.scrollBarsSpec.post enc Try.prog Try.f5 false true false false) := by
  refine returnsInHanded_of_change (C := Try.checked) own started (by kernel_rfl) Try.func5
    (ChangeSpec.witness6 (enc := enc) (C := Try.checked) false ⟨#[], #[.float .f64 0, .int .i64 0, .int .i64 0], []⟩ 8 (by kernel_rfl) (by kernel_rfl) (by kernel_rfl) (by kernel_rfl)) ?_
  intro W base args ds gs before hval0 hW hcnd _
  have hval : ∀ (j : Nat) t v, Try.f5.params[j]? = some t → args[j]? = some v → Value.okWide Try.prog W .any base t v := hval0
  have hW' := hW
  obtain ⟨p, q, hA0, hV, rfl, hfz, hnd⟩ := hW
  have hA : DataW.TrodAll enc Try.prog W 0 (fun _ => true) true Try.f5.params.toList args.toList ds p := hA0
  rw [Try.params5] at hA hval
  obtain ⟨v0, vs0, d0, ds0, p0, q0, hargs, rfl, rfl, h0, r0⟩ := trodAll_cons hA
  obtain ⟨v1, vs1, d1, ds1, p1, q1, rfl, rfl, rfl, h1, r1⟩ := trodAll_cons r0
  obtain ⟨v2, vs2, d2, ds2, p2, q2, rfl, rfl, rfl, h2, r2⟩ := trodAll_cons r1
  obtain ⟨rfl, rfl, rfl⟩ := trodAll_nil r2
  obtain rfl : args = #[v0, v1, v2] := by cases args; simp_all
  obtain ⟨rfl, rfl⟩ := trodVars_none hV
  obtain ⟨a0, rfl, rfl, rfl, w0⟩ := open_float Try.underlying23 (hval 0 23 v0 rfl rfl) h0
  obtain ⟨a1, rfl, rfl, rfl, w1⟩ := open_int Try.underlying3 (hval 1 3 v1 rfl rfl) h1
  obtain ⟨a2, rfl, rfl, rfl, w2⟩ := open_int Try.underlying3 (hval 2 3 v2 rfl rfl) h2
  clear hA0 hval0
  simp only [List.append_nil] at hW'
  refine (walk a0 a1 a2 w0 w1 w2 W).mono fun e W' ⟨he, hg⟩ => ?_
  subst he
  exact ⟨_, rfl, post_of_same (pa := []) (pv := []) hW' (fun _ _ _ => (trodAll_cons_mk (shut_bool Try.underlying4 _) trodAll_mk0)) (fun sp _ => (trodAll_cons_mk (shut_float Try.underlying23 w0) (trodAll_cons_mk (shut_int Try.underlying3 w1) (trodAll_cons_mk (shut_int Try.underlying3 w2) trodAll_mk0)))) (fun _ _ => rfl) rfl
    (hg.frame _) hg.2.1 (ok_one (by kernel_rfl) rfl (okWide_bool_mk Try.underlying4 _))⟩

theorem over : Rows.scrollBarsRow.holds Try.pinned (OpenSpec.ofChange Rows.scrollBarsSpec) :=
  OpenClaim.holds_of_wide 5 Try.f5 rfl rfl rfl rfl rfl rfl rfl ⟨rfl, rfl, rfl, rfl, rfl⟩ rfl rfl rfl rfl rfl (by kernel_rfl) Try.func5 (by kernel_rfl)
    (of_decide_eq_true (by kernel_rfl)) (by unfold Func.isWrapper; first | (rw [if_pos (by decide +kernel)]; kernel_rfl) | (rw [if_neg (by decide +kernel)]; exact ⟨rfl, rfl⟩))
    (fun os started H enc _ => lifted os started H enc)

theorem proved : Rows.ScrollBarsSaid := over
#print axioms proved
end Go.Proofs.Ytdakpnfkcnnebaa.scrollBars
