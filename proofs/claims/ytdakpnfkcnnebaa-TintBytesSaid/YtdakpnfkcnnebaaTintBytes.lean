/- Each byte's part comes back as that byte; parts that rise have bytes that do not fall: for any byte and any two floats. -/
import Derived.Test.YtdakpnfkcnnebaaWo
namespace Go.Proofs.Ytdakpnfkcnnebaa.tintBytes
open Go.ChangeShapes Go.WideShapes Go.ChangeAt Go.RowKit Fl
set_option linter.unusedVariables false

theorem byte_back (c : Nat) (h : c ≤ 255) : ofB c < 2 ^ 64 ∧ partI (ofB c) 255 = c := by
  rcases Nat.eq_zero_or_pos c with z | z
  · subst z; decide +kernel
  · obtain ⟨b1, b2⟩ := back c 255 h (by decide) (by decide) z
    have e : ofB c = fdiv (ofI c) (ofI 255) := rfl
    rw [← e] at b1 b2
    refine ⟨Nat.lt_of_le_of_lt b1 (by decide), ?_⟩
    unfold partI
    rw [partB_of_le _ b1]
    exact b2

theorem walkN (c : Int) (x y : Nat) (w : World)
    (h : (FloatKind.f64.format.order x x != some Ordering.eq) = true ∨ ((FloatKind.f64.format.order x x != some Ordering.eq) = false ∧ (FloatKind.f64.format.order y y != some Ordering.eq) = true)) :
    Calls Try.prog 8 #[.int .u8 c, fl x, fl y] w fun e w' => e = .returned (.bool true) ∧ Grown w w' := by
  have a3 : partI 9221120237041090561 255 = 0 := by decide +kernel
  rcases h with h | ⟨h, h'⟩
  all_goals
    go_enter Try.func8, Try.ntmps8
    go_wp2_with fail
    refine (told1_any _).mono ?_
    rintro e w1 ⟨rfl, g1⟩
    go_wp2_with fail
    refine (nan_any _).mono ?_
    rintro e w2 ⟨rfl, rfl⟩
    go_wp2_with fail
    refine (byte_any _ _ (by decide)).mono ?_
    rintro e w3 ⟨rfl, rfl⟩
    rw [a3]
    go_wp2
    go_ret
    exact ⟨rfl, g1⟩

theorem walkY (c : Int) (x y p q : Nat) (w : World) (c0 : 0 ≤ c) (c1 : c ≤ 255) (hx : x < 2 ^ 64) (hy : y < 2 ^ 64) (hb : ofB c.toNat < 2 ^ 64) (e1 : (partI (ofB c.toNat) 255 : Int) = c) (ep : partI x 255 = p) (eq : partI y 255 = q)
    (h : (FloatKind.f64.format.order x x != some Ordering.eq) = false) (h' : (FloatKind.f64.format.order y y != some Ordering.eq) = false)
    (o : (FloatKind.f64.format.order x y == some Ordering.gt) = true ∨ ((FloatKind.f64.format.order x y == some Ordering.gt) = false ∧ p ≤ q)) :
    Calls Try.prog 8 #[.int .u8 c, fl x, fl y] w fun e w' => e = .returned (.bool true) ∧ Grown w w' := by
  rcases o with o | ⟨o, o'⟩
  · go_enter Try.func8, Try.ntmps8
    go_wp2_with fail
    refine (told1_any _).mono ?_
    rintro e w1 ⟨rfl, g1⟩
    go_wp2_with fail
    refine (of_any c _ c0 c1).mono ?_
    rintro e w2 ⟨rfl, rfl⟩
    go_wp2_with fail
    refine (byte_any _ _ hb).mono ?_
    rintro e w3 ⟨rfl, rfl⟩
    rw [e1]
    go_wp2
    go_ret
    exact ⟨rfl, g1⟩
  · go_enter Try.func8, Try.ntmps8
    go_wp2_with fail
    refine (told1_any _).mono ?_
    rintro e w1 ⟨rfl, g1⟩
    go_wp2_with fail
    refine (of_any c _ c0 c1).mono ?_
    rintro e w2 ⟨rfl, rfl⟩
    go_wp2_with fail
    refine (byte_any _ _ hb).mono ?_
    rintro e w3 ⟨rfl, rfl⟩
    rw [e1]
    go_wp2_with fail
    refine (byte_any x _ hx).mono ?_
    rintro e w3 ⟨rfl, rfl⟩
    rw [ep]
    go_wp2_with fail
    refine (byte_any y _ hy).mono ?_
    rintro e w3 ⟨rfl, rfl⟩
    rw [eq]
    go_wp2
    go_ret
    exact ⟨rfl, g1⟩

theorem walk (c : Int) (x y : Nat) (w0 : (Lit.int .u8 c).wf = true) (w1 : (Lit.float .f64 x).wf = true) (w2 : (Lit.float .f64 y).wf = true) (w : World) :
    Calls Try.prog 8 #[.int .u8 c, fl x, fl y] w fun e w' => e = .returned (.bool true) ∧ Grown w w' := by
  have hx := wf_lt w1
  have hy := wf_lt w2
  have hc : 0 ≤ c ∧ c ≤ 255 := by
    simp only [Lit.wf, Bool.and_eq_true, decide_eq_true_eq] at w0
    exact w0
  cases nx : isN x
  · cases ny : isN y
    · obtain ⟨b1, b2⟩ := byte_back c.toNat (by omega)
      refine walkY c x y _ _ w hc.1 hc.2 hx hy b1 (by rw [b2]; omega) rfl rfl nx ny ?_
      cases o : (Ieee.double.order x y == some Ordering.gt)
      · right; exact ⟨o, partI_mono x y 255 hx hy (by decide) (part_mono x y hx hy nx ny o)⟩
      · left; exact o
    · exact walkN c x y w (Or.inr ⟨nx, ny⟩)
  · exact walkN c x y w (Or.inl nx)

set_option maxRecDepth 100000 in
theorem lifted (os : Os) (started : os.Started) (H : Type) (enc : TypeId × Value → H) :
    ReturnsInHanded {} Try.checked os 8 .any (Rows.tintBytesSpec.pre6 enc Try.prog Try.f8 Rows.tintBytesRow.domain false) (Rows.tintBytesSpec.post enc Try.prog Try.f8 false true false false) := by
  refine returnsInHanded_of_change (C := Try.checked) own started (by kernel_rfl) Try.func8
    (ChangeSpec.witness6 (enc := enc) (C := Try.checked) false ⟨#[], #[.int .u8 0, .float .f64 0, .float .f64 0], []⟩ 8 (by kernel_rfl) (by kernel_rfl) (by kernel_rfl) (by kernel_rfl)) ?_
  intro W base args ds gs before hval0 hW hcnd _
  have hval : ∀ (j : Nat) t v, Try.f8.params[j]? = some t → args[j]? = some v → Value.okWide Try.prog W .any base t v := hval0
  have hW' := hW
  obtain ⟨p, q, hA0, hV, rfl, hfz, hnd⟩ := hW
  have hA : DataW.TrodAll enc Try.prog W 0 (fun _ => true) true Try.f8.params.toList args.toList ds p := hA0
  rw [Try.params8] at hA hval
  obtain ⟨v0, vs0, d0, ds0, p0, q0, hargs, rfl, rfl, h0, r0⟩ := trodAll_cons hA
  obtain ⟨v1, vs1, d1, ds1, p1, q1, rfl, rfl, rfl, h1, r1⟩ := trodAll_cons r0
  obtain ⟨v2, vs2, d2, ds2, p2, q2, rfl, rfl, rfl, h2, r2⟩ := trodAll_cons r1
  obtain ⟨rfl, rfl, rfl⟩ := trodAll_nil r2
  obtain rfl : args = #[v0, v1, v2] := by cases args; simp_all
  obtain ⟨rfl, rfl⟩ := trodVars_none hV
  obtain ⟨a0, rfl, rfl, rfl, w0⟩ := open_int Try.underlying5 (hval 0 5 v0 rfl rfl) h0
  obtain ⟨a1, rfl, rfl, rfl, w1⟩ := open_float Try.underlying23 (hval 1 23 v1 rfl rfl) h1
  obtain ⟨a2, rfl, rfl, rfl, w2⟩ := open_float Try.underlying23 (hval 2 23 v2 rfl rfl) h2
  clear hA0 hval0
  simp only [List.append_nil] at hW'
  refine (walk a0 a1 a2 w0 w1 w2 W).mono fun e W' ⟨he, hg⟩ => ?_
  subst he
  exact ⟨_, rfl, post_of_same (pa := []) (pv := []) hW' (fun _ _ _ => (trodAll_cons_mk (shut_bool Try.underlying4 _) trodAll_mk0)) (fun sp _ => (trodAll_cons_mk (shut_int Try.underlying5 w0) (trodAll_cons_mk (shut_float Try.underlying23 w1) (trodAll_cons_mk (shut_float Try.underlying23 w2) trodAll_mk0)))) (fun _ _ => rfl) rfl
    (hg.frame _) hg.2.1 (ok_one (by kernel_rfl) rfl (okWide_bool_mk Try.underlying4 _))⟩

theorem over : Rows.tintBytesRow.holds Try.pinned (OpenSpec.ofChange Rows.tintBytesSpec) :=
  OpenClaim.holds_of_wide 8 Try.f8 rfl rfl rfl rfl rfl rfl rfl ⟨rfl, rfl, rfl, rfl, rfl⟩ rfl rfl rfl rfl rfl (by kernel_rfl) Try.func8 (by kernel_rfl)
    (of_decide_eq_true (by kernel_rfl)) (by unfold Func.isWrapper; first | (rw [if_pos (by decide +kernel)]; kernel_rfl) | (rw [if_neg (by decide +kernel)]; exact ⟨rfl, rfl⟩))
    (fun os started H enc _ => lifted os started H enc)

theorem proved : Rows.TintBytesSaid := over
#print axioms proved
end Go.Proofs.Ytdakpnfkcnnebaa.tintBytes
