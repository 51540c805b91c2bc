/- Each line's place leads to that line again: for every number of lines up to 100,000, and any of them. -/
import Derived.Test.YtdakpnfkcnnebaaWe
import Derived.Test.YtdakpnfkcnnebaaPb
namespace Go.Proofs.Ytdakpnfkcnnebaa.scrollBack
open Go.ChangeShapes Go.WideShapes Go.ChangeAt Go.RowKit Fl
set_option linter.unusedVariables false

theorem own : ownKnob Try.prog.godebug = none := by kernel_rfl

/-- A rest of an unsigned number, as the walk spells it. -/
theorem rest (a n : Int) (hn : 0 < n) (hn' : n ≤ 1000000) : ∃ j : Int, wrap64 ((IntKind.u64.wrap a).tmod n) = j ∧ 0 ≤ j ∧ j < n := by
  have h0 : 0 ≤ IntKind.u64.wrap a := by
    show 0 ≤ a % 18446744073709551616
    omega
  have h1 : 0 ≤ (IntKind.u64.wrap a).tmod n := Int.tmod_nonneg n h0
  have h2 : (IntKind.u64.wrap a).tmod n < n := Int.tmod_lt_of_pos _ hn
  refine ⟨(IntKind.u64.wrap a).tmod n, ?_, h1, h2⟩
  generalize (IntKind.u64.wrap a).tmod n = j at *
  unfold wrap64; omega

theorem place_back (j k : Int) (h0 : 0 ≤ k) (h1 : k < 1 + j) (h2 : j < 100000) :
    placeF k (1 + j) ≤ one ∧ (partZ (placeF k (1 + j)) (kept (1 + j) - 1) : Int) = k := by
  have ek : kept (1 + j) = 1 + j := by unfold kept; omega
  have ep : placeK k (1 + j) = k := by unfold placeK; rw [ek]; omega
  unfold placeF
  rw [ek, ep]
  by_cases hj : j = 0
  · subst hj
    have : k = 0 := by omega
    subst this
    rw [if_pos (by omega)]
    decide +kernel
  · rw [if_neg (by omega)]
    have e1 : (1 : Int) + j - 1 = j := by omega
    rw [e1, ofI_of k h0, ofI_of j (by omega)]
    unfold partZ partI
    by_cases hk : k = 0
    · subst hk
      have hz : fdiv (ofI (Int.toNat 0)) (ofI j.toNat) = 0 := by
        have := (share_bd 0 j.toNat 0 0 (by omega) (by omega) (by omega) (by omega) (by omega) (by omega)).2
        rw [Nat.zero_mul] at this
        exact Nat.le_zero.1 (le_of_mg (by rw [mg_zero]; exact this))
      rw [hz]
      refine ⟨Nat.zero_le _, ?_⟩
      have hs : scaled (partB 0) j.toNat = 0 := by
        have e0 : partB 0 = 0 := partB_of_le 0 (Nat.zero_le _)
        rw [e0, (scaled_some 0 j.toNat (Nat.zero_le _) (Nat.le_trans (show j.toNat ≤ 100000 by omega) (by decide))).2.1, mg_zero, Nat.zero_mul]
        rfl
      rw [hs]
      decide +kernel
    · have hb := back k.toNat j.toNat (by omega) (by omega) (by omega) (by omega)
      refine ⟨hb.1, ?_⟩
      rw [partB_of_le _ hb.1, hb.2]
      omega

theorem ge_zero (x : Nat) (h : x ≤ one) : (FloatKind.f64.format.order x 0 == some Ordering.gt || FloatKind.f64.format.order x 0 == some Ordering.eq) = true := by
  have hx : x ≤ 2047 * 2 ^ 52 := Nat.le_trans h (by decide)
  have e : FloatKind.f64.format.order x 0 = some (compare x 0) := order_nn x 0 hx (by decide)
  rw [e]
  rcases Nat.eq_zero_or_pos x with g | g
  · rw [g]; decide
  · rw [Nat.compare_eq_gt.2 g]; decide
theorem le_one (x : Nat) (h : x ≤ one) : (FloatKind.f64.format.order x 4607182418800017408 == some Ordering.lt || FloatKind.f64.format.order x 4607182418800017408 == some Ordering.eq) = true := by
  have hx : x ≤ 2047 * 2 ^ 52 := Nat.le_trans h (by decide)
  have e : FloatKind.f64.format.order x 4607182418800017408 = some (compare x one) := order_nn x one hx (by decide)
  rw [e]
  rcases Nat.lt_or_ge x one with g | g
  · rw [Nat.compare_eq_lt.2 g]; decide
  · rw [Nat.compare_eq_eq.2 (Nat.le_antisymm h g)]; decide

theorem walk (a0 : Int) (a1 : Int) (w0 : (Lit.int .i64 a0).wf = true) (w1 : (Lit.int .i64 a1).wf = true) (w : World) :
    Calls Try.prog 3 #[.int .i64 a0, .int .i64 a1] w fun e w' => e = .returned (.bool true) ∧ Grown w w' := by
  obtain ⟨j, hj, j0, j1⟩ := rest a0 100000 (by omega) (by omega)
  obtain ⟨k, hk, k0, k1⟩ := rest a1 (1 + j) (by omega) (by omega)
  obtain ⟨p1, p2⟩ := place_back j k k0 k1 j1
  have hlt : placeF k (1 + j) < 2 ^ 64 := Nat.lt_of_le_of_lt p1 (by decide)
  have q1 := ge_zero _ p1
  have q2 := le_one _ p1
  clear w0 w1 p1
  go_enter Try.func3, Try.ntmps3
  go_wp2_with fail
  refine (place_any k (1 + j) _).mono ?_
  rintro e w' ⟨rfl, rfl⟩
  go_wp2_with fail
  refine (told_any _).mono ?_
  rintro e w2 ⟨rfl, g2⟩
  go_wp2_with fail
  refine (line_any _ (1 + j) _ hlt).mono ?_
  rintro e w3 ⟨rfl, rfl⟩
  rw [p2]
  go_wp2
  go_ret
  exact ⟨rfl, g2⟩
/-! ### THE ROW's STEP: WRITTEN OUT: LEAVE IT -/
set_option maxRecDepth 100000 in
theorem lifted (os : Os) (started : os.Started) (H : Type) (enc : TypeId × Value → H) :
    ReturnsInHanded {} Try.checked os 3 .any (Rows.scrollBackSpec.pre6 enc Try.prog Try.f3 Rows.scrollBackRow.domain false) (Rows.scrollBackSpec.post enc Try.prog Try.f3 false true false false) := by
  refine returnsInHanded_of_change (C := Try.checked) own started (by kernel_rfl) Try.func3
    (ChangeSpec.witness6 (enc := enc) (C := Try.checked) false ⟨#[], #[.int .i64 0, .int .i64 0], []⟩ 8 (by kernel_rfl) (by kernel_rfl) (by kernel_rfl) (by kernel_rfl)) ?_
  intro W base args ds gs before hval0 hW hcnd _
  have hval : ∀ (j : Nat) t v, Try.f3.params[j]? = some t → args[j]? = some v → Value.okWide Try.prog W .any base t v := hval0
  have hW' := hW
  obtain ⟨p, q, hA0, hV, rfl, hfz, hnd⟩ := hW
  have hA : DataW.TrodAll enc Try.prog W 0 (fun _ => true) true Try.f3.params.toList args.toList ds p := hA0
  rw [Try.params3] at hA hval
  obtain ⟨v0, vs0, d0, ds0, p0, q0, hargs, rfl, rfl, h0, r0⟩ := trodAll_cons hA
  obtain ⟨v1, vs1, d1, ds1, p1, q1, rfl, rfl, rfl, h1, r1⟩ := trodAll_cons r0
  obtain ⟨rfl, rfl, rfl⟩ := trodAll_nil r1
  obtain rfl : args = #[v0, v1] := by cases args; simp_all
  obtain ⟨rfl, rfl⟩ := trodVars_none hV
  obtain ⟨a0, rfl, rfl, rfl, w0⟩ := open_int Try.underlying3 (hval 0 3 v0 rfl rfl) h0
  obtain ⟨a1, rfl, rfl, rfl, w1⟩ := open_int Try.underlying3 (hval 1 3 v1 rfl rfl) h1
  clear hA0 hval0
  simp only [List.append_nil] at hW'
  refine (walk a0 a1 w0 w1 W).mono fun e W' ⟨he, hg⟩ => ?_
  subst he
  exact ⟨_, rfl, post_of_same (pa := []) (pv := []) hW' (fun _ _ _ => (trodAll_cons_mk (shut_bool Try.underlying4 _) trodAll_mk0)) (fun sp _ => (trodAll_cons_mk (shut_int Try.underlying3 w0) (trodAll_cons_mk (shut_int Try.underlying3 w1) trodAll_mk0))) (fun _ _ => rfl) rfl
    (hg.frame _) hg.2.1 (ok_one (by kernel_rfl) rfl (okWide_bool_mk Try.underlying4 _))⟩

theorem over : Rows.scrollBackRow.holds Try.pinned (OpenSpec.ofChange Rows.scrollBackSpec) :=
  OpenClaim.holds_of_wide 3 Try.f3 rfl rfl rfl rfl rfl rfl rfl ⟨rfl, rfl, rfl, rfl, rfl⟩ rfl rfl rfl rfl rfl (by kernel_rfl) Try.func3 (by kernel_rfl)
    (of_decide_eq_true (by kernel_rfl)) (by unfold Func.isWrapper; first | (rw [if_pos (by decide +kernel)]; kernel_rfl) | (rw [if_neg (by decide +kernel)]; exact ⟨rfl, rfl⟩))
    (fun os started H enc _ => lifted os started H enc)

/-- ████ THE STATEMENT ████ -/
theorem proved : Rows.ScrollBackSaid :=
  over
#print axioms proved
end Go.Proofs.Ytdakpnfkcnnebaa.scrollBack
