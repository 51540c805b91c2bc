/- A window is within the lines, as high as it may be; the first and the last are at the ends; further down is not further up: for any two floats and any numbers up to 10,000. -/
import Derived.Test.YtdakpnfkcnnebaaWl
namespace Go.Proofs.Ytdakpnfkcnnebaa.scrollWindows
open Go.ChangeShapes Go.WideShapes Go.ChangeAt Go.RowKit Fl
set_option linter.unusedVariables false

/-- What the windows come to. -/
theorem wins (f g : Nat) (n r : Int) (hf : f < 2 ^ 64) (hn : 1 ≤ n) (hn' : n ≤ 10000) (hr : 1 ≤ r) (hr' : r ≤ 10000) :
    0 ≤ winA f n r ∧ winB f n r ≤ n ∧ winB f n r - winA f n r = min n r ∧ winA 0 n r = 0 ∧ winB 4607182418800017408 n r = n ∧ 0 ≤ winA f n r ∧ winA f n r ≤ 10000 ∧ winB f n r ≤ 20000 := by
  have en : kept n = n := by unfold kept; omega
  have er : kept r = r := by unfold kept; omega
  unfold winA winB
  rw [en, er]
  by_cases h : r < n
  · simp only [if_pos h]
    have h1 := partZ_le f (n - r) hf (by omega) (by omega)
    have h2 : partZ 0 (n - r) = 0 := partI_zero _ (Nat.le_trans (show (n - r).toNat ≤ 10000 by omega) (by decide))
    have h3 : partZ 4607182418800017408 (n - r) = (n - r).toNat := partI_one _ (Nat.le_trans (show (n - r).toNat ≤ 10000 by omega) (by decide))
    rw [h2, h3]
    omega
  · simp only [if_neg h]
    exact ⟨by omega, by omega, by omega, trivial, trivial, by omega, by omega, by omega⟩

theorem up (f g : Nat) (n r : Int) (hf : f < 2 ^ 64) (hg : g < 2 ^ 64) (hn : 1 ≤ n) (hn' : n ≤ 10000) (hr : 1 ≤ r) (hr' : r ≤ 10000)
    (nf : isN f = false) (ng : isN g = false) (h : (Ieee.double.order f g == some .gt) = false) : winA f n r ≤ winA g n r := by
  have en : kept n = n := by unfold kept; omega
  have er : kept r = r := by unfold kept; omega
  unfold winA
  rw [en, er]
  by_cases c : r < n
  · simp only [if_pos c]
    have := partI_mono f g (n - r).toNat hf hg (Nat.le_trans (show (n - r).toNat ≤ 10000 by omega) (by decide)) (part_mono f g hf hg nf ng h)
    unfold partZ
    exact Int.ofNat_le.2 this
  · simp only [if_neg c]
    omega

/-- The walk, with the windows' numbers as what they are. -/
theorem walk1 (f g : Nat) (a2 a3 i j a b c d x' y x y' : Int) (hf : f < 2 ^ 64) (hg : g < 2 ^ 64) (w : World)
    (hi : wrap64 ((IntKind.u64.wrap a2).tmod 10000) = i) (hj : wrap64 ((IntKind.u64.wrap a3).tmod 10000) = j) (i0 : 0 ≤ i) (i1 : i < 10000) (j0 : 0 ≤ j) (j1 : j < 10000)
    (ha : winA f (1 + i) (1 + j) = a) (hb : winB f (1 + i) (1 + j) = b) (hc : winA g (1 + i) (1 + j) = c) (hd : winB g (1 + i) (1 + j) = d)
    (hx : winA 0 (1 + i) (1 + j) = x) (hx' : winB 0 (1 + i) (1 + j) = x') (hy' : winA 4607182418800017408 (1 + i) (1 + j) = y') (hy : winB 4607182418800017408 (1 + i) (1 + j) = y)
    (t1 : 0 ≤ a) (t1' : a ≤ 10000) (t2 : b ≤ 1 + i) (t2' : b ≤ 20000) (t2'' : a ≤ b) (t3 : (j < i ∧ (b - a == 1 + j) = true) ∨ (i ≤ j ∧ (b - a == 1 + i) = true)) (t4 : (x == 0) = true) (t5 : (y == 1 + i) = true)
    (t6 : (FloatKind.f64.format.order f f != some Ordering.eq) = true ∨ ((FloatKind.f64.format.order f f != some Ordering.eq) = false ∧ (FloatKind.f64.format.order g g != some Ordering.eq) = true) ∨
      ((FloatKind.f64.format.order f f != some Ordering.eq) = false ∧ (FloatKind.f64.format.order g g != some Ordering.eq) = false ∧ (FloatKind.f64.format.order f g == some Ordering.gt) = true) ∨
      ((FloatKind.f64.format.order f f != some Ordering.eq) = false ∧ (FloatKind.f64.format.order g g != some Ordering.eq) = false ∧ (FloatKind.f64.format.order f g == some Ordering.gt) = false ∧ a ≤ c)) :
    Calls Try.prog 4 #[fl f, fl g, .int .i64 a2, .int .i64 a3] w fun e w' => e = .returned (.bool true) ∧ Grown w w' := by
  rcases t3 with ⟨t3, t3'⟩ | ⟨t3, t3'⟩ <;> rcases t6 with u | ⟨u, v⟩ | ⟨u, v, u'⟩ | ⟨u, v, u', v'⟩
  all_goals
    go_enter Try.func4, Try.ntmps4
    go_wp2_with fail
    refine (window_any f _ _ _ hf).mono ?_
    rintro e w1 ⟨rfl, g1⟩
    rw [ha, hb]
    go_wp2_with fail
    refine (window_any g _ _ _ hg).mono ?_
    rintro e w2 ⟨rfl, g2⟩
    rw [hc, hd]
    go_wp2_with fail
    refine (window_any 0 _ _ _ (by decide)).mono ?_
    rintro e w3 ⟨rfl, g3⟩
    rw [hx, hx']
    go_wp2_with fail
    refine (window_any 4607182418800017408 _ _ _ (by decide)).mono ?_
    rintro e w4 ⟨rfl, g4⟩
    rw [hy, hy']
    go_wp2_with fail
    refine (told_any _).mono ?_
    rintro e w5 ⟨rfl, g5⟩
    go_wp2
    go_ret
    exact ⟨rfl, Grown.trans g1 (Grown.trans g2 (Grown.trans g3 (Grown.trans g4 g5)))⟩

theorem walk (f g : Nat) (a2 a3 : Int) (w0 : (Lit.float .f64 f).wf = true) (w1 : (Lit.float .f64 g).wf = true) (w2 : (Lit.int .i64 a2).wf = true) (w3 : (Lit.int .i64 a3).wf = true) (w : World) :
    Calls Try.prog 4 #[fl f, fl g, .int .i64 a2, .int .i64 a3] w fun e w' => e = .returned (.bool true) ∧ Grown w w' := by
  have hf := wf_lt w0
  have hg := wf_lt w1
  obtain ⟨i, hi, i0, i1⟩ := rest a2 10000 (by omega) (by omega)
  obtain ⟨j, hj, j0, j1⟩ := rest a3 10000 (by omega) (by omega)
  obtain ⟨b1, b2, b3, b4, b5, b6, b7, b8⟩ := wins f g (1 + i) (1 + j) hf (by omega) (by omega) (by omega) (by omega)
  refine walk1 f g a2 a3 i j _ _ _ _ _ _ _ _ hf hg w hi hj i0 i1 j0 j1 rfl rfl rfl rfl rfl rfl rfl rfl b1 b7 b2 b8 (by omega) ?_ (by rw [b4]; decide) (by rw [b5]; simp) ?_
  · rcases Int.lt_or_le j i with c | c
    · left; exact ⟨c, by rw [beq_iff_eq]; omega⟩
    · right; exact ⟨c, by rw [beq_iff_eq]; omega⟩
  · cases u : isN f
    · cases v : isN g
      · cases z : (Ieee.double.order f g == some Ordering.gt)
        · exact Or.inr (Or.inr (Or.inr ⟨u, v, z, up f g _ _ hf hg (by omega) (by omega) (by omega) (by omega) u v z⟩))
        · exact Or.inr (Or.inr (Or.inl ⟨u, v, z⟩))
      · exact Or.inr (Or.inl ⟨u, v⟩)
    · exact Or.inl u

set_option maxRecDepth 100000 in
theorem lifted (os : Os) (started : os.Started) (H : Type) (enc : TypeId × Value → H) :
    ReturnsInHanded {} Try.checked os 4 .any (Rows.scrollWindowsSpec.pre6 enc Try.prog Try.f4 Rows.scrollWindowsRow.domain false) (Rows.scrollWindowsSpec.post enc Try.prog Try.f4 false true false false) := by
  refine returnsInHanded_of_change (C := Try.checked) own started (by kernel_rfl) Try.func4
    (ChangeSpec.witness6 (enc := enc) (C := Try.checked) false ⟨#[], #[.float .f64 0, .float .f64 0, .int .i64 0, .int .i64 0], []⟩ 8 (by kernel_rfl) (by kernel_rfl) (by kernel_rfl) (by kernel_rfl)) ?_
  intro W base args ds gs before hval0 hW hcnd _
  have hval : ∀ (j : Nat) t v, Try.f4.params[j]? = some t → args[j]? = some v → Value.okWide Try.prog W .any base t v := hval0
  have hW' := hW
  obtain ⟨p, q, hA0, hV, rfl, hfz, hnd⟩ := hW
  have hA : DataW.TrodAll enc Try.prog W 0 (fun _ => true) true Try.f4.params.toList args.toList ds p := hA0
  rw [Try.params4] at hA hval
  obtain ⟨v0, vs0, d0, ds0, p0, q0, hargs, rfl, rfl, h0, r0⟩ := trodAll_cons hA
  obtain ⟨v1, vs1, d1, ds1, p1, q1, rfl, rfl, rfl, h1, r1⟩ := trodAll_cons r0
  obtain ⟨v2, vs2, d2, ds2, p2, q2, rfl, rfl, rfl, h2, r2⟩ := trodAll_cons r1
  obtain ⟨v3, vs3, d3, ds3, p3, q3, rfl, rfl, rfl, h3, r3⟩ := trodAll_cons r2
  obtain ⟨rfl, rfl, rfl⟩ := trodAll_nil r3
  obtain rfl : args = #[v0, v1, v2, v3] := by cases args; simp_all
  obtain ⟨rfl, rfl⟩ := trodVars_none hV
  obtain ⟨a0, rfl, rfl, rfl, w0⟩ := open_float Try.underlying23 (hval 0 23 v0 rfl rfl) h0
  obtain ⟨a1, rfl, rfl, rfl, w1⟩ := open_float Try.underlying23 (hval 1 23 v1 rfl rfl) h1
  obtain ⟨a2, rfl, rfl, rfl, w2⟩ := open_int Try.underlying3 (hval 2 3 v2 rfl rfl) h2
  obtain ⟨a3, rfl, rfl, rfl, w3⟩ := open_int Try.underlying3 (hval 3 3 v3 rfl rfl) h3
  clear hA0 hval0
  simp only [List.append_nil] at hW'
  refine (walk a0 a1 a2 a3 w0 w1 w2 w3 W).mono fun e W' ⟨he, hg⟩ => ?_
  subst he
  exact ⟨_, rfl, post_of_same (pa := []) (pv := []) hW' (fun _ _ _ => (trodAll_cons_mk (shut_bool Try.underlying4 _) trodAll_mk0)) (fun sp _ => (trodAll_cons_mk (shut_float Try.underlying23 w0) (trodAll_cons_mk (shut_float Try.underlying23 w1) (trodAll_cons_mk (shut_int Try.underlying3 w2) (trodAll_cons_mk (shut_int Try.underlying3 w3) trodAll_mk0))))) (fun _ _ => rfl) rfl
    (hg.frame _) hg.2.1 (ok_one (by kernel_rfl) rfl (okWide_bool_mk Try.underlying4 _))⟩

theorem over : Rows.scrollWindowsRow.holds Try.pinned (OpenSpec.ofChange Rows.scrollWindowsSpec) :=
  OpenClaim.holds_of_wide 4 Try.f4 rfl rfl rfl rfl rfl rfl rfl ⟨rfl, rfl, rfl, rfl, rfl⟩ rfl rfl rfl rfl rfl (by kernel_rfl) Try.func4 (by kernel_rfl)
    (of_decide_eq_true (by kernel_rfl)) (by unfold Func.isWrapper; first | (rw [if_pos (by decide +kernel)]; kernel_rfl) | (rw [if_neg (by decide +kernel)]; exact ⟨rfl, rfl⟩))
    (fun os started H enc _ => lifted os started H enc)

theorem proved : Rows.ScrollWindowsSaid := over
#print axioms proved
end Go.Proofs.Ytdakpnfkcnnebaa.scrollWindows
