/- A colour that fits has parts from 0 to 1 and stays; its light is from 0 to 1: for any colour. -/
import Derived.Test.YtdakpnfkcnnebaaWo
import Derived.Test.YtdakpnfkcnnebaaWz
import Derived.Test.YtdakpnfkcnnebaaPm
import Derived.Deep.RegionHeld3
import Derived.Lib.Hide
namespace Go.Proofs.Ytdakpnfkcnnebaa.tintFits
open Go.ChangeShapes Go.WideShapes Go.ChangeAt Go.RowKit Fl
set_option linter.unusedVariables false

theorem sameB_self (x : Nat) : sameB x x = true := by
  unfold sameB
  cases h : isN x
  · rw [Bool.or_self, if_neg (by decide), order_self x (notN x h)]; simp
  · rfl
theorem same_self (x y z : Nat) (w : World) : Calls Try.prog 41 #[col x y z, col x y z] w fun e w' => e = .returned (.bool true) ∧ Grown w w' := by
  have := same_any x y z x y z w
  rw [sameB_self, sameB_self, sameB_self] at this
  exact this
theorem fitW_grown (x y z : Nat) (w : World) : Grown w (fitW x y z w) := by
  unfold fitW
  repeat (first | exact Grown.refl _ | apply Grown.drew | apply Grown.alloc)
theorem fit_grown (x y z : Nat) (w : World) : Calls Try.prog 29 #[col x y z] w fun e w' => e = .returned (col (partB x) (partB y) (partB z)) ∧ Grown w w' :=
  (fit_any x y z w).mono fun _ _ ⟨he, hw⟩ => ⟨he, hw ▸ fitW_grown x y z w⟩
theorem fit_stays (x y z : Nat) (w : World) (hx : x ≤ one) (hy : y ≤ one) (hz : z ≤ one) : Calls Try.prog 29 #[col x y z] w fun e w' => e = .returned (col x y z) ∧ Grown w w' := by
  have := fit_grown x y z w
  rw [partB_of_le x hx, partB_of_le y hy, partB_of_le z hz] at this
  exact this
theorem light_fit (x y z : Nat) (w : World) (hx : x < 2 ^ 64) (hy : y < 2 ^ 64) (hz : z < 2 ^ 64) :
    Calls Try.prog 37 #[col (partB x) (partB y) (partB z)] w fun e w' => e = .returned (fl (lightB x y z)) ∧ Grown w w' := by
  have l : one < 2 ^ 64 := by decide
  have := light_any (partB x) (partB y) (partB z) w (Nat.lt_of_le_of_lt (partB_le x hx) l) (Nat.lt_of_le_of_lt (partB_le y hy) l) (Nat.lt_of_le_of_lt (partB_le z hz) l)
  have e : lightB (partB x) (partB y) (partB z) = lightB x y z := by
    unfold lightB
    rw [partB_of_le _ (partB_le x hx), partB_of_le _ (partB_le y hy), partB_of_le _ (partB_le z hz)]
  rw [e] at this
  exact this
theorem far_self (l : Nat) (h : l ≤ one) : farB l l = 0 := by
  obtain ⟨_, _, s3⟩ := sub_01 l l h h
  rw [Int.sub_self, if_pos rfl, word_false] at s3
  have e0 : R 1074 (Int.natAbs 0) = 0 := by unfold R; exact if_pos rfl
  rw [e0] at s3
  unfold farB
  rw [s3]
  decide +kernel
theorem far_zero (x y z : Nat) (w : World) (hx : x < 2 ^ 64) (hy : y < 2 ^ 64) (hz : z < 2 ^ 64) : Calls Try.prog 39 #[col x y z, col x y z] w fun e w' => e = .returned (fl 0) ∧ Grown w w' := by
  have := far_any x y z x y z w hx hy hz hx hy hz
  rw [far_self _ (light_some x y z hx hy hz).2.2.2.2.2] at this
  exact this

/-- A part is neither below 0 nor above 1; it is a number, and not negative. -/
theorem part_ok (p : Nat) (h : p ≤ one) : (FloatKind.f64.format.order p 0 == some Ordering.lt) = false ∧ (FloatKind.f64.format.order p 4607182418800017408 == some Ordering.gt) = false ∧
    (FloatKind.f64.format.order p p != some Ordering.eq) = false ∧ sg p = false := by
  have hp : p ≤ 2047 * 2 ^ 52 := Nat.le_trans h (by decide)
  have e0 : FloatKind.f64.format.order p 0 = some (compare p 0) := order_nn p 0 hp (by decide)
  have e1 : FloatKind.f64.format.order p 4607182418800017408 = some (compare p one) := order_nn p one hp (by decide)
  have e2 : FloatKind.f64.format.order p p = some (compare p p) := order_nn p p hp hp
  rw [e0, e1, e2, Nat.compare_eq_eq.2 rfl]
  refine ⟨?_, ?_, rfl, sg_small (Nat.lt_of_le_of_lt h (by decide))⟩
  · rcases Nat.eq_zero_or_pos p with g | g
    · rw [g]; decide
    · rw [Nat.compare_eq_gt.2 g]; decide
  · rcases Nat.lt_or_ge p one with g | g
    · rw [Nat.compare_eq_lt.2 g]; decide
    · rw [Nat.compare_eq_eq.2 (Nat.le_antisymm h g)]; decide

/-- The boxes of the colour and of what fits. -/
structure Two (w : World) (b : Nat) (x y z p q r : Nat) (W : World) : Prop where
  g : Grown w W
  c0 : W.cell? ⟨w.heap.size, 0, none⟩ = some (fl x)
  c1 : W.cell? ⟨w.heap.size, 1, none⟩ = some (fl y)
  c2 : W.cell? ⟨w.heap.size, 2, none⟩ = some (fl z)
  d0 : W.cell? ⟨b, 0, none⟩ = some (fl p)
  d1 : W.cell? ⟨b, 1, none⟩ = some (fl q)
  d2 : W.cell? ⟨b, 2, none⟩ = some (fl r)
theorem Two.grown {w : World} {b x y z p q r : Nat} {W W' : World} (h : Two w b x y z p q r W) (g : Grown W W') : Two w b x y z p q r W' :=
  ⟨Grown.trans h.g g, Grown.cell g h.c0, Grown.cell g h.c1, Grown.cell g h.c2, Grown.cell g h.d0, Grown.cell g h.d1, Grown.cell g h.d2⟩
theorem Two.hold {w : World} {b x y z p q r : Nat} {W : World} (h : Two w b x y z p q r W) :
    W.cell? ⟨w.heap.size, 0, none⟩ = some (fl x) ∧ W.cell? ⟨w.heap.size, 1, none⟩ = some (fl y) ∧ W.cell? ⟨w.heap.size, 2, none⟩ = some (fl z) ∧
      W.cell? ⟨b, 0, none⟩ = some (fl p) ∧ W.cell? ⟨b, 1, none⟩ = some (fl q) ∧ W.cell? ⟨b, 2, none⟩ = some (fl r) ∧ Grown w W :=
  ⟨h.c0, h.c1, h.c2, h.d0, h.d1, h.d2, h.g⟩

set_option maxHeartbeats 4000000 in
set_option maxRecDepth 100000 in
theorem walk1 (x y z p q r l : Nat) (w : World) (hx : Hid (x < 2 ^ 64)) (hy : Hid (y < 2 ^ 64)) (hz : Hid (z < 2 ^ 64)) (ep : Hid (partB x = p)) (eq : Hid (partB y = q)) (er : Hid (partB z = r)) (el : Hid (lightB x y z = l))
    (hp : Hid (p ≤ one)) (hq : Hid (q ≤ one)) (hr : Hid (r ≤ one)) (hl : Hid (l ≤ one)) :
    Calls Try.prog 9 #[col x y z] w fun e w' => e = .returned (.bool true) ∧ Grown w w' := by
  have o4 : (FloatKind.f64.format.order 0 0 == some Ordering.eq) = true := by decide +kernel
  have lf : Hid (∀ w, Calls Try.prog 37 #[col p q r] w fun e w' => e = .returned (fl l) ∧ Grown w w') := Lib.hid (fun w => by
    have := light_fit x y z w hx.out hy.out hz.out
    rw [ep.out, eq.out, er.out, el.out] at this
    exact this)
  have v1 := ge_zero l hl.out
  have v2 := le_one l hl.out
  go_enter Try.func9, Try.ntmps9
  go_wp2_with fail
  refine (fit_grown x y z _).mono ?_
  rintro e w1 ⟨rfl, g1⟩
  rw [ep.out, eq.out, er.out]
  have k0 := Grown.cell g1 (b := w.heap.size) (o := 0) (v := fl x) (by go_simp)
  have k1 := Grown.cell g1 (b := w.heap.size) (o := 1) (v := fl y) (by go_simp)
  have k2 := Grown.cell g1 (b := w.heap.size) (o := 2) (v := fl z) (by go_simp)
  have gw : Grown w w1 := Grown.trans ((Grown.refl _).alloc _ _) g1
  have kk : w.heap.size < w1.heap.size := World.block_lt_of_cell? w1 _ k0
  have T1 : Two w w1.heap.size x y z p q r (w1.alloc (.cells #[fl p, fl q, fl r] 38)) :=
    ⟨gw.alloc _ _, (World.cell?_alloc_lt w1 _ ⟨w.heap.size, 0, none⟩ kk).trans k0, (World.cell?_alloc_lt w1 _ ⟨w.heap.size, 1, none⟩ kk).trans k1, (World.cell?_alloc_lt w1 _ ⟨w.heap.size, 2, none⟩ kk).trans k2, by go_simp, by go_simp, by go_simp⟩
  clear g1 gw
  go_wp2_with fail
  refine (light_any x y z _ hx.out hy.out hz.out).mono ?_
  rintro e w2 ⟨rfl, g2⟩
  rw [el.out]
  have T2 := T1.grown g2
  clear T1 g2 k0 k1 k2
  generalize w1.heap.size = b at *
  go_wp2_with fail
  go_loopw [5] (fun i wr => ∃ k : Nat, k ≤ 3 ∧ i = .int .i64 k ∧ Two w b x y z p q r wr) (fun i _ => 3 - (intOf i).toNat)
  case atStart => exact ⟨0, Nat.zero_le _, rfl, T2⟩
  case round =>
    obtain ⟨k, hk, rfl, T⟩ := hrel
    obtain ⟨c0, c1, c2, d0, d1, d2, gT⟩ := T.hold
    by_cases hlt : k < 3
    · have h3 : k = 0 ∨ k = 1 ∨ k = 2 := by omega
      rcases h3 with rfl | rfl | rfl
      · obtain ⟨f1, f2, f3, f4⟩ := part_ok p hp.out
        go_wp2_with (go_at_call 43; refine (signbit_any _ _).mono ?_; rintro e w' ⟨rfl, rfl⟩; rw [f4])
        exact ⟨⟨1, by omega, rfl, T.grown ((Grown.refl _).alloc _ _)⟩, by simp [intOf]⟩
      · obtain ⟨f1, f2, f3, f4⟩ := part_ok q hq.out
        go_wp2_with (go_at_call 43; refine (signbit_any _ _).mono ?_; rintro e w' ⟨rfl, rfl⟩; rw [f4])
        exact ⟨⟨2, by omega, rfl, T.grown ((Grown.refl _).alloc _ _)⟩, by simp [intOf]⟩
      · obtain ⟨f1, f2, f3, f4⟩ := part_ok r hr.out
        go_wp2_with (go_at_call 43; refine (signbit_any _ _).mono ?_; rintro e w' ⟨rfl, rfl⟩; rw [f4])
        exact ⟨⟨3, by omega, rfl, T.grown ((Grown.refl _).alloc _ _)⟩, by simp [intOf]⟩
    · have : k = 3 := by omega
      subst this
      go_wp2_with fail
      have gk : Grown wr wr.drew := Grown.drew (Grown.refl wr)
      go_region_held3 (fun w' => w'.cell? ⟨w.heap.size, 0, none⟩ = some (fl x) ∧ w'.cell? ⟨w.heap.size, 1, none⟩ = some (fl y) ∧ w'.cell? ⟨w.heap.size, 2, none⟩ = some (fl z) ∧
          w'.cell? ⟨b, 0, none⟩ = some (fl p) ∧ w'.cell? ⟨b, 1, none⟩ = some (fl q) ∧ w'.cell? ⟨b, 2, none⟩ = some (fl r) ∧ Grown w w')
        (first | exact T.hold | exact (T.grown gk).hold)
        (first
          | (go_at_call 25; (with_reducible refine (told1_any _).mono ?_); rintro e w' ⟨rfl, gn⟩; replace gk := Grown.trans gk gn)
          | (go_at_call 29; (with_reducible refine (fit_stays _ _ _ _ hp.out hq.out hr.out).mono ?_); rintro e w' ⟨rfl, gn⟩; replace gk := Grown.trans gk gn)
          | (go_at_call 41; (with_reducible refine (same_self _ _ _ _).mono ?_); rintro e w' ⟨rfl, gn⟩; replace gk := Grown.trans gk gn)
          | (go_at_call 39; (with_reducible refine (far_zero _ _ _ _ hx.out hy.out hz.out).mono ?_); rintro e w' ⟨rfl, gn⟩; replace gk := Grown.trans gk gn)
          | (go_at_call 37; (with_reducible refine (lf.out _).mono ?_); rintro e w' ⟨rfl, gn⟩; replace gk := Grown.trans gk gn)
          | (go_at_call 21; (with_reducible refine (float_same _ _).mono ?_); rintro e w' ⟨rfl, rfl⟩))
      go_wp2
      go_ret
      exact ⟨rfl, Grown.trans T.g gk⟩

theorem walk (x y z : Nat) (w0 : (Lit.float .f64 x).wf = true) (w1 : (Lit.float .f64 y).wf = true) (w2 : (Lit.float .f64 z).wf = true) (w : World) :
    Calls Try.prog 9 #[col x y z] w fun e w' => e = .returned (.bool true) ∧ Grown w w' := by
  have hx := wf_lt w0
  have hy := wf_lt w1
  have hz := wf_lt w2
  exact walk1 x y z _ _ _ _ w (Lib.hid hx) (Lib.hid hy) (Lib.hid hz) (Lib.hid rfl) (Lib.hid rfl) (Lib.hid rfl) (Lib.hid rfl) (Lib.hid (partB_le x hx)) (Lib.hid (partB_le y hy)) (Lib.hid (partB_le z hz))
    (Lib.hid (light_some x y z hx hy hz).2.2.2.2.2)

set_option maxRecDepth 100000 in
theorem lifted (os : Os) (started : os.Started) (H : Type) (enc : TypeId × Value → H) :
    ReturnsInHanded {} Try.checked os 9 .any (Rows.tintFitsSpec.pre6 enc Try.prog Try.f9 Rows.tintFitsRow.domain false) (Rows.tintFitsSpec.post enc Try.prog Try.f9 false true false false) := by
  refine returnsInHanded_of_change (C := Try.checked) own started (by kernel_rfl) Try.func9
    (ChangeSpec.witness6 (enc := enc) (C := Try.checked) false ⟨#[], #[.agg #[.float .f64 0, .float .f64 0, .float .f64 0]], []⟩ 8 (by kernel_rfl) (by kernel_rfl) (by kernel_rfl) (by kernel_rfl)) ?_
  intro W base args ds gs before hval0 hW hcnd _
  have hval : ∀ (j : Nat) t v, Try.f9.params[j]? = some t → args[j]? = some v → Value.okWide Try.prog W .any base t v := hval0
  have hW' := hW
  obtain ⟨p, q, hA0, hV, rfl, hfz, hnd⟩ := hW
  have hA : DataW.TrodAll enc Try.prog W 0 (fun _ => true) true Try.f9.params.toList args.toList ds p := hA0
  rw [Try.params9] at hA hval
  obtain ⟨v0, vs0, d0, ds0, p0, q0, hargs, rfl, rfl, h0, r0⟩ := trodAll_cons hA
  obtain ⟨rfl, rfl, rfl⟩ := trodAll_nil r0
  obtain rfl : args = #[v0] := by cases args; simp_all
  obtain ⟨rfl, rfl⟩ := trodVars_none hV
  obtain ⟨x0, y0, z0, dx0, dy0, dz0, m0, rfl, rfl, rfl, hx0, hy0, hz0⟩ := Joins.open_agg3 Try.underlying38 (by kernel_rfl) Try.cells38 (hval 0 38 v0 rfl rfl) h0
  obtain ⟨a0x, e0x, f0x, w0x⟩ := trod_float Try.underlying23 hx0
  simp only [List.cons.injEq, and_true] at e0x
  subst e0x f0x
  obtain ⟨a0y, e0y, f0y, w0y⟩ := trod_float Try.underlying23 hy0
  simp only [List.cons.injEq, and_true] at e0y
  subst e0y f0y
  obtain ⟨a0z, e0z, f0z, w0z⟩ := trod_float Try.underlying23 hz0
  simp only [List.cons.injEq, and_true] at e0z
  subst e0z f0z
  clear hA0 hval0
  simp only [List.append_nil] at hW'
  refine (walk a0x a0y a0z w0x w0y w0z W).mono fun e W' ⟨he, hg⟩ => ?_
  subst he
  exact ⟨_, rfl, post_of_same (pa := []) (pv := []) hW' (fun _ _ _ => (trodAll_cons_mk (shut_bool Try.underlying4 _) trodAll_mk0)) (fun sp _ => (trodAll_cons_mk (Joins.shut_agg3 (y0 := (.lit (.float .f64 a0x), [])) (y1 := (.lit (.float .f64 a0y), [])) (y2 := (.lit (.float .f64 a0z), [])) Try.underlying38 (by kernel_rfl) Try.cells38 (shut_float1 Try.underlying23 w0x) (shut_float1 Try.underlying23 w0y) (shut_float1 Try.underlying23 w0z)) trodAll_mk0)) (fun _ _ => rfl) rfl
    (hg.frame _) hg.2.1 (ok_one (by kernel_rfl) rfl (okWide_bool_mk Try.underlying4 _))⟩

theorem over : Rows.tintFitsRow.holds Try.pinned (OpenSpec.ofChange Rows.tintFitsSpec) :=
  OpenClaim.holds_of_wide 9 Try.f9 rfl rfl rfl rfl rfl rfl rfl ⟨rfl, rfl, rfl, rfl, rfl⟩ rfl rfl rfl rfl rfl (by kernel_rfl) Try.func9 (by kernel_rfl)
    (of_decide_eq_true (by kernel_rfl)) (by unfold Func.isWrapper; first | (rw [if_pos (by decide +kernel)]; kernel_rfl) | (rw [if_neg (by decide +kernel)]; exact ⟨rfl, rfl⟩))
    (fun os started H enc _ => lifted os started H enc)

theorem proved : Rows.TintFitsSaid := over
#print axioms proved
end Go.Proofs.Ytdakpnfkcnnebaa.tintFits
