/- Parts, bytes, lights and mixes are what the document says, bit by bit: for any two colours, any float and any byte. -/
import Derived.Test.YtdakpnfkcnnebaaWo
import Derived.Test.YtdakpnfkcnnebaaWy
import Derived.Test.YtdakpnfkcnnebaaWz
import Derived.Lib.Hide
namespace Go.Proofs.Ytdakpnfkcnnebaa.tintAsks
open Go.ChangeShapes Go.WideShapes Go.ChangeAt Go.RowKit Fl
set_option linter.unusedVariables false

theorem sameB_self (x : Nat) : sameB x x = true := by
  unfold sameB
  cases h : isN x
  · rw [Bool.or_self, if_neg (by decide), order_self x (notN x h)]; simp
  · rfl
theorem all3_self (x y z : Nat) : all3 (sameB x x) (sameB y y) (sameB z z) = true := by
  rw [sameB_self, sameB_self, sameB_self]; rfl
theorem part_lt (x : Nat) (h : x < 2 ^ 64) : partB x < 2 ^ 64 := Nat.lt_of_le_of_lt (partB_le x h) (by decide)
theorem mixC_lt (x x' u : Nat) (hx : x < 2 ^ 64) (hx' : x' < 2 ^ 64) (hu : u ≤ one) : mixC x x' u < 2 ^ 64 := by
  unfold mixC
  split
  · exact hx
  · split
    · exact hx'
    · have h := (mix1_some (partB x) (partB x') u (partB_le x hx) (partB_le x' hx') hu).2.2
      have := Ieee.double.add_lt h
      exact this

theorem sameR_self (x y z : Nat) (w : World) (hx : x < 2 ^ 64) (hy : y < 2 ^ 64) (hz : z < 2 ^ 64) : Calls Try.prog 28 #[col x y z, col x y z] w fun e w' => e = .returned (.bool true) ∧ Grown w w' := by
  have := sameR_any x y z x y z w hx hy hz hx hy hz
  rw [all3_self] at this
  exact this
theorem fitW_grown (x y z : Nat) (w : World) : Grown w (fitW x y z w) := by
  unfold fitW
  repeat (first | exact Grown.refl _ | apply Grown.drew | apply Grown.alloc)
theorem fit_grown (x y z : Nat) (w : World) : Calls Try.prog 29 #[col x y z] w fun e w' => e = .returned (col (partB x) (partB y) (partB z)) ∧ Grown w w' :=
  (fit_any x y z w).mono fun _ _ ⟨he, hw⟩ => ⟨he, hw ▸ fitW_grown x y z w⟩
theorem fitR_grown (x y z : Nat) (w : World) (hx : x < 2 ^ 64) (hy : y < 2 ^ 64) (hz : z < 2 ^ 64) : Calls Try.prog 30 #[col x y z] w fun e w' => e = .returned (col (partB x) (partB y) (partB z)) ∧ Grown w w' :=
  (fitR_any x y z w hx hy hz).mono fun _ _ ⟨he, hw⟩ => ⟨he, hw ▸ fitW_grown x y z w⟩

set_option maxHeartbeats 8000000 in
set_option maxRecDepth 100000 in
theorem walk (x y z x' y' z' t : Nat) (c : Int) (hx0 : (Lit.float .f64 x).wf = true) (hy0 : (Lit.float .f64 y).wf = true) (hz0 : (Lit.float .f64 z).wf = true)
    (hx0' : (Lit.float .f64 x').wf = true) (hy0' : (Lit.float .f64 y').wf = true) (hz0' : (Lit.float .f64 z').wf = true) (ht0 : (Lit.float .f64 t).wf = true) (hc0 : (Lit.int .u8 c).wf = true) (w : World) :
    Calls Try.prog 7 #[col x y z, col x' y' z', fl t, .int .u8 c] w fun e w' => e = .returned (.bool true) ∧ Grown w w' := by
  have hx := Lib.hid (wf_lt hx0)
  have hy := Lib.hid (wf_lt hy0)
  have hz := Lib.hid (wf_lt hz0)
  have hx' := Lib.hid (wf_lt hx0')
  have hy' := Lib.hid (wf_lt hy0')
  have hz' := Lib.hid (wf_lt hz0')
  have ht := Lib.hid (wf_lt ht0)
  have hc : 0 ≤ c ∧ c ≤ 255 := by
    simp only [Lit.wf, Bool.and_eq_true, decide_eq_true_eq] at hc0
    exact hc0
  clear hx0 hy0 hz0 hx0' hy0' hz0' ht0 hc0
  have hB := boxes w x y z x' y' z'
  go_enter Try.func7, Try.ntmps7
  go_wp2_with fail
  generalize ((w.alloc (Obj.cells #[fl x, fl y, fl z] 38)).alloc (Obj.cells #[fl x', fl y', fl z'] 38)) = W at *
  have gk : Grown W W.drew := Grown.drew (Grown.refl W)
  simp only [List.append_eq, List.cons_append, List.nil_append]
  go_region_held3 (fun w' => w'.cell? ⟨w.heap.size, 0, none⟩ = some (fl x) ∧ w'.cell? ⟨w.heap.size, 1, none⟩ = some (fl y) ∧ w'.cell? ⟨w.heap.size, 2, none⟩ = some (fl z) ∧
      w'.cell? ⟨w.heap.size + 1, 0, none⟩ = some (fl x') ∧ w'.cell? ⟨w.heap.size + 1, 1, none⟩ = some (fl y') ∧ w'.cell? ⟨w.heap.size + 1, 2, none⟩ = some (fl z') ∧ Grown w w')
    (first | exact hB.hold | exact (hB.grown gk).hold)
    (first
      | (go_at_call 25; (with_reducible refine (told1_any _).mono ?_); rintro e w' ⟨rfl, gn⟩; replace gk := Grown.trans gk gn)
      | (go_at_call 26; (with_reducible refine (part_any _ _).mono ?_); rintro e w' ⟨rfl, rfl⟩)
      | (go_at_call 27; (with_reducible refine (partR_any _ _ ht.out).mono ?_); rintro e w' ⟨rfl, rfl⟩)
      | (go_at_call 21; (with_reducible refine (float_same _ _).mono ?_); rintro e w' ⟨rfl, rfl⟩)
      | (go_at_call 29; (with_reducible refine (fit_grown _ _ _ _).mono ?_); rintro e w' ⟨rfl, gn⟩; replace gk := Grown.trans gk gn)
      | (go_at_call 30; (with_reducible refine (fitR_grown _ _ _ _ hx.out hy.out hz.out).mono ?_); rintro e w' ⟨rfl, gn⟩; replace gk := Grown.trans gk gn)
      | (go_at_call 28; (with_reducible refine (sameR_self _ _ _ _ (part_lt _ hx.out) (part_lt _ hy.out) (part_lt _ hz.out)).mono ?_); rintro e w' ⟨rfl, gn⟩; replace gk := Grown.trans gk gn)
      | (go_at_call 28; (with_reducible refine (sameR_self _ _ _ _ (mixC_lt _ _ _ hx.out hx'.out (partB_le t ht.out)) (mixC_lt _ _ _ hy.out hy'.out (partB_le t ht.out)) (mixC_lt _ _ _ hz.out hz'.out (partB_le t ht.out))).mono ?_); rintro e w' ⟨rfl, gn⟩; replace gk := Grown.trans gk gn)
      | (go_at_call 28; (with_reducible refine (sameR_any _ _ _ _ _ _ _ hx.out hy.out hz.out hx'.out hy'.out hz'.out).mono ?_); rintro e w' ⟨rfl, gn⟩; replace gk := Grown.trans gk gn)
      | (go_at_call 31; (with_reducible refine (mix_any _ _ _ _ _ _ _ _ hx.out hy.out hz.out hx'.out hy'.out hz'.out ht.out).mono ?_); rintro e w' ⟨rfl, gn⟩; replace gk := Grown.trans gk gn)
      | (go_at_call 32; (with_reducible refine (mixR_any _ _ _ _ _ _ _ _ hx.out hy.out hz.out hx'.out hy'.out hz'.out ht.out).mono ?_); rintro e w' ⟨rfl, gn⟩; replace gk := Grown.trans gk gn)
      | (go_at_call 33; (with_reducible refine (byte_any _ _ ht.out).mono ?_); rintro e w' ⟨rfl, rfl⟩)
      | (go_at_call 34; (with_reducible refine (byteR_any _ _ ht.out).mono ?_); rintro e w' ⟨rfl, rfl⟩)
      | (go_at_call 35; (with_reducible refine (of_any _ _ hc.1 hc.2).mono ?_); rintro e w' ⟨rfl, rfl⟩)
      | (go_at_call 36; (with_reducible refine (ofR_any _ _ hc.1 hc.2).mono ?_); rintro e w' ⟨rfl, rfl⟩)
      | (go_at_call 37; (with_reducible refine (light_any _ _ _ _ hx.out hy.out hz.out).mono ?_); rintro e w' ⟨rfl, gn⟩; replace gk := Grown.trans gk gn)
      | (go_at_call 38; (with_reducible refine (lightR_any _ _ _ _ hx.out hy.out hz.out).mono ?_); rintro e w' ⟨rfl, gn⟩; replace gk := Grown.trans gk gn)
      | (go_at_call 39; (with_reducible refine (far_any _ _ _ _ _ _ _ hx.out hy.out hz.out hx'.out hy'.out hz'.out).mono ?_); rintro e w' ⟨rfl, gn⟩; replace gk := Grown.trans gk gn)
      | (go_at_call 40; (with_reducible refine (farR_any _ _ _ _ _ _ _ hx.out hy.out hz.out hx'.out hy'.out hz'.out).mono ?_); rintro e w' ⟨rfl, gn⟩; replace gk := Grown.trans gk gn)
      | (go_at_call 41; (with_reducible refine (same_any _ _ _ _ _ _ _).mono ?_); rintro e w' ⟨rfl, gn⟩; replace gk := Grown.trans gk gn))
  go_wp2
  go_ret
  exact ⟨rfl, Grown.trans hB.g gk⟩

set_option maxRecDepth 100000 in
theorem lifted (os : Os) (started : os.Started) (H : Type) (enc : TypeId × Value → H) :
    ReturnsInHanded {} Try.checked os 7 .any (Rows.tintAsksSpec.pre6 enc Try.prog Try.f7 Rows.tintAsksRow.domain false) (Rows.tintAsksSpec.post enc Try.prog Try.f7 false true false false) := by
  refine returnsInHanded_of_change (C := Try.checked) own started (by kernel_rfl) Try.func7
    (ChangeSpec.witness6 (enc := enc) (C := Try.checked) false ⟨#[], #[.agg #[.float .f64 0, .float .f64 0, .float .f64 0], .agg #[.float .f64 0, .float .f64 0, .float .f64 0], .float .f64 0, .int .u8 0], []⟩ 8 (by kernel_rfl) (by kernel_rfl) (by kernel_rfl) (by kernel_rfl)) ?_
  intro W base args ds gs before hval0 hW hcnd _
  have hval : ∀ (j : Nat) t v, Try.f7.params[j]? = some t → args[j]? = some v → Value.okWide Try.prog W .any base t v := hval0
  have hW' := hW
  obtain ⟨p, q, hA0, hV, rfl, hfz, hnd⟩ := hW
  have hA : DataW.TrodAll enc Try.prog W 0 (fun _ => true) true Try.f7.params.toList args.toList ds p := hA0
  rw [Try.params7] at hA hval
  obtain ⟨v0, vs0, d0, ds0, p0, q0, hargs, rfl, rfl, h0, r0⟩ := trodAll_cons hA
  obtain ⟨v1, vs1, d1, ds1, p1, q1, rfl, rfl, rfl, h1, r1⟩ := trodAll_cons r0
  obtain ⟨v2, vs2, d2, ds2, p2, q2, rfl, rfl, rfl, h2, r2⟩ := trodAll_cons r1
  obtain ⟨v3, vs3, d3, ds3, p3, q3, rfl, rfl, rfl, h3, r3⟩ := trodAll_cons r2
  obtain ⟨rfl, rfl, rfl⟩ := trodAll_nil r3
  obtain rfl : args = #[v0, v1, v2, v3] := by cases args; simp_all
  obtain ⟨rfl, rfl⟩ := trodVars_none hV
  obtain ⟨x0, y0, z0, dx0, dy0, dz0, m0, rfl, rfl, rfl, hx0, hy0, hz0⟩ := Joins.open_agg3 Try.underlying38 (by kernel_rfl) Try.cells38 (hval 0 38 v0 rfl rfl) h0
  obtain ⟨a0x, e0x, f0x, w0x⟩ := trod_float Try.underlying23 hx0
  simp only [List.cons.injEq, and_true] at e0x
  subst e0x f0x
  obtain ⟨a0y, e0y, f0y, w0y⟩ := trod_float Try.underlying23 hy0
  simp only [List.cons.injEq, and_true] at e0y
  subst e0y f0y
  obtain ⟨a0z, e0z, f0z, w0z⟩ := trod_float Try.underlying23 hz0
  simp only [List.cons.injEq, and_true] at e0z
  subst e0z f0z
  obtain ⟨x1, y1, z1, dx1, dy1, dz1, m1, rfl, rfl, rfl, hx1, hy1, hz1⟩ := Joins.open_agg3 Try.underlying38 (by kernel_rfl) Try.cells38 (hval 1 38 v1 rfl rfl) h1
  obtain ⟨a1x, e1x, f1x, w1x⟩ := trod_float Try.underlying23 hx1
  simp only [List.cons.injEq, and_true] at e1x
  subst e1x f1x
  obtain ⟨a1y, e1y, f1y, w1y⟩ := trod_float Try.underlying23 hy1
  simp only [List.cons.injEq, and_true] at e1y
  subst e1y f1y
  obtain ⟨a1z, e1z, f1z, w1z⟩ := trod_float Try.underlying23 hz1
  simp only [List.cons.injEq, and_true] at e1z
  subst e1z f1z
  obtain ⟨a2, rfl, rfl, rfl, w2⟩ := open_float Try.underlying23 (hval 2 23 v2 rfl rfl) h2
  obtain ⟨a3, rfl, rfl, rfl, w3⟩ := open_int Try.underlying5 (hval 3 5 v3 rfl rfl) h3
  clear hA0 hval0
  simp only [List.append_nil] at hW'
  refine (walk a0x a0y a0z a1x a1y a1z a2 a3 w0x w0y w0z w1x w1y w1z w2 w3 W).mono fun e W' ⟨he, hg⟩ => ?_
  subst he
  exact ⟨_, rfl, post_of_same (pa := []) (pv := []) hW' (fun _ _ _ => (trodAll_cons_mk (shut_bool Try.underlying4 _) trodAll_mk0)) (fun sp _ => (trodAll_cons_mk (Joins.shut_agg3 (y0 := (.lit (.float .f64 a0x), [])) (y1 := (.lit (.float .f64 a0y), [])) (y2 := (.lit (.float .f64 a0z), [])) Try.underlying38 (by kernel_rfl) Try.cells38 (shut_float1 Try.underlying23 w0x) (shut_float1 Try.underlying23 w0y) (shut_float1 Try.underlying23 w0z)) (trodAll_cons_mk (Joins.shut_agg3 (y0 := (.lit (.float .f64 a1x), [])) (y1 := (.lit (.float .f64 a1y), [])) (y2 := (.lit (.float .f64 a1z), [])) Try.underlying38 (by kernel_rfl) Try.cells38 (shut_float1 Try.underlying23 w1x) (shut_float1 Try.underlying23 w1y) (shut_float1 Try.underlying23 w1z)) (trodAll_cons_mk (shut_float Try.underlying23 w2) (trodAll_cons_mk (shut_int Try.underlying5 w3) trodAll_mk0))))) (fun _ _ => rfl) rfl
    (hg.frame _) hg.2.1 (ok_one (by kernel_rfl) rfl (okWide_bool_mk Try.underlying4 _))⟩

theorem over : Rows.tintAsksRow.holds Try.pinned (OpenSpec.ofChange Rows.tintAsksSpec) :=
  OpenClaim.holds_of_wide 7 Try.f7 rfl rfl rfl rfl rfl rfl rfl ⟨rfl, rfl, rfl, rfl, rfl⟩ rfl rfl rfl rfl rfl (by kernel_rfl) Try.func7 (by kernel_rfl)
    (of_decide_eq_true (by kernel_rfl)) (by unfold Func.isWrapper; first | (rw [if_pos (by decide +kernel)]; kernel_rfl) | (rw [if_neg (by decide +kernel)]; exact ⟨rfl, rfl⟩))
    (fun os started H enc _ => lifted os started H enc)

theorem proved : Rows.TintAsksSaid := over
#print axioms proved
end Go.Proofs.Ytdakpnfkcnnebaa.tintAsks
