/- What is no number, without end, nought of either sign, or just below one, has its part and its byte: for each of ten. -/
import Derived.Test.YtdakpnfkcnnebaaWo
import Derived.Deep.RegionHeld3
import Derived.Lib.Hide
namespace Go.Proofs.Ytdakpnfkcnnebaa.tintEdges
open Go.ChangeShapes Go.WideShapes Go.ChangeAt Go.RowKit Fl
set_option linter.unusedVariables false

theorem inf_up (w : World) : Calls Try.prog 44 #[.int .i64 1] w fun e w' => e = .returned (fl 9218868437227405312) ∧ w = w' := by
  go_enter Try.func44, Try.ntmps44
  go_wp2
  go_ret
  exact ⟨rfl, rfl⟩
theorem inf_down (w : World) : Calls Try.prog 44 #[.int .i64 (-1)] w fun e w' => e = .returned (fl 18442240474082181120) ∧ w = w' := by
  go_enter Try.func44, Try.ntmps44
  go_wp2
  go_ret
  exact ⟨rfl, rfl⟩

/-- The three lists. -/
def F : List Nat := [9221120237041090561, 9218868437227405312, 18442240474082181120, 9223372036854775808, 0, 1, 4607182418800017407, 9218868437227405311, 13830554455654793216, 4607182418800017408]
def P : List Nat := [0, 4607182418800017408, 0, 0, 0, 1, 4607182418800017407, 4607182418800017408, 0, 4607182418800017408]
def C : List Int := [0, 255, 0, 0, 0, 0, 255, 255, 0, 255]

/-- What the three arrays hold at a place. -/
structure At (w : World) (i f p : Nat) (c : Int) (W : World) : Prop where
  g : Grown w W
  cf : W.cell? ⟨w.heap.size, i, none⟩ = some (fl f)
  cp : W.cell? ⟨w.heap.size + 1, i, none⟩ = some (fl p)
  cc : W.cell? ⟨w.heap.size + 2, i, none⟩ = some (.int .u8 c)
theorem At.grown {w : World} {i f p : Nat} {c : Int} {W W' : World} (h : At w i f p c W) (g : Grown W W') : At w i f p c W' :=
  ⟨Grown.trans h.g g, Grown.cell g h.cf, Grown.cell g h.cp, Grown.cell g h.cc⟩
theorem At.hold {w : World} {i f p : Nat} {c : Int} {W : World} (h : At w i f p c W) : W.cell? ⟨w.heap.size, i, none⟩ = some (fl f) ∧ W.cell? ⟨w.heap.size + 1, i, none⟩ = some (fl p) ∧ W.cell? ⟨w.heap.size + 1 + 1, i, none⟩ = some (.int .u8 c) ∧ Grown w W :=
  ⟨h.cf, h.cp, h.cc, h.g⟩
def world (w : World) : World := ((w.alloc (.cells #[fl 9221120237041090561, fl 9218868437227405312, fl 18442240474082181120, fl 9223372036854775808, fl 0, fl 1, fl 4607182418800017407, fl 9218868437227405311, fl 13830554455654793216, fl 4607182418800017408] 23)).alloc
    (.cells #[fl 0, fl 4607182418800017408, fl 0, fl 0, fl 0, fl 1, fl 4607182418800017407, fl 4607182418800017408, fl 0, fl 4607182418800017408] 23)).alloc
    (.cells #[.int .u8 0, .int .u8 255, .int .u8 0, .int .u8 0, .int .u8 0, .int .u8 0, .int .u8 255, .int .u8 255, .int .u8 0, .int .u8 255] 5)
theorem at_world (w : World) (i : Nat) (hi : i < 10) : At w i (F.getD i 0) (P.getD i 0) (C.getD i 0) (world w) := by
  unfold world F P C
  refine ⟨(((Grown.refl _).alloc _ _).alloc _ _).alloc _ _, ?_, ?_, ?_⟩
  all_goals
    match i, hi with
    | 0, _ => go_simp
    | 1, _ => go_simp
    | 2, _ => go_simp
    | 3, _ => go_simp
    | 4, _ => go_simp
    | 5, _ => go_simp
    | 6, _ => go_simp
    | 7, _ => go_simp
    | 8, _ => go_simp
    | 9, _ => go_simp
theorem all_right : ∀ i : Fin 10, F.getD i 0 < 2 ^ 64 ∧ partB (F.getD i 0) = P.getD i 0 ∧ (partI (F.getD i 0) 255 : Int) = C.getD i 0 := by decide +kernel

set_option maxHeartbeats 4000000 in
set_option maxRecDepth 100000 in
theorem walk1 (a : Int) (w : World) (i f p : Nat) (c : Int) (hi : wrap64 ((IntKind.u64.wrap a).tmod 10) = (i : Int)) (i1 : (i : Int) < 10) (hA : At w i f p c (world w)) (hf : f < 2 ^ 64) (ep : partB f = p) (ec : (partI f 255 : Int) = c) :
    Calls Try.prog 12 #[.int .i64 a] w fun e w' => e = .returned (.bool true) ∧ Grown w w' := by
  have i0 : (0 : Int) ≤ (i : Int) := by omega
  have EP := Lib.hid ep
  have EC := Lib.hid ec
  have HF := Lib.hid hf
  clear ep ec hf
  unfold world at hA
  go_enter Try.func12, Try.ntmps12
  go_wp2_with fail
  refine (nan_any _).mono ?_
  rintro e w1 ⟨rfl, rfl⟩
  go_wp2_with fail
  refine (inf_up _).mono ?_
  rintro e w1 ⟨rfl, rfl⟩
  go_wp2_with fail
  refine (inf_down _).mono ?_
  rintro e w1 ⟨rfl, rfl⟩
  go_wp2_with fail
  refine (copysign_neg _).mono ?_
  rintro e w1 ⟨rfl, rfl⟩
  go_wp2_with fail
  generalize ((w.alloc (.cells #[fl 9221120237041090561, fl 9218868437227405312, fl 18442240474082181120, fl 9223372036854775808, fl 0, fl 1, fl 4607182418800017407, fl 9218868437227405311, fl 13830554455654793216, fl 4607182418800017408] 23)).alloc
    (.cells #[fl 0, fl 4607182418800017408, fl 0, fl 0, fl 0, fl 1, fl 4607182418800017407, fl 4607182418800017408, fl 0, fl 4607182418800017408] 23)).alloc
    (.cells #[.int .u8 0, .int .u8 255, .int .u8 0, .int .u8 0, .int .u8 0, .int .u8 0, .int .u8 255, .int .u8 255, .int .u8 0, .int .u8 255] 5) = W at *
  have gk : Grown W W.drew := Grown.drew (Grown.refl W)
  go_region_held3 (fun w' => w'.cell? ⟨w.heap.size, i, none⟩ = some (fl f) ∧ w'.cell? ⟨w.heap.size + 1, i, none⟩ = some (fl p) ∧ w'.cell? ⟨w.heap.size + 1 + 1, i, none⟩ = some (.int .u8 c) ∧ Grown w w')
    (first | exact hA.hold | exact (hA.grown gk).hold)
    (first
      | (go_at_call 25; (with_reducible refine (told1_any _).mono ?_); rintro e w' ⟨rfl, gn⟩; replace gk := Grown.trans gk gn)
      | (go_at_call 26; (with_reducible refine (part_any _ _).mono ?_); rintro e w' ⟨rfl, rfl⟩; rw [EP.out])
      | (go_at_call 21; (with_reducible refine (float_same _ _).mono ?_); rintro e w' ⟨rfl, rfl⟩)
      | (go_at_call 33; (with_reducible refine (byte_any _ _ HF.out).mono ?_); rintro e w' ⟨rfl, rfl⟩; rw [EC.out]))
  go_wp2
  go_ret
  exact ⟨rfl, Grown.trans hA.g gk⟩

theorem walk (a : Int) (w0 : (Lit.int .i64 a).wf = true) (w : World) : Calls Try.prog 12 #[.int .i64 a] w fun e w' => e = .returned (.bool true) ∧ Grown w w' := by
  obtain ⟨i, hi, i0, i1⟩ := rest a 10 (by omega) (by omega)
  obtain ⟨i, rfl⟩ := Int.eq_ofNat_of_zero_le i0
  obtain ⟨h1, h2, h3⟩ := all_right ⟨i, by omega⟩
  exact walk1 a w i _ _ _ hi i1 (at_world w i (by omega)) h1 h2 h3

set_option maxRecDepth 100000 in
theorem lifted (os : Os) (started : os.Started) (H : Type) (enc : TypeId × Value → H) :
    ReturnsInHanded {} Try.checked os 12 .any (Rows.tintEdgesSpec.pre6 enc Try.prog Try.f12 Rows.tintEdgesRow.domain false) (Rows.tintEdgesSpec.post enc Try.prog Try.f12 false true false false) := by
  refine returnsInHanded_of_change (C := Try.checked) own started (by kernel_rfl) Try.func12
    (ChangeSpec.witness6 (enc := enc) (C := Try.checked) false ⟨#[], #[.int .i64 0], []⟩ 8 (by kernel_rfl) (by kernel_rfl) (by kernel_rfl) (by kernel_rfl)) ?_
  intro W base args ds gs before hval0 hW hcnd _
  have hval : ∀ (j : Nat) t v, Try.f12.params[j]? = some t → args[j]? = some v → Value.okWide Try.prog W .any base t v := hval0
  have hW' := hW
  obtain ⟨p, q, hA0, hV, rfl, hfz, hnd⟩ := hW
  have hA : DataW.TrodAll enc Try.prog W 0 (fun _ => true) true Try.f12.params.toList args.toList ds p := hA0
  rw [Try.params12] at hA hval
  obtain ⟨v0, vs0, d0, ds0, p0, q0, hargs, rfl, rfl, h0, r0⟩ := trodAll_cons hA
  obtain ⟨rfl, rfl, rfl⟩ := trodAll_nil r0
  obtain rfl : args = #[v0] := by cases args; simp_all
  obtain ⟨rfl, rfl⟩ := trodVars_none hV
  obtain ⟨a0, rfl, rfl, rfl, w0⟩ := open_int Try.underlying3 (hval 0 3 v0 rfl rfl) h0
  clear hA0 hval0
  simp only [List.append_nil] at hW'
  refine (walk a0 w0 W).mono fun e W' ⟨he, hg⟩ => ?_
  subst he
  exact ⟨_, rfl, post_of_same (pa := []) (pv := []) hW' (fun _ _ _ => (trodAll_cons_mk (shut_bool Try.underlying4 _) trodAll_mk0)) (fun sp _ => (trodAll_cons_mk (shut_int Try.underlying3 w0) trodAll_mk0)) (fun _ _ => rfl) rfl
    (hg.frame _) hg.2.1 (ok_one (by kernel_rfl) rfl (okWide_bool_mk Try.underlying4 _))⟩

theorem over : Rows.tintEdgesRow.holds Try.pinned (OpenSpec.ofChange Rows.tintEdgesSpec) :=
  OpenClaim.holds_of_wide 12 Try.f12 rfl rfl rfl rfl rfl rfl rfl ⟨rfl, rfl, rfl, rfl, rfl⟩ rfl rfl rfl rfl rfl (by kernel_rfl) Try.func12 (by kernel_rfl)
    (of_decide_eq_true (by kernel_rfl)) (by unfold Func.isWrapper; first | (rw [if_pos (by decide +kernel)]; kernel_rfl) | (rw [if_neg (by decide +kernel)]; exact ⟨rfl, rfl⟩))
    (fun os started H enc _ => lifted os started H enc)

theorem proved : Rows.TintEdgesSaid := over
#print axioms proved
end Go.Proofs.Ytdakpnfkcnnebaa.tintEdges
