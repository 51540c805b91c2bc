/- The walk of the document's own Mix. -/
import Derived.Test.YtdakpnfkcnnebaaWx
import Derived.Deep.RegionHeld3
import Derived.Deep.DeepCutAuto
namespace Go.Proofs.Ytdakpnfkcnnebaa
open Go.ChangeShapes Go.WideShapes Go.ChangeAt Go.RowKit Fl

theorem fitW_grown (x y z : Nat) (w : World) : Grown w (fitW x y z w) := by
  unfold fitW
  repeat (first | exact Grown.refl _ | apply Grown.drew | apply Grown.alloc)
theorem fit_grown (x y z : Nat) (w : World) : Calls Try.prog 29 #[col x y z] w fun e w' => e = .returned (col (partB x) (partB y) (partB z)) ∧ Grown w w' :=
  (fit_any x y z w).mono fun _ _ ⟨he, hw⟩ => ⟨he, hw ▸ fitW_grown x y z w⟩
theorem fitR_grown (x y z : Nat) (w : World) (hx : x < 2 ^ 64) (hy : y < 2 ^ 64) (hz : z < 2 ^ 64) : Calls Try.prog 30 #[col x y z] w fun e w' => e = .returned (col (partB x) (partB y) (partB z)) ∧ Grown w w' :=
  (fitR_any x y z w hx hy hz).mono fun _ _ ⟨he, hw⟩ => ⟨he, hw ▸ fitW_grown x y z w⟩

/-- The result's box. -/
structure Res (w W : World) : Prop where
  c0 : ∃ v, W.cell? ⟨w.heap.size + 2, 0, none⟩ = some v
  c1 : ∃ v, W.cell? ⟨w.heap.size + 2, 1, none⟩ = some v
  c2 : ∃ v, W.cell? ⟨w.heap.size + 2, 2, none⟩ = some v
  f0 : W.frozen? ⟨w.heap.size + 2, 0, none⟩ = false
  f1 : W.frozen? ⟨w.heap.size + 2, 1, none⟩ = false
  f2 : W.frozen? ⟨w.heap.size + 2, 2, none⟩ = false
theorem Res.grown {w W W' : World} (h : Res w W) (g : Grown W W') : Res w W' :=
  ⟨let ⟨v, e⟩ := h.c0; ⟨v, Grown.cell g e⟩, let ⟨v, e⟩ := h.c1; ⟨v, Grown.cell g e⟩, let ⟨v, e⟩ := h.c2; ⟨v, Grown.cell g e⟩, (g.2.1 _).trans h.f0, (g.2.1 _).trans h.f1, (g.2.1 _).trans h.f2⟩

set_option maxHeartbeats 4000000 in
theorem mixR_any (x y z x' y' z' t : Nat) (w : World) (hx : x < 2 ^ 64) (hy : y < 2 ^ 64) (hz : z < 2 ^ 64) (hx' : x' < 2 ^ 64) (hy' : y' < 2 ^ 64) (hz' : z' < 2 ^ 64) (ht : t < 2 ^ 64) :
    Calls Try.prog 32 #[col x y z, col x' y' z', fl t] w fun e w' => e = .returned (col (mixC x x' (partB t)) (mixC y y' (partB t)) (mixC z z' (partB t))) ∧ Grown w w' := by
  have hu := partB_le t ht
  unfold mixC
  by_cases h0 : partB t = 0
  · simp only [if_pos h0]
    have t0 := is0 _ hu
    rw [h0, decide_eq_true (rfl : (0:Nat) = 0)] at t0
    go_enter Try.func32, Try.ntmps32
    go_wp2_with (go_at_call 27; refine (partR_any _ _ ht).mono ?_; rintro e w' ⟨rfl, rfl⟩; rw [h0])
    exact bodyPost_ret (v := col x y z) (by simp [results, Try.results32, go_sem]) rfl ⟨rfl, by repeat (first | exact Grown.refl _ | apply Grown.drew | apply Grown.alloc)⟩
  · simp only [if_neg h0]
    have t0 := is0 _ hu
    rw [decide_eq_false h0] at t0
    by_cases h1 : partB t = one
    · simp only [if_pos h1]
      have t1 := is1 _ hu
      rw [h1] at t0 t1
      rw [decide_eq_true (rfl : one = one)] at t1
      clear h0
      go_enter Try.func32, Try.ntmps32
      go_wp2_with (go_at_call 27; refine (partR_any _ _ ht).mono ?_; rintro e w' ⟨rfl, rfl⟩; rw [h1])
      exact bodyPost_ret (v := col x' y' z') (by simp [results, Try.results32, go_sem]) rfl ⟨rfl, by repeat (first | exact Grown.refl _ | apply Grown.drew | apply Grown.alloc)⟩
    · simp only [if_neg h1]
      have t1 := is1 _ hu
      rw [decide_eq_false h1] at t1
      have px := partB_le x hx
      have py := partB_le y hy
      have pz := partB_le z hz
      have px' := partB_le x' hx'
      have py' := partB_le y' hy'
      have pz' := partB_le z' hz'
      clear h0 h1
      have hB0 := (boxes w x y z x' y' z').grown ((Grown.refl _).alloc #[Value.float FloatKind.f64 0, Value.float FloatKind.f64 0, Value.float FloatKind.f64 0] 38)
      have R0 : Res w (((w.alloc (Obj.cells #[fl x, fl y, fl z] 38)).alloc (Obj.cells #[fl x', fl y', fl z'] 38)).alloc (Obj.cells #[Value.float FloatKind.f64 0, Value.float FloatKind.f64 0, Value.float FloatKind.f64 0] 38)) :=
        ⟨⟨Value.float FloatKind.f64 0, by go_simp⟩, ⟨Value.float FloatKind.f64 0, by go_simp⟩, ⟨Value.float FloatKind.f64 0, by go_simp⟩, by go_simp, by go_simp, by go_simp⟩
      go_enter Try.func32, Try.ntmps32
      go_wp2_with (go_at_call 27; refine (partR_any _ _ ht).mono ?_; rintro e w' ⟨rfl, rfl⟩)
      generalize (((w.alloc (Obj.cells #[fl x, fl y, fl z] 38)).alloc (Obj.cells #[fl x', fl y', fl z'] 38)).alloc (Obj.cells #[Value.float FloatKind.f64 0, Value.float FloatKind.f64 0, Value.float FloatKind.f64 0] 38)) = W at *
      go_cut [8, 9] (fun s8 s9 wx => ∃ b8 b9 : Nat, s8 = .pointer (some ⟨b8, 0, none⟩) ∧ s9 = .pointer (some ⟨b9, 0, none⟩) ∧ wx.cell? ⟨b8, 0, none⟩ = some (fl (partB x)) ∧ wx.cell? ⟨b8, 1, none⟩ = some (fl (partB y)) ∧ wx.cell? ⟨b8, 2, none⟩ = some (fl (partB z)) ∧
        wx.cell? ⟨b9, 0, none⟩ = some (fl (partB x')) ∧ wx.cell? ⟨b9, 1, none⟩ = some (fl (partB y')) ∧ wx.cell? ⟨b9, 2, none⟩ = some (fl (partB z')) ∧ Grown W wx)
      case first =>
        obtain ⟨hc0, hc1, hc2, hd0, hd1, hd2, hg⟩ := hB0.hold
        have n0 := World.new_ne W _ hc0
        have n1 := World.new_ne W _ hd0
        have n2 : w.heap.size < W.heap.size := World.block_lt_of_cell? W _ hc0
        have n3 : w.heap.size + 1 < W.heap.size := World.block_lt_of_cell? W _ hd0
        go_region_held3 (fun w' => w'.cell? ⟨w.heap.size, 0, none⟩ = some (fl x) ∧ w'.cell? ⟨w.heap.size, 1, none⟩ = some (fl y) ∧ w'.cell? ⟨w.heap.size, 2, none⟩ = some (fl z) ∧
          w'.cell? ⟨w.heap.size + 1, 0, none⟩ = some (fl x') ∧ w'.cell? ⟨w.heap.size + 1, 1, none⟩ = some (fl y') ∧ w'.cell? ⟨w.heap.size + 1, 2, none⟩ = some (fl z') ∧ Grown w w') (exact Boxes.hold (Boxes.grown hB0 (by repeat (first | exact Grown.refl _ | apply Grown.drew | apply Grown.alloc))))
          (first
            | (go_at_call_of 30 (Value.agg #[fl x, fl y, fl z]); (with_reducible refine (fitR_any x y z _ hx hy hz).mono ?_); rintro e w' ⟨rfl, rfl⟩; unfold fitW)
            | (go_at_call 30; (with_reducible refine (fitR_any x' y' z' _ hx' hy' hz').mono ?_); rintro e w' ⟨rfl, rfl⟩; unfold fitW))
        all_goals
          go_wp2_with fail
          go_meet
          refine ⟨_, _, rfl, rfl, ?_, ?_, ?_, ?_, ?_, ?_, ?_⟩ <;> first | (go_simp; done) | (repeat (first | exact Grown.refl _ | apply Grown.drew | apply Grown.alloc))
      case rest =>
        obtain ⟨b8, b9, rfl, rfl, e0, e1, e2, f0, f1, f2, hg⟩ := hcut
        have R1 := (R0.grown hg)
        obtain ⟨v0, q0⟩ := R1.c0
        obtain ⟨v1, q1⟩ := R1.c1
        obtain ⟨v2, q2⟩ := R1.c2
        have z0 := R1.f0
        have z1 := R1.f1
        have z2 := R1.f2
        have zs : w.heap.size + 2 < wc.heap.size := World.block_lt_of_cell? wc _ q0
        have gw : Grown w wc := Grown.trans hB0.g hg
        clear R1 R0 hB0 hg
        have q0' : wc.cell? ⟨w.heap.size + 1 + 1, 0, none⟩ = some v0 := q0
        have q1' : wc.cell? ⟨w.heap.size + 1 + 1, 1, none⟩ = some v1 := q1
        have q2' : wc.cell? ⟨w.heap.size + 1 + 1, 2, none⟩ = some v2 := q2
        have z0' : wc.frozen? ⟨w.heap.size + 1 + 1, 0, none⟩ = false := z0
        have z1' : wc.frozen? ⟨w.heap.size + 1 + 1, 1, none⟩ = false := z1
        have z2' : wc.frozen? ⟨w.heap.size + 1 + 1, 2, none⟩ = false := z2
        clear q0 q1 q2 z0 z1 z2
        go_wp2_with fail
        refine still_tail 19 (by kernel_rfl) (by kernel_rfl) ?_
        simp only [List.take_succ_cons, List.take_zero, List.drop_succ_cons, List.drop_zero]
        repeat (first | still_step | (refine wpStill_step (fun K hK => ?_); go_simp; refine ⟨_, (one_any _ _ _ _ (by assumption) (by assumption) hu).mono fun _ _ ⟨he, hw⟩ => ⟨he, hw.symm⟩, hK _ ?_⟩; clear hK K))
        refine wpStill_nil ?_
        go_wp2
        exact bodyPost_ret (v := col (mix1 (partB x) (partB x') (partB t)) (mix1 (partB y) (partB y') (partB t)) (mix1 (partB z) (partB z') (partB t))) (by simp [results, Try.results32, go_sem, q0', q1', q2']) rfl ⟨rfl, Grown.drew (Grown.setCell (Grown.setCell (Grown.setCell gw (by simp; omega) _) (by simp; omega) _) (by simp; omega) _)⟩
end Go.Proofs.Ytdakpnfkcnnebaa
