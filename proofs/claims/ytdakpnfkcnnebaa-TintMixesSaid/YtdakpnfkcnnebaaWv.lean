/- The walks of tint's Far, and of the document's own. -/
import Derived.Test.YtdakpnfkcnnebaaWu
import Derived.Deep.RegionHeld3
namespace Go.Proofs.Ytdakpnfkcnnebaa
open Go.ChangeShapes Go.WideShapes Go.ChangeAt Go.RowKit Fl
def farB (a b : Nat) : Nat := absB (fsub a b)
theorem Grown.cell {W w' : World} (h : Grown W w') {b o : Nat} {v : Value} (hc : W.cell? ⟨b, o, none⟩ = some v) : w'.cell? ⟨b, o, none⟩ = some v := by
  have hb : b < W.heap.size := World.block_lt_of_cell? W _ hc
  have h3 := h.1.2.2 b hb
  have h4 : W.heap[b]? = some W.heap[b] := Array.getElem?_eq_getElem hb
  have h5 : w'.heap[b]? = some (w'.heap[b]'(Nat.lt_of_lt_of_le hb h.2.2)) := Array.getElem?_eq_getElem _
  simp only [World.cell?] at hc ⊢
  rw [h4, h5] at h3
  rw [h4] at hc
  rw [h5]
  generalize W.heap[b] = O at *
  generalize w'.heap[b]'(Nat.lt_of_lt_of_le hb h.2.2) = O' at *
  cases O <;> first | (simp at hc; done) | (cases O' <;> simp_all)

/-- The two boxes of a function of two colours. -/
structure Boxes (w : World) (x y z x' y' z' : Nat) (W : World) : Prop where
  g : Grown w W
  c0 : W.cell? ⟨w.heap.size, 0, none⟩ = some (fl x)
  c1 : W.cell? ⟨w.heap.size, 1, none⟩ = some (fl y)
  c2 : W.cell? ⟨w.heap.size, 2, none⟩ = some (fl z)
  d0 : W.cell? ⟨w.heap.size + 1, 0, none⟩ = some (fl x')
  d1 : W.cell? ⟨w.heap.size + 1, 1, none⟩ = some (fl y')
  d2 : W.cell? ⟨w.heap.size + 1, 2, none⟩ = some (fl z')
theorem boxes (w : World) (x y z x' y' z' : Nat) : Boxes w x y z x' y' z' ((w.alloc (Obj.cells #[fl x, fl y, fl z] 38)).alloc (Obj.cells #[fl x', fl y', fl z'] 38)) :=
  ⟨((Grown.refl _).alloc _ _).alloc _ _, by go_simp, by go_simp, by go_simp, by go_simp, by go_simp, by go_simp⟩
theorem Boxes.grown {w : World} {x y z x' y' z' : Nat} {W W' : World} (h : Boxes w x y z x' y' z' W) (g : Grown W W') : Boxes w x y z x' y' z' W' :=
  ⟨Grown.trans h.g g, Grown.cell g h.c0, Grown.cell g h.c1, Grown.cell g h.c2, Grown.cell g h.d0, Grown.cell g h.d1, Grown.cell g h.d2⟩
theorem Boxes.hold {w : World} {x y z x' y' z' : Nat} {W : World} (h : Boxes w x y z x' y' z' W) :
    W.cell? ⟨w.heap.size, 0, none⟩ = some (fl x) ∧ W.cell? ⟨w.heap.size, 1, none⟩ = some (fl y) ∧ W.cell? ⟨w.heap.size, 2, none⟩ = some (fl z) ∧
      W.cell? ⟨w.heap.size + 1, 0, none⟩ = some (fl x') ∧ W.cell? ⟨w.heap.size + 1, 1, none⟩ = some (fl y') ∧ W.cell? ⟨w.heap.size + 1, 2, none⟩ = some (fl z') ∧ Grown w W :=
  ⟨h.c0, h.c1, h.c2, h.d0, h.d1, h.d2, h.g⟩

set_option maxHeartbeats 2000000 in
theorem far_any (x y z x' y' z' : Nat) (w : World) (hx : x < 2 ^ 64) (hy : y < 2 ^ 64) (hz : z < 2 ^ 64) (hx' : x' < 2 ^ 64) (hy' : y' < 2 ^ 64) (hz' : z' < 2 ^ 64) :
    Calls Try.prog 39 #[col x y z, col x' y' z'] w fun e w' => e = .returned (fl (farB (lightB x y z) (lightB x' y' z'))) ∧ Grown w w' := by
  have l1 := (light_some x y z hx hy hz).2.2.2.2.2
  have l2 := (light_some x' y' z' hx' hy' hz').2.2.2.2.2
  have r1 := fun w => run_float_arith (P := Try.prog) w .sub 23 .f64 _ _ _ (sub_01 _ _ l2 l1).1
  clear l1 l2
  unfold farB
  have hB := boxes w x y z x' y' z'
  go_enter Try.func39, Try.ntmps39
  go_wp2_with fail
  generalize ((w.alloc (Obj.cells #[fl x, fl y, fl z] 38)).alloc (Obj.cells #[fl x', fl y', fl z'] 38)) = W at *
  go_region_held3 (fun w' => w'.cell? ⟨w.heap.size, 0, none⟩ = some (fl x) ∧ w'.cell? ⟨w.heap.size, 1, none⟩ = some (fl y) ∧ w'.cell? ⟨w.heap.size, 2, none⟩ = some (fl z) ∧
      w'.cell? ⟨w.heap.size + 1, 0, none⟩ = some (fl x') ∧ w'.cell? ⟨w.heap.size + 1, 1, none⟩ = some (fl y') ∧ w'.cell? ⟨w.heap.size + 1, 2, none⟩ = some (fl z') ∧ Grown w w')
    (first | exact hB.hold | exact (hB.grown (Grown.trans g1 g2)).hold | exact (hB.grown g1).hold)
    (first
      | (go_at_call_of 37 (Value.agg #[fl x, fl y, fl z]); refine (light_any x y z _ hx hy hz).mono ?_; rintro e w' ⟨rfl, g1⟩)
      | (go_at_call 37; refine (light_any x' y' z' _ hx' hy' hz').mono ?_; rintro e w' ⟨rfl, g2⟩)
      | (go_at_call 57; refine (abs_any _ _).mono ?_; rintro e w' ⟨rfl, rfl⟩))
  go_wp2
  go_ret
  exact ⟨rfl, Grown.trans hB.g (Grown.trans (show Grown W _ from g1) g2)⟩
set_option maxHeartbeats 2000000 in
theorem farR_any (x y z x' y' z' : Nat) (w : World) (hx : x < 2 ^ 64) (hy : y < 2 ^ 64) (hz : z < 2 ^ 64) (hx' : x' < 2 ^ 64) (hy' : y' < 2 ^ 64) (hz' : z' < 2 ^ 64) :
    Calls Try.prog 40 #[col x y z, col x' y' z'] w fun e w' => e = .returned (fl (farB (lightB x y z) (lightB x' y' z'))) ∧ Grown w w' := by
  have l1 := (light_some x y z hx hy hz).2.2.2.2.2
  have l2 := (light_some x' y' z' hx' hy' hz').2.2.2.2.2
  have r1 := fun w => run_float_arith (P := Try.prog) w .sub 23 .f64 _ _ _ (sub_01 _ _ l2 l1).1
  clear l1 l2
  unfold farB
  have hB := boxes w x y z x' y' z'
  go_enter Try.func40, Try.ntmps40
  go_wp2_with fail
  generalize ((w.alloc (Obj.cells #[fl x, fl y, fl z] 38)).alloc (Obj.cells #[fl x', fl y', fl z'] 38)) = W at *
  go_region_held3 (fun w' => w'.cell? ⟨w.heap.size, 0, none⟩ = some (fl x) ∧ w'.cell? ⟨w.heap.size, 1, none⟩ = some (fl y) ∧ w'.cell? ⟨w.heap.size, 2, none⟩ = some (fl z) ∧
      w'.cell? ⟨w.heap.size + 1, 0, none⟩ = some (fl x') ∧ w'.cell? ⟨w.heap.size + 1, 1, none⟩ = some (fl y') ∧ w'.cell? ⟨w.heap.size + 1, 2, none⟩ = some (fl z') ∧ Grown w w')
    (first | exact hB.hold | exact (hB.grown (Grown.trans g1 g2)).hold | exact (hB.grown g1).hold)
    (first
      | (go_at_call_of 38 (Value.agg #[fl x, fl y, fl z]); refine (lightR_any x y z _ hx hy hz).mono ?_; rintro e w' ⟨rfl, g1⟩)
      | (go_at_call 38; refine (lightR_any x' y' z' _ hx' hy' hz').mono ?_; rintro e w' ⟨rfl, g2⟩)
      | (go_at_call 57; refine (abs_any _ _).mono ?_; rintro e w' ⟨rfl, rfl⟩))
  go_wp2
  go_ret
  exact ⟨rfl, Grown.trans hB.g (Grown.trans (show Grown W _ from g1) g2)⟩
end Go.Proofs.Ytdakpnfkcnnebaa
