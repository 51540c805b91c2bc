/- What tint's laws ask first: the document's own few answers. -/
import Derived.Test.YtdakpnfkcnnebaaWx
namespace Go.Proofs.Ytdakpnfkcnnebaa
open Go.ChangeShapes Go.WideShapes Go.ChangeAt Go.RowKit Fl
theorem copysign_neg (w : World) : Calls Try.prog 45 #[fl 0, fl 13830554455654793216] w fun e w' => e = .returned (fl 9223372036854775808) ∧ w = w' := by
  have e1 : bits BinOp.andNot IntKind.u64 0 9223372036854775808 = 0 := by decide +kernel
  have e2 : bits BinOp.and IntKind.u64 13830554455654793216 9223372036854775808 = 9223372036854775808 := by decide +kernel
  have e3 : bits BinOp.or IntKind.u64 0 9223372036854775808 = 9223372036854775808 := by decide +kernel
  go_enter Try.func45, Try.ntmps45
  go_wp2
  go_ret
  exact ⟨rfl, rfl⟩

@[go_sem] theorem field1 (x y z : Nat) (w : World) : (Instr.field 38 (.agg #[fl x, fl y, fl z]) 1).run Try.prog w = .ok (fl y) w := by kernel_rfl

set_option maxHeartbeats 2000000 in
set_option maxRecDepth 100000 in
theorem told1_any (w : World) : Calls Try.prog 25 #[] w fun e w' => e = .returned (.bool true) ∧ Grown w w' := by
  have a1 : mixC 0 4607182418800017408 (partB 4598175219545276416) = 4598175219545276416 := by decide +kernel
  have a2 : partI 4602678819172646912 255 = 128 := by decide +kernel
  have a3 : partB 9221120237041090561 = 0 := by decide +kernel
  have a4 : partB 4611686018427387904 = 4607182418800017408 := by decide +kernel
  have a5 : lightB 4607182418800017408 4607182418800017408 4607182418800017408 = 4607182418800017408 := by decide +kernel
  have a6 : ofB (Int.toNat 255) = 4607182418800017408 := by decide +kernel
  have a7 : farB 4607182418800017408 (lightB 0 0 0) = 4607182418800017408 := by decide +kernel
  have a8 : all3 (sameB 9221120237041090561 9221120237041090561) (sameB 0 0) (sameB 0 0) = true := by decide +kernel
  have a9 : all3 (sameB 0 9223372036854775808) (sameB 0 0) (sameB 0 0) = false := by decide +kernel
  have a10 : partB 4613937818241073152 = 4607182418800017408 := by decide +kernel
  have a11 : partB 0 = 0 := by decide +kernel
  have o1 : (FloatKind.f64.format.order 0 0 == some Ordering.eq) = true := by decide +kernel
  have o2 : (FloatKind.f64.format.order 4607182418800017408 4607182418800017408 == some Ordering.eq) = true := by decide +kernel
  have o3 : (FloatKind.f64.format.order 4598175219545276416 4598175219545276416 == some Ordering.eq) = true := by decide +kernel
  go_enter Try.func25, Try.ntmps25
  go_wp2_with fail
  refine (nan_any _).mono ?_
  rintro e w1 ⟨rfl, rfl⟩
  go_wp2_with fail
  refine (mix_any 0 0 0 4607182418800017408 4607182418800017408 4607182418800017408 4598175219545276416 _ (by decide) (by decide) (by decide) (by decide) (by decide) (by decide) (by decide)).mono ?_
  rintro e w2 ⟨rfl, g2⟩
  rw [a1]
  have k0 := Grown.cell g2 (b := w.heap.size) (o := 0) (v := fl 4607182418800017408) (by go_simp)
  have k1 := Grown.cell g2 (b := w.heap.size) (o := 1) (v := fl 4607182418800017408) (by go_simp)
  have k2 := Grown.cell g2 (b := w.heap.size) (o := 2) (v := fl 4607182418800017408) (by go_simp)
  have gw : Grown w w2 := Grown.trans ((Grown.refl _).alloc _ _) g2
  have kk : w.heap.size < w2.heap.size := World.block_lt_of_cell? w2 _ k0
  have q0 := fun o => (World.cell?_alloc_lt w2 o ⟨w.heap.size, 0, none⟩ kk).trans k0
  have q1 := fun o => (World.cell?_alloc_lt w2 o ⟨w.heap.size, 1, none⟩ kk).trans k1
  have q2 := fun o => (World.cell?_alloc_lt w2 o ⟨w.heap.size, 2, none⟩ kk).trans k2
  clear g2 k0 k1 k2
  go_wp2_with fail
  refine (byte_any 4602678819172646912 _ (by decide)).mono ?_
  rintro e w3 ⟨rfl, rfl⟩
  rw [a2]
  go_wp2_with fail
  refine (part_any 9221120237041090561 _).mono ?_
  rintro e w4 ⟨rfl, rfl⟩
  rw [a3]
  go_wp2_with fail
  refine (part_any 4611686018427387904 _).mono ?_
  rintro e w5 ⟨rfl, rfl⟩
  rw [a4]
  go_wp2_with fail
  refine (light_any 4607182418800017408 4607182418800017408 4607182418800017408 _ (by decide) (by decide) (by decide)).mono ?_
  rintro e w6 ⟨rfl, g6⟩
  rw [a5]
  have j0 := Grown.cell g6 (b := w.heap.size) (o := 0) (v := fl 4607182418800017408) (q0 _)
  have j1 := Grown.cell g6 (b := w.heap.size) (o := 1) (v := fl 4607182418800017408) (q1 _)
  have j2 := Grown.cell g6 (b := w.heap.size) (o := 2) (v := fl 4607182418800017408) (q2 _)
  have jm := Grown.cell g6 (b := w2.heap.size) (o := 1) (v := fl 4598175219545276416) (by go_simp)
  have gw6 : Grown w w6 := Grown.trans (gw.alloc _ _) g6
  clear g6 gw q0 q1 q2 kk
  go_wp2_with fail
  refine (of_any 255 _ (by decide) (by decide)).mono ?_
  rintro e w7 ⟨rfl, rfl⟩
  rw [a6]
  go_wp2_with fail
  refine (far_any 4607182418800017408 4607182418800017408 4607182418800017408 0 0 0 _ (by decide) (by decide) (by decide) (by decide) (by decide) (by decide)).mono ?_
  rintro e w8 ⟨rfl, g8⟩
  rw [a5, a7]
  go_wp2_with fail
  refine (same_any 9221120237041090561 0 0 9221120237041090561 0 0 _).mono ?_
  rintro e w9 ⟨rfl, g9⟩
  rw [a8]
  go_wp2_with fail
  refine (copysign_neg _).mono ?_
  rintro e w10 ⟨rfl, rfl⟩
  go_wp2_with fail
  refine (same_any 0 0 0 9223372036854775808 0 0 _).mono ?_
  rintro e w11 ⟨rfl, g11⟩
  rw [a9]
  go_wp2_with fail
  refine (fit_any 9221120237041090561 4613937818241073152 0 _).mono ?_
  rintro e w12 ⟨rfl, rfl⟩
  rw [a10]
  go_wp2
  go_ret
  exact ⟨rfl, Grown.trans gw6 (Grown.trans g8 (Grown.trans g9 (Grown.trans g11 (by unfold fitW; repeat (first | exact Grown.refl _ | apply Grown.drew | apply Grown.alloc)))))⟩
end Go.Proofs.Ytdakpnfkcnnebaa
