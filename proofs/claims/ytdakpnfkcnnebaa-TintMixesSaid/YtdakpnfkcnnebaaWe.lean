/- What scroll's laws ask first: the document's own few answers. -/
import Derived.Test.YtdakpnfkcnnebaaWd
namespace Go.Proofs.Ytdakpnfkcnnebaa
open Go.ChangeShapes Go.WideShapes Go.ChangeAt Go.RowKit Fl

theorem Grown.trans {a b c : World} (h : Grown a b) (h' : Grown b c) : Grown a c :=
  ⟨World.keptBut_trans h.1 h'.1, fun x => (h'.2.1 x).trans (h.2.1 x), Nat.le_trans h.2.2 h'.2.2⟩

theorem told_any (w : World) : Calls Try.prog 14 #[] w fun e w' => e = .returned (.bool true) ∧ Grown w w' := by
  have a1 : winA 4602678819172646912 10 4 = 3 := by decide +kernel
  have a2 : winB 4602678819172646912 10 4 = 7 := by decide +kernel
  have a3 : winA 4619567317775286272 3 9 = 0 := by decide +kernel
  have a4 : winB 4619567317775286272 3 9 = 3 := by decide +kernel
  have a5 : barF 4607182418800017408 4 1 = 4604930618986332160 := by decide +kernel
  have a6 : barL 4 1 = 4598175219545276416 := by decide +kernel
  have a7 : partZ 4602678819172646912 (kept 3 - 1) = 1 := by decide +kernel
  have a8 : placeF 1 3 = 4602678819172646912 := by decide +kernel
  have a9 : stepF 4602678819172646912 9221120237041090561 = 4602678819172646912 := by decide +kernel
  have a10 : placeF 4 1 = 0 := by decide +kernel
  have a11 : partZ 9221120237041090561 (kept 9 - 1) = 0 := by decide +kernel
  have o1 : (FloatKind.f64.format.order 4602678819172646912 4602678819172646912 == some Ordering.eq) = true := by decide +kernel
  have o2 : (FloatKind.f64.format.order 4604930618986332160 4604930618986332160 == some Ordering.eq) = true := by decide +kernel
  have o3 : (FloatKind.f64.format.order 4598175219545276416 4598175219545276416 == some Ordering.eq) = true := by decide +kernel
  have o4 : (FloatKind.f64.format.order 0 0 == some Ordering.eq) = true := by decide +kernel
  have L : ∀ {a b : World}, a = b → Grown a b := fun {a b} h => h ▸ Grown.refl a
  go_enter Try.func14, Try.ntmps14
  go_wp2_with fail
  refine (window_any 4602678819172646912 10 4 _ (by decide)).mono ?_
  rintro e w1 ⟨rfl, g1⟩
  rw [a1, a2]
  go_wp2_with fail
  refine (window_any 4619567317775286272 3 9 _ (by decide)).mono ?_
  rintro e w2 ⟨rfl, g2⟩
  rw [a3, a4]
  go_wp2_with fail
  refine (bar_any 4607182418800017408 4 1 _ (by decide)).mono ?_
  rintro e w3 ⟨rfl, g3⟩
  rw [a5, a6]
  go_wp2_with fail
  refine (line_any 4602678819172646912 3 _ (by decide)).mono ?_
  rintro e w4 ⟨rfl, rfl⟩
  rw [a7]
  go_wp2_with fail
  refine (place_any 1 3 _).mono ?_
  rintro e w5 ⟨rfl, rfl⟩
  rw [a8]
  go_wp2_with fail
  refine (nan_any _).mono ?_
  rintro e w6 ⟨rfl, rfl⟩
  go_wp2_with fail
  refine (step_any 4602678819172646912 9221120237041090561 _ (by decide)).mono ?_
  rintro e w7 ⟨rfl, rfl⟩
  rw [a9]
  go_wp2_with fail
  refine (place_any 4 1 _).mono ?_
  rintro e w8 ⟨rfl, rfl⟩
  rw [a10]
  go_wp2_with fail
  refine (nan_any _).mono ?_
  rintro e w9 ⟨rfl, rfl⟩
  go_wp2_with fail
  refine (line_any 9221120237041090561 9 _ (by decide)).mono ?_
  rintro e w10 ⟨rfl, rfl⟩
  rw [a11]
  go_wp2
  go_ret
  exact ⟨rfl, Grown.trans g1 (Grown.trans g2 g3)⟩
end Go.Proofs.Ytdakpnfkcnnebaa
