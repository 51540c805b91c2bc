/- Small facts that the laws' walks share. -/
import Derived.Test.YtdakpnfkcnnebaaWe
import Derived.Test.YtdakpnfkcnnebaaPw
namespace Go.Proofs.Ytdakpnfkcnnebaa
open Go.ChangeShapes Go.WideShapes Go.ChangeAt Go.RowKit Fl

theorem own : ownKnob Try.prog.godebug = none := by kernel_rfl

/-- A rest of an unsigned number, as the walk spells it. -/
theorem rest (a n : Int) (hn : 0 < n) (hn' : n ≤ 1000000) : ∃ j : Int, wrap64 ((IntKind.u64.wrap a).tmod n) = j ∧ 0 ≤ j ∧ j < n := by
  have h0 : 0 ≤ IntKind.u64.wrap a := by
    show 0 ≤ a % 18446744073709551616
    omega
  have h1 : 0 ≤ (IntKind.u64.wrap a).tmod n := Int.tmod_nonneg n h0
  have h2 : (IntKind.u64.wrap a).tmod n < n := Int.tmod_lt_of_pos _ hn
  refine ⟨(IntKind.u64.wrap a).tmod n, ?_, h1, h2⟩
  generalize (IntKind.u64.wrap a).tmod n = j at *
  unfold wrap64; omega

theorem ge_zero (x : Nat) (h : x ≤ one) : (FloatKind.f64.format.order x 0 == some Ordering.gt || FloatKind.f64.format.order x 0 == some Ordering.eq) = true := by
  have hx : x ≤ 2047 * 2 ^ 52 := Nat.le_trans h (by decide)
  have e : FloatKind.f64.format.order x 0 = some (compare x 0) := order_nn x 0 hx (by decide)
  rw [e]
  rcases Nat.eq_zero_or_pos x with g | g
  · rw [g]; decide
  · rw [Nat.compare_eq_gt.2 g]; decide
theorem le_some (x y : Nat) (h : x ≤ y) (hy : y ≤ 2047 * 2 ^ 52) : (FloatKind.f64.format.order x y == some Ordering.lt || FloatKind.f64.format.order x y == some Ordering.eq) = true := by
  have e : FloatKind.f64.format.order x y = some (compare x y) := order_nn x y (Nat.le_trans h hy) hy
  rw [e]
  rcases Nat.lt_or_ge x y with g | g
  · rw [Nat.compare_eq_lt.2 g]; decide
  · rw [Nat.compare_eq_eq.2 (Nat.le_antisymm h g)]; decide
theorem le_one (x : Nat) (h : x ≤ one) : (FloatKind.f64.format.order x 4607182418800017408 == some Ordering.lt || FloatKind.f64.format.order x 4607182418800017408 == some Ordering.eq) = true :=
  le_some x one h (by decide)
theorem lt_some (x y : Nat) (h : x < y) (hy : y ≤ 2047 * 2 ^ 52) : (FloatKind.f64.format.order x y == some Ordering.lt) = true := by
  have e : FloatKind.f64.format.order x y = some (compare x y) := order_nn x y (Nat.le_trans (Nat.le_of_lt h) hy) hy
  rw [e, Nat.compare_eq_lt.2 h]; decide
theorem gt_some (x y : Nat) (h : y < x) (hx : x ≤ 2047 * 2 ^ 52) : (FloatKind.f64.format.order x y == some Ordering.gt) = true := by
  have e : FloatKind.f64.format.order x y = some (compare x y) := order_nn x y hx (Nat.le_trans (Nat.le_of_lt h) hx)
  rw [e, Nat.compare_eq_gt.2 h]; decide
theorem eq_some (x : Nat) (hx : x ≤ 2047 * 2 ^ 52) : (FloatKind.f64.format.order x x == some Ordering.eq) = true := by
  have e : FloatKind.f64.format.order x x = some (compare x x) := order_nn x x hx hx
  rw [e, Nat.compare_eq_eq.2 rfl]; decide
theorem wf_lt {a : Nat} (h : (Lit.float .f64 a).wf = true) : a < 2 ^ 64 := by
  simpa [Lit.wf] using h

theorem kept_of (i : Int) (h0 : 0 ≤ i) (h1 : i < 100000) : kept (1 + i) = 1 + i := by unfold kept; omega
end Go.Proofs.Ytdakpnfkcnnebaa
