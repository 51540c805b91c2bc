/- The walks of tint's Same, Byte, Of, Far and Mix, and of the document's own. -/
import Derived.Test.YtdakpnfkcnnebaaWt
namespace Go.Proofs.Ytdakpnfkcnnebaa
open Go.ChangeShapes Go.WideShapes Go.ChangeAt Go.RowKit Fl

/-- Bit by bit: the document's own, at any two words. -/
theorem float_any (x y : Nat) (w : World) (hx : x < 2 ^ 64) (hy : y < 2 ^ 64) : Calls Try.prog 21 #[fl x, fl y] w fun e w' => e = .returned (.bool (sameB x y)) ∧ w = w' := by
  have key : isN x = false → isN y = false → sameB x y = (x == y) := by
    intro nx ny
    unfold sameB
    rw [nx, ny, Bool.or_self, if_neg (by decide)]
    by_cases e : x = y
    · subst e
      rw [order_self x (notN x nx)]; simp
    · have : (x == y) = false := by simpa using e
      rw [this]
      by_cases o : Ieee.double.order x y = some .eq
      · have : sg x ≠ sg y := fun h => e (same_of x y hx hy nx ny h o)
        simp [o, this]
      · have : (Ieee.double.order x y == some .eq) = false := by simpa using o
        rw [this]; rfl
  cases nx : isN x
  · have nx' : (FloatKind.f64.format.order x x != some .eq) = false := nx
    cases ny : isN y
    · rw [key nx ny]
      clear key
      by_cases e : x = y
      · subst e
        rw [beq_self_eq_true]
        clear nx ny
        go_enter Try.func21, Try.ntmps21
        go_wp2
        go_ret
        exact ⟨rfl, rfl⟩
      · have e' : (x == y) = false := by simpa using e
        rw [e']
        have e'' : ((x : Int) == (y : Int)) = false := by rw [beq_eq_false_iff_ne]; omega
        clear nx ny e e' hx hy
        go_enter Try.func21, Try.ntmps21
        go_wp2
        go_ret
        exact ⟨rfl, rfl⟩
    · have ee : sameB x y = false := by unfold sameB; rw [nx, ny]; rfl
      have e : x ≠ y := by rintro rfl; rw [nx] at ny; cases ny
      have e'' : ((x : Int) == (y : Int)) = false := by rw [beq_eq_false_iff_ne]; omega
      rw [ee]
      clear key nx ny ee e hx hy
      go_enter Try.func21, Try.ntmps21
      go_wp2
      go_ret
      exact ⟨rfl, rfl⟩
  · have nx' : (FloatKind.f64.format.order x x != some .eq) = true := nx
    cases ny : isN y
    · have ny' : (FloatKind.f64.format.order y y != some .eq) = false := ny
      have ee : sameB x y = false := by unfold sameB; rw [nx, ny]; rfl
      have e : x ≠ y := by rintro rfl; rw [nx] at ny; cases ny
      have e'' : ((x : Int) == (y : Int)) = false := by rw [beq_eq_false_iff_ne]; omega
      rw [ee]
      clear key nx ny ee e hx hy
      go_enter Try.func21, Try.ntmps21
      go_wp2
      go_ret
      exact ⟨rfl, rfl⟩
    · have ny' : (FloatKind.f64.format.order y y != some .eq) = true := ny
      have ee : sameB x y = true := by unfold sameB; rw [nx, ny]; rfl
      rw [ee]
      clear key nx ny ee hx hy
      go_enter Try.func21, Try.ntmps21
      go_wp2
      go_ret
      exact ⟨rfl, rfl⟩

/-- The three parts' answers together. -/
def all3 (a b c : Bool) : Bool := a && b && c
set_option maxHeartbeats 2000000 in
theorem same_any (x y z x' y' z' : Nat) (w : World) :
    Calls Try.prog 41 #[col x y z, col x' y' z'] w fun e w' => e = .returned (.bool (all3 (sameB x x') (sameB y y') (sameB z z'))) ∧ Grown w w' := by
  unfold all3
  cases s1 : sameB x x' <;> cases s2 : sameB y y' <;> cases s3 : sameB z z'
  all_goals
    go_enter Try.func41, Try.ntmps41
    go_wp2_with (go_at_call 58; refine (same1_any _ _ _).mono ?_; rintro e w' ⟨rfl, rfl⟩)
    go_ret
    exact ⟨rfl, by repeat (first | exact Grown.refl _ | apply Grown.drew | apply Grown.alloc)⟩
set_option maxHeartbeats 2000000 in
theorem sameR_any (x y z x' y' z' : Nat) (w : World) (hx : x < 2 ^ 64) (hy : y < 2 ^ 64) (hz : z < 2 ^ 64) (hx' : x' < 2 ^ 64) (hy' : y' < 2 ^ 64) (hz' : z' < 2 ^ 64) :
    Calls Try.prog 28 #[col x y z, col x' y' z'] w fun e w' => e = .returned (.bool (all3 (sameB x x') (sameB y y') (sameB z z'))) ∧ Grown w w' := by
  unfold all3
  cases s1 : sameB x x' <;> cases s2 : sameB y y' <;> cases s3 : sameB z z'
  all_goals
    go_enter Try.func28, Try.ntmps28
    go_wp2_with (go_at_call 21; refine (float_any _ _ _ (by assumption) (by assumption)).mono ?_; rintro e w' ⟨rfl, rfl⟩)
    go_ret
    exact ⟨rfl, by repeat (first | exact Grown.refl _ | apply Grown.drew | apply Grown.alloc)⟩

theorem byte_runs (f : Nat) (hf : f < 2 ^ 64) :
    (∀ w, (binOp .mul 23 (.float .f64 (partB f)) (.float .f64 4643176031446892544)).run Try.prog w = .ok (.float .f64 (scaled (partB f) 255)) w) ∧
    (∀ w, (binOp .add 23 (.float .f64 (scaled (partB f) 255)) (.float .f64 4602678819172646912)).run Try.prog w = .ok (.float .f64 (plusHalf (scaled (partB f) 255))) w) ∧
    (∀ w, (convert 23 5 (.float .f64 (plusHalf (scaled (partB f) 255)))).run Try.prog w = .ok (.int .u8 (partI f 255)) w) := by
  obtain ⟨m1, _, m3⟩ := scaled_some (partB f) 255 (partB_le f hf) (by decide)
  obtain ⟨a1, _, a3, a4⟩ := plusHalf_some _ 255 m3 (by decide)
  have hle := half_cut _ 255 a4
  rw [w255] at m1
  refine ⟨fun w => run_float_arith w .mul 23 .f64 _ _ _ m1, fun w => run_float_arith w .add 23 .f64 _ half _ a1, fun w => ?_⟩
  exact run_convert_float_int w 23 5 .f64 .u8 _ _ (by rw [Try.underlying23]; rfl) Try.underlying5 (cutI_of _ a3 .u8 (by show (0 : Int) ≤ _; omega) (by show _ ≤ (255 : Int); omega))
theorem byte_any (f : Nat) (w : World) (hf : f < 2 ^ 64) : Calls Try.prog 33 #[fl f] w fun e w' => e = .returned (.int .u8 (partI f 255)) ∧ w = w' := by
  obtain ⟨r1, r2, r3⟩ := byte_runs f hf
  go_enter Try.func33, Try.ntmps33
  go_wp2_with (go_at_call 26; refine (part_any _ _).mono ?_; rintro e w' ⟨rfl, rfl⟩)
  go_ret
  exact ⟨rfl, rfl⟩
theorem byteR_any (f : Nat) (w : World) (hf : f < 2 ^ 64) : Calls Try.prog 34 #[fl f] w fun e w' => e = .returned (.int .u8 (partI f 255)) ∧ w = w' := by
  obtain ⟨r1, r2, r3⟩ := byte_runs f hf
  go_enter Try.func34, Try.ntmps34
  go_wp2_with (go_at_call 27; refine (partR_any _ _ hf).mono ?_; rintro e w' ⟨rfl, rfl⟩)
  go_ret
  exact ⟨rfl, rfl⟩

theorem of_runs (b : Int) (h0 : 0 ≤ b) (h1 : b ≤ 255) : ∀ w, (binOp .quo 23 (.float .f64 (floatOfInt .f64 b)) (.float .f64 4643176031446892544)).run Try.prog w = .ok (.float .f64 (ofB b.toNat)) w := by
  intro w
  have h := ofB_some b.toNat (by omega)
  rw [w255] at h
  rw [ofI_of b h0]
  exact run_float_arith w .quo 23 .f64 _ _ _ h
theorem of_any (b : Int) (w : World) (h0 : 0 ≤ b) (h1 : b ≤ 255) : Calls Try.prog 35 #[.int .u8 b] w fun e w' => e = .returned (fl (ofB b.toNat)) ∧ w = w' := by
  have r := of_runs b h0 h1
  go_enter Try.func35, Try.ntmps35
  go_wp2
  go_ret
  exact ⟨rfl, rfl⟩
theorem ofR_any (b : Int) (w : World) (h0 : 0 ≤ b) (h1 : b ≤ 255) : Calls Try.prog 36 #[.int .u8 b] w fun e w' => e = .returned (fl (ofB b.toNat)) ∧ w = w' := by
  have r := of_runs b h0 h1
  go_enter Try.func36, Try.ntmps36
  go_wp2
  go_ret
  exact ⟨rfl, rfl⟩

def absB (x : Nat) : Nat := (bits BinOp.andNot IntKind.u64 (x : Int) 9223372036854775808).toNat
theorem abs_any (x : Nat) (w : World) : Calls Try.prog 57 #[fl x] w fun e w' => e = .returned (fl (absB x)) ∧ w = w' := by
  unfold absB
  go_enter Try.func57, Try.ntmps57
  go_wp2
  go_ret
  exact ⟨rfl, rfl⟩
end Go.Proofs.Ytdakpnfkcnnebaa
