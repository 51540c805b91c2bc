/- The walks of scroll's Step, Window and Bar, and of the document's own. -/
import Derived.Test.YtdakpnfkcnnebaaWb
namespace Go.Proofs.Ytdakpnfkcnnebaa
open Go.ChangeShapes Go.WideShapes Go.ChangeAt Go.RowKit Fl

theorem add_part (p y : Nat) (hp : p ≤ one) (hy : isN y = false) : Ieee.double.add p y = some (fadd p y) ∧ fadd p y < 2 ^ 64 := by
  have h1 : y % 2 ^ 63 ≤ 2047 * 2 ^ 52 := by
    rcases makes y with h | ⟨_, h⟩ | ⟨_, h⟩
    · unfold isN at hy
      rw [order_nan y y h] at hy; simp at hy
    · exact h
    · exact h
  have h2 : one < 2047 * 2 ^ 52 := one_lt
  have key : ∃ r, Ieee.double.add p y = some r := by
    by_cases e : y % 2 ^ 63 = 2047 * 2 ^ 52
    · obtain ⟨m, i, e1, _, _, _⟩ := read_num p (by rw [mod_small (by omega)]; omega)
      unfold Ieee.Format.add
      rw [e1, read_inf y e]
      exact ⟨_, rfl⟩
    · exact ⟨_, add_eq p y (by rw [mod_small (by omega)]; omega) (by omega)⟩
  obtain ⟨r, hr⟩ := key
  have := Ieee.double.add_lt hr
  unfold fadd
  rw [hr, Option.getD_some]
  exact ⟨rfl, this⟩

def stepF (f y : Nat) : Nat := if isN y then partB f else partB (fadd (partB f) y)
theorem step_any (f y : Nat) (w : World) (hf : f < 2 ^ 64) :
    Calls Try.prog 23 #[fl f, fl y] w fun e w' => e = .returned (fl (stepF f y)) ∧ w = w' := by
  unfold stepF
  by_cases h : isN y = true
  · rw [if_pos h]
    go_enter Try.func23, Try.ntmps23
    go_wp2_with (first | (go_at_call 54; refine (isNaN_any _ _).mono ?_; rintro e w' ⟨rfl, rfl⟩) | (go_at_call 26; refine (part_any _ _).mono ?_; rintro e w' ⟨rfl, rfl⟩))
    go_ret
    exact ⟨rfl, rfl⟩
  · rw [if_neg h]
    have h' := Bool.eq_false_iff.2 h
    clear h
    have ha := (add_part (partB f) y (partB_le f hf) h').1
    have r1 := fun w => run_float_arith (P := Try.prog) w .add 23 .f64 _ _ _ ha
    clear ha
    go_enter Try.func23, Try.ntmps23
    go_wp2_with (first | (go_at_call 54; refine (isNaN_any _ _).mono ?_; rintro e w' ⟨rfl, rfl⟩) | (go_at_call 26; refine (part_any _ _).mono ?_; rintro e w' ⟨rfl, rfl⟩))
    go_ret
    exact ⟨rfl, rfl⟩
theorem stepR_any (f y : Nat) (w : World) (hf : f < 2 ^ 64) :
    Calls Try.prog 24 #[fl f, fl y] w fun e w' => e = .returned (fl (stepF f y)) ∧ w = w' := by
  unfold stepF
  by_cases h : isN y = true
  · rw [if_pos h]
    have h' : (FloatKind.f64.format.order y y != some Ordering.eq) = true := h
    clear h
    go_enter Try.func24, Try.ntmps24
    go_wp2_with (go_at_call 27; refine (partR_any _ _ hf).mono ?_; rintro e w' ⟨rfl, rfl⟩)
    go_ret
    exact ⟨rfl, rfl⟩
  · rw [if_neg h]
    have h' := Bool.eq_false_iff.2 h
    clear h
    obtain ⟨ha, hb⟩ := add_part (partB f) y (partB_le f hf) h'
    have h'' : (FloatKind.f64.format.order y y != some Ordering.eq) = false := h'
    clear h'
    have r1 := fun w => run_float_arith (P := Try.prog) w .add 23 .f64 _ _ _ ha
    clear ha
    go_enter Try.func24, Try.ntmps24
    go_wp2_with fail
    refine (partR_any _ _ hf).mono ?_
    rintro e w' ⟨rfl, rfl⟩
    go_wp2_with fail
    refine (partR_any _ _ hb).mono ?_
    rintro e w' ⟨rfl, rfl⟩
    go_wp2
    go_ret
    exact ⟨rfl, rfl⟩

def winA (f : Nat) (lines rows : Int) : Int := if kept rows < kept lines then partZ f (kept lines - kept rows) else 0
def winB (f : Nat) (lines rows : Int) : Int := if kept rows < kept lines then partZ f (kept lines - kept rows) + kept rows else kept lines
theorem window_any (f : Nat) (lines rows : Int) (w : World) (hf : f < 2 ^ 64) :
    Calls Try.prog 16 #[fl f, .int .i64 lines, .int .i64 rows] w fun e w' => e = .returned (.tuple #[.int .i64 (winA f lines rows), .int .i64 (winB f lines rows)]) ∧ Grown w w' := by
  have kl := kept_b lines
  have kr := kept_b rows
  have hmf : ∀ (fn : Fn) (first cap : Array Value) (w : World), (Instr.makeFunc fn first cap).run Try.prog w = .ok (.func fn first cap) w := fun _ _ _ _ => rfl
  unfold winA winB
  by_cases h : kept rows < kept lines
  · rw [if_pos h, if_pos h]
    have hz := partZ_le f (kept lines - kept rows) hf (by omega) (by omega)
    go_enter Try.func16, Try.ntmps16
    go_wp2_with (first | (go_at_call 46; refine (some_any _ _).mono ?_; rintro e w' ⟨rfl, rfl⟩) | (go_at_call 47; refine (partN_any _ _ _ hf (by omega) (by omega)).mono ?_; rintro e w' ⟨rfl, rfl⟩) | go_in)
    go_end0
    go_wp2
    go_quiet (fail)
    go_wp2
    go_ret2
    exact ⟨rfl, by repeat (first | exact Grown.refl _ | apply Grown.drew | apply Grown.alloc)⟩
  · rw [if_neg h, if_neg h]
    go_enter Try.func16, Try.ntmps16
    go_wp2_with (first | (go_at_call 46; refine (some_any _ _).mono ?_; rintro e w' ⟨rfl, rfl⟩) | go_in)
    go_quiet (fail)
    go_wp2
    go_ret2
    exact ⟨rfl, by repeat (first | exact Grown.refl _ | apply Grown.drew | apply Grown.alloc)⟩
end Go.Proofs.Ytdakpnfkcnnebaa
