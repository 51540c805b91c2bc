/- The walks of scroll's functions, and of the document's own: what each returns. -/
import Derived.Test.YtdakpnfkcnnebaaWa
import Derived.Test.YtdakpnfkcnnebaaFx
namespace Go.Proofs.Ytdakpnfkcnnebaa
open Go.ChangeShapes Go.WideShapes Go.ChangeAt Go.RowKit Fl

def kept (n : Int) : Int := min (max n 1) 1048576
theorem kept_b (n : Int) : 1 ≤ kept n ∧ kept n ≤ 1048576 := by unfold kept; omega
def partZ (f : Nat) (n : Int) : Nat := partI f n.toNat
theorem partZ_le (f : Nat) (n : Int) (hf : f < 2 ^ 64) (h0 : 0 ≤ n) (hn : n ≤ 1048576) : (partZ f n : Int) ≤ n := by
  have := partI_le f n.toNat hf (by have : (2 : Nat) ^ 51 = 2251799813685248 := by decide
                                    omega)
  unfold partZ; omega
theorem ret_int {a b : Int} (h : a = b) : Ending.returned (.int .i64 a) = .returned (.int .i64 b) := by rw [h]

theorem some_any (n : Int) (w : World) :
    Calls Try.prog 46 #[.int .i64 n] w fun e w' => e = .returned (.int .i64 (kept n)) ∧ w = w' := by
  go_enter Try.func46, Try.ntmps46
  go_wp2
  all_goals (go_ret; exact ⟨ret_int (by unfold kept; omega), rfl⟩)
theorem kept_any (n : Int) (w : World) :
    Calls Try.prog 51 #[.int .i64 n] w fun e w' => e = .returned (.int .i64 (kept n)) ∧ w = w' := by
  go_enter Try.func51, Try.ntmps51
  go_wp2
  all_goals (go_ret; exact ⟨ret_int (by unfold kept; omega), rfl⟩)

/-- The three steps of a part of a number. -/
theorem part_runs (f n : Nat) (hf : f < 2 ^ 64) (hn : n ≤ 1048576) :
    (∀ w, (binOp .mul 23 (.float .f64 (partB f)) (.float .f64 (ofI n))).run Try.prog w = .ok (.float .f64 (scaled (partB f) n)) w) ∧
    (∀ w, (binOp .add 23 (.float .f64 (scaled (partB f) n)) (.float .f64 half)).run Try.prog w = .ok (.float .f64 (plusHalf (scaled (partB f) n))) w) ∧
    (∀ w, (convert 23 3 (.float .f64 (plusHalf (scaled (partB f) n)))).run Try.prog w = .ok (.int .i64 (partI f n)) w) := by
  have hn' : n ≤ 2 ^ 51 := Nat.le_trans hn (by decide)
  obtain ⟨m1, _, m3⟩ := scaled_some (partB f) n (partB_le f hf) (Nat.le_trans hn (by decide))
  obtain ⟨a1, _, a3, a4⟩ := plusHalf_some _ n m3 hn'
  have hle := half_cut _ n a4
  refine ⟨fun w => run_float_arith w .mul 23 .f64 _ _ _ m1, fun w => run_float_arith w .add 23 .f64 _ half _ a1, fun w => ?_⟩
  exact run_convert_float_int w 23 3 .f64 .i64 _ _ (by rw [Try.underlying23]; rfl) Try.underlying3 (cutI_of _ a3 .i64 (by show (-9223372036854775808 : Int) ≤ _; omega) (by show _ ≤ (9223372036854775807 : Int); omega))

theorem partR_any (x : Nat) (w : World) (hx : x < 2 ^ 64) :
    Calls Try.prog 27 #[fl x] w fun e w' => e = .returned (fl (partB x)) ∧ w = w' := by
  rw [← part_same x hx]
  unfold partR
  by_cases h3 : ge1 x = true
  · rw [if_pos h3]
    have h3' : (FloatKind.f64.format.order x 4607182418800017408 == some Ordering.gt || FloatKind.f64.format.order x 4607182418800017408 == some Ordering.eq) = true := h3
    clear h3
    go_enter Try.func27, Try.ntmps27
    go_wp2
    go_ret
    exact ⟨rfl, rfl⟩
  · rw [if_neg h3]
    have h3' : (FloatKind.f64.format.order x 4607182418800017408 == some Ordering.gt || FloatKind.f64.format.order x 4607182418800017408 == some Ordering.eq) = false := Bool.eq_false_iff.2 h3
    clear h3
    by_cases h2 : gt0 x = true
    · rw [if_pos h2]
      have h2' : (FloatKind.f64.format.order x 0 == some Ordering.gt) = true := h2
      clear h2
      go_enter Try.func27, Try.ntmps27
      go_wp2
      go_ret
      exact ⟨rfl, rfl⟩
    · rw [if_neg h2]
      have h2' : (FloatKind.f64.format.order x 0 == some Ordering.gt) = false := Bool.eq_false_iff.2 h2
      clear h2
      go_enter Try.func27, Try.ntmps27
      go_wp2
      go_ret
      exact ⟨rfl, rfl⟩

theorem partN_any (f : Nat) (n : Int) (w : World) (hf : f < 2 ^ 64) (h0 : 0 ≤ n) (hn : n ≤ 1048576) :
    Calls Try.prog 47 #[fl f, .int .i64 n] w fun e w' => e = .returned (.int .i64 (partZ f n)) ∧ w = w' := by
  obtain ⟨n, rfl⟩ := Int.eq_ofNat_of_zero_le h0
  have ez : partZ f (n : Int) = partI f n := rfl
  rw [ez]
  clear ez
  obtain ⟨r1, r2, r3⟩ := part_runs f n hf (by omega)
  have e1 : floatOfInt .f64 (n : Int) = ofI n := ofI_of n (by omega)
  go_enter Try.func47, Try.ntmps47
  go_wp2_with (go_at_call 26; refine (part_any _ _).mono ?_; rintro e w' ⟨rfl, rfl⟩)
  go_ret
  exact ⟨rfl, rfl⟩
theorem near_any (f : Nat) (n : Int) (w : World) (hf : f < 2 ^ 64) (h0 : 0 ≤ n) (hn : n ≤ 1048576) :
    Calls Try.prog 52 #[fl f, .int .i64 n] w fun e w' => e = .returned (.int .i64 (partZ f n)) ∧ w = w' := by
  obtain ⟨n, rfl⟩ := Int.eq_ofNat_of_zero_le h0
  have ez : partZ f (n : Int) = partI f n := rfl
  rw [ez]
  clear ez
  obtain ⟨r1, r2, r3⟩ := part_runs f n hf (by omega)
  have e1 : floatOfInt .f64 (n : Int) = ofI n := ofI_of n (by omega)
  go_enter Try.func52, Try.ntmps52
  go_wp2_with (go_at_call 27; refine (partR_any _ _ hf).mono ?_; rintro e w' ⟨rfl, rfl⟩)
  go_ret
  exact ⟨rfl, rfl⟩
theorem line_any (f : Nat) (lines : Int) (w : World) (hf : f < 2 ^ 64) :
    Calls Try.prog 15 #[fl f, .int .i64 lines] w fun e w' => e = .returned (.int .i64 (partZ f (kept lines - 1))) ∧ w = w' := by
  have kb := kept_b lines
  go_enter Try.func15, Try.ntmps15
  go_wp2_with (first | (go_at_call 46; refine (some_any _ _).mono ?_; rintro e w' ⟨rfl, rfl⟩) | (go_at_call 47; refine (partN_any _ _ _ hf (by omega) (by omega)).mono ?_; rintro e w' ⟨rfl, rfl⟩))
  go_ret
  exact ⟨rfl, rfl⟩
theorem lineR_any (f : Nat) (lines : Int) (w : World) (hf : f < 2 ^ 64) :
    Calls Try.prog 20 #[fl f, .int .i64 lines] w fun e w' => e = .returned (.int .i64 (partZ f (kept lines - 1))) ∧ w = w' := by
  have kb := kept_b lines
  go_enter Try.func20, Try.ntmps20
  go_wp2_with (first | (go_at_call 51; refine (kept_any _ _).mono ?_; rintro e w' ⟨rfl, rfl⟩) | (go_at_call 52; refine (near_any _ _ _ hf (by omega) (by omega)).mono ?_; rintro e w' ⟨rfl, rfl⟩))
  go_ret
  exact ⟨rfl, rfl⟩

def placeK (line lines : Int) : Int := min (max line 0) (kept lines - 1)
theorem placeK_b (line lines : Int) : 0 ≤ placeK line lines ∧ placeK line lines ≤ kept lines - 1 := by
  have := kept_b lines
  unfold placeK; omega
def placeF (line lines : Int) : Nat := if kept lines = 1 then 0 else fdiv (floatOfInt .f64 (placeK line lines)) (floatOfInt .f64 (kept lines - 1))
theorem ofI_pos (n : Nat) (h : 0 < n) (h' : n ≤ 2 ^ 53) : 0 < ofI n := by
  refine lt_of_mg ?_
  rw [mg_zero, (ofI_mg n h').1]
  exact Nat.mul_pos h E_pos
theorem quo_runs (k n : Int) (h0 : 0 ≤ k) (h1 : k ≤ 1048576) (h2 : 1 ≤ n) (h3 : n ≤ 1048576) :
    ∀ w, (binOp .quo 23 (.float .f64 (floatOfInt .f64 k)) (.float .f64 (floatOfInt .f64 n))).run Try.prog w = .ok (.float .f64 (fdiv (floatOfInt .f64 k) (floatOfInt .f64 n))) w := by
  intro w
  rw [ofI_of k h0, ofI_of n (by omega)]
  have b1 : k.toNat ≤ 2 ^ 53 := by have : (2 : Nat) ^ 53 = 9007199254740992 := by decide
                                   omega
  have b2 : n.toNat ≤ 2 ^ 53 := by have : (2 : Nat) ^ 53 = 9007199254740992 := by decide
                                   omega
  obtain ⟨q, e, _⟩ := div_nn (ofI k.toNat) (ofI n.toNat) (ofI_mg _ b1).2 (ofI_mg _ b2).2 (ofI_pos _ (by omega) b2)
  refine run_float_arith w .quo 23 .f64 _ _ _ ?_
  show Ieee.double.div _ _ = _
  unfold fdiv
  rw [e, Option.getD_some]
theorem place_any (line lines : Int) (w : World) :
    Calls Try.prog 13 #[.int .i64 line, .int .i64 lines] w fun e w' => e = .returned (fl (placeF line lines)) ∧ w = w' := by
  have kb := kept_b lines
  have pb := placeK_b line lines
  unfold placeF
  by_cases h : kept lines = 1
  · rw [if_pos h]
    have h' : (kept lines == 1) = true := by simpa using h
    clear h
    go_enter Try.func13, Try.ntmps13
    go_wp2_with (go_at_call 46; refine (some_any _ _).mono ?_; rintro e w' ⟨rfl, rfl⟩)
    go_ret
    exact ⟨rfl, rfl⟩
  · rw [if_neg h]
    have h' : (kept lines == 1) = false := by simpa using h
    clear h pb
    have q0 := fun k h0 h1 => quo_runs k (kept lines - 1) h0 h1 (by have : kept lines ≠ 1 := by simpa using h'
                                                                    omega) (by omega)
    rcases Int.lt_or_le line 0 with c | c
    · have e : placeK line lines = 0 := by unfold placeK; omega
      rw [e]
      have q := q0 0 (by omega) (by omega)
      clear q0 e
      go_enter Try.func13, Try.ntmps13
      go_wp2_with (go_at_call 46; refine (some_any _ _).mono ?_; rintro e w' ⟨rfl, rfl⟩)
      go_ret
      exact ⟨rfl, rfl⟩
    · rcases Int.lt_or_le (kept lines - 1) line with d | d
      · have e : placeK line lines = kept lines - 1 := by unfold placeK; omega
        rw [e]
        have q := q0 (kept lines - 1) (by omega) (by omega)
        clear q0 e
        go_enter Try.func13, Try.ntmps13
        go_wp2_with (go_at_call 46; refine (some_any _ _).mono ?_; rintro e w' ⟨rfl, rfl⟩)
        go_ret
        exact ⟨rfl, rfl⟩
      · have e : placeK line lines = line := by unfold placeK; omega
        rw [e]
        have q := q0 line (by omega) (by omega)
        clear q0 e
        go_enter Try.func13, Try.ntmps13
        go_wp2_with (go_at_call 46; refine (some_any _ _).mono ?_; rintro e w' ⟨rfl, rfl⟩)
        go_ret
        exact ⟨rfl, rfl⟩
theorem placeR_any (line lines : Int) (w : World) :
    Calls Try.prog 22 #[.int .i64 line, .int .i64 lines] w fun e w' => e = .returned (fl (placeF line lines)) ∧ w = w' := by
  have kb := kept_b lines
  have pb := placeK_b line lines
  unfold placeF
  by_cases h : kept lines = 1
  · rw [if_pos h]
    have h' : (kept lines == 1) = true := by simpa using h
    clear h
    go_enter Try.func22, Try.ntmps22
    go_wp2_with (go_at_call 51; refine (kept_any _ _).mono ?_; rintro e w' ⟨rfl, rfl⟩)
    go_ret
    exact ⟨rfl, rfl⟩
  · rw [if_neg h]
    have h' : (kept lines == 1) = false := by simpa using h
    clear h pb
    have q0 := fun k h0 h1 => quo_runs k (kept lines - 1) h0 h1 (by have : kept lines ≠ 1 := by simpa using h'
                                                                    omega) (by omega)
    rcases Int.lt_or_le line 0 with c | c
    · have e : placeK line lines = 0 := by unfold placeK; omega
      rw [e]
      have q := q0 0 (by omega) (by omega)
      clear q0 e
      go_enter Try.func22, Try.ntmps22
      go_wp2_with (go_at_call 51; refine (kept_any _ _).mono ?_; rintro e w' ⟨rfl, rfl⟩)
      go_ret
      exact ⟨rfl, rfl⟩
    · rcases Int.lt_or_le (kept lines - 1) line with d | d
      · have e : placeK line lines = kept lines - 1 := by unfold placeK; omega
        rw [e]
        have q := q0 (kept lines - 1) (by omega) (by omega)
        clear q0 e
        go_enter Try.func22, Try.ntmps22
        go_wp2_with (go_at_call 51; refine (kept_any _ _).mono ?_; rintro e w' ⟨rfl, rfl⟩)
        go_ret
        exact ⟨rfl, rfl⟩
      · have e : placeK line lines = line := by unfold placeK; omega
        rw [e]
        have q := q0 line (by omega) (by omega)
        clear q0 e
        go_enter Try.func22, Try.ntmps22
        go_wp2_with (go_at_call 51; refine (kept_any _ _).mono ?_; rintro e w' ⟨rfl, rfl⟩)
        go_ret
        exact ⟨rfl, rfl⟩
end Go.Proofs.Ytdakpnfkcnnebaa
