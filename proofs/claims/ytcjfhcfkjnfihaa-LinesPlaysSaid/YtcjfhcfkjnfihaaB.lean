/- The index of lines in memory: New, Starts (with slices.Clone), Feed. -/
import Derived.Test.YtcjfhcfkjnfihaaPLinesx1
import Derived.Test.YtcjfhcfkjnfihaaOwn
import Derived.Deep.RegionHeld3
namespace Go.Proofs.Ytcjfhcfkjnfihaa.PLines
open Go.RowKit Go.Proofs.YtcjfhcfkjnfihaaW.PrintWords Go.Proofs.YtcjfhcfkjnfihaaW.PrintLast Go.Proofs.YtcjfhcfkjnfihaaW.PrintMore

/-! ### behind -/
def behK (b : List Int) (s : Int) : Nat → List Int
  | 0 => []
  | k + 1 => if rd b k = 10 then behK b s k ++ [s + k + 1] else behK b s k
def behF (b : List Int) (s : Int) : List Int := behK b s b.length
theorem behK_le (b : List Int) (s : Int) (k : Nat) : (behK b s k).length ≤ k := by
  induction k with
  | zero => exact Nat.le_refl _
  | succ k ih =>
    unfold behK
    split
    · rw [List.length_append, List.length_singleton]; omega
    · omega
theorem EvL {α : Type} {g : Nat → Option α} {r : α} (h : ∀ k, g (k + 1) = some r) : Ev g r := ⟨1, fun k hk => by obtain ⟨m, rfl⟩ : ∃ m, k = m + 1 := ⟨k - 1, by omega⟩; exact h m⟩
theorem behind_loop (b : List Int) (s : Int) (hb : b.length ≤ 1000000) (h0 : 0 ≤ s) (h1 : s ≤ 1000000000) (m : Nat) : ∀ k : Nat, k + m = b.length → Ev (fun q => lines_behind.l0 q s (behK b s k) b (b.length : Int) k) (behF b s) := by
  induction m with
  | zero =>
    intro k hk
    obtain rfl : k = b.length := by omega
    refine EvL fun q => ?_
    rw [lines_behind.l0, if_neg (by omega)]
    rfl
  | succ m ih =>
    intro k hk
    have nx := ih (k + 1) (by omega)
    have hle := behK_le b s k
    have e1 : wrap64 ((k : Int) + 1) = ((k + 1 : Nat) : Int) := by unfold wrap64; omega
    have e2 : wrap64 (wrap64 (s + (k : Int)) + 1) = s + k + 1 := by unfold wrap64; omega
    refine Ev.step (fun q => ?_) nx
    by_cases c : rd b k = 10
    · rw [lines_behind.l0, if_pos (by omega), if_pos (by omega), if_pos (by omega), if_pos c, if_pos (by omega), e1, e2]
      have : behK b s (k + 1) = behK b s k ++ [s + k + 1] := by show (if rd b k = 10 then _ else _) = _; rw [if_pos c]
      rw [this]
    · rw [lines_behind.l0, if_pos (by omega), if_pos (by omega), if_pos (by omega), if_neg c, e1]
      have : behK b s (k + 1) = behK b s k := by show (if rd b k = 10 then _ else _) = _; rw [if_neg c]
      rw [this]
theorem behind_ev (b : List Int) (s : Int) (hb : b.length ≤ 1000000) (h0 : 0 ≤ s) (h1 : s ≤ 1000000000) : Ev (fun q => lines_behind.f q b s) (behF b s) := behind_loop b s hb h0 h1 b.length 0 (by omega)

/-- The index in memory: block g, its row v. -/
structure Ix (w0 W : World) (g : Nat) (v : Value) (l : List Int) (n : Int) : Prop where
  ge : w0.heap.size ≤ g
  cell : W.heap[g]? = some (.cells #[v, .int .i64 n] 49 (0, 0))
  row : Kd.R (Kd.int .i64) 3 W w0.heap.size (fun _ => True) v l

set_option maxRecDepth 100000 in
theorem new_call (w0 w : World) (hB : Below w0.heap.size w0 w) : Calls Try.prog 15 #[] w fun e w' => ∃ g v, e = .returned (.pointer (some ⟨g, 0, none⟩)) ∧ Ix w0 w' g v [0] 0 ∧ Below w0.heap.size w0 w' ∧ Below w.heap.size w w' := by
  have HB := Aside0.mk hB
  have hs := below_size hB
  go_enter Try.func15, Try.ntmps15
  go_wp2
  go_ret
  have hz : (w.alloc (.cells #[.int .i64 0] 3)).heap.size = w.heap.size + 1 := by simp
  refine ⟨w.heap.size + 1, .slice (some ⟨w.heap.size, 0, none⟩) 1 1, rfl, ⟨by omega, by rw [← hz]; exact blk_new _ _, ?_⟩, below_alloc (below_alloc HB.out _) _, below_alloc (below_alloc (Below.refl _ _) _) _⟩
  exact Kd.R_alloc (Kd.R_of_own (own_lit w w0.heap.size 3 .i64 [0] hs (by decide)) (fun _ _ => trivial)) _
end Go.Proofs.Ytcjfhcfkjnfihaa.PLines
