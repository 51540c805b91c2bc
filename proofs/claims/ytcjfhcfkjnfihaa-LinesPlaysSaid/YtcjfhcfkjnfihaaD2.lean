/- The index of lines in memory: Splice out of range. -/
import Derived.Test.YtcjfhcfkjnfihaaC
namespace Go.Proofs.Ytcjfhcfkjnfihaa.PLines
open Go.RowKit Go.Proofs.YtcjfhcfkjnfihaaW.PrintWords Go.Proofs.YtcjfhcfkjnfihaaW.PrintLast Go.Proofs.YtcjfhcfkjnfihaaW.PrintMore

set_option maxHeartbeats 4000000 in
set_option maxRecDepth 100000 in
theorem splice_bad1 (w : World) (g : Nat) (v : Value) (n : Int) (h : w.heap[g]? = some (.cells #[v, .int .i64 n] 49 (0, 0)))
    (p d x : Int) (V : Value) (c1 : p < 0) :
    Calls Try.prog 17 #[.pointer (some ⟨g, 0, none⟩), .int .i64 p, .int .i64 d, V, .int .u8 x] w fun e w' => e = .returned (.int .i64 9) ∧ Below w.heap.size w w' := by
  have hd : (w.alloc (.cells #[.int .i64 p] 3)).cell? ⟨g, 1, none⟩ = some (.int .i64 n) := (blk_cell (blk_below h (below_alloc (Below.refl _ _) _)) 1).trans rfl
  have hb : (w.alloc (.cells #[.int .i64 p] 3)).cell? ⟨w.heap.size, 0, none⟩ = some (.int .i64 p) := (blk_cell (blk_new w _) 0).trans rfl
  have HB := Aside0.mk (below_alloc (Below.refl w.heap.size w) (.cells #[.int .i64 p] 3))
  clear h
  go_enter Try.func17, Try.ntmps17
  go_wp2_with fail
  generalize w.alloc (.cells #[.int .i64 p] 3) = W at *
  go_quiet (fail)
  go_wp2
  go_ret
  exact ⟨rfl, pw_below_drewN HB.out _⟩
set_option maxHeartbeats 4000000 in
set_option maxRecDepth 100000 in
theorem splice_bad2 (w : World) (g : Nat) (v : Value) (n : Int) (h : w.heap[g]? = some (.cells #[v, .int .i64 n] 49 (0, 0)))
    (p d x : Int) (V : Value) (c1 : 0 ≤ p) (c2 : d < 0) :
    Calls Try.prog 17 #[.pointer (some ⟨g, 0, none⟩), .int .i64 p, .int .i64 d, V, .int .u8 x] w fun e w' => e = .returned (.int .i64 9) ∧ Below w.heap.size w w' := by
  have hd : (w.alloc (.cells #[.int .i64 p] 3)).cell? ⟨g, 1, none⟩ = some (.int .i64 n) := (blk_cell (blk_below h (below_alloc (Below.refl _ _) _)) 1).trans rfl
  have hb : (w.alloc (.cells #[.int .i64 p] 3)).cell? ⟨w.heap.size, 0, none⟩ = some (.int .i64 p) := (blk_cell (blk_new w _) 0).trans rfl
  have HB := Aside0.mk (below_alloc (Below.refl w.heap.size w) (.cells #[.int .i64 p] 3))
  clear h
  have b0 : decide (p < 0) = false := by first | exact decide_eq_true (by omega) | exact decide_eq_false (by omega)
  have b1 : decide (d < 0) = true := by first | exact decide_eq_true (by omega) | exact decide_eq_false (by omega)
  clear c1 c2
  go_enter Try.func17, Try.ntmps17
  go_wp2_with fail
  generalize w.alloc (.cells #[.int .i64 p] 3) = W at *
  go_quiet (fail)
  go_wp2
  go_ret
  exact ⟨rfl, pw_below_drewN HB.out _⟩
set_option maxHeartbeats 4000000 in
set_option maxRecDepth 100000 in
theorem splice_bad3 (w : World) (g : Nat) (v : Value) (n : Int) (h : w.heap[g]? = some (.cells #[v, .int .i64 n] 49 (0, 0)))
    (p d x : Int) (V : Value) (c1 : 0 ≤ p) (c2 : 0 ≤ d) (c3 : n < p) :
    Calls Try.prog 17 #[.pointer (some ⟨g, 0, none⟩), .int .i64 p, .int .i64 d, V, .int .u8 x] w fun e w' => e = .returned (.int .i64 9) ∧ Below w.heap.size w w' := by
  have hd : (w.alloc (.cells #[.int .i64 p] 3)).cell? ⟨g, 1, none⟩ = some (.int .i64 n) := (blk_cell (blk_below h (below_alloc (Below.refl _ _) _)) 1).trans rfl
  have hb : (w.alloc (.cells #[.int .i64 p] 3)).cell? ⟨w.heap.size, 0, none⟩ = some (.int .i64 p) := (blk_cell (blk_new w _) 0).trans rfl
  have HB := Aside0.mk (below_alloc (Below.refl w.heap.size w) (.cells #[.int .i64 p] 3))
  clear h
  have b0 : decide (p < 0) = false := by first | exact decide_eq_true (by omega) | exact decide_eq_false (by omega)
  have b1 : decide (d < 0) = false := by first | exact decide_eq_true (by omega) | exact decide_eq_false (by omega)
  have b2 : decide (n < p) = true := by first | exact decide_eq_true (by omega) | exact decide_eq_false (by omega)
  clear c1 c2 c3
  go_enter Try.func17, Try.ntmps17
  go_wp2_with fail
  generalize w.alloc (.cells #[.int .i64 p] 3) = W at *
  go_quiet (fail)
  go_wp2
  go_ret
  exact ⟨rfl, pw_below_drewN HB.out _⟩
set_option maxHeartbeats 4000000 in
set_option maxRecDepth 100000 in
theorem splice_bad4 (w : World) (g : Nat) (v : Value) (n : Int) (h : w.heap[g]? = some (.cells #[v, .int .i64 n] 49 (0, 0)))
    (p d x : Int) (V : Value) (h0 : 0 ≤ n) (hn : n ≤ 1000000) (c1 : 0 ≤ p) (c2 : 0 ≤ d) (c3 : p ≤ n) (c4 : n - p < d) :
    Calls Try.prog 17 #[.pointer (some ⟨g, 0, none⟩), .int .i64 p, .int .i64 d, V, .int .u8 x] w fun e w' => e = .returned (.int .i64 9) ∧ Below w.heap.size w w' := by
  have hd : (w.alloc (.cells #[.int .i64 p] 3)).cell? ⟨g, 1, none⟩ = some (.int .i64 n) := (blk_cell (blk_below h (below_alloc (Below.refl _ _) _)) 1).trans rfl
  have hb : (w.alloc (.cells #[.int .i64 p] 3)).cell? ⟨w.heap.size, 0, none⟩ = some (.int .i64 p) := (blk_cell (blk_new w _) 0).trans rfl
  have HB := Aside0.mk (below_alloc (Below.refl w.heap.size w) (.cells #[.int .i64 p] 3))
  clear h
  have hw : IntKind.i64.wrap (n - p) = n - p := by simp [IntKind.wrap, IntKind.bits, IntKind.signed]; omega
  go_enter Try.func17, Try.ntmps17
  go_wp2_with fail
  generalize w.alloc (.cells #[.int .i64 p] 3) = W at *
  go_quiet (fail)
  go_wp2
  go_ret
  exact ⟨rfl, pw_below_drewN HB.out _⟩
theorem splice_bad (w : World) (g : Nat) (v : Value) (n : Int) (h : w.heap[g]? = some (.cells #[v, .int .i64 n] 49 (0, 0))) (h0 : 0 ≤ n) (hn : n ≤ 1000000)
    (p d x : Int) (V : Value) (hbad : p < 0 ∨ d < 0 ∨ n < p ∨ n - p < d) :
    Calls Try.prog 17 #[.pointer (some ⟨g, 0, none⟩), .int .i64 p, .int .i64 d, V, .int .u8 x] w fun e w' => e = .returned (.int .i64 9) ∧ Below w.heap.size w w' := by
  by_cases c1 : p < 0
  · exact splice_bad1 w g v n h p d x V c1
  · by_cases c2 : d < 0
    · exact splice_bad2 w g v n h p d x V (by omega) c2
    · by_cases c3 : n < p
      · exact splice_bad3 w g v n h p d x V (by omega) (by omega) c3
      · exact splice_bad4 w g v n h p d x V h0 hn (by omega) (by omega) (by omega) (by omega)
end Go.Proofs.Ytcjfhcfkjnfihaa.PLines
