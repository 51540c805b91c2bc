/- Plain: what forest's walk comes to, step by step; and the words for its closures. -/
import Derived.Test.YtkbhdlcphiljlaaPForestx0
import Derived.Lib.Hide
namespace Go.Proofs.Ytkbhdlcphiljlaa.PForest
open Go.RowKit Go.Proofs.YtkbhdlcphiljlaaW.PrintWords Go.Proofs.YtkbhdlcphiljlaaW.PrintLast Go.Proofs.YtkbhdlcphiljlaaW.PrintMore

/-- The calls that are open, the most there were, what was told. -/
structure St where
  o : List Int
  m : Int
  ev : List (Int × Int)
def last (o : List Int) : Int := rd o ((o.length : Int) - 1)
def step (s : St) (i k : Int) : St :=
  if k = 1 then ⟨s.o ++ [i], max s.m (s.o.length + 1), s.ev⟩
  else if k = 2 then (if s.o = [] then ⟨[], s.m, s.ev ++ [(-1, i)]⟩ else ⟨s.o.take (s.o.length - 1), s.m, s.ev ++ [(last s.o, i)]⟩)
  else s
def run (l : List S25) : Nat → St
  | 0 => ⟨[], 0, []⟩
  | n + 1 => step (run l n) n (rd_T25 l n).f1

theorem run_le (l : List S25) (n : Nat) : (run l n).o.length ≤ n ∧ 0 ≤ (run l n).m ∧ (run l n).m ≤ n ∧ ∀ x ∈ (run l n).o, 0 ≤ x ∧ x < n := by
  induction n with
  | zero => exact ⟨Nat.le_refl _, Int.le_refl _, Int.le_refl _, fun x hx => by simp [run] at hx⟩
  | succ n ih =>
    obtain ⟨h1, h2, h3, h4⟩ := ih
    unfold run step
    split
    · refine ⟨by simp only [List.length_append, List.length_singleton]; omega, by simp only []; omega, by simp only []; omega, fun x hx => ?_⟩
      simp only [List.mem_append, List.mem_singleton] at hx
      rcases hx with hx | rfl
      · have := h4 x hx; omega
      · omega
    · split
      · split
        · refine ⟨by simp only [List.length_nil]; omega, h2, by simp only []; omega, fun x hx => by simp at hx⟩
        · refine ⟨by simp only [List.length_take]; omega, h2, by simp only []; omega, fun x hx => ?_⟩
          have := h4 x (List.mem_of_mem_take hx); omega
      · exact ⟨by omega, h2, by omega, fun x hx => by have := h4 x hx; omega⟩

theorem run_ev (l : List S25) (n : Nat) : (run l n).ev.length ≤ n := by
  induction n with
  | zero => exact Nat.le_refl _
  | succ n ih =>
    unfold run step
    split
    · simp only []; omega
    · split
      · split <;> simp only [List.length_append, List.length_singleton] <;> omega
      · omega

theorem last_in (l : List S25) (n : Nat) (h : (run l n).o ≠ []) : 0 ≤ last (run l n).o ∧ last (run l n).o < n := by
  have hp : 0 < (run l n).o.length := List.length_pos_iff.mpr h
  refine (run_le l n).2.2.2 _ ?_
  unfold last rd
  rw [show (((run l n).o.length : Int) - 1).toNat = (run l n).o.length - 1 by omega, List.getD_eq_getElem?_getD, List.getElem?_eq_getElem (by omega)]
  exact List.getElem_mem _

/-- What a closure of walk's must do: 'T ev v W': what was told is ev; the row of open calls, v, is none of the closure's. -/
structure Clos (n : Nat) (w0 : World) (f : FuncId) (caps : List Value) (T : List (Int × Int) → Value → World → Prop) : Prop where
  ent : ∃ fn, Try.prog.funcs[f]? = some fn ∧ (fn.name == "runtime.NumGoroutine") = false ∧ fn.body.isSome = true
  calm : ∀ ev v W W', T ev v W → Below W.heap.size W W' → T ev v W'
  turn : ∀ ev v v1 W W', T ev v W → W.grownBy W' v.ownBlock → (v1.ownBlock = v.ownBlock ∨ ∃ b, v1.ownBlock = some b ∧ W.heap.size ≤ b) → (∀ k, v1.ownBlock = some k → k < W'.heap.size) → T ev v1 W'
  same : ∀ ev v v1 W, T ev v W → v1.ownBlock = v.ownBlock → T ev v1 W
  call : ∀ ev v W (c r : Int), ev.length < n → -1 ≤ c → c < n → 0 ≤ r → r < n → T ev v W → Below w0.heap.size w0 W → Calls Try.prog f ((.int .i64 c :: .int .i64 r :: caps).toArray) W fun e W' => e = .returned (.tuple #[]) ∧ T (ev ++ [(c, r)]) v W' ∧ Below w0.heap.size w0 W' ∧ (∀ k, some k = v.ownBlock → W'.heap[k]? = W.heap[k]?) ∧ W.heap.size ≤ W'.heap.size

theorem noop24 (c r : Int) (W : World) : Calls Try.prog 24 #[.int .i64 c, .int .i64 r] W fun e W' => e = .returned (.tuple #[]) ∧ W = W' := by
  go_enter Try.func24, Try.ntmps24
  go_wp2
  go_end0
  exact ⟨rfl, rfl⟩
theorem noop28 (c r : Int) (W : World) : Calls Try.prog 28 #[.int .i64 c, .int .i64 r] W fun e W' => e = .returned (.tuple #[]) ∧ W = W' := by
  go_enter Try.func28, Try.ntmps28
  go_wp2
  go_end0
  exact ⟨rfl, rfl⟩
end Go.Proofs.Ytkbhdlcphiljlaa.PForest
