/- slices.IndexFunc over a closure that asks 'greater than the captured number'. -/
import Derived.Test.YtcjfhcfkjnfihaaPLinesx0
import Derived.Lib.Hide
import Derived.Deep.DeepMust
namespace Go.Proofs.Ytcjfhcfkjnfihaa.PLines
open Go.RowKit Go.Proofs.YtcjfhcfkjnfihaaW.PrintWords Go.Proofs.YtcjfhcfkjnfihaaW.PrintLast Go.Proofs.YtcjfhcfkjnfihaaW.PrintMore

/-- The place of the first that is greater; -1. -/
def gtAt (a : Int) : List Int → Int → Int
  | [], _ => -1
  | x :: t, i => if a < x then i else gtAt a t (i + 1)

section
variable {P : Program} {ops : Array Oper} {Q : Exit → Act → World → Prop}
/-- A call of a function value, as an arm of go_wp2_with. -/
theorem goesF_ {rest : List Oper} {oi : Oper} {a : Act} {w : World} (hg : oi.guard = none) {f : FuncId} {caps : List Value} {fn : Func} {x : Operand} {xs : Array Operand} {ts : Array TypeId} (hop : oi.op = .call { callee := .value x, args := xs, argTypes := ts }) (hx : a.eval x = .func (.func f) #[] caps.toArray)
    (hf : P.funcs[f]? = some fn) (hname : (fn.name == "runtime.NumGoroutine") = false) (hb : fn.body.isSome = true) (args : List Value) (hargs : (xs.map a.eval).toList = args)
    (h : Calls P f (args ++ caps).toArray w fun e w' => ∃ v, e = .returned v ∧ wpList P ops Q rest (a.put oi.dst v) w') : wpList P ops Q (oi :: rest) a w := by
  refine wpList_plain hg fun K hK => ?_
  have he := enters_ hf hname hb (args ++ caps).toArray w
  have hargs' : xs.map a.eval = args.toArray := by rw [← hargs]
  have hrun : (execOp a.eval oi).run P w = .ok (.enter f (args ++ caps).toArray) w := by
    unfold execOp
    simp [hop, resolve, Deferred.ofValue, invoke, hx, hargs', he]
  unfold Oper.wp
  rw [hrun, Oper.upon_enter]
  refine h.mono fun e w'' hh => ?_
  obtain ⟨v, rfl, hk⟩ := hh
  exact hK _ _ hk
theorem gate_value {rest : List Oper} {oi : Oper} {a : Act} {w : World} {x : Tmp} {xs : Array Operand} {ts : Array TypeId} (_hop : oi.op = .call { callee := .value (.tmp x), args := xs, argTypes := ts }) (h : wpList P ops Q (oi :: rest) a w) : wpList P ops Q (oi :: rest) a w := h
end

theorem gt20 (g : Nat) (a s : Int) (W : World) (h : W.heap[g]? = some (.cells #[.int .i64 a] 3 (0, 0))) : Calls Try.prog 20 #[.int .i64 s, .pointer (some ⟨g, 0, none⟩)] W fun e W' => e = .returned (.bool (decide (a < s))) ∧ Below W.heap.size W W' := by
  have hc := (blk_cell h 0).trans (show (#[Value.int .i64 a] : Array Value)[0]? = some (.int .i64 a) from rfl)
  go_enter Try.func20, Try.ntmps20
  go_wp2
  go_ret
  exact ⟨rfl, Below.refl _ _⟩
theorem gt22 (g : Nat) (a s : Int) (W : World) (h : W.heap[g]? = some (.cells #[.int .i64 a] 3 (0, 0))) : Calls Try.prog 22 #[.int .i64 s, .pointer (some ⟨g, 0, none⟩)] W fun e W' => e = .returned (.bool (decide (a < s))) ∧ Below W.heap.size W W' := by
  have hc := (blk_cell h 0).trans (show (#[Value.int .i64 a] : Array Value)[0]? = some (.int .i64 a) from rfl)
  go_enter Try.func22, Try.ntmps22
  go_wp2
  go_ret
  exact ⟨rfl, Below.refl _ _⟩

theorem gtAt_drop (a : Int) (l : List Int) (k : Nat) (hk : k < l.length) (i : Int) : gtAt a (l.drop k) i = if a < rd l k then i else gtAt a (l.drop (k + 1)) (i + 1) := by
  rw [List.drop_eq_getElem_cons hk]
  have : rd l k = l[k] := by
    unfold rd
    rw [Int.toNat_natCast, List.getD_eq_getElem?_getD, List.getElem?_eq_getElem hk]
    rfl
  rw [this]
  rfl

set_option maxHeartbeats 4000000 in
set_option maxRecDepth 100000 in
theorem index_gt (f : FuncId) (fn : Func) (hfn : Try.prog.funcs[f]? = some fn) (hnm : (fn.name == "runtime.NumGoroutine") = false) (hbd : fn.body.isSome = true) (g : Nat) (a : Int)
    (hf : ∀ (s : Int) (W : World), W.heap[g]? = some (.cells #[.int .i64 a] 3 (0, 0)) → Calls Try.prog f #[.int .i64 s, .pointer (some ⟨g, 0, none⟩)] W fun e W' => e = .returned (.bool (decide (a < s))) ∧ Below W.heap.size W W')
    (A0 : Option Addr) (c0 : Nat) (l : List Int) (w : World) (hr0 : Kd.C (Kd.int .i64) w A0 l.length l) (hl : l.length ≤ 1000000) (hg : w.heap[g]? = some (.cells #[.int .i64 a] 3 (0, 0))) :
    Calls Try.prog 19 #[.slice A0 l.length c0, .func (.func f) #[] #[.pointer (some ⟨g, 0, none⟩)]] w fun e w' => e = .returned (.int .i64 (gtAt a l 0)) ∧ Below w.heap.size w w' := by
  have HR0 := Aside0.mk hr0
  have HG := Aside0.mk hg
  have HF := Aside0.mk hf
  clear hr0 hg hf
  go_enter Try.func19, Try.ntmps19
  go_wp2
  go_loopw [8] (fun i wr => ∃ k : Nat, k ≤ l.length ∧ i = .int .i64 k ∧ Aside0 (gtAt a l 0 = gtAt a (l.drop k) k) ∧ Aside0 (Below w.heap.size w wr))
    (fun i _ => l.length - (intOf i).toNat)
  case atStart => exact ⟨0, Nat.zero_le _, rfl, ⟨rfl⟩, ⟨Below.refl _ _⟩⟩
  case round =>
    obtain ⟨k, hk, rfl, HE, HB⟩ := hrel
    by_cases hkl : k < l.length
    · obtain ⟨ad, e1, hx0⟩ := Kd.at_int HR0.out (k : Int) (by omega) (by omega)
      cases e1
      replace hx0 := (HB.out.cell (World.block_lt_of_cell? w _ hx0)).trans hx0
      simp only [Int.toNat_natCast] at hx0
      have HD := Aside0.mk (HE.out.trans (gtAt_drop a l k hkl k))
      obtain ⟨s, hs⟩ : ∃ s, s = rd l k := ⟨_, rfl⟩
      rw [← hs] at hx0 HD
      clear hs
      have HG1 := Aside0.mk (blk_below HG.out HB.out)
      by_cases c : a < s
      · go_wp2_with ((with_reducible refine gate_value (x := 11) rfl ?_); go_must (refine goesF_ (f := f) (caps := [.pointer (some ⟨g, 0, none⟩)]) rfl rfl rfl hfn hnm hbd [.int .i64 s] (by (try simp only [List.map_toArray, List.map_cons, List.map_nil]); first | done | rfl) ?_); go_must (refine (HF.out s _ HG1.out).mono ?_); rintro e w1 ⟨rfl, hb⟩; refine ⟨_, rfl, ?_⟩; rw [decide_eq_true c]; have HB1 := Aside0.mk (below_step HB.out hb); clear hb)
        go_ret
        exact ⟨by rw [HD.out, if_pos c]; rfl, HB1.out⟩
      · go_wp2_with ((with_reducible refine gate_value (x := 11) rfl ?_); go_must (refine goesF_ (f := f) (caps := [.pointer (some ⟨g, 0, none⟩)]) rfl rfl rfl hfn hnm hbd [.int .i64 s] (by (try simp only [List.map_toArray, List.map_cons, List.map_nil]); first | done | rfl) ?_); go_must (refine (HF.out s _ HG1.out).mono ?_); rintro e w1 ⟨rfl, hb⟩; refine ⟨_, rfl, ?_⟩; rw [decide_eq_false c]; have HB1 := Aside0.mk (below_step HB.out hb); clear hb)
        go_roundw
        case measure => simp [intOf]; omega
        case rel => exact ⟨k + 1, by omega, by simp, ⟨by rw [HD.out, if_neg c]; rfl⟩, HB1⟩
    · obtain rfl : k = l.length := by omega
      go_wp2
      go_ret
      exact ⟨by rw [HE.out, List.drop_length]; rfl, HB.out⟩
end Go.Proofs.Ytcjfhcfkjnfihaa.PLines
