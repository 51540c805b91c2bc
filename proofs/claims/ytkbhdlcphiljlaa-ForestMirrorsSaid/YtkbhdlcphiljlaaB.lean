/- The walk: forest's walk, over any closure that does what 'Clos' says. -/
import Derived.Test.YtkbhdlcphiljlaaA
import Derived.Deep.DeepMust
namespace Go.Proofs.Ytkbhdlcphiljlaa.PForest
open Go.RowKit Go.Proofs.YtkbhdlcphiljlaaW.PrintWords Go.Proofs.YtkbhdlcphiljlaaW.PrintLast Go.Proofs.YtkbhdlcphiljlaaW.PrintMore
attribute [local go_sem] max2_int min2_int max_two min_two max_three min_three max_four min_four

section
variable {P : Program} {ops : Array Oper} {Q : Exit → Act → World → Prop}
/-- A call of a function value, as an arm of go_wp2_with. -/
theorem goesF_ {rest : List Oper} {oi : Oper} {a : Act} {w : World} (hg : oi.guard = none) {f : FuncId} {caps : List Value} {fn : Func} {x : Operand} {xs : Array Operand} {ts : Array TypeId} (hop : oi.op = .call { callee := .value x, args := xs, argTypes := ts }) (hx : a.eval x = .func (.func f) #[] caps.toArray)
    (hf : P.funcs[f]? = some fn) (hname : (fn.name == "runtime.NumGoroutine") = false) (hb : fn.body.isSome = true) (args : List Value) (hargs : (xs.map a.eval).toList = args)
    (h : Calls P f (args ++ caps).toArray w fun e w' => ∃ v, e = .returned v ∧ wpList P ops Q rest (a.put oi.dst v) w') : wpList P ops Q (oi :: rest) a w := by
  refine wpList_plain hg fun K hK => ?_
  have he := enters_ hf hname hb (args ++ caps).toArray w
  have hargs' : xs.map a.eval = args.toArray := by rw [← hargs]
  have hrun : (execOp a.eval oi).run P w = .ok (.enter f (args ++ caps).toArray) w := by
    unfold execOp
    simp [hop, resolve, Deferred.ofValue, invoke, hx, hargs', he]
  unfold Oper.wp
  rw [hrun, Oper.upon_enter]
  refine h.mono fun e w'' hh => ?_
  obtain ⟨v, rfl, hk⟩ := hh
  exact hK _ _ hk
theorem gate_value {rest : List Oper} {oi : Oper} {a : Act} {w : World} {x : Tmp} {xs : Array Operand} {ts : Array TypeId} (_hop : oi.op = .call { callee := .value (.tmp x), args := xs, argTypes := ts }) (h : wpList P ops Q (oi :: rest) a w) : wpList P ops Q (oi :: rest) a w := h
end

theorem R_kept {e base : Nat} {W w1 : World} {v : Value} {xs : List Int} (h : Kd.R (Kd.int .i64) e W base (fun _ => True) v xs) (hk : ∀ k, some k = v.ownBlock → w1.heap[k]? = W.heap[k]?) : Kd.R (Kd.int .i64) e w1 base (fun _ => True) v xs :=
  Kd.R_mono (Kd.R_move (Kd.R_tight rfl h) (fun k hh => hk k hh)) (fun _ _ => trivial)

set_option maxHeartbeats 4000000 in
set_option maxRecDepth 100000 in
theorem walk_any {f : FuncId} {caps : List Value} {T : List (Int × Int) → Value → World → Prop} (A0 : Option Addr) (c0 : Nat) (l : List S25) (w0 w : World) (hC : Clos l.length w0 f caps T)
    (hr0 : Kd.C k25 w0 A0 l.length l) (_hc0 : l.length ≤ c0) (hl : l.length ≤ 1000000) (hT0 : T [] (.slice none 0 0) w) (hB0 : Below w0.heap.size w0 w) :
    Calls Try.prog 23 #[.slice A0 l.length c0, .func (.func f) #[] caps.toArray] w fun e w' => ∃ v : Value, e = .returned (.tuple #[v, .int .i64 (run l l.length).m]) ∧ Kd.R (Kd.int .i64) 3 w' w0.heap.size (fun _ => True) v (run l l.length).o ∧ T (run l l.length).ev v w' ∧ Below w0.heap.size w0 w' := by
  have HT0 := Aside0.mk hT0
  have HB0 := Aside0.mk hB0
  have HR0 := Aside0.mk hr0
  clear hT0 hB0 hr0
  obtain ⟨fn, hfn, hnm, hbd⟩ := hC.ent
  have HC := Aside0.mk hC
  clear hC
  go_enter Try.func23, Try.ntmps23
  go_wp2
  go_loopw [6, 7, 13] (fun v m i wr => ∃ k : Nat, k ≤ l.length ∧ i = .int .i64 k ∧ m = .int .i64 (run l k).m ∧ Aside0 (Kd.R (Kd.int .i64) 3 wr w0.heap.size (fun _ => True) v (run l k).o) ∧ Aside0 (T (run l k).ev v wr) ∧ Aside0 (Below w0.heap.size w0 wr))
    (fun _ _ i _ => l.length - (intOf i).toNat)
  case atStart => exact ⟨0, Nat.zero_le _, rfl, rfl, ⟨Kd.R_nil _ _ _ _ _⟩, HT0, HB0⟩
  case round =>
    obtain ⟨k, hk, rfl, rfl, HO, HT, HB⟩ := hrel
    by_cases hkl : k < l.length
    · obtain ⟨ad, e1, hx0, hx1⟩ := at_T25 HR0.out (k : Int) (by omega) (by omega)
      cases e1
      replace hx0 := (HB.out.cell (World.block_lt_of_cell? w0 _ hx0)).trans hx0
      replace hx1 := (HB.out.cell (World.block_lt_of_cell? w0 _ hx1)).trans hx1
      simp only [Int.toNat_natCast] at hx0 hx1
      have hrl := run_le l k
      have hre := run_ev l k
      obtain ⟨A, c, eo⟩ := Kd.R_slice HO.out
      subst eo
      have hst : run l (k + 1) = step (run l k) k (rd_T25 l k).f1 := rfl
      obtain ⟨ss, hss⟩ : ∃ ss, ss = run l k := ⟨_, rfl⟩
      have hli := last_in l k
      rw [← hss] at hrl HO HT hst hli hre ⊢
      obtain ⟨o, m, ev⟩ := ss
      have Hss := Aside0.mk hss
      clear hss
      simp only [] at hrl HO HT hli hre
      obtain ⟨hro, hrm0, hrm1, hrx⟩ := hrl
      obtain ⟨tk, htk⟩ : ∃ tk, tk = rd_T25 l k := ⟨_, rfl⟩
      rw [← htk] at hx0 hx1 hst
      obtain ⟨tok, kd⟩ := tk
      clear htk
      simp only [] at hx0 hx1
      by_cases hk1 : kd = 1
      · subst hk1
        have hst' : run l (k + 1) = ⟨o ++ [(k : Int)], max m (o.length + 1), ev⟩ := by rw [hst]; unfold step; rw [if_pos rfl]
        have HST := Aside0.mk hst'
        clear hst hst'
        go_wp2_with (at_builtin; (with_reducible refine gate_builtin (b := .append) (xs := #[.tmp 24, .tmp 26]) rfl ?_); go_must (refine Kd.R_append (Kd.int .i64) (w0 := w0) w0.heap.size rfl (.tmp 24) (.tmp 26) 29 3 (.int .i64 0) 8 rfl Try.underlying29 info3 rfl (by decide) (by omega) (.slice A o.length c) o (k : Int) [.int .i64 k] (fun _ => True) (fun _ => False) rfl (by first | (go_simp; done) | (go_simp; rfl)) ?aP (fun _ hk => hk.elim) (fun _ _ => trivial) (Kd.R_alloc HO.out _) (below_alloc HB.out _) ?aS ?aL ?_); (case aP => exact rfl); (case aS => exact below_size (below_alloc HB.out _)); (case aL => omega); intro v1 w1 ho hb hg hat; have HO1 := Aside0.mk ho; have HB1 := Aside0.mk hb; have HT1 := Aside0.mk (HC.out.turn _ _ _ _ _ (HC.out.calm _ _ _ _ HT.out (below_alloc (Below.refl _ _) _)) hg hat (fun k hk => Kd.R_lt ho k hk)); clear ho hb hg hat)
        go_roundw
        case measure => simp [intOf]; omega
        case rel =>
          refine ⟨k + 1, by omega, by simp, ?_, ?_, ?_, HB1⟩
          all_goals rw [HST.out]
          · simp only [Value.int.injEq, true_and]; split <;> omega
          · exact HO1
          · exact HT1
      · by_cases hk2 : kd = 2
        · subst hk2
          by_cases ho0 : o = []
          · subst ho0
            have hst' : run l (k + 1) = ⟨[], m, ev ++ [(-1, (k : Int))]⟩ := by rw [hst]; unfold step; rw [if_neg (by omega), if_pos rfl, if_pos rfl]
            have HST := Aside0.mk hst'
            clear hst hst'
            go_wp2_with ((with_reducible refine gate_value (x := 40) rfl ?_); go_must (refine goesF_ (f := f) (caps := caps) rfl rfl rfl hfn hnm hbd [.int .i64 (-1), .int .i64 k] (by (try simp only [List.map_toArray, List.map_cons, List.map_nil]); first | done | rfl) ?_); go_must (refine (HC.out.call ev _ _ (-1) k (by omega) (by omega) (by omega) (by omega) (by omega) (HC.out.calm _ _ _ _ HT.out (below_alloc (Below.refl _ _) _)) (below_alloc HB.out _)).mono ?_); rintro e w1 ⟨rfl, ht, hb, hkp, hsz⟩; refine ⟨_, rfl, ?_⟩; have HO1 := Aside0.mk (R_kept (Kd.R_alloc HO.out _) hkp); have HT1 := Aside0.mk ht; have HB1 := Aside0.mk hb; clear ht hb hkp hsz)
            go_roundw
            case measure => simp [intOf]; omega
            case rel =>
              refine ⟨k + 1, by omega, by simp, ?_, ?_, ?_, HB1⟩
              all_goals rw [HST.out]
              · exact HO1
              · exact HT1
          · have hli' := hli ho0
            have hpos : 0 < o.length := List.length_pos_iff.mpr ho0
            have hst' : run l (k + 1) = ⟨o.take (o.length - 1), m, ev ++ [(last o, (k : Int))]⟩ := by rw [hst]; unfold step; rw [if_neg (by omega), if_pos rfl, if_neg ho0]
            have HST := Aside0.mk hst'
            clear hst hst' hli
            obtain ⟨ad2, e2, hy⟩ := Kd.at_int (Kd.R_reads' HO.out).2.2 ((o.length : Int) - 1) (by omega) (by omega)
            cases e2
            have hoc : o.length ≤ c := (Kd.R_reads' HO.out).2.1
            replace hy : wr.cell? (ad2.add ((o.length : Int) - 1).toNat) = some (.int .i64 (last o)) := hy
            have hy' : wr.cell? (ad2.add (o.length - 1)) = some (.int .i64 (last o)) := by rw [show ((o.length : Int) - 1).toNat = o.length - 1 by omega] at hy; exact hy
            have hy2 : (wr.alloc (.cells #[.int .i64 tok, .int .i64 2] 25)).cell? (ad2.add (o.length - 1)) = some (.int .i64 (last o)) := (World.cell?_alloc_lt _ _ _ (World.block_lt_of_cell? wr _ hy')).trans hy'
            have hne : ((o.length : Int) == 0) = false := by simp; omega
            go_wp2_with ((with_reducible refine gate_value (x := 47) rfl ?_); go_must (refine goesF_ (f := f) (caps := caps) rfl rfl rfl hfn hnm hbd [.int .i64 (last o), .int .i64 k] (by (try simp only [List.map_toArray, List.map_cons, List.map_nil]); first | done | rfl) ?_); go_must (refine (HC.out.call ev _ _ (last o) k (by omega) (by omega) (by omega) (by omega) (by omega) (HC.out.calm _ _ _ _ HT.out (below_alloc (Below.refl _ _) _)) (below_alloc HB.out _)).mono ?_); rintro e w1 ⟨rfl, ht, hb, hkp, hsz⟩; refine ⟨_, rfl, ?_⟩; have HO1 := Aside0.mk (R_kept (Kd.R_alloc HO.out _) hkp); have HT1 := Aside0.mk ht; have HB1 := Aside0.mk hb; clear ht hb hkp hsz)
            go_roundw
            case measure => simp [intOf]; omega
            case rel =>
              refine ⟨k + 1, by omega, by simp, ?_, ?_, ?_, HB1⟩
              all_goals rw [HST.out]
              · exact ⟨Kd.R_take HO1.out (by omega)⟩
              · exact ⟨HC.out.same _ _ _ _ HT1.out rfl⟩
        · have hst' : run l (k + 1) = ⟨o, m, ev⟩ := by rw [hst]; unfold step; rw [if_neg hk1, if_neg hk2]
          have HST := Aside0.mk hst'
          clear hst hst'
          go_wp2
          go_roundw
          case measure => simp [intOf]; omega
          case rel =>
            refine ⟨k + 1, by omega, by simp, ?_, ?_, ?_, ⟨below_alloc HB.out _⟩⟩
            all_goals rw [HST.out]
            · exact ⟨Kd.R_alloc HO.out _⟩
            · exact ⟨HC.out.calm _ _ _ _ HT.out (below_alloc (Below.refl _ _) _)⟩
    · obtain rfl : k = l.length := by omega
      go_wp2
      go_ret2
      exact ⟨_, rfl, HO.out, HT.out, HB.out⟩
end Go.Proofs.Ytkbhdlcphiljlaa.PForest
