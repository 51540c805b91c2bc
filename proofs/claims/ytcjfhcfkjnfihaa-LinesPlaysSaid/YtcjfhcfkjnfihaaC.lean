/- The index of lines in memory: slices.Clone, Starts, Feed. -/
import Derived.Test.YtcjfhcfkjnfihaaB
import Derived.Deep.RegionLaw
namespace Go.Proofs.Ytcjfhcfkjnfihaa.PLines
open Go.RowKit Go.Proofs.YtcjfhcfkjnfihaaW.PrintWords Go.Proofs.YtcjfhcfkjnfihaaW.PrintLast Go.Proofs.YtcjfhcfkjnfihaaW.PrintMore

theorem run_eqlIn23 (w : World) (d : Nat) (A : Option Addr) (n c : Nat) : (Op.equalIn (d + 1) 23 (.slice A n c) (.slice none 0 0)).run Try.prog w = .ok A.isNone w := by
  have h : Try.prog.underlying 23 = some (.slice 3) := Try.underlying23
  cases A <;> simp [Op.equalIn, run_underlying h]
theorem run_equal23 (w : World) (A : Option Addr) (n c : Nat) : (Op.equal 23 (.slice A n c) (.slice none 0 0)).run Try.prog w = .ok A.isNone w := run_eqlIn23 w 9999 A n c
theorem run_eql23 (w : World) (A : Option Addr) (n c : Nat) : (Go.binOp .eql 23 (.slice A n c) (.slice none 0 0)).run Try.prog w = .ok (.bool A.isNone) w := by
  simp [Go.binOp, run_equal23]
attribute [local go_sem] run_eql23

set_option maxHeartbeats 4000000 in
set_option maxRecDepth 100000 in
theorem clone_call (A0 : Option Addr) (c0 : Nat) (l : List Int) (w : World) (hr0 : Kd.C (Kd.int .i64) w A0 l.length l) (hl : l.length ≤ 1000000) :
    Calls Try.prog 23 #[.slice A0 l.length c0] w fun e w' => ∃ v : Value, e = .returned v ∧ Kd.R (Kd.int .i64) 3 w' w.heap.size (fun _ => True) v l ∧ Below w.heap.size w w' := by
  cases A0 with
  | none =>
    have hl0 : l = [] := by
      cases l with
      | nil => rfl
      | cons x t =>
        obtain ⟨ad, e, _⟩ := Kd.at_int hr0 0 (by omega) (by simp)
        cases e
    subst hl0
    go_enter Try.func23, Try.ntmps23
    go_wp2
    go_ret
    exact ⟨_, rfl, Kd.R_nil _ _ _ _ _, Below.refl _ _⟩
  | some ad =>
    have HR0 := Aside0.mk hr0
    clear hr0
    go_enter Try.func23, Try.ntmps23
    go_wp2_with (first | ((with_reducible refine gate_dst (N := 5) rfl ?_); refine Kd.R_lit (Kd.int .i64) w.heap.size 3 ?hg (N := 5) ?hd (xs := ([] : List Int)) (inner := []) (ok := fun _ => True) (okp := fun _ => True) ?hr ?hp (fun _ hk => hk) trivial (Below.refl _ _) (Nat.le_refl _) (by simp) ?_; (case hd => rfl); (case hg => rfl); (case hr => first | (go_simp; done) | (go_simp; rfl)); (case hp => exact (Reps.none _ _)); intro v1 w1 ho1 hb1 hg1 hn1; have HO1 := Aside0.mk ho1; have HB1 := Aside0.mk hb1; clear hg1 hn1 ho1 hb1) | ((with_reducible refine gate_builtin (b := .append) (xs := #[.tmp 5, .tmp 6]) rfl ?_); at_builtin; refine Kd.R_append_rows (Kd.int .i64) (w0 := w) w.heap.size rfl (.tmp 5) (.tmp 6) 23 3 (.int .i64 0) 8 rfl Try.underlying23 info3 rfl (by decide) (by omega) v1 ([] : List Int) l _ _ _ (fun _ => True) (fun _ => False) rfl rfl ?aO ?aR (fun _ _ h => h) (fun _ h => h.elim) (fun _ _ => trivial) ?aB ?aS ?aL ?_; (case aR => exact Kd.C_below HR0.out HB1.out); (case aB => exact HB1.out); (case aO => exact HO1.out); (case aS => exact below_size HB1.out); (case aL => simp only [List.length_nil]; omega); intro v2 w2 ho2 hb2 hg2 hat2; have HO2 := Aside0.mk ho2; have HB2 := Aside0.mk hb2; clear ho2 hb2 hg2 hat2))
    go_ret
    exact ⟨_, rfl, HO2.out, HB2.out⟩

theorem Ix.c0 {w0 W : World} {g : Nat} {v : Value} {l : List Int} {n : Int} (h : Ix w0 W g v l n) : W.cell? ⟨g, 0, none⟩ = some v := (blk_cell h.cell 0).trans rfl
theorem Ix.c1 {w0 W : World} {g : Nat} {v : Value} {l : List Int} {n : Int} (h : Ix w0 W g v l n) : W.cell? ⟨g, 1, none⟩ = some (.int .i64 n) := (blk_cell h.cell 1).trans rfl

set_option maxRecDepth 100000 in
theorem starts_nil (w : World) : Calls Try.prog 18 #[.pointer none] w fun e w' => e = .returned (.slice none 0 0) ∧ w' = w := by
  go_enter Try.func18, Try.ntmps18
  go_wp2
  go_ret
  exact ⟨rfl, rfl⟩

set_option maxRecDepth 100000 in
theorem starts_call (w0 w : World) (g : Nat) (v : Value) (l : List Int) (n : Int) (h : Ix w0 w g v l n) (hl : l.length ≤ 1000000) :
    Calls Try.prog 18 #[.pointer (some ⟨g, 0, none⟩)] w fun e w' => ∃ v' : Value, e = .returned v' ∧ Kd.R (Kd.int .i64) 3 w' w.heap.size (fun _ => True) v' l ∧ Below w.heap.size w w' := by
  obtain ⟨A, c, rfl⟩ := Kd.R_slice h.row
  have hc := h.c0
  have HC := Aside0.mk (Kd.R_reads' h.row).2.2
  have HL := Aside0.mk hl
  clear h hl
  go_enter Try.func18, Try.ntmps18
  go_wp2_with ((with_reducible refine gate_callee (f := 23) rfl ?_); refine goesL_ (some 9) rfl rfl Try.func23 (by kernel_rfl) rfl #[.slice A l.length c] rfl (by (try simp only [List.map_toArray, List.map_cons, List.map_nil]); first | done | rfl) ?_; (with_reducible refine (clone_call A c l _ HC.out HL.out).mono ?_); rintro e w6 ⟨v109, rfl, ho0, hb⟩; refine ⟨_, rfl, ?_⟩; have HO := Aside0.mk ho0; have HB := Aside0.mk hb; clear ho0 hb)
  go_ret
  exact ⟨_, rfl, HO.out, HB.out⟩

theorem Ix.ne {w0 W : World} {g : Nat} {v : Value} {l : List Int} {n : Int} (h : Ix w0 W g v l n) : some g ≠ v.ownBlock := own_ne (Kd.own_of_R h.row) h.cell (by decide)
/-- Both cells of the index written: the row stands in another block. -/
theorem Ix.set {w0 W W' : World} {g : Nat} {v v' : Value} {l' : List Int} {n n' : Int} (hge : w0.heap.size ≤ g) (hcell : W.heap[g]? = some (.cells #[v, .int .i64 n] 49 (0, 0))) (hrow : Kd.R (Kd.int .i64) 3 W w0.heap.size (fun _ => True) v' l')
    (he : W' = (W.setCell ⟨g, 0, none⟩ v').setCell ⟨g, 1, none⟩ (.int .i64 n')) : Ix w0 W' g v' l' n' := by
  subst he
  have hne := own_ne (Kd.own_of_R hrow) hcell (by decide)
  refine ⟨hge, ?_, ?_⟩
  · rw [blk_set (blk_set hcell 0 v') 1 (.int .i64 n')]
    rfl
  · exact Kd.R_of_own (own_setCell (own_setCell (Kd.own_of_R hrow) hne _) hne _) (fun _ _ => trivial)

set_option maxHeartbeats 4000000 in
set_option maxRecDepth 100000 in
theorem feed_call (w0 w : World) (g : Nat) (v : Value) (l : List Int) (n : Int) (h : Ix w0 w g v l n) (hB : Below w0.heap.size w0 w) (hl : l.length ≤ 1000000) (h0 : 0 ≤ n) (hn : n ≤ 1000000)
    (A0 : Option Addr) (c0 : Nat) (b : List Int) (hr : Kd.C (Kd.int .u8) w A0 b.length b) (hc0 : b.length ≤ c0) (hb : b.length ≤ 1000000) :
    Calls Try.prog 16 #[.pointer (some ⟨g, 0, none⟩), .slice A0 b.length c0] w fun e w' => e = .returned (.tuple #[]) ∧ ∃ v', Ix w0 w' g v' (l ++ behF b n) (n + b.length) ∧ Below w0.heap.size w0 w' := by
  obtain ⟨A, c, rfl⟩ := Kd.R_slice h.row
  have hc := h.c0
  have hd := h.c1
  obtain ⟨k, hk⟩ := behind_ev b n hb h0 (by omega)
  have HK := Aside0.mk (hk k (Nat.le_refl _))
  have HR := Aside0.mk hr
  have HI := Aside0.mk h
  have HB := Aside0.mk hB
  have hbl := behK_le b n b.length
  have HL := Aside0.mk (show (l.length + (behF b n).length) * 8 ≤ 140737488355328 by unfold behF; omega)
  have hw : IntKind.i64.wrap (n + (b.length : Int)) = n + b.length := by simp [IntKind.wrap, IntKind.bits, IntKind.signed]; omega
  clear hk hr h hB hl hbl
  go_enter Try.func16, Try.ntmps16
  go_wp2_with fail
  go_region_law (first | (go_simp; go_at_call 21; (with_reducible refine (lines_behind.calls k _ _ b n (behF b n) _ ?side1 ?side2 HK.out).mono ?_); (case side1 => (repeat (first | exact HR.out | (with_reducible refine Kd.C_drewN ?_ _) | (with_reducible refine Kd.C_drew ?_)))); (case side2 => exact hc0); rintro e w6 ⟨v109, rfl, ho0, hb0⟩; obtain ⟨A2, c2, rfl⟩ := Kd.R_slice ho0; have hb6 := below_step (w := w) (by repeat (first | exact Below.refl _ _ | apply below_drew1 | apply pw_below_drewN)) hb0; have HI6 := Aside0.mk (blk_below HI.out.cell hb6); have HB6 := Aside0.mk hb6; have HBB6 := Aside0.mk (below_step HB.out hb6); have HO6 := Aside0.mk ho0; have hc6 := (blk_cell HI6.out 0).trans rfl; have hd6 := (blk_cell HI6.out 1).trans rfl; clear hc hd hb6 hb0 ho0) | (refine Kd.R_append_rows_step (Kd.int .i64) (w0 := w0) w0.heap.size rfl (.tmp 10) (.tmp 16) 23 3 (.int .i64 0) 8 rfl Try.underlying23 info3 rfl (by decide) (by omega) (.slice A l.length c) l (behF b n) A2 _ c2 (fun _ => True) (fun _ => False) rfl rfl (Kd.R_below HI.out.row HB6.out) (Kd.R_reads' HO6.out).2.2 (fun _ _ h => h) (fun _ h => h.elim) (fun _ _ => trivial) HBB6.out HBB6.out.size HL.out ?_; intro v7 w7 ho7 hb7 hg7 hat7; obtain ⟨A7, c7, rfl⟩ := Kd.R_slice ho7; have HO7 := Aside0.mk ho7; have HB7 := Aside0.mk hb7; have hcell7 := (hg7.block _ (blk_lt HI6.out) HI.out.ne).trans HI6.out; have HI7 := Aside0.mk hcell7; have hc7 := (blk_cell hcell7 0).trans rfl; have hd7 := (blk_cell hcell7 1).trans rfl; have ff0 := blk_frozen hcell7 0; have ff1 := blk_frozen hcell7 1; clear hc6 hd6; clear hcell7 hg7 hat7 ho7 hb7))
  all_goals (
    replace hd7 : w7.cell? ⟨g, 1, none⟩ = some (.int .i64 n) := hd7
    clear hc7
    try simp only [List.length_append] at HO7
    go_wp2
    go_end0
    refine ⟨rfl, .slice A7 (l.length + (behF b n).length) c7, Ix.set HI.out.ge HI7.out HO7.out (by first | rfl | (rw [hw])), ?_⟩
    exact (HB7.out.setCell HI.out.ge _).setCell HI.out.ge _)
end Go.Proofs.Ytcjfhcfkjnfihaa.PLines
