/- Feed, with what it keeps. -/
import Derived.Test.YtcjfhcfkjnfihaaC
namespace Go.Proofs.Ytcjfhcfkjnfihaa.PLines
open Go.RowKit Go.Proofs.YtcjfhcfkjnfihaaW.PrintWords Go.Proofs.YtcjfhcfkjnfihaaW.PrintLast Go.Proofs.YtcjfhcfkjnfihaaW.PrintMore

set_option maxHeartbeats 4000000 in
set_option maxRecDepth 100000 in
theorem feed_keep (w0 w : World) (g : Nat) (v : Value) (l : List Int) (n : Int) (h : Ix w0 w g v l n) (hB : Below w0.heap.size w0 w) (hl : l.length ≤ 1000000) (h0 : 0 ≤ n) (hn : n ≤ 1000000)
    (A0 : Option Addr) (c0 : Nat) (b : List Int) (hr : Kd.C (Kd.int .u8) w A0 b.length b) (hc0 : b.length ≤ c0) (hb : b.length ≤ 1000000) :
    Calls Try.prog 16 #[.pointer (some ⟨g, 0, none⟩), .slice A0 b.length c0] w fun e w' => e = .returned (.tuple #[]) ∧ ∃ v', Ix w0 w' g v' (l ++ behF b n) (n + b.length) ∧ Below w0.heap.size w0 w' ∧ KeepBut w w' g v.ownBlock := by
  obtain ⟨A, c, rfl⟩ := Kd.R_slice h.row
  have hc := h.c0
  have hd := h.c1
  obtain ⟨k, hk⟩ := behind_ev b n hb h0 (by omega)
  have HK := Aside0.mk (hk k (Nat.le_refl _))
  have HR := Aside0.mk hr
  have HI := Aside0.mk h
  have HB := Aside0.mk hB
  have hbl := behK_le b n b.length
  have HL := Aside0.mk (show (l.length + (behF b n).length) * 8 ≤ 140737488355328 by unfold behF; omega)
  have hw : IntKind.i64.wrap (n + (b.length : Int)) = n + b.length := by simp [IntKind.wrap, IntKind.bits, IntKind.signed]; omega
  clear hk hr h hB hl hbl
  go_enter Try.func16, Try.ntmps16
  go_wp2_with fail
  go_region_law (first | (go_simp; go_at_call 21; (with_reducible refine (lines_behind.calls k _ _ b n (behF b n) _ ?side1 ?side2 HK.out).mono ?_); (case side1 => (repeat (first | exact HR.out | (with_reducible refine Kd.C_drewN ?_ _) | (with_reducible refine Kd.C_drew ?_)))); (case side2 => exact hc0); rintro e w6 ⟨v109, rfl, ho0, hb0⟩; obtain ⟨A2, c2, rfl⟩ := Kd.R_slice ho0; have hb6 := below_step (w := w) (by repeat (first | exact Below.refl _ _ | apply below_drew1 | apply pw_below_drewN)) hb0; have HI6 := Aside0.mk (blk_below HI.out.cell hb6); have HB6 := Aside0.mk hb6; have HBB6 := Aside0.mk (below_step HB.out hb6); have HO6 := Aside0.mk ho0; have hc6 := (blk_cell HI6.out 0).trans rfl; have hd6 := (blk_cell HI6.out 1).trans rfl; clear hc hd hb6 hb0 ho0) | (refine Kd.R_append_rows_step (Kd.int .i64) (w0 := w0) w0.heap.size rfl (.tmp 10) (.tmp 16) 23 3 (.int .i64 0) 8 rfl Try.underlying23 info3 rfl (by decide) (by omega) (.slice A l.length c) l (behF b n) A2 _ c2 (fun _ => True) (fun _ => False) rfl rfl (Kd.R_below HI.out.row HB6.out) (Kd.R_reads' HO6.out).2.2 (fun _ _ h => h) (fun _ h => h.elim) (fun _ _ => trivial) HBB6.out HBB6.out.size HL.out ?_; intro v7 w7 ho7 hb7 hg7 hat7; obtain ⟨A7, c7, rfl⟩ := Kd.R_slice ho7; have HO7 := Aside0.mk ho7; have HB7 := Aside0.mk hb7; have hcell7 := (hg7.block _ (blk_lt HI6.out) HI.out.ne).trans HI6.out; have HI7 := Aside0.mk hcell7; have HG7 := Aside0.mk hg7; have hc7 := (blk_cell hcell7 0).trans rfl; have hd7 := (blk_cell hcell7 1).trans rfl; have ff0 := blk_frozen hcell7 0; have ff1 := blk_frozen hcell7 1; clear hc6 hd6; clear hcell7 hg7 hat7 ho7 hb7))
  all_goals (
    replace hd7 : w7.cell? ⟨g, 1, none⟩ = some (.int .i64 n) := hd7
    clear hc7
    try simp only [List.length_append] at HO7
    go_wp2
    go_end0
    refine ⟨rfl, .slice A7 (l.length + (behF b n).length) c7, Ix.set HI.out.ge HI7.out HO7.out (by first | rfl | (rw [hw])), (HB7.out.setCell HI.out.ge _).setCell HI.out.ge _, ?_⟩
    exact ((((KeepBut.of_below HB6.out g _).trans (KeepBut.of_grown HG7.out g) (.inl rfl)).set_ 0 _).set_ 1 _))
end Go.Proofs.Ytcjfhcfkjnfihaa.PLines
