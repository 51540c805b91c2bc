/- told, of the lines' layer: every answer of the program that the statements ask by name is the document's. -/
import Derived.Test.YtcjfhcfkjnfihaaD
import Derived.Test.YtcjfhcfkjnfihaaD2
import Derived.Test.YtcjfhcfkjnfihaaPLinesx2
import Derived.Lib.SlBytesConst
namespace Go.Proofs.Ytcjfhcfkjnfihaa.PLines
open Go.RowKit Go.Proofs.YtcjfhcfkjnfihaaW.PrintWords Go.Proofs.YtcjfhcfkjnfihaaW.PrintLast Go.Proofs.YtcjfhcfkjnfihaaW.PrintMore

def gobolaw4_told.f : Option Bool := some true

theorem lit_C (W : World) (e : Nat) (k : IntKind) (xs : List Int) (cells : Array Value) (hc : cells = (nums k xs).toArray) (hm : xs.length ≤ 9223372036854775807) : Kd.C (Kd.int k) (W.alloc (.cells cells e)) (some ⟨W.heap.size, 0, none⟩) xs.length xs := by
  subst hc
  exact (Kd.R_reads' (c := xs.length) (Kd.R_of_own (own_lit W W.heap.size e k xs (Nat.le_refl _) hm) (ok := fun _ => True) (fun _ _ => trivial))).2.2

theorem C_same {w w' : World} {k : IntKind} {A : Option Addr} {n : Nat} {xs : List Int} (h : Kd.C (Kd.int k) w A n xs) (he : ∀ a, w'.cell? a = w.cell? a) : Kd.C (Kd.int k) w' A n xs := by
  refine ⟨h.1, h.2.1, fun hp => ?_⟩
  obtain ⟨ad, e, hc⟩ := h.2.2 hp
  refine ⟨ad, e, fun j p hj => ?_⟩
  obtain ⟨c, h1, h2, h3⟩ := hc j p hj
  exact ⟨c, h1, h2, fun i u hu => (he _).trans (h3 i u hu)⟩
theorem alloc_mark (W : World) (e : Nat) (cells : Array Value) (z : Nat × Nat) (a : Addr) : (W.alloc (.cells cells e z)).cell? a = (W.alloc (.cells cells e)).cell? a := by
  unfold World.cell? World.alloc
  by_cases h : a.block = W.heap.size
  · simp only [Array.getElem?_push]
    rw [if_pos h, if_pos h]
  · simp only [Array.getElem?_push]
    rw [if_neg h, if_neg h]
theorem lit_Cm (W : World) (e : Nat) (k : IntKind) (xs : List Int) (cells : Array Value) (z : Nat × Nat) (hc : cells = (nums k xs).toArray) (hm : xs.length ≤ 9223372036854775807) : Kd.C (Kd.int k) (W.alloc (.cells cells e z)) (some ⟨W.heap.size, 0, none⟩) xs.length xs :=
  C_same (lit_C W e k xs cells hc hm) (alloc_mark W e cells z)

theorem st1 : lines_Starts.f 9 [97, 10, 98] = some [0, 2] := by decide +kernel
theorem en1 : lines_Ends.f 9 [97, 98, 13, 10, 99] 0 = some (0, 2) := by decide +kernel
theorem fi1 : lines_Find.f [0, 2] 3 = some (1, 1) := by decide +kernel
theorem fi2 : lines_Find.f [1] 3 = some (-1, -1) := by decide +kernel

theorem own_C {w : World} {b : Nat} {A : Option Addr} {n c : Nat} {ok : Nat → Prop} {xs : List Int} (h : Kd.R (Kd.int .i64) 3 w b ok (.slice A n c) xs) : n ≤ c ∧ Kd.C (Kd.int .i64) w A xs.length xs := ⟨(Kd.R_reads' h).2.1, (Kd.R_reads' h).2.2⟩

theorem fe1 : ([0] : List Int) ++ behF [113, 10] 0 = [0, 2] := by decide +kernel
theorem sp1 : spF [0, 2] 0 1 [10] = [0, 1, 2] := by decide +kernel
theorem Ix.below {w0 W W' : World} {g : Nat} {v : Value} {l : List Int} {n : Int} (h : Ix w0 W g v l n) (hb : Below W.heap.size W W') : Ix w0 W' g v l n := ⟨h.ge, blk_below h.cell hb, Kd.R_below h.row hb⟩

set_option maxHeartbeats 8000000 in
set_option maxRecDepth 100000 in
theorem told_calls (w : World) : Calls Try.prog 7 #[] w fun e w' => e = .returned (.bool true) ∧ Below w.heap.size w w' := by
  have HB := Aside0.mk (Below.refl w.heap.size w)
  have kc := fun (w : World) (C : Array Value) (n c : Nat) => Lib.run_convert_bytes_const (P := Try.prog) w 22 5 C n c Try.underlying22 Try.underlying5
  go_enter Try.func7, Try.ntmps7
  go_upto_region 2 with (go_at_call 13; go_must (refine (lines_Starts.calls 9 _ _ [97, 10, 98] [0, 2] _ (lit_Cm _ _ _ _ _ _ rfl (by decide)) (by decide) st1).mono ?_); rintro e w1 ⟨v1, rfl, ho, hb⟩; obtain ⟨A1, c1, rfl⟩ := Kd.R_slice ho; have HL := Aside0.mk (own_C ho); have HN := Aside0.mk (below_step (w := w) (below_alloc HB.out _) hb); clear HB; have HB := HN; clear HN ho hb)
  go_upto_region 3 with (go_at_call 10; go_must (refine (lines_Find.calls _ _ [0, 2] 3 1 1 _ HL.out.2 HL.out.1 fi1).mono ?_); rintro e w2 ⟨rfl, hb⟩; have HN := Aside0.mk (below_step (w := w) HB.out hb); have HL2 := Aside0.mk (And.intro HL.out.1 (Kd.C_below HL.out.2 hb)); clear HB HL; have HB := HN; have HL := HL2; clear HN HL2 hb)
  go_upto_region 4 with (go_at_call 8; go_must (refine (lines_Ends.calls 9 _ _ [97, 98, 13, 10, 99] 0 0 2 _ (lit_Cm _ _ _ _ _ _ rfl (by decide)) (by decide) en1).mono ?_); rintro e w3 ⟨rfl, hb⟩; have HN := Aside0.mk (below_step (w := w) (below_alloc HB.out _) hb); have HL2 := Aside0.mk (And.intro HL.out.1 (Kd.C_below (Kd.C_alloc HL.out.2 _) hb)); clear HB HL; have HB := HN; have HL := HL2; clear HN HL2 hb)
  go_upto_region 5 with (go_at_call 10; go_must (refine (lines_Find.calls _ _ [1] 3 (-1) (-1) _ (lit_C _ _ _ _ _ rfl (by decide)) (by decide) fi2).mono ?_); rintro e w4 ⟨rfl, hb⟩; have HN := Aside0.mk (below_step (w := w) (below_alloc HB.out _) hb); have HL2 := Aside0.mk (And.intro HL.out.1 (Kd.C_below (Kd.C_alloc HL.out.2 _) hb)); clear HB HL; have HB := HN; have HL := HL2; clear HN HL2 hb)
  go_upto_region 6 with (go_at_call 15; go_must (refine (new_call w4 w4 (Below.refl _ _)).mono ?_); rintro e w5 ⟨g, v5, rfl, hix, hb, hb2⟩; have HI := Aside0.mk hix; have HX := Aside0.mk hb; clear hix hb hb2)
  go_upto_region 9 with (go_at_call 16; go_must (refine (feed_call w4 _ g v5 [0] 0 (HI.out.below (below_alloc (Below.refl _ _) _)) (below_alloc HX.out _) (by decide) (by decide) (by decide) _ _ [113, 10] (lit_Cm _ _ _ _ _ _ rfl (by decide)) (by decide) (by decide)).mono ?_); rintro e w6 ⟨rfl, v6, hix, hb⟩; rw [fe1, show (0 : Int) + (([113, 10] : List Int).length : Int) = 2 by decide] at hix; have HI6 := Aside0.mk hix; clear HX; have HX := Aside0.mk hb; clear hix hb)
  go_upto_region 10 with (go_at_call 17; go_must (refine (splice_good w4 _ g v6 [0, 2] 2 (HI6.out.below (below_alloc (Below.refl _ _) _)) (below_alloc HX.out _) (by decide) (by decide) (by decide) (by decide) (by decide) _ _ [10] (lit_Cm _ _ _ _ _ _ rfl (by decide)) (by decide) (by decide) 0 1 0 (by decide) (by decide) (by decide) (by decide)).mono ?_); rintro e w7 ⟨rfl, v7, hix, hb, _⟩; rw [sp1, show (2 : Int) - 1 + (([10] : List Int).length : Int) = 2 by decide] at hix; have HI7 := Aside0.mk hix; clear HX; have HX := Aside0.mk hb; clear hix hb)
  go_upto_region 11 with (go_at_call 17; go_must (refine (splice_bad _ g v7 2 HI7.out.cell (by decide) (by decide) 5 1 0 _ (by decide)).mono ?_); rintro e w8 ⟨rfl, hb⟩; have HI8 := Aside0.mk (HI7.out.below hb); have HN := Aside0.mk (below_step HX.out hb); clear HX; have HX := HN; clear HN hb)
  obtain ⟨ad, e1, hx0⟩ := Kd.at_int (Kd.C_below HL.out.2 HX.out) 1 (by decide) (by decide)
  subst e1
  replace hx0 : w8.cell? { block := ad.block, off := ad.off + 1 } = some (.int .i64 2) := hx0
  go_wp2_with (first | (go_at_call_of 18 (Value.pointer (some ⟨g, 0, none⟩)); go_must (refine (starts_call w4 _ g v7 [0, 1, 2] 2 HI8.out (by decide)).mono ?_); rintro e w9 ⟨v9, rfl, ho, hb⟩; obtain ⟨A9, c9, rfl⟩ := Kd.R_slice ho; have HN := Aside0.mk (below_step HX.out hb); clear HX; have HX := HN; clear HN ho hb) | (go_at_call 17; go_must (refine (splice_nil 0 0 0 _ _).mono ?_); rintro e w10 ⟨rfl, hb⟩; have HN := Aside0.mk (below_step HX.out hb); clear HX; have HX := HN; clear HN hb) | (go_at_call 18; go_must (refine (starts_nil _).mono ?_); rintro e w11 ⟨rfl, rfl⟩))
  go_ret
  exact ⟨rfl, below_step HB.out HX.out⟩

theorem gobolaw4_told.calls (r : Bool) (w : World) (h : gobolaw4_told.f = some r) : Calls Try.prog 7 #[] w fun e w' => e = .returned (.bool r) ∧ Below w.heap.size w w' := by
  obtain rfl : true = r := Option.some.inj h
  exact told_calls w
end Go.Proofs.Ytcjfhcfkjnfihaa.PLines
