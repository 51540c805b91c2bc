/- Lines' Find: what it answers. -/
import Derived.Test.YtcjfhcfkjnfihaaA
import Derived.BigQuiet
namespace Go.Proofs.Ytcjfhcfkjnfihaa.PLines
open Go.RowKit Go.Proofs.YtcjfhcfkjnfihaaW.PrintWords Go.Proofs.YtcjfhcfkjnfihaaW.PrintLast Go.Proofs.YtcjfhcfkjnfihaaW.PrintMore

theorem addr0 (ad : Addr) : ad.add 0 = ad := by simp [Addr.add]

def Rises (l : List Int) (n : Nat) : Prop := ∀ j : Nat, j + 1 < n → rd l (j : Int) < rd l ((j + 1 : Nat) : Int)
def rises (l : List Int) : Bool := (List.range (l.length - 1)).all fun j => decide (rd l (j : Int) < rd l ((j + 1 : Nat) : Int))
theorem rises_iff (l : List Int) : rises l = true ↔ Rises l l.length := by
  unfold rises Rises
  simp only [List.all_eq_true, List.mem_range, decide_eq_true_iff]
  exact ⟨fun h j hj => h j (by omega), fun h j hj => h j (by omega)⟩
/-- The line: the last that begins at a place or ahead of it. -/
def lineOf (l : List Int) (a : Int) : Int := if gtAt a l 0 - 1 < 0 then (l.length : Int) - 1 else gtAt a l 0 - 1
def findF (l : List Int) (a : Int) : Int × Int := if l = [] ∨ rd l 0 ≠ 0 ∨ a < 0 ∨ rises l = false then (-1, -1) else (lineOf l a, wrap64 (a - rd l (lineOf l a)))
def lines_Find.f (l0 : List Int) (a1 : Int) : Option (Int × Int) := if l0.length ≤ 1000000 then some (findF l0 a1) else none

theorem gtAt_range (a : Int) (l : List Int) : ∀ i : Int, gtAt a l i = -1 ∨ i ≤ gtAt a l i ∧ gtAt a l i < i + l.length := by
  induction l with
  | nil => intro i; exact .inl rfl
  | cons x t ih =>
    intro i
    unfold gtAt
    by_cases c : a < x
    · rw [if_pos c]; right; simp only [List.length_cons]; omega
    · rw [if_neg c]
      rcases ih (i + 1) with h | h
      · exact .inl h
      · right; simp only [List.length_cons]; omega

set_option maxHeartbeats 4000000 in
set_option maxRecDepth 100000 in
theorem lines_Find.calls (A0 : Option Addr) (c0 : Nat) (l0 : List Int) (a1 : Int) (r1 r2 : Int) (w : World) (hr0 : Kd.C (Kd.int .i64) w A0 l0.length l0) (hc0 : l0.length ≤ c0) (h : lines_Find.f l0 a1 = some (r1, r2)) :
    Calls Try.prog 10 #[.slice A0 l0.length c0, .int .i64 a1] w fun e w' => e = .returned (.tuple #[.int .i64 r1, .int .i64 r2]) ∧ Below w.heap.size w w' := by
  unfold lines_Find.f at h
  split at h
  · rename_i hl
    have h' := Option.some.inj h
    clear h
    have HF := Aside0.mk h'
    clear h'
    have HR0 := Aside0.mk hr0
    clear hr0
    by_cases c1 : l0 = []
    · subst c1
      have e : findF [] a1 = (-1, -1) := by unfold findF; rw [if_pos (.inl rfl)]
      have HE := Aside0.mk e
      clear e
      have HB := Aside0.mk (below_alloc (Below.refl w.heap.size w) (.cells #[.int .i64 a1] 3))
      go_enter Try.func10, Try.ntmps10
      go_wp2
      go_ret2
      have z := HF.out.symm.trans HE.out
      injection z with z1 z2
      exact ⟨by rw [z1, z2]; rfl, HB.out⟩
    · have hpos : 0 < l0.length := List.length_pos_iff.mpr c1
      have HB0 := Aside0.mk (below_alloc (Below.refl w.heap.size w) (.cells #[.int .i64 a1] 3))
      have HG0 := Aside0.mk (blk_new w (.cells #[.int .i64 a1] 3 (0, 0)))
      obtain ⟨ad, e1, hx⟩ := Kd.at_int HR0.out 0 (by omega) (by omega)
      cases e1
      have hx0 := (HB0.out.cell (World.block_lt_of_cell? w _ hx)).trans hx
      simp only [Int.toNat_zero, addr0] at hx0
      clear hx
      have hne : ((l0.length : Int) == 0) = false := by rw [beq_eq_false_iff_ne]; omega
      by_cases c2 : rd l0 0 = 0
      · by_cases c3 : a1 < 0
        · have e : findF l0 a1 = (-1, -1) := by unfold findF; rw [if_pos (.inr (.inr (.inl c3)))]
          have HE := Aside0.mk e
          clear e
          rw [c2] at hx0
          clear c2
          go_enter Try.func10, Try.ntmps10
          go_wp2
          go_ret2
          have z := HF.out.symm.trans HE.out
          injection z with z1 z2
          exact ⟨by rw [z1, z2]; rfl, HB0.out⟩
        · rw [c2] at hx0
          have C2 := Aside0.mk c2
          clear c2
          go_enter Try.func10, Try.ntmps10
          go_wp2
          go_loopw [6] (fun i wr => ∃ k : Nat, 1 ≤ k ∧ k ≤ l0.length ∧ i = .int .i64 k ∧ Aside0 (Rises l0 k) ∧ Aside0 (wr.heap[w.heap.size]? = some (.cells #[.int .i64 a1] 3 (0, 0))) ∧ Aside0 (Below w.heap.size w wr))
            (fun i _ => l0.length - (intOf i).toNat)
          case atStart => exact ⟨1, Nat.le_refl _, hpos, rfl, ⟨fun j hj => by omega⟩, HG0, HB0⟩
          case round =>
            clear hx0 HB0 HG0
            obtain ⟨k, hk1, hk, rfl, HR, HG, HB⟩ := hrel
            by_cases hkl : k < l0.length
            · obtain ⟨ad1, e1, hx1⟩ := Kd.at_int HR0.out (k : Int) (by omega) (by omega)
              obtain rfl : ad = ad1 := by injection e1
              obtain ⟨ad2, e2, hx2⟩ := Kd.at_int HR0.out (((k - 1 : Nat)) : Int) (by omega) (by omega)
              obtain rfl : ad = ad2 := by injection e2
              clear e1 e2
              replace hx1 := (HB.out.cell (World.block_lt_of_cell? w _ hx1)).trans hx1
              replace hx2 := (HB.out.cell (World.block_lt_of_cell? w _ hx2)).trans hx2
              simp only [Int.toNat_natCast] at hx1 hx2
              have hk2 : ((k : Int) - 1).toNat = k - 1 := by omega
              have hx3 : wr.cell? (ad.add ((k : Int) - 1).toNat) = some (.int .i64 (rd l0 ((k - 1 : Nat) : Int))) := by rw [hk2]; exact hx2
              obtain ⟨x, hx⟩ : ∃ x, x = rd l0 (k : Int) := ⟨_, rfl⟩
              obtain ⟨y, hy⟩ : ∃ y, y = rd l0 ((k - 1 : Nat) : Int) := ⟨_, rfl⟩
              rw [← hx] at hx1
              rw [← hy] at hx2 hx3
              have HX := Aside0.mk hx
              have HY := Aside0.mk hy
              clear hx hy hk2
              by_cases c : x ≤ y
              · go_upto_region 6 with (fail)
                go_quiet (fail)
                have e : findF l0 a1 = (-1, -1) := by
                  have hr : rises l0 = false := Bool.eq_false_iff.mpr fun hh => by
                    have := (rises_iff l0).mp hh (k - 1) (by omega)
                    rw [show k - 1 + 1 = k by omega, ← HX.out, ← HY.out] at this
                    omega
                  unfold findF
                  rw [if_pos (.inr (.inr (.inr hr)))]
                have HE := Aside0.mk e
                clear e
                go_wp2
                go_ret2
                have z := HF.out.symm.trans HE.out
                injection z with z1 z2
                exact ⟨by rw [z1, z2]; rfl, pw_below_drewN HB.out _⟩
              · go_upto_region 6 with (fail)
                go_quiet (fail)
                go_wp2
                go_roundw
                case measure => simp [intOf]; omega
                case rel =>
                  refine ⟨k + 1, by omega, by omega, by simp, ⟨fun j hj => ?_⟩, ⟨blk_drewN HG.out _⟩, ⟨pw_below_drewN HB.out _⟩⟩
                  by_cases hjk : j + 1 < k
                  · exact HR.out j hjk
                  · obtain rfl : j = k - 1 := by omega
                    rw [show k - 1 + 1 = k by omega, ← HX.out, ← HY.out]
                    omega
            · obtain rfl : k = l0.length := by omega
              have hr : rises l0 = true := (rises_iff l0).mpr HR.out
              have e : findF l0 a1 = (lineOf l0 a1, wrap64 (a1 - rd l0 (lineOf l0 a1))) := by
                unfold findF
                rw [if_neg]
                intro hh
                rcases hh with h | h | h | h
                · exact c1 h
                · exact h C2.out
                · omega
                · rw [hr] at h; cases h
              have hgr := gtAt_range a1 l0 0
              have HRG := Aside0.mk (Kd.C_below HR0.out HB.out)
              obtain ⟨q, hq⟩ : ∃ q, q = gtAt a1 l0 0 := ⟨_, rfl⟩
              have hlo : lineOf l0 a1 = if q - 1 < 0 then (l0.length : Int) - 1 else q - 1 := by unfold lineOf; rw [hq]
              have HLO := Aside0.mk hlo
              have HQ := Aside0.mk hq
              rw [← hq] at hgr
              clear hlo hq
              have HE := Aside0.mk e
              clear e
              obtain ⟨ln, hln, hl0, hl1⟩ : ∃ ln : Int, lineOf l0 a1 = ln ∧ 0 ≤ ln ∧ ln < l0.length := by
                refine ⟨_, rfl, ?_⟩
                rw [HLO.out]
                split <;> omega
              have HLN := Aside0.mk hln
              clear hln
              have arm : ∀ w1 : World, Below wr.heap.size wr w1 → Aside0 (Kd.C (Kd.int .i64) w1 (some ad) l0.length l0) ∧ Aside0 (w1.cell? ⟨w.heap.size, 0, none⟩ = some (.int .i64 a1)) ∧ Aside0 (Below w.heap.size w w1) := fun w1 hb =>
                ⟨⟨Kd.C_below HRG.out hb⟩, ⟨(blk_cell (blk_below HG.out hb) 0).trans rfl⟩, ⟨below_step HB.out hb⟩⟩
              have ARM := Aside0.mk arm
              clear arm
              by_cases cq : q - 1 < 0
              · have hl2 : ln = (l0.length : Int) - 1 := by rw [← HLN.out, HLO.out, if_pos cq]
                subst hl2
                go_wp2_with (go_at_call 19; go_must (refine (index_gt 20 _ Try.func20 (by kernel_rfl) rfl w.heap.size a1 (fun s W => gt20 w.heap.size a1 s W) (some ad) c0 l0 _ HRG.out hl HG.out).mono ?_); rintro e w1 ⟨rfl, hb⟩; rw [← HQ.out]; obtain ⟨HC1, HG1, HB1⟩ := ARM.out w1 hb; clear hb)
                obtain ⟨ad1, e1, hx1⟩ := Kd.at_int HC1.out ((l0.length : Int) - 1) (by omega) (by omega)
                obtain rfl : ad = ad1 := by injection e1
                have hg1 := HG1.out
                have hx2 : w1.cell? (ad.add (l0.length - 1)) = some (.int .i64 (rd l0 ((l0.length : Int) - 1))) := by rw [show ((l0.length : Int) - 1).toNat = l0.length - 1 by omega] at hx1; exact hx1
                go_quiet (fail)
                go_wp2
                go_ret2
                have z := HF.out.symm.trans HE.out
                rw [HLN.out] at z
                injection z with z1 z2
                exact ⟨by rw [z1, z2]; rfl, pw_below_drewN HB1.out _⟩
              · have hl2 : ln = q - 1 := by rw [← HLN.out, HLO.out, if_neg cq]
                subst hl2
                have hq1 : 1 ≤ q := by omega
                have hq2 : q ≤ l0.length := by omega
                clear hgr
                go_wp2_with (go_at_call 19; go_must (refine (index_gt 20 _ Try.func20 (by kernel_rfl) rfl w.heap.size a1 (fun s W => gt20 w.heap.size a1 s W) (some ad) c0 l0 _ HRG.out hl HG.out).mono ?_); rintro e w1 ⟨rfl, hb⟩; rw [← HQ.out]; obtain ⟨HC1, HG1, HB1⟩ := ARM.out w1 hb; clear hb)
                obtain ⟨ad1, e1, hx1⟩ := Kd.at_int HC1.out (q - 1) (by omega) (by omega)
                obtain rfl : ad = ad1 := by injection e1
                have hg1 := HG1.out
                have hx2 : w1.cell? (ad.add (q.toNat - 1)) = some (.int .i64 (rd l0 (q - 1))) := by rw [show (q - 1).toNat = q.toNat - 1 by omega] at hx1; exact hx1
                go_quiet (fail)
                go_wp2
                go_ret2
                have z := HF.out.symm.trans HE.out
                rw [HLN.out] at z
                injection z with z1 z2
                exact ⟨by rw [z1, z2]; rfl, pw_below_drewN HB1.out _⟩
      · have e : findF l0 a1 = (-1, -1) := by unfold findF; rw [if_pos (.inr (.inl c2))]
        have HE := Aside0.mk e
        clear e
        go_enter Try.func10, Try.ntmps10
        go_wp2
        go_ret2
        have z := HF.out.symm.trans HE.out
        injection z with z1 z2
        exact ⟨by rw [z1, z2]; rfl, HB0.out⟩
  · cases h
end Go.Proofs.Ytcjfhcfkjnfihaa.PLines
