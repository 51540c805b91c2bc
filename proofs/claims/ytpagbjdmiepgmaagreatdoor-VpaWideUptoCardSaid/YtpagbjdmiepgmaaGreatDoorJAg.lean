/- Joined from texts of this seat, in their order. -/
import Derived.Test.YtpagbjdmiepgmaaGreatDoorJAf
import Derived.BigQuiet
set_option linter.unusedVariables false
set_option linter.unusedSimpArgs false
set_option linter.unusedSectionVars false
namespace Go.Proofs.YtpagbjdmiepgmaaGreatDoor.PVpa
open Go.RowKit Go.Proofs.YtpagbjdmiepgmaaGreatDoorW.PrintWords Go.Proofs.YtpagbjdmiepgmaaGreatDoorW.PrintLast Go.Proofs.YtpagbjdmiepgmaaGreatDoorW.PrintMore
set_option maxRecDepth 100000 in
set_option maxHeartbeats 20000000 in
theorem make4_call (w : World) (A : Option Addr) (cl : Nat) (l : List (List Int)) (h3 : l.length ≤ 3) (hl : (Kd.slice 3 (Kd.int .i64)).C w A l.length l) (hs : ∀ x ∈ l, x.length ≤ 1048576) :
    Calls Tryz.prog 7 #[.slice A l.length cl] w fun e w' => ∃ G At Ar ct cr, e = .returned (.agg #[.slice At G.f0.length ct, .slice Ar G.f1.length cr]) ∧ MakeOk l.length G ∧ GramR w' G At Ar ct cr ∧ Below w.heap.size w w' := by
  have HL := Aside0.mk hl
  have HS := Aside0.mk hs
  clear hl hs
  have HB0 := Aside0.mk (below_alloc (Below.refl _ w) (.cells #[.slice none 0 0, .slice none 0 0] 26))
  have HK0 := Aside0.mk (blk_new w (.cells #[.slice none 0 0, .slice none 0 0] 26))
  have HO1 := Aside0.mk (fun (x : Int) (W : World) => one_callF x W)
  go_enter Tryz.func7, Tryz.ntmps7
  go_upto_region 2 with (first
    | (go_at_call 28; (with_reducible refine (HO1.out 99 _).mono ?_); rintro e wc ⟨gc, rfl, hgc, hoc, hbc⟩; have HGC := Aside0.mk hgc; have HOC := Aside0.mk hoc; have HBC := Aside0.mk hbc; clear hgc hoc hbc)
    | (go_at_call 28; (with_reducible refine (HO1.out 100 _).mono ?_); rintro e wd ⟨gd, rfl, hgd, hod, hbd⟩; have HGD := Aside0.mk hgd; have HOD := Aside0.mk hod; have HBD := Aside0.mk hbd; clear hgd hod hbd))
  have hbx := below_alloc (below_alloc (Below.refl _ wd) (.cells #[.int .i64 2, .slice (some ⟨gc, 0, none⟩) 1 1, .slice none 0 0] 67)) (.cells #[.int .i64 2, .slice (some ⟨gd, 0, none⟩) 1 1, .slice none 0 0] 67)
  have hk3 := blk_alloc (blk_new wd (.cells #[.int .i64 2, .slice (some ⟨gc, 0, none⟩) 1 1, .slice none 0 0] 67)) (.cells #[.int .i64 2, .slice (some ⟨gd, 0, none⟩) 1 1, .slice none 0 0] 67)
  have hk4 := blk_new2 wd (.cells #[.int .i64 2, .slice (some ⟨gc, 0, none⟩) 1 1, .slice none 0 0] 67) (.cells #[.int .i64 2, .slice (some ⟨gd, 0, none⟩) 1 1, .slice none 0 0] 67)
  have hsz : wd.heap.size + 2 = ((wd.alloc (.cells #[.int .i64 2, .slice (some ⟨gc, 0, none⟩) 1 1, .slice none 0 0] 67)).alloc (.cells #[.int .i64 2, .slice (some ⟨gd, 0, none⟩) 1 1, .slice none 0 0] 67)).heap.size := by simp
  generalize (wd.alloc (.cells #[.int .i64 2, .slice (some ⟨gc, 0, none⟩) 1 1, .slice none 0 0] 67)).alloc (.cells #[.int .i64 2, .slice (some ⟨gd, 0, none⟩) 1 1, .slice none 0 0] 67) = X at *
  have HWX := Aside0.mk (below_step (below_step (below_step HB0.out HBC.out) HBD.out) hbx)
  have HK2 := Aside0.mk (blk_below (blk_below (blk_below HK0.out HBC.out) HBD.out) hbx)
  have HOCX := Aside0.mk ((HOC.out.below HBD.out).below hbx)
  have HODX := Aside0.mk (HOD.out.below hbx)
  have HK3 := Aside0.mk hk3
  have HK4 := Aside0.mk hk4
  have hw0 : (w.alloc (.cells #[.slice none 0 0, .slice none 0 0] 26)).heap.size = w.heap.size + 1 := by simp
  obtain ⟨g2, hg2⟩ : ∃ g2, g2 = w.heap.size := ⟨_, rfl⟩
  obtain ⟨g3, hg3⟩ : ∃ g3, g3 = wd.heap.size := ⟨_, rfl⟩
  obtain ⟨g4, hg4⟩ : ∃ g4, g4 = wd.heap.size + 1 := ⟨_, rfl⟩
  have HL2 : Aside0 (g2 < gc ∧ g2 < gd ∧ g2 < X.heap.size) := ⟨by have h1 := HGC.out; have h2 := HGD.out; have h3 := HBC.out.size; have h4 := HBD.out.size; have h5 := hbx.size; omega⟩
  have HE2 := Aside0.mk hg2
  rw [← hg2] at HK2 ⊢
  rw [← hg4] at HK4 ⊢
  rw [← hg3] at HK3 ⊢
  clear hbx hk3 hk4 hsz hw0 hg2 hg3 hg4
  refine wp_region_makes 14 _ depM2 (phiM2 gc gd X.heap.size) BelowR (by kernel_rfl) (by kernel_rfl) (by kernel_rfl) rfl belowR_refl belowR_trans (phiM2_stab _ _ _) ?step ?fin
  case step =>
    repeat (rename_i z; clear z)
    refine ⟨?_, ?_, ?_, ?_, ?_, ?_, ?_, ?_, ?_, ?_, ?_, ?_, ?_, ?_, trivial⟩ <;> intro vals W hR0 hd
    · have hR := below_step (below_drew (Below.refl _ X)) hR0
      clear hd
      refine does_enter (W' := W) (f := 28) (args := #[.int .i32 97]) ?_ ((HO1.out 97 W).mono ?_)
      · simp only [acan, depM2, dstOf]
        go_simp
      · rintro e w1 ⟨g, rfl, h1, h2, h3⟩
        exact ⟨_, rfl, h3, g, rfl, Nat.le_trans hR.size h1, h2⟩
    · have hR := below_step (below_drew (Below.refl _ X)) hR0
      have h0 : ∃ g, (vals 0) = .agg #[.int .i64 2, .slice (some ⟨g, 0, none⟩) 1 1, .slice none 0 0] ∧ X.heap.size ≤ g ∧ One W g 97 := hd 0 (by simp [depM2])
      obtain ⟨g, e0, p1, p2⟩ := h0
      clear hd
      refine does_value (W' := W) (v := .agg #[.string ⟨#[97]⟩, .int .i64 0, .int .i64 1, .int .i64 2, .slice (some ⟨g, 0, none⟩) 1 1, .slice none 0 0]) ?_ ⟨Below.refl _ _, g, rfl, p1, p2⟩
      simp only [acan, depM2, dstOf, e0]
      go_simp
    · have hR := below_step (below_drew (Below.refl _ X)) hR0
      refine does_value (W' := W) (v := .agg #[.int .i32 10, .int .i32 10]) ?_ ⟨Below.refl _ _, rfl⟩
      clear hd
      simp only [acan, depM2, dstOf]
      go_simp
    · have hR := below_step (below_drew (Below.refl _ X)) hR0
      refine does_value (W' := W) (v := .agg #[.int .i32 98, .int .i32 98]) ?_ ⟨Below.refl _ _, rfl⟩
      clear hd
      simp only [acan, depM2, dstOf]
      go_simp
    · have hR := below_step (below_drew (Below.refl _ X)) hR0
      have h2 : vals 2 = .agg #[.int .i32 10, .int .i32 10] := hd 2 (by simp [depM2])
      have h3 : vals 3 = .agg #[.int .i32 98, .int .i32 98] := hd 3 (by simp [depM2])
      clear hd
      refine does_value (W' := W.alloc (.cells #[.int .i32 10, .int .i32 10, .int .i32 98, .int .i32 98] 72)) (v := .slice (some ⟨W.heap.size, 0, none⟩) 2 2) ?_ ⟨below_alloc (Below.refl _ _) _, W.heap.size, rfl, hR.size, blk_new W _⟩
      simp only [acan, depM2, dstOf, h2, h3]
      go_simp
    · have hR := below_step (below_drew (Below.refl _ X)) hR0
      have h4 : ∃ g, (vals 4) = .slice (some ⟨g, 0, none⟩) 2 2 ∧ X.heap.size ≤ g ∧ W.heap[g]? = some (.cells #[.int .i32 10, .int .i32 10, .int .i32 98, .int .i32 98] 72 (0, 0)) := hd 4 (by simp [depM2])
      obtain ⟨g, e4, p1, p2⟩ := h4
      clear hd
      refine does_value (W' := W) (v := .agg #[.int .i64 2, .slice (some ⟨g, 0, none⟩) 2 2, .slice none 0 0]) ?_ ⟨Below.refl _ _, g, rfl, p1, p2⟩
      simp only [acan, depM2, dstOf, e4]
      go_simp
    · have hR := below_step (below_drew (Below.refl _ X)) hR0
      have h5 : ∃ g, (vals 5) = .agg #[.int .i64 2, .slice (some ⟨g, 0, none⟩) 2 2, .slice none 0 0] ∧ X.heap.size ≤ g ∧ W.heap[g]? = some (.cells #[.int .i32 10, .int .i32 10, .int .i32 98, .int .i32 98] 72 (0, 0)) := hd 5 (by simp [depM2])
      obtain ⟨g, e5, p1, p2⟩ := h5
      clear hd
      refine does_value (W' := W) (v := .agg #[.string ⟨#[98]⟩, .int .i64 0, .int .i64 2, .int .i64 2, .slice (some ⟨g, 0, none⟩) 2 2, .slice none 0 0]) ?_ ⟨Below.refl _ _, g, rfl, p1, p2⟩
      simp only [acan, depM2, dstOf, e5]
      go_simp
    · have hR := below_step (below_drew (Below.refl _ X)) hR0
      have k3 := blk_below HK3.out hR
      have c30 := (blk_cell k3 0).trans rfl
      have c31 := (blk_cell k3 1).trans rfl
      have c32 := (blk_cell k3 2).trans rfl
      refine does_value (W' := W) (v := .agg #[.int .i64 2, .slice (some ⟨gc, 0, none⟩) 1 1, .slice none 0 0]) ?_ ⟨Below.refl _ _, rfl⟩
      clear hd
      simp only [acan, depM2, dstOf]
      go_simp
    · have hR := below_step (below_drew (Below.refl _ X)) hR0
      have h7 : vals 7 = .agg #[.int .i64 2, .slice (some ⟨gc, 0, none⟩) 1 1, .slice none 0 0] := hd 7 (by simp [depM2])
      refine does_value (W' := W) (v := .agg #[.string ⟨#[111]⟩, .int .i64 1, .int .i64 3, .int .i64 2, .slice (some ⟨gc, 0, none⟩) 1 1, .slice none 0 0]) ?_ ⟨Below.refl _ _, rfl⟩
      clear hd
      simp only [acan, depM2, dstOf, h7]
      go_simp
    · have hR := below_step (below_drew (Below.refl _ X)) hR0
      have k4 := blk_below HK4.out hR
      have c40 := (blk_cell k4 0).trans rfl
      have c41 := (blk_cell k4 1).trans rfl
      have c42 := (blk_cell k4 2).trans rfl
      refine does_value (W' := W) (v := .agg #[.int .i64 2, .slice (some ⟨gd, 0, none⟩) 1 1, .slice none 0 0]) ?_ ⟨Below.refl _ _, rfl⟩
      clear hd
      simp only [acan, depM2, dstOf]
      go_simp
    · have hR := below_step (below_drew (Below.refl _ X)) hR0
      have h9 : vals 9 = .agg #[.int .i64 2, .slice (some ⟨gd, 0, none⟩) 1 1, .slice none 0 0] := hd 9 (by simp [depM2])
      refine does_value (W' := W) (v := .agg #[.string ⟨#[99]⟩, .int .i64 2, .int .i64 4, .int .i64 2, .slice (some ⟨gd, 0, none⟩) 1 1, .slice none 0 0]) ?_ ⟨Below.refl _ _, rfl⟩
      clear hd
      simp only [acan, depM2, dstOf, h9]
      go_simp
    · have hR := below_step (below_drew (Below.refl _ X)) hR0
      have h1 : ∃ g, (vals 1) = .agg #[.string ⟨#[97]⟩, .int .i64 0, .int .i64 1, .int .i64 2, .slice (some ⟨g, 0, none⟩) 1 1, .slice none 0 0] ∧ X.heap.size ≤ g ∧ One W g 97 := hd 1 (by simp [depM2])
      have h6 : ∃ g, (vals 6) = .agg #[.string ⟨#[98]⟩, .int .i64 0, .int .i64 2, .int .i64 2, .slice (some ⟨g, 0, none⟩) 2 2, .slice none 0 0] ∧ X.heap.size ≤ g ∧ W.heap[g]? = some (.cells #[.int .i32 10, .int .i32 10, .int .i32 98, .int .i32 98] 72 (0, 0)) := hd 6 (by simp [depM2])
      have h8 : vals 8 = .agg #[.string ⟨#[111]⟩, .int .i64 1, .int .i64 3, .int .i64 2, .slice (some ⟨gc, 0, none⟩) 1 1, .slice none 0 0] := hd 8 (by simp [depM2])
      have h10 : vals 10 = .agg #[.string ⟨#[99]⟩, .int .i64 2, .int .i64 4, .int .i64 2, .slice (some ⟨gd, 0, none⟩) 1 1, .slice none 0 0] := hd 10 (by simp [depM2])
      obtain ⟨ga, e1, p1, p2⟩ := h1
      obtain ⟨gb, e6, p3, p4⟩ := h6
      clear hd
      refine does_value (W' := W.alloc (.cells #[.string ⟨#[97]⟩, .int .i64 0, .int .i64 1, .int .i64 2, .slice (some ⟨ga, 0, none⟩) 1 1, .slice none 0 0, .string ⟨#[98]⟩, .int .i64 0, .int .i64 2, .int .i64 2, .slice (some ⟨gb, 0, none⟩) 2 2, .slice none 0 0, .string ⟨#[111]⟩, .int .i64 1, .int .i64 3, .int .i64 2, .slice (some ⟨gc, 0, none⟩) 1 1, .slice none 0 0, .string ⟨#[99]⟩, .int .i64 2, .int .i64 4, .int .i64 2, .slice (some ⟨gd, 0, none⟩) 1 1, .slice none 0 0] 70)) (v := .slice (some ⟨W.heap.size, 0, none⟩) 4 4) ?_ ⟨below_alloc (Below.refl _ _) _, ga, gb, W.heap.size, rfl, p1, p3, hR.size, p2.below (below_alloc (Below.refl _ _) _), blk_alloc p4 _, blk_new W _⟩
      simp only [acan, depM2, dstOf, h8, h10, e1, e6]
      go_simp
    · have hR := below_step (below_drew (Below.refl _ X)) hR0
      have h11 : ∃ ga gb gT, (vals 11) = .slice (some ⟨gT, 0, none⟩) 4 4 ∧ X.heap.size ≤ ga ∧ X.heap.size ≤ gb ∧ X.heap.size ≤ gT ∧ One W ga 97 ∧ W.heap[gb]? = some (.cells #[.int .i32 10, .int .i32 10, .int .i32 98, .int .i32 98] 72 (0, 0)) ∧ W.heap[gT]? = some (.cells #[.string ⟨#[97]⟩, .int .i64 0, .int .i64 1, .int .i64 2, .slice (some ⟨ga, 0, none⟩) 1 1, .slice none 0 0, .string ⟨#[98]⟩, .int .i64 0, .int .i64 2, .int .i64 2, .slice (some ⟨gb, 0, none⟩) 2 2, .slice none 0 0, .string ⟨#[111]⟩, .int .i64 1, .int .i64 3, .int .i64 2, .slice (some ⟨gc, 0, none⟩) 1 1, .slice none 0 0, .string ⟨#[99]⟩, .int .i64 2, .int .i64 4, .int .i64 2, .slice (some ⟨gd, 0, none⟩) 1 1, .slice none 0 0] 70 (0, 0)) := hd 11 (by simp [depM2])
      obtain ⟨ga, gb, gT, e11, p1, p2, p3, p4, p5, p6⟩ := h11
      clear hd
      refine does_value (W' := W) (v := .agg #[.slice (some ⟨gT, 0, none⟩) 4 4, .slice none 0 0]) ?_ ⟨Below.refl _ _, ga, gb, gT, rfl, p1, p2, p3, p4, p5, p6⟩
      simp only [acan, depM2, dstOf, e11]
      go_simp
    · have hR := below_step (below_drew (Below.refl _ X)) hR0
      clear hd
      refine does_value (W' := W.alloc (.cells #[.slice none 0 0, .slice none 0 0] 26)) (v := .pointer (some ⟨W.heap.size, 0, none⟩)) ?_ ⟨below_alloc (Below.refl _ _) _, W.heap.size, rfl, hR.size, blk_new W _⟩
      simp only [acan, depM2, dstOf]
      go_simp
  case fin =>
    intro vals W hR0 hF
    have hR := below_step (below_drew (Below.refl _ X)) hR0
    have f0 : ∃ g, (vals 0) = .agg #[.int .i64 2, .slice (some ⟨g, 0, none⟩) 1 1, .slice none 0 0] ∧ X.heap.size ≤ g ∧ One W g 97 := hF 0 (by decide)
    have f1 : ∃ g, (vals 1) = .agg #[.string ⟨#[97]⟩, .int .i64 0, .int .i64 1, .int .i64 2, .slice (some ⟨g, 0, none⟩) 1 1, .slice none 0 0] ∧ X.heap.size ≤ g ∧ One W g 97 := hF 1 (by decide)
    have f2 : vals 2 = .agg #[.int .i32 10, .int .i32 10] := hF 2 (by decide)
    have f3 : vals 3 = .agg #[.int .i32 98, .int .i32 98] := hF 3 (by decide)
    have f4 : ∃ g, (vals 4) = .slice (some ⟨g, 0, none⟩) 2 2 ∧ X.heap.size ≤ g ∧ W.heap[g]? = some (.cells #[.int .i32 10, .int .i32 10, .int .i32 98, .int .i32 98] 72 (0, 0)) := hF 4 (by decide)
    have f5 : ∃ g, (vals 5) = .agg #[.int .i64 2, .slice (some ⟨g, 0, none⟩) 2 2, .slice none 0 0] ∧ X.heap.size ≤ g ∧ W.heap[g]? = some (.cells #[.int .i32 10, .int .i32 10, .int .i32 98, .int .i32 98] 72 (0, 0)) := hF 5 (by decide)
    have f6 : ∃ g, (vals 6) = .agg #[.string ⟨#[98]⟩, .int .i64 0, .int .i64 2, .int .i64 2, .slice (some ⟨g, 0, none⟩) 2 2, .slice none 0 0] ∧ X.heap.size ≤ g ∧ W.heap[g]? = some (.cells #[.int .i32 10, .int .i32 10, .int .i32 98, .int .i32 98] 72 (0, 0)) := hF 6 (by decide)
    have f7 : vals 7 = .agg #[.int .i64 2, .slice (some ⟨gc, 0, none⟩) 1 1, .slice none 0 0] := hF 7 (by decide)
    have f8 : vals 8 = .agg #[.string ⟨#[111]⟩, .int .i64 1, .int .i64 3, .int .i64 2, .slice (some ⟨gc, 0, none⟩) 1 1, .slice none 0 0] := hF 8 (by decide)
    have f9 : vals 9 = .agg #[.int .i64 2, .slice (some ⟨gd, 0, none⟩) 1 1, .slice none 0 0] := hF 9 (by decide)
    have f10 : vals 10 = .agg #[.string ⟨#[99]⟩, .int .i64 2, .int .i64 4, .int .i64 2, .slice (some ⟨gd, 0, none⟩) 1 1, .slice none 0 0] := hF 10 (by decide)
    have f11 : ∃ ga gb gT, (vals 11) = .slice (some ⟨gT, 0, none⟩) 4 4 ∧ X.heap.size ≤ ga ∧ X.heap.size ≤ gb ∧ X.heap.size ≤ gT ∧ One W ga 97 ∧ W.heap[gb]? = some (.cells #[.int .i32 10, .int .i32 10, .int .i32 98, .int .i32 98] 72 (0, 0)) ∧ W.heap[gT]? = some (.cells #[.string ⟨#[97]⟩, .int .i64 0, .int .i64 1, .int .i64 2, .slice (some ⟨ga, 0, none⟩) 1 1, .slice none 0 0, .string ⟨#[98]⟩, .int .i64 0, .int .i64 2, .int .i64 2, .slice (some ⟨gb, 0, none⟩) 2 2, .slice none 0 0, .string ⟨#[111]⟩, .int .i64 1, .int .i64 3, .int .i64 2, .slice (some ⟨gc, 0, none⟩) 1 1, .slice none 0 0, .string ⟨#[99]⟩, .int .i64 2, .int .i64 4, .int .i64 2, .slice (some ⟨gd, 0, none⟩) 1 1, .slice none 0 0] 70 (0, 0)) := hF 11 (by decide)
    have f12 : ∃ ga gb gT, (vals 12) = .agg #[.slice (some ⟨gT, 0, none⟩) 4 4, .slice none 0 0] ∧ X.heap.size ≤ ga ∧ X.heap.size ≤ gb ∧ X.heap.size ≤ gT ∧ One W ga 97 ∧ W.heap[gb]? = some (.cells #[.int .i32 10, .int .i32 10, .int .i32 98, .int .i32 98] 72 (0, 0)) ∧ W.heap[gT]? = some (.cells #[.string ⟨#[97]⟩, .int .i64 0, .int .i64 1, .int .i64 2, .slice (some ⟨ga, 0, none⟩) 1 1, .slice none 0 0, .string ⟨#[98]⟩, .int .i64 0, .int .i64 2, .int .i64 2, .slice (some ⟨gb, 0, none⟩) 2 2, .slice none 0 0, .string ⟨#[111]⟩, .int .i64 1, .int .i64 3, .int .i64 2, .slice (some ⟨gc, 0, none⟩) 1 1, .slice none 0 0, .string ⟨#[99]⟩, .int .i64 2, .int .i64 4, .int .i64 2, .slice (some ⟨gd, 0, none⟩) 1 1, .slice none 0 0] 70 (0, 0)) := hF 12 (by decide)
    have f13 : ∃ g5, (vals 13) = .pointer (some ⟨g5, 0, none⟩) ∧ X.heap.size ≤ g5 ∧ W.heap[g5]? = some (.cells #[.slice none 0 0, .slice none 0 0] 26 (0, 0)) := hF 13 (by decide)
    clear hF hR0
    rw [show List.range 14 = [0, 1, 2, 3, 4, 5, 6, 7, 8, 9, 10, 11, 12, 13] from rfl]
    simp only [acan, dstOf, Act.put, List.getElem?_toArray, List.getElem?_cons_zero, List.getElem?_cons_succ, Option.bind_some, List.setIfInBounds_toArray, List.set_cons_zero, List.set_cons_succ, List.drop_succ_cons, List.drop_zero, f2, f3, f7, f8, f9, f10]
    obtain ⟨g0, f0, -, -⟩ := f0
    obtain ⟨_, f1, -, -⟩ := f1
    obtain ⟨_, f4, -, -⟩ := f4
    obtain ⟨_, f5, -, -⟩ := f5
    obtain ⟨_, f6, -, -⟩ := f6
    obtain ⟨_, _, _, f11, -⟩ := f11
    obtain ⟨ga, gb, gT, f12, la, lb, lT, oa, kb, kT⟩ := f12
    obtain ⟨g5, f13, l5, k5⟩ := f13
    simp only [f0, f1, f4, f5, f6, f11, f12, f13]
    have y0 := (blk_cell k5 0).trans rfl
    have y1 := (blk_cell k5 1).trans rfl
    have z0 := blk_frozen k5 0
    have z1 := blk_frozen k5 1
    go_upto_region 3 with fail
    have ha := after2 hR HOCX.out HODX.out HL2.out l5 k5 la lb lT oa kb kT
    have l5 := l5
    clear y0 y1 z0 z1 k5 la lb lT oa kb kT hR
    generalize (W.setCell ⟨g5, 0, none⟩ (.slice (some ⟨gT, 0, none⟩) 4 4)).setCell ⟨g5, 1, none⟩ (.slice none 0 0) = Y at *
    obtain ⟨hY, hG, hT⟩ := ha
    have HG5X : Aside0 (X.heap.size ≤ g5) := ⟨l5⟩
    have HXY := Aside0.mk hY
    have h5l := lit_lt hG
    go_upto_region 4 with fail
    have HK6 := Aside0.mk (blk_alloc (blk_new Y (.cells #[.string ⟨#[111]⟩] 9)) (.cells #[.string ⟨#[99]⟩] 9))
    have HK7 := Aside0.mk (blk_new2 Y (.cells #[.string ⟨#[111]⟩] 9) (.cells #[.string ⟨#[99]⟩] 9))
    have hYZ := below_alloc (below_alloc (Below.refl _ Y) (.cells #[.string ⟨#[111]⟩] 9)) (.cells #[.string ⟨#[99]⟩] 9)
    have hsz : ((Y.alloc (.cells #[.string ⟨#[111]⟩] 9)).alloc (.cells #[.string ⟨#[99]⟩] 9)).heap.size = Y.heap.size + 2 := by simp
    generalize (Y.alloc (.cells #[.string ⟨#[111]⟩] 9)).alloc (.cells #[.string ⟨#[99]⟩] 9) = Z at *
    have HXZ := Aside0.mk (below_step hY hYZ)
    have HGZ : Aside0 (GBox Z g5 (.slice (some ⟨gT, 0, none⟩) 4 4) (.slice none 0 0)) := ⟨blk_below hG hYZ⟩
    have HTZ := Aside0.mk (Kd.F_below hT hYZ)
    obtain ⟨g6, hg6⟩ : ∃ g6, g6 = Y.heap.size := ⟨_, rfl⟩
    obtain ⟨g7, hg7⟩ : ∃ g7, g7 = Y.heap.size + 1 := ⟨_, rfl⟩
    have HZ6 : Aside0 (g6 < Z.heap.size ∧ g7 < Z.heap.size ∧ g5 < g6 ∧ g5 < g7 ∧ g2 < g6 ∧ g2 < g7 ∧ g5 < Z.heap.size) := ⟨by have h1 := HL2.out; have h2 := hY.size; omega⟩
    rw [← hg7] at HK7 ⊢
    rw [← hg6] at HK6 ⊢
    have HL25 : Aside0 (g2 < g5) := ⟨Nat.lt_of_lt_of_le HL2.out.2.2 HG5X.out⟩
    have HL6 : Aside0 (LitS Z g6 nO) := ⟨⟨HK6.out⟩⟩
    have HL7 : Aside0 (LitS Z g7 nC) := ⟨⟨HK7.out⟩⟩
    have HWZ := Aside0.mk (below_step HWX.out HXZ.out)
    have HK2Z := Aside0.mk (blk_below HK2.out HXZ.out)
    clear hY hG hT hYZ hsz hg6 hg7 h5l HK6 HK7
    clear f0 f1 f2 f3 f4 f5 f6 f7 f8 f9 f10 f11 f12 f13
    have HWG5 : Aside0 (w.heap.size ≤ g5) := ⟨by have h1 := HWX.out.size; have h2 := HG5X.out; omega⟩
    go_wp2
    go_loopw [8] (fun q wr => ∃ (i : Nat) (rs : List S52) (vr : Value), i ≤ 3 ∧ i ≤ l.length ∧ q = .int .i64 i ∧ Aside0 (MakeInv w Z g2 g5 (.slice (some ⟨gT, 0, none⟩) 4 4) nO nC i rs vr wr)) (fun q _ => l.length - (intOf q).toNat)
    case atStart => exact ⟨0, [], _, by omega, by omega, rfl, ⟨MakeInv.start HGZ.out HWZ.out⟩⟩
    case round =>
      obtain ⟨i, rs, vr, hi3, hil, rfl, HM⟩ := hrel
      obtain ⟨Ar, cr, rfl⟩ := Kd.N_slice HM.out.row
      by_cases hc : i < l.length ∧ i < 3
      · obtain ⟨hc1, hc2⟩ := hc
        have hw1 : wrap64 ((i : Int) + 1) = i + 1 := wrap_succ (by omega)
        obtain ⟨ad, c0, rfl, _, hK, hcc⟩ := Kd.C_get HL.out [] (i : Int) (by omega) (by omega)
        obtain ⟨Ai, ci, rfl, hxc, hxr⟩ := hK
        rw [Int.toNat_natCast] at hxc hxr hcc
        have hxs : (l.getD i []).length ≤ 1048576 := by
          rw [List.getD_eq_getElem?_getD, List.getElem?_eq_getElem hc1]
          exact HS.out _ (List.getElem_mem hc1)
        have q0 : w.cell? (ad.add i) = some (.slice Ai (l.getD i []).length ci) := by
          have h9 := hcc 0 _ rfl
          rw [show i * (Kd.slice 3 (Kd.int .i64)).sz + 0 = i by show i * 1 + 0 = i; omega] at h9
          exact h9
        obtain ⟨x, hx⟩ : ∃ x, x = l.getD i [] := ⟨_, rfl⟩
        rw [← hx] at q0 hxs hxc hxr
        have HXR := Aside0.mk hxr
        have QW := Aside0.mk q0
        have q0 := pw_cell_below HM.out.low q0
        clear hcc hx
        by_cases hx2 : x.length < 2
        · go_wp2
          go_roundw
          case rel => exact ⟨i + 1, rs, _, by omega, by omega, by first | (rw [hw1]; rfl) | simp, ⟨HM.out.skip⟩⟩
          case measure => first | exact meas hc1 | (rw [hw1]; exact meas hc1)
        · obtain ⟨xa, rfl, hk0⟩ := Kd.at_int (Kd.C_below HXR.out HM.out.low) (0 : Int) (by omega) (by omega)
          obtain ⟨kk, hkk⟩ : ∃ kk, kk = rd x (0 : Int) := ⟨_, rfl⟩
          rw [← hkk] at hk0
          have hk0 : wr.cell? xa = some (.int .i64 kk) := by
            have e0 : xa.add (0 : Int).toNat = xa := Addr.add_zero' xa
            rw [e0] at hk0
            exact hk0
          clear hkk
          obtain ⟨n, hn, hnv⟩ := one_two kk
          go_upto_region 13 with fail
          have hgv := blk_new wr (.cells #[.int .i64 (10 + (i : Int)), .bool (bits BinOp.and IntKind.i64 kk 1 == 1), .slice none 0 0] 52)
          have hbv := below_alloc (Below.refl _ wr) (.cells #[.int .i64 (10 + (i : Int)), .bool (bits BinOp.and IntKind.i64 kk 1 == 1), .slice none 0 0] 52)
          obtain ⟨f, hf⟩ : ∃ f : Bool, f = (bits BinOp.and IntKind.i64 kk 1 == 1) := ⟨_, rfl⟩
          rw [← hf] at hgv hbv ⊢
          generalize wr.alloc (.cells #[.int .i64 (10 + (i : Int)), .bool f, .slice none 0 0] 52) = V at *
          obtain ⟨g10, hg10⟩ : ∃ g10, g10 = wr.heap.size := ⟨_, rfl⟩
          have HG10 := Aside0.mk hg10
          rw [← hg10] at hgv ⊢
          have HBV := Aside0.mk hbv
          have HRV : Aside0 (RuleInv w V g2 g5 g10 (Value.slice Ar rs.length cr).ownBlock (10 + (i : Int)) f nO nC 0 [] (.slice none 0 0) V) := ⟨RuleInv.start hgv (below_step HM.out.low hbv)⟩
          have HN := Aside0.mk hn
          have q0v := pw_cell_below hbv q0
          have HZV : Aside0 (Z.heap.size ≤ V.heap.size) := ⟨Nat.le_trans HM.out.kept.1 hbv.size⟩
          have HV6 : Aside0 (LitS V g6 nO) := ⟨LitS.below ⟨(HM.out.kept.2 g6 HZ6.out.1 (by have := HZ6.out; omega)).trans HL6.out.blk⟩ hbv⟩
          have HV7 : Aside0 (LitS V g7 nC) := ⟨LitS.below ⟨(HM.out.kept.2 g7 HZ6.out.2.1 (by have := HZ6.out; omega)).trans HL7.out.blk⟩ hbv⟩
          have HG6 : Aside0 (g6 < g10 ∧ g7 < g10 ∧ g5 < g10 ∧ g2 < g10) := ⟨by have h1 := HM.out.kept.1; have h2 := HZ6.out; have h3 := HG10.out; omega⟩
          have HOR : Aside0 (∀ k, (Value.slice Ar rs.length cr).ownBlock = some k → Z.heap.size ≤ k ∧ k < g10) := ⟨fun k hk => ⟨Kd.N_base HM.out.row k hk, by rw [HG10.out]; exact Kd.N_lt HM.out.row k hk⟩⟩
          have HBO : Aside0 (∀ W, Kept V W (fun k => k = g10) → Below w.heap.size w W → Below wr.heap.size wr W) := ⟨fun W hk hw => below_outer HM.out.low HBV.out HG10.out hk hw⟩
          have HNX : Aside0 (∀ W6 W7, Below wr.heap.size wr W6 → W6.grownBy W7 (Value.slice Ar rs.length cr).ownBlock → ∀ (r : S52) (v7 : Value), Kd.N k52 52 W7 Z.heap.size (Not2 g2 g5) v7 (rs ++ [r]) → RuleMk nO nC r → MakeInv w Z g2 g5 (.slice (some ⟨gT, 0, none⟩) 4 4) nO nC (i + 1) (rs ++ [r]) v7 (W7.setCell ⟨g5, 1, none⟩ v7)) := ⟨fun W6 W7 hb hg r v7 hN hr => HM.out.next HZ6.out.2.2.2.2.2.2 HWG5.out hb hg hN hr⟩
          have HMB := Aside0.mk HM.out.blk
          have HMR := Aside0.mk HM.out.row
          have HFW : Aside0 (rs.length ≤ 3) := ⟨Nat.le_trans HM.out.few hi3⟩
          have HBZ1 := Aside0.mk (fun k (hk : (Value.slice Ar rs.length cr).ownBlock = some k) => Kd.N_base HM.out.row k hk)
          have HI3 : Aside0 (i < 3) := ⟨hc2⟩
          have HIL : Aside0 (i < l.length) := ⟨hc1⟩
          have HWG : Aside0 (w.heap.size ≤ g10) := ⟨by have := HM.out.low.size; have := HG10.out; omega⟩
          have hlV := lit_lt hgv
          have HLV := Aside0.mk hlV
          clear hf hg10 hgv hbv hk0 q0
          have HW1 := Aside0.mk hw1
          go_wp2
          rw [hnv]
          clear hnv hw1
          go_loopw [12] (fun q wr => ∃ (j : Nat) (ss : List S79) (vs : Value), j ≤ n ∧ q = .int .i64 j ∧ Aside0 (RuleInv w V g2 g5 g10 (Value.slice Ar rs.length cr).ownBlock (10 + (i : Int)) f nO nC j ss vs wr)) (fun q _ => n - (intOf q).toNat)
          case atStart => exact ⟨0, [], _, Nat.zero_le _, rfl, ⟨HRV.out⟩⟩
          case round =>
            obtain ⟨j, ss, vs, hjn, rfl, HR⟩ := hrel
            obtain ⟨Av, cv, rfl⟩ := Kd.N_slice HR.out.row
            by_cases hjl : j < n
            · obtain ⟨m, hm⟩ : ∃ m, x.length = m + 1 := ⟨x.length - 1, by omega⟩
              obtain ⟨p1, q1, o1, p2, q2, o2, hcu⟩ := cuts m j n (by omega) (by omega) HN.out hjl
              have HCU := Aside0.mk hcu
              have HOW : Aside0 (∀ k, (Value.slice Av ss.length cv).ownBlock = some k → V.heap.size ≤ k ∧ k < wr.heap.size) := ⟨fun k hk => ⟨Kd.N_base HR.out.row k hk, Kd.N_lt HR.out.row k hk⟩⟩
              have HPK : Aside0 (∀ k W, Below wr.heap.size wr W → Calls Tryz.prog 30 #[.slice (some ⟨g6, 0, none⟩) 1 1, .int .i64 k] W fun e w' => (∃ A c l', e = .returned (.slice A l'.length c) ∧ l'.length ≤ c ∧ Some0 nO l' ∧ Kd.F Kd.string W (fun b => b = g6) A l'.length l') ∧ w' = W) := ⟨fun k W hb => pick_reads g6 1 nO rfl (by decide) k W (LitS.below ⟨(HR.out.kept.2 g6 (by have := HG6.out; have := HLV.out; omega) (by have := HG6.out; omega)).trans HV6.out.blk⟩ hb)⟩
              have HWJ : Aside0 (wrap64 ((j : Int) + 1) = j + 1) := ⟨wrap_succ (by omega)⟩
              have HSL : Aside0 (ss.length ≤ 2) := ⟨by have h1 := HR.out.len; omega⟩
              have HJL : Aside0 (j < n) := ⟨hjl⟩
              have HIL : Aside0 (i < l.length) := ⟨hc1⟩
              have HN0 : Aside0 (¬ n = 0) := ⟨by omega⟩
              have H2C : Aside0 (o2 ≤ ci) := ⟨by have := hcu.lt; omega⟩
              have HCO : Aside0 (¬ ci = o1) := ⟨by have := hcu.ne; omega⟩
              have Q0 : Aside0 (wr.cell? (ad.add i) = some (.slice (some xa) (m + 1) ci)) := ⟨by rw [← hm]; exact pw_cell_below HR.out.low QW.out⟩
              have H10 : Aside0 (g10 < wr.heap.size) := ⟨Nat.lt_of_lt_of_le HLV.out HR.out.kept.1⟩
              have H6R : Aside0 (g6 < wr.heap.size) := ⟨by have := HG6.out; have := H10.out; omega⟩
              have H7R : Aside0 (g7 < wr.heap.size) := ⟨by have := HG6.out; have := H10.out; omega⟩
              have HOE : Aside0 (∀ k, (k = g6 ∨ k = g7 ∨ wr.heap.size ≤ k) → OkS g2 g5 g10 (Value.slice Ar rs.length cr).ownBlock k ∧ some k ≠ (Value.slice Av ss.length cv).ownBlock) := ⟨fun k hk => okE_of ⟨HZ6.out.1, HZ6.out.2.1⟩ HOR.out HG6.out H10.out ⟨HZ6.out.2.2.1, HZ6.out.2.2.2.1, HZ6.out.2.2.2.2.1, HZ6.out.2.2.2.2.2.1⟩ HOW.out HLV.out hk⟩
              have HW6 : Aside0 (LitS wr g6 nO) := ⟨⟨(HR.out.kept.2 g6 (by have := HG6.out; have := HLV.out; omega) (by have := HG6.out; omega)).trans HV6.out.blk⟩⟩
              have HW7 : Aside0 (LitS wr g7 nC) := ⟨⟨(HR.out.kept.2 g7 (by have := HG6.out; have := HLV.out; omega) (by have := HG6.out; omega)).trans HV7.out.blk⟩⟩
              have HIS : Aside0 ((Kd.int .i64).C w (some (xa.add o1)) (o2 - o1) ((x.drop o1).take (o2 - o1))) := ⟨by
                have h1 := Kd.C_drop HXR.out (show o1 ≤ x.length by have := hcu.ne; omega) hxc
                rw [if_neg HCO.out] at h1
                have h2 := C_take h1 (o2 - o1) (by rw [List.length_drop]; have := hcu.lt; omega)
                rw [show o1 * (Kd.int .i64).sz = o1 from Nat.mul_one o1] at h2
                exact h2⟩
              have HPC : Aside0 (∀ W ga, Below wr.heap.size wr W → LitS W ga nAB → Calls Tryz.prog 29 #[.slice (some (xa.add o1)) (o2 - o1) (ci - o1), .slice (some ⟨ga, 0, none⟩) 2 2, .slice (some ⟨g6, 0, none⟩) 1 1, .slice (some ⟨g7, 0, none⟩) 1 1] W fun e w' => ∃ p cs, e = .returned (.agg cs.toArray) ∧ (∃ D N, Mk nAB nO nC D N p ∧ D ≤ 9 ∧ N ≤ 23) ∧ Kd.FK k76 w' (Okp ga g6 g7 W.heap.size) p cs ∧ Below W.heap.size W w') := ⟨fun W ga hb hg => by
                have hl : ((x.drop o1).take (o2 - o1)).length = o2 - o1 := HIS.out.1
                have h1 := pattern_call W (some (xa.add o1)) (ci - o1) ((x.drop o1).take (o2 - o1)) (by rw [hl]; exact Kd.C_below HIS.out (below_step HR.out.low hb)) ga 2 g6 1 g7 1 nAB nO nC hg (HW6.out.below hb) (HW7.out.below hb) rfl rfl rfl (by decide) (by decide) (by decide)
                rw [hl] at h1
                exact h1⟩
              clear hcu
              go_upto_region 17 with fail
              clear q0v
              refine wp_region_makes4 34 _ depM17 (phiM17 ad xa l.length cl i m ci j n p1 q1 o1 p2 q2 o2 g6 g7 1 wr.heap.size) (jf17 nO nC g6 g7 wr.heap.size) (rv17 nO nC g6 g7 wr.heap.size) BelowR (by kernel_rfl) (by kernel_rfl) (by kernel_rfl) rfl belowR_refl belowR_trans (phiM17_stab _ _ _ _ _ _ _ _ _ _ _ _ _ _ _ _ _ _ _) (jf17_step _ _ _ _ _ _ H6R.out H7R.out) (fun L vals h => ⟨fun h31 => (by rw [h 31 (by decide)] at h31; cases h31), fun h33 => (by rw [h 33 (by decide)] at h33; cases h33)⟩) ?step ?fin
              case step =>
                repeat (rename_i z; clear z)
                refine ⟨?_, ?_, ?_, ?_, ?_, ?_, ?_, ?_, ?_, ?_, ?_, ?_, ?_, ?_, ?_, ?_, ?_, ?_, ?_, ?_, ?_, ?_, ?_, ?_, ?_, ?_, ?_, ?_, ?_, ?_, ?_, ?_, ?_, ?_, trivial⟩ <;> intro vals W hR0 hd
                · have hR := below_step (below_drew (Below.refl _ wr)) hR0
                  refine does_value (W' := W) (v := .slice (some ad) l.length cl) ?_ ⟨Below.refl _ _, trivial, rfl, trivial⟩
                  clear hd
                  simp only [acan, depM17, dstOf]
                  go_simp
                · have hR := below_step (below_drew (Below.refl _ wr)) hR0
                  refine does_value (W' := W) (v := .int .i64 ((i : Nat) : Int)) ?_ ⟨Below.refl _ _, trivial, rfl, trivial⟩
                  clear hd
                  simp only [acan, depM17, dstOf]
                  go_simp
                · have hR := below_step (below_drew (Below.refl _ wr)) hR0
                  have h0 : vals 0 = .slice (some ad) l.length cl := (hd 0 (by simp [depM17])).1
                  have h1 : vals 1 = .int .i64 ((i : Nat) : Int) := (hd 1 (by simp [depM17])).1
                  have hil := HIL.out
                  refine does_value (W' := W) (v := .pointer (some (ad.add i))) ?_ ⟨Below.refl _ _, trivial, rfl, trivial⟩
                  clear hd
                  simp only [acan, depM17, dstOf, h0, h1]
                  go_simp
                · have hR := below_step (below_drew (Below.refl _ wr)) hR0
                  have h2 : vals 2 = .pointer (some (ad.add i)) := (hd 2 (by simp [depM17])).1
                  have q0w := pw_cell_below hR Q0.out
                  refine does_value (W' := W) (v := .slice (some xa) (m + 1) ci) ?_ ⟨Below.refl _ _, trivial, rfl, trivial⟩
                  clear hd
                  simp only [acan, depM17, dstOf, h2]
                  go_simp
                · have hR := below_step (below_drew (Below.refl _ wr)) hR0
                  refine does_value (W' := W) (v := .slice (some ad) l.length cl) ?_ ⟨Below.refl _ _, trivial, rfl, trivial⟩
                  clear hd
                  simp only [acan, depM17, dstOf]
                  go_simp
                · have hR := below_step (below_drew (Below.refl _ wr)) hR0
                  refine does_value (W' := W) (v := .int .i64 ((i : Nat) : Int)) ?_ ⟨Below.refl _ _, trivial, rfl, trivial⟩
                  clear hd
                  simp only [acan, depM17, dstOf]
                  go_simp
                · have hR := below_step (below_drew (Below.refl _ wr)) hR0
                  have h4 : vals 4 = .slice (some ad) l.length cl := (hd 4 (by simp [depM17])).1
                  have h5 : vals 5 = .int .i64 ((i : Nat) : Int) := (hd 5 (by simp [depM17])).1
                  have hil := HIL.out
                  refine does_value (W' := W) (v := .pointer (some (ad.add i))) ?_ ⟨Below.refl _ _, trivial, rfl, trivial⟩
                  clear hd
                  simp only [acan, depM17, dstOf, h4, h5]
                  go_simp
                · have hR := below_step (below_drew (Below.refl _ wr)) hR0
                  have h6 : vals 6 = .pointer (some (ad.add i)) := (hd 6 (by simp [depM17])).1
                  have q0w := pw_cell_below hR Q0.out
                  refine does_value (W' := W) (v := .slice (some xa) (m + 1) ci) ?_ ⟨Below.refl _ _, trivial, rfl, trivial⟩
                  clear hd
                  simp only [acan, depM17, dstOf, h6]
                  go_simp
                · have hR := below_step (below_drew (Below.refl _ wr)) hR0
                  have h7 : vals 7 = .slice (some xa) (m + 1) ci := (hd 7 (by simp [depM17])).1
                  refine does_value (W' := W) (v := .int .i64 ((m + 1 : Nat) : Int)) ?_ ⟨Below.refl _ _, trivial, rfl, trivial⟩
                  clear hd
                  simp only [acan, depM17, dstOf, h7]
                  go_simp
                · have hR := below_step (below_drew (Below.refl _ wr)) hR0
                  have h8 : vals 8 = .int .i64 ((m + 1 : Nat) : Int) := (hd 8 (by simp [depM17])).1
                  have ee := HCU.out.e9
                  refine does_value (W' := W) (v := .int .i64 ((m : Nat) : Int)) ?_ ⟨Below.refl _ _, trivial, rfl, trivial⟩
                  clear hd
                  simp only [acan, depM17, dstOf, h8]
                  go_simp
                  try exact HCU.out.e9b
                · have hR := below_step (below_drew (Below.refl _ wr)) hR0
                  refine does_value (W' := W) (v := .int .i64 ((j : Nat) : Int)) ?_ ⟨Below.refl _ _, trivial, rfl, trivial⟩
                  clear hd
                  simp only [acan, depM17, dstOf]
                  go_simp
                · have hR := below_step (below_drew (Below.refl _ wr)) hR0
                  have h9 : vals 9 = .int .i64 ((m : Nat) : Int) := (hd 9 (by simp [depM17])).1
                  have h10 : vals 10 = .int .i64 ((j : Nat) : Int) := (hd 10 (by simp [depM17])).1
                  have ee := HCU.out.e11
                  refine does_value (W' := W) (v := .int .i64 ((p1 : Nat) : Int)) ?_ ⟨Below.refl _ _, trivial, rfl, trivial⟩
                  clear hd
                  simp only [acan, depM17, dstOf, h9, h10]
                  go_simp
                · have hR := below_step (below_drew (Below.refl _ wr)) hR0
                  refine does_value (W' := W) (v := .int .i64 ((n : Nat) : Int)) ?_ ⟨Below.refl _ _, trivial, rfl, trivial⟩
                  clear hd
                  simp only [acan, depM17, dstOf]
                  go_simp
                · have hR := below_step (below_drew (Below.refl _ wr)) hR0
                  have h11 : vals 11 = .int .i64 ((p1 : Nat) : Int) := (hd 11 (by simp [depM17])).1
                  have h12 : vals 12 = .int .i64 ((n : Nat) : Int) := (hd 12 (by simp [depM17])).1
                  have ee := HCU.out.e13
                  have hn0 := HN0.out
                  refine does_value (W' := W) (v := .int .i64 ((q1 : Nat) : Int)) ?_ ⟨Below.refl _ _, trivial, rfl, trivial⟩
                  clear hd
                  simp only [acan, depM17, dstOf, h11, h12]
                  go_simp
                  try exact HCU.out.e13b
                · have hR := below_step (below_drew (Below.refl _ wr)) hR0
                  have h13 : vals 13 = .int .i64 ((q1 : Nat) : Int) := (hd 13 (by simp [depM17])).1
                  have ee := HCU.out.e14
                  refine does_value (W' := W) (v := .int .i64 ((o1 : Nat) : Int)) ?_ ⟨Below.refl _ _, trivial, rfl, trivial⟩
                  clear hd
                  simp only [acan, depM17, dstOf, h13]
                  go_simp
                · have hR := below_step (below_drew (Below.refl _ wr)) hR0
                  refine does_value (W' := W) (v := .slice (some ad) l.length cl) ?_ ⟨Below.refl _ _, trivial, rfl, trivial⟩
                  clear hd
                  simp only [acan, depM17, dstOf]
                  go_simp
                · have hR := below_step (below_drew (Below.refl _ wr)) hR0
                  refine does_value (W' := W) (v := .int .i64 ((i : Nat) : Int)) ?_ ⟨Below.refl _ _, trivial, rfl, trivial⟩
                  clear hd
                  simp only [acan, depM17, dstOf]
                  go_simp
                · have hR := below_step (below_drew (Below.refl _ wr)) hR0
                  have h15 : vals 15 = .slice (some ad) l.length cl := (hd 15 (by simp [depM17])).1
                  have h16 : vals 16 = .int .i64 ((i : Nat) : Int) := (hd 16 (by simp [depM17])).1
                  have hil := HIL.out
                  refine does_value (W' := W) (v := .pointer (some (ad.add i))) ?_ ⟨Below.refl _ _, trivial, rfl, trivial⟩
                  clear hd
                  simp only [acan, depM17, dstOf, h15, h16]
                  go_simp
                · have hR := below_step (below_drew (Below.refl _ wr)) hR0
                  have h17 : vals 17 = .pointer (some (ad.add i)) := (hd 17 (by simp [depM17])).1
                  have q0w := pw_cell_below hR Q0.out
                  refine does_value (W' := W) (v := .slice (some xa) (m + 1) ci) ?_ ⟨Below.refl _ _, trivial, rfl, trivial⟩
                  clear hd
                  simp only [acan, depM17, dstOf, h17]
                  go_simp
                · have hR := below_step (below_drew (Below.refl _ wr)) hR0
                  have h18 : vals 18 = .slice (some xa) (m + 1) ci := (hd 18 (by simp [depM17])).1
                  refine does_value (W' := W) (v := .int .i64 ((m + 1 : Nat) : Int)) ?_ ⟨Below.refl _ _, trivial, rfl, trivial⟩
                  clear hd
                  simp only [acan, depM17, dstOf, h18]
                  go_simp
                · have hR := below_step (below_drew (Below.refl _ wr)) hR0
                  have h19 : vals 19 = .int .i64 ((m + 1 : Nat) : Int) := (hd 19 (by simp [depM17])).1
                  have ee := HCU.out.e9
                  refine does_value (W' := W) (v := .int .i64 ((m : Nat) : Int)) ?_ ⟨Below.refl _ _, trivial, rfl, trivial⟩
                  clear hd
                  simp only [acan, depM17, dstOf, h19]
                  go_simp
                  try exact HCU.out.e9b
                · have hR := below_step (below_drew (Below.refl _ wr)) hR0
                  refine does_value (W' := W) (v := .int .i64 ((j : Nat) : Int)) ?_ ⟨Below.refl _ _, trivial, rfl, trivial⟩
                  clear hd
                  simp only [acan, depM17, dstOf]
                  go_simp
                · have hR := below_step (below_drew (Below.refl _ wr)) hR0
                  have h21 : vals 21 = .int .i64 ((j : Nat) : Int) := (hd 21 (by simp [depM17])).1
                  have ee := HCU.out.e22
                  refine does_value (W' := W) (v := .int .i64 ((j + 1 : Nat) : Int)) ?_ ⟨Below.refl _ _, trivial, rfl, trivial⟩
                  clear hd
                  simp only [acan, depM17, dstOf, h21]
                  go_simp
                · have hR := below_step (below_drew (Below.refl _ wr)) hR0
                  have h20 : vals 20 = .int .i64 ((m : Nat) : Int) := (hd 20 (by simp [depM17])).1
                  have h22 : vals 22 = .int .i64 ((j + 1 : Nat) : Int) := (hd 22 (by simp [depM17])).1
                  have ee := HCU.out.e23
                  refine does_value (W' := W) (v := .int .i64 ((p2 : Nat) : Int)) ?_ ⟨Below.refl _ _, trivial, rfl, trivial⟩
                  clear hd
                  simp only [acan, depM17, dstOf, h20, h22]
                  go_simp
                  try exact HCU.out.e23b
                · have hR := below_step (below_drew (Below.refl _ wr)) hR0
                  refine does_value (W' := W) (v := .int .i64 ((n : Nat) : Int)) ?_ ⟨Below.refl _ _, trivial, rfl, trivial⟩
                  clear hd
                  simp only [acan, depM17, dstOf]
                  go_simp
                · have hR := below_step (below_drew (Below.refl _ wr)) hR0
                  have h23 : vals 23 = .int .i64 ((p2 : Nat) : Int) := (hd 23 (by simp [depM17])).1
                  have h24 : vals 24 = .int .i64 ((n : Nat) : Int) := (hd 24 (by simp [depM17])).1
                  have ee := HCU.out.e25
                  have hn0 := HN0.out
                  refine does_value (W' := W) (v := .int .i64 ((q2 : Nat) : Int)) ?_ ⟨Below.refl _ _, trivial, rfl, trivial⟩
                  clear hd
                  simp only [acan, depM17, dstOf, h23, h24]
                  go_simp
                  try exact HCU.out.e25b
                · have hR := below_step (below_drew (Below.refl _ wr)) hR0
                  have h25 : vals 25 = .int .i64 ((q2 : Nat) : Int) := (hd 25 (by simp [depM17])).1
                  have ee := HCU.out.e26
                  refine does_value (W' := W) (v := .int .i64 ((o2 : Nat) : Int)) ?_ ⟨Below.refl _ _, trivial, rfl, trivial⟩
                  clear hd
                  simp only [acan, depM17, dstOf, h25]
                  go_simp
                · have hR := below_step (below_drew (Below.refl _ wr)) hR0
                  have h3 : vals 3 = .slice (some xa) (m + 1) ci := (hd 3 (by simp [depM17])).1
                  have h14 : vals 14 = .int .i64 ((o1 : Nat) : Int) := (hd 14 (by simp [depM17])).1
                  have h26 : vals 26 = .int .i64 ((o2 : Nat) : Int) := (hd 26 (by simp [depM17])).1
                  have h12 := HCU.out.le
                  have h2c := H2C.out
                  have hco := HCO.out
                  refine does_value (W' := W) (v := .slice (some (xa.add o1)) (o2 - o1) (ci - o1)) ?_ ⟨Below.refl _ _, trivial, rfl, trivial⟩
                  clear hd
                  simp only [acan, depM17, dstOf, h3, h14, h26]
                  go_simp
                · have hR := below_step (below_drew (Below.refl _ wr)) hR0
                  clear hd
                  refine does_value (W' := W.alloc (.cells #[.string ⟨#[97]⟩, .string ⟨#[98]⟩] 9)) (v := .slice (some ⟨W.heap.size, 0, none⟩) 2 2) ?_ ⟨below_alloc (Below.refl _ _) _, trivial, trivial, W.heap.size, rfl, hR.size, ⟨blk_new W _⟩⟩
                  simp only [acan, depM17, dstOf]
                  go_simp
                · have hR := below_step (below_drew (Below.refl _ wr)) hR0
                  refine does_value (W' := W) (v := .slice (some ⟨g6, 0, none⟩) 1 1) ?_ ⟨Below.refl _ _, trivial, rfl, trivial⟩
                  clear hd
                  simp only [acan, depM17, dstOf]
                  go_simp
                · have hR := below_step (below_drew (Below.refl _ wr)) hR0
                  refine does_value (W' := W) (v := .slice (some ⟨g7, 0, none⟩) 1 1) ?_ ⟨Below.refl _ _, trivial, rfl, trivial⟩
                  clear hd
                  simp only [acan, depM17, dstOf]
                  go_simp
                · have hR := below_step (below_drew (Below.refl _ wr)) hR0
                  have h27 : vals 27 = .slice (some (xa.add o1)) (o2 - o1) (ci - o1) := (hd 27 (by simp [depM17])).1
                  have h28 : ∃ ga, (vals 28) = .slice (some ⟨ga, 0, none⟩) 2 2 ∧ wr.heap.size ≤ ga ∧ LitS W ga nAB := (hd 28 (by simp [depM17])).2
                  have h29 : vals 29 = .slice (some ⟨g6, 0, none⟩) 1 1 := (hd 29 (by simp [depM17])).1
                  have h30 : vals 30 = .slice (some ⟨g7, 0, none⟩) 1 1 := (hd 30 (by simp [depM17])).1
                  obtain ⟨ga, e28, lga, hga⟩ := h28
                  clear hd
                  refine does_enter (W' := W) (f := 29) (args := #[.slice (some (xa.add o1)) (o2 - o1) (ci - o1), .slice (some ⟨ga, 0, none⟩) 2 2, .slice (some ⟨g6, 0, none⟩) 1 1, .slice (some ⟨g7, 0, none⟩) 1 1]) ?_ ((HPC.out W ga hR hga).mono ?_)
                  · simp only [acan, depM17, dstOf, h27, e28, h29, h30]
                    go_simp
                  · rintro e w1 ⟨p, cs, rfl, hM, hF, hb⟩
                    have hF2 := hF
                    obtain ⟨B1, d1, B2, d2, B3, d3, rfl, _⟩ := k76_open (Kd.FK_now hF2)
                    exact ⟨_, rfl, hb, ⟨hR.size, ga, p, _, rfl, hM, hF, lga, hga⟩, trivial, _, _, _, _, _, _, _, _, _, _, rfl⟩
                · have hR := below_step (below_drew (Below.refl _ wr)) hR0
                  have h31 : ∃ (a : Int) (B1 : Option Addr) (k1 d1 : Nat) (B2 : Option Addr) (k2 d2 : Nat) (B3 : Option Addr) (k3 d3 : Nat), (vals 31) = .agg #[.int .i64 a, .slice B1 k1 d1, .slice B2 k2 d2, .slice B3 k3 d3] := (hd 31 (by simp [depM17])).2
                  obtain ⟨a, B1, k1, d1, B2, k2, d2, B3, k3, d3, e31⟩ := h31
                  clear hd
                  refine does_value (W' := W) (v := .agg #[.slice none 0 0, .int .i64 a, .slice B1 k1 d1, .slice B2 k2 d2, .slice B3 k3 d3]) ?_ ⟨Below.refl _ _, trivial, trivial, _, _, _, _, _, _, _, _, _, _, e31, rfl⟩
                  simp only [acan, depM17, dstOf, e31]
                  go_simp
                · have hR := below_step (below_drew (Below.refl _ wr)) hR0
                  clear hd
                  refine does_value (W' := W.alloc (.cells z79c.toArray 79)) (v := .pointer (some ⟨W.heap.size, 0, none⟩)) ?_ ⟨below_alloc (Below.refl _ _) _, ⟨hR.size, rfl, rfl⟩, trivial, _, rfl⟩
                  simp only [acan, depM17, dstOf]
                  go_simp
                  rfl
              case fin =>
                intro vals W hR0 hJ hF
                have hR := below_step (below_drew (Below.refl _ wr)) hR0
                have f0 : vals 0 = .slice (some ad) l.length cl := (hF 0 (by decide)).1
                have f1 : vals 1 = .int .i64 ((i : Nat) : Int) := (hF 1 (by decide)).1
                have f2 : vals 2 = .pointer (some (ad.add i)) := (hF 2 (by decide)).1
                have f3 : vals 3 = .slice (some xa) (m + 1) ci := (hF 3 (by decide)).1
                have f4 : vals 4 = .slice (some ad) l.length cl := (hF 4 (by decide)).1
                have f5 : vals 5 = .int .i64 ((i : Nat) : Int) := (hF 5 (by decide)).1
                have f6 : vals 6 = .pointer (some (ad.add i)) := (hF 6 (by decide)).1
                have f7 : vals 7 = .slice (some xa) (m + 1) ci := (hF 7 (by decide)).1
                have f8 : vals 8 = .int .i64 ((m + 1 : Nat) : Int) := (hF 8 (by decide)).1
                have f9 : vals 9 = .int .i64 ((m : Nat) : Int) := (hF 9 (by decide)).1
                have f10 : vals 10 = .int .i64 ((j : Nat) : Int) := (hF 10 (by decide)).1
                have f11 : vals 11 = .int .i64 ((p1 : Nat) : Int) := (hF 11 (by decide)).1
                have f12 : vals 12 = .int .i64 ((n : Nat) : Int) := (hF 12 (by decide)).1
                have f13 : vals 13 = .int .i64 ((q1 : Nat) : Int) := (hF 13 (by decide)).1
                have f14 : vals 14 = .int .i64 ((o1 : Nat) : Int) := (hF 14 (by decide)).1
                have f15 : vals 15 = .slice (some ad) l.length cl := (hF 15 (by decide)).1
                have f16 : vals 16 = .int .i64 ((i : Nat) : Int) := (hF 16 (by decide)).1
                have f17 : vals 17 = .pointer (some (ad.add i)) := (hF 17 (by decide)).1
                have f18 : vals 18 = .slice (some xa) (m + 1) ci := (hF 18 (by decide)).1
                have f19 : vals 19 = .int .i64 ((m + 1 : Nat) : Int) := (hF 19 (by decide)).1
                have f20 : vals 20 = .int .i64 ((m : Nat) : Int) := (hF 20 (by decide)).1
                have f21 : vals 21 = .int .i64 ((j : Nat) : Int) := (hF 21 (by decide)).1
                have f22 : vals 22 = .int .i64 ((j + 1 : Nat) : Int) := (hF 22 (by decide)).1
                have f23 : vals 23 = .int .i64 ((p2 : Nat) : Int) := (hF 23 (by decide)).1
                have f24 : vals 24 = .int .i64 ((n : Nat) : Int) := (hF 24 (by decide)).1
                have f25 : vals 25 = .int .i64 ((q2 : Nat) : Int) := (hF 25 (by decide)).1
                have f26 : vals 26 = .int .i64 ((o2 : Nat) : Int) := (hF 26 (by decide)).1
                have f27 : vals 27 = .slice (some (xa.add o1)) (o2 - o1) (ci - o1) := (hF 27 (by decide)).1
                have f28 : ∃ ga, (vals 28) = .slice (some ⟨ga, 0, none⟩) 2 2 ∧ wr.heap.size ≤ ga ∧ LitS W ga nAB := (hF 28 (by decide)).2
                have f29 : vals 29 = .slice (some ⟨g6, 0, none⟩) 1 1 := (hF 29 (by decide)).1
                have f30 : vals 30 = .slice (some ⟨g7, 0, none⟩) 1 1 := (hF 30 (by decide)).1
                have f31 : ∃ (a : Int) (B1 : Option Addr) (k1 d1 : Nat) (B2 : Option Addr) (k2 d2 : Nat) (B3 : Option Addr) (k3 d3 : Nat), (vals 31) = .agg #[.int .i64 a, .slice B1 k1 d1, .slice B2 k2 d2, .slice B3 k3 d3] := (hF 31 (by decide)).2
                have f32 : ∃ (a : Int) (B1 : Option Addr) (k1 d1 : Nat) (B2 : Option Addr) (k2 d2 : Nat) (B3 : Option Addr) (k3 d3 : Nat), (vals 31) = .agg #[.int .i64 a, .slice B1 k1 d1, .slice B2 k2 d2, .slice B3 k3 d3] ∧ (vals 32) = .agg #[.slice none 0 0, .int .i64 a, .slice B1 k1 d1, .slice B2 k2 d2, .slice B3 k3 d3] := (hF 32 (by decide)).2
                have f33 : ∃ g, (vals 33) = .pointer (some ⟨g, 0, none⟩) := (hF 33 (by decide)).2
                clear hF hR0
                rw [show List.range 34 = [0, 1, 2, 3, 4, 5, 6, 7, 8, 9, 10, 11, 12, 13, 14, 15, 16, 17, 18, 19, 20, 21, 22, 23, 24, 25, 26, 27, 28, 29, 30, 31, 32, 33] from rfl]
                simp only [acan, dstOf, Act.put, List.getElem?_toArray, List.getElem?_cons_zero, List.getElem?_cons_succ, Option.bind_some, List.setIfInBounds_toArray, List.set_cons_zero, List.set_cons_succ, List.drop_succ_cons, List.drop_zero, f0, f1, f2, f3, f4, f5, f6, f7, f8, f9, f10, f11, f12, f13, f14, f15, f16, f17, f18, f19, f20, f21, f22, f23, f24, f25, f26, f27, f29, f30]
                obtain ⟨L, hL, hj1, hj2⟩ := hJ
                obtain ⟨p, cs, e31, hM, hF⟩ := hj1 (hL 31 (by decide))
                obtain ⟨g13, e33, hg13, hk13⟩ := hj2 (hL 33 (by decide))
                obtain ⟨B1, d1, B2, d2, B3, d3, rfl, _⟩ := k76_open (Kd.FK_now hF)
                obtain ⟨a, D1, k1, c1, D2, k2, c2, D3, k3, c3, e32, f32⟩ := f32
                rw [e31] at e32
                simp only [Value.agg.injEq, Array.mk.injEq, List.cons.injEq, Value.int.injEq, Value.slice.injEq, true_and, and_true] at e32
                obtain ⟨rfl, ⟨rfl, rfl, rfl⟩, ⟨rfl, rfl, rfl⟩, rfl, rfl, rfl⟩ := e32
                clear f31 f33
                obtain ⟨ga, e28, _, _⟩ := f28
                have HMK := Aside0.mk hM
                have hF3 : Kd.FK k76 W (fun k => (OkS g2 g5 g10 (Value.slice Ar rs.length cr).ownBlock k ∧ some k ≠ (Value.slice Av ss.length cv).ownBlock) ∧ k ≠ g13) p _ := Kd.FK_mono hF (fun k hk => ⟨HOE.out k hk.1, fun he => hk.2.2 (hL 33 (by decide)) (by rw [e33, he])⟩)
                have HF0 := Aside0.mk (FK_step0 hF3)
                have HBX : Aside0 (Kd.N k79 79 W wr.heap.size (fun k => OkS g2 g5 g10 (Value.slice Ar rs.length cr).ownBlock k ∧ some k ≠ (Value.slice Av ss.length cv).ownBlock) (.slice (some ⟨g13, 0, none⟩) 1 1) [z79]) := ⟨box_at hk13 hg13 (okp := fun _ => False) (z79_FK _ _) (fun _ h => h.elim) (HOE.out g13 (.inr (.inr hg13)))⟩
                have HK13 := Aside0.mk hk13
                have HRW := Aside0.mk hR
                have H13 := Aside0.mk hg13
                simp only [e31, e33, e28, f32]
                clear hF hF3 hk13 hR hg13 hL hj1 hj2 hM e31 e33 e28 f32
                have HO6 : Aside0 ((OkS g2 g5 g10 (Value.slice Ar rs.length cr).ownBlock g6 ∧ some g6 ≠ (Value.slice Av ss.length cv).ownBlock) ∧ g6 ≠ g13) := ⟨HOE.out g6 (.inl rfl), ne_of_lt3 HG6.out.1 H10.out H13.out⟩
                have hwj := HWJ.out
                by_cases hj0 : 0 < j
                · go_wp2_with (first
                    | ((with_reducible refine gate_store (t := 79) (p := 13) rfl ?_); refine Kd.N_store k79 (w0 := wr) (W := W) wr.heap.size rfl rfl 79 (.tmp 13) (.tmp 122) rfl 79 (0 : Int) 0 [z79] (⟨[], p⟩ : S79) (.agg #[.slice none 0 0, .int .i64 p.f0, .slice B1 p.f1.length d1, .slice B2 p.f2.length d2, .slice B3 p.f3.length d3]) [.slice none 0 0, .int .i64 p.f0, .slice B1 p.f1.length d1, .slice B2 p.f2.length d2, .slice B3 p.f3.length d3] z79c (fun k => OkS g2 g5 g10 (Value.slice Ar rs.length cr).ownBlock k ∧ some k ≠ (Value.slice Av ss.length cv).ownBlock) (fun k => (OkS g2 g5 g10 (Value.slice Ar rs.length cr).ownBlock k ∧ some k ≠ (Value.slice Av ss.length cv).ownBlock) ∧ k ≠ g13) rfl ?sO rfl rfl rfl ?s1 HBX.out ?s2 ?s3 rfl ?s4 ?s5 HF0.out (fun _ h => h) HRW.out ?_; (case sO => rfl); (case s1 => intro q hq2; simp at hq2; rcases hq2 with rfl | rfl | rfl | rfl | rfl <;> rfl); (case s2 => omega); (case s3 => omega); (case s4 => exact box_cells HK13.out 5); (case s5 => exact Nat.le_refl 5); intro w6 ho6 hb6 hg6; have HN6 : Aside0 (Kd.N k79 79 w6 wr.heap.size (fun k => OkS g2 g5 g10 (Value.slice Ar rs.length cr).ownBlock k ∧ some k ≠ (Value.slice Av ss.length cv).ownBlock) (.slice (some ⟨g13, 0, none⟩) 1 1) [⟨[], p⟩]) := ⟨ho6⟩; have HB6 := Aside0.mk hb6; clear ho6 hb6 hg6; obtain ⟨cb6, hcb6, hfb6⟩ := box_open HN6.out; have HCB6 := Aside0.mk hcb6; have HFB6 := Aside0.mk hfb6; clear hcb6 hfb6; have hrb := blk_below HR.out.blk HB6.out; have r1 : w6.cell? ⟨g10, 1, none⟩ = some (.bool f) := (blk_cell hrb 1).trans rfl; have r2 : w6.cell? ⟨g10, 2, none⟩ = some (.slice Av ss.length cv) := (blk_cell hrb 2).trans rfl; clear hrb)
                    | ((go_at_call 30; (with_reducible refine (HPK.out _ _ HB6.out).mono ?_); rintro e w1 ⟨⟨P1, c1, l1, rfl, hc1, hs1, hf1⟩, hw1⟩; obtain rfl := hw1.symm; have HC1 := Aside0.mk hc1; have HS1 := Aside0.mk hs1; have HF1 := Aside0.mk hf1; clear hc1 hs1 hf1))
                    | ((with_reducible refine gate_store (t := 73) (p := 133) rfl ?_); refine Kd.N_store k79 (w0 := wr) (W := w6) wr.heap.size rfl rfl 73 (.tmp 133) (.tmp 132) rfl 79 (0 : Int) 0 [⟨[], p⟩] (⟨l1, p⟩ : S79) (.slice P1 l1.length c1) [.slice P1 l1.length c1] cb6 (fun k => OkS g2 g5 g10 (Value.slice Ar rs.length cr).ownBlock k ∧ some k ≠ (Value.slice Av ss.length cv).ownBlock) (fun k => (OkS g2 g5 g10 (Value.slice Ar rs.length cr).ownBlock k ∧ some k ≠ (Value.slice Av ss.length cv).ownBlock) ∧ k ≠ g13) rfl ?sO rfl rfl rfl ?s1 HN6.out ?s2 ?s3 ?sl ?s4 ?s5 (FK_step1 HFB6.out HC1.out (Kd.F_mono HF1.out (fun b hb => by rw [hb]; exact HO6.out))) (fun _ h => h) HB6.out ?_; (case sO => rfl); (case s1 => intro q hq2; simp at hq2; subst hq2; rfl); (case s2 => omega); (case s3 => omega); (case sl => exact k79.K_len (Kd.FK_now HFB6.out)); (case s4 => exact box_cells HCB6.out 5); (case s5 => show 0 + 1 ≤ 5; omega); intro w8 ho8 hb8 hg8; have HN8 : Aside0 (Kd.N k79 79 w8 wr.heap.size (fun k => OkS g2 g5 g10 (Value.slice Ar rs.length cr).ownBlock k ∧ some k ≠ (Value.slice Av ss.length cv).ownBlock) (.slice (some ⟨g13, 0, none⟩) 1 1) [⟨l1, p⟩]) := ⟨ho8⟩; have HB8 := Aside0.mk hb8; clear ho8 hb8 hg8; obtain ⟨cb8, hcb8, hfb8⟩ := box_open HN8.out; have HCB8 := Aside0.mk hcb8; have HFB8 := Aside0.mk hfb8; clear hcb8 hfb8; obtain ⟨D0, e0, D2, e2, D3, e3, D4, e4, hcs8, _⟩ := k79_open (Kd.FK_now HFB8.out); rw [hcs8] at HCB8 HFB8; have x0 : w8.cell? ⟨g13, 0, none⟩ = _ := (blk_cell HCB8.out 0).trans rfl; have x1 : w8.cell? ⟨g13, 1, none⟩ = _ := (blk_cell HCB8.out 1).trans rfl; have x2 : w8.cell? ⟨g13, 2, none⟩ = _ := (blk_cell HCB8.out 2).trans rfl; have x3 : w8.cell? ⟨g13, 3, none⟩ = _ := (blk_cell HCB8.out 3).trans rfl; have x4 : w8.cell? ⟨g13, 4, none⟩ = _ := (blk_cell HCB8.out 4).trans rfl; clear hcs8; have hrb := blk_below HR.out.blk HB8.out; have r1 : w8.cell? ⟨g10, 1, none⟩ = some (.bool f) := (blk_cell hrb 1).trans rfl; have r2 : w8.cell? ⟨g10, 2, none⟩ = some (.slice Av ss.length cv) := (blk_cell hrb 2).trans rfl; clear hrb)
                    | ((with_reducible refine gate_builtin (b := .append) (xs := #[.tmp 135, .tmp 137]) rfl ?_); at_builtin; refine Kd.N_append k79 (w0 := w8) (W := w8) V.heap.size rfl (.tmp 135) (.tmp 137) 50 79 (.agg #[.slice none 0 0, .int .i64 0, .slice none 0 0, .slice none 0 0, .slice none 0 0]) 104 rfl Tryz.underlying50 info79 rfl (by decide) (by omega) _ ss (⟨l1, p⟩ : S79) [.slice D0 ((⟨l1, p⟩ : S79) : S79).f0.length e0, .int .i64 p.f0, .slice D2 p.f1.length e2, .slice D3 p.f2.length e3, .slice D4 p.f3.length e4] (OkS g2 g5 g10 (Value.slice Ar rs.length cr).ownBlock) (fun k => OkS g2 g5 g10 (Value.slice Ar rs.length cr).ownBlock k ∧ some k ≠ (Value.slice Av ss.length cv).ownBlock) rfl rfl (Kd.FK_mono HFB8.out (fun _ h => h.1)) (fun _ h => h) ?hF (Kd.N_below HR.out.row HB8.out) (Below.refl _ _) ?hV ?aL ?_; (case hF => intro k hk; exact (HOE.out k (.inr (.inr (Nat.le_trans HB8.out.size hk)))).1); (case hV => exact Nat.le_trans HR.out.kept.1 HB8.out.size); (case aL => exact small104 HSL.out); intro v9 w9 ho9 hb9 hg9 hat9; obtain ⟨A9, c9, hv9⟩ := Kd.N_slice ho9; rw [List.length_append, List.length_singleton] at hv9; subst hv9; have HN9 := Aside0.mk ho9; have HG9 := Aside0.mk hg9; have hr9 := blk_grown2 (blk_below HR.out.blk HB8.out) hg9 (fun e => Nat.lt_irrefl _ (Nat.lt_of_lt_of_le HLV.out (HOW.out g10 e.symm).1)); have s2 : w9.cell? ⟨g10, 2, none⟩ = some (.slice Av ss.length cv) := (blk_cell hr9 2).trans rfl; have t2 : w9.frozen? ⟨g10, 2, none⟩ = false := blk_frozen hr9 2; clear ho9 hb9 hg9 hat9 hr9))
                  go_roundw
                  case rel => exact ⟨j + 1, HJL.out, (by first | rfl | (rw [hwj]; rfl) | simp), ss ++ [⟨l1, p⟩], .slice A9 (ss.length + 1) c9, ⟨HR.out.next HLV.out HWG.out HB8.out HG9.out HN9.out ⟨fun _ => HS1.out, fun h => by simp [hj0] at h, HMK.out⟩⟩⟩
                  case measure => first | exact meas HJL.out | (rw [hwj]; exact meas HJL.out)
                · cases f
                  case false =>
                    go_wp2_with (first
                      | ((with_reducible refine gate_store (t := 79) (p := 13) rfl ?_); refine Kd.N_store k79 (w0 := wr) (W := W) wr.heap.size rfl rfl 79 (.tmp 13) (.tmp 122) rfl 79 (0 : Int) 0 [z79] (⟨[], p⟩ : S79) (.agg #[.slice none 0 0, .int .i64 p.f0, .slice B1 p.f1.length d1, .slice B2 p.f2.length d2, .slice B3 p.f3.length d3]) [.slice none 0 0, .int .i64 p.f0, .slice B1 p.f1.length d1, .slice B2 p.f2.length d2, .slice B3 p.f3.length d3] z79c (fun k => OkS g2 g5 g10 (Value.slice Ar rs.length cr).ownBlock k ∧ some k ≠ (Value.slice Av ss.length cv).ownBlock) (fun k => (OkS g2 g5 g10 (Value.slice Ar rs.length cr).ownBlock k ∧ some k ≠ (Value.slice Av ss.length cv).ownBlock) ∧ k ≠ g13) rfl ?sO rfl rfl rfl ?s1 HBX.out ?s2 ?s3 rfl ?s4 ?s5 HF0.out (fun _ h => h) HRW.out ?_; (case sO => rfl); (case s1 => intro q hq2; simp at hq2; rcases hq2 with rfl | rfl | rfl | rfl | rfl <;> rfl); (case s2 => omega); (case s3 => omega); (case s4 => exact box_cells HK13.out 5); (case s5 => exact Nat.le_refl 5); intro w6 ho6 hb6 hg6; have HN6 : Aside0 (Kd.N k79 79 w6 wr.heap.size (fun k => OkS g2 g5 g10 (Value.slice Ar rs.length cr).ownBlock k ∧ some k ≠ (Value.slice Av ss.length cv).ownBlock) (.slice (some ⟨g13, 0, none⟩) 1 1) [⟨[], p⟩]) := ⟨ho6⟩; have HB6 := Aside0.mk hb6; clear ho6 hb6 hg6; obtain ⟨cb6, hcb6, hfb6⟩ := box_open HN6.out; have HCB6 := Aside0.mk hcb6; have HFB6 := Aside0.mk hfb6; clear hcb6 hfb6; obtain ⟨D0, e0, D2, e2, D3, e3, D4, e4, hcs6, _⟩ := k79_open (Kd.FK_now HFB6.out); rw [hcs6] at HCB6 HFB6; have x0 : w6.cell? ⟨g13, 0, none⟩ = _ := (blk_cell HCB6.out 0).trans rfl; have x1 : w6.cell? ⟨g13, 1, none⟩ = _ := (blk_cell HCB6.out 1).trans rfl; have x2 : w6.cell? ⟨g13, 2, none⟩ = _ := (blk_cell HCB6.out 2).trans rfl; have x3 : w6.cell? ⟨g13, 3, none⟩ = _ := (blk_cell HCB6.out 3).trans rfl; have x4 : w6.cell? ⟨g13, 4, none⟩ = _ := (blk_cell HCB6.out 4).trans rfl; clear hcs6; have hrb := blk_below HR.out.blk HB6.out; have r1 : w6.cell? ⟨g10, 1, none⟩ = some (.bool false) := (blk_cell hrb 1).trans rfl; have r2 : w6.cell? ⟨g10, 2, none⟩ = some (.slice Av ss.length cv) := (blk_cell hrb 2).trans rfl; clear hrb)
                      | ((with_reducible refine gate_builtin (b := .append) (xs := #[.tmp 135, .tmp 137]) rfl ?_); at_builtin; refine Kd.N_append k79 (w0 := w6) (W := w6) V.heap.size rfl (.tmp 135) (.tmp 137) 50 79 (.agg #[.slice none 0 0, .int .i64 0, .slice none 0 0, .slice none 0 0, .slice none 0 0]) 104 rfl Tryz.underlying50 info79 rfl (by decide) (by omega) _ ss (⟨[], p⟩ : S79) [.slice D0 ((⟨[], p⟩ : S79) : S79).f0.length e0, .int .i64 p.f0, .slice D2 p.f1.length e2, .slice D3 p.f2.length e3, .slice D4 p.f3.length e4] (OkS g2 g5 g10 (Value.slice Ar rs.length cr).ownBlock) (fun k => OkS g2 g5 g10 (Value.slice Ar rs.length cr).ownBlock k ∧ some k ≠ (Value.slice Av ss.length cv).ownBlock) rfl rfl (Kd.FK_mono HFB6.out (fun _ h => h.1)) (fun _ h => h) ?hF (Kd.N_below HR.out.row HB6.out) (Below.refl _ _) ?hV ?aL ?_; (case hF => intro k hk; exact (HOE.out k (.inr (.inr (Nat.le_trans HB6.out.size hk)))).1); (case hV => exact Nat.le_trans HR.out.kept.1 HB6.out.size); (case aL => exact small104 HSL.out); intro v9 w9 ho9 hb9 hg9 hat9; obtain ⟨A9, c9, hv9⟩ := Kd.N_slice ho9; rw [List.length_append, List.length_singleton] at hv9; subst hv9; have HN9 := Aside0.mk ho9; have HG9 := Aside0.mk hg9; have hr9 := blk_grown2 (blk_below HR.out.blk HB6.out) hg9 (fun e => Nat.lt_irrefl _ (Nat.lt_of_lt_of_le HLV.out (HOW.out g10 e.symm).1)); have s2 : w9.cell? ⟨g10, 2, none⟩ = some (.slice Av ss.length cv) := (blk_cell hr9 2).trans rfl; have t2 : w9.frozen? ⟨g10, 2, none⟩ = false := blk_frozen hr9 2; clear ho9 hb9 hg9 hat9 hr9))
                    go_roundw
                    case rel => exact ⟨j + 1, HJL.out, (by first | rfl | (rw [hwj]; rfl) | simp), ss ++ [⟨[], p⟩], .slice A9 (ss.length + 1) c9, ⟨HR.out.next HLV.out HWG.out HB6.out HG9.out HN9.out ⟨fun h => by simp [hj0] at h, fun _ => rfl, HMK.out⟩⟩⟩
                    case measure => first | exact meas HJL.out | (rw [hwj]; exact meas HJL.out)
                  case true =>
                    go_wp2_with (first
                      | ((with_reducible refine gate_store (t := 79) (p := 13) rfl ?_); refine Kd.N_store k79 (w0 := wr) (W := W) wr.heap.size rfl rfl 79 (.tmp 13) (.tmp 122) rfl 79 (0 : Int) 0 [z79] (⟨[], p⟩ : S79) (.agg #[.slice none 0 0, .int .i64 p.f0, .slice B1 p.f1.length d1, .slice B2 p.f2.length d2, .slice B3 p.f3.length d3]) [.slice none 0 0, .int .i64 p.f0, .slice B1 p.f1.length d1, .slice B2 p.f2.length d2, .slice B3 p.f3.length d3] z79c (fun k => OkS g2 g5 g10 (Value.slice Ar rs.length cr).ownBlock k ∧ some k ≠ (Value.slice Av ss.length cv).ownBlock) (fun k => (OkS g2 g5 g10 (Value.slice Ar rs.length cr).ownBlock k ∧ some k ≠ (Value.slice Av ss.length cv).ownBlock) ∧ k ≠ g13) rfl ?sO rfl rfl rfl ?s1 HBX.out ?s2 ?s3 rfl ?s4 ?s5 HF0.out (fun _ h => h) HRW.out ?_; (case sO => rfl); (case s1 => intro q hq2; simp at hq2; rcases hq2 with rfl | rfl | rfl | rfl | rfl <;> rfl); (case s2 => omega); (case s3 => omega); (case s4 => exact box_cells HK13.out 5); (case s5 => exact Nat.le_refl 5); intro w6 ho6 hb6 hg6; have HN6 : Aside0 (Kd.N k79 79 w6 wr.heap.size (fun k => OkS g2 g5 g10 (Value.slice Ar rs.length cr).ownBlock k ∧ some k ≠ (Value.slice Av ss.length cv).ownBlock) (.slice (some ⟨g13, 0, none⟩) 1 1) [⟨[], p⟩]) := ⟨ho6⟩; have HB6 := Aside0.mk hb6; clear ho6 hb6 hg6; obtain ⟨cb6, hcb6, hfb6⟩ := box_open HN6.out; have HCB6 := Aside0.mk hcb6; have HFB6 := Aside0.mk hfb6; clear hcb6 hfb6; have hrb := blk_below HR.out.blk HB6.out; have r1 : w6.cell? ⟨g10, 1, none⟩ = some (.bool true) := (blk_cell hrb 1).trans rfl; have r2 : w6.cell? ⟨g10, 2, none⟩ = some (.slice Av ss.length cv) := (blk_cell hrb 2).trans rfl; clear hrb)
                      | ((go_at_call 30; (with_reducible refine (HPK.out _ _ HB6.out).mono ?_); rintro e w1 ⟨⟨P1, c1, l1, rfl, hc1, hs1, hf1⟩, hw1⟩; obtain rfl := hw1.symm; have HC1 := Aside0.mk hc1; have HS1 := Aside0.mk hs1; have HF1 := Aside0.mk hf1; clear hc1 hs1 hf1))
                      | ((with_reducible refine gate_store (t := 73) (p := 133) rfl ?_); refine Kd.N_store k79 (w0 := wr) (W := w6) wr.heap.size rfl rfl 73 (.tmp 133) (.tmp 132) rfl 79 (0 : Int) 0 [⟨[], p⟩] (⟨l1, p⟩ : S79) (.slice P1 l1.length c1) [.slice P1 l1.length c1] cb6 (fun k => OkS g2 g5 g10 (Value.slice Ar rs.length cr).ownBlock k ∧ some k ≠ (Value.slice Av ss.length cv).ownBlock) (fun k => (OkS g2 g5 g10 (Value.slice Ar rs.length cr).ownBlock k ∧ some k ≠ (Value.slice Av ss.length cv).ownBlock) ∧ k ≠ g13) rfl ?sO rfl rfl rfl ?s1 HN6.out ?s2 ?s3 ?sl ?s4 ?s5 (FK_step1 HFB6.out HC1.out (Kd.F_mono HF1.out (fun b hb => by rw [hb]; exact HO6.out))) (fun _ h => h) HB6.out ?_; (case sO => rfl); (case s1 => intro q hq2; simp at hq2; subst hq2; rfl); (case s2 => omega); (case s3 => omega); (case sl => exact k79.K_len (Kd.FK_now HFB6.out)); (case s4 => exact box_cells HCB6.out 5); (case s5 => show 0 + 1 ≤ 5; omega); intro w8 ho8 hb8 hg8; have HN8 : Aside0 (Kd.N k79 79 w8 wr.heap.size (fun k => OkS g2 g5 g10 (Value.slice Ar rs.length cr).ownBlock k ∧ some k ≠ (Value.slice Av ss.length cv).ownBlock) (.slice (some ⟨g13, 0, none⟩) 1 1) [⟨l1, p⟩]) := ⟨ho8⟩; have HB8 := Aside0.mk hb8; clear ho8 hb8 hg8; obtain ⟨cb8, hcb8, hfb8⟩ := box_open HN8.out; have HCB8 := Aside0.mk hcb8; have HFB8 := Aside0.mk hfb8; clear hcb8 hfb8; obtain ⟨D0, e0, D2, e2, D3, e3, D4, e4, hcs8, _⟩ := k79_open (Kd.FK_now HFB8.out); rw [hcs8] at HCB8 HFB8; have x0 : w8.cell? ⟨g13, 0, none⟩ = _ := (blk_cell HCB8.out 0).trans rfl; have x1 : w8.cell? ⟨g13, 1, none⟩ = _ := (blk_cell HCB8.out 1).trans rfl; have x2 : w8.cell? ⟨g13, 2, none⟩ = _ := (blk_cell HCB8.out 2).trans rfl; have x3 : w8.cell? ⟨g13, 3, none⟩ = _ := (blk_cell HCB8.out 3).trans rfl; have x4 : w8.cell? ⟨g13, 4, none⟩ = _ := (blk_cell HCB8.out 4).trans rfl; clear hcs8; have hrb := blk_below HR.out.blk HB8.out; have r1 : w8.cell? ⟨g10, 1, none⟩ = some (.bool true) := (blk_cell hrb 1).trans rfl; have r2 : w8.cell? ⟨g10, 2, none⟩ = some (.slice Av ss.length cv) := (blk_cell hrb 2).trans rfl; clear hrb)
                      | ((with_reducible refine gate_builtin (b := .append) (xs := #[.tmp 135, .tmp 137]) rfl ?_); at_builtin; refine Kd.N_append k79 (w0 := w8) (W := w8) V.heap.size rfl (.tmp 135) (.tmp 137) 50 79 (.agg #[.slice none 0 0, .int .i64 0, .slice none 0 0, .slice none 0 0, .slice none 0 0]) 104 rfl Tryz.underlying50 info79 rfl (by decide) (by omega) _ ss (⟨l1, p⟩ : S79) [.slice D0 ((⟨l1, p⟩ : S79) : S79).f0.length e0, .int .i64 p.f0, .slice D2 p.f1.length e2, .slice D3 p.f2.length e3, .slice D4 p.f3.length e4] (OkS g2 g5 g10 (Value.slice Ar rs.length cr).ownBlock) (fun k => OkS g2 g5 g10 (Value.slice Ar rs.length cr).ownBlock k ∧ some k ≠ (Value.slice Av ss.length cv).ownBlock) rfl rfl (Kd.FK_mono HFB8.out (fun _ h => h.1)) (fun _ h => h) ?hF (Kd.N_below HR.out.row HB8.out) (Below.refl _ _) ?hV ?aL ?_; (case hF => intro k hk; exact (HOE.out k (.inr (.inr (Nat.le_trans HB8.out.size hk)))).1); (case hV => exact Nat.le_trans HR.out.kept.1 HB8.out.size); (case aL => exact small104 HSL.out); intro v9 w9 ho9 hb9 hg9 hat9; obtain ⟨A9, c9, hv9⟩ := Kd.N_slice ho9; rw [List.length_append, List.length_singleton] at hv9; subst hv9; have HN9 := Aside0.mk ho9; have HG9 := Aside0.mk hg9; have hr9 := blk_grown2 (blk_below HR.out.blk HB8.out) hg9 (fun e => Nat.lt_irrefl _ (Nat.lt_of_lt_of_le HLV.out (HOW.out g10 e.symm).1)); have s2 : w9.cell? ⟨g10, 2, none⟩ = some (.slice Av ss.length cv) := (blk_cell hr9 2).trans rfl; have t2 : w9.frozen? ⟨g10, 2, none⟩ = false := blk_frozen hr9 2; clear ho9 hb9 hg9 hat9 hr9))
                    go_roundw
                    case rel => exact ⟨j + 1, HJL.out, (by first | rfl | (rw [hwj]; rfl) | simp), ss ++ [⟨l1, p⟩], .slice A9 (ss.length + 1) c9, ⟨HR.out.next HLV.out HWG.out HB8.out HG9.out HN9.out ⟨fun _ => HS1.out, fun h => by simp at h, HMK.out⟩⟩⟩
                    case measure => first | exact meas HJL.out | (rw [hwj]; exact meas HJL.out)
            · obtain rfl : j = n := by omega
              have HBI := Aside0.mk (HBO.out wr HR.out.kept HR.out.low)
              have he5 := blk_below HMB.out HBI.out
              have e1 : wr.cell? ⟨g5, 1, none⟩ = some (.slice Ar rs.length cr) := (blk_cell he5 1).trans rfl
              have r0 : wr.cell? ⟨g10, 0, none⟩ = some (.int .i64 (10 + (i : Int))) := (blk_cell HR.out.blk 0).trans rfl
              have r1 : wr.cell? ⟨g10, 1, none⟩ = some (.bool f) := (blk_cell HR.out.blk 1).trans rfl
              have r2 : wr.cell? ⟨g10, 2, none⟩ = some (.slice Av ss.length cv) := (blk_cell HR.out.blk 2).trans rfl
              have HGB5 := Aside0.mk he5
              have HRL := Aside0.mk (HR.out.rule HN.out HI3.out)
              have HFR := Aside0.mk (FK_rule (c := 10 + (i : Int)) (f := f) HR.out.row)
              have HZW : Aside0 (Z.heap.size ≤ wr.heap.size) := ⟨Nat.le_trans HZV.out HR.out.kept.1⟩
              have hw1 := HW1.out
              clear he5
              go_wp2_with ((with_reducible refine gate_builtin (b := .append) (xs := #[.tmp 141, .tmp 143]) rfl ?_); at_builtin; refine Kd.N_append k52 (w0 := wr) (W := wr) Z.heap.size rfl (.tmp 141) (.tmp 143) 24 52 (.agg #[.int .i64 0, .bool false, .slice none 0 0]) 40 rfl Tryz.underlying24 info52 rfl (by decide) (by omega) _ rs (⟨10 + (i : Int), f, ss⟩ : S52) [.int .i64 (10 + (i : Int)), .bool f, .slice Av ss.length cv] (Not2 g2 g5) (fun k => Not2 g2 g5 k ∧ some k ≠ (Value.slice Ar rs.length cr).ownBlock) rfl rfl HFR.out (fun _ h => h) ?hF (Kd.N_below HMR.out HBI.out) (Below.refl _ _) HZW.out ?aL ?_; (case hF => intro k hk; exact not2_of (Nat.lt_of_lt_of_le (Nat.lt_trans HZ6.out.2.2.2.2.1 HZ6.out.1) HZW.out) (Nat.lt_of_lt_of_le HZ6.out.2.2.2.2.2.2 HZW.out) hk); (case aL => exact small40 HFW.out); intro v9 w9 ho9 hb9 hg9 hat9; obtain ⟨A9, c9, hv9⟩ := Kd.N_slice ho9; rw [List.length_append, List.length_singleton] at hv9; subst hv9; have HN9 := Aside0.mk ho9; have HG9 := Aside0.mk hg9; have hr9 := blk_grown2 HGB5.out hg9 (fun e => Nat.lt_irrefl _ (Nat.lt_of_lt_of_le HZ6.out.2.2.2.2.2.2 (HBZ1.out g5 e.symm))); have s2 : w9.cell? ⟨g5, 1, none⟩ = some (.slice Ar rs.length cr) := (blk_cell hr9 1).trans rfl; have t2 : w9.frozen? ⟨g5, 1, none⟩ = false := blk_frozen hr9 1; clear ho9 hb9 hg9 hat9 hr9)
              go_roundw
              case rel => first | exact ⟨i + 1, rs ++ [⟨10 + (i : Int), f, ss⟩], .slice A9 (rs.length + 1) c9, HI3.out, HIL.out, (by first | rfl | (rw [hw1]; rfl) | simp), ⟨HNX.out _ _ HBI.out HG9.out _ _ HN9.out HRL.out⟩⟩ | exact ⟨i + 1, HI3.out, HIL.out, (by first | rfl | (rw [hw1]; rfl) | simp), rs ++ [⟨10 + (i : Int), f, ss⟩], .slice A9 (rs.length + 1) c9, ⟨HNX.out _ _ HBI.out HG9.out _ _ HN9.out HRL.out⟩⟩
              case measure => first | exact meas HIL.out | (rw [hw1]; exact meas HIL.out)
      · have HK2W : Aside0 (wr.heap[g2]? = some (.cells #[.slice none 0 0, .slice none 0 0] 26 (0, 0))) := ⟨(HM.out.kept.2 g2 (Nat.lt_trans HZ6.out.2.2.2.2.1 HZ6.out.1) (Nat.ne_of_lt HL25.out)).trans HK2Z.out⟩
        have e0 : wr.cell? ⟨g5, 0, none⟩ = some (.slice (some ⟨gT, 0, none⟩) 4 4) := (blk_cell HM.out.blk 0).trans rfl
        have e1 : wr.cell? ⟨g5, 1, none⟩ = some (.slice Ar rs.length cr) := (blk_cell HM.out.blk 1).trans rfl
        have y0 := (blk_cell HK2W.out 0).trans rfl
        have y1 := (blk_cell HK2W.out 1).trans rfl
        have z0 := blk_frozen HK2W.out 0
        have z1 := blk_frozen HK2W.out 1
        obtain ⟨hd1, hd2, hd3, hd4, hd5⟩ := HM.out.done (N := l.length) HTZ.out (by first | exact Nat.le_refl _ | exact HCT.out) HK2W.out (by rw [HE2.out]; exact Nat.le_refl _) (.inl ⟨h3, rfl, rfl, rfl⟩) hi3 hil
        have HD1 := Aside0.mk hd1
        have HD2 := Aside0.mk hd2
        have HD3 := Aside0.mk hd3
        have HD4 := Aside0.mk hd4
        clear hd1 hd2 hd3 hd4
        have hc1 : ¬ i < l.length ∨ (i < l.length ∧ ¬ i < 3) := by omega
        clear hc hi3 hil
        rcases hc1 with h1 | ⟨h1, h2⟩
        all_goals (
          go_wp2 <;> (
            refine bodyPost_ret (results_cell_row rfl _ _ g2 26 _ (0, 0) _ rfl HD1.out Tryz.underlying26 rfl (by kernel_rfl)) rfl ?_
            exact ⟨⟨T4, rs⟩, some ⟨gT, 0, none⟩, Ar, 4, cr, rfl, HD2.out, HD3.out, HD4.out⟩))
end Go.Proofs.YtpagbjdmiepgmaaGreatDoor.PVpa
