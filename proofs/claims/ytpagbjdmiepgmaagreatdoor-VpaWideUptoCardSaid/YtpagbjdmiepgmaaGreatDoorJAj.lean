/- Joined from texts of this seat, in their order. -/
import Derived.Test.YtpagbjdmiepgmaaGreatDoorJAi
set_option linter.unusedVariables false
set_option linter.unusedSimpArgs false
set_option linter.unusedSectionVars false
namespace Go.Proofs.YtpagbjdmiepgmaaGreatDoor.PVpa
open Go.RowKit Go.Proofs.YtpagbjdmiepgmaaGreatDoorW.PrintWords Go.Proofs.YtpagbjdmiepgmaaGreatDoorW.PrintLast Go.Proofs.YtpagbjdmiepgmaaGreatDoorW.PrintMore
theorem startK_getD (M : Mach) (k : Nat) : ∀ n, k < n → (startK M n).getD k 0 = startAt M k
  | 0, h => by omega
  | n + 1, h => by
    show (startK M n ++ [startAt M n]).getD k 0 = _
    by_cases hk : k < n
    · rw [List.getD_eq_getElem?_getD, List.getElem?_append_left (by rw [startK_length]; exact hk), ← List.getD_eq_getElem?_getD]
      exact startK_getD M k n hk
    · obtain rfl : k = n := by omega
      rw [List.getD_eq_getElem?_getD, List.getElem?_append_right (by rw [startK_length]; exact Nat.le_refl _), startK_length, Nat.sub_self]
      rfl
theorem gives_cells {w w' : World} {l : List Int} {e : Ending} (h : Gives w l e w') : ∃ A c, e = .returned (.slice A l.length c) ∧ (∀ k, k < l.length → ∃ ad, A = some ad ∧ w'.cell? (ad.add k) = some (.int .i64 (l.getD k 0))) ∧ Below w.heap.size w w' := by
  obtain ⟨v, rfl, hr, hb⟩ := h
  obtain ⟨A, c, rfl, _, hc⟩ := Kd.R_reads hr
  refine ⟨A, c, rfl, fun k hk => ?_, hb⟩
  obtain ⟨ad, rfl, h0⟩ := Kd.at_int hc (k : Int) (by omega) (by omega)
  rw [Int.toNat_natCast] at h0
  exact ⟨ad, rfl, h0⟩
def bN (b : Bool) : Nat := if b = true then 1 else 0
structure Begins (n m : Nat) (S : Nat → Int) : Prop where
  pos : ∀ k, k < n → 1 ≤ S k
  lt : ∀ k, k < n → S k < m
  rise : ∀ k, k + 1 < n → S k < S (k + 1)
  few : n ≤ 1000
theorem begins_of {N : Nat} {G : S26} (h : MakeOk N G) : Begins G.f1.length (buildK 9 G G.f1.length).mach.pl.length (fun k => ((buildN 9 G k : Nat) : Int)) := by
  have h1 : ∀ k, k < G.f1.length → 1 ≤ (rlAt G k).f2.length := fun k hk => by
    have := h.gram.rules k hk
    rw [← nat_getD] at this
    exact this.one
  refine ⟨fun k _ => ?_, fun k hk => ?_, fun k hk => ?_, Nat.le_trans h.few (by decide)⟩
  · have := buildN_pos 9 G k
    show (1 : Int) ≤ ((buildN 9 G k : Nat) : Int)
    omega
  · have := (start_kind (D := 9) (n := G.f1.length) hk (h1 k hk)).2
    show ((buildN 9 G k : Nat) : Int) < ((buildK 9 G G.f1.length).st.pl.length : Int)
    omega
  · have := buildN_rises 9 G k (h1 k (by omega))
    show ((buildN 9 G k : Nat) : Int) < ((buildN 9 G (k + 1) : Nat) : Int)
    omega
theorem wrap_pred2 (j : Nat) (h : j < 9223372036854775807) : IntKind.i64.wrap (((j + 1 : Nat) : Int) - 1) = (j : Int) := by
  rw [IntKind.wrap_i64]
  omega
theorem meas_k (n k : Nat) (h : k < n) (hf : n ≤ 1000) : n - (intOf (.int .i64 (wrap64 ((k : Int) + 1)))).toNat < n - (intOf (.int .i64 (k : Int))).toNat := by
  have hw : wrap64 ((k : Int) + 1) = k + 1 := (by unfold wrap64; omega)
  rw [hw]; simp only [intOf]; omega
theorem wrap_k (k : Nat) (hf : k ≤ 1000) : wrap64 ((k : Int) + 1) = ((k + 1 : Nat) : Int) := (by unfold wrap64; omega)
def depR3 : Nat → List Nat
  | 1 => [0]
  | 2 => [1]
  | 3 => [2]
  | 4 => [2, 3]
  | 5 => [2, 4]
  | 6 => [5]
  | 7 => [6]
  | 8 => [6, 7]
  | 9 => [6, 8]
  | 10 => [6, 9]
  | 11 => [10]
  | 12 => [11]
  | 13 => [11, 12]
  | 14 => [11, 13]
  | 15 => [11]
  | 16 => [11, 15]
  | 17 => [11, 16]
  | 18 => [11, 14, 17]
  | 19 => [11, 18]
  | _ => []
def phiR3E (gv g1 n cr : Nat) (Ar : Option Addr) : Nat → List Value → Prop
  | 0, [v] => v = .int .i64 0
  | 1, [v, _] => v = .bool false
  | 2, [v, _] => v = .bool false
  | 3, [v, _] => v = .pointer (some ⟨gv, 0, none⟩)
  | 4, [v, _, _] => v = .bool false
  | 5, [v, _, _] => v = .bool false
  | 6, [v, _] => v = .bool false
  | 7, [v, _] => v = .pointer (some ⟨gv, 0, none⟩)
  | 8, [v, _, _] => v = .int .i64 (-1)
  | 9, [v, _, _] => v = .bool false
  | 10, [v, _, _] => v = .bool false
  | 11, [v, _] => v = .bool false
  | 12, [v, _] => v = .pointer (some ⟨gv, 0, none⟩)
  | 14, [v, _, _] => v = .int .i64 n
  | 15, [v, _] => v = .pointer (some ⟨g1, 1, none⟩)
  | 16, [v, _, _] => v = .slice Ar n cr
  | 17, [v, _, _] => v = .int .i64 n
  | 18, [v, _, _, _] => v = .bool false
  | 19, [v, _, _] => v = .bool false
  | _, _ => True
def phiR3X (gv g1 n cr : Nat) (Ar : Option Addr) : Nat → List Value → World → Prop
  | 13, [v, _, _], _ => ∃ A c, v = .slice A n c
  | _, _, _ => True
def phiR3 (gv g1 n cr : Nat) (Ar : Option Addr) (i : Nat) (vs : List Value) (W : World) : Prop := phiR3E gv g1 n cr Ar i vs ∧ phiR3X gv g1 n cr Ar i vs W
theorem phiR3_stab (gv g1 n cr : Nat) (Ar : Option Addr) : ∀ i vs w w', phiR3 gv g1 n cr Ar i vs w → BelowR w w' → phiR3 gv g1 n cr Ar i vs w' := by
  intro i vs w w' h0 hb
  refine ⟨h0.1, ?_⟩
  have h := h0.2
  clear h0
  unfold phiR3X at h ⊢
  split at h
  case h_1 =>
    exact h
  all_goals exact h
def depR10a : Nat → List Nat
  | 1 => [0]
  | 2 => [1]
  | 3 => [2]
  | 4 => [2]
  | 5 => [2, 4]
  | 6 => [2, 3, 5]
  | 7 => [2, 6]
  | 8 => [7]
  | 9 => [8]
  | 10 => [8, 9]
  | 11 => [8, 10]
  | 12 => [11]
  | 13 => [11]
  | 14 => [11, 13]
  | 15 => [11]
  | 16 => [11, 15]
  | 17 => [11, 14, 16]
  | 18 => [11, 17]
  | 19 => [11, 12, 18]
  | 20 => [8, 11, 19]
  | 21 => [8, 20]
  | 22 => [21]
  | 23 => [22]
  | 24 => [22]
  | 25 => [22, 23, 24]
  | 26 => [22, 25]
  | 27 => [22, 26]
  | 28 => [22]
  | 29 => [22, 28]
  | 30 => [22]
  | 31 => [22, 29, 30]
  | 32 => [22, 31]
  | 33 => [22, 32]
  | 34 => [22, 27, 33]
  | 35 => [22, 34]
  | _ => []
def phiR10aE (gv g1 n m k  cr : Nat) (p : Int) (ad : Addr) (b : Bool) : Nat → List Value → Prop
  | 0, [v] => v = .int .i64 p
  | 1, [v, _] => v = .bool false
  | 2, [v, _] => v = .bool false
  | 3, [v, _] => v = .int .i64 p
  | 4, [v, _] => v = .pointer (some ⟨gv, 0, none⟩)
  | 5, [v, _, _] => v = .int .i64 m
  | 6, [v, _, _, _] => v = .bool false
  | 7, [v, _, _] => v = .bool false
  | 8, [v, _] => v = .bool false
  | 9, [v, _] => v = .int .i64 k
  | 10, [v, _, _] => v = .bool false
  | 11, [v, _, _] => v = .bool false
  | 12, [v, _] => v = undef
  | 13, [v, _] => v = undef
  | 14, [v, _, _] => v = undef
  | 15, [v, _] => v = undef
  | 16, [v, _, _] => v = undef
  | 17, [v, _, _, _] => v = undef
  | 18, [v, _, _] => v = undef
  | 19, [v, _, _, _] => v = undef
  | 20, [v, _, _, _] => v = .bool false
  | 21, [v, _, _] => v = .bool false
  | 22, [v, _] => v = .bool false
  | 23, [v, _] => v = .pointer (some ⟨gv, 0, none⟩)
  | 24, [v, _] => v = .int .i64 p
  | 26, [v, _, _] => v = .int .i64 (bN b)
  | 27, [v, _, _] => v = .bool b
  | 28, [v, _] => v = .pointer (some ⟨g1, 1, none⟩)
  | 29, [v, _, _] => v = .slice (some ad) n cr
  | 30, [v, _] => v = .int .i64 k
  | 31, [v, _, _, _] => v = .pointer (some (ad.add (k * 3)))
  | 32, [v, _, _] => v = .pointer (some ⟨(ad.add (k * 3)).block, (ad.add (k * 3)).off + 1, none⟩)
  | 33, [v, _, _] => v = .bool b
  | 34, [v, _, _, _] => v = .bool false
  | 35, [v, _, _] => v = .bool false
  | _, _ => True
def phiR10aX (gv g1 n m k  cr : Nat) (p : Int) (ad : Addr) (b : Bool) : Nat → List Value → World → Prop
  | 25, [v, _, _, _], _ => ∃ A c, v = .slice A (bN b) c
  | _, _, _ => True
def phiR10a (gv g1 n m k  cr : Nat) (p : Int) (ad : Addr) (b : Bool) (i : Nat) (vs : List Value) (W : World) : Prop := phiR10aE gv g1 n m k cr p ad b i vs ∧ phiR10aX gv g1 n m k cr p ad b i vs W
theorem phiR10a_stab (gv g1 n m k  cr : Nat) (p : Int) (ad : Addr) (b : Bool) : ∀ i vs w w', phiR10a gv g1 n m k cr p ad b i vs w → BelowR w w' → phiR10a gv g1 n m k cr p ad b i vs w' := by
  intro i vs w w' h0 hb
  refine ⟨h0.1, ?_⟩
  have h := h0.2
  clear h0
  unfold phiR10aX at h ⊢
  split at h
  case h_1 =>
    exact h
  all_goals exact h
def depR10b : Nat → List Nat
  | 1 => [0]
  | 2 => [1]
  | 3 => [2]
  | 4 => [2]
  | 5 => [2, 4]
  | 6 => [2, 3, 5]
  | 7 => [2, 6]
  | 8 => [7]
  | 9 => [8]
  | 10 => [8, 9]
  | 11 => [8, 10]
  | 12 => [11]
  | 13 => [11]
  | 14 => [11, 13]
  | 15 => [11]
  | 16 => [11, 15]
  | 17 => [11, 14, 16]
  | 18 => [11, 17]
  | 19 => [11, 12, 18]
  | 20 => [8, 11, 19]
  | 21 => [8, 20]
  | 22 => [21]
  | 23 => [22]
  | 24 => [22]
  | 25 => [22, 23, 24]
  | 26 => [22, 25]
  | 27 => [22, 26]
  | 28 => [22]
  | 29 => [22, 28]
  | 30 => [22]
  | 31 => [22, 29, 30]
  | 32 => [22, 31]
  | 33 => [22, 32]
  | 34 => [22, 27, 33]
  | 35 => [22, 34]
  | _ => []
def phiR10bE (gv g1 n m k j cr : Nat) (p q : Int) (ad : Addr) (b : Bool) : Nat → List Value → Prop
  | 0, [v] => v = .int .i64 p
  | 1, [v, _] => v = .bool false
  | 2, [v, _] => v = .bool false
  | 3, [v, _] => v = .int .i64 p
  | 4, [v, _] => v = .pointer (some ⟨gv, 0, none⟩)
  | 5, [v, _, _] => v = .int .i64 m
  | 6, [v, _, _, _] => v = .bool false
  | 7, [v, _, _] => v = .bool false
  | 8, [v, _] => v = .bool false
  | 9, [v, _] => v = .int .i64 k
  | 10, [v, _, _] => v = .bool true
  | 11, [v, _, _] => v = .bool true
  | 12, [v, _] => v = .int .i64 p
  | 13, [v, _] => v = .pointer (some ⟨gv, 0, none⟩)
  | 15, [v, _] => v = .int .i64 k
  | 16, [v, _, _] => v = .int .i64 j
  | 18, [v, _, _] => v = .int .i64 q
  | 19, [v, _, _, _] => v = .bool false
  | 20, [v, _, _, _] => v = .bool false
  | 21, [v, _, _] => v = .bool false
  | 22, [v, _] => v = .bool false
  | 23, [v, _] => v = .pointer (some ⟨gv, 0, none⟩)
  | 24, [v, _] => v = .int .i64 p
  | 26, [v, _, _] => v = .int .i64 (bN b)
  | 27, [v, _, _] => v = .bool b
  | 28, [v, _] => v = .pointer (some ⟨g1, 1, none⟩)
  | 29, [v, _, _] => v = .slice (some ad) n cr
  | 30, [v, _] => v = .int .i64 k
  | 31, [v, _, _, _] => v = .pointer (some (ad.add (k * 3)))
  | 32, [v, _, _] => v = .pointer (some ⟨(ad.add (k * 3)).block, (ad.add (k * 3)).off + 1, none⟩)
  | 33, [v, _, _] => v = .bool b
  | 34, [v, _, _, _] => v = .bool false
  | 35, [v, _, _] => v = .bool false
  | _, _ => True
def phiR10bX (gv g1 n m k j cr : Nat) (p q : Int) (ad : Addr) (b : Bool) : Nat → List Value → World → Prop
  | 14, [v, _, _], W => ∃ (a : Addr) (c : Nat), v = .slice (some a) n c ∧ W.cell? (a.add j) = some (.int .i64 q)
  | 17, [v, _, _, _], W => ∃ a : Addr, v = .pointer (some (a.add j)) ∧ W.cell? (a.add j) = some (.int .i64 q)
  | 25, [v, _, _, _], _ => ∃ A c, v = .slice A (bN b) c
  | _, _, _ => True
def phiR10b (gv g1 n m k j cr : Nat) (p q : Int) (ad : Addr) (b : Bool) (i : Nat) (vs : List Value) (W : World) : Prop := phiR10bE gv g1 n m k j cr p q ad b i vs ∧ phiR10bX gv g1 n m k j cr p q ad b i vs W
theorem phiR10b_stab (gv g1 n m k j cr : Nat) (p q : Int) (ad : Addr) (b : Bool) : ∀ i vs w w', phiR10b gv g1 n m k j cr p q ad b i vs w → BelowR w w' → phiR10b gv g1 n m k j cr p q ad b i vs w' := by
  intro i vs w w' h0 hb
  refine ⟨h0.1, ?_⟩
  have h := h0.2
  clear h0
  unfold phiR10bX at h ⊢
  split at h
  case h_1 =>
    obtain ⟨a, c, h1, h2⟩ := h
    exact ⟨a, c, h1, pw_cell_below hb h2⟩
  case h_2 =>
    obtain ⟨a, h1, h2⟩ := h
    exact ⟨a, h1, pw_cell_below hb h2⟩
  case h_3 =>
    exact h
  all_goals exact h
set_option maxRecDepth 100000 in
set_option maxHeartbeats 16000000 in
theorem wide_law (w : World) (ho : Own w) (A : Option Addr) (cl : Nat) (l : List (List Int)) (hl : (Kd.slice 3 (Kd.int .i64)).C w A l.length l) (hs : ∀ x ∈ l, x.length ≤ 1048576) :
    Calls Tryz.prog 5 #[.slice A l.length cl] w fun e w' => e = .returned (.bool true) ∧ Below w.heap.size w w' := by
  have HO := Aside0.mk ho
  have HMK := Aside0.mk (make_call w A cl l hl hs)
  clear ho hl hs
  go_enter Tryz.func5, Tryz.ntmps5
  go_upto_region 2 with (go_at_call 7; (with_reducible refine HMK.out.mono ?_); rintro e w1 ⟨G, At, Ar, ct, cr, rfl, hm, hg, hb1⟩; have HM := Aside0.mk hm; have HG := Aside0.mk hg; have HB1 := Aside0.mk hb1; clear hm hg hb1)
  have hbx := below_alloc (Below.refl _ w1) (.cells #[.slice At G.f0.length ct, .slice Ar G.f1.length cr] 26)
  have hkx := blk_new w1 (.cells #[.slice At G.f0.length ct, .slice Ar G.f1.length cr] 26)
  generalize w1.alloc (.cells #[.slice At G.f0.length ct, .slice Ar G.f1.length cr] 26) = X at *
  obtain ⟨g1, hg1⟩ : ∃ g1, g1 = w1.heap.size := ⟨_, rfl⟩
  rw [← hg1] at hkx ⊢
  have HBX := Aside0.mk (below_step HB1.out hbx)
  have HGX := Aside0.mk (HG.out.below hbx)
  have HKX := Aside0.mk hkx
  have q0 := (blk_cell hkx 0).trans rfl
  have q1 := (blk_cell hkx 1).trans rfl
  have HBG := Aside0.mk (build_good X At Ar ct cr G 9 HGX.out HM.out.gram HM.out.rulesOk (HO.out.below HBX.out))
  clear hbx hkx hg1
  go_upto_region 3 with (go_at_call 8; (with_reducible refine HBG.out.mono ?_); rintro e w2 ⟨gv, φ, rfl, hv2, ho2, hb2⟩; have HV2 := Aside0.mk hv2; have HO2 := Aside0.mk ho2; have HB2 := Aside0.mk hb2; clear hv2 ho2 hb2)
  have HWI := Aside0.mk (build_wide 9 G G.f1.length)
  have HFR : Aside0 ((startL (buildK 9 G G.f1.length).mach).length = G.f1.length) := ⟨by unfold startL; rw [startK_length]; exact (built 9 G G.f1.length).n2⟩
  have HFL : Aside0 ((buildK 9 G G.f1.length).mach.frees.length = G.f1.length) := ⟨(built 9 G G.f1.length).n2⟩
  have HBE := Aside0.mk (begins_of HM.out)
  have HG2 := Aside0.mk (HGX.out.below HB2.out)
  have HO9 := Aside0.mk (HO.out.below (below_step HBX.out HB2.out))
  have HBW := Aside0.mk (below_step HBX.out HB2.out)
  have KX := Aside0.mk (blk_below HKX.out HB2.out)
  have H1 : Aside0 (∀ k, k < G.f1.length → 1 ≤ (rlAt G k).f2.length) := ⟨fun k hk => by
    have := HM.out.gram.rules k hk
    rw [← nat_getD] at this
    exact this.one⟩
  have HC22 : Aside0 (∀ W, Below w2.heap.size w2 W → Calls Tryz.prog 22 #[.pointer (some ⟨gv, 0, none⟩), .int .i64 0] W fun e w' => e = .returned (.int .i64 (-1)) ∧ Below W.heap.size W w') :=
    ⟨fun W hb => (rule_call W gv G _ φ (HV2.out.below hb) HO2.out 0).mono (fun e w' h => by rw [wide_rule HWI.out] at h; exact ⟨h.1, h.2.below⟩)⟩
  have HC12 : Aside0 (∀ W, Below w2.heap.size w2 W → Calls Tryz.prog 12 #[.pointer (some ⟨gv, 0, none⟩)] W fun e w' => ∃ A c, e = .returned (.slice A G.f1.length c) ∧ (∀ k, k < G.f1.length → ∃ ad, A = some ad ∧ w'.cell? (ad.add k) = some (.int .i64 ((buildN 9 G k : Nat) : Int))) ∧ Below W.heap.size W w') :=
    ⟨fun W hb => (start_call W gv G _ φ (HV2.out.below hb) HO2.out).mono (fun e w' h => by
      have h := gives_cells h
      rw [HFR.out] at h
      obtain ⟨A, c, h1, h2, h3⟩ := h
      refine ⟨A, c, h1, fun k hk => ?_, h3⟩
      have h4 := h2 k hk
      unfold startL at h4
      rw [startK_getD _ k _ (by rw [HFL.out]; exact hk), start_place hk (H1.out k hk)] at h4
      exact h4)⟩
  have HC13 : Aside0 (∀ W, Below w2.heap.size w2 W → Calls Tryz.prog 13 #[.pointer (some ⟨gv, 0, none⟩), .int .i64 0, .int .i64 0] W fun e w' => ∃ ad c, e = .returned (.slice (some ad) 1 c) ∧ w'.cell? ad = some (.int .i64 0) ∧ Below W.heap.size W w') :=
    ⟨fun W hb => (int_call W gv G _ φ (HV2.out.below hb) HO2.out 0 0).mono (fun e w' h => by rw [(wide_int HWI.out HM.out.toks4).1] at h; exact gives_at0 h)⟩
  have HC13b : Aside0 (∀ W, Below w2.heap.size w2 W → Calls Tryz.prog 13 #[.pointer (some ⟨gv, 0, none⟩), .int .i64 0, .int .i64 (-1)] W fun e w' => ∃ A c, e = .returned (.slice A 1 c) ∧ Below W.heap.size W w') :=
    ⟨fun W hb => (int_call W gv G _ φ (HV2.out.below hb) HO2.out 0 (-1)).mono (fun e w' h => by rw [(wide_int HWI.out HM.out.toks4).2.1] at h; exact gives_len h)⟩
  have HC13c : Aside0 (∀ W, Below w2.heap.size w2 W → Calls Tryz.prog 13 #[.pointer (some ⟨gv, 0, none⟩), .int .i64 0, .int .i64 2] W fun e w' => ∃ A c, e = .returned (.slice A 0 c) ∧ Below W.heap.size W w') :=
    ⟨fun W hb => (int_call W gv G _ φ (HV2.out.below hb) HO2.out 0 2).mono (fun e w' h => by rw [(wide_int HWI.out HM.out.toks4).2.2] at h; exact gives_len h)⟩
  have HC16 : Aside0 (∀ W, Below w2.heap.size w2 W → Calls Tryz.prog 16 #[.pointer (some ⟨gv, 0, none⟩), .int .i64 0, .int .i64 2] W fun e w' => ∃ g k, e = .returned (.slice (some ⟨g, 0, none⟩) 1 k) ∧ w'.cell? ⟨g, 0, none⟩ = some (.int .i64 0) ∧ w'.cell? ⟨g, 1, none⟩ = some (.int .i64 0) ∧ Below W.heap.size W w') :=
    ⟨fun W hb => (call_call W gv G _ φ (HV2.out.below hb) HO2.out (build_fits 9 G HM.out.callsOk) (build_fits2 9 G) 0 2 (wide_nodup HWI.out)).mono (fun e w' h => by rw [wide_call HWI.out HM.out.toks4] at h; exact givesP_one h)⟩
  have HC18 : Aside0 (∀ W, Below w2.heap.size w2 W → Calls Tryz.prog 18 #[.pointer (some ⟨gv, 0, none⟩), .int .i64 0, .int .i64 0, .int .i64 3] W fun e w' => ∃ ad c, e = .returned (.slice (some ad) 1 c) ∧ w'.cell? ad = some (.int .i64 0) ∧ Below W.heap.size W w') :=
    ⟨fun W hb => (ret_call W gv G _ φ (HV2.out.below hb) HO2.out 0 0 3).mono (fun e w' h => by rw [wide_ret HWI.out HM.out.toks4] at h; exact gives_at0 h)⟩
  have HC20z : Aside0 (∀ W, Below w2.heap.size w2 W → Calls Tryz.prog 20 #[.pointer (some ⟨gv, 0, none⟩), .int .i64 0, .int .i64 3] W fun e w' => ∃ A c, e = .returned (.slice A 0 c) ∧ Below W.heap.size W w') :=
    ⟨fun W hb => (bottom_call W gv G _ φ (HV2.out.below hb) 0 3).mono (fun e w' h => by rw [wide_bottom HWI.out] at h; exact gives_len h)⟩
  have HC20n : Aside0 (∀ k, k < G.f1.length → ∀ W, Below w2.heap.size w2 W → Calls Tryz.prog 20 #[.pointer (some ⟨gv, 0, none⟩), .int .i64 ((buildN 9 G k : Nat) : Int), .int .i64 3] W fun e w' => ∃ A c, e = .returned (.slice A (bN (rlAt G k).f1) c) ∧ Below W.heap.size W w') :=
    ⟨fun k hk W hb => (bottom_call W gv G _ φ (HV2.out.below hb) _ 3).mono (fun e w' h => by have h := gives_len h; rw [start_bottom HM.out.toks4 hk (H1.out k hk)] at h; exact h)⟩
  have HC10 : Aside0 (∀ W, Below w2.heap.size w2 W → Calls Tryz.prog 10 #[.pointer (some ⟨gv, 0, none⟩)] W fun e w' => e = .returned (.int .i64 (buildK 9 G G.f1.length).mach.pl.length) ∧ w' = W) :=
    ⟨fun W hb => len_call W gv G _ φ (HV2.out.below hb)⟩
  have HC24 : Aside0 (∀ W, Below w2.heap.size w2 W → Calls Tryz.prog 24 #[] W fun e w' => e = .returned (.bool true) ∧ Below W.heap.size W w') := ⟨fun W hb => told_true W (HO9.out.below hb)⟩
  have HRF : Aside0 (∀ k, k < G.f1.length → ∃ ad, Ar = some ad ∧ w2.cell? ⟨(ad.add (k * 3)).block, (ad.add (k * 3)).off + 1, none⟩ = some (.bool (rlAt G k).f1)) := ⟨fun k hk => by
    obtain ⟨ad, A2, c2, e, _, h1, _⟩ := at_T52 HG2.out.rules (k : Int) (by omega) (by omega)
    rw [Int.toNat_natCast] at h1
    exact ⟨ad, e, h1⟩⟩
  clear q0 q1
  obtain ⟨S, hS⟩ : ∃ S : Nat → Int, S = fun (k : Nat) => ((buildN 9 G k : Nat) : Int) := ⟨_, rfl⟩
  obtain ⟨fr, hfr⟩ : ∃ fr : Nat → Bool, fr = fun (k : Nat) => (rlAt G k).f1 := ⟨_, rfl⟩
  have HC12 : Aside0 (∀ W, Below w2.heap.size w2 W → Calls Tryz.prog 12 #[.pointer (some ⟨gv, 0, none⟩)] W fun e w' => ∃ A c, e = .returned (.slice A G.f1.length c) ∧ (∀ k, k < G.f1.length → ∃ ad, A = some ad ∧ w'.cell? (ad.add k) = some (.int .i64 (S k))) ∧ Below W.heap.size W w') := by rw [hS]; exact HC12
  have HC20n : Aside0 (∀ k, k < G.f1.length → ∀ W, Below w2.heap.size w2 W → Calls Tryz.prog 20 #[.pointer (some ⟨gv, 0, none⟩), .int .i64 (S k), .int .i64 3] W fun e w' => ∃ A c, e = .returned (.slice A (bN (fr k)) c) ∧ Below W.heap.size W w') := by rw [hS, hfr]; exact HC20n
  have HRF : Aside0 (∀ k, k < G.f1.length → ∃ ad, Ar = some ad ∧ w2.cell? ⟨(ad.add (k * 3)).block, (ad.add (k * 3)).off + 1, none⟩ = some (.bool (fr k))) := by rw [hfr]; exact HRF
  rw [← hS] at HBE
  obtain ⟨n, hn⟩ : ∃ n, n = G.f1.length := ⟨_, rfl⟩
  rw [← hn] at HC12 HC20n HRF KX HC10 HBE
  obtain ⟨m, hm⟩ : ∃ m, m = (buildK 9 G n).mach.pl.length := ⟨_, rfl⟩
  rw [← hm] at HC10 HBE
  clear hS hfr hm hn HBG HMK HKX HG HGX HM HO HB1 HB2 HBX HWI HFR HFL HG2 H1 HV2 HO2 HO9
  refine wp_region_makesg 20 _ depR3 (phiR3 gv g1 n cr Ar) BelowR (by kernel_rfl) (by kernel_rfl) (by kernel_rfl) rfl belowR_refl belowR_trans (phiR3_stab _ _ _ _ _) ?step ?fin
  case step =>
    repeat (rename_i z; clear z)
    refine ⟨?_, ?_, ?_, ?_, ?_, ?_, ?_, ?_, ?_, ?_, ?_, ?_, ?_, ?_, ?_, ?_, ?_, ?_, ?_, ?_, trivial⟩ <;> intro vals W hR0 hd
    · have hR := below_step (below_drew (Below.refl _ w2)) hR0
      refine doesg_open rfl (does_value (W' := W) (v := .int .i64 0) ?_ ⟨Below.refl _ _, rfl, trivial⟩)
      clear hd
      simp only [acan, depR3, dstOf]
      go_simp
    · have hR := below_step (below_drew (Below.refl _ w2)) hR0
      have h0 : vals 0 = .int .i64 0 := (hd 0 (by simp [depR3])).1
      refine doesg_open rfl (does_value (W' := W) (v := .bool false) ?_ ⟨Below.refl _ _, rfl, trivial⟩)
      clear hd
      simp only [acan, depR3, dstOf, h0]
      go_simp
    · have hR := below_step (below_drew (Below.refl _ w2)) hR0
      have h1 : vals 1 = .bool false := (hd 1 (by simp [depR3])).1
      refine doesg_open rfl (does_value (W' := W) (v := .bool false) ?_ ⟨Below.refl _ _, rfl, trivial⟩)
      clear hd
      simp only [acan, depR3, dstOf, h1]
      go_simp
    · have hR := below_step (below_drew (Below.refl _ w2)) hR0
      have h2 : vals 2 = .bool false := (hd 2 (by simp [depR3])).1
      refine doesg_yes (by simp only [acan, depR3, dstOf, h2]; rfl) (does_value (W' := W) (v := .pointer (some ⟨gv, 0, none⟩)) ?_ ⟨Below.refl _ _, rfl, trivial⟩)
      clear hd
      simp only [acan, depR3, dstOf, h2]
      go_simp
    · have hR := below_step (below_drew (Below.refl _ w2)) hR0
      have h2 : vals 2 = .bool false := (hd 2 (by simp [depR3])).1
      have h3 : vals 3 = .pointer (some ⟨gv, 0, none⟩) := (hd 3 (by simp [depR3])).1
      refine doesg_yes (by simp only [acan, depR3, dstOf, h2, h3]; rfl) (does_value (W' := W) (v := .bool false) ?_ ⟨Below.refl _ _, rfl, trivial⟩)
      clear hd
      simp only [acan, depR3, dstOf, h2, h3]
      go_simp
    · have hR := below_step (below_drew (Below.refl _ w2)) hR0
      have h2 : vals 2 = .bool false := (hd 2 (by simp [depR3])).1
      have h4 : vals 4 = .bool false := (hd 4 (by simp [depR3])).1
      refine doesg_open rfl (does_value (W' := W) (v := .bool false) ?_ ⟨Below.refl _ _, rfl, trivial⟩)
      clear hd
      simp only [acan, depR3, dstOf, h2, h4]
      go_simp
    · have hR := below_step (below_drew (Below.refl _ w2)) hR0
      have h5 : vals 5 = .bool false := (hd 5 (by simp [depR3])).1
      refine doesg_open rfl (does_value (W' := W) (v := .bool false) ?_ ⟨Below.refl _ _, rfl, trivial⟩)
      clear hd
      simp only [acan, depR3, dstOf, h5]
      go_simp
    · have hR := below_step (below_drew (Below.refl _ w2)) hR0
      have h6 : vals 6 = .bool false := (hd 6 (by simp [depR3])).1
      refine doesg_yes (by simp only [acan, depR3, dstOf, h6]; rfl) (does_value (W' := W) (v := .pointer (some ⟨gv, 0, none⟩)) ?_ ⟨Below.refl _ _, rfl, trivial⟩)
      clear hd
      simp only [acan, depR3, dstOf, h6]
      go_simp
    · have hR := below_step (below_drew (Below.refl _ w2)) hR0
      have h6 : vals 6 = .bool false := (hd 6 (by simp [depR3])).1
      have h7 : vals 7 = .pointer (some ⟨gv, 0, none⟩) := (hd 7 (by simp [depR3])).1
      clear hd
      refine doesg_yes (by simp only [acan, depR3, dstOf, h6, h7]; rfl) (does_enter (W' := W) (f := 22) (args := #[.pointer (some ⟨gv, 0, none⟩), .int .i64 0]) ?_ ((HC22.out W hR).mono ?_))
      · simp only [acan, depR3, dstOf, h6, h7]
        go_simp
      · rintro e w1 ⟨rfl, hb⟩
        exact ⟨_, rfl, hb, rfl, trivial⟩
    · have hR := below_step (below_drew (Below.refl _ w2)) hR0
      have h6 : vals 6 = .bool false := (hd 6 (by simp [depR3])).1
      have h8 : vals 8 = .int .i64 (-1) := (hd 8 (by simp [depR3])).1
      refine doesg_yes (by simp only [acan, depR3, dstOf, h6, h8]; rfl) (does_value (W' := W) (v := .bool false) ?_ ⟨Below.refl _ _, rfl, trivial⟩)
      clear hd
      simp only [acan, depR3, dstOf, h6, h8]
      go_simp
    · have hR := below_step (below_drew (Below.refl _ w2)) hR0
      have h6 : vals 6 = .bool false := (hd 6 (by simp [depR3])).1
      have h9 : vals 9 = .bool false := (hd 9 (by simp [depR3])).1
      refine doesg_open rfl (does_value (W' := W) (v := .bool false) ?_ ⟨Below.refl _ _, rfl, trivial⟩)
      clear hd
      simp only [acan, depR3, dstOf, h6, h9]
      go_simp
    · have hR := below_step (below_drew (Below.refl _ w2)) hR0
      have h10 : vals 10 = .bool false := (hd 10 (by simp [depR3])).1
      refine doesg_open rfl (does_value (W' := W) (v := .bool false) ?_ ⟨Below.refl _ _, rfl, trivial⟩)
      clear hd
      simp only [acan, depR3, dstOf, h10]
      go_simp
    · have hR := below_step (below_drew (Below.refl _ w2)) hR0
      have h11 : vals 11 = .bool false := (hd 11 (by simp [depR3])).1
      refine doesg_yes (by simp only [acan, depR3, dstOf, h11]; rfl) (does_value (W' := W) (v := .pointer (some ⟨gv, 0, none⟩)) ?_ ⟨Below.refl _ _, rfl, trivial⟩)
      clear hd
      simp only [acan, depR3, dstOf, h11]
      go_simp
    · have hR := below_step (below_drew (Below.refl _ w2)) hR0
      have h11 : vals 11 = .bool false := (hd 11 (by simp [depR3])).1
      have h12 : vals 12 = .pointer (some ⟨gv, 0, none⟩) := (hd 12 (by simp [depR3])).1
      clear hd
      refine doesg_yes (by simp only [acan, depR3, dstOf, h11, h12]; rfl) (does_enter (W' := W) (f := 12) (args := #[.pointer (some ⟨gv, 0, none⟩)]) ?_ ((HC12.out W hR).mono ?_))
      · simp only [acan, depR3, dstOf, h11, h12]
        go_simp
      · rintro e w1 ⟨A, c, rfl, _, hb⟩
        exact ⟨_, rfl, hb, trivial, A, c, rfl⟩
    · have hR := below_step (below_drew (Below.refl _ w2)) hR0
      have h11 : vals 11 = .bool false := (hd 11 (by simp [depR3])).1
      have h13 : ∃ A c, (vals 13) = .slice A n c := (hd 13 (by simp [depR3])).2
      obtain ⟨A, c, h13⟩ := h13
      refine doesg_yes (by simp only [acan, depR3, dstOf, h11]; rfl) (does_value (W' := W) (v := .int .i64 n) ?_ ⟨Below.refl _ _, rfl, trivial⟩)
      clear hd
      simp only [acan, depR3, dstOf, h11]
      simp only [h13]
      go_simp
    · have hR := below_step (below_drew (Below.refl _ w2)) hR0
      have h11 : vals 11 = .bool false := (hd 11 (by simp [depR3])).1
      refine doesg_yes (by simp only [acan, depR3, dstOf, h11]; rfl) (does_value (W' := W) (v := .pointer (some ⟨g1, 1, none⟩)) ?_ ⟨Below.refl _ _, rfl, trivial⟩)
      clear hd
      simp only [acan, depR3, dstOf, h11]
      go_simp
    · have hR := below_step (below_drew (Below.refl _ w2)) hR0
      have h11 : vals 11 = .bool false := (hd 11 (by simp [depR3])).1
      have h15 : vals 15 = .pointer (some ⟨g1, 1, none⟩) := (hd 15 (by simp [depR3])).1
      have hc : W.cell? ⟨g1, 1, none⟩ = some (.slice Ar n cr) := (blk_cell (blk_below KX.out hR) 1).trans rfl
      refine doesg_yes (by simp only [acan, depR3, dstOf, h11, h15]; rfl) (does_value (W' := W) (v := .slice Ar n cr) ?_ ⟨Below.refl _ _, rfl, trivial⟩)
      clear hd
      simp only [acan, depR3, dstOf, h11, h15]
      go_simp
    · have hR := below_step (below_drew (Below.refl _ w2)) hR0
      have h11 : vals 11 = .bool false := (hd 11 (by simp [depR3])).1
      have h16 : vals 16 = .slice Ar n cr := (hd 16 (by simp [depR3])).1
      refine doesg_yes (by simp only [acan, depR3, dstOf, h11, h16]; rfl) (does_value (W' := W) (v := .int .i64 n) ?_ ⟨Below.refl _ _, rfl, trivial⟩)
      clear hd
      simp only [acan, depR3, dstOf, h11, h16]
      go_simp
    · have hR := below_step (below_drew (Below.refl _ w2)) hR0
      have h11 : vals 11 = .bool false := (hd 11 (by simp [depR3])).1
      have h14 : vals 14 = .int .i64 n := (hd 14 (by simp [depR3])).1
      have h17 : vals 17 = .int .i64 n := (hd 17 (by simp [depR3])).1
      refine doesg_yes (by simp only [acan, depR3, dstOf, h11, h14, h17]; rfl) (does_value (W' := W) (v := .bool false) ?_ ⟨Below.refl _ _, rfl, trivial⟩)
      clear hd
      simp only [acan, depR3, dstOf, h11, h14, h17]
      go_simp
    · have hR := below_step (below_drew (Below.refl _ w2)) hR0
      have h11 : vals 11 = .bool false := (hd 11 (by simp [depR3])).1
      have h18 : vals 18 = .bool false := (hd 18 (by simp [depR3])).1
      refine doesg_open rfl (does_value (W' := W) (v := .bool false) ?_ ⟨Below.refl _ _, rfl, trivial⟩)
      clear hd
      simp only [acan, depR3, dstOf, h11, h18]
      go_simp
  case fin =>
    intro vals W hR0 hF
    have hR := below_step (below_drew (Below.refl _ w2)) hR0
    have f0 : vals 0 = .int .i64 0 := (hF 0 (by decide)).1
    have f1 : vals 1 = .bool false := (hF 1 (by decide)).1
    have f2 : vals 2 = .bool false := (hF 2 (by decide)).1
    have f3 : vals 3 = .pointer (some ⟨gv, 0, none⟩) := (hF 3 (by decide)).1
    have f4 : vals 4 = .bool false := (hF 4 (by decide)).1
    have f5 : vals 5 = .bool false := (hF 5 (by decide)).1
    have f6 : vals 6 = .bool false := (hF 6 (by decide)).1
    have f7 : vals 7 = .pointer (some ⟨gv, 0, none⟩) := (hF 7 (by decide)).1
    have f8 : vals 8 = .int .i64 (-1) := (hF 8 (by decide)).1
    have f9 : vals 9 = .bool false := (hF 9 (by decide)).1
    have f10 : vals 10 = .bool false := (hF 10 (by decide)).1
    have f11 : vals 11 = .bool false := (hF 11 (by decide)).1
    have f12 : vals 12 = .pointer (some ⟨gv, 0, none⟩) := (hF 12 (by decide)).1
    have f13 : ∃ A c, (vals 13) = .slice A n c := (hF 13 (by decide)).2
    have f14 : vals 14 = .int .i64 n := (hF 14 (by decide)).1
    have f15 : vals 15 = .pointer (some ⟨g1, 1, none⟩) := (hF 15 (by decide)).1
    have f16 : vals 16 = .slice Ar n cr := (hF 16 (by decide)).1
    have f17 : vals 17 = .int .i64 n := (hF 17 (by decide)).1
    have f18 : vals 18 = .bool false := (hF 18 (by decide)).1
    have f19 : vals 19 = .bool false := (hF 19 (by decide)).1
    clear hF hR0
    rw [show List.range 20 = [0, 1, 2, 3, 4, 5, 6, 7, 8, 9, 10, 11, 12, 13, 14, 15, 16, 17, 18, 19] from rfl]
    simp only [acan, dstOf, Act.put, List.getElem?_toArray, List.getElem?_cons_zero, List.getElem?_cons_succ, Option.bind_some, List.setIfInBounds_toArray, List.set_cons_zero, List.set_cons_succ, List.drop_succ_cons, List.drop_zero, f0, f1, f2, f3, f4, f5, f6, f7, f8, f9, f10, f11, f12, f14, f15, f16, f17, f18, f19]
    clear f0 f1 f2 f3 f4 f5 f6 f7 f8 f9 f10 f11 f12 f13 f14 f15 f16 f17 f18 f19
    go_upto_region 5 with (fail)
    have HW5 := Aside0.mk hR
    clear hR
    go_upto_region 6 with (first
      | (go_at_call 13; (with_reducible refine (HC13.out _ HW5.out).mono ?_); rintro e w5 ⟨ai, ki, rfl, i0, hb⟩; have HW5 := Aside0.mk (below_step HW5.out hb); have I0 := Aside0.mk i0; clear i0 hb)
      | (go_at_call 16; (with_reducible refine (HC16.out _ HW5.out).mono ?_); rintro e w6 ⟨gc, kc, rfl, c0, c1, hb⟩; have HW5 := Aside0.mk (below_step HW5.out hb); have I0 := Aside0.mk (pw_cell_below hb I0.out); have C0 := Aside0.mk c0; have C1 := Aside0.mk c1; clear c0 c1 hb)
      | (go_at_call 18; (with_reducible refine (HC18.out _ HW5.out).mono ?_); rintro e w7 ⟨ar, kr, rfl, r0, hb⟩; have HW5 := Aside0.mk (below_step HW5.out hb); have I0 := Aside0.mk (pw_cell_below hb I0.out); have C0 := Aside0.mk (pw_cell_below hb C0.out); have C1 := Aside0.mk (pw_cell_below hb C1.out); have R0 := Aside0.mk r0; clear r0 hb))
    have HWB0 := Aside0.mk (Below.refl w7.heap.size w7)
    have HFEW := Aside0.mk HBE.out.few
    go_wp2
    go_loopw [9] (fun s9 wr => ∃ k : Nat, k ≤ n ∧ s9 = .int .i64 k ∧ Aside0 (Below w2.heap.size w2 wr) ∧ Aside0 (Below w7.heap.size w7 wr)) (fun s9 _ => n - (intOf s9).toNat)
    case atStart => exact ⟨0, Nat.zero_le _, rfl, HW5, ⟨Below.refl _ _⟩⟩
    case round =>
      obtain ⟨k, hk, rfl, HB, HWB⟩ := hrel
      by_cases hkn : k < n
      · have HKN := Aside0.mk hkn
        obtain ⟨ad, rfl, hq⟩ := HRF.out k hkn
        have HC12n : Aside0 (∀ W, Below w2.heap.size w2 W → Calls Tryz.prog 12 #[.pointer (some ⟨gv, 0, none⟩)] W fun e w' => ∃ (a : Addr) (c : Nat), e = .returned (.slice (some a) n c) ∧ w'.cell? (a.add k) = some (.int .i64 (S k)) ∧ (∀ j, j < n → w'.cell? (a.add j) = some (.int .i64 (S j))) ∧ Below W.heap.size W w') := ⟨fun W hb => (HC12.out W hb).mono (fun e w' ⟨A, c, h1, h2, h3⟩ => by
          obtain ⟨a, rfl, h4⟩ := h2 k HKN.out
          exact ⟨a, c, h1, h4, (fun j hj => by obtain ⟨a2, e2, h5⟩ := h2 j hj; injection e2 with e2; subst e2; exact h5), h3⟩)⟩
        have hS1 := HBE.out.pos k hkn
        have hS2 := HBE.out.lt k hkn
        have HD : Aside0 (decide (S k ≤ 0) = false ∧ decide ((m : Int) ≤ S k) = false) := ⟨decide_eq_false (by omega), decide_eq_false (by omega)⟩
        have HRI : Aside0 (∀ j, k = j + 1 → j < n ∧ decide (S k ≤ S j) = false) := ⟨fun j hj => by subst hj; have := HBE.out.rise j hkn; exact ⟨by omega, decide_eq_false (by omega)⟩⟩
        have HC20 := Aside0.mk (HC20n.out k hkn)
        obtain ⟨p, hp⟩ : ∃ p, p = S k := ⟨_, rfl⟩
        obtain ⟨b, hb⟩ : ∃ b, b = fr k := ⟨_, rfl⟩
        rw [← hp] at HC12n HD HRI HC20
        rw [← hb] at HC20 hq
        have HQ0 := Aside0.mk hq
        clear hk hS1 hS2 hp hb hq
        go_upto_region 9 with (go_at_call 12; (with_reducible refine (HC12n.out _ HB.out).mono ?_); rintro e w8 ⟨a8, c8, rfl, hc8, _, hb⟩; have HB := Aside0.mk (below_step HB.out hb); have HWB := Aside0.mk (below_step HWB.out hb); clear hc8 hb)
        go_upto_region 10 with (go_at_call 12; (with_reducible refine (HC12n.out _ HB.out).mono ?_); rintro e w9 ⟨a9, c9, rfl, hc9, _, hb⟩; have HB := Aside0.mk (below_step HB.out hb); have HWB := Aside0.mk (below_step HWB.out hb); clear hb)
        have HQ := Aside0.mk (pw_cell_below HB.out HQ0.out)
        clear hkn hc9
        rcases Nat.eq_zero_or_pos k with hk0 | hk0
        · have HL : Aside0 ((decide ((0 : Int) < (k : Int)) = false ∧ decide (0 < k) = false) ∧ True) := ⟨⟨decide_eq_false (by omega), decide_eq_false (by omega)⟩, trivial⟩
          clear hk0
          refine wp_region_makesg 36 _ depR10a (phiR10a gv g1 n m k  cr p  ad b) BelowR (by kernel_rfl) (by kernel_rfl) (by kernel_rfl) rfl belowR_refl belowR_trans (phiR10a_stab _ _ _ _ _ _ _ _ _) ?step ?fin
          case step =>
            repeat (rename_i z; clear z)
            refine ⟨?_, ?_, ?_, ?_, ?_, ?_, ?_, ?_, ?_, ?_, ?_, ?_, ?_, ?_, ?_, ?_, ?_, ?_, ?_, ?_, ?_, ?_, ?_, ?_, ?_, ?_, ?_, ?_, ?_, ?_, ?_, ?_, ?_, ?_, ?_, ?_, trivial⟩ <;> intro vals W hR0 hd
            · have hR := below_step (below_drew (Below.refl _ w9)) hR0
              refine doesg_open rfl (does_value (W' := W) (v := .int .i64 p) ?_ ⟨Below.refl _ _, rfl, trivial⟩)
              clear hd
              simp only [acan, depR10a, dstOf]
              go_simp
            · have hR := below_step (below_drew (Below.refl _ w9)) hR0
              have h0 : vals 0 = .int .i64 p := (hd 0 (by simp [depR10a])).1
              have hc := HD.out.1
              refine doesg_open rfl (does_value (W' := W) (v := .bool false) ?_ ⟨Below.refl _ _, rfl, trivial⟩)
              clear hd
              simp only [acan, depR10a, dstOf, h0]
              go_simp
            · have hR := below_step (below_drew (Below.refl _ w9)) hR0
              have h1 : vals 1 = .bool false := (hd 1 (by simp [depR10a])).1
              refine doesg_open rfl (does_value (W' := W) (v := .bool false) ?_ ⟨Below.refl _ _, rfl, trivial⟩)
              clear hd
              simp only [acan, depR10a, dstOf, h1]
              go_simp
            · have hR := below_step (below_drew (Below.refl _ w9)) hR0
              have h2 : vals 2 = .bool false := (hd 2 (by simp [depR10a])).1
              refine doesg_yes (by simp only [acan, depR10a, dstOf, h2]; rfl) (does_value (W' := W) (v := .int .i64 p) ?_ ⟨Below.refl _ _, rfl, trivial⟩)
              clear hd
              simp only [acan, depR10a, dstOf, h2]
              go_simp
            · have hR := below_step (below_drew (Below.refl _ w9)) hR0
              have h2 : vals 2 = .bool false := (hd 2 (by simp [depR10a])).1
              refine doesg_yes (by simp only [acan, depR10a, dstOf, h2]; rfl) (does_value (W' := W) (v := .pointer (some ⟨gv, 0, none⟩)) ?_ ⟨Below.refl _ _, rfl, trivial⟩)
              clear hd
              simp only [acan, depR10a, dstOf, h2]
              go_simp
            · have hR := below_step (below_drew (Below.refl _ w9)) hR0
              have h2 : vals 2 = .bool false := (hd 2 (by simp [depR10a])).1
              have h4 : vals 4 = .pointer (some ⟨gv, 0, none⟩) := (hd 4 (by simp [depR10a])).1
              clear hd
              refine doesg_yes (by simp only [acan, depR10a, dstOf, h2, h4]; rfl) (does_enter (W' := W) (f := 10) (args := #[.pointer (some ⟨gv, 0, none⟩)]) ?_ ((HC10.out W (below_step HB.out hR)).mono ?_))
              · simp only [acan, depR10a, dstOf, h2, h4]
                go_simp
              · rintro e w1 ⟨rfl, hw⟩
                exact ⟨_, rfl, hw ▸ Below.refl _ _, rfl, trivial⟩
            · have hR := below_step (below_drew (Below.refl _ w9)) hR0
              have h2 : vals 2 = .bool false := (hd 2 (by simp [depR10a])).1
              have h3 : vals 3 = .int .i64 p := (hd 3 (by simp [depR10a])).1
              have h5 : vals 5 = .int .i64 m := (hd 5 (by simp [depR10a])).1
              have hc := HD.out.2
              refine doesg_yes (by simp only [acan, depR10a, dstOf, h2, h3, h5]; rfl) (does_value (W' := W) (v := .bool false) ?_ ⟨Below.refl _ _, rfl, trivial⟩)
              clear hd
              simp only [acan, depR10a, dstOf, h2, h3, h5]
              go_simp
            · have hR := below_step (below_drew (Below.refl _ w9)) hR0
              have h2 : vals 2 = .bool false := (hd 2 (by simp [depR10a])).1
              have h6 : vals 6 = .bool false := (hd 6 (by simp [depR10a])).1
              refine doesg_open rfl (does_value (W' := W) (v := .bool false) ?_ ⟨Below.refl _ _, rfl, trivial⟩)
              clear hd
              simp only [acan, depR10a, dstOf, h2, h6]
              go_simp
            · have hR := below_step (below_drew (Below.refl _ w9)) hR0
              have h7 : vals 7 = .bool false := (hd 7 (by simp [depR10a])).1
              refine doesg_open rfl (does_value (W' := W) (v := .bool false) ?_ ⟨Below.refl _ _, rfl, trivial⟩)
              clear hd
              simp only [acan, depR10a, dstOf, h7]
              go_simp
            · have hR := below_step (below_drew (Below.refl _ w9)) hR0
              have h8 : vals 8 = .bool false := (hd 8 (by simp [depR10a])).1
              refine doesg_yes (by simp only [acan, depR10a, dstOf, h8]; rfl) (does_value (W' := W) (v := .int .i64 k) ?_ ⟨Below.refl _ _, rfl, trivial⟩)
              clear hd
              simp only [acan, depR10a, dstOf, h8]
              go_simp
            · have hR := below_step (below_drew (Below.refl _ w9)) hR0
              have h8 : vals 8 = .bool false := (hd 8 (by simp [depR10a])).1
              have h9 : vals 9 = .int .i64 k := (hd 9 (by simp [depR10a])).1
              have hc := HL.out.1.1
              have hc2 := HL.out.1.2
              refine doesg_yes (by simp only [acan, depR10a, dstOf, h8, h9]; rfl) (does_value (W' := W) (v := .bool false) ?_ ⟨Below.refl _ _, rfl, trivial⟩)
              clear hd
              simp only [acan, depR10a, dstOf, h8, h9]
              go_simp
            · have hR := below_step (below_drew (Below.refl _ w9)) hR0
              have h8 : vals 8 = .bool false := (hd 8 (by simp [depR10a])).1
              have h10 : vals 10 = .bool false := (hd 10 (by simp [depR10a])).1
              refine doesg_yes (by simp only [acan, depR10a, dstOf, h8, h10]; rfl) (does_value (W' := W) (v := .bool false) ?_ ⟨Below.refl _ _, rfl, trivial⟩)
              clear hd
              simp only [acan, depR10a, dstOf, h8, h10]
              go_simp
            · have hR := below_step (below_drew (Below.refl _ w9)) hR0
              have h11 : vals 11 = .bool false := (hd 11 (by simp [depR10a])).1
              exact doesg_no (by simp only [acan, depR10a, dstOf, h11]; rfl) ⟨Below.refl _ _, rfl, trivial⟩
            · have hR := below_step (below_drew (Below.refl _ w9)) hR0
              have h11 : vals 11 = .bool false := (hd 11 (by simp [depR10a])).1
              exact doesg_no (by simp only [acan, depR10a, dstOf, h11]; rfl) ⟨Below.refl _ _, rfl, trivial⟩
            · have hR := below_step (below_drew (Below.refl _ w9)) hR0
              have h11 : vals 11 = .bool false := (hd 11 (by simp [depR10a])).1
              have h13 : vals 13 = undef := (hd 13 (by simp [depR10a])).1
              exact doesg_no (by simp only [acan, depR10a, dstOf, h11, h13]; rfl) ⟨Below.refl _ _, rfl, trivial⟩
            · have hR := below_step (below_drew (Below.refl _ w9)) hR0
              have h11 : vals 11 = .bool false := (hd 11 (by simp [depR10a])).1
              exact doesg_no (by simp only [acan, depR10a, dstOf, h11]; rfl) ⟨Below.refl _ _, rfl, trivial⟩
            · have hR := below_step (below_drew (Below.refl _ w9)) hR0
              have h11 : vals 11 = .bool false := (hd 11 (by simp [depR10a])).1
              have h15 : vals 15 = undef := (hd 15 (by simp [depR10a])).1
              exact doesg_no (by simp only [acan, depR10a, dstOf, h11, h15]; rfl) ⟨Below.refl _ _, rfl, trivial⟩
            · have hR := below_step (below_drew (Below.refl _ w9)) hR0
              have h11 : vals 11 = .bool false := (hd 11 (by simp [depR10a])).1
              have h14 : vals 14 = undef := (hd 14 (by simp [depR10a])).1
              have h16 : vals 16 = undef := (hd 16 (by simp [depR10a])).1
              exact doesg_no (by simp only [acan, depR10a, dstOf, h11, h14, h16]; rfl) ⟨Below.refl _ _, rfl, trivial⟩
            · have hR := below_step (below_drew (Below.refl _ w9)) hR0
              have h11 : vals 11 = .bool false := (hd 11 (by simp [depR10a])).1
              have h17 : vals 17 = undef := (hd 17 (by simp [depR10a])).1
              exact doesg_no (by simp only [acan, depR10a, dstOf, h11, h17]; rfl) ⟨Below.refl _ _, rfl, trivial⟩
            · have hR := below_step (below_drew (Below.refl _ w9)) hR0
              have h11 : vals 11 = .bool false := (hd 11 (by simp [depR10a])).1
              have h12 : vals 12 = undef := (hd 12 (by simp [depR10a])).1
              have h18 : vals 18 = undef := (hd 18 (by simp [depR10a])).1
              exact doesg_no (by simp only [acan, depR10a, dstOf, h11, h12, h18]; rfl) ⟨Below.refl _ _, rfl, trivial⟩
            · have hR := below_step (below_drew (Below.refl _ w9)) hR0
              have h8 : vals 8 = .bool false := (hd 8 (by simp [depR10a])).1
              have h11 : vals 11 = .bool false := (hd 11 (by simp [depR10a])).1
              have h19 : vals 19 = undef := (hd 19 (by simp [depR10a])).1
              refine doesg_yes (by simp only [acan, depR10a, dstOf, h8, h11, h19]; rfl) (does_value (W' := W) (v := .bool false) ?_ ⟨Below.refl _ _, rfl, trivial⟩)
              clear hd
              simp only [acan, depR10a, dstOf, h8, h11, h19]
              go_simp
            · have hR := below_step (below_drew (Below.refl _ w9)) hR0
              have h8 : vals 8 = .bool false := (hd 8 (by simp [depR10a])).1
              have h20 : vals 20 = .bool false := (hd 20 (by simp [depR10a])).1
              refine doesg_open rfl (does_value (W' := W) (v := .bool false) ?_ ⟨Below.refl _ _, rfl, trivial⟩)
              clear hd
              simp only [acan, depR10a, dstOf, h8, h20]
              go_simp
            · have hR := below_step (below_drew (Below.refl _ w9)) hR0
              have h21 : vals 21 = .bool false := (hd 21 (by simp [depR10a])).1
              refine doesg_open rfl (does_value (W' := W) (v := .bool false) ?_ ⟨Below.refl _ _, rfl, trivial⟩)
              clear hd
              simp only [acan, depR10a, dstOf, h21]
              go_simp
            · have hR := below_step (below_drew (Below.refl _ w9)) hR0
              have h22 : vals 22 = .bool false := (hd 22 (by simp [depR10a])).1
              refine doesg_yes (by simp only [acan, depR10a, dstOf, h22]; rfl) (does_value (W' := W) (v := .pointer (some ⟨gv, 0, none⟩)) ?_ ⟨Below.refl _ _, rfl, trivial⟩)
              clear hd
              simp only [acan, depR10a, dstOf, h22]
              go_simp
            · have hR := below_step (below_drew (Below.refl _ w9)) hR0
              have h22 : vals 22 = .bool false := (hd 22 (by simp [depR10a])).1
              refine doesg_yes (by simp only [acan, depR10a, dstOf, h22]; rfl) (does_value (W' := W) (v := .int .i64 p) ?_ ⟨Below.refl _ _, rfl, trivial⟩)
              clear hd
              simp only [acan, depR10a, dstOf, h22]
              go_simp
            · have hR := below_step (below_drew (Below.refl _ w9)) hR0
              have h22 : vals 22 = .bool false := (hd 22 (by simp [depR10a])).1
              have h23 : vals 23 = .pointer (some ⟨gv, 0, none⟩) := (hd 23 (by simp [depR10a])).1
              have h24 : vals 24 = .int .i64 p := (hd 24 (by simp [depR10a])).1
              clear hd
              refine doesg_yes (by simp only [acan, depR10a, dstOf, h22, h23, h24]; rfl) (does_enter (W' := W) (f := 20) (args := #[.pointer (some ⟨gv, 0, none⟩), .int .i64 p, .int .i64 3]) ?_ ((HC20.out W (below_step HB.out hR)).mono ?_))
              · simp only [acan, depR10a, dstOf, h22, h23, h24]
                go_simp
              · rintro e w1 ⟨A, c, rfl, hb⟩
                exact ⟨_, rfl, hb, trivial, A, c, rfl⟩
            · have hR := below_step (below_drew (Below.refl _ w9)) hR0
              have h22 : vals 22 = .bool false := (hd 22 (by simp [depR10a])).1
              have h25 : ∃ A c, (vals 25) = .slice A (bN b) c := (hd 25 (by simp [depR10a])).2
              obtain ⟨A, c, h25⟩ := h25
              refine doesg_yes (by simp only [acan, depR10a, dstOf, h22]; rfl) (does_value (W' := W) (v := .int .i64 (bN b)) ?_ ⟨Below.refl _ _, rfl, trivial⟩)
              clear hd
              simp only [acan, depR10a, dstOf, h22]
              simp only [h25]
              go_simp
            · have hR := below_step (below_drew (Below.refl _ w9)) hR0
              have h22 : vals 22 = .bool false := (hd 22 (by simp [depR10a])).1
              have h26 : vals 26 = .int .i64 (bN b) := (hd 26 (by simp [depR10a])).1
              refine doesg_yes (by simp only [acan, depR10a, dstOf, h22, h26]; rfl) (does_value (W' := W) (v := .bool b) ?_ ⟨Below.refl _ _, rfl, trivial⟩)
              clear hd
              simp only [acan, depR10a, dstOf, h22, h26]
              cases b <;> go_simp
              all_goals simp [bN]
            · have hR := below_step (below_drew (Below.refl _ w9)) hR0
              have h22 : vals 22 = .bool false := (hd 22 (by simp [depR10a])).1
              refine doesg_yes (by simp only [acan, depR10a, dstOf, h22]; rfl) (does_value (W' := W) (v := .pointer (some ⟨g1, 1, none⟩)) ?_ ⟨Below.refl _ _, rfl, trivial⟩)
              clear hd
              simp only [acan, depR10a, dstOf, h22]
              go_simp
            · have hR := below_step (below_drew (Below.refl _ w9)) hR0
              have h22 : vals 22 = .bool false := (hd 22 (by simp [depR10a])).1
              have h28 : vals 28 = .pointer (some ⟨g1, 1, none⟩) := (hd 28 (by simp [depR10a])).1
              have hc : W.cell? ⟨g1, 1, none⟩ = some (.slice (some ad) n cr) := (blk_cell (blk_below KX.out (below_step HB.out hR)) 1).trans rfl
              refine doesg_yes (by simp only [acan, depR10a, dstOf, h22, h28]; rfl) (does_value (W' := W) (v := .slice (some ad) n cr) ?_ ⟨Below.refl _ _, rfl, trivial⟩)
              clear hd
              simp only [acan, depR10a, dstOf, h22, h28]
              go_simp
            · have hR := below_step (below_drew (Below.refl _ w9)) hR0
              have h22 : vals 22 = .bool false := (hd 22 (by simp [depR10a])).1
              refine doesg_yes (by simp only [acan, depR10a, dstOf, h22]; rfl) (does_value (W' := W) (v := .int .i64 k) ?_ ⟨Below.refl _ _, rfl, trivial⟩)
              clear hd
              simp only [acan, depR10a, dstOf, h22]
              go_simp
            · have hR := below_step (below_drew (Below.refl _ w9)) hR0
              have h22 : vals 22 = .bool false := (hd 22 (by simp [depR10a])).1
              have h29 : vals 29 = .slice (some ad) n cr := (hd 29 (by simp [depR10a])).1
              have h30 : vals 30 = .int .i64 k := (hd 30 (by simp [depR10a])).1
              have hc := HKN.out
              refine doesg_yes (by simp only [acan, depR10a, dstOf, h22, h29, h30]; rfl) (does_value (W' := W) (v := .pointer (some (ad.add (k * 3)))) ?_ ⟨Below.refl _ _, rfl, trivial⟩)
              clear hd
              simp only [acan, depR10a, dstOf, h22, h29, h30]
              go_simp
            · have hR := below_step (below_drew (Below.refl _ w9)) hR0
              have h22 : vals 22 = .bool false := (hd 22 (by simp [depR10a])).1
              have h31 : vals 31 = .pointer (some (ad.add (k * 3))) := (hd 31 (by simp [depR10a])).1
              refine doesg_yes (by simp only [acan, depR10a, dstOf, h22, h31]; rfl) (does_value (W' := W) (v := .pointer (some ⟨(ad.add (k * 3)).block, (ad.add (k * 3)).off + 1, none⟩)) ?_ ⟨Below.refl _ _, rfl, trivial⟩)
              clear hd
              simp only [acan, depR10a, dstOf, h22, h31]
              go_simp
            · have hR := below_step (below_drew (Below.refl _ w9)) hR0
              have h22 : vals 22 = .bool false := (hd 22 (by simp [depR10a])).1
              have h32 : vals 32 = .pointer (some ⟨(ad.add (k * 3)).block, (ad.add (k * 3)).off + 1, none⟩) := (hd 32 (by simp [depR10a])).1
              have hc : W.cell? ⟨(ad.add (k * 3)).block, (ad.add (k * 3)).off + 1, none⟩ = some (.bool b) := pw_cell_below hR HQ.out
              refine doesg_yes (by simp only [acan, depR10a, dstOf, h22, h32]; rfl) (does_value (W' := W) (v := .bool b) ?_ ⟨Below.refl _ _, rfl, trivial⟩)
              clear hd
              simp only [acan, depR10a, dstOf, h22, h32]
              go_simp
            · have hR := below_step (below_drew (Below.refl _ w9)) hR0
              have h22 : vals 22 = .bool false := (hd 22 (by simp [depR10a])).1
              have h27 : vals 27 = .bool b := (hd 27 (by simp [depR10a])).1
              have h33 : vals 33 = .bool b := (hd 33 (by simp [depR10a])).1
              refine doesg_yes (by simp only [acan, depR10a, dstOf, h22, h27, h33]; rfl) (does_value (W' := W) (v := .bool false) ?_ ⟨Below.refl _ _, rfl, trivial⟩)
              clear hd
              simp only [acan, depR10a, dstOf, h22, h27, h33]
              cases b <;> go_simp
            · have hR := below_step (below_drew (Below.refl _ w9)) hR0
              have h22 : vals 22 = .bool false := (hd 22 (by simp [depR10a])).1
              have h34 : vals 34 = .bool false := (hd 34 (by simp [depR10a])).1
              refine doesg_open rfl (does_value (W' := W) (v := .bool false) ?_ ⟨Below.refl _ _, rfl, trivial⟩)
              clear hd
              simp only [acan, depR10a, dstOf, h22, h34]
              go_simp
          case fin =>
            intro vals W hR0 hF
            have hR := below_step (below_drew (Below.refl _ w9)) hR0
            have f0 : vals 0 = .int .i64 p := (hF 0 (by decide)).1
            have f1 : vals 1 = .bool false := (hF 1 (by decide)).1
            have f2 : vals 2 = .bool false := (hF 2 (by decide)).1
            have f3 : vals 3 = .int .i64 p := (hF 3 (by decide)).1
            have f4 : vals 4 = .pointer (some ⟨gv, 0, none⟩) := (hF 4 (by decide)).1
            have f5 : vals 5 = .int .i64 m := (hF 5 (by decide)).1
            have f6 : vals 6 = .bool false := (hF 6 (by decide)).1
            have f7 : vals 7 = .bool false := (hF 7 (by decide)).1
            have f8 : vals 8 = .bool false := (hF 8 (by decide)).1
            have f9 : vals 9 = .int .i64 k := (hF 9 (by decide)).1
            have f10 : vals 10 = .bool false := (hF 10 (by decide)).1
            have f11 : vals 11 = .bool false := (hF 11 (by decide)).1
            have f12 : vals 12 = undef := (hF 12 (by decide)).1
            have f13 : vals 13 = undef := (hF 13 (by decide)).1
            have f14 : vals 14 = undef := (hF 14 (by decide)).1
            have f15 : vals 15 = undef := (hF 15 (by decide)).1
            have f16 : vals 16 = undef := (hF 16 (by decide)).1
            have f17 : vals 17 = undef := (hF 17 (by decide)).1
            have f18 : vals 18 = undef := (hF 18 (by decide)).1
            have f19 : vals 19 = undef := (hF 19 (by decide)).1
            have f20 : vals 20 = .bool false := (hF 20 (by decide)).1
            have f21 : vals 21 = .bool false := (hF 21 (by decide)).1
            have f22 : vals 22 = .bool false := (hF 22 (by decide)).1
            have f23 : vals 23 = .pointer (some ⟨gv, 0, none⟩) := (hF 23 (by decide)).1
            have f24 : vals 24 = .int .i64 p := (hF 24 (by decide)).1
            have f25 : ∃ A c, (vals 25) = .slice A (bN b) c := (hF 25 (by decide)).2
            have f26 : vals 26 = .int .i64 (bN b) := (hF 26 (by decide)).1
            have f27 : vals 27 = .bool b := (hF 27 (by decide)).1
            have f28 : vals 28 = .pointer (some ⟨g1, 1, none⟩) := (hF 28 (by decide)).1
            have f29 : vals 29 = .slice (some ad) n cr := (hF 29 (by decide)).1
            have f30 : vals 30 = .int .i64 k := (hF 30 (by decide)).1
            have f31 : vals 31 = .pointer (some (ad.add (k * 3))) := (hF 31 (by decide)).1
            have f32 : vals 32 = .pointer (some ⟨(ad.add (k * 3)).block, (ad.add (k * 3)).off + 1, none⟩) := (hF 32 (by decide)).1
            have f33 : vals 33 = .bool b := (hF 33 (by decide)).1
            have f34 : vals 34 = .bool false := (hF 34 (by decide)).1
            have f35 : vals 35 = .bool false := (hF 35 (by decide)).1
            clear hF hR0
            rw [show List.range 36 = [0, 1, 2, 3, 4, 5, 6, 7, 8, 9, 10, 11, 12, 13, 14, 15, 16, 17, 18, 19, 20, 21, 22, 23, 24, 25, 26, 27, 28, 29, 30, 31, 32, 33, 34, 35] from rfl]
            simp only [acan, dstOf, Act.put, List.getElem?_toArray, List.getElem?_cons_zero, List.getElem?_cons_succ, Option.bind_some, List.setIfInBounds_toArray, List.set_cons_zero, List.set_cons_succ, List.drop_succ_cons, List.drop_zero, f0, f1, f2, f3, f4, f5, f6, f7, f8, f9, f10, f11, f12, f13, f14, f15, f16, f17, f18, f19, f20, f21, f22, f23, f24, f26, f27, f28, f29, f30, f31, f32, f33, f34, f35]
            clear f0 f1 f2 f3 f4 f5 f6 f7 f8 f9 f10 f11 f12 f13 f14 f15 f16 f17 f18 f19 f20 f21 f22 f23 f24 f25 f26 f27 f28 f29 f30 f31 f32 f33 f34 f35
            go_wp2
            go_roundw
            case rel => exact ⟨k + 1, HKN.out, by rw [wrap_k k (by have := HKN.out; have := HFEW.out; omega)], ⟨below_step HB.out hR⟩, ⟨below_step HWB.out hR⟩⟩
            case measure => exact meas_k n k HKN.out HFEW.out
        · obtain ⟨j, hj⟩ : ∃ j, k = j + 1 := ⟨k - 1, by omega⟩
          have hj2 := HRI.out j hj
          have HC12k : Aside0 (∀ W, Below w2.heap.size w2 W → Calls Tryz.prog 12 #[.pointer (some ⟨gv, 0, none⟩)] W fun e w' => ∃ (a : Addr) (c : Nat), e = .returned (.slice (some a) n c) ∧ w'.cell? (a.add j) = some (.int .i64 (S j)) ∧ Below W.heap.size W w') := ⟨fun W hb => (HC12n.out W hb).mono (fun e w' ⟨a, c, h1, _, h3, h4⟩ => ⟨a, c, h1, h3 j hj2.1, h4⟩)⟩
          have HL : Aside0 ((decide ((0 : Int) < (k : Int)) = true ∧ decide (0 < k) = true) ∧ decide (p ≤ S j) = false ∧ IntKind.i64.wrap ((k : Int) - 1) = (j : Int)) := ⟨⟨decide_eq_true (by omega), decide_eq_true (by omega)⟩, hj2.2, by rw [hj]; exact wrap_pred2 j (by have := HFEW.out; have := hj2.1; omega)⟩
          have HJN := Aside0.mk hj2.1
          obtain ⟨q, hq⟩ : ∃ q, q = S j := ⟨_, rfl⟩
          rw [← hq] at HC12k HL
          clear hk0 hj hj2 hq
          refine wp_region_makesg 36 _ depR10b (phiR10b gv g1 n m k j cr p q ad b) BelowR (by kernel_rfl) (by kernel_rfl) (by kernel_rfl) rfl belowR_refl belowR_trans (phiR10b_stab _ _ _ _ _ _ _ _ _ _ _) ?step ?fin
          case step =>
            repeat (rename_i z; clear z)
            refine ⟨?_, ?_, ?_, ?_, ?_, ?_, ?_, ?_, ?_, ?_, ?_, ?_, ?_, ?_, ?_, ?_, ?_, ?_, ?_, ?_, ?_, ?_, ?_, ?_, ?_, ?_, ?_, ?_, ?_, ?_, ?_, ?_, ?_, ?_, ?_, ?_, trivial⟩ <;> intro vals W hR0 hd
            · have hR := below_step (below_drew (Below.refl _ w9)) hR0
              refine doesg_open rfl (does_value (W' := W) (v := .int .i64 p) ?_ ⟨Below.refl _ _, rfl, trivial⟩)
              clear hd
              simp only [acan, depR10b, dstOf]
              go_simp
            · have hR := below_step (below_drew (Below.refl _ w9)) hR0
              have h0 : vals 0 = .int .i64 p := (hd 0 (by simp [depR10b])).1
              have hc := HD.out.1
              refine doesg_open rfl (does_value (W' := W) (v := .bool false) ?_ ⟨Below.refl _ _, rfl, trivial⟩)
              clear hd
              simp only [acan, depR10b, dstOf, h0]
              go_simp
            · have hR := below_step (below_drew (Below.refl _ w9)) hR0
              have h1 : vals 1 = .bool false := (hd 1 (by simp [depR10b])).1
              refine doesg_open rfl (does_value (W' := W) (v := .bool false) ?_ ⟨Below.refl _ _, rfl, trivial⟩)
              clear hd
              simp only [acan, depR10b, dstOf, h1]
              go_simp
            · have hR := below_step (below_drew (Below.refl _ w9)) hR0
              have h2 : vals 2 = .bool false := (hd 2 (by simp [depR10b])).1
              refine doesg_yes (by simp only [acan, depR10b, dstOf, h2]; rfl) (does_value (W' := W) (v := .int .i64 p) ?_ ⟨Below.refl _ _, rfl, trivial⟩)
              clear hd
              simp only [acan, depR10b, dstOf, h2]
              go_simp
            · have hR := below_step (below_drew (Below.refl _ w9)) hR0
              have h2 : vals 2 = .bool false := (hd 2 (by simp [depR10b])).1
              refine doesg_yes (by simp only [acan, depR10b, dstOf, h2]; rfl) (does_value (W' := W) (v := .pointer (some ⟨gv, 0, none⟩)) ?_ ⟨Below.refl _ _, rfl, trivial⟩)
              clear hd
              simp only [acan, depR10b, dstOf, h2]
              go_simp
            · have hR := below_step (below_drew (Below.refl _ w9)) hR0
              have h2 : vals 2 = .bool false := (hd 2 (by simp [depR10b])).1
              have h4 : vals 4 = .pointer (some ⟨gv, 0, none⟩) := (hd 4 (by simp [depR10b])).1
              clear hd
              refine doesg_yes (by simp only [acan, depR10b, dstOf, h2, h4]; rfl) (does_enter (W' := W) (f := 10) (args := #[.pointer (some ⟨gv, 0, none⟩)]) ?_ ((HC10.out W (below_step HB.out hR)).mono ?_))
              · simp only [acan, depR10b, dstOf, h2, h4]
                go_simp
              · rintro e w1 ⟨rfl, hw⟩
                exact ⟨_, rfl, hw ▸ Below.refl _ _, rfl, trivial⟩
            · have hR := below_step (below_drew (Below.refl _ w9)) hR0
              have h2 : vals 2 = .bool false := (hd 2 (by simp [depR10b])).1
              have h3 : vals 3 = .int .i64 p := (hd 3 (by simp [depR10b])).1
              have h5 : vals 5 = .int .i64 m := (hd 5 (by simp [depR10b])).1
              have hc := HD.out.2
              refine doesg_yes (by simp only [acan, depR10b, dstOf, h2, h3, h5]; rfl) (does_value (W' := W) (v := .bool false) ?_ ⟨Below.refl _ _, rfl, trivial⟩)
              clear hd
              simp only [acan, depR10b, dstOf, h2, h3, h5]
              go_simp
            · have hR := below_step (below_drew (Below.refl _ w9)) hR0
              have h2 : vals 2 = .bool false := (hd 2 (by simp [depR10b])).1
              have h6 : vals 6 = .bool false := (hd 6 (by simp [depR10b])).1
              refine doesg_open rfl (does_value (W' := W) (v := .bool false) ?_ ⟨Below.refl _ _, rfl, trivial⟩)
              clear hd
              simp only [acan, depR10b, dstOf, h2, h6]
              go_simp
            · have hR := below_step (below_drew (Below.refl _ w9)) hR0
              have h7 : vals 7 = .bool false := (hd 7 (by simp [depR10b])).1
              refine doesg_open rfl (does_value (W' := W) (v := .bool false) ?_ ⟨Below.refl _ _, rfl, trivial⟩)
              clear hd
              simp only [acan, depR10b, dstOf, h7]
              go_simp
            · have hR := below_step (below_drew (Below.refl _ w9)) hR0
              have h8 : vals 8 = .bool false := (hd 8 (by simp [depR10b])).1
              refine doesg_yes (by simp only [acan, depR10b, dstOf, h8]; rfl) (does_value (W' := W) (v := .int .i64 k) ?_ ⟨Below.refl _ _, rfl, trivial⟩)
              clear hd
              simp only [acan, depR10b, dstOf, h8]
              go_simp
            · have hR := below_step (below_drew (Below.refl _ w9)) hR0
              have h8 : vals 8 = .bool false := (hd 8 (by simp [depR10b])).1
              have h9 : vals 9 = .int .i64 k := (hd 9 (by simp [depR10b])).1
              have hc := HL.out.1.1
              have hc2 := HL.out.1.2
              refine doesg_yes (by simp only [acan, depR10b, dstOf, h8, h9]; rfl) (does_value (W' := W) (v := .bool true) ?_ ⟨Below.refl _ _, rfl, trivial⟩)
              clear hd
              simp only [acan, depR10b, dstOf, h8, h9]
              go_simp
            · have hR := below_step (below_drew (Below.refl _ w9)) hR0
              have h8 : vals 8 = .bool false := (hd 8 (by simp [depR10b])).1
              have h10 : vals 10 = .bool true := (hd 10 (by simp [depR10b])).1
              refine doesg_yes (by simp only [acan, depR10b, dstOf, h8, h10]; rfl) (does_value (W' := W) (v := .bool true) ?_ ⟨Below.refl _ _, rfl, trivial⟩)
              clear hd
              simp only [acan, depR10b, dstOf, h8, h10]
              go_simp
            · have hR := below_step (below_drew (Below.refl _ w9)) hR0
              have h11 : vals 11 = .bool true := (hd 11 (by simp [depR10b])).1
              refine doesg_yes (by simp only [acan, depR10b, dstOf, h11]; rfl) (does_value (W' := W) (v := .int .i64 p) ?_ ⟨Below.refl _ _, rfl, trivial⟩)
              clear hd
              simp only [acan, depR10b, dstOf, h11]
              go_simp
            · have hR := below_step (below_drew (Below.refl _ w9)) hR0
              have h11 : vals 11 = .bool true := (hd 11 (by simp [depR10b])).1
              refine doesg_yes (by simp only [acan, depR10b, dstOf, h11]; rfl) (does_value (W' := W) (v := .pointer (some ⟨gv, 0, none⟩)) ?_ ⟨Below.refl _ _, rfl, trivial⟩)
              clear hd
              simp only [acan, depR10b, dstOf, h11]
              go_simp
            · have hR := below_step (below_drew (Below.refl _ w9)) hR0
              have h11 : vals 11 = .bool true := (hd 11 (by simp [depR10b])).1
              have h13 : vals 13 = .pointer (some ⟨gv, 0, none⟩) := (hd 13 (by simp [depR10b])).1
              clear hd
              refine doesg_yes (by simp only [acan, depR10b, dstOf, h11, h13]; rfl) (does_enter (W' := W) (f := 12) (args := #[.pointer (some ⟨gv, 0, none⟩)]) ?_ ((HC12k.out W (below_step HB.out hR)).mono ?_))
              · simp only [acan, depR10b, dstOf, h11, h13]
                go_simp
              · rintro e w1 ⟨a, c, rfl, hq, hb⟩
                exact ⟨_, rfl, hb, trivial, a, c, rfl, hq⟩
            · have hR := below_step (below_drew (Below.refl _ w9)) hR0
              have h11 : vals 11 = .bool true := (hd 11 (by simp [depR10b])).1
              refine doesg_yes (by simp only [acan, depR10b, dstOf, h11]; rfl) (does_value (W' := W) (v := .int .i64 k) ?_ ⟨Below.refl _ _, rfl, trivial⟩)
              clear hd
              simp only [acan, depR10b, dstOf, h11]
              go_simp
            · have hR := below_step (below_drew (Below.refl _ w9)) hR0
              have h11 : vals 11 = .bool true := (hd 11 (by simp [depR10b])).1
              have h15 : vals 15 = .int .i64 k := (hd 15 (by simp [depR10b])).1
              refine doesg_yes (by simp only [acan, depR10b, dstOf, h11, h15]; rfl) (does_value (W' := W) (v := .int .i64 j) ?_ ⟨Below.refl _ _, rfl, trivial⟩)
              clear hd
              simp only [acan, depR10b, dstOf, h11, h15]
              go_simp
              exact HL.out.2.2
            · have hR := below_step (below_drew (Below.refl _ w9)) hR0
              have h11 : vals 11 = .bool true := (hd 11 (by simp [depR10b])).1
              have h14 : ∃ (a : Addr) (c : Nat), (vals 14) = .slice (some a) n c ∧ W.cell? (a.add j) = some (.int .i64 q) := (hd 14 (by simp [depR10b])).2
              have h16 : vals 16 = .int .i64 j := (hd 16 (by simp [depR10b])).1
              obtain ⟨a, c, h14, hq⟩ := h14
              have hc := HJN.out
              refine doesg_yes (by simp only [acan, depR10b, dstOf, h11, h16]; rfl) (does_value (W' := W) (v := .pointer (some (a.add j))) ?_ ⟨Below.refl _ _, trivial, a, rfl, hq⟩)
              clear hd hq
              simp only [acan, depR10b, dstOf, h11, h16]
              simp only [h14]
              go_simp
            · have hR := below_step (below_drew (Below.refl _ w9)) hR0
              have h11 : vals 11 = .bool true := (hd 11 (by simp [depR10b])).1
              have h17 : ∃ a : Addr, (vals 17) = .pointer (some (a.add j)) ∧ W.cell? (a.add j) = some (.int .i64 q) := (hd 17 (by simp [depR10b])).2
              obtain ⟨a, h17, hq⟩ := h17
              refine doesg_yes (by simp only [acan, depR10b, dstOf, h11]; rfl) (does_value (W' := W) (v := .int .i64 q) ?_ ⟨Below.refl _ _, rfl, trivial⟩)
              clear hd
              simp only [acan, depR10b, dstOf, h11]
              simp only [h17]
              go_simp
            · have hR := below_step (below_drew (Below.refl _ w9)) hR0
              have h11 : vals 11 = .bool true := (hd 11 (by simp [depR10b])).1
              have h12 : vals 12 = .int .i64 p := (hd 12 (by simp [depR10b])).1
              have h18 : vals 18 = .int .i64 q := (hd 18 (by simp [depR10b])).1
              have hc := HL.out.2.1
              refine doesg_yes (by simp only [acan, depR10b, dstOf, h11, h12, h18]; rfl) (does_value (W' := W) (v := .bool false) ?_ ⟨Below.refl _ _, rfl, trivial⟩)
              clear hd
              simp only [acan, depR10b, dstOf, h11, h12, h18]
              go_simp
            · have hR := below_step (below_drew (Below.refl _ w9)) hR0
              have h8 : vals 8 = .bool false := (hd 8 (by simp [depR10b])).1
              have h11 : vals 11 = .bool true := (hd 11 (by simp [depR10b])).1
              have h19 : vals 19 = .bool false := (hd 19 (by simp [depR10b])).1
              refine doesg_yes (by simp only [acan, depR10b, dstOf, h8, h11, h19]; rfl) (does_value (W' := W) (v := .bool false) ?_ ⟨Below.refl _ _, rfl, trivial⟩)
              clear hd
              simp only [acan, depR10b, dstOf, h8, h11, h19]
              go_simp
            · have hR := below_step (below_drew (Below.refl _ w9)) hR0
              have h8 : vals 8 = .bool false := (hd 8 (by simp [depR10b])).1
              have h20 : vals 20 = .bool false := (hd 20 (by simp [depR10b])).1
              refine doesg_open rfl (does_value (W' := W) (v := .bool false) ?_ ⟨Below.refl _ _, rfl, trivial⟩)
              clear hd
              simp only [acan, depR10b, dstOf, h8, h20]
              go_simp
            · have hR := below_step (below_drew (Below.refl _ w9)) hR0
              have h21 : vals 21 = .bool false := (hd 21 (by simp [depR10b])).1
              refine doesg_open rfl (does_value (W' := W) (v := .bool false) ?_ ⟨Below.refl _ _, rfl, trivial⟩)
              clear hd
              simp only [acan, depR10b, dstOf, h21]
              go_simp
            · have hR := below_step (below_drew (Below.refl _ w9)) hR0
              have h22 : vals 22 = .bool false := (hd 22 (by simp [depR10b])).1
              refine doesg_yes (by simp only [acan, depR10b, dstOf, h22]; rfl) (does_value (W' := W) (v := .pointer (some ⟨gv, 0, none⟩)) ?_ ⟨Below.refl _ _, rfl, trivial⟩)
              clear hd
              simp only [acan, depR10b, dstOf, h22]
              go_simp
            · have hR := below_step (below_drew (Below.refl _ w9)) hR0
              have h22 : vals 22 = .bool false := (hd 22 (by simp [depR10b])).1
              refine doesg_yes (by simp only [acan, depR10b, dstOf, h22]; rfl) (does_value (W' := W) (v := .int .i64 p) ?_ ⟨Below.refl _ _, rfl, trivial⟩)
              clear hd
              simp only [acan, depR10b, dstOf, h22]
              go_simp
            · have hR := below_step (below_drew (Below.refl _ w9)) hR0
              have h22 : vals 22 = .bool false := (hd 22 (by simp [depR10b])).1
              have h23 : vals 23 = .pointer (some ⟨gv, 0, none⟩) := (hd 23 (by simp [depR10b])).1
              have h24 : vals 24 = .int .i64 p := (hd 24 (by simp [depR10b])).1
              clear hd
              refine doesg_yes (by simp only [acan, depR10b, dstOf, h22, h23, h24]; rfl) (does_enter (W' := W) (f := 20) (args := #[.pointer (some ⟨gv, 0, none⟩), .int .i64 p, .int .i64 3]) ?_ ((HC20.out W (below_step HB.out hR)).mono ?_))
              · simp only [acan, depR10b, dstOf, h22, h23, h24]
                go_simp
              · rintro e w1 ⟨A, c, rfl, hb⟩
                exact ⟨_, rfl, hb, trivial, A, c, rfl⟩
            · have hR := below_step (below_drew (Below.refl _ w9)) hR0
              have h22 : vals 22 = .bool false := (hd 22 (by simp [depR10b])).1
              have h25 : ∃ A c, (vals 25) = .slice A (bN b) c := (hd 25 (by simp [depR10b])).2
              obtain ⟨A, c, h25⟩ := h25
              refine doesg_yes (by simp only [acan, depR10b, dstOf, h22]; rfl) (does_value (W' := W) (v := .int .i64 (bN b)) ?_ ⟨Below.refl _ _, rfl, trivial⟩)
              clear hd
              simp only [acan, depR10b, dstOf, h22]
              simp only [h25]
              go_simp
            · have hR := below_step (below_drew (Below.refl _ w9)) hR0
              have h22 : vals 22 = .bool false := (hd 22 (by simp [depR10b])).1
              have h26 : vals 26 = .int .i64 (bN b) := (hd 26 (by simp [depR10b])).1
              refine doesg_yes (by simp only [acan, depR10b, dstOf, h22, h26]; rfl) (does_value (W' := W) (v := .bool b) ?_ ⟨Below.refl _ _, rfl, trivial⟩)
              clear hd
              simp only [acan, depR10b, dstOf, h22, h26]
              cases b <;> go_simp
              all_goals simp [bN]
            · have hR := below_step (below_drew (Below.refl _ w9)) hR0
              have h22 : vals 22 = .bool false := (hd 22 (by simp [depR10b])).1
              refine doesg_yes (by simp only [acan, depR10b, dstOf, h22]; rfl) (does_value (W' := W) (v := .pointer (some ⟨g1, 1, none⟩)) ?_ ⟨Below.refl _ _, rfl, trivial⟩)
              clear hd
              simp only [acan, depR10b, dstOf, h22]
              go_simp
            · have hR := below_step (below_drew (Below.refl _ w9)) hR0
              have h22 : vals 22 = .bool false := (hd 22 (by simp [depR10b])).1
              have h28 : vals 28 = .pointer (some ⟨g1, 1, none⟩) := (hd 28 (by simp [depR10b])).1
              have hc : W.cell? ⟨g1, 1, none⟩ = some (.slice (some ad) n cr) := (blk_cell (blk_below KX.out (below_step HB.out hR)) 1).trans rfl
              refine doesg_yes (by simp only [acan, depR10b, dstOf, h22, h28]; rfl) (does_value (W' := W) (v := .slice (some ad) n cr) ?_ ⟨Below.refl _ _, rfl, trivial⟩)
              clear hd
              simp only [acan, depR10b, dstOf, h22, h28]
              go_simp
            · have hR := below_step (below_drew (Below.refl _ w9)) hR0
              have h22 : vals 22 = .bool false := (hd 22 (by simp [depR10b])).1
              refine doesg_yes (by simp only [acan, depR10b, dstOf, h22]; rfl) (does_value (W' := W) (v := .int .i64 k) ?_ ⟨Below.refl _ _, rfl, trivial⟩)
              clear hd
              simp only [acan, depR10b, dstOf, h22]
              go_simp
            · have hR := below_step (below_drew (Below.refl _ w9)) hR0
              have h22 : vals 22 = .bool false := (hd 22 (by simp [depR10b])).1
              have h29 : vals 29 = .slice (some ad) n cr := (hd 29 (by simp [depR10b])).1
              have h30 : vals 30 = .int .i64 k := (hd 30 (by simp [depR10b])).1
              have hc := HKN.out
              refine doesg_yes (by simp only [acan, depR10b, dstOf, h22, h29, h30]; rfl) (does_value (W' := W) (v := .pointer (some (ad.add (k * 3)))) ?_ ⟨Below.refl _ _, rfl, trivial⟩)
              clear hd
              simp only [acan, depR10b, dstOf, h22, h29, h30]
              go_simp
            · have hR := below_step (below_drew (Below.refl _ w9)) hR0
              have h22 : vals 22 = .bool false := (hd 22 (by simp [depR10b])).1
              have h31 : vals 31 = .pointer (some (ad.add (k * 3))) := (hd 31 (by simp [depR10b])).1
              refine doesg_yes (by simp only [acan, depR10b, dstOf, h22, h31]; rfl) (does_value (W' := W) (v := .pointer (some ⟨(ad.add (k * 3)).block, (ad.add (k * 3)).off + 1, none⟩)) ?_ ⟨Below.refl _ _, rfl, trivial⟩)
              clear hd
              simp only [acan, depR10b, dstOf, h22, h31]
              go_simp
            · have hR := below_step (below_drew (Below.refl _ w9)) hR0
              have h22 : vals 22 = .bool false := (hd 22 (by simp [depR10b])).1
              have h32 : vals 32 = .pointer (some ⟨(ad.add (k * 3)).block, (ad.add (k * 3)).off + 1, none⟩) := (hd 32 (by simp [depR10b])).1
              have hc : W.cell? ⟨(ad.add (k * 3)).block, (ad.add (k * 3)).off + 1, none⟩ = some (.bool b) := pw_cell_below hR HQ.out
              refine doesg_yes (by simp only [acan, depR10b, dstOf, h22, h32]; rfl) (does_value (W' := W) (v := .bool b) ?_ ⟨Below.refl _ _, rfl, trivial⟩)
              clear hd
              simp only [acan, depR10b, dstOf, h22, h32]
              go_simp
            · have hR := below_step (below_drew (Below.refl _ w9)) hR0
              have h22 : vals 22 = .bool false := (hd 22 (by simp [depR10b])).1
              have h27 : vals 27 = .bool b := (hd 27 (by simp [depR10b])).1
              have h33 : vals 33 = .bool b := (hd 33 (by simp [depR10b])).1
              refine doesg_yes (by simp only [acan, depR10b, dstOf, h22, h27, h33]; rfl) (does_value (W' := W) (v := .bool false) ?_ ⟨Below.refl _ _, rfl, trivial⟩)
              clear hd
              simp only [acan, depR10b, dstOf, h22, h27, h33]
              cases b <;> go_simp
            · have hR := below_step (below_drew (Below.refl _ w9)) hR0
              have h22 : vals 22 = .bool false := (hd 22 (by simp [depR10b])).1
              have h34 : vals 34 = .bool false := (hd 34 (by simp [depR10b])).1
              refine doesg_open rfl (does_value (W' := W) (v := .bool false) ?_ ⟨Below.refl _ _, rfl, trivial⟩)
              clear hd
              simp only [acan, depR10b, dstOf, h22, h34]
              go_simp
          case fin =>
            intro vals W hR0 hF
            have hR := below_step (below_drew (Below.refl _ w9)) hR0
            have f0 : vals 0 = .int .i64 p := (hF 0 (by decide)).1
            have f1 : vals 1 = .bool false := (hF 1 (by decide)).1
            have f2 : vals 2 = .bool false := (hF 2 (by decide)).1
            have f3 : vals 3 = .int .i64 p := (hF 3 (by decide)).1
            have f4 : vals 4 = .pointer (some ⟨gv, 0, none⟩) := (hF 4 (by decide)).1
            have f5 : vals 5 = .int .i64 m := (hF 5 (by decide)).1
            have f6 : vals 6 = .bool false := (hF 6 (by decide)).1
            have f7 : vals 7 = .bool false := (hF 7 (by decide)).1
            have f8 : vals 8 = .bool false := (hF 8 (by decide)).1
            have f9 : vals 9 = .int .i64 k := (hF 9 (by decide)).1
            have f10 : vals 10 = .bool true := (hF 10 (by decide)).1
            have f11 : vals 11 = .bool true := (hF 11 (by decide)).1
            have f12 : vals 12 = .int .i64 p := (hF 12 (by decide)).1
            have f13 : vals 13 = .pointer (some ⟨gv, 0, none⟩) := (hF 13 (by decide)).1
            have f14 : ∃ (a : Addr) (c : Nat), (vals 14) = .slice (some a) n c ∧ W.cell? (a.add j) = some (.int .i64 q) := (hF 14 (by decide)).2
            have f15 : vals 15 = .int .i64 k := (hF 15 (by decide)).1
            have f16 : vals 16 = .int .i64 j := (hF 16 (by decide)).1
            have f17 : ∃ a : Addr, (vals 17) = .pointer (some (a.add j)) ∧ W.cell? (a.add j) = some (.int .i64 q) := (hF 17 (by decide)).2
            have f18 : vals 18 = .int .i64 q := (hF 18 (by decide)).1
            have f19 : vals 19 = .bool false := (hF 19 (by decide)).1
            have f20 : vals 20 = .bool false := (hF 20 (by decide)).1
            have f21 : vals 21 = .bool false := (hF 21 (by decide)).1
            have f22 : vals 22 = .bool false := (hF 22 (by decide)).1
            have f23 : vals 23 = .pointer (some ⟨gv, 0, none⟩) := (hF 23 (by decide)).1
            have f24 : vals 24 = .int .i64 p := (hF 24 (by decide)).1
            have f25 : ∃ A c, (vals 25) = .slice A (bN b) c := (hF 25 (by decide)).2
            have f26 : vals 26 = .int .i64 (bN b) := (hF 26 (by decide)).1
            have f27 : vals 27 = .bool b := (hF 27 (by decide)).1
            have f28 : vals 28 = .pointer (some ⟨g1, 1, none⟩) := (hF 28 (by decide)).1
            have f29 : vals 29 = .slice (some ad) n cr := (hF 29 (by decide)).1
            have f30 : vals 30 = .int .i64 k := (hF 30 (by decide)).1
            have f31 : vals 31 = .pointer (some (ad.add (k * 3))) := (hF 31 (by decide)).1
            have f32 : vals 32 = .pointer (some ⟨(ad.add (k * 3)).block, (ad.add (k * 3)).off + 1, none⟩) := (hF 32 (by decide)).1
            have f33 : vals 33 = .bool b := (hF 33 (by decide)).1
            have f34 : vals 34 = .bool false := (hF 34 (by decide)).1
            have f35 : vals 35 = .bool false := (hF 35 (by decide)).1
            clear hF hR0
            rw [show List.range 36 = [0, 1, 2, 3, 4, 5, 6, 7, 8, 9, 10, 11, 12, 13, 14, 15, 16, 17, 18, 19, 20, 21, 22, 23, 24, 25, 26, 27, 28, 29, 30, 31, 32, 33, 34, 35] from rfl]
            simp only [acan, dstOf, Act.put, List.getElem?_toArray, List.getElem?_cons_zero, List.getElem?_cons_succ, Option.bind_some, List.setIfInBounds_toArray, List.set_cons_zero, List.set_cons_succ, List.drop_succ_cons, List.drop_zero, f0, f1, f2, f3, f4, f5, f6, f7, f8, f9, f10, f11, f12, f13, f15, f16, f18, f19, f20, f21, f22, f23, f24, f26, f27, f28, f29, f30, f31, f32, f33, f34, f35]
            clear f0 f1 f2 f3 f4 f5 f6 f7 f8 f9 f10 f11 f12 f13 f14 f15 f16 f17 f18 f19 f20 f21 f22 f23 f24 f25 f26 f27 f28 f29 f30 f31 f32 f33 f34 f35
            go_wp2
            go_roundw
            case rel => exact ⟨k + 1, HKN.out, by rw [wrap_k k (by have := HKN.out; have := HFEW.out; omega)], ⟨below_step HB.out hR⟩, ⟨below_step HWB.out hR⟩⟩
            case measure => exact meas_k n k HKN.out HFEW.out
      · obtain rfl : k = n := by omega
        have heq1 : ∀ W, (Op.equalIn 10000 53 (.agg #[.int .i64 0, .int .i64 0]) (.agg #[.int .i64 0, .int .i64 0])).run Tryz.prog W = .ok true W := fun W => by kernel_rfl
        go_wp2_with (first
          | (go_at_call 12; (with_reducible refine (HC12.out _ HB.out).mono ?_); rintro e w8 ⟨A8, c8, rfl, _, hb⟩; have HB := Aside0.mk (below_step HB.out hb); have HWB := Aside0.mk (below_step HWB.out hb); clear hb)
          | (go_at_call 24; (with_reducible refine (HC24.out _ HB.out).mono ?_); rintro e w9 ⟨rfl, hb⟩; have HB := Aside0.mk (below_step HB.out hb); have HWB := Aside0.mk (below_step HWB.out hb); have i0 := pw_cell_below HWB.out I0.out; have c0 := pw_cell_below HWB.out C0.out; have c1 := pw_cell_below HWB.out C1.out; have r0 := pw_cell_below HWB.out R0.out; clear hb)
          | (go_at_call 13; first
              | ((with_reducible refine (HC13b.out _ HB.out).mono ?_); rintro e w10 ⟨A10, c10, rfl, hb⟩; have HB := Aside0.mk (below_step HB.out hb); have HWB := Aside0.mk (below_step HWB.out hb); have i0 := pw_cell_below HWB.out I0.out; have c0 := pw_cell_below HWB.out C0.out; have c1 := pw_cell_below HWB.out C1.out; have r0 := pw_cell_below HWB.out R0.out; clear hb)
              | ((with_reducible refine (HC13c.out _ HB.out).mono ?_); rintro e w11 ⟨A11, c11, rfl, hb⟩; have HB := Aside0.mk (below_step HB.out hb); have HWB := Aside0.mk (below_step HWB.out hb); clear hb))
          | (go_at_call 20; (with_reducible refine (HC20z.out _ HB.out).mono ?_); rintro e w12 ⟨A12, c12, rfl, hb⟩; have HB := Aside0.mk (below_step HB.out hb); have HWB := Aside0.mk (below_step HWB.out hb); clear hb))
        go_ret
        exact ⟨rfl, below_step HBW.out HB.out⟩
end Go.Proofs.YtpagbjdmiepgmaaGreatDoor.PVpa
