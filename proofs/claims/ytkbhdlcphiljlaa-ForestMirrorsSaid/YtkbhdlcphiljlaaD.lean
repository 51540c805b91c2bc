/- Forest's May, by slices.ContainsFunc, slices.IndexFunc and its closure. -/
import Derived.Test.YtkbhdlcphiljlaaC
namespace Go.Proofs.Ytkbhdlcphiljlaa.PForest
open Go.RowKit Go.Proofs.YtkbhdlcphiljlaaW.PrintWords Go.Proofs.YtkbhdlcphiljlaaW.PrintLast Go.Proofs.YtkbhdlcphiljlaaW.PrintMore

theorem rd_get (l : List S25) (j : Nat) (hj : j < l.length) : rd_T25 l j = l[j] := by
  unfold rd_T25
  rw [Int.toNat_natCast, List.getD_eq_getElem?_getD, List.getElem?_eq_getElem hj]
  rfl
theorem rd_mem (l : List S25) (j : Nat) (hj : j < l.length) : rd_T25 l j ∈ l := by
  rw [rd_get l j hj]
  exact List.getElem_mem _
def bad (s : S25) : Bool := decide (s.f0 < -1) || decide (16 ≤ s.f0) || decide (s.f1 < 0) || decide (2 < s.f1)

set_option maxHeartbeats 4000000 in
set_option maxRecDepth 100000 in
theorem bad_call (s : S25) (w : World) : Calls Try.prog 27 #[.agg #[.int .i64 s.f0, .int .i64 s.f1]] w fun e w' => e = .returned (.bool (bad s)) ∧ Below w.heap.size w w' := by
  obtain ⟨x, y⟩ := s
  have hb : bad ⟨x, y⟩ = (decide (x < -1) || decide (16 ≤ x) || decide (y < 0) || decide (2 < y)) := rfl
  have HBD := Aside0.mk hb
  clear hb
  have HB := Aside0.mk (below_alloc (Below.refl w.heap.size w) (.cells #[.int .i64 x, .int .i64 y] 25))
  simp only []
  by_cases c1 : x < -1
  · go_enter Try.func27, Try.ntmps27
    go_wp2
    go_ret
    exact ⟨by rw [HBD.out]; simp [c1], HB.out⟩
  · by_cases c2 : 16 ≤ x
    · go_enter Try.func27, Try.ntmps27
      go_wp2
      go_ret
      exact ⟨by rw [HBD.out]; simp [c2], HB.out⟩
    · by_cases c3 : y < 0
      · go_enter Try.func27, Try.ntmps27
        go_wp2
        go_ret
        exact ⟨by rw [HBD.out]; simp [c3], HB.out⟩
      · by_cases c4 : 2 < y
        · go_enter Try.func27, Try.ntmps27
          go_wp2
          go_ret
          exact ⟨by rw [HBD.out]; simp [c4], HB.out⟩
        · go_enter Try.func27, Try.ntmps27
          go_wp2
          go_ret
          exact ⟨by rw [HBD.out]; simp [c1, c2, c3, c4], HB.out⟩

set_option maxHeartbeats 4000000 in
set_option maxRecDepth 100000 in
theorem index_call (A0 : Option Addr) (c0 : Nat) (l : List S25) (w : World) (hr0 : Kd.C k25 w A0 l.length l) (hl : l.length ≤ 1000000) :
    Calls Try.prog 31 #[.slice A0 l.length c0, .func (.func 27) #[] #[]] w fun e w' => ∃ r : Int, e = .returned (.int .i64 r) ∧ (0 ≤ r ↔ l.any bad = true) ∧ Below w.heap.size w w' := by
  have HR0 := Aside0.mk hr0
  clear hr0
  go_enter Try.func31, Try.ntmps31
  go_wp2
  go_loopw [8] (fun i wr => ∃ k : Nat, k ≤ l.length ∧ i = .int .i64 k ∧ Aside0 (∀ j : Nat, j < k → bad (rd_T25 l j) = false) ∧ Aside0 (Below w.heap.size w wr))
    (fun i _ => l.length - (intOf i).toNat)
  case atStart => exact ⟨0, Nat.zero_le _, rfl, ⟨fun j hj => absurd hj (Nat.not_lt_zero _)⟩, ⟨Below.refl _ _⟩⟩
  case round =>
    obtain ⟨k, hk, rfl, HF, HB⟩ := hrel
    by_cases hkl : k < l.length
    · obtain ⟨ad, e1, hx0, hx1⟩ := at_T25 HR0.out (k : Int) (by omega) (by omega)
      cases e1
      replace hx0 := (HB.out.cell (World.block_lt_of_cell? w _ hx0)).trans hx0
      replace hx1 := (HB.out.cell (World.block_lt_of_cell? w _ hx1)).trans hx1
      simp only [Int.toNat_natCast] at hx0 hx1
      obtain ⟨tk, htk⟩ : ∃ tk, tk = rd_T25 l k := ⟨_, rfl⟩
      rw [← htk] at hx0 hx1
      have HTK := Aside0.mk htk
      clear htk
      obtain ⟨b, hb⟩ : ∃ b, b = bad tk := ⟨_, rfl⟩
      have HBB := Aside0.mk hb
      clear hb
      cases b
      · go_wp2_with ((with_reducible refine gate_value (x := 11) rfl ?_); go_must (refine goesF_ (f := 27) (caps := []) rfl rfl rfl Try.func27 (by kernel_rfl) rfl [.agg #[.int .i64 tk.f0, .int .i64 tk.f1]] (by (try simp only [List.map_toArray, List.map_cons, List.map_nil]); first | done | rfl) ?_); go_must (refine (bad_call tk _).mono ?_); rintro e w1 ⟨rfl, hb⟩; refine ⟨_, rfl, ?_⟩; rw [← HBB.out]; have HB1 := Aside0.mk (below_step HB.out hb); clear hb)
        go_roundw
        case measure => simp [intOf]; omega
        case rel =>
          refine ⟨k + 1, by omega, by simp, ⟨fun j hj => ?_⟩, HB1⟩
          by_cases hjk : j < k
          · exact HF.out j hjk
          · obtain rfl : j = k := by omega
            rw [← HTK.out, ← HBB.out]
      · go_wp2_with ((with_reducible refine gate_value (x := 11) rfl ?_); go_must (refine goesF_ (f := 27) (caps := []) rfl rfl rfl Try.func27 (by kernel_rfl) rfl [.agg #[.int .i64 tk.f0, .int .i64 tk.f1]] (by (try simp only [List.map_toArray, List.map_cons, List.map_nil]); first | done | rfl) ?_); go_must (refine (bad_call tk _).mono ?_); rintro e w1 ⟨rfl, hb⟩; refine ⟨_, rfl, ?_⟩; rw [← HBB.out]; have HB1 := Aside0.mk (below_step HB.out hb); clear hb)
        go_ret
        refine ⟨_, rfl, ⟨fun _ => ?_, fun _ => by omega⟩, HB1.out⟩
        refine List.any_eq_true.mpr ⟨tk, ?_, HBB.out.symm⟩
        rw [HTK.out]
        exact rd_mem l k hkl
    · obtain rfl : k = l.length := by omega
      go_wp2
      go_ret
      refine ⟨_, rfl, ⟨fun h => absurd h (by decide), fun h => ?_⟩, HB.out⟩
      obtain ⟨x, hx, hbx⟩ := List.any_eq_true.mp h
      obtain ⟨j, hj, rfl⟩ := List.mem_iff_getElem.mp hx
      have := HF.out j hj
      rw [rd_get l j hj, hbx] at this
      cases this

set_option maxHeartbeats 4000000 in
set_option maxRecDepth 100000 in
theorem contains_call (A0 : Option Addr) (c0 : Nat) (l : List S25) (w : World) (hr0 : Kd.C k25 w A0 l.length l) (hl : l.length ≤ 1000000) :
    Calls Try.prog 26 #[.slice A0 l.length c0, .func (.func 27) #[] #[]] w fun e w' => e = .returned (.bool (l.any bad)) ∧ Below w.heap.size w w' := by
  have HR0 := Aside0.mk hr0
  clear hr0
  go_enter Try.func26, Try.ntmps26
  go_wp2_with (go_at_call 31; go_must (refine (index_call A0 c0 l _ HR0.out hl).mono ?_); rintro e w1 ⟨r, rfl, hri, hb⟩; have HRI := Aside0.mk hri; have HB := Aside0.mk hb; clear hri hb)
  go_ret
  exact ⟨congrArg (fun b => Ending.returned (.bool b)) (Bool.eq_iff_iff.mpr (by rw [decide_eq_true_iff]; exact HRI.out)), HB.out⟩

def forest_May.f (l0 : List S25) : Option Bool := if l0.length ≤ 1000000 then some (!l0.any bad) else none
set_option maxHeartbeats 4000000 in
set_option maxRecDepth 100000 in
theorem forest_May.calls (A0 : Option Addr) (c0 : Nat) (l0 : List S25) (r : Bool) (w : World) (hr0 : Kd.C k25 w A0 l0.length l0) (_hc0 : l0.length ≤ c0) (h : forest_May.f l0 = some r) :
    Calls Try.prog 13 #[.slice A0 l0.length c0] w fun e w' => e = .returned (.bool r) ∧ Below w.heap.size w w' := by
  unfold forest_May.f at h
  split at h
  · rename_i hl
    obtain rfl := Option.some.inj h
    clear h
    have HR0 := Aside0.mk hr0
    clear hr0
    go_enter Try.func13, Try.ntmps13
    go_wp2_with (go_at_call 26; go_must (refine (contains_call A0 c0 l0 _ HR0.out hl).mono ?_); rintro e w1 ⟨rfl, hb⟩; have HB := Aside0.mk hb; clear hb)
    go_ret
    exact ⟨rfl, HB.out⟩
  · cases h
end Go.Proofs.Ytkbhdlcphiljlaa.PForest
