/- Forest's functions that hand closures to walk: what each answers. -/
import Derived.Test.YtkbhdlcphiljlaaD
namespace Go.Proofs.Ytkbhdlcphiljlaa.PForest
open Go.RowKit Go.Proofs.YtkbhdlcphiljlaaW.PrintWords Go.Proofs.YtkbhdlcphiljlaaW.PrintLast Go.Proofs.YtkbhdlcphiljlaaW.PrintMore

def forest_Open.f (l0 : List S25) : Option (List Int) := if l0.length ≤ 1000000 then some (run l0 l0.length).o else none
def forest_Deep.f (l0 : List S25) : Option Int := if l0.length ≤ 1000000 then some (run l0 l0.length).m else none
def forest_Lost.f (l0 : List S25) : Option (List Int) := if l0.length ≤ 1000000 then some (lostOf (run l0 l0.length).ev) else none
def forest_Pairs.f (l0 : List S25) : Option (List Int) := if l0.length ≤ 1000000 then some (pairOf l0.length (run l0 l0.length).ev) else none

set_option maxHeartbeats 4000000 in
set_option maxRecDepth 100000 in
theorem forest_Open.calls (A0 : Option Addr) (c0 : Nat) (l0 : List S25) (r : List Int) (w : World) (hr0 : Kd.C k25 w A0 l0.length l0) (hc0 : l0.length ≤ c0) (h : forest_Open.f l0 = some r) :
    Calls Try.prog 17 #[.slice A0 l0.length c0] w fun e w' => ∃ v0_ : Value, e = .returned v0_ ∧ Kd.R (Kd.int .i64) 3 w' w.heap.size (fun _ => True) v0_ r ∧ Below w.heap.size w w' := by
  unfold forest_Open.f at h
  split at h
  · rename_i hl
    obtain rfl := Option.some.inj h
    clear h
    have HR0 := Aside0.mk hr0
    clear hr0
    go_enter Try.func17, Try.ntmps17
    go_wp2_with (go_at_call 23; go_must (refine (walk_any A0 c0 l0 w w (clos_noop28 _ w) HR0.out hc0 hl trivial (Below.refl _ _)).mono ?_); rintro e w1 ⟨v, rfl, ho, _, hb⟩; have HO := Aside0.mk ho; have HB := Aside0.mk hb; clear ho hb; obtain ⟨A1, cap1, eo1⟩ := Kd.R_slice HO.out; subst eo1)
    go_ret
    exact ⟨_, rfl, HO.out, HB.out⟩
  · cases h

set_option maxHeartbeats 4000000 in
set_option maxRecDepth 100000 in
theorem forest_Deep.calls (A0 : Option Addr) (c0 : Nat) (l0 : List S25) (r : Int) (w : World) (hr0 : Kd.C k25 w A0 l0.length l0) (hc0 : l0.length ≤ c0) (h : forest_Deep.f l0 = some r) :
    Calls Try.prog 11 #[.slice A0 l0.length c0] w fun e w' => e = .returned (.int .i64 r) ∧ Below w.heap.size w w' := by
  unfold forest_Deep.f at h
  split at h
  · rename_i hl
    obtain rfl := Option.some.inj h
    clear h
    have HR0 := Aside0.mk hr0
    clear hr0
    go_enter Try.func11, Try.ntmps11
    go_wp2_with (go_at_call 23; go_must (refine (walk_any A0 c0 l0 w w (clos_noop24 _ w) HR0.out hc0 hl trivial (Below.refl _ _)).mono ?_); rintro e w1 ⟨v, rfl, ho, _, hb⟩; have HO := Aside0.mk ho; have HB := Aside0.mk hb; clear ho hb; obtain ⟨A1, cap1, eo1⟩ := Kd.R_slice HO.out; subst eo1)
    go_ret
    exact ⟨rfl, HB.out⟩
  · cases h

set_option maxHeartbeats 4000000 in
set_option maxRecDepth 100000 in
theorem forest_Lost.calls (A0 : Option Addr) (c0 : Nat) (l0 : List S25) (r : List Int) (w : World) (hr0 : Kd.C k25 w A0 l0.length l0) (hc0 : l0.length ≤ c0) (h : forest_Lost.f l0 = some r) :
    Calls Try.prog 19 #[.slice A0 l0.length c0] w fun e w' => ∃ v0_ : Value, e = .returned v0_ ∧ Kd.R (Kd.int .i64) 3 w' w.heap.size (fun _ => True) v0_ r ∧ Below w.heap.size w w' := by
  unfold forest_Lost.f at h
  split at h
  · rename_i hl
    obtain rfl := Option.some.inj h
    clear h
    have HR0 := Aside0.mk hr0
    clear hr0
    have HT := Aside0.mk (show TG w w.heap.size lostOf [] (.slice none 0 0) (w.alloc (.cells #[.slice none 0 0] 29)) from ⟨Nat.le_refl _, fun k hk => by simp [Value.ownBlock] at hk, _, blk_new w _, Kd.R_nil _ _ _ _ _⟩)
    have HB0 := Aside0.mk (below_alloc (Below.refl w.heap.size w) (.cells #[.slice none 0 0] 29))
    go_enter Try.func19, Try.ntmps19
    go_wp2_with (go_at_call 23; go_must (refine (walk_any A0 c0 l0 w _ (clos_lost _ hl w w.heap.size) HR0.out hc0 hl HT.out HB0.out).mono ?_); rintro e w1 ⟨v, rfl, ho, ht, hb⟩; obtain ⟨_, _, u, hu, hru⟩ := ht; have HO := Aside0.mk (Kd.R_mono hru (fun _ hk => hk.1)); have HB := Aside0.mk hb; clear ho hb hru; obtain ⟨A1, cap1, eo1⟩ := Kd.R_slice HO.out; subst eo1; have hcell1 := (blk_cell hu 0).trans (show (#[Value.slice A1 (lostOf (run l0 l0.length).ev).length cap1] : Array Value)[0]? = some (Value.slice A1 (lostOf (run l0 l0.length).ev).length cap1) from rfl); have HU := Aside0.mk hu; clear hu)
    go_ret
    exact ⟨_, rfl, HO.out, HB.out⟩
  · cases h

set_option maxHeartbeats 4000000 in
set_option maxRecDepth 100000 in
theorem forest_Pairs.calls (A0 : Option Addr) (c0 : Nat) (l0 : List S25) (r : List Int) (w : World) (hr0 : Kd.C k25 w A0 l0.length l0) (hc0 : l0.length ≤ c0) (h : forest_Pairs.f l0 = some r) :
    Calls Try.prog 12 #[.slice A0 l0.length c0] w fun e w' => ∃ v0_ : Value, e = .returned v0_ ∧ Kd.R (Kd.int .i64) 3 w' w.heap.size (fun _ => True) v0_ r ∧ Below w.heap.size w w' := by
  unfold forest_Pairs.f at h
  split at h
  · rename_i hl
    obtain rfl := Option.some.inj h
    clear h
    have HR0 := Aside0.mk hr0
    clear hr0
    go_enter Try.func12, Try.ntmps12
    go_wp2_with ((with_reducible refine gate_dst (N := 7) rfl ?_); go_must (refine Kd.R_make (Kd.int .i64) _ 3 rfl (N := 7) rfl 29 _ _ rfl (l0.length : Int) rfl rfl Try.underlying29 (.int .i64 0) 8 info3 rfl (by decide) (by omega) 0 (ok := fun _ => True) (okp := fun _ => True) rfl (fun _ hk => hk) trivial (by omega) (by omega) (Below.refl _ _) (Nat.le_refl _) ?_); intro v1 w1 ho hb _ _; have HO := Aside0.mk ho; have HB := Aside0.mk hb; clear ho hb; obtain ⟨A1, cap1, eo1⟩ := Kd.R_slice HO.out; simp only [List.length_replicate, Int.toNat_natCast] at eo1; subst eo1)
    have H0 := Aside0.mk (blk_new w1 (.cells #[.slice A1 l0.length cap1] 29 (0, 0)))
    have HGE := Aside0.mk HB.out.size
    go_loopw [10] (fun i wr => ∃ k : Nat, ∃ xs : List Int, k ≤ l0.length ∧ i = .int .i64 k ∧ xs.length = l0.length ∧ Aside0 (∀ j : Nat, j < k → xs[j]? = some (-1)) ∧ Aside0 (wr.heap[w1.heap.size]? = some (.cells #[.slice A1 l0.length cap1] 29 (0, 0))) ∧ Aside0 (Kd.R (Kd.int .i64) 3 wr w.heap.size (fun _ => True) (.slice A1 l0.length cap1) xs) ∧ Aside0 (Below w.heap.size w wr))
      (fun i _ => l0.length - (intOf i).toNat)
    case atStart => exact ⟨0, List.replicate l0.length 0, Nat.zero_le _, rfl, by simp, ⟨fun j hj => absurd hj (Nat.not_lt_zero _)⟩, H0, ⟨Kd.R_alloc HO.out _⟩, ⟨below_alloc HB.out _⟩⟩
    case round =>
      clear H0
      obtain ⟨k, xs, hk, rfl, hxl, HF, HG, HO1, HB1⟩ := hrel
      have hcell := (blk_cell HG.out 0).trans (show (#[Value.slice A1 l0.length cap1] : Array Value)[0]? = some (.slice A1 l0.length cap1) from rfl)
      by_cases hkl : k < l0.length
      · obtain ⟨b, cap, eo, hb0, hb1, _⟩ := Kd.R_form HO1.out (by omega)
        injection eo with eo1 eo2 eo3
        clear eo2
        subst eo1 eo3
        obtain ⟨hx1, hf1⟩ := Kd.R_celln 0 HO1.out (k : Int) (by omega) (by omega)
        simp only [Int.toNat_natCast] at hx1 hf1
        have hpu := (Kd.R_putg HO1.out (k : Int) (-1)).1
        simp only [Int.toNat_natCast] at hpu
        have HPU := Aside0.mk hpu
        have HN := Aside0.mk (Kd.R_ne HO1.out HG.out (by decide))
        have HG2 := Aside0.mk (blk_far (p := ⟨b, k, none⟩) HG.out (fun e => HN.out (by rw [e]; rfl)) (.int .i64 (-1)))
        have HB2 := Aside0.mk (below_set (j := k) (v := .int .i64 (-1)) HB1.out hb0)
        clear hpu
        go_wp2
        go_roundw
        case measure => simp [intOf]; omega
        case rel =>
          refine ⟨k + 1, xs.set k (-1), by omega, by simp, by simp [hxl], ⟨fun j hj => ?_⟩, HG2, HPU, HB2⟩
          rw [List.getElem?_set]
          split
          · rw [if_pos (by omega)]
          · exact HF.out j (by omega)
      · obtain rfl : k = l0.length := by omega
        have hxs : xs = List.replicate l0.length (-1) := by
          refine List.ext_getElem? fun j => ?_
          by_cases hj : j < l0.length
          · rw [HF.out j hj, List.getElem?_replicate, if_pos hj]
          · rw [List.getElem?_eq_none (by omega), List.getElem?_replicate, if_neg hj]
        subst hxs
        have HT := Aside0.mk (show TG w w1.heap.size (pairOf l0.length) [] (.slice none 0 0) wr from ⟨HGE.out, fun k hk => by simp [Value.ownBlock] at hk, _, HG.out, Kd.R_mono HO1.out (fun _ _ => ⟨trivial, by simp [Value.ownBlock]⟩)⟩)
        go_wp2_with (go_at_call 23; go_must (refine (walk_any A0 c0 l0 w _ (clos_pairs _ w w1.heap.size) HR0.out hc0 hl HT.out HB1.out).mono ?_); rintro e w2 ⟨v, rfl, ho, ht, hb⟩; obtain ⟨_, _, u, hu, hru⟩ := ht; have HO2 := Aside0.mk (Kd.R_mono hru (fun _ hk => hk.1)); have HB2 := Aside0.mk hb; clear ho hb hru; obtain ⟨A2, cap2, eo2⟩ := Kd.R_slice HO2.out; subst eo2; have hcell2 := (blk_cell hu 0).trans (show (#[Value.slice A2 (pairOf l0.length (run l0 l0.length).ev).length cap2] : Array Value)[0]? = some (Value.slice A2 (pairOf l0.length (run l0 l0.length).ev).length cap2) from rfl); have HU := Aside0.mk hu; clear hu)
        go_ret
        exact ⟨_, rfl, HO2.out, HB2.out⟩
  · cases h
end Go.Proofs.Ytkbhdlcphiljlaa.PForest
