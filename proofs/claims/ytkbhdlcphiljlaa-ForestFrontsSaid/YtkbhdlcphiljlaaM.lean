/- Plain: what is left of ForestWraps and ForestFronts. -/
import Derived.Test.YtkbhdlcphiljlaaPForestx5
import Derived.Test.YtkbhdlcphiljlaaJ
namespace Go.Proofs.Ytkbhdlcphiljlaa.PForest
open Go.RowKit Go.Proofs.YtkbhdlcphiljlaaW.PrintWords Go.Proofs.YtkbhdlcphiljlaaW.PrintLast

theorem pairs_f (l : List S25) (hl : l.length ≤ 1000000) : forest_Pairs.f l = some (pairOf l.length (run l l.length).ev) := by unfold forest_Pairs.f; rw [if_pos hl]
theorem deep_f (l : List S25) (hl : l.length ≤ 1000000) : forest_Deep.f l = some (run l l.length).m := by unfold forest_Deep.f; rw [if_pos hl]

theorem wrapsLaw (l : List S25) : gobolaw15_ForestWraps.f l = some true := by
  unfold gobolaw15_ForestWraps.f
  by_cases c : (l.length : Int) > 40
  · rw [if_pos c, told_true]
    rfl
  · have hw : ([(⟨0, 1⟩ : S25)] ++ l) ++ [(⟨0, 2⟩ : S25)] = wrap l := rfl
    have hwl := wrap_len l
    rw [if_neg c, Option.bind_some, if_pos (by simp only [List.length_singleton]; omega), Option.bind_some, if_pos (by simp only [List.length_append, List.length_singleton]; omega), Option.bind_some, hw, well_iff l (by omega), Option.bind_some]
    by_cases h : Wl l
    · obtain ⟨h1, h2, h3⟩ := wrap_wl h
      have hle := run_le l l.length
      have ho := out_inv (wrap l) (wrap l).length (wrap l).length (Nat.le_refl _)
      have h0 : rd (pairOf (wrap l).length (run (wrap l) (wrap l).length).ev) 0 = ((l.length + 1 : Nat) : Int) := rd_at (a := 0) ((ho.two 0 (l.length + 1) (by omega)).mpr ⟨by omega, by omega, .inl h3⟩)
      rw [if_pos (decide_eq_true h), pairs_f _ (by omega), Option.bind_some, told_true, Option.bind_some, if_pos rfl, well_iff _ (by omega), Option.bind_some, if_pos (decide_eq_true h1), deep_f _ (by omega), Option.bind_some, deep_f _ (by omega), Option.bind_some]
      rw [if_pos (by rw [h2]; unfold wrap64; omega), if_pos (by rw [pairOf_length]), if_pos (by rw [pairOf_length]; omega), h0, if_pos (by unfold wrap64; omega), Option.bind_some, if_pos (by simp only [List.length_nil]; omega), Option.bind_some, List.nil_append, if_pos (by omega), well_iff _ (by rw [List.length_append]; omega), Option.bind_some, decide_eq_true (twice_wl h)]
    · rw [if_neg (by rw [decide_eq_false h]; decide), told_true, Option.bind_some, if_pos rfl, Option.bind_some, if_pos (by simp only [List.length_nil]; omega), Option.bind_some, List.nil_append, if_pos (by omega), well_iff _ (by rw [List.length_append, List.length_singleton]; omega), Option.bind_some, decide_eq_false (call_not_wl l 0)]
      rfl

theorem fronts_loop (l : List S25) (hl : l.length ≤ 80) (k : Nat) (hk : k ≤ l.length) (P Q : List Int) (hP : P = pairOf l.length (run l l.length).ev) (hQ : Q = pairOf k (run (l.take k) k).ev) (m : Nat) :
    ∀ i : Nat, i + m = k → Ev (fun q => gobolaw15_ForestFronts.l0 q l k P Q i) true := by
  have hlt : (l.take k).length = k := by rw [List.length_take]; omega
  have happ : l.take k ++ l.drop k = l := List.take_append_drop k l
  have ho := out_inv l l.length l.length (Nat.le_refl _)
  have ho' := out_inv (l.take k) (l.take k).length (l.take k).length (Nat.le_refl _)
  have hf := front_at (l.take k) (l.drop k)
  rw [happ] at hf
  rw [hlt] at hf ho'
  rw [← hP] at ho hf
  rw [← hQ] at ho' hf
  induction m with
  | zero =>
    intro i hi
    refine EvL fun q => ?_
    rw [gobolaw15_ForestFronts.l0, if_neg (by omega), told_true, Option.bind_some, if_pos rfl, if_pos (by omega), if_pos (by omega), Int.toNat_natCast, deep_f _ (by omega), Option.bind_some, deep_f _ (by omega), Option.bind_some, hlt, take_run l k hk]
    have hm := (most_inv l k).at_
    obtain ⟨j, hj, hj'⟩ := hm
    have := (most_inv l l.length).le j (by omega)
    rw [if_pos (by omega), well_iff _ (by simp), Option.bind_some]
    rfl
  | succ m ih =>
    intro i hi
    have nx := ih (i + 1) (by omega)
    have e64 := up64 (i := i) (n := l.length) (by omega) (by omega)
    have hil : i < l.length := by omega
    refine Ev.step (fun q => ?_) nx
    rcases ho.one i hil with h1 | ⟨c, h1⟩
    · have h2 : Q[i]? = some (-1) := by
        rcases ho'.one i (by omega) with h2 | ⟨b, h2⟩
        · exact h2
        · obtain ⟨_, hb, _⟩ := (ho'.two i b (by omega)).mp h2
          have := (hf i (by omega) b hb).mpr h2
          rw [h1] at this
          injection this with this
          omega
      rw [gobolaw15_ForestFronts.l0, if_pos (by omega), if_pos (by omega), if_pos (by rw [ho.len]; omega), rd_at h1, if_neg (by omega), if_pos (by rw [ho'.len]; omega), rd_at h2, if_pos rfl, e64]
    · by_cases hck : c < k
      · have h2 := (hf i (by omega) c hck).mp h1
        rw [gobolaw15_ForestFronts.l0, if_pos (by omega), if_pos (by omega), if_pos (by rw [ho.len]; omega), rd_at h1, if_neg (by omega), if_pos (by rw [ho'.len]; omega), rd_at h2, if_pos rfl, e64]
      · have h2 : Q[i]? = some (-1) := by
          rcases ho'.one i (by omega) with h2 | ⟨b, h2⟩
          · exact h2
          · obtain ⟨_, hb, _⟩ := (ho'.two i b (by omega)).mp h2
            have := (hf i (by omega) b hb).mpr h2
            rw [h1] at this
            injection this with this
            omega
        rw [gobolaw15_ForestFronts.l0, if_pos (by omega), if_pos (by omega), if_pos (by rw [ho.len]; omega), rd_at h1, if_pos (by omega), if_pos (by rw [ho'.len]; omega), rd_at h2, if_pos rfl, e64]

theorem frontsLaw (l : List S25) (a : Int) (_w : (Lit.int .i64 a).wf = true) : ∃ k, gobolaw15_ForestFronts.f k l a = some true := by
  by_cases c : (l.length : Int) > 80
  · refine ⟨0, ?_⟩
    unfold gobolaw15_ForestFronts.f
    rw [if_pos c, told_true]
    rfl
  · have hd : IntKind.u64.wrap (wrap64 ((l.length : Int) + 1)) = ((l.length + 1 : Nat) : Int) := by
      have e : wrap64 ((l.length : Int) + 1) = ((l.length + 1 : Nat) : Int) := by unfold wrap64; omega
      rw [e]
      show ((l.length + 1 : Nat) : Int) % 18446744073709551616 = _
      omega
    obtain ⟨k, hk, he⟩ : ∃ k : Nat, k ≤ l.length ∧ wrap64 (Int.tmod (IntKind.u64.wrap a) ((l.length + 1 : Nat) : Int)) = k := by
      have h0 : 0 ≤ IntKind.u64.wrap a := by show 0 ≤ a % _; exact Int.emod_nonneg _ (by decide)
      have h1 := Int.tmod_nonneg ((l.length + 1 : Nat) : Int) h0
      have h2 := Int.tmod_lt_of_pos (IntKind.u64.wrap a) (show (0 : Int) < ((l.length + 1 : Nat) : Int) by omega)
      refine ⟨(Int.tmod (IntKind.u64.wrap a) ((l.length + 1 : Nat) : Int)).toNat, by omega, ?_⟩
      unfold wrap64
      omega
    have hlt : (l.take k).length = k := by rw [List.length_take]; omega
    have lp := fronts_loop l (by omega) k hk _ _ rfl rfl k 0 (by omega)
    have tail : Ev (fun q => gobolaw15_ForestFronts.j0 q l k (pairOf l.length (run l l.length).ev) (pairOf k (run (l.take k) k).ev) false) true := by
      refine Ev.step (fun q => ?_) lp
      rw [gobolaw15_ForestFronts.j0, if_neg (by decide)]
      rfl
    obtain ⟨q, h⟩ := tail.rounds
    refine ⟨q, ?_⟩
    unfold gobolaw15_ForestFronts.f
    rw [if_neg c, hd, if_neg (by omega), pairs_f l (by omega), Option.bind_some, he, if_pos (by omega), if_pos (by omega), Int.toNat_natCast, pairs_f _ (by omega), Option.bind_some, if_pos (by rw [pairOf_length]), hlt, show ((pairOf k (run (l.take k) k).ev).length != (k : Int)) = false from by rw [pairOf_length]; simp]
    exact h
end Go.Proofs.Ytkbhdlcphiljlaa.PForest
