/- Plain: what forest's Pairs, Lost and Deep come to, said by who are partners. -/
import Derived.Test.YtkbhdlcphiljlaaF
namespace Go.Proofs.Ytkbhdlcphiljlaa.PForest
open Go.RowKit Go.Proofs.YtkbhdlcphiljlaaW.PrintWords Go.Proofs.YtkbhdlcphiljlaaW.PrintLast

/-- What is written of partners, behind i symbols: out has n places. -/
structure Out (l : List S25) (n i : Nat) (out : List Int) : Prop where
  len : out.length = n
  one : ∀ a : Nat, a < n → out[a]? = some (-1) ∨ ∃ b : Nat, out[a]? = some (b : Int)
  two : ∀ a b : Nat, a < n → (out[a]? = some (b : Int) ↔ a < i ∧ b < i ∧ (Match l a b ∨ Match l b a))

theorem pairOf_snoc (n : Nat) (ev : List (Int × Int)) (p : Int × Int) : pairOf n (ev ++ [p]) = put1 (pairOf n ev) p := by simp [pairOf]

theorem not_both {l : List S25} {a b : Nat} (h : K l a = 2) (hm : Match l a b) : False := by have := hm.2.1; omega
theorem not_both' {l : List S25} {a b : Nat} (h : K l b = 1) (hm : Match l a b) : False := by have := hm.2.2.1; omega

theorem out_inv (l : List S25) (n i : Nat) (hi : i ≤ n) : Out l n i (pairOf n (run l i).ev) := by
  induction i with
  | zero =>
    refine ⟨pairOf_length _ _, fun a ha => .inl ?_, fun a b ha => ⟨fun h => ?_, fun h => absurd h.1 (Nat.not_lt_zero _)⟩⟩
    · show (List.replicate n (-1))[a]? = _
      rw [List.getElem?_replicate, if_pos ha]
    · have h' : (List.replicate n (-1 : Int))[a]? = some (b : Int) := h
      rw [List.getElem?_replicate, if_pos ha] at h'
      injection h' with h'
      omega
  | succ i ih =>
    have ih := ih (by omega)
    have hr : run l (i + 1) = step (run l i) i (K l i) := rfl
    rw [hr]
    by_cases hk : K l i = 1
    · have e : (step (run l i) i (K l i)).ev = (run l i).ev := by unfold step; rw [if_pos hk]
      rw [e]
      refine ⟨ih.len, ih.one, fun a b ha => (ih.two a b ha).trans ⟨fun ⟨h1, h2, h3⟩ => ⟨by omega, by omega, h3⟩, fun ⟨h1, h2, h3⟩ => ?_⟩⟩
      rcases h3 with h3 | h3
      · have := h3.1
        have hb : b ≠ i := fun e => by rw [e] at h3; exact not_both' hk h3
        exact ⟨by omega, by omega, .inl h3⟩
      · have := h3.1
        have hb : a ≠ i := fun e => by rw [e] at h3; exact not_both' hk h3
        exact ⟨by omega, by omega, .inr h3⟩
    · by_cases hk2 : K l i = 2
      · by_cases ho : (run l i).o = []
        · have e : (step (run l i) i (K l i)).ev = (run l i).ev ++ [(-1, (i : Int))] := by unfold step; rw [if_neg hk, if_pos hk2, if_pos ho]
          have hn := match_none ho
          rw [e, pairOf_snoc]
          have hp : put1 (pairOf n (run l i).ev) (-1, (i : Int)) = (pairOf n (run l i).ev).set i (-1) := by unfold put1; rw [if_neg (show ¬ (0 : Int) ≤ -1 by decide), Int.toNat_natCast]
          rw [hp]
          refine ⟨by rw [List.length_set, ih.len], fun a ha => ?_, fun a b ha => ?_⟩
          · rw [List.getElem?_set]
            split
            · rw [if_pos (by rw [ih.len]; omega)]; exact .inl rfl
            · exact ih.one a ha
          · rw [List.getElem?_set]
            split
            · rename_i hia
              subst hia
              rw [if_pos (by rw [ih.len]; omega)]
              refine ⟨fun h => by injection h with h; omega, fun ⟨_, _, h3⟩ => ?_⟩
              rcases h3 with h3 | h3
              · exact (not_both hk2 h3).elim
              · exact (hn _ h3).elim
            · rename_i hia
              refine (ih.two a b ha).trans ⟨fun ⟨h1, h2, h3⟩ => ⟨by omega, by omega, h3⟩, fun ⟨h1, h2, h3⟩ => ⟨by omega, ?_, h3⟩⟩
              have hb : b ≠ i := fun e => by
                rw [e] at h3
                rcases h3 with h3 | h3
                · exact hn _ h3
                · exact not_both hk2 h3
              omega
        · obtain ⟨k, hkl, hm, hu⟩ := match_last hk2 ho
          have hki := hm.1
          have e : (step (run l i) i (K l i)).ev = (run l i).ev ++ [((k : Int), (i : Int))] := by unfold step; rw [if_neg hk, if_pos hk2, if_neg ho, hkl]
          rw [e, pairOf_snoc]
          have hp : put1 (pairOf n (run l i).ev) ((k : Int), (i : Int)) = ((pairOf n (run l i).ev).set i k).set k i := by unfold put1; rw [if_pos (show (0 : Int) ≤ (k : Int) by omega), Int.toNat_natCast, Int.toNat_natCast]
          rw [hp]
          have hlen : (pairOf n (run l i).ev).length = n := ih.len
          refine ⟨by rw [List.length_set, List.length_set, hlen], fun a ha => ?_, fun a b ha => ?_⟩
          · rw [List.getElem?_set, List.getElem?_set]
            split
            · rw [if_pos (by rw [List.length_set, hlen]; omega)]; exact .inr ⟨i, rfl⟩
            · split
              · rw [if_pos (by rw [hlen]; omega)]; exact .inr ⟨k, rfl⟩
              · exact ih.one a ha
          · rw [List.getElem?_set, List.getElem?_set]
            split
            · rename_i hka
              subst hka
              rw [if_pos (by rw [List.length_set, hlen]; omega)]
              constructor
              · intro h
                injection h with h
                obtain rfl : b = i := by omega
                exact ⟨by omega, by omega, .inl hm⟩
              · rintro ⟨_, h2, h3 | h3⟩
                · by_cases e : b = i
                  · rw [e]
                  · exfalso
                    have hdb := d_ret h3.2.2.1
                    have := hm.2.2.2.2 (b + 1) (by have := h3.1; omega) (by omega)
                    have := h3.2.2.2.1
                    omega
                · exact (not_both' hm.2.1 h3).elim
            · rename_i hka
              split
              · rename_i hia
                subst hia
                rw [if_pos (by rw [hlen]; omega)]
                constructor
                · intro h
                  injection h with h
                  obtain rfl : b = k := by omega
                  exact ⟨by omega, by omega, .inr hm⟩
                · rintro ⟨_, h2, h3 | h3⟩
                  · exact (not_both hk2 h3).elim
                  · rw [hu b h3]
              · rename_i hia
                refine (ih.two a b ha).trans ⟨fun ⟨h1, h2, h3⟩ => ⟨by omega, by omega, h3⟩, fun ⟨h1, h2, h3⟩ => ⟨by omega, ?_, h3⟩⟩
                have hb : b ≠ i := fun e => by
                  rw [e] at h3
                  rcases h3 with h3 | h3
                  · exact hka (hu a h3).symm
                  · exact not_both hk2 h3
                omega
      · have e : (step (run l i) i (K l i)).ev = (run l i).ev := by unfold step; rw [if_neg hk, if_neg hk2]
        rw [e]
        refine ⟨ih.len, ih.one, fun a b ha => (ih.two a b ha).trans ⟨fun ⟨h1, h2, h3⟩ => ⟨by omega, by omega, h3⟩, fun ⟨h1, h2, h3⟩ => ?_⟩⟩
        have hai : a ≠ i := fun e => by
          rw [e] at h3
          rcases h3 with h3 | h3
          · exact hk h3.2.1
          · exact hk2 h3.2.2.1
        have hbi : b ≠ i := fun e => by
          rw [e] at h3
          rcases h3 with h3 | h3
          · exact hk2 h3.2.2.1
          · exact hk h3.2.1
        exact ⟨by omega, by omega, h3⟩

/-- Returns that lack a partner. -/
structure Lost (l : List S25) (i : Nat) (x : List Int) : Prop where
  mem : ∀ z, z ∈ x ↔ ∃ r : Nat, z = r ∧ r < i ∧ K l r = 2 ∧ ∀ k, ¬ Match l k r
  srt : x.Pairwise (· < ·)
theorem lost_inv (l : List S25) (i : Nat) : Lost l i (lostOf (run l i).ev) := by
  induction i with
  | zero => exact ⟨fun z => ⟨fun h => by simp [run, lostOf] at h, fun ⟨r, _, h, _⟩ => absurd h (Nat.not_lt_zero _)⟩, List.Pairwise.nil⟩
  | succ i ih =>
    have hr : run l (i + 1) = step (run l i) i (K l i) := rfl
    rw [hr]
    have same : (step (run l i) i (K l i)).ev = (run l i).ev → K l i ≠ 2 → Lost l (i + 1) (lostOf (step (run l i) i (K l i)).ev) := by
      intro e h2
      rw [e]
      refine ⟨fun z => (ih.mem z).trans ⟨fun ⟨r, h1, h3, h4⟩ => ⟨r, h1, by omega, h4⟩, fun ⟨r, h1, h3, h4⟩ => ⟨r, h1, ?_, h4⟩⟩, ih.srt⟩
      have : r ≠ i := fun e => h2 (by rw [← e]; exact h4.1)
      omega
    by_cases hk : K l i = 1
    · exact same (by unfold step; rw [if_pos hk]) (by omega)
    · by_cases hk2 : K l i = 2
      · by_cases ho : (run l i).o = []
        · have e : (step (run l i) i (K l i)).ev = (run l i).ev ++ [(-1, (i : Int))] := by unfold step; rw [if_neg hk, if_pos hk2, if_pos ho]
          have hn := match_none ho
          have e2 : lostOf ((run l i).ev ++ [(-1, (i : Int))]) = lostOf (run l i).ev ++ [(i : Int)] := by simp [lostOf]
          rw [e, e2]
          refine ⟨fun z => ?_, ?_⟩
          · rw [List.mem_append, List.mem_singleton, ih.mem z]
            constructor
            · rintro (⟨r, h1, h3, h4⟩ | rfl)
              · exact ⟨r, h1, by omega, h4⟩
              · exact ⟨i, rfl, by omega, hk2, hn⟩
            · rintro ⟨r, h1, h3, h4⟩
              by_cases e : r = i
              · exact .inr (by rw [h1, e])
              · exact .inl ⟨r, h1, by omega, h4⟩
          · rw [List.pairwise_append]
            refine ⟨ih.srt, List.pairwise_singleton _ _, fun a ha b hb => ?_⟩
            rw [List.mem_singleton] at hb
            obtain ⟨r, h1, h3, _⟩ := (ih.mem a).mp ha
            rw [hb, h1]
            omega
        · obtain ⟨k, hkl, hm, hu⟩ := match_last hk2 ho
          have e : (step (run l i) i (K l i)).ev = (run l i).ev ++ [((k : Int), (i : Int))] := by unfold step; rw [if_neg hk, if_pos hk2, if_neg ho, hkl]
          have e2 : lostOf ((run l i).ev ++ [((k : Int), (i : Int))]) = lostOf (run l i).ev := by simp [lostOf]
          rw [e, e2]
          refine ⟨fun z => (ih.mem z).trans ⟨fun ⟨r, h1, h3, h4⟩ => ⟨r, h1, by omega, h4⟩, fun ⟨r, h1, h3, h4⟩ => ⟨r, h1, ?_, h4⟩⟩, ih.srt⟩
          have : r ≠ i := fun e => h4.2 k (by rw [e]; exact hm)
          omega
      · exact same (by unfold step; rw [if_neg hk, if_neg hk2]) hk2

/-- The most that are open at once. -/
structure Most (l : List S25) (i : Nat) (m : Int) : Prop where
  le : ∀ j, j ≤ i → ((run l j).o.length : Int) ≤ m
  at_ : ∃ j, j ≤ i ∧ ((run l j).o.length : Int) = m
theorem most_inv (l : List S25) (i : Nat) : Most l i (run l i).m := by
  induction i with
  | zero =>
    refine ⟨fun j hj => ?_, ⟨0, Nat.le_refl _, rfl⟩⟩
    obtain rfl : j = 0 := by omega
    exact Int.le_refl _
  | succ i ih =>
    have hr : run l (i + 1) = step (run l i) i (K l i) := rfl
    have key : ((run l (i + 1)).m = (run l i).m ∧ (run l (i + 1)).o.length ≤ (run l i).o.length) ∨ ((run l (i + 1)).m = max (run l i).m ((run l i).o.length + 1) ∧ (run l (i + 1)).o.length = (run l i).o.length + 1) := by
      rw [hr]
      unfold step
      split
      · exact .inr ⟨rfl, by simp⟩
      · split
        · split
          · exact .inl ⟨rfl, by simp⟩
          · exact .inl ⟨rfl, by simp only [List.length_take]; omega⟩
        · exact .inl ⟨rfl, Nat.le_refl _⟩
    obtain ⟨h1, j0, hj0, h2⟩ := ih
    have hi := h1 i (Nat.le_refl _)
    rcases key with ⟨km, ko⟩ | ⟨km, ko⟩
    · refine ⟨fun j hj => ?_, j0, by omega, by rw [km]; exact h2⟩
      rw [km]
      by_cases e : j = i + 1
      · subst e; omega
      · exact h1 j (by omega)
    · refine ⟨fun j hj => ?_, ?_⟩
      · rw [km]
        by_cases e : j = i + 1
        · subst e; omega
        · have := h1 j (by omega); omega
      · by_cases hb : (run l i).m ≤ (run l i).o.length + 1
        · exact ⟨i + 1, Nat.le_refl _, by rw [km]; omega⟩
        · exact ⟨j0, by omega, by rw [km]; omega⟩
end Go.Proofs.Ytkbhdlcphiljlaa.PForest
