/- Plain: a front of a word; what stands between a call and a return; a word read from its end. -/
import Derived.Test.YtkbhdlcphiljlaaH
namespace Go.Proofs.Ytkbhdlcphiljlaa.PForest
open Go.RowKit Go.Proofs.YtkbhdlcphiljlaaW.PrintWords Go.Proofs.YtkbhdlcphiljlaaW.PrintLast

/-! ### a front -/
theorem K_app (l1 l2 : List S25) (j : Nat) (h : j < l1.length) : K (l1 ++ l2) j = K l1 j := by
  unfold K rd_T25
  rw [Int.toNat_natCast, List.getD_eq_getElem?_getD, List.getD_eq_getElem?_getD, List.getElem?_append_left h]
theorem K_app' (l1 l2 : List S25) (j : Nat) : K (l1 ++ l2) (l1.length + j) = K l2 j := by
  unfold K rd_T25
  rw [Int.toNat_natCast, Int.toNat_natCast, List.getD_eq_getElem?_getD, List.getD_eq_getElem?_getD, List.getElem?_append_right (by omega), Nat.add_sub_cancel_left]
theorem d_app (l1 l2 : List S25) (j : Nat) (h : j ≤ l1.length) : d (l1 ++ l2) j = d l1 j := by
  induction j with
  | zero => rfl
  | succ j ih =>
    show d (l1 ++ l2) j + sg (K (l1 ++ l2) j) = d l1 j + sg (K l1 j)
    rw [ih (by omega), K_app l1 l2 j (by omega)]
theorem d_app' (l1 l2 : List S25) (j : Nat) : d (l1 ++ l2) (l1.length + j) = d l1 l1.length + d l2 j := by
  induction j with
  | zero =>
    rw [Nat.add_zero, d_app l1 l2 _ (Nat.le_refl _)]
    show _ = _ + 0
    omega
  | succ j ih =>
    show d (l1 ++ l2) (l1.length + j) + sg (K (l1 ++ l2) (l1.length + j)) = d l1 l1.length + (d l2 j + sg (K l2 j))
    rw [ih, K_app']
    omega
theorem match_app (l1 l2 : List S25) (a b : Nat) (h : b < l1.length) : Match (l1 ++ l2) a b ↔ Match l1 a b := by
  have e : ∀ j, j ≤ b → d (l1 ++ l2) j = d l1 j := fun j hj => d_app l1 l2 j (by omega)
  constructor
  · rintro ⟨h1, h2, h3, h4, h5⟩
    rw [K_app l1 l2 a (by omega)] at h2
    rw [K_app l1 l2 b h] at h3
    rw [e a (by omega), e b (Nat.le_refl _)] at h4
    exact ⟨h1, h2, h3, h4, fun j hj hj' => by have := h5 j hj hj'; rw [e a (by omega), e j hj'] at this; exact this⟩
  · rintro ⟨h1, h2, h3, h4, h5⟩
    refine ⟨h1, by rw [K_app l1 l2 a (by omega)]; exact h2, by rw [K_app l1 l2 b h]; exact h3, by rw [e a (by omega), e b (Nat.le_refl _)]; exact h4, fun j hj hj' => by rw [e a (by omega), e j hj']; exact h5 j hj hj'⟩

/-- Whoever is partner of i, told of the whole, as the front tells it. -/
theorem front_at (l1 l2 : List S25) (i : Nat) (hi : i < l1.length) : (∀ c : Nat, c < l1.length → ((pairOf (l1 ++ l2).length (run (l1 ++ l2) (l1 ++ l2).length).ev)[i]? = some (c : Int) ↔ (pairOf l1.length (run l1 l1.length).ev)[i]? = some (c : Int))) := by
  intro c hc
  have h1 := out_inv l1 l1.length l1.length (Nat.le_refl _)
  have h2 := out_inv (l1 ++ l2) (l1 ++ l2).length (l1 ++ l2).length (Nat.le_refl _)
  have hll : l1.length ≤ (l1 ++ l2).length := by rw [List.length_append]; omega
  rw [h1.two i c hi, h2.two i c (by omega), match_app l1 l2 i c hc, match_app l1 l2 c i hi]
  exact ⟨fun ⟨_, _, h⟩ => ⟨hi, hc, h⟩, fun ⟨_, _, h⟩ => ⟨by omega, by omega, h⟩⟩

/-! ### all is well -/
def Wl (l : List S25) : Prop := (run l l.length).o = [] ∧ lostOf (run l l.length).ev = []
instance (l : List S25) : Decidable (Wl l) := inferInstanceAs (Decidable ((run l l.length).o = [] ∧ lostOf (run l l.length).ev = []))
theorem well_iff (l : List S25) (hl : l.length ≤ 1000000) : forest_Well.f l = some (decide (Wl l)) := by
  have e1 : forest_Open.f l = some (run l l.length).o := by unfold forest_Open.f; rw [if_pos hl]
  have e2 : forest_Lost.f l = some (lostOf (run l l.length).ev) := by unfold forest_Lost.f; rw [if_pos hl]
  unfold forest_Well.f
  rw [e1, Option.bind_some]
  by_cases c : (run l l.length).o = []
  · rw [c, if_pos (show ((([] : List Int).length : Nat) : Int) = 0 from rfl), e2, Option.bind_some]
    congr 1
    by_cases c2 : lostOf (run l l.length).ev = []
    · rw [c2, decide_eq_true ⟨c, c2⟩]; rfl
    · rw [decide_eq_false (fun h : Wl l => c2 h.2), beq_eq_false_iff_ne]
      intro h
      exact c2 (List.length_eq_zero_iff.mp (by omega))
  · have : 0 < (run l l.length).o.length := List.length_pos_iff.mpr c
    rw [if_neg (by omega), decide_eq_false (fun h : Wl l => c h.1)]

/-- Where nothing has been lost, what is open is as much as the place is deep; and the other way round. -/
theorem deep_len (l : List S25) (i : Nat) : (lostOf (run l i).ev = [] → d l i = (run l i).o.length ∧ ∀ j, j ≤ i → 0 ≤ d l j) ∧ ((∀ j, j ≤ i → 0 ≤ d l j) → lostOf (run l i).ev = []) := by
  induction i with
  | zero => exact ⟨fun _ => ⟨rfl, fun j hj => by obtain rfl : j = 0 := by omega
                                                 exact Int.le_refl _⟩, fun _ => rfl⟩
  | succ i ih =>
    obtain ⟨ih1, ih2⟩ := ih
    have hr : run l (i + 1) = step (run l i) i (K l i) := rfl
    rw [hr]
    have ext : (∀ j, j ≤ i → 0 ≤ d l j) → 0 ≤ d l (i + 1) → ∀ j, j ≤ i + 1 → 0 ≤ d l j := fun h h' j hj => by
      by_cases e : j = i + 1
      · rw [e]; exact h'
      · exact h j (by omega)
    by_cases hk : K l i = 1
    · have hd := d_call hk
      have e : step (run l i) i (K l i) = ⟨(run l i).o ++ [(i : Int)], max (run l i).m ((run l i).o.length + 1), (run l i).ev⟩ := by unfold step; rw [if_pos hk]
      rw [e]
      simp only [List.length_append, List.length_singleton]
      exact ⟨fun h => ⟨by have := (ih1 h).1; omega, ext (ih1 h).2 (by have := (ih1 h).1; omega)⟩, fun h => ih2 fun j hj => h j (by omega)⟩
    · by_cases hk2 : K l i = 2
      · have hd := d_ret hk2
        by_cases ho : (run l i).o = []
        · have e : step (run l i) i (K l i) = ⟨[], (run l i).m, (run l i).ev ++ [(-1, (i : Int))]⟩ := by unfold step; rw [if_neg hk, if_pos hk2, if_pos ho]
          have e2 : lostOf ((run l i).ev ++ [(-1, (i : Int))]) = lostOf (run l i).ev ++ [(i : Int)] := by simp [lostOf]
          rw [e]
          simp only [e2]
          refine ⟨fun h => by simp at h, fun h => ?_⟩
          have h3 := (ih1 (ih2 fun j hj => h j (by omega))).1
          have := h (i + 1) (Nat.le_refl _)
          rw [ho] at h3
          simp only [List.length_nil] at h3
          omega
        · obtain ⟨k, hkl, hm, hu⟩ := match_last hk2 ho
          have hp : 0 < (run l i).o.length := List.length_pos_iff.mpr ho
          have e : step (run l i) i (K l i) = ⟨(run l i).o.take ((run l i).o.length - 1), (run l i).m, (run l i).ev ++ [((k : Int), (i : Int))]⟩ := by unfold step; rw [if_neg hk, if_pos hk2, if_neg ho, hkl]
          have e2 : lostOf ((run l i).ev ++ [((k : Int), (i : Int))]) = lostOf (run l i).ev := by simp [lostOf]
          rw [e]
          simp only [e2, List.length_take]
          exact ⟨fun h => ⟨by have := (ih1 h).1; omega, ext (ih1 h).2 (by have := (ih1 h).1; omega)⟩, fun h => ih2 fun j hj => h j (by omega)⟩
      · have hd := d_int hk hk2
        have e : step (run l i) i (K l i) = run l i := by unfold step; rw [if_neg hk, if_neg hk2]
        rw [e]
        exact ⟨fun h => ⟨by have := (ih1 h).1; omega, ext (ih1 h).2 (by have := (ih1 h).2 i (Nat.le_refl _); omega)⟩, fun h => ih2 fun j hj => h j (by omega)⟩
theorem wl_iff (l : List S25) : Wl l ↔ d l l.length = 0 ∧ ∀ j, j ≤ l.length → 0 ≤ d l j := by
  obtain ⟨h1, h2⟩ := deep_len l l.length
  constructor
  · rintro ⟨a, b⟩
    obtain ⟨h3, h4⟩ := h1 b
    rw [a] at h3
    exact ⟨h3, h4⟩
  · rintro ⟨a, b⟩
    have h3 := h2 b
    have h4 := (h1 h3).1
    exact ⟨List.length_eq_zero_iff.mp (by omega), h3⟩
theorem wl_len {l : List S25} (h : Wl l) (j : Nat) (hj : j ≤ l.length) : ((run l j).o.length : Int) = d l j := by
  have h2 := ((wl_iff l).mp h).2
  have h3 := (deep_len l j).2 fun t ht => h2 t (by omega)
  exact ((deep_len l j).1 h3).1.symm
/-- A well word's depth: the greatest. -/
theorem wl_most {l : List S25} (h : Wl l) (m : Int) (h1 : ∀ j, j ≤ l.length → d l j ≤ m) (h2 : ∃ j, j ≤ l.length ∧ d l j = m) : (run l l.length).m = m := by
  obtain ⟨a, b, hb, hb'⟩ := most_inv l l.length
  obtain ⟨j, hj, hj'⟩ := h2
  have := a j hj
  rw [wl_len h j hj] at this
  have := h1 b hb
  rw [← wl_len h b hb] at this
  omega

/-! ### between a call and a return; two, one behind the other -/
def wrap (l : List S25) : List S25 := ([(⟨0, 1⟩ : S25)] ++ l) ++ [(⟨0, 2⟩ : S25)]
theorem wrap_len (l : List S25) : (wrap l).length = l.length + 2 := by simp [wrap]
theorem wrap_K (l : List S25) (j : Nat) (hj : j < l.length) : K (wrap l) (j + 1) = K l j := by
  unfold wrap
  rw [K_app _ _ (j + 1) (by simp; omega), show j + 1 = [(⟨0, 1⟩ : S25)].length + j by simp; omega, K_app']
theorem wrap_K0 (l : List S25) : K (wrap l) 0 = 1 := by
  unfold wrap
  rw [K_app _ _ 0 (by simp), K_app _ _ 0 (by simp)]
  rfl
theorem wrap_Kn (l : List S25) : K (wrap l) (l.length + 1) = 2 := by
  unfold wrap
  have := K_app' ([(⟨0, 1⟩ : S25)] ++ l) [(⟨0, 2⟩ : S25)] 0
  rw [Nat.add_zero, show ([(⟨0, 1⟩ : S25)] ++ l).length = l.length + 1 by simp] at this
  exact this
theorem wrap_d (l : List S25) (j : Nat) (hj : j ≤ l.length) : d (wrap l) (j + 1) = d l j + 1 := by
  induction j with
  | zero =>
    rw [d_call (wrap_K0 l)]
    rfl
  | succ j ih =>
    show d (wrap l) (j + 1) + sg (K (wrap l) (j + 1)) = d l j + sg (K l j) + 1
    rw [ih (by omega), wrap_K l j (by omega)]
    omega
theorem wrap_wl {l : List S25} (h : Wl l) : Wl (wrap l) ∧ (run (wrap l) (wrap l).length).m = (run l l.length).m + 1 ∧ Match (wrap l) 0 (l.length + 1) := by
  obtain ⟨h1, h2⟩ := (wl_iff l).mp h
  have he : d (wrap l) (l.length + 2) = 0 := by
    rw [d_ret (wrap_Kn l), wrap_d l l.length (Nat.le_refl _), h1]
    rfl
  have hw : Wl (wrap l) := by
    refine (wl_iff _).mpr ⟨by rw [wrap_len]; exact he, fun j hj => ?_⟩
    rw [wrap_len] at hj
    by_cases e : j = l.length + 2
    · rw [e, he]; exact Int.le_refl _
    · by_cases e0 : j = 0
      · rw [e0]; exact Int.le_refl _
      · obtain ⟨t, rfl⟩ : ∃ t, j = t + 1 := ⟨j - 1, by omega⟩
        rw [wrap_d l t (by omega)]
        have := h2 t (by omega)
        omega
  obtain ⟨a, b, hb, hb'⟩ := most_inv l l.length
  refine ⟨hw, wl_most hw _ (fun j hj => ?_) ⟨b + 1, by rw [wrap_len]; omega, by rw [wrap_d l b hb, ← wl_len h b hb, hb']⟩, by omega, wrap_K0 l, wrap_Kn l, ?_, fun j hj hj' => ?_⟩
  · rw [wrap_len] at hj
    have hz := a 0 (Nat.zero_le _)
    by_cases e : j = l.length + 2
    · rw [e, he]; omega
    · by_cases e0 : j = 0
      · rw [e0]
        show (0 : Int) ≤ _
        omega
      · obtain ⟨t, rfl⟩ : ∃ t, j = t + 1 := ⟨j - 1, by omega⟩
        have := a t (by omega)
        rw [wl_len h t (by omega)] at this
        rw [wrap_d l t (by omega)]
        omega
  · rw [wrap_d l l.length (Nat.le_refl _), h1]
    rfl
  · obtain ⟨t, rfl⟩ : ∃ t, j = t + 1 := ⟨j - 1, by omega⟩
    rw [wrap_d l t (by omega)]
    have := h2 t (by omega)
    show (0 : Int) < _
    omega
theorem twice_wl {l : List S25} (h : Wl l) : Wl (l ++ l) := by
  obtain ⟨h1, h2⟩ := (wl_iff l).mp h
  refine (wl_iff _).mpr ⟨?_, fun j hj => ?_⟩
  · rw [List.length_append, d_app', h1]; rfl
  · rw [List.length_append] at hj
    by_cases e : j ≤ l.length
    · rw [d_app _ _ j e]; exact h2 j e
    · obtain ⟨t, rfl⟩ : ∃ t, j = l.length + t := ⟨j - l.length, by omega⟩
      rw [d_app', h1]
      have := h2 t (by omega)
      omega
theorem call_not_wl (l : List S25) (t : Int) : ¬ Wl (l ++ [⟨t, 1⟩]) := fun h => by
  have h1 := h.1
  have e := all_snoc l ⟨t, 1⟩
  unfold all at e
  rw [e] at h1
  unfold step at h1
  rw [if_pos rfl] at h1
  simp at h1

/-! ### read from its end -/
def flip (k : Int) : Int := if k = 1 then 2 else if k = 2 then 1 else k
/-- m is l, read from its end. -/
structure Mir (l m : List S25) : Prop where
  len : m.length = l.length
  K : ∀ j, j < l.length → K m j = flip (K l (l.length - 1 - j))
theorem sg_flip (k : Int) : sg (flip k) = - sg k := by
  unfold sg flip
  by_cases h : k = 1
  · subst h; rfl
  · rw [if_neg h]
    by_cases h2 : k = 2
    · subst h2; rfl
    · simp only [if_neg h, if_neg h2]; rfl
theorem mir_d {l m : List S25} (h : Mir l m) (j : Nat) (hj : j ≤ l.length) : d m j = d l (l.length - j) - d l l.length := by
  induction j with
  | zero => rw [Nat.sub_zero, Int.sub_self]; rfl
  | succ j ih =>
    show d m j + sg (K m j) = _
    rw [ih (by omega), h.K j (by omega), sg_flip, show l.length - j = (l.length - (j + 1)) + 1 by omega, show l.length - 1 - j = l.length - (j + 1) by omega]
    show d l (l.length - (j + 1)) + sg (K l (l.length - (j + 1))) - d l l.length + -sg (K l (l.length - (j + 1))) = _
    omega
theorem flip_one (k : Int) : flip k = 1 ↔ k = 2 := by
  unfold flip
  split
  · omega
  · split <;> omega
theorem flip_two (k : Int) : flip k = 2 ↔ k = 1 := by
  unfold flip
  split
  · omega
  · split <;> omega
theorem mir_match {l m : List S25} (h : Mir l m) (a b : Nat) (hb : b < l.length) : Match m a b ↔ Match l (l.length - 1 - b) (l.length - 1 - a) := by
  have hd : ∀ j, j ≤ l.length → d m j = d l (l.length - j) - d l l.length := fun j hj => mir_d h j hj
  constructor
  · rintro ⟨h1, h2, h3, h4, h5⟩
    rw [h.K a (by omega), flip_one] at h2
    rw [h.K b hb, flip_two] at h3
    rw [hd b (by omega), hd a (by omega)] at h4
    have hb1 := d_call h3
    have ha1 := d_ret h2
    rw [show l.length - 1 - b + 1 = l.length - b by omega] at hb1
    rw [show l.length - 1 - a + 1 = l.length - a by omega] at ha1
    refine ⟨by omega, h3, h2, by omega, fun j hj hj' => ?_⟩
    have := h5 (l.length - j) (by omega) (by omega)
    rw [hd a (by omega), hd (l.length - j) (by omega), show l.length - (l.length - j) = j by omega] at this
    omega
  · rintro ⟨h1, h2, h3, h4, h5⟩
    have hb1 := d_call h2
    have ha1 := d_ret h3
    rw [show l.length - 1 - b + 1 = l.length - b by omega] at hb1
    rw [show l.length - 1 - a + 1 = l.length - a by omega] at ha1
    refine ⟨by omega, by rw [h.K a (by omega), flip_one]; exact h3, by rw [h.K b hb, flip_two]; exact h2, by rw [hd b (by omega), hd a (by omega)]; omega, fun j hj hj' => ?_⟩
    rw [hd j (by omega), hd a (by omega)]
    have := h5 (l.length - j) (by omega) (by omega)
    omega
theorem mir_pair {l m : List S25} (h : Mir l m) (i : Nat) (hi : i < l.length) :
    (∀ c : Nat, (pairOf l.length (run l l.length).ev)[i]? = some (c : Int) → (pairOf m.length (run m m.length).ev)[l.length - 1 - i]? = some ((l.length - 1 - c : Nat) : Int) ∧ c < l.length) ∧
    ((pairOf l.length (run l l.length).ev)[i]? = some (-1) → (pairOf m.length (run m m.length).ev)[l.length - 1 - i]? = some (-1)) := by
  have h1 := out_inv l l.length l.length (Nat.le_refl _)
  have h2 := out_inv m m.length m.length (Nat.le_refl _)
  have hl := h.len
  refine ⟨fun c hc => ?_, fun hc => ?_⟩
  · obtain ⟨_, hcl, hm⟩ := (h1.two i c hi).mp hc
    refine ⟨(h2.two _ _ (by omega)).mpr ⟨by omega, by omega, ?_⟩, hcl⟩
    rcases hm with hm | hm
    · right
      rw [mir_match h _ _ (by omega), show l.length - 1 - (l.length - 1 - i) = i by omega, show l.length - 1 - (l.length - 1 - c) = c by omega]
      exact hm
    · left
      rw [mir_match h _ _ (by omega), show l.length - 1 - (l.length - 1 - i) = i by omega, show l.length - 1 - (l.length - 1 - c) = c by omega]
      exact hm
  · rcases h2.one (l.length - 1 - i) (by omega) with e | ⟨b, e⟩
    · exact e
    · exfalso
      obtain ⟨_, hb, hm⟩ := (h2.two _ b (by omega)).mp e
      have : (pairOf l.length (run l l.length).ev)[i]? = some ((l.length - 1 - b : Nat) : Int) := by
        refine (h1.two i _ hi).mpr ⟨hi, by omega, ?_⟩
        rcases hm with hm | hm
        · right
          rw [mir_match h _ _ (by omega), show l.length - 1 - (l.length - 1 - i) = i by omega] at hm
          exact hm
        · left
          rw [mir_match h _ _ (by omega), show l.length - 1 - (l.length - 1 - i) = i by omega] at hm
          exact hm
      rw [hc] at this
      injection this with this
      omega
theorem mir_lost {l m : List S25} (h : Mir l m) : (lostOf (run m m.length).ev).length = (run l l.length).o.length := by
  have hi := inv l l.length
  have hv := lost_inv m m.length
  have h1 := out_inv l l.length l.length (Nat.le_refl _)
  have hl := h.len
  have e : lostOf (run m m.length).ev = ((run l l.length).o.map fun a => (l.length : Int) - 1 - a).reverse := by
    refine sorted_eq _ _ hv.srt ?_ fun z => ?_
    · rw [List.pairwise_reverse, List.pairwise_map]
      exact hi.srt.imp fun {a b} hab => by omega
    · rw [List.mem_reverse, List.mem_map, hv.mem z]
      constructor
      · rintro ⟨r, rfl, hr, hk, hn⟩
        rw [h.K r (by omega), flip_two] at hk
        refine ⟨((l.length - 1 - r : Nat) : Int), (hi.mem _).mpr ⟨_, rfl, ?_⟩, by omega⟩
        rcases open_or l l.length (l.length - 1 - r) (by omega) hk with ho | ⟨c, hc, hm⟩
        · exact ho
        · exfalso
          refine hn (l.length - 1 - c) ((mir_match h _ _ (by omega)).mpr ?_)
          rw [show l.length - 1 - (l.length - 1 - c) = c by omega]
          exact hm
      · rintro ⟨a, ha, rfl⟩
        obtain ⟨k, rfl, ho⟩ := (hi.mem _).mp ha
        have hk := ho.1
        refine ⟨l.length - 1 - k, by omega, by omega, ?_, fun c hm => ?_⟩
        · rw [h.K _ (by omega), show l.length - 1 - (l.length - 1 - k) = k by omega, flip_two]
          exact ho.2.1
        · have hc := hm.1
          rw [mir_match h _ _ (by omega), show l.length - 1 - (l.length - 1 - k) = k by omega] at hm
          have h5 := (h1.two k _ hk).mpr ⟨hk, by omega, .inl hm⟩
          rw [open_free h1 ho hk] at h5
          injection h5 with h5
          omega
  rw [e, List.length_reverse, List.length_map]
end Go.Proofs.Ytkbhdlcphiljlaa.PForest
