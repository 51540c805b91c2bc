/- Plain: the document's answer (by looking back) comes to what the walk comes to. -/
import Derived.Test.YtkbhdlcphiljlaaPForestx3
import Derived.Test.YtkbhdlcphiljlaaG
namespace Go.Proofs.Ytkbhdlcphiljlaa.PForest
open Go.RowKit Go.Proofs.YtkbhdlcphiljlaaW.PrintWords Go.Proofs.YtkbhdlcphiljlaaW.PrintLast

theorem up64 {i n : Nat} (h : i ≤ n) (hn : n ≤ 1000000) : wrap64 ((i : Int) + 1) = ((i + 1 : Nat) : Int) := by unfold wrap64; omega
theorem down64 {i n : Nat} (h : i ≤ n) (hn : n ≤ 1000000) : wrap64 ((i : Int) - 1) = (i : Int) - 1 := by unfold wrap64; omega
theorem rd_at {p : List Int} {a : Nat} {v : Int} (h : p[a]? = some v) : rd p a = v := by
  unfold rd
  rw [Int.toNat_natCast, List.getD_eq_getElem?_getD, h]
  rfl
theorem EvL {α : Type} {g : Nat → Option α} {r : α} (h : ∀ k, g (k + 1) = some r) : Ev g r := ⟨1, fun k hk => by obtain ⟨m, rfl⟩ : ∃ m, k = m + 1 := ⟨k - 1, by omega⟩; exact h m⟩
theorem EvC {α : Type} {r : α} (g : Option α) (h : g = some r) : Ev (fun _ => g) r := ⟨0, fun _ _ => h⟩

/-! ### May -/
theorem bad_false {s : S25} (h : bad s = false) : ¬ s.f0 < -1 ∧ ¬ s.f0 ≥ 16 ∧ ¬ s.f1 < 0 ∧ ¬ s.f1 > 2 := by
  unfold bad at h
  simp only [Bool.or_eq_false_iff, decide_eq_false_iff_not] at h
  omega
theorem may_loop (l : List S25) (hl : l.length ≤ 1000000) (m : Nat) : ∀ i : Nat, i + m = l.length → Ev (fun k => goboref15_MaySyms.l0 k l i) (!(l.drop i).any bad) := by
  induction m with
  | zero =>
    intro i hi
    rw [List.drop_eq_nil_of_le (by omega)]
    refine EvL fun k => ?_
    rw [goboref15_MaySyms.l0, if_neg (by omega)]
    rfl
  | succ m ih =>
    intro i hi
    have hlt : i < l.length := by omega
    rw [List.drop_eq_getElem_cons hlt, List.any_cons, ← rd_get l i hlt]
    cases hb : bad (rd_T25 l i) with
    | true =>
      refine EvL fun k => ?_
      rw [goboref15_MaySyms.l0, if_pos (by omega), if_pos (by omega)]
      unfold bad at hb
      simp only [Bool.or_eq_true, decide_eq_true_iff] at hb
      by_cases c1 : (rd_T25 l i).f0 < -1
      · rw [if_pos c1]; rfl
      · rw [if_neg c1]
        by_cases c2 : (rd_T25 l i).f0 ≥ 16
        · rw [if_pos c2]; rfl
        · rw [if_neg c2]
          by_cases c3 : (rd_T25 l i).f1 < 0
          · rw [if_pos c3]; rfl
          · rw [if_neg c3, if_pos (by omega)]; rfl
    | false =>
      obtain ⟨c1, c2, c3, c4⟩ := bad_false hb
      refine Ev.step (f := fun k => goboref15_MaySyms.l0 k l ((i + 1 : Nat) : Int)) (fun k => ?_) ?_
      · rw [goboref15_MaySyms.l0, if_pos (by omega), if_pos (by omega), if_neg c1, if_neg c2, if_neg c3, if_neg c4, up64 (n := l.length) (by omega) hl]
      · rw [Bool.false_or]
        exact ih (i + 1) (by omega)
theorem may_ref (l : List S25) (hl : l.length ≤ 1000000) : Ev (fun k => goboref15_MaySyms.f k l) (!l.any bad) := may_loop l hl l.length 0 (by omega)

/-! ### Ints -/
theorem ints_loop (a : List Int) (hl : a.length ≤ 1000000) (m : Nat) : ∀ i : Nat, i + m = a.length → Ev (fun k => goboref6_Ints.l0 k a a i) true := by
  induction m with
  | zero =>
    intro i hi
    refine EvL fun k => ?_
    rw [goboref6_Ints.l0, if_neg (by omega)]
  | succ m ih =>
    intro i hi
    refine Ev.step (f := fun k => goboref6_Ints.l0 k a a ((i + 1 : Nat) : Int)) (fun k => ?_) (ih (i + 1) (by omega))
    rw [goboref6_Ints.l0, if_pos (by omega), if_pos (by omega), if_pos (by omega), if_pos rfl, up64 (n := a.length) (by omega) hl]
theorem ints_ref (a : List Int) (hl : a.length ≤ 1000000) : Ev (fun k => goboref6_Ints.f k a a) true := by
  unfold goboref6_Ints.f
  simp only [if_true]
  exact ints_loop a hl a.length 0 (by omega)

/-! ### Pairs -/
/-- A call stands open, or has its partner. -/
theorem open_or (l : List S25) (i : Nat) : ∀ b : Nat, b < i → K l b = 1 → OpenAt l i b ∨ ∃ c, c < i ∧ Match l b c := by
  induction i with
  | zero => intro b hb; omega
  | succ i ih =>
    intro b hb h1
    by_cases e : b = i
    · subst e
      exact .inl ((open_step_call h1).mpr (.inr rfl))
    · rcases ih b (by omega) h1 with h | ⟨c, hc, hm⟩
      · by_cases hk : K l i = 1
        · exact .inl ((open_step_call hk).mpr (.inl h))
        · by_cases hk2 : K l i = 2
          · by_cases hd : d l b < d l i - 1
            · exact .inl ((open_step_ret hk2).mpr ⟨h, hd⟩)
            · have := h.2.2 i h.1 (Nat.le_refl _)
              exact .inr ⟨i, by omega, h.1, h1, hk2, by omega, h.2.2⟩
          · exact .inl ((open_step_int hk hk2).mpr h)
      · exact .inr ⟨c, by omega, hm⟩
theorem open_free {l : List S25} {i n b : Nat} {out : List Int} (ho : Out l n i out) (h : OpenAt l i b) (hb : b < n) : out[b]? = some (-1) := by
  rcases ho.one b hb with h1 | ⟨c, h1⟩
  · exact h1
  · obtain ⟨_, h3, h4 | h4⟩ := (ho.two b c hb).mp h1
    · have := d_ret h4.2.2.1
      have := h.2.2 (c + 1) (by have := h4.1; omega) (by omega)
      have := h4.2.2.2.1
      omega
    · exact (not_both' h.2.1 h4).elim
theorem free_open {l : List S25} {i n b : Nat} {out : List Int} (ho : Out l n i out) (hi : b < i) (hb : b < n) (h1 : K l b = 1) (h : out[b]? = some (-1)) : OpenAt l i b := by
  rcases open_or l i b hi h1 with h2 | ⟨c, hc, hm⟩
  · exact h2
  · have := (ho.two b c hb).mpr ⟨hi, hc, .inl hm⟩
    rw [h] at this
    injection this with this
    omega

/-- The document's row, ahead of symbol i. -/
structure Ref (l : List S25) (i : Nat) (x : List Int) : Prop where
  len : x.length = l.length
  eq : ∀ a, a < i → x[a]? = (pairOf l.length (run l i).ev)[a]?

theorem ref_scan (l : List S25) (hl : l.length ≤ 1000000) (i : Nat) (hi : i < l.length) (hk : K l i = 2) (x : List Int) (hx : Ref l i x) (r : List Int)
    (next : ∀ y, Ref l (i + 1) y → Ev (fun k => goboref15_Pairs.l0 k l y ((i + 1 : Nat) : Int)) r) :
    ∀ a : Nat, a ≤ i → (∀ b, a ≤ b → b < i → ¬ (OpenAt l i b)) → Ev (fun k => goboref15_Pairs.l1 k l (x.set i (-1)) i ((a : Int) - 1)) r := by
  have ho := out_inv l l.length i (by omega)
  have hr : run l (i + 1) = step (run l i) i (K l i) := rfl
  have k2 : ((rd_T25 l (i : Int)).f1 == 2) = true := beq_iff_eq.mpr hk
  intro a
  induction a with
  | zero =>
    intro _ hno
    have hoe : (run l i).o = [] := by
      rw [List.eq_nil_iff_forall_not_mem]
      intro z hz
      obtain ⟨k, _, hk'⟩ := ((inv l i).mem z).mp hz
      exact hno k (Nat.zero_le _) hk'.1 hk'
    refine Ev.step (f := fun k => goboref15_Pairs.j2 k l (x.set i (-1)) i (((0 : Nat) : Int) - 1) false) (fun k => ?_) ?_
    · rw [goboref15_Pairs.l1, if_neg (by omega)]
    · refine Ev.step (f := fun k => goboref15_Pairs.l0 k l (x.set i (-1)) ((i + 1 : Nat) : Int)) (fun k => ?_) (next _ ⟨by rw [List.length_set]; exact hx.len, fun b hb => ?_⟩)
      · rw [goboref15_Pairs.j2, if_neg (by decide), up64 (n := l.length) (by omega) hl]
      · have e : (run l (i + 1)).ev = (run l i).ev ++ [(-1, (i : Int))] := by rw [hr]; unfold step; rw [if_neg (by omega), if_pos hk, if_pos hoe]
        have hp : put1 (pairOf l.length (run l i).ev) (-1, (i : Int)) = (pairOf l.length (run l i).ev).set i (-1) := by unfold put1; rw [if_neg (show ¬ (0 : Int) ≤ -1 by decide), Int.toNat_natCast]
        rw [e, pairOf_snoc, hp, List.getElem?_set, List.getElem?_set, hx.len, ho.len]
        split
        · rfl
        · exact hx.eq b (by omega)
  | succ a ih =>
    intro ha hno
    have ex : ∀ b : Nat, b < i → (x.set i (-1))[b]? = (pairOf l.length (run l i).ev)[b]? := fun b hb => by
      rw [List.getElem?_set, if_neg (by omega)]
      exact hx.eq b hb
    have head : ∀ k, goboref15_Pairs.l1 (k + 1) l (x.set i (-1)) i (((a + 1 : Nat) : Int) - 1) = goboref15_Pairs.j2 k l (x.set i (-1)) i (a : Int) true := fun k => by
      rw [goboref15_Pairs.l1, if_pos (by omega), if_pos (by omega), if_pos (by omega), k2, show (((a + 1 : Nat) : Int) - 1) = (a : Int) by omega]
    refine Ev.step head ?_
    by_cases ka : K l a = 1
    · have ka' : (rd_T25 l (a : Int)).f1 = 1 := ka
      rcases ho.one a (by omega) with h1 | ⟨c, h1⟩
      · have hop := free_open ho (show a < i by omega) (by omega) ka h1
        have hne : (run l i).o ≠ [] := fun e => by
          have := ((inv l i).mem a).mpr ⟨a, rfl, hop⟩
          rw [e] at this
          cases this
        obtain ⟨k', hkl, hm, hu⟩ := match_last hk hne
        have hak : a = k' := by
          by_cases h3 : a < k'
          · exact (hno k' (by omega) hm.1 hm.open).elim
          · by_cases h4 : k' < a
            · have := hm.2.2.2.2 a h4 (by omega)
              have := hop.2.2 i hop.1 (Nat.le_refl _)
              have := hm.2.2.2.1
              omega
            · omega
        subst hak
        have hrd : rd (x.set i (-1)) (a : Int) = -1 := rd_at ((ex a (by omega)).trans h1)
        refine Ev.step (f := fun k => goboref15_Pairs.l0 k l (((x.set i (-1)).set i (a : Int)).set a (i : Int)) ((i + 1 : Nat) : Int)) (fun k => ?_) (next _ ⟨by rw [List.length_set, List.length_set, List.length_set]; exact hx.len, fun b hb => ?_⟩)
        · rw [goboref15_Pairs.j2, if_pos rfl, if_pos (by omega), if_pos (by omega), if_pos ka', if_pos (by rw [List.length_set, hx.len]; omega), hrd, if_pos (by decide), if_pos (by omega), if_pos (by rw [List.length_set, hx.len]; omega), up64 (n := l.length) (by omega) hl, Int.toNat_natCast, Int.toNat_natCast]
        · have e : (run l (i + 1)).ev = (run l i).ev ++ [((a : Int), (i : Int))] := by rw [hr]; unfold step; rw [if_neg (by omega), if_pos hk, if_neg hne, hkl]
          have hp : put1 (pairOf l.length (run l i).ev) ((a : Int), (i : Int)) = ((pairOf l.length (run l i).ev).set i a).set a i := by unfold put1; rw [if_pos (show (0 : Int) ≤ (a : Int) by omega), Int.toNat_natCast, Int.toNat_natCast]
          rw [e, pairOf_snoc, hp, List.getElem?_set, List.getElem?_set, List.getElem?_set, List.getElem?_set, List.getElem?_set]
          simp only [List.length_set, hx.len, ho.len]
          split
          · rfl
          · split
            · rfl
            · exact hx.eq b (by omega)
      · have hrd : rd (x.set i (-1)) (a : Int) = c := rd_at ((ex a (by omega)).trans h1)
        refine Ev.step (f := fun k => goboref15_Pairs.l1 k l (x.set i (-1)) i ((a : Int) - 1)) (fun k => ?_) (ih (by omega) fun b hb hb' hop => ?_)
        · rw [goboref15_Pairs.j2, if_pos rfl, if_pos (by omega), if_pos (by omega), if_pos ka', if_pos (by rw [List.length_set, hx.len]; omega), hrd, if_neg (by omega), down64 (n := l.length) (by omega) hl]
        · by_cases e : b = a
          · subst e
            have := open_free ho hop (by omega)
            rw [h1] at this
            injection this with this
            omega
          · exact hno b (by omega) hb' hop
    · have ka' : ¬ (rd_T25 l (a : Int)).f1 = 1 := ka
      refine Ev.step (f := fun k => goboref15_Pairs.l1 k l (x.set i (-1)) i ((a : Int) - 1)) (fun k => ?_) (ih (by omega) fun b hb hb' hop => ?_)
      · rw [goboref15_Pairs.j2, if_pos rfl, if_pos (by omega), if_pos (by omega), if_neg ka', down64 (n := l.length) (by omega) hl]
      · by_cases e : b = a
        · subst e
          exact ka hop.2.1
        · exact hno b (by omega) hb' hop

theorem ref_loop (l : List S25) (hl : l.length ≤ 1000000) (m : Nat) : ∀ (i : Nat) (x : List Int), i + m = l.length → Ref l i x → Ev (fun k => goboref15_Pairs.l0 k l x i) (pairOf l.length (run l l.length).ev) := by
  induction m with
  | zero =>
    intro i x hi hx
    obtain rfl : i = l.length := by omega
    refine EvL fun k => ?_
    rw [goboref15_Pairs.l0, if_neg (by omega)]
    congr 1
    refine List.ext_getElem? fun a => ?_
    by_cases ha : a < l.length
    · exact hx.eq a ha
    · rw [List.getElem?_eq_none (by rw [hx.len]; omega), List.getElem?_eq_none (by rw [pairOf_length]; omega)]
  | succ m ih =>
    intro i x hi hx
    have hlt : i < l.length := by omega
    have hr : run l (i + 1) = step (run l i) i (K l i) := rfl
    have head : ∀ k, goboref15_Pairs.l0 (k + 1) l x i = goboref15_Pairs.l1 k l (x.set i (-1)) i ((i : Int) - 1) := fun k => by
      rw [goboref15_Pairs.l0, if_pos (by omega), if_pos (by omega), if_pos (by rw [hx.len]; omega), down64 (n := l.length) (by omega) hl, Int.toNat_natCast]
    refine Ev.step head ?_
    by_cases hk2 : K l i = 2
    · exact ref_scan l hl i hlt hk2 x hx _ (fun y hy => ih (i + 1) y (by omega) hy) i (Nat.le_refl _) (fun b h1 h2 => by omega)
    · have k2 : ((rd_T25 l (i : Int)).f1 == 2) = false := beq_eq_false_iff_ne.mpr hk2
      have hev : (run l (i + 1)).ev = (run l i).ev := by
        rw [hr]
        unfold step
        by_cases hk : K l i = 1
        · rw [if_pos hk]
        · rw [if_neg hk, if_neg hk2]
      have ho := out_inv l l.length i (by omega)
      have hn : Ref l (i + 1) (x.set i (-1)) := by
        refine ⟨by rw [List.length_set]; exact hx.len, fun b hb => ?_⟩
        rw [hev, List.getElem?_set]
        split
        · rename_i e
          subst e
          rw [if_pos (by rw [hx.len]; omega)]
          rcases ho.one i hlt with h1 | ⟨c, h1⟩
          · exact h1.symm
          · have := ((ho.two i c hlt).mp h1).1
            omega
        · exact hx.eq b (by omega)
      have tail : Ev (fun k => goboref15_Pairs.j2 k l (x.set i (-1)) i ((i : Int) - 1) false) (pairOf l.length (run l l.length).ev) := by
        refine Ev.step (f := fun k => goboref15_Pairs.l0 k l (x.set i (-1)) ((i + 1 : Nat) : Int)) (fun k => ?_) (ih (i + 1) _ (by omega) hn)
        rw [goboref15_Pairs.j2, if_neg (by decide), up64 (n := l.length) (by omega) hl]
      refine Ev.step (fun k => ?_) tail
      by_cases hz : (i : Int) - 1 ≥ 0
      · rw [goboref15_Pairs.l1, if_pos hz, if_pos (by omega), if_pos (by omega), k2]
      · rw [goboref15_Pairs.l1, if_neg hz]
theorem pairs_ref (l : List S25) (hl : l.length ≤ 1000000) : Ev (fun k => goboref15_Pairs.f k l) (pairOf l.length (run l l.length).ev) := by
  refine Ev.congr (f := fun k => goboref15_Pairs.l0 k l (List.replicate l.length 0) ((0 : Nat) : Int)) (fun k => ?_) (ref_loop l hl l.length 0 _ (by omega) ⟨by simp, fun a ha => by omega⟩)
  unfold goboref15_Pairs.f
  rw [if_pos (by omega), if_pos (by omega), Int.toNat_natCast]
  rfl

/-! ### alone: what has no partner, of a kind -/
theorem sorted_eq : ∀ (a b : List Int), a.Pairwise (· < ·) → b.Pairwise (· < ·) → (∀ x, x ∈ a ↔ x ∈ b) → a = b
  | [], [], _, _, _ => rfl
  | [], y :: b, _, _, h => by have := (h y).mpr List.mem_cons_self; cases this
  | x :: a, [], _, _, h => by have := (h x).mp List.mem_cons_self; cases this
  | x :: a, y :: b, ha, hb, h => by
    rw [List.pairwise_cons] at ha hb
    have hxy : x = y := by
      rcases List.mem_cons.mp ((h x).mp List.mem_cons_self) with e | e
      · exact e
      · rcases List.mem_cons.mp ((h y).mpr List.mem_cons_self) with e' | e'
        · exact e'.symm
        · have := hb.1 x e
          have := ha.1 y e'
          omega
    subst hxy
    congr 1
    refine sorted_eq a b ha.2 hb.2 fun z => ⟨fun hz => ?_, fun hz => ?_⟩
    · rcases List.mem_cons.mp ((h z).mp (List.mem_cons_of_mem _ hz)) with e | e
      · have := ha.1 z hz; omega
      · exact e
    · rcases List.mem_cons.mp ((h z).mpr (List.mem_cons_of_mem _ hz)) with e | e
      · have := hb.1 z hz; omega
      · exact e

/-- What 'alone' has picked, ahead of symbol i. -/
structure Sel (l : List S25) (kind : Int) (p : List Int) (i : Nat) (x : List Int) : Prop where
  len : x.length ≤ i
  mem : ∀ z, z ∈ x ↔ ∃ a : Nat, z = a ∧ a < i ∧ K l a = kind ∧ rd p a < 0
  srt : x.Pairwise (· < ·)
theorem alone_loop (l : List S25) (hl : l.length ≤ 1000000) (kind : Int) (p : List Int) (hp : p.length = l.length) (r : List Int) (hr : ∀ x, Sel l kind p l.length x → x = r) (m : Nat) :
    ∀ (i : Nat) (x : List Int), i + m = l.length → Sel l kind p i x → Ev (fun k => goboref15_alone.l0 k l kind p x i) r := by
  induction m with
  | zero =>
    intro i x hi hx
    obtain rfl : i = l.length := by omega
    refine EvL fun k => ?_
    rw [goboref15_alone.l0, if_neg (by omega), hr x hx]
  | succ m ih =>
    intro i x hi hx
    have skip : ¬ (K l i = kind ∧ rd p i < 0) → Sel l kind p (i + 1) x := fun hn =>
      ⟨by have := hx.len; omega, fun z => (hx.mem z).trans ⟨fun ⟨a, h1, h2, h3⟩ => ⟨a, h1, by omega, h3⟩, fun ⟨a, h1, h2, h3⟩ => ⟨a, h1, by
        have : a ≠ i := fun e => hn (by rw [← e]; exact h3)
        omega, h3⟩⟩, hx.srt⟩
    have hlen := hx.len
    by_cases c1 : K l i = kind
    · have c1' : (rd_T25 l (i : Int)).f1 = kind := c1
      by_cases c2 : rd p i < 0
      · refine Ev.step (f := fun k => goboref15_alone.l0 k l kind p (x ++ [(i : Int)]) ((i + 1 : Nat) : Int)) (fun k => ?_) (ih (i + 1) _ (by omega) ⟨by rw [List.length_append, List.length_singleton]; omega, fun z => ?_, ?_⟩)
        · rw [goboref15_alone.l0, if_pos (by omega), if_pos (by omega), if_pos c1', if_pos (by omega), if_pos c2, if_pos (by omega), up64 (n := l.length) (by omega) hl]
        · rw [List.mem_append, List.mem_singleton, hx.mem z]
          constructor
          · rintro (⟨a, h1, h2, h3⟩ | rfl)
            · exact ⟨a, h1, by omega, h3⟩
            · exact ⟨i, rfl, by omega, c1, c2⟩
          · rintro ⟨a, h1, h2, h3⟩
            by_cases e : a = i
            · exact .inr (by rw [h1, e])
            · exact .inl ⟨a, h1, by omega, h3⟩
        · rw [List.pairwise_append]
          refine ⟨hx.srt, List.pairwise_singleton _ _, fun a ha b hb => ?_⟩
          rw [List.mem_singleton] at hb
          obtain ⟨j, h1, h2, _⟩ := (hx.mem a).mp ha
          omega
      · refine Ev.step (f := fun k => goboref15_alone.l0 k l kind p x ((i + 1 : Nat) : Int)) (fun k => ?_) (ih (i + 1) _ (by omega) (skip fun h => c2 h.2))
        rw [goboref15_alone.l0, if_pos (by omega), if_pos (by omega), if_pos c1', if_pos (by omega), if_neg c2, up64 (n := l.length) (by omega) hl]
    · have c1' : ¬ (rd_T25 l (i : Int)).f1 = kind := c1
      refine Ev.step (f := fun k => goboref15_alone.l0 k l kind p x ((i + 1 : Nat) : Int)) (fun k => ?_) (ih (i + 1) _ (by omega) (skip fun h => c1 h.1))
      rw [goboref15_alone.l0, if_pos (by omega), if_pos (by omega), if_neg c1', up64 (n := l.length) (by omega) hl]

theorem rd_neg {l : List S25} {n : Nat} {p : List Int} (ho : Out l n n p) {a : Nat} (ha : a < n) : rd p a < 0 ↔ p[a]? = some (-1) := by
  rcases ho.one a ha with h | ⟨b, h⟩
  · rw [rd_at h]; exact ⟨fun _ => h, fun _ => by omega⟩
  · rw [rd_at h]; exact ⟨fun h' => by omega, fun h' => by rw [h] at h'; injection h' with h'; omega⟩

theorem open_ref (l : List S25) (hl : l.length ≤ 1000000) : Ev (fun k => goboref15_Open.f k l) (run l l.length).o := by
  have ho := out_inv l l.length l.length (Nat.le_refl _)
  have hi := inv l l.length
  unfold goboref15_Open.f goboref15_alone.f
  refine Ev.bind (Ev.bind (pairs_ref l hl) (alone_loop l hl 1 _ ho.len _ (fun x hx => ?_) l.length 0 [] (by omega) ⟨Nat.le_refl _, fun z => ⟨fun h => (by cases h), fun ⟨a, _, h, _⟩ => by omega⟩, List.Pairwise.nil⟩)) (Ev.now _)
  refine sorted_eq _ _ hx.srt hi.srt fun z => (hx.mem z).trans (Iff.trans ?_ (hi.mem z).symm)
  refine exists_congr fun a => and_congr_right fun _ => ⟨fun ⟨h1, h2, h3⟩ => free_open ho h1 h1 h2 ((rd_neg ho h1).mp h3), fun h => ⟨h.1, h.2.1, (rd_neg ho h.1).mpr (open_free ho h h.1)⟩⟩
theorem lost_ref (l : List S25) (hl : l.length ≤ 1000000) : Ev (fun k => goboref15_Lost.f k l) (lostOf (run l l.length).ev) := by
  have ho := out_inv l l.length l.length (Nat.le_refl _)
  have hi := lost_inv l l.length
  unfold goboref15_Lost.f goboref15_alone.f
  refine Ev.bind (Ev.bind (pairs_ref l hl) (alone_loop l hl 2 _ ho.len _ (fun x hx => ?_) l.length 0 [] (by omega) ⟨Nat.le_refl _, fun z => ⟨fun h => (by cases h), fun ⟨a, _, h, _⟩ => by omega⟩, List.Pairwise.nil⟩)) (Ev.now _)
  refine sorted_eq _ _ hx.srt hi.srt fun z => (hx.mem z).trans (Iff.trans ?_ (hi.mem z).symm)
  refine exists_congr fun a => and_congr_right fun _ => ⟨fun ⟨h1, h2, h3⟩ => ⟨h1, h2, fun k hm => ?_⟩, fun ⟨h1, h2, h3⟩ => ⟨h1, h2, (rd_neg ho h1).mpr ?_⟩⟩
  · have := (ho.two a k h1).mpr ⟨h1, by have := hm.1; omega, .inr hm⟩
    rw [(rd_neg ho h1).mp h3] at this
    injection this with this
    omega
  · rcases ho.one a h1 with h | ⟨b, h⟩
    · exact h
    · obtain ⟨_, _, h4 | h4⟩ := (ho.two a b h1).mp h
      · exact (not_both h2 h4).elim
      · exact (h3 b h4).elim
theorem well_ref (l : List S25) (hl : l.length ≤ 1000000) : ∃ b, forest_Well.f l = some b ∧ Ev (fun k => goboref15_Well.f k l) b := by
  have e1 : forest_Open.f l = some (run l l.length).o := by unfold forest_Open.f; rw [if_pos hl]
  have e2 : forest_Lost.f l = some (lostOf (run l l.length).ev) := by unfold forest_Lost.f; rw [if_pos hl]
  unfold forest_Well.f goboref15_Well.f
  rw [e1, Option.bind_some]
  by_cases c : ((run l l.length).o.length : Int) = 0
  · rw [if_pos c, e2, Option.bind_some]
    refine ⟨_, rfl, Ev.bind (open_ref l hl) ?_⟩
    simp only [if_pos c]
    exact Ev.bind (lost_ref l hl) (Ev.now _)
  · rw [if_neg c]
    refine ⟨_, rfl, Ev.bind (open_ref l hl) ?_⟩
    simp only [if_neg c]
    exact Ev.now _

theorem most_step (l : List S25) (i : Nat) : (run l (i + 1)).m = max (run l i).m (run l (i + 1)).o.length := by
  have hi := (most_inv l i).le i (Nat.le_refl _)
  have hr : run l (i + 1) = step (run l i) i (K l i) := rfl
  rw [hr]
  unfold step
  split
  · simp
  · split
    · split
      · rename_i h; rw [h] at hi; simp at hi ⊢; omega
      · simp only [List.length_take]; omega
    · omega
theorem take_run (l : List S25) (i : Nat) (hi : i ≤ l.length) : run (l.take i) i = run l i := by
  have := run_app (l.take i) (l.drop i) i (by rw [List.length_take]; omega)
  rw [List.take_append_drop] at this
  exact this.symm
theorem deep_loop (l : List S25) (hl : l.length ≤ 1000000) (m : Nat) : ∀ (i : Nat) (x : Int), i + m = l.length + 1 → (∀ j, i = j + 1 → x = (run l j).m) → (i = 0 → x = 0) → Ev (fun k => goboref15_Deep.l0 k l x i) (run l l.length).m := by
  induction m with
  | zero =>
    intro i x hi h1 h2
    refine EvL fun k => ?_
    rw [goboref15_Deep.l0, if_neg (by omega), h1 l.length (by omega)]
  | succ m ih =>
    intro i x hi h1 h2
    have hil : i ≤ l.length := by omega
    have ho : Ev (fun k => goboref15_Open.f k (l.take i)) (run l i).o := by
      have := open_ref (l.take i) (by rw [List.length_take]; omega)
      rw [show (l.take i).length = i by rw [List.length_take]; omega, take_run l i hil] at this
      exact this
    refine Ev.step (f := fun k => (goboref15_Open.f k (l.take i)).bind fun t => goboref15_Deep.l0 k l (mx x (t.length : Int)) ((i + 1 : Nat) : Int)) (fun k => ?_) (Ev.bind ho (ih (i + 1) _ (by omega) (fun j hj => ?_) (fun h => by omega)))
    · rw [goboref15_Deep.l0, if_pos (by omega), if_pos (by omega), up64 (n := l.length) hil hl, Int.toNat_natCast]
    · obtain rfl : j = i := by omega
      unfold mx
      cases j with
      | zero => rw [h2 rfl]; simp [run]
      | succ j => rw [h1 j rfl, most_step l j]; omega
theorem deep_ref (l : List S25) (hl : l.length ≤ 1000000) : Ev (fun k => goboref15_Deep.f k l) (run l l.length).m := by
  unfold goboref15_Deep.f
  exact deep_loop l hl (l.length + 1) 0 0 (by omega) (fun j h => by omega) (fun _ => rfl)

theorem told_true : gobolaw15_told.f = some true := by kernel_rfl

/-- What is left of ForestAsks. -/
theorem asks (l : List S25) : ∃ k, gobolaw15_ForestAsks.f k l = some true := by
  by_cases c : (l.length : Int) > 60
  · refine ⟨0, ?_⟩
    unfold gobolaw15_ForestAsks.f
    rw [if_pos c, told_true]
    rfl
  · have hl : l.length ≤ 1000000 := by omega
    have e1 : forest_Open.f l = some (run l l.length).o := by unfold forest_Open.f; rw [if_pos hl]
    have e2 : forest_Lost.f l = some (lostOf (run l l.length).ev) := by unfold forest_Lost.f; rw [if_pos hl]
    have e3 : forest_Pairs.f l = some (pairOf l.length (run l l.length).ev) := by unfold forest_Pairs.f; rw [if_pos hl]
    have e4 : forest_Deep.f l = some (run l l.length).m := by unfold forest_Deep.f; rw [if_pos hl]
    have e5 : forest_May.f l = some (!l.any bad) := by unfold forest_May.f; rw [if_pos hl]
    obtain ⟨b, e6, e7⟩ := well_ref l hl
    have l1 := (run_le l l.length).1
    have l2 := lostOf_le (run l l.length).ev
    have l3 := run_ev l l.length
    have hev : Ev (fun k => gobolaw15_ForestAsks.f k l) true := by
      unfold gobolaw15_ForestAsks.f
      simp only [if_neg c, told_true, Option.bind_some, if_true, e5]
      refine Ev.bind (may_ref l hl) ?_
      simp only [beq_self_eq_true, if_true, e3, Option.bind_some]
      refine Ev.bind (pairs_ref l hl) ?_
      refine Ev.bind (ints_ref _ (by rw [pairOf_length]; exact hl)) ?_
      simp only [if_true, e1, Option.bind_some]
      refine Ev.bind (open_ref l hl) ?_
      refine Ev.bind (ints_ref _ (by omega)) ?_
      simp only [if_true, e2, Option.bind_some]
      refine Ev.bind (lost_ref l hl) ?_
      refine Ev.bind (ints_ref _ (by omega)) ?_
      simp only [if_true, e6, Option.bind_some]
      refine Ev.bind e7 ?_
      simp only [beq_self_eq_true, if_true, e4, Option.bind_some]
      refine Ev.bind (deep_ref l hl) ?_
      simp only [beq_self_eq_true]
      exact Ev.now _
    exact hev.rounds
end Go.Proofs.Ytkbhdlcphiljlaa.PForest
