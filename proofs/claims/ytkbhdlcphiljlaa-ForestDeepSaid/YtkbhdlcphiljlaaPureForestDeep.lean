/- Proved: for every number and either side, ForestDeep's law returns true: so many calls one within another (or side by side) are so deep (or one deep), and all have their partners. No condition. -/
import Derived.Test.YtkbhdlcphiljlaaPForestx1
import Derived.Test.YtkbhdlcphiljlaaE
namespace Go.Proofs.Ytkbhdlcphiljlaa.Pure
open Go.RowKit Go.Proofs.Ytkbhdlcphiljlaa.PForest Go.Proofs.YtkbhdlcphiljlaaW.PrintWords Go.Proofs.YtkbhdlcphiljlaaW.PrintLast

theorem told_true : gobolaw15_told.f = some true := by kernel_rfl

theorem fin (l : List S25) (n : Nat) (hn : n ≤ 100) (want : Int) (hl : l.length = 2 * n) (ho : (all l).o = []) (hm : (all l).m = want) (hev : ∀ p ∈ (all l).ev, 0 ≤ p.1) (k : Nat) : gobolaw15_ForestDeep.j3 (k + 1) n l want = some true := by
  unfold all at ho hm hev
  have hw : forest_Well.f l = some true := by
    unfold forest_Well.f forest_Open.f forest_Lost.f
    rw [if_pos (by omega), if_pos (by omega), ho, lost_none _ hev]
    rfl
  have hd : forest_Deep.f l = some want := by
    unfold forest_Deep.f
    rw [if_pos (by omega), hm]
  have hp : forest_Pairs.f l = some (pairOf l.length (run l l.length).ev) := by
    unfold forest_Pairs.f
    rw [if_pos (by omega)]
  simp only [gobolaw15_ForestDeep.j3]
  rw [told_true]
  simp only [Option.bind_some, if_true]
  rw [hw]
  simp only [Option.bind_some, if_true]
  rw [hd]
  simp only [Option.bind_some, if_true]
  rw [hp]
  simp only [Option.bind_some, pairOf_length, hl]
  congr 1
  rw [beq_iff_eq]
  unfold wrap64
  omega

theorem wrap_up {i : Int} (h0 : 0 ≤ i) (h1 : i < 1000) : wrap64 (i + 1) = i + 1 := by unfold wrap64; omega

theorem down_loop (n : Nat) (hn : n ≤ 100) (d : Nat) : ∀ (k j : Nat) (l : List S25), Down l n j → j + d = n → d + 4 ≤ k → gobolaw15_ForestDeep.l1 k false n l j = some true := by
  induction d with
  | zero =>
    intro k j l h hj hk
    obtain ⟨k, rfl⟩ : ∃ m, k = m + 3 := ⟨k - 3, by omega⟩
    have ho : (all l).o = [] := List.length_eq_zero_iff.mp (by rw [h.o]; omega)
    simp only [gobolaw15_ForestDeep.l1]
    rw [if_neg (by omega)]
    simp only [gobolaw15_ForestDeep.j2]
    rw [if_neg (by decide)]
    exact fin l n hn n (by rw [h.len]; omega) ho h.m h.ev k
  | succ d ih =>
    intro k j l h hj hk
    obtain ⟨k, rfl⟩ : ∃ m, k = m + 1 := ⟨k - 1, by omega⟩
    simp only [gobolaw15_ForestDeep.l1]
    rw [if_pos (by omega), if_neg (by decide), if_pos (by rw [h.len]; omega), wrap_up (by omega) (by omega)]
    exact ih k (j + 1) _ (h.next (by omega) 0) (by omega) (by omega)

theorem up_loop (n : Nat) (hn : n ≤ 100) (d : Nat) : ∀ (k i : Nat) (l : List S25), Up l i → i + d = n → d + n + 10 ≤ k → gobolaw15_ForestDeep.l0 k false n l i = some true := by
  induction d with
  | zero =>
    intro k i l h hj hk
    obtain ⟨k, rfl⟩ : ∃ m, k = m + 1 := ⟨k - 1, by omega⟩
    obtain rfl : i = n := by omega
    simp only [gobolaw15_ForestDeep.l0]
    rw [if_neg (by omega)]
    exact down_loop i hn i k 0 l h.down (by omega) (by omega)
  | succ d ih =>
    intro k i l h hj hk
    obtain ⟨k, rfl⟩ : ∃ m, k = m + 1 := ⟨k - 1, by omega⟩
    simp only [gobolaw15_ForestDeep.l0]
    rw [if_pos (by omega), if_pos (by rw [h.len]; omega)]
    simp only [Option.bind_some]
    rw [if_neg (by decide), wrap_up (by omega) (by omega)]
    exact ih k (i + 1) _ (h.next 0) (by omega) (by omega)

theorem side_loop (n : Nat) (hn : n ≤ 100) (d : Nat) : ∀ (k i : Nat) (l : List S25), Side l i → i + d = n → d + 10 ≤ k → gobolaw15_ForestDeep.l0 k true n l i = some true := by
  induction d with
  | zero =>
    intro k i l h hj hk
    obtain ⟨k, rfl⟩ : ∃ m, k = m + 4 := ⟨k - 4, by omega⟩
    obtain rfl : i = n := by omega
    have e : gobolaw15_ForestDeep.j2 (k + 2) true i l = some true := by
      rw [gobolaw15_ForestDeep.j2, if_pos rfl]
      refine fin l i hn _ h.len h.o ?_ h.ev k
      rw [h.m]
      unfold mn
      omega
    simp only [gobolaw15_ForestDeep.l0]
    rw [if_neg (by omega)]
    rw [gobolaw15_ForestDeep.l1]
    split
    · rw [if_pos rfl]; exact e
    · exact e
  | succ d ih =>
    intro k i l h hj hk
    obtain ⟨k, rfl⟩ : ∃ m, k = m + 1 := ⟨k - 1, by omega⟩
    rw [gobolaw15_ForestDeep.l0, if_pos (by omega), if_pos (by rw [h.len]; omega), Option.bind_some, if_pos rfl, if_pos (by rw [List.length_append, h.len]; simp; omega), wrap_up (by omega) (by omega)]
    exact ih k (i + 1) _ (h.next 0 0) (by omega) (by omega)

theorem ForestDeep : gobolaw15_ForestDeep.Pure := by
  intro a0 a1 _
  obtain ⟨n, hn, he⟩ : ∃ n : Nat, n ≤ 100 ∧ wrap64 (Int.tmod (IntKind.u64.wrap a0) 101) = n := by
    have h0 : 0 ≤ IntKind.u64.wrap a0 := by show 0 ≤ a0 % _; exact Int.emod_nonneg _ (by decide)
    have h1 := Int.tmod_nonneg 101 h0
    have h2 := Int.tmod_lt_of_pos (IntKind.u64.wrap a0) (show (0 : Int) < 101 by decide)
    refine ⟨(Int.tmod (IntKind.u64.wrap a0) 101).toNat, by omega, ?_⟩
    unfold wrap64
    omega
  refine ⟨1000, ?_⟩
  unfold gobolaw15_ForestDeep.f
  rw [he]
  cases a1 with
  | false => exact up_loop n hn n 1000 0 [] Up.zero (by omega) (by omega)
  | true => exact side_loop n hn n 1000 0 [] Side.zero (by omega) (by omega)
end Go.Proofs.Ytkbhdlcphiljlaa.Pure
