/- A law's argument that is a slice of symbols, opened. -/
import Derived.Test.YtkbhdlcphiljlaaPForestx0
import Derived.Deep.SlicePairs
import Derived.WalkKit
import Derived.ProofKit
import Derived.OpenShut
namespace Go.Proofs.Ytkbhdlcphiljlaa.PForest
open Go.ChangeShapes Go.WideShapes Go.Deep Go.RowKit Go.Proofs.YtkbhdlcphiljlaaW.PrintWords Go.Proofs.YtkbhdlcphiljlaaW.PrintLast

theorem open_sym {H : Type} {enc : TypeId × Value → H} {W : World} {base fuel len cap : Nat} {spare : Nat → Bool} {held : Bool} {a : Option Addr} {x : DataW H × List MemPlace}
    (h : DataW.trod enc Try.prog W base spare held fuel 23 [.slice a len cap] = some x) : ∃ l : List S25, l.length = len ∧ len ≤ cap ∧ Kd.C k25 W a l.length l := by
  rcases open_slice_pairs Try.underlying23 Try.underlying25 (by kernel_rfl) rfl rfl (by kernel_rfl) (by kernel_rfl) h with ⟨hcs, _⟩ | ⟨ad, len', cap', m, n, V0, V1, D0, D1, P0, P1, hcs, _, hl, hm, hmm, _, hi⟩
  · simp only [List.cons.injEq, Value.slice.injEq, and_true] at hcs
    obtain ⟨rfl, rfl, rfl⟩ := hcs
    exact ⟨[], rfl, Nat.le_refl _, rfl, by decide, fun h => absurd h (Nat.lt_irrefl 0)⟩
  · simp only [List.cons.injEq, Value.slice.injEq, and_true] at hcs
    obtain ⟨rfl, rfl, rfl⟩ := hcs
    have hlm : len ≤ m := by rw [hmm]; split <;> omega
    have hx : ∀ i, i < len → ∃ s : S25, W.cell? (ad.add (i * 2)) = some (.int .i64 s.f0) ∧ W.cell? (ad.add (i * 2 + 1)) = some (.int .i64 s.f1) := by
      intro i him
      obtain ⟨h0, h1, t0, t1⟩ := hi i (by omega)
      obtain ⟨z0, e0, _, _⟩ := DataW.trod_int Try.underlying3 t0
      obtain ⟨z1, e1, _, _⟩ := DataW.trod_int Try.underlying3 t1
      injection e0 with e0
      injection e1 with e1
      rw [e0] at h0
      rw [e1] at h1
      exact ⟨⟨z0, z1⟩, h0, h1⟩
    obtain ⟨f, hf⟩ : ∃ f : Nat → S25, ∀ i, i < len → W.cell? (ad.add (i * 2)) = some (.int .i64 (f i).f0) ∧ W.cell? (ad.add (i * 2 + 1)) = some (.int .i64 (f i).f1) := by
      haveI : Inhabited S25 := ⟨z25⟩
      exact choose_lt hx
    refine ⟨(List.range len).map f, by simp, hl, rfl, ?_, fun _ => ⟨ad, rfl, fun j p hj => ?_⟩⟩
    · rw [List.length_map, List.length_range]
      unfold maxLen at hm
      omega
    · have hjl : j < len := by
        have := (List.getElem?_eq_some_iff.1 hj).1
        simpa using this
      have hp : p = f j := by
        rw [List.getElem?_map, List.getElem?_range hjl] at hj
        simpa using hj.symm
      subst hp
      refine ⟨[.int .i64 (f j).f0, .int .i64 (f j).f1], rfl, k25_mk W (f j), fun i u hu => ?_⟩
      match i, hu with
      | 0, hu => injection hu with hu; rw [← hu]; exact (hf j hjl).1
      | 1, hu => injection hu with hu; rw [← hu]; exact (hf j hjl).2
end Go.Proofs.Ytkbhdlcphiljlaa.PForest
