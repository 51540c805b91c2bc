/- LinesPlays: the argument, a slice of steps, opened. -/
import Derived.Test.YtcjfhcfkjnfihaaN
import Derived.Deep.SlicePairs
import Derived.WalkKit
import Derived.ProofKit
import Derived.OpenShut
namespace Go.Proofs.Ytcjfhcfkjnfihaa.PLines
open Go.ChangeShapes Go.WideShapes Go.Deep Go.RowKit Go.Proofs.YtcjfhcfkjnfihaaW.PrintWords Go.Proofs.YtcjfhcfkjnfihaaW.PrintLast

theorem open_ops {H : Type} {enc : TypeId × Value → H} {W : World} {base fuel len cap : Nat} {held : Bool} {a : Option Addr} {x : DataW H × List MemPlace}
    (h : DataW.trod enc Try.prog W base (fun _ => true) held fuel 33 [.slice a len cap] = some x) : (len : Int) ≤ 9223372036854775807 ∧ ∀ i, i < len → ∃ ad o, a = some ad ∧ OpAt W ad i o := by
  rcases open_slice Try.underlying33 h with ⟨hcs, _⟩ | ⟨ad, len', cap', m, n, D, Pl, hcs, _, hl, hm, hmm, _, hi⟩
  · simp only [List.cons.injEq, Value.slice.injEq, and_true] at hcs
    obtain ⟨rfl, rfl, rfl⟩ := hcs
    exact ⟨by decide, fun i hi => by omega⟩
  · simp only [List.cons.injEq, Value.slice.injEq, and_true] at hcs
    obtain ⟨rfl, rfl, rfl⟩ := hcs
    have hlm : len ≤ m := by rw [hmm]; split <;> omega
    have hcl : (len : Int) ≤ 9223372036854775807 := by unfold maxLen at hm; omega
    refine ⟨hcl, fun i hil => ?_⟩
    obtain ⟨cs', h1, h2⟩ := hi i (by omega)
    have ce : Try.prog.cellsOf 37 = 4 := by kernel_rfl
    rw [ce] at h1
    obtain ⟨_, hlen, hcell⟩ := World.cells?_some h1
    obtain ⟨xs, k, hk, hxy, _, hxl, hf⟩ := DataW.trod_struct Try.underlying37 h2
    have c3 : Try.prog.cellsOf 3 = 1 := by kernel_rfl
    have c22 : Try.prog.cellsOf 22 = 1 := by kernel_rfl
    match xs, hxl, cs', hlen with
    | [y0, y1, y2, y3], _, [v0, v1, v2, v3], _ =>
      have g0 : DataW.trod enc Try.prog W base (fun _ => true) held k 3 [v0] = some y0 := by simpa [c3] using hf 0 _ rfl
      have g1 : DataW.trod enc Try.prog W base (fun _ => true) held k 3 [v1] = some y1 := by simpa [c3] using hf 1 _ rfl
      have g2 : DataW.trod enc Try.prog W base (fun _ => true) held k 3 [v2] = some y2 := by simpa [c3] using hf 2 _ rfl
      have g3 : DataW.trod enc Try.prog W base (fun _ => true) held k 22 [v3] = some y3 := by simpa [c22] using hf 3 _ rfl
      have e0 := hcell 0 (by omega)
      have e1 := hcell 1 (by omega)
      have e2 := hcell 2 (by omega)
      have e3 := hcell 3 (by omega)
      obtain ⟨z0, q0, _, _⟩ := DataW.trod_int Try.underlying3 g0
      obtain ⟨z1, q1, _, _⟩ := DataW.trod_int Try.underlying3 g1
      obtain ⟨z2, q2, _, _⟩ := DataW.trod_int Try.underlying3 g2
      injection q0 with q0
      injection q1 with q1
      injection q2 with q2
      subst q0
      subst q1
      subst q2
      rcases open_ints Try.underlying22 Try.underlying5 (by kernel_rfl) g3 with ⟨q3, _⟩ | ⟨xa, l, c, zs, q3, _, hl2, hm2, hz, _, hcl2, hwz⟩
      · injection q3 with q3
        subst q3
        have hn : Kd.C (Kd.int .u8) W none ([] : List Int).length [] := ⟨rfl, by decide, fun h => absurd h (by decide)⟩
        exact ⟨ad, ⟨z0, z1, z2, none, 0, []⟩, rfl, ⟨e0, e1, e2, e3, hn, Nat.le_refl _, fun x hx => by simp at hx⟩⟩
      · injection q3 with q3
        subst q3
        obtain ⟨l0, rfl, hr, _, hw, hc⟩ := ReadsInt.ofRowC (a := some xa) (len := l) (cap := c) (zs := zs) (k := .u8) (w := W) (.inr ⟨xa, rfl, hl2, hm2, by simpa using hz, hcl2, hwz⟩)
        refine ⟨ad, ⟨z0, z1, z2, some xa, c, l0⟩, rfl, ⟨e0, e1, e2, e3, Kd.C_of_reads (d := (0 : Int)) (h1 := fun _ => rfl) hr, hc, fun x hx => ?_⟩⟩
        have hwx := hw x hx
        simp [Lit.wf, IntKind.min, IntKind.max, IntKind.bits, IntKind.signed] at hwx
        omega
end Go.Proofs.Ytcjfhcfkjnfihaa.PLines
