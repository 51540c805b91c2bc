import Derived.Test.YtcjfhcfkjnfihaaPLinesx3
import Derived.Test.YtcjfhcfkjnfihaaF
namespace Go.Proofs.Ytcjfhcfkjnfihaa.Pure
open Go.RowKit Go.Proofs.Ytcjfhcfkjnfihaa.PLines Go.Proofs.YtcjfhcfkjnfihaaW.PrintWords Go.Proofs.YtcjfhcfkjnfihaaW.PrintLast

theorem told_ev : Ev (fun _ => gobolaw4_told.f) true := Ev.now true
theorem u8_of {x : Int} (h : (Lit.int .u8 x).wf = true) : 0 ≤ x ∧ x ≤ 255 := by
  simp [Lit.wf, IntKind.min, IntKind.max, IntKind.bits, IntKind.signed] at h
  omega
theorem find_ev (l : List Int) (a : Int) (hl : l.length ≤ 1000000) : Ev (fun _ => lines_Find.f l a) (findF l a) := ⟨0, fun _ _ => by unfold lines_Find.f; rw [if_pos hl]⟩

theorem LinesAsks : gobolaw4_LinesAsks.Pure := by
  intro l0 a1 a2 l3 _ _ hu8 _ _ _ _ _
  have hu : ∀ x ∈ l0, 0 ≤ x ∧ x ≤ 255 := fun x hx => u8_of (hu8 x hx)
  have ht : ∃ k, gobolaw4_LinesAsks.j0 k l0 a1 a2 l3 true = some true := ⟨1, by rw [gobolaw4_LinesAsks.j0, if_pos rfl]; rfl⟩
  by_cases c : (l0.length : Int) > 400
  · obtain ⟨k, h⟩ := ht
    exact ⟨k, by unfold gobolaw4_LinesAsks.f; rw [if_pos c, h]⟩
  · by_cases c2 : (l3.length : Int) > 60
    · obtain ⟨k, h⟩ := ht
      exact ⟨k, by unfold gobolaw4_LinesAsks.f; rw [if_neg c, decide_eq_true c2, h]⟩
    · have hl : l0.length ≤ 1000000 := by omega
      have hl3 : l3.length ≤ 1000000 := by omega
      have hst := st_len l0
      have g : Ev (fun q => gobolaw4_LinesAsks.j0 q l0 a1 a2 l3 false) true := by
        refine Ev.step (fun q => by rw [gobolaw4_LinesAsks.j0, if_neg (by simp)]) ?_
        refine Ev.bind (ends_ev l0 hl a1) (Ev.bind (refEnds_ev l0 hl hu a1) (Ev.bind (find_ev l3 a2 hl3) (Ev.bind (refFind_ev l3 a2 hl3) (Ev.bind told_ev ?_))))
        refine Ev.congr (fun q => if_pos rfl) ?_
        refine Ev.bind (starts_ev l0 hl) (Ev.bind (refStarts_ev l0 hl hu) (Ev.bind (numbers_ev (st l0) (by omega)) ?_))
        refine ⟨0, fun k _ => ?_⟩
        simp
      obtain ⟨k, h⟩ := Ev.rounds g
      exact ⟨k, by unfold gobolaw4_LinesAsks.f; rw [if_neg c, decide_eq_false c2, h]⟩

end Go.Proofs.Ytcjfhcfkjnfihaa.Pure
