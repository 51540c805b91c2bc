/- The closures that forest's Lost and Pairs hand to walk: what each does, and that it does what walk asks. -/
import Derived.Test.YtkbhdlcphiljlaaB
namespace Go.Proofs.Ytkbhdlcphiljlaa.PForest
open Go.RowKit Go.Proofs.YtkbhdlcphiljlaaW.PrintWords Go.Proofs.YtkbhdlcphiljlaaW.PrintLast Go.Proofs.YtkbhdlcphiljlaaW.PrintMore

def lostOf (ev : List (Int × Int)) : List Int := (ev.filter fun p => decide (p.1 < 0)).map (·.2)
def put1 (out : List Int) (p : Int × Int) : List Int := if 0 ≤ p.1 then (out.set p.2.toNat p.1).set p.1.toNat p.2 else out.set p.2.toNat p.1
def pairOf (n : Nat) (ev : List (Int × Int)) : List Int := ev.foldl put1 (List.replicate n (-1))
theorem lostOf_le (ev : List (Int × Int)) : (lostOf ev).length ≤ ev.length := by
  unfold lostOf
  rw [List.length_map]
  exact List.length_filter_le _ _
theorem put1_length (out : List Int) (p : Int × Int) : (put1 out p).length = out.length := by
  unfold put1
  split <;> simp
theorem pairOf_length (n : Nat) (ev : List (Int × Int)) : (pairOf n ev).length = n := by
  unfold pairOf
  suffices h : ∀ (ev : List (Int × Int)) (out : List Int), (ev.foldl put1 out).length = out.length by rw [h]; simp
  intro ev
  induction ev with
  | nil => intro out; rfl
  | cons p t ih => intro out; rw [List.foldl_cons, ih, put1_length]

/-- A captured variable (block g) that holds a row of the call's own. -/
def TG (w0 : World) (g : Nat) (F : List (Int × Int) → List Int) (ev : List (Int × Int)) (v : Value) (W : World) : Prop :=
  w0.heap.size ≤ g ∧ (∀ k, v.ownBlock = some k → k < W.heap.size ∧ k ≠ g) ∧ ∃ u, W.heap[g]? = some (.cells #[u] 29 (0, 0)) ∧ Kd.R (Kd.int .i64) 3 W w0.heap.size (fun k => True ∧ some k ≠ v.ownBlock) u (F ev)

section
variable {w0 : World} {g : Nat} {F : List (Int × Int) → List Int} {ev : List (Int × Int)} {v v1 : Value} {W W' : World}
theorem TG_calm (h : TG w0 g F ev v W) (hb : Below W.heap.size W W') : TG w0 g F ev v W' := by
  obtain ⟨h1, h2, u, h3, h4⟩ := h
  exact ⟨h1, fun k hk => ⟨Nat.lt_of_lt_of_le (h2 k hk).1 hb.size, (h2 k hk).2⟩, u, blk_below h3 hb, Kd.R_below h4 hb⟩
theorem TG_turn (h : TG w0 g F ev v W) (hg : W.grownBy W' v.ownBlock) (hat : v1.ownBlock = v.ownBlock ∨ ∃ b, v1.ownBlock = some b ∧ W.heap.size ≤ b) (hlt : ∀ k, v1.ownBlock = some k → k < W'.heap.size) : TG w0 g F ev v1 W' := by
  obtain ⟨h1, h2, u, h3, h4⟩ := h
  refine ⟨h1, fun k hk => ⟨hlt k hk, ?_⟩, u, blk_grown h3 hg (fun e => (h2 g e.symm).2 rfl), Kd.R_after h4 hg hat⟩
  rcases hat with e | ⟨b, e, hb⟩
  · exact (h2 k (e.symm.trans hk)).2
  · rw [e] at hk
    injection hk with hk
    have := blk_lt h3
    omega
theorem TG_same (h : TG w0 g F ev v W) (he : v1.ownBlock = v.ownBlock) : TG w0 g F ev v1 W := by
  unfold TG at h ⊢
  rw [he]
  exact h
end

set_option maxHeartbeats 4000000 in
set_option maxRecDepth 100000 in
theorem lost_call (w0 : World) (g : Nat) (ev : List (Int × Int)) (v : Value) (W : World) (c r : Int) (hl : ev.length < 1000000) (hT : TG w0 g lostOf ev v W) (hB : Below w0.heap.size w0 W) :
    Calls Try.prog 30 #[.int .i64 c, .int .i64 r, .pointer (some ⟨g, 0, none⟩)] W fun e W' => e = .returned (.tuple #[]) ∧ TG w0 g lostOf (ev ++ [(c, r)]) v W' ∧ Below w0.heap.size w0 W' ∧ (∀ k, some k = v.ownBlock → W'.heap[k]? = W.heap[k]?) ∧ W.heap.size ≤ W'.heap.size := by
  obtain ⟨h1, h2, u, h3, h4⟩ := hT
  have hle := lostOf_le ev
  by_cases hc : c < 0
  · have hlo : lostOf (ev ++ [(c, r)]) = lostOf ev ++ [r] := by simp [lostOf, hc]
    have HLO := Aside0.mk hlo
    clear hlo
    have hcell := (blk_cell h3 0).trans (show (#[u] : Array Value)[0]? = some u from rfl)
    have hfro := blk_frozen h3 0
    have H2 := Aside0.mk h2
    have H3 := Aside0.mk h3
    have H4 := Aside0.mk h4
    have HB := Aside0.mk hB
    clear h2 h3 h4 hB
    have HN := Aside0.mk (Kd.R_ne H4.out H3.out (by decide))
    obtain ⟨A, cap, eo⟩ := Kd.R_slice H4.out
    subst eo
    go_enter Try.func30, Try.ntmps30
    go_wp2_with (at_builtin; (with_reducible refine gate_builtin (b := .append) (xs := #[.tmp 7, .tmp 9]) rfl ?_); go_must (refine Kd.R_append (Kd.int .i64) (w0 := w0) w0.heap.size rfl (.tmp 7) (.tmp 9) 29 3 (.int .i64 0) 8 rfl Try.underlying29 info3 rfl (by decide) (by omega) (.slice A (lostOf ev).length cap) (lostOf ev) r [.int .i64 r] (fun k => (True ∧ some k ≠ v.ownBlock) ∧ k ≠ g) (fun _ => False) rfl (by first | (go_simp; done) | (go_simp; rfl)) ?aP (fun _ hk => hk.elim) ?aF (Kd.R_far1 H4.out rfl HN.out) HB.out ?aS ?aL ?_); (case aP => exact rfl); (case aF => exact fun k hk => ⟨⟨trivial, fun e => by have := (H2.out k e.symm).1; omega⟩, by have := blk_lt H3.out; omega⟩); (case aS => exact below_size HB.out); (case aL => omega); intro v1 w1 ho hb hg hat; rw [← HLO.out] at ho; obtain ⟨A1, cap1, eo1⟩ := Kd.R_slice ho; subst eo1; have HO1 := Aside0.mk ho; have HB1 := Aside0.mk hb; have HG1 := Aside0.mk hg; have H31 := Aside0.mk (blk_grown H3.out hg HN.out); clear ho hb hg hat; have hcell1 := (blk_cell H31.out 0).trans (show (#[Value.slice A (lostOf ev).length cap] : Array Value)[0]? = some (Value.slice A (lostOf ev).length cap) from rfl); have hfro1 := blk_frozen H31.out 0)
    go_end0
    refine ⟨rfl, ⟨h1, fun k hk => ⟨?_, (H2.out k hk).2⟩, _, blk_set H31.out 0 _, Kd.R_mono (Kd.R_far (p := ⟨g, 0, none⟩) HO1.out (fun _ hk => hk.2) _) (fun _ hk => hk.1)⟩, below_set HB1.out h1, ?_, ?_⟩
    · have := (H2.out k hk).1
      have := HG1.out.size
      simpa using (by omega : k < w1.heap.size)
    · intro k hk
      refine (Below.heap_setCell w1 ⟨g, 0, none⟩ _ k (H2.out k hk.symm).2).trans (HG1.out.block k (H2.out k hk.symm).1 ?_)
      intro e
      exact (H4.out.1 k e.symm).2 hk
    · simpa using HG1.out.size
  · have hlo : lostOf (ev ++ [(c, r)]) = lostOf ev := by simp [lostOf, hc]
    go_enter Try.func30, Try.ntmps30
    go_wp2
    go_end0
    unfold TG
    rw [hlo]
    exact ⟨rfl, ⟨h1, h2, u, h3, h4⟩, hB, fun _ _ => rfl, Nat.le_refl _⟩

theorem TG_put {w0 W : World} {g b cap n : Nat} {F F' : List (Int × Int) → List Int} {ev ev' : List (Int × Int)} {v : Value} {i x : Int} (h1 : w0.heap.size ≤ g) (h2 : ∀ k, v.ownBlock = some k → k < W.heap.size ∧ k ≠ g) (h3 : W.heap[g]? = some (.cells #[.slice (some ⟨b, 0, none⟩) n cap] 29 (0, 0)))
    (h4 : Kd.R (Kd.int .i64) 3 W w0.heap.size (fun k => True ∧ some k ≠ v.ownBlock) (.slice (some ⟨b, 0, none⟩) n cap) (F ev)) (hF : F' ev' = (F ev).set i.toNat x) : TG w0 g F' ev' v (W.setCell ⟨b, i.toNat, none⟩ (.int .i64 x)) := by
  have hn := Kd.R_ne h4 h3 (by decide)
  refine ⟨h1, fun k hk => ⟨by have := (h2 k hk).1; simpa using this, (h2 k hk).2⟩, _, blk_far h3 (fun e => hn (by rw [e]; rfl)) _, ?_⟩
  rw [hF]
  exact (Kd.R_putg h4 i x).1

set_option maxHeartbeats 4000000 in
set_option maxRecDepth 100000 in
theorem pairs_call (w0 : World) (g n : Nat) (ev : List (Int × Int)) (v : Value) (W : World) (c r : Int) (hc0 : -1 ≤ c) (hc1 : c < n) (hr0 : 0 ≤ r) (hr1 : r < n) (hT : TG w0 g (pairOf n) ev v W) (hB : Below w0.heap.size w0 W) :
    Calls Try.prog 25 #[.int .i64 c, .int .i64 r, .pointer (some ⟨g, 0, none⟩)] W fun e W' => e = .returned (.tuple #[]) ∧ TG w0 g (pairOf n) (ev ++ [(c, r)]) v W' ∧ Below w0.heap.size w0 W' ∧ (∀ k, some k = v.ownBlock → W'.heap[k]? = W.heap[k]?) ∧ W.heap.size ≤ W'.heap.size := by
  obtain ⟨h1, h2, u, h3, h4⟩ := hT
  have hlen := pairOf_length n ev
  have hpo : pairOf n (ev ++ [(c, r)]) = put1 (pairOf n ev) (c, r) := by simp [pairOf]
  obtain ⟨b, cap, rfl, hb0, hb1, _⟩ := Kd.R_form h4 (by omega)
  rw [hlen] at h3 h4
  have hcell := (blk_cell h3 0).trans (show (#[Value.slice (some ⟨b, 0, none⟩) n cap] : Array Value)[0]? = some (.slice (some ⟨b, 0, none⟩) n cap) from rfl)
  have hfro := blk_frozen h3 0
  obtain ⟨hx1, hf1⟩ := Kd.R_celln 0 h4 r hr0 hr1
  have hvb : some b ≠ v.ownBlock := (h4.1 b rfl).2
  by_cases hc : 0 ≤ c
  · have T1 := TG_put (F' := fun _ => (pairOf n ev).set r.toNat c) (ev' := ev) (i := r) (x := c) h1 h2 h3 h4 rfl
    have T1h := T1
    obtain ⟨_, h2', u', h3', h4'⟩ := T1
    have hu : u' = .slice (some ⟨b, 0, none⟩) n cap := by
      have hn := Kd.R_ne h4 h3 (by decide)
      have e := (blk_far (p := ⟨b, r.toNat, none⟩) h3 (fun e => hn (by rw [e]; rfl)) (.int .i64 c)).symm.trans h3'
      simpa using e.symm
    subst hu
    have hcell' := (blk_cell h3' 0).trans (show (#[Value.slice (some ⟨b, 0, none⟩) n cap] : Array Value)[0]? = some (.slice (some ⟨b, 0, none⟩) n cap) from rfl)
    obtain ⟨hx2, hf2⟩ := Kd.R_celln 0 h4' c hc hc1
    have T2 := TG_put (F := fun _ => (pairOf n ev).set r.toNat c) (ev := ev) (F' := pairOf n) (ev' := ev ++ [(c, r)]) (i := c) (x := r) h1 h2' h3' h4' (by rw [hpo]; unfold put1; rw [if_pos hc])
    have HT2 := Aside0.mk T2
    have HB := Aside0.mk hB
    clear T2 T1h h4 h3 h4' h3' h2 hB
    go_enter Try.func25, Try.ntmps25
    go_wp2
    go_end0
    refine ⟨rfl, HT2.out, below_set (below_set HB.out hb0) hb0, fun k hk => ?_, by simp⟩
    have hkb : k ≠ b := fun e => hvb (by rw [← e]; exact hk)
    exact (Below.heap_setCell _ ⟨b, c.toNat, none⟩ _ k hkb).trans (Below.heap_setCell W ⟨b, r.toNat, none⟩ _ k hkb)
  · obtain rfl : c = -1 := by omega
    have T1 := TG_put (F' := pairOf n) (ev' := ev ++ [(-1, r)]) (i := r) (x := -1) h1 h2 h3 h4 (by rw [hpo]; unfold put1; rw [if_neg hc])
    have HT2 := Aside0.mk T1
    have HB := Aside0.mk hB
    clear T1 h4 h3 h2 hB
    go_enter Try.func25, Try.ntmps25
    go_wp2
    go_end0
    refine ⟨rfl, HT2.out, below_set HB.out hb0, fun k hk => ?_, by simp⟩
    have hkb : k ≠ b := fun e => hvb (by rw [← e]; exact hk)
    exact Below.heap_setCell W ⟨b, r.toNat, none⟩ _ k hkb

theorem clos_lost (n : Nat) (hn : n ≤ 1000000) (w0 : World) (g : Nat) : Clos n w0 30 [.pointer (some ⟨g, 0, none⟩)] (TG w0 g lostOf) where
  ent := ⟨_, Try.func30, by kernel_rfl, rfl⟩
  calm := fun _ _ _ _ => TG_calm
  turn := fun _ _ _ _ _ => TG_turn
  same := fun _ _ _ _ => TG_same
  call := fun ev v W c r he _ _ _ _ hT hB => lost_call w0 g ev v W c r (by omega) hT hB

theorem clos_pairs (n : Nat) (w0 : World) (g : Nat) : Clos n w0 25 [.pointer (some ⟨g, 0, none⟩)] (TG w0 g (pairOf n)) where
  ent := ⟨_, Try.func25, by kernel_rfl, rfl⟩
  calm := fun _ _ _ _ => TG_calm
  turn := fun _ _ _ _ _ => TG_turn
  same := fun _ _ _ _ => TG_same
  call := fun ev v W c r _ h1 h2 h3 h4 hT hB => pairs_call w0 g n ev v W c r h1 h2 h3 h4 hT hB

theorem clos_noop24 (n : Nat) (w0 : World) : Clos n w0 24 [] (fun _ _ _ => True) where
  ent := ⟨_, Try.func24, by kernel_rfl, rfl⟩
  calm := fun _ _ _ _ _ _ => trivial
  turn := fun _ _ _ _ _ _ _ _ _ => trivial
  same := fun _ _ _ _ _ _ => trivial
  call := fun ev v W c r _ _ _ _ _ _ hB => (noop24 c r W).mono fun e W' h => by obtain ⟨rfl, rfl⟩ := h; exact ⟨rfl, trivial, hB, fun _ _ => rfl, Nat.le_refl _⟩

theorem clos_noop28 (n : Nat) (w0 : World) : Clos n w0 28 [] (fun _ _ _ => True) where
  ent := ⟨_, Try.func28, by kernel_rfl, rfl⟩
  calm := fun _ _ _ _ _ _ => trivial
  turn := fun _ _ _ _ _ _ _ _ _ => trivial
  same := fun _ _ _ _ _ _ => trivial
  call := fun ev v W c r _ _ _ _ _ _ hB => (noop28 c r W).mono fun e W' h => by obtain ⟨rfl, rfl⟩ := h; exact ⟨rfl, trivial, hB, fun _ _ => rfl, Nat.le_refl _⟩
end Go.Proofs.Ytkbhdlcphiljlaa.PForest
