/- The index of lines in memory: Splice. -/
import Derived.Test.YtcjfhcfkjnfihaaC
namespace Go.Proofs.Ytcjfhcfkjnfihaa.PLines
open Go.RowKit Go.Proofs.YtcjfhcfkjnfihaaW.PrintWords Go.Proofs.YtcjfhcfkjnfihaaW.PrintLast Go.Proofs.YtcjfhcfkjnfihaaW.PrintMore

/-- Where the lines behind a place begin in the list. -/
def frontN (l : List Int) (p : Int) : Nat := if gtAt p l 0 < 0 then l.length else (gtAt p l 0).toNat
/-- What is left of the lines behind a cut. -/
def tailF (x m : Int) (t : List Int) : List Int := (t.filter fun s => decide (x < s)).map fun s => s + m
def spF (l : List Int) (p d : Int) (ins : List Int) : List Int := (l.take (frontN l p) ++ behF ins p) ++ tailF (p + d) (ins.length - d) (l.drop (frontN l p))
theorem frontN_le (l : List Int) (p : Int) : frontN l p ≤ l.length := by
  unfold frontN
  have := gtAt_range p l 0
  split <;> omega
theorem frontN_eq (l : List Int) (p : Int) : (frontN l p : Int) = if gtAt p l 0 < 0 then (l.length : Int) else gtAt p l 0 := by
  unfold frontN
  split
  · rfl
  · omega

set_option maxRecDepth 100000 in
theorem splice_nil (p d : Int) (x : Int) (V : Value) (w : World) : Calls Try.prog 17 #[.pointer none, .int .i64 p, .int .i64 d, V, .int .u8 x] w fun e w' => e = .returned (.int .i64 10) ∧ Below w.heap.size w w' := by
  go_enter Try.func17, Try.ntmps17
  go_wp2
  go_ret
  exact ⟨rfl, below_alloc (Below.refl _ _) _⟩

theorem tailF_take (x n : Int) (m : List Int) (k : Nat) (hk : k < m.length) : tailF x n (m.take (k + 1)) = if x < rd m k then tailF x n (m.take k) ++ [rd m k + n] else tailF x n (m.take k) := by
  have hr : rd m k = m[k] := by
    unfold rd
    rw [Int.toNat_natCast, List.getD_eq_getElem?_getD, List.getElem?_eq_getElem hk]
    rfl
  rw [hr, List.take_succ_eq_append_getElem hk]
  unfold tailF
  rw [List.filter_append, List.map_append]
  by_cases c : x < m[k]
  · rw [if_pos c]
    simp [c]
  · rw [if_neg c]
    simp [c]
theorem tailF_len (x n : Int) (m : List Int) : (tailF x n m).length ≤ m.length := by
  unfold tailF
  rw [List.length_map]
  exact List.length_filter_le _ _
theorem clone_len (A0 : Option Addr) (n c0 : Nat) (l : List Int) (w : World) (hn : l.length = n) (hr0 : Kd.C (Kd.int .i64) w A0 l.length l) (hl : l.length ≤ 1000000) :
    Calls Try.prog 23 #[.slice A0 n c0] w fun e w' => ∃ (A : Option Addr) (c : Nat), e = .returned (.slice A l.length c) ∧ Kd.R (Kd.int .i64) 3 w' w.heap.size (fun _ => True) (.slice A l.length c) l ∧ Below w.heap.size w w' := by
  subst hn
  refine (clone_call A0 c0 l w hr0 hl).mono ?_
  rintro e w' ⟨v, rfl, h1, h2⟩
  obtain ⟨A, c, rfl⟩ := Kd.R_slice h1
  exact ⟨A, c, rfl, h1, h2⟩
set_option maxHeartbeats 8000000 in
set_option maxRecDepth 100000 in
theorem splice_good (w0 w : World) (g : Nat) (v : Value) (l : List Int) (n : Int) (h : Ix w0 w g v l n) (hB0 : Below w0.heap.size w0 w) (hl : l.length ≤ 1000000) (hl0 : l ≠ []) (hel : ∀ x ∈ l, 0 ≤ x ∧ x ≤ 1000000) (h0 : 0 ≤ n) (hn : n ≤ 1000000)
    (A0 : Option Addr) (c0 : Nat) (ins : List Int) (hr : Kd.C (Kd.int .u8) w A0 ins.length ins) (hc0 : ins.length ≤ c0) (hi : ins.length ≤ 1000000)
    (p d x : Int) (h1 : 0 ≤ p) (h2 : 0 ≤ d) (h3 : p ≤ n) (h4 : d ≤ n - p) :
    Calls Try.prog 17 #[.pointer (some ⟨g, 0, none⟩), .int .i64 p, .int .i64 d, .slice A0 ins.length c0, .int .u8 x] w fun e w' => e = .returned (.int .i64 0) ∧ ∃ v', Ix w0 w' g v' (spF l p d ins) (n - d + ins.length) ∧ Below w0.heap.size w0 w' ∧ KeepBut w w' g none := by
  obtain ⟨A, c, rfl⟩ := Kd.R_slice h.row
  have hlc := (Kd.R_reads' h.row).2.1
  obtain ⟨ad, e1, hzz⟩ := Kd.at_int (Kd.R_reads' h.row).2.2 0 (by omega) (by have := List.length_pos_iff.mpr hl0; omega)
  subst e1
  clear hzz
  have HI := Aside0.mk h
  have HLC := Aside0.mk hlc
  have HEL := Aside0.mk hel
  have HB0 := Aside0.mk hB0
  have HR := Aside0.mk hr
  have hw : IntKind.i64.wrap (n - p) = n - p := by simp [IntKind.wrap, IntKind.bits, IntKind.signed]; omega
  clear hr hel hB0 hlc h hl0
  have c1 : ¬ p < 0 := by omega
  have c2 : ¬ d < 0 := by omega
  have c3 : ¬ n < p := by omega
  have c4 : ¬ n - p < d := by omega
  have HBw : Aside0 (Below w.heap.size w (w.alloc (.cells #[.int .i64 p] 3))) := ⟨below_alloc (Below.refl _ _) _⟩
  have HS : Aside0 ((w.alloc (.cells #[.int .i64 p] 3)).heap.size = w.heap.size + 1) := ⟨by simp⟩
  have HBX : Aside0 ((w.alloc (.cells #[.int .i64 p] 3)).heap[w.heap.size]? = some (.cells #[.int .i64 p] 3 (0, 0))) := ⟨blk_new _ _⟩
  have hd : (w.alloc (.cells #[.int .i64 p] 3)).cell? ⟨g, 1, none⟩ = some (.int .i64 n) := (blk_cell (blk_below HI.out.cell HBw.out) 1).trans rfl
  have hb : (w.alloc (.cells #[.int .i64 p] 3)).cell? ⟨w.heap.size, 0, none⟩ = some (.int .i64 p) := (blk_cell HBX.out 0).trans rfl
  go_enter Try.func17, Try.ntmps17
  go_wp2_with fail
  generalize w.alloc (.cells #[.int .i64 p] 3) = W at *
  go_quiet (fail)
  clear hd hb
  have HB1 : Aside0 (Below w.heap.size w (W.drewN nq)) := ⟨pw_below_drewN HBw.out nq⟩
  have HS1 : Aside0 ((W.drewN nq).heap.size = w.heap.size + 1) := HS
  have HX1 : Aside0 ((W.drewN nq).heap[w.heap.size]? = some (.cells #[.int .i64 p] 3 (0, 0))) := HBX
  clear HBw HS HBX
  generalize W.drewN nq = X at *
  clear nq W
  have KEEP : Aside0 (∀ Y, Below X.heap.size X Y → Y.cell? ⟨g, 0, none⟩ = some (.slice (some ad) l.length c) ∧ Y.cell? ⟨w.heap.size, 0, none⟩ = some (.int .i64 p)) := ⟨fun Y hY => ⟨(blk_cell (blk_below (blk_below HI.out.cell HB1.out) hY) 0).trans rfl, (blk_cell (blk_below HX1.out hY) 0).trans rfl⟩⟩
  have HCX : Aside0 (Kd.C (Kd.int .i64) X (some ad) l.length l) := ⟨Kd.C_below (Kd.R_reads' HI.out.row).2.2 HB1.out⟩
  have HRX : Aside0 (Kd.C (Kd.int .u8) X A0 ins.length ins) := ⟨Kd.C_below HR.out HB1.out⟩
  have hfl := frontN_le l p
  have HFE := Aside0.mk (frontN_eq l p)
  obtain ⟨f, hf⟩ : ∃ f, f = frontN l p := ⟨_, rfl⟩
  rw [← hf] at HFE hfl
  have HF := Aside0.mk hf
  clear hf
  have hc := (KEEP.out X (Below.refl _ _)).1
  obtain ⟨q, hq⟩ : ∃ q, q = gtAt p l 0 := ⟨_, rfl⟩
  rw [← hq] at HFE
  have HQ2 := Aside0.mk hq
  clear hq
  go_upto_if 50 with (go_at_call 19; go_must (refine (index_gt 22 _ Try.func22 (by kernel_rfl) rfl w.heap.size p (fun s W => gt22 w.heap.size p s W) (some ad) c l _ HCX.out hl HX1.out).mono ?_); rintro e w1 ⟨rfl, hb⟩; rw [← HQ2.out]; have HBq := Aside0.mk hb; clear hb; have hcq := (KEEP.out w1 HBq.out).1)
  go_cut [11] (fun s11 wx => s11 = .int .i64 (f : Int) ∧ Aside0 (Below X.heap.size X wx))
  case first =>
    by_cases cq : q < 0
    · go_wp2
      go_meet
      have z := HFE.out
      rw [if_pos cq] at z
      exact ⟨by rw [z], HBq⟩
    · go_wp2
      go_meet
      have z := HFE.out
      rw [if_neg (by omega)] at z
      exact ⟨by rw [z], HBq⟩
  case rest =>
    obtain ⟨rfl, HBc⟩ := hcut
    have hct : Kd.C (Kd.int .i64) X (some ad) (l.take f).length (l.take f) := Kd.C_take HCX.out hfl
    have hlt : (l.take f).length = f := by rw [List.length_take]; omega
    obtain ⟨t, ht⟩ : ∃ t, t = l.take f := ⟨_, rfl⟩
    rw [← ht] at hct hlt
    have HT := Aside0.mk ht
    have HLT := Aside0.mk hlt
    have HCT := Aside0.mk hct
    have HLT1 := Aside0.mk (show t.length ≤ 1000000 by omega)
    have hbl := behK_le ins p ins.length
    have HL := Aside0.mk (show (t.length + (behF ins p).length) * 8 ≤ 140737488355328 by unfold behF; omega)
    clear hbl hct hlt ht
    obtain ⟨k, hk⟩ := behind_ev ins p hi h1 (by omega)
    have HK := Aside0.mk (hk k (Nat.le_refl _))
    have HP := Aside0.mk hk
    clear hk
    have hfc : f ≤ c := Nat.le_trans hfl HLC.out
    go_upto_region 8 with (fail)
    go_cut [12] (fun s12 wx => ∃ A2 n2 c2, s12 = .slice A2 n2 c2 ∧ Aside0 (n2 = (t ++ behF ins p).length) ∧ Aside0 (Kd.R (Kd.int .i64) 3 wx X.heap.size (fun _ => True) (.slice A2 n2 c2) (t ++ behF ins p)) ∧ Aside0 (Below X.heap.size X wx))
    case first =>
      obtain ⟨hz1, hz2⟩ := KEEP.out wc HBc.out
      go_region_held3 (fun w' => w'.cell? ⟨g, 0, none⟩ = some (.slice (some ad) l.length c) ∧ w'.cell? ⟨w.heap.size, 0, none⟩ = some (.int .i64 p))
        (exact KEEP.out _ (by repeat (first | exact HBc.out | apply below_drew1 | apply pw_below_drewN)))
        (first
          | (go_simp; go_at_call 23; (with_reducible refine (clone_len (some ad) f c t _ HLT.out (Kd.C_below HCT.out (by repeat (first | exact HBc.out | apply below_drew1 | apply pw_below_drewN))) HLT1.out).mono ?_); rintro e w6 ⟨A6, c6, rfl, hx1, hx2⟩; have HBn := Aside0.mk (below_step (by repeat (first | exact HBc.out | apply below_drew1 | apply pw_below_drewN)) hx2); have HO6 := Aside0.mk (Kd.R_lower hx1 (show X.heap.size ≤ _ from HBc.out.size)); (try (have n7 := Aside0.mk (Kd.R_below HO7.out hx2); clear HO7; have HO7 := n7; clear n7)); clear HBc; have HBc := HBn; clear HBn hx1 hx2)
          | (go_simp; go_at_call 21; (with_reducible refine (lines_behind.calls k _ _ ins p (behF ins p) _ (Kd.C_below HRX.out (by repeat (first | exact HBc.out | apply below_drew1 | apply pw_below_drewN))) hc0 HK.out).mono ?_); rintro e w7 ⟨v109, rfl, hx1, hx2⟩; obtain ⟨A7, c7, rfl⟩ := Kd.R_slice hx1; have HBn := Aside0.mk (below_step (by repeat (first | exact HBc.out | apply below_drew1 | apply pw_below_drewN)) hx2); have HO7 := Aside0.mk hx1; (try (have n6 := Aside0.mk (Kd.R_below HO6.out hx2); clear HO6; have HO6 := n6; clear n6)); clear HBc; have HBc := HBn; clear HBn hx1 hx2)
          | (refine Kd.R_append_rows_step (Kd.int .i64) (w0 := X) X.heap.size rfl (.tmp 62) (.tmp 65) 23 3 (.int .i64 0) 8 rfl Try.underlying23 info3 rfl (by decide) (by omega) (.slice A6 t.length c6) t (behF ins p) A7 _ c7 (fun _ => True) (fun _ => False) rfl rfl HO6.out (Kd.R_reads' HO7.out).2.2 (fun _ _ h => h) (fun _ h => h.elim) (fun _ _ => trivial) HBc.out HBc.out.size HL.out ?_; intro v8 w8 ho8 hb8 hg8 hat8; obtain ⟨A8, c8, rfl⟩ := Kd.R_slice ho8; have HO8 := Aside0.mk ho8; clear HBc; have HBc := Aside0.mk hb8; clear ho8 hb8 hg8 hat8)
          | fail)
      all_goals (go_wp2_with fail; go_meet; exact ⟨_, _, _, rfl, ⟨by rw [List.length_append]⟩, ⟨by simpa only [List.length_append] using HO8.out⟩, HBc⟩)
    case rest =>
      obtain ⟨A2, n2, c2, rfl, HN2, HO2, HB2⟩ := hcut
      have hz1 := (KEEP.out wc HB2.out).1
      have HCD : Aside0 (Kd.C (Kd.int .i64) X (if c = f then some ad else (some ad).map (·.add (f * 1))) (l.drop f).length (l.drop f)) := ⟨Kd.C_drop HCX.out hfl HLC.out⟩
      obtain ⟨m, hm⟩ : ∃ m, m = l.drop f := ⟨_, rfl⟩
      have hml : m.length = l.length - f := by rw [hm, List.length_drop]
      rw [← hm] at HCD
      have HM := Aside0.mk hm
      have HML := Aside0.mk hml
      clear hm hml
      go_upto_region 9 with (fail)
      go_cut [72, 73, 74] (fun s72 s73 s74 wx => ∃ D cD, s72 = .slice D m.length cD ∧ s73 = .int .i64 (m.length : Int) ∧ s74 = .int .i64 0 ∧ Aside0 (Kd.C (Kd.int .i64) X D m.length m) ∧ Aside0 (wx = wc))
      case first =>
        have hlc := HLC.out
        by_cases cf : c = f
        · have HCE := HCD.out
          rw [if_pos cf] at HCE
          have HCF := Aside0.mk HCE
          clear HCE HCD
          go_wp2_with fail
          go_meet
          rw [HML.out]
          exact ⟨_, _, rfl, by first | rfl | (congr 1; omega), rfl, ⟨by rw [← HML.out]; simpa using HCF.out⟩, ⟨rfl⟩⟩
        · have HCE := HCD.out
          rw [if_neg cf] at HCE
          have HCF := Aside0.mk HCE
          clear HCE HCD
          go_wp2_with fail
          go_meet
          rw [HML.out]
          exact ⟨_, _, rfl, by first | rfl | (congr 1; omega), rfl, ⟨by rw [← HML.out]; simpa using HCF.out⟩, ⟨rfl⟩⟩
      case rest =>
        obtain ⟨D, cD, rfl, rfl, rfl, HCD2, HWE⟩ := hcut
        obtain rfl := HWE.out
        clear HWE
        obtain ⟨o, ho⟩ : ∃ o, o = t ++ behF ins p := ⟨_, rfl⟩
        have HOL : Aside0 (o.length ≤ 2000000) := ⟨by rw [ho, List.length_append]; have := HL.out; have := HLT1.out; have := behK_le ins p ins.length; unfold behF; omega⟩
        rw [← ho] at HN2 HO2
        have HOO := Aside0.mk ho
        clear ho
        obtain ⟨mm, hmm⟩ : ∃ mm : Int, mm = ins.length - d := ⟨_, rfl⟩
        have HMM := Aside0.mk hmm
        clear hmm
        have HEM : Aside0 (∀ k : Nat, k < m.length → 0 ≤ rd m k ∧ rd m k ≤ 1000000) := ⟨fun k hk => by
          have hr : rd m k = m[k] := by
            unfold rd
            rw [Int.toNat_natCast, List.getD_eq_getElem?_getD, List.getElem?_eq_getElem hk]
            rfl
          rw [hr]
          have hmem : m[k] ∈ m := List.getElem_mem hk
          have h5 : ∀ z ∈ m, z ∈ l := fun z hz => by rw [HM.out] at hz; exact List.mem_of_mem_drop hz
          exact HEL.out _ (h5 _ hmem)⟩
        have hw1 : IntKind.i64.wrap (p + d) = p + d := by simp [IntKind.wrap, IntKind.bits, IntKind.signed]; omega
        clear hz1 hc hcq
        go_wp2_with fail
        go_loopw [12, 74] (fun s12 s74 wr => ∃ (k : Nat) (A3 : Option Addr) (n3 c3 : Nat), k ≤ m.length ∧ s74 = .int .i64 (k : Int) ∧ s12 = .slice A3 n3 c3 ∧ Aside0 (n3 = (o ++ tailF (p + d) mm (m.take k)).length) ∧ Aside0 (Kd.R (Kd.int .i64) 3 wr X.heap.size (fun _ => True) (.slice A3 n3 c3) (o ++ tailF (p + d) mm (m.take k))) ∧ Aside0 (Below X.heap.size X wr))
          (fun _ i _ => m.length - (intOf i).toNat)
        case atStart => exact ⟨0, A2, n2, c2, Nat.zero_le _, rfl, rfl, ⟨by rw [HN2.out]; simp [tailF]⟩, ⟨by simpa [tailF] using HO2.out⟩, HB2⟩
        case round =>
          obtain ⟨k, A3, n3, c3, hk, rfl, rfl, HN3, HO3, HB3⟩ := hrel
          have hz2 := (KEEP.out wr HB3.out).2
          by_cases hkl : k < m.length
          · obtain ⟨ad4, e4, hx0⟩ := Kd.at_int (Kd.C_below HCD2.out HB3.out) (k : Int) (by omega) (by omega)
            subst e4
            simp only [Int.toNat_natCast] at hx0
            obtain ⟨hs0, hs1⟩ := HEM.out k hkl
            have HT2 := Aside0.mk (tailF_take (p + d) mm m k hkl)
            have hdn : d ≤ 1000000 := by omega
            have hml2 : m.length ≤ 1000000 := by have := HML.out; omega
            obtain ⟨s, hs⟩ : ∃ s, s = rd m k := ⟨_, rfl⟩
            rw [← hs] at hx0 HT2 hs0 hs1
            clear hs
            have hw2 : IntKind.i64.wrap (s - d) = s - d := by simp [IntKind.wrap, IntKind.bits, IntKind.signed]; omega
            have hw3 : IntKind.i64.wrap (s - d + (ins.length : Int)) = s - d + ins.length := by simp [IntKind.wrap, IntKind.bits, IntKind.signed]; omega
            by_cases cc : p + d < s
            · obtain ⟨tl, htl⟩ : ∃ tl, tl = tailF (p + d) mm (m.take k) := ⟨_, rfl⟩
              rw [← htl] at HN3 HO3 HT2
              have HTL : Aside0 (((o ++ tl).length + 1) * 8 ≤ 140737488355328) := ⟨by
                have := tailF_len (p + d) mm (m.take k)
                rw [← htl, List.length_take] at this
                rw [List.length_append]
                have := HOL.out
                omega⟩
              have hm2 := HMM.out
              have HV : Aside0 (s + mm = s - d + (ins.length : Int)) := ⟨by omega⟩
              clear htl hm2
              go_wp2_with ((with_reducible refine gate_builtin (b := .append) (xs := #[.tmp 83, .tmp 90]) rfl ?_); at_builtin; go_must (refine Kd.R_append (Kd.int .i64) (w0 := X) X.heap.size rfl (.tmp 83) (.tmp 90) 23 3 (.int .i64 0) 8 rfl Try.underlying23 info3 rfl (by decide) (by omega) (.slice A3 n3 c3) (o ++ tl) (s - d + (ins.length : Int)) [.int .i64 (s - d + (ins.length : Int))] (fun _ => True) (fun _ => False) rfl rfl ?aP (fun _ hk => hk.elim) (fun _ _ => trivial) HO3.out HB3.out HB3.out.size HTL.out ?_); (case aP => exact rfl); intro v8 w8 ho8 hb8 hg8 hat8; obtain ⟨A8, c8, rfl⟩ := Kd.R_slice ho8; rw [← HV.out] at ho8; have HO8 := Aside0.mk ho8; have HB8 := Aside0.mk hb8; clear ho8 hb8 hg8 hat8)
              go_roundw
              case measure => simp [intOf]; omega
              case rel => exact ⟨k + 1, A8, _, c8, by omega, by simp, rfl, ⟨by rw [HT2.out, if_pos cc]; simp⟩, ⟨by rw [HT2.out, if_pos cc, ← List.append_assoc]; simpa using HO8.out⟩, HB8⟩
            · go_wp2
              go_roundw
              case measure => simp [intOf]; omega
              case rel => exact ⟨k + 1, A3, n3, c3, by omega, by simp, rfl, ⟨by rw [HT2.out, if_neg (by omega)]; exact HN3.out⟩, ⟨by rw [HT2.out, if_neg (by omega)]; exact HO3.out⟩, HB3⟩
          · obtain rfl : k = m.length := by omega
            have hblk := blk_below (blk_below HI.out.cell HB1.out) HB3.out
            have HBK := Aside0.mk hblk
            have hd0 : wr.cell? ⟨g, 0, none⟩ = some (.slice (some ad) l.length c) := (blk_cell hblk 0).trans rfl
            have hd1 : wr.cell? ⟨g, 1, none⟩ = some (.int .i64 n) := (blk_cell hblk 1).trans rfl
            have ff0 := blk_frozen hblk 0
            have ff1 := blk_frozen hblk 1
            have hw4 : IntKind.i64.wrap (n - d) = n - d := by simp [IntKind.wrap, IntKind.bits, IntKind.signed]; omega
            have hw5 : IntKind.i64.wrap (n - d + (ins.length : Int)) = n - d + ins.length := by simp [IntKind.wrap, IntKind.bits, IntKind.signed]; omega
            clear hblk
            go_wp2
            go_ret
            have HBX : Below w.heap.size w wr := below_step HB1.out HB3.out
            have hrow := HO3.out
            have hsz : w0.heap.size ≤ X.heap.size := by have := HB0.out.size; have := HB1.out.size; omega
            refine ⟨rfl, _, Ix.set HI.out.ge HBK.out (l' := spF l p d ins) (Kd.R_lower ?_ hsz) rfl, ?_, ?_⟩
            · rw [List.take_length] at hrow
              have e : spF l p d ins = o ++ tailF (p + d) mm m := by
                unfold spF
                rw [← HF.out, ← HM.out, ← HT.out, ← HOO.out, ← HMM.out]
              rw [e]
              exact hrow
            · exact ((below_step HB0.out HBX).setCell HI.out.ge _).setCell HI.out.ge _
            · exact ((KeepBut.of_below HBX g none).set_ 0 _).set_ 1 _
end Go.Proofs.Ytcjfhcfkjnfihaa.PLines
