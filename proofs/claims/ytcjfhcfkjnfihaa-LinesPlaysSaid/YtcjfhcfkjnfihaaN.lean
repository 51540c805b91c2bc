/- LinesPlays: the steps as they lie in memory; the walk. -/
import Derived.Test.YtcjfhcfkjnfihaaG
import Derived.Test.YtcjfhcfkjnfihaaTold
import Derived.Test.YtcjfhcfkjnfihaaC2
namespace Go.Proofs.Ytcjfhcfkjnfihaa.PLines
open Go.RowKit Go.Proofs.YtcjfhcfkjnfihaaW.PrintWords Go.Proofs.YtcjfhcfkjnfihaaW.PrintLast Go.Proofs.YtcjfhcfkjnfihaaW.PrintMore

/-- A step: its kind, where, how many; its bytes, and where they lie. -/
structure OpV where
  kind : Int
  at_ : Int
  del : Int
  A : Option Addr
  c : Nat
  b : List Int
/-- The cells of a step; its bytes. -/
structure OpAt (w : World) (ad : Addr) (i : Nat) (o : OpV) : Prop where
  c0 : w.cell? (ad.add (i * 4)) = some (.int .i64 o.kind)
  c1 : w.cell? { block := (ad.add (i * 4)).block, off := (ad.add (i * 4)).off + 1 } = some (.int .i64 o.at_)
  c2 : w.cell? { block := (ad.add (i * 4)).block, off := (ad.add (i * 4)).off + 2 } = some (.int .i64 o.del)
  c3 : w.cell? { block := (ad.add (i * 4)).block, off := (ad.add (i * 4)).off + 3 } = some (.slice o.A o.b.length o.c)
  bytes : Kd.C (Kd.int .u8) w o.A o.b.length o.b
  cap : o.b.length ≤ o.c
  u8 : ∀ x ∈ o.b, 0 ≤ x ∧ x ≤ 255

theorem strOfNums_app (a b : List Int) : strOfNums a ++ strOfNums b = strOfNums (a ++ b) := by
  apply ByteArray.ext
  rw [ByteArray.data_append]
  simp [strOfNums]

theorem strOf_splice (bs b : List Int) (P Q : Nat) : (strOfNums bs).extract 0 P ++ strOfNums b ++ (strOfNums bs).extract Q bs.length = strOfNums (bs.take P ++ b ++ bs.drop Q) := by
  apply ByteArray.ext
  rw [ByteArray.data_append, ByteArray.data_append, ByteArray.data_extract, ByteArray.data_extract]
  apply Array.toList_inj.mp
  simp [strOfNums]
  rw [List.take_of_length_le (by simp)]

theorem Ix.far {w0 W : World} {g : Nat} {v : Value} {l : List Int} {n : Int} (h : Ix w0 W g v l n) {q : Addr} (hg : g ≠ q.block) (hv : some q.block ≠ v.ownBlock) (u : Value) : Ix w0 (W.setCell q u) g v l n :=
  ⟨h.ge, blk_far h.cell hg u, Kd.R_of_own (own_setCell (Kd.own_of_R h.row) hv u) (fun _ _ => trivial)⟩

set_option maxHeartbeats 8000000 in
set_option maxRecDepth 100000 in
theorem plays_walk (A : Option Addr) (n c : Nat) (w : World) (hops : ∀ i, i < n → ∃ ad o, A = some ad ∧ OpAt w ad i o) (hn63 : (n : Int) ≤ 9223372036854775807) :
    Calls Try.prog 4 #[.slice A n c] w fun e w' => e = .returned (.bool true) ∧ Below w.heap.size w w' := by
  have HO := Aside0.mk hops
  clear hops
  by_cases cn : 60 < (n : Int)
  · have q1 : decide (60 < (n : Int)) = true := decide_eq_true cn
    clear cn
    go_enter Try.func4, Try.ntmps4
    go_wp2_with (first | (go_at_call 15; go_must (refine (new_call w w (Below.refl _ _)).mono ?_); rintro e w5 ⟨g, v5, rfl, hix, hb, hb2⟩; have HX := Aside0.mk hb; clear hix hb hb2) | (go_at_call 7; go_must (refine (told_calls _).mono ?_); rintro e w1 ⟨rfl, hb⟩; have HB := Aside0.mk hb; clear hb))
    go_ret
    exact ⟨rfl, below_step HX.out HB.out⟩
  · have q1 : decide (60 < (n : Int)) = false := decide_eq_false cn
    have HN := Aside0.mk cn
    clear cn
    go_enter Try.func4, Try.ntmps4
    go_wp2_with (go_at_call 15; go_must (refine (new_call w w (Below.refl _ _)).mono ?_); rintro e w5 ⟨g, v5, rfl, hix, hb, hb2⟩; have HI := Aside0.mk hix; have HX := Aside0.mk hb; clear hix hb hb2)
    go_loopw [4, 5] (fun s4 s5 wr => ∃ (k : Nat) (bs : List Int) (v : Value), k ≤ n ∧ s5 = .int .i64 (k : Int) ∧ s4 = .string (strOfNums bs) ∧ Aside0 (bs.length ≤ 40 * k) ∧ Aside0 (∀ x ∈ bs, 0 ≤ x ∧ x ≤ 255) ∧ Aside0 (Ix w wr g v (st bs) bs.length) ∧ Aside0 (Below w.heap.size w wr))
      (fun _ i _ => n - (intOf i).toNat)
    case atStart => exact ⟨0, [], v5, Nat.zero_le _, rfl, rfl, ⟨by simp⟩, ⟨fun x hx => by simp at hx⟩, HI, HX⟩
    case round =>
      clear HI HX
      obtain ⟨k, bs, v, hk, rfl, rfl, HBL, HU, HI, HX⟩ := hrel
      by_cases hkn : k < n
      · obtain ⟨ad, o, e1, ho⟩ := HO.out k hkn
        subst e1
        have HOK := Aside0.mk ho
        have hx0 := (HX.out.cell (World.block_lt_of_cell? w _ ho.c0)).trans ho.c0
        have hx1 := (HX.out.cell (World.block_lt_of_cell? w _ ho.c1)).trans ho.c1
        have hx2 := (HX.out.cell (World.block_lt_of_cell? w _ ho.c2)).trans ho.c2
        have hx3 := (HX.out.cell (World.block_lt_of_cell? w _ ho.c3)).trans ho.c3
        clear ho
        obtain ⟨kind, at_, del, Ao, co, b⟩ := o
        simp only at hx0 hx1 hx2 hx3
        go_upto_region 11 with (fail)
        have HXw := Aside0.mk (below_alloc (Below.refl wr.heap.size wr) (.cells #[.int .i64 kind, .int .i64 at_, .int .i64 del, .slice Ao b.length co] 37))
        have HIX := Aside0.mk (HI.out.below HXw.out)
        have HXX := Aside0.mk (below_step HX.out HXw.out)
        have HBK := Aside0.mk (blk_new wr (.cells #[.int .i64 kind, .int .i64 at_, .int .i64 del, .slice Ao b.length co] 37))
        have hgl := blk_lt HI.out.cell
        obtain ⟨h, hh⟩ : ∃ h, h = wr.heap.size := ⟨_, rfl⟩
        have HGH : Aside0 (g ≠ h) := ⟨by omega⟩
        have HHH : Aside0 (w.heap.size ≤ h) := ⟨by have := HX.out.size; omega⟩
        have HOWN : Aside0 (some h ≠ v.ownBlock) := ⟨fun e => by have := Kd.R_lt HI.out.row h e.symm; omega⟩
        rw [← hh] at HBK ⊢
        clear hh hgl hx0 hx1 hx2 hx3
        generalize wr.alloc (.cells #[.int .i64 kind, .int .i64 at_, .int .i64 del, .slice Ao b.length co] 37) = X at *
        have hy0 : X.cell? ⟨h, 0, none⟩ = some (.int .i64 kind) := (blk_cell HBK.out 0).trans rfl
        have hy1 : X.cell? ⟨h, 1, none⟩ = some (.int .i64 at_) := (blk_cell HBK.out 1).trans rfl
        have hy2 : X.cell? ⟨h, 2, none⟩ = some (.int .i64 del) := (blk_cell HBK.out 2).trans rfl
        have hy3 : X.cell? ⟨h, 3, none⟩ = some (.slice Ao b.length co) := (blk_cell HBK.out 3).trans rfl
        have HUB : Aside0 (∀ x ∈ b, 0 ≤ x ∧ x ≤ 255) := ⟨HOK.out.u8⟩
        have HCB : Aside0 (Kd.C (Kd.int .u8) w Ao b.length b) := ⟨HOK.out.bytes⟩
        have HCC : Aside0 (b.length ≤ co) := ⟨HOK.out.cap⟩
        clear HOK HO HI HX HXw
        by_cases c40 : 40 < (b.length : Int)
        · have q2 : decide (40 < (b.length : Int)) = true := decide_eq_true c40
          clear c40
          go_wp2_with (go_at_call 7; go_must (refine (told_calls _).mono ?_); rintro e w1 ⟨rfl, hb⟩; have HB := Aside0.mk hb; clear hb)
          go_ret
          exact ⟨rfl, below_step HXX.out HB.out⟩
        · have q2 : decide (40 < (b.length : Int)) = false := decide_eq_false c40
          have H40 := Aside0.mk c40
          clear c40
          go_upto_region 14 with (fail)
          generalize (wrap64 (kind.tmod 5 + 5)).tmod 5 = kk
          have hcv := fun N : Nat => Kd.C_string (P := Try.prog) (w := X.drewN N) (A := Ao) (c := co) Try.underlying22 Try.underlying5 Try.underlying9 (Kd.C_drewN (Kd.C_below HCB.out HXX.out) N)
          have HCV := Aside0.mk hcv
          clear hcv
          have hsb : (strOfNums bs).size = bs.length := strOfNums_size bs
          have hsc : (strOfNums b).size = b.length := strOfNums_size b
          have hlim : ¬ (9223372036854775807 : Int) < (bs.length : Int) + (b.length : Int) := by have := H40.out; have := HBL.out; have := HN.out; omega
          have HSB := Aside0.mk hsb
          have HSC := Aside0.mk hsc
          have HLIM := Aside0.mk hlim
          clear hsb hsc hlim
          go_upto_if 37 with (fail)
          go_cut [4] (fun s4 wx => ∃ (bs' : List Int) (v' : Value), s4 = .string (strOfNums bs') ∧ Aside0 (bs'.length ≤ 40 * (k + 1)) ∧ Aside0 (∀ x ∈ bs', 0 ≤ x ∧ x ≤ 255) ∧ Aside0 (Ix w wx g v' (st bs') bs'.length) ∧ Aside0 (Below w.heap.size w wx))
          case first =>
            by_cases k2 : kk < 2
            · have hsb := HSB.out
              have hsc := HSC.out
              have hlim := HLIM.out
              go_wp2_with (go_at_call 16; go_must (refine (feed_keep w _ g v (st bs) bs.length HIX.out HXX.out (by have := st_len bs; have := HBL.out; have := HN.out; omega) (by omega) (by have := HBL.out; have := HN.out; omega) _ _ b (Kd.C_below HCB.out HXX.out) HCC.out (by have := H40.out; omega)).mono ?_); rintro e w6 ⟨rfl, v6, hix, hbb, hkk⟩; rw [st_app] at hix; have HI6 := Aside0.mk hix; have HX6 := Aside0.mk hbb; have hz3 : w6.cell? ⟨h, 3, none⟩ = some (.slice Ao b.length co) := (blk_cell (hkk.blk HBK.out HGH.out.symm HOWN.out) 3).trans rfl; have hcv6 := Kd.C_string (P := Try.prog) (w := w6) (A := Ao) (c := co) Try.underlying22 Try.underlying5 Try.underlying9 (Kd.C_below HCB.out HX6.out); clear hy0 hy1 hy2 hy3 hix hbb hkk)
              go_meet
              refine ⟨bs ++ b, v6, by rw [strOfNums_app], ⟨?_⟩, ⟨fun x hx => ?_⟩, ⟨?_⟩, HX6⟩
              · rw [List.length_append]; have := HBL.out; have := H40.out; omega
              · rcases List.mem_append.mp hx with hx | hx
                · exact HU.out x hx
                · exact HUB.out x hx
              · have z := HI6.out
                rw [List.length_append, Int.natCast_add]
                exact z
            · go_upto_if 48 with (fail)
              have hff1 := blk_frozen HBK.out 1
              have hff2 := blk_frozen HBK.out 2
              have hu : 0 ≤ IntKind.u64.wrap at_ := by simp [IntKind.wrap, IntKind.bits, IntKind.signed]; omega
              have hz1 : IntKind.u64.wrap (wrap64 ((bs.length : Int) + 1)) = bs.length + 1 := by
                have := HBL.out; have := HN.out
                rw [show wrap64 ((bs.length : Int) + 1) = (bs.length : Int) + 1 by unfold wrap64; omega]
                simp [IntKind.wrap, IntKind.bits, IntKind.signed]
                omega
              obtain ⟨p, hp⟩ : ∃ p, p = (IntKind.u64.wrap at_).tmod ((bs.length : Int) + 1) := ⟨_, rfl⟩
              have hp0 : 0 ≤ p := by rw [hp]; exact Int.tmod_nonneg _ hu
              have hp1 : p < bs.length + 1 := by rw [hp]; exact Int.tmod_lt_of_pos _ (by omega)
              have hpw : wrap64 ((IntKind.u64.wrap at_).tmod (IntKind.u64.wrap (wrap64 ((bs.length : Int) + 1)))) = p := by
                have := HBL.out; have := HN.out
                rw [hz1, ← hp]
                unfold wrap64
                omega
              have hnz1 : ¬ IntKind.u64.wrap (wrap64 ((bs.length : Int) + 1)) = 0 := by rw [hz1]; omega
              have hz2 : wrap64 ((bs.length : Int) - p) = bs.length - p := by have := HBL.out; have := HN.out; unfold wrap64; omega
              have hnz2 : ¬ IntKind.u64.wrap (wrap64 ((bs.length : Int) - p + 1)) = 0 := by
                have := HBL.out; have := HN.out
                rw [show wrap64 ((bs.length : Int) - p + 1) = (bs.length : Int) - p + 1 by unfold wrap64; omega]
                simp [IntKind.wrap, IntKind.bits, IntKind.signed]
                omega
              clear hu hz1 hp
              have hsb := HSB.out
              go_cut [] (fun wx => ∃ p d : Int, Aside0 (wx.heap[h]? = some (.cells #[.int .i64 kind, .int .i64 p, .int .i64 d, .slice Ao b.length co] 37 (0, 0))) ∧ Aside0 (Ix w wx g v (st bs) bs.length) ∧ Aside0 (Below w.heap.size w wx))
              case first =>
                by_cases k4 : kk < 4
                · go_wp2
                  go_meet
                  exact ⟨p, _, ⟨(blk_set (blk_set HBK.out 1 _) 2 _).trans rfl⟩, ⟨(HIX.out.far (q := ⟨h, 1, none⟩) HGH.out HOWN.out _).far (q := ⟨h, 2, none⟩) HGH.out HOWN.out _⟩, ⟨(HXX.out.setCell HHH.out _).setCell HHH.out _⟩⟩
                · go_wp2
                  go_meet
                  exact ⟨at_, del, HBK, HIX, HXX⟩
              case rest =>
                clear hp0 hp1 hpw hnz1 hz2 hnz2 hff1 hff2 hy0 hy1 hy2 hy3 p
                obtain ⟨p, d, HBK2, HI2, HX2⟩ := hcut
                have hy1 : wc.cell? ⟨h, 1, none⟩ = some (.int .i64 p) := (blk_cell HBK2.out 1).trans rfl
                have hy2 : wc.cell? ⟨h, 2, none⟩ = some (.int .i64 d) := (blk_cell HBK2.out 2).trans rfl
                have hy3 : wc.cell? ⟨h, 3, none⟩ = some (.slice Ao b.length co) := (blk_cell HBK2.out 3).trans rfl
                by_cases hval : 0 ≤ p ∧ 0 ≤ d ∧ p ≤ bs.length ∧ d ≤ bs.length - p
                · obtain ⟨P, rfl⟩ : ∃ P : Nat, p = P := ⟨p.toNat, by omega⟩
                  obtain ⟨D, rfl⟩ : ∃ D : Nat, d = D := ⟨d.toNat, by omega⟩
                  have HVAL : Aside0 (P + D ≤ bs.length) := ⟨by omega⟩
                  have b1 : decide ((P : Int) < 0) = false := decide_eq_false (by omega)
                  have b2 : decide ((D : Int) < 0) = false := decide_eq_false (by omega)
                  have b3 : decide ((bs.length : Int) < P) = false := decide_eq_false (by omega)
                  have b4 : decide ((bs.length : Int) - P < D) = false := decide_eq_false (by omega)
                  have hz2 : IntKind.i64.wrap ((bs.length : Int) - P) = bs.length - P := by have := HBL.out; have := HN.out; simp [IntKind.wrap, IntKind.bits, IntKind.signed]; omega
                  have hv1 : P ≤ bs.length := by omega
                  have hv2 : (D : Int) ≤ (bs.length : Int) - P := by omega
                  clear hval
                  go_upto_region 26 with (go_at_call 17; go_must (refine (splice_good w _ g v (st bs) bs.length HI2.out HX2.out (by have := st_len bs; have := HBL.out; have := HN.out; omega) (by simp [st]) (fun x hx => by have := st_bound bs x hx; have := HBL.out; have := HN.out; omega) (by omega) (by have := HBL.out; have := HN.out; omega) _ _ b (Kd.C_below HCB.out HX2.out) HCC.out (by have := H40.out; omega) P D 7 (by omega) (by omega) (by have := HVAL.out; omega) (by have := HVAL.out; omega)).mono ?_); rintro e w8 ⟨rfl, v8, hix, hbb, hkk⟩; rw [spF_st bs b P D HVAL.out] at hix; have HI8 := Aside0.mk hix; have HX8 := Aside0.mk hbb; have HBK8 := Aside0.mk ((hkk.2 h (blk_lt HBK2.out) HGH.out.symm (by simp)).trans HBK2.out); have hz5 : w8.cell? ⟨h, 1, none⟩ = some (.int .i64 P) := (blk_cell HBK8.out 1).trans rfl; have hz6 : w8.cell? ⟨h, 2, none⟩ = some (.int .i64 D) := (blk_cell HBK8.out 2).trans rfl; clear hy1 hy2 hy3 hix hbb hkk)
                  have hz7 : w8.cell? ⟨h, 3, none⟩ = some (.slice Ao b.length co) := (blk_cell HBK8.out 3).trans rfl
                  have hcv := fun N : Nat => Kd.C_string (P := Try.prog) (w := w8.drewN N) (A := Ao) (c := co) Try.underlying22 Try.underlying5 Try.underlying9 (Kd.C_drewN (Kd.C_below HCB.out HX8.out) N)
                  have hw9 : IntKind.i64.wrap ((P : Int) + D) = (P : Int) + D := by have := HBL.out; have := HN.out; have := HVAL.out; simp [IntKind.wrap, IntKind.bits, IntKind.signed]; omega
                  have hsc := HSC.out
                  have hlim := HLIM.out
                  have hv3 := HVAL.out
                  clear b1 b2 b3 b4 hz2 k2
                  go_quiet (fail)
                  go_wp2
                  go_meet
                  have hlen : (bs.take P ++ b ++ bs.drop (P + D)).length = bs.length - D + b.length := by rw [List.length_append, List.length_append, List.length_take, List.length_drop]; omega
                  refine ⟨bs.take P ++ b ++ bs.drop (P + D), v8, by rw [strOf_splice bs b P (P + D)], ⟨?_⟩, ⟨fun x hx => ?_⟩, ⟨?_⟩, ⟨pw_below_drewN HX8.out _⟩⟩
                  · rw [hlen]; have := HBL.out; have := H40.out; omega
                  · rcases List.mem_append.mp hx with hx | hx
                    · rcases List.mem_append.mp hx with hx | hx
                      · exact HU.out x (List.mem_of_mem_take hx)
                      · exact HUB.out x hx
                    · exact HU.out x (List.mem_of_mem_drop hx)
                  · have z := HI8.out.below (pw_below_drewN (Below.refl w8.heap.size w8) nq)
                    have e : ((bs.take P ++ b ++ bs.drop (P + D)).length : Int) = bs.length - D + b.length := by rw [hlen]; omega
                    rw [e]
                    exact z
                · have hbad : p < 0 ∨ d < 0 ∨ (bs.length : Int) < p ∨ (bs.length : Int) - p < d := by omega
                  have HBAD := Aside0.mk hbad
                  have hlen0 : 0 ≤ (bs.length : Int) := by omega
                  have HL6 : Aside0 ((bs.length : Int) ≤ 1000000) := ⟨by have := HBL.out; have := HN.out; omega⟩
                  have hz2 : 0 ≤ p → p ≤ bs.length → IntKind.i64.wrap ((bs.length : Int) - p) = bs.length - p := by intro h1 h2; have := HL6.out; simp [IntKind.wrap, IntKind.bits, IntKind.signed]; omega
                  have HZ2 := Aside0.mk hz2
                  have hcase : (p < 0) ∨ (0 ≤ p ∧ d < 0) ∨ (0 ≤ p ∧ 0 ≤ d ∧ (bs.length : Int) < p) ∨ (0 ≤ p ∧ 0 ≤ d ∧ p ≤ bs.length ∧ (bs.length : Int) - p < d ∧ IntKind.i64.wrap ((bs.length : Int) - p) = bs.length - p) := by
                    by_cases q1 : p < 0
                    · exact .inl q1
                    · by_cases q2 : d < 0
                      · exact .inr (.inl ⟨by omega, q2⟩)
                      · by_cases q3 : (bs.length : Int) < p
                        · exact .inr (.inr (.inl ⟨by omega, by omega, q3⟩))
                        · exact .inr (.inr (.inr ⟨by omega, by omega, by omega, by omega, hz2 (by omega) (by omega)⟩))
                  clear hbad hz2 hval hlen0
                  rcases hcase with hq1 | ⟨hq1, hq2⟩ | ⟨hq1, hq2, hq3⟩ | ⟨hq1, hq2, hq3, hq4, hq5⟩
                  all_goals
                    go_wp2_with (go_at_call 17; go_must (refine (splice_bad _ g v bs.length HI2.out.cell (by omega) HL6.out p d 7 _ HBAD.out).mono ?_); rintro e w8 ⟨rfl, hb⟩; have HI8 := Aside0.mk (HI2.out.below hb); have HX8 := Aside0.mk (below_step HX2.out hb); have HBK8 := Aside0.mk (blk_below HBK2.out hb); have hz5 : w8.cell? ⟨h, 1, none⟩ = some (.int .i64 p) := (blk_cell HBK8.out 1).trans rfl; have hz6 : w8.cell? ⟨h, 2, none⟩ = some (.int .i64 d) := (blk_cell HBK8.out 2).trans rfl; clear hb hy1 hy2 hy3)
                    go_meet
                    exact ⟨bs, v, rfl, ⟨by have := HBL.out; omega⟩, HU, HI8, HX8⟩
          case rest =>
            obtain ⟨bs', v', rfl, HBL', HU', HI', HX'⟩ := hcut
            obtain ⟨kn, hkn⟩ := numbers_ev (st bs') (by have := st_len bs'; have := HBL'.out; have := HN.out; omega)
            have HKN := Aside0.mk (show gobolaw4_numbers.f kn (st bs') (st bs') = some true from hkn kn (Nat.le_refl _))
            clear hkn
            obtain ⟨kr, hkr⟩ := refStarts_ev bs' (by have := HBL'.out; have := HN.out; omega) HU'.out
            have HKR := Aside0.mk (show goboref3_Starts.f kr (strOfNums bs') = some (st bs') from hkr kr (Nat.le_refl _))
            clear hkr
            have HSL : Aside0 ((st bs').length ≤ 1000000) := ⟨by have := st_len bs'; have := HBL'.out; have := HN.out; omega⟩
            obtain ⟨S, hS⟩ : ∃ S, S = st bs' := ⟨_, rfl⟩
            rw [← hS] at HKN HKR HI' HSL
            have HS := Aside0.mk hS
            clear hS hy0 hy1 hy2 hy3
            go_wp2_with (first | (go_at_call 18; go_must (refine (starts_call w _ g v' S _ HI'.out HSL.out).mono ?_); rintro e w13 ⟨v13, rfl, ho, hb⟩; obtain ⟨A13, c13, rfl⟩ := Kd.R_slice ho; have HOS := Aside0.mk ho; have HI13 := Aside0.mk (HI'.out.below hb); have HX13 := Aside0.mk (below_step HX'.out hb); clear ho hb) | (go_at_call 14; go_must (refine (goboref3_Starts.calls kr (strOfNums bs') S _ HKR.out).mono ?_); rintro e w14 ⟨v14, rfl, ho, hb⟩; obtain ⟨A14, c14, rfl⟩ := Kd.R_slice ho; have HOR := Aside0.mk ho; have HOS2 := Aside0.mk (Kd.R_below HOS.out hb); have HI14 := Aside0.mk (HI13.out.below hb); have HX14 := Aside0.mk (below_step HX13.out hb); clear ho hb) | (go_at_call 12; go_must (refine (gobolaw4_numbers.calls kn _ _ S _ _ S true _ (Kd.R_reads' HOS2.out).2.2 (Kd.R_reads' HOS2.out).2.1 (Kd.R_reads' HOR.out).2.2 (Kd.R_reads' HOR.out).2.1 HKN.out).mono ?_); rintro e w15 ⟨rfl, hd⟩; have HI15 := Aside0.mk (HI14.out.below hd.below); have HX15 := Aside0.mk (below_step HX14.out hd.below); clear hd))
            go_roundw
            case measure => simp [intOf]; omega
            case rel => exact ⟨k + 1, bs', v', by omega, by simp, rfl, HBL', HU', ⟨by rw [← HS.out]; exact HI15.out⟩, HX15⟩
      · obtain rfl : k = n := by omega
        go_wp2_with (go_at_call 7; go_must (refine (told_calls _).mono ?_); rintro e w1 ⟨rfl, hb⟩; have HB := Aside0.mk hb; clear hb)
        go_ret
        exact ⟨rfl, below_step HX.out HB.out⟩
end Go.Proofs.Ytcjfhcfkjnfihaa.PLines
