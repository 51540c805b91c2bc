/- At its ends a mix is just what is there; between them each part lies between, but for the last bits; a colour mixed with itself is itself: for any two colours and any float. -/
import Derived.Test.YtdakpnfkcnnebaaWo
import Derived.Test.YtdakpnfkcnnebaaWz
import Derived.Test.YtdakpnfkcnnebaaPm
import Derived.Deep.RegionHeld3
import Derived.Deep.DeepCutAuto
import Derived.Lib.Hide
import Derived.Test.YtdakpnfkcnnebaaWFour
import Derived.Test.YtdakpnfkcnnebaaWTab
namespace Go.Proofs.Ytdakpnfkcnnebaa.tintMixes
open Go.ChangeShapes Go.WideShapes Go.ChangeAt Go.RowKit Fl
open Go.Proofs.YtdakpnfkcnnebaaW.PrintWords (Aside0)
open Go.Proofs.YtdakpnfkcnnebaaW.PrintLast (start_ take_ one_ two_ three_ four_ done_ join_ norm_ goes_ value_ skip_ putAll)
set_option linter.unusedVariables false
def Fitted (W : World) (x y z x' y' z' : Nat) (s8 s9 s10 : Value) (wx : World) : Prop :=
  ∃ b8 b9 b10 : Nat, s8 = .pointer (some ⟨b8, 0, none⟩) ∧ s9 = .pointer (some ⟨b9, 0, none⟩) ∧ s10 = .pointer (some ⟨b10, 0, none⟩) ∧
    wx.cell? ⟨b8, 0, none⟩ = some (fl x) ∧ wx.cell? ⟨b8, 1, none⟩ = some (fl y) ∧ wx.cell? ⟨b8, 2, none⟩ = some (fl z) ∧
    wx.cell? ⟨b9, 0, none⟩ = some (fl x') ∧ wx.cell? ⟨b9, 1, none⟩ = some (fl y') ∧ wx.cell? ⟨b9, 2, none⟩ = some (fl z') ∧
    wx.cell? ⟨b10, 0, none⟩ = some (fl x) ∧ wx.cell? ⟨b10, 1, none⟩ = some (fl y) ∧ wx.cell? ⟨b10, 2, none⟩ = some (fl z) ∧ Grown W wx
/-- One part: between the lesser and the greater, but for the last bits; as the walk asks it. -/
structure Side (m p p' mn d mx a : Nat) : Prop where
  s1 : ∀ w, (Builtin.min_ #[23, 23] 23 #[fl p, fl p']).run Try.prog w = .ok (fl mn) w
  s2 : ∀ w, (binOp .sub 23 (.float .f64 mn) (.float .f64 4382569440205035030)).run Try.prog w = .ok (.float .f64 d) w
  s3 : (FloatKind.f64.format.order m d == some Ordering.gt || FloatKind.f64.format.order m d == some Ordering.eq) = true
  s4 : ∀ w, (Builtin.max_ #[23, 23] 23 #[fl p, fl p']).run Try.prog w = .ok (fl mx) w
  s5 : ∀ w, (binOp .add 23 (.float .f64 mx) (.float .f64 4382569440205035030)).run Try.prog w = .ok (.float .f64 a) w
  s6 : (FloatKind.f64.format.order m a == some Ordering.lt || FloatKind.f64.format.order m a == some Ordering.eq) = true
theorem sides (x y u : Nat) (hx : x ≤ one) (hy : y ≤ one) (hu : u ≤ one) : Side (mix1 x y u) x y (min x y) (fsub (min x y) tiny) (max x y) (fadd (max x y) tiny) := by
  obtain ⟨b1, b2, b3⟩ := mix1_bd x y u hx hy hu
  have o : FloatKind.f64.format.order x y = some (compare x y) := order_nn x y (Nat.le_trans hx (by decide)) (Nat.le_trans hy (by decide))
  have em : mg (min x y) = min (mg x) (mg y) := by
    rcases Nat.le_total x y with h | h
    · rw [Nat.min_eq_left h, Nat.min_eq_left (mg_le h)]
    · rw [Nat.min_eq_right h, Nat.min_eq_right (mg_le h)]
  have eM : mg (max x y) = max (mg x) (mg y) := by
    rcases Nat.le_total x y with h | h
    · rw [Nat.max_eq_right h, Nat.max_eq_right (mg_le h)]
    · rw [Nat.max_eq_left h, Nat.max_eq_left (mg_le h)]
  have lm : min x y ≤ one := Nat.le_trans (Nat.min_le_left _ _) hx
  have lM : max x y ≤ one := by omega
  obtain ⟨m1, m2⟩ := min_side (min x y) (mix1 x y u) lm b1 (by rw [em]; exact b2)
  obtain ⟨n1, n2⟩ := max_side (max x y) (mix1 x y u) lM b1 (by rw [eM]; exact b3)
  refine ⟨fun w => ?_, fun w => run_float_arith w .sub 23 .f64 _ _ _ m1, m2, fun w => ?_, fun w => run_float_arith w .add 23 .f64 _ _ _ n1, n2⟩
  · rcases Nat.lt_trichotomy x y with h | h | h
    · have o' : FloatKind.f64.format.order x y = some .lt := by rw [o, Nat.compare_eq_lt.2 h]
      rw [Nat.min_eq_left (Nat.le_of_lt h)]
      simp [Builtin.min_, Builtin.min2, o']
    · subst h
      have o' : FloatKind.f64.format.order x x = some .eq := by rw [o, Nat.compare_eq_eq.2 rfl]
      rw [Nat.min_self]
      simp [Builtin.min_, Builtin.min2, o']
    · have o' : FloatKind.f64.format.order x y = some .gt := by rw [o, Nat.compare_eq_gt.2 h]
      rw [Nat.min_eq_right (Nat.le_of_lt h)]
      simp [Builtin.min_, Builtin.min2, o']
  · rcases Nat.lt_trichotomy x y with h | h | h
    · have o' : FloatKind.f64.format.order x y = some .lt := by rw [o, Nat.compare_eq_lt.2 h]
      rw [Nat.max_eq_right (Nat.le_of_lt h)]
      simp [Builtin.max_, Builtin.max2, o']
    · subst h
      have o' : FloatKind.f64.format.order x x = some .eq := by rw [o, Nat.compare_eq_eq.2 rfl]
      rw [Nat.max_self]
      simp [Builtin.max_, Builtin.max2, o']
    · have o' : FloatKind.f64.format.order x y = some .gt := by rw [o, Nat.compare_eq_gt.2 h]
      rw [Nat.max_eq_left (Nat.le_of_lt h)]
      simp [Builtin.max_, Builtin.max2, o']
theorem sameB_self (x : Nat) : sameB x x = true := by
  unfold sameB
  cases h : isN x
  · rw [Bool.or_self, if_neg (by decide), order_self x (notN x h)]; simp
  · rfl
theorem same_self (x y z : Nat) (w : World) : Calls Try.prog 41 #[col x y z, col x y z] w fun e w' => e = .returned (.bool true) ∧ Grown w w' := by
  have := same_any x y z x y z w
  rw [sameB_self, sameB_self, sameB_self] at this
  exact this

/-- A block made by the region: three noughts, not frozen. -/
structure Fresh (W V : World) (b : Nat) : Prop where
  ge : W.heap.size ≤ b
  lt : b < V.heap.size
  c0 : V.cell? ⟨b, 0, none⟩ = some (Value.float FloatKind.f64 0)
  c1 : V.cell? ⟨b, 1, none⟩ = some (Value.float FloatKind.f64 0)
  c2 : V.cell? ⟨b, 2, none⟩ = some (Value.float FloatKind.f64 0)
  f0 : V.frozen? ⟨b, 0, none⟩ = false
  f1 : V.frozen? ⟨b, 1, none⟩ = false
  f2 : V.frozen? ⟨b, 2, none⟩ = false
theorem Fresh.grown {W V V' : World} {b : Nat} (h : Fresh W V b) (g : Grown V V') : Fresh W V' b :=
  ⟨h.ge, Nat.lt_of_lt_of_le h.lt g.2.2, Grown.cell g h.c0, Grown.cell g h.c1, Grown.cell g h.c2, (g.2.1 _).trans h.f0, (g.2.1 _).trans h.f1, (g.2.1 _).trans h.f2⟩
theorem Fresh.new {W V : World} (g : Grown W V) : Fresh W (V.alloc (.cells #[Value.float FloatKind.f64 0, Value.float FloatKind.f64 0, Value.float FloatKind.f64 0] 38)) V.heap.size :=
  ⟨g.2.2, by simp, by go_simp, by go_simp, by go_simp, by go_simp, by go_simp, by go_simp⟩
def put3 (V : World) (b p q r : Nat) : World := ((V.setCell ⟨b, 0, none⟩ (Value.float FloatKind.f64 p)).setCell ⟨b, 1, none⟩ (Value.float FloatKind.f64 q)).setCell ⟨b, 2, none⟩ (Value.float FloatKind.f64 r)
theorem put3_frozen (V : World) (b p q r : Nat) (a : Addr) : (put3 V b p q r).frozen? a = V.frozen? a := by
  unfold put3
  rw [World.frozen?_setCell, World.frozen?_setCell, World.frozen?_setCell]
theorem put3_other {V : World} {b b' p q r k : Nat} (h : b' ≠ b) : (put3 V b p q r).cell? ⟨b', k, none⟩ = V.cell? ⟨b', k, none⟩ := by
  have e : (put3 V b p q r).heap[b']? = V.heap[b']? := by
    unfold put3
    rw [Below.heap_setCell _ _ _ _ h, Below.heap_setCell _ _ _ _ h, Below.heap_setCell _ _ _ _ h]
  simp only [World.cell?, e]
theorem put3_grown {W V : World} (g : Grown W V) {b : Nat} (h : W.heap.size ≤ b) (p q r : Nat) : Grown W (put3 V b p q r) := Grown.setCell (Grown.setCell (Grown.setCell g h _) h _) h _
structure Held3 (V : World) (b p q r : Nat) : Prop where
  c0 : V.cell? ⟨b, 0, none⟩ = some (Value.float FloatKind.f64 p)
  c1 : V.cell? ⟨b, 1, none⟩ = some (Value.float FloatKind.f64 q)
  c2 : V.cell? ⟨b, 2, none⟩ = some (Value.float FloatKind.f64 r)
theorem Fresh.put {W V : World} {b b' : Nat} (h : Fresh W V b') (hne : b' ≠ b) (p q r : Nat) : Fresh W (put3 V b p q r) b' :=
  ⟨h.ge, by have e : (put3 V b p q r).heap.size = V.heap.size := by simp [put3, World.setCell]
            rw [e]; exact h.lt, (put3_other hne).trans h.c0, (put3_other hne).trans h.c1, (put3_other hne).trans h.c2, (put3_frozen _ _ _ _ _ _).trans h.f0, (put3_frozen _ _ _ _ _ _).trans h.f1, (put3_frozen _ _ _ _ _ _).trans h.f2⟩
theorem Held3.put {V : World} {b b' p' q' r' : Nat} (h : Held3 V b' p' q' r') (hne : b' ≠ b) (p q r : Nat) : Held3 (put3 V b p q r) b' p' q' r' := ⟨(put3_other hne).trans h.c0, (put3_other hne).trans h.c1, (put3_other hne).trans h.c2⟩
theorem Held3.new {W V : World} {b : Nat} (h : Fresh W V b) (p q r : Nat) : Held3 (put3 V b p q r) b p q r := by
  have c0 := h.c0
  have c1 := h.c1
  have c2 := h.c2
  unfold put3
  exact ⟨by go_simp, by go_simp, by go_simp⟩
theorem fit_call {x y z p q r : Nat} (ep : partB x = p) (eq : partB y = q) (er : partB z = r) (V : World) : Calls Try.prog 29 #[col x y z] V fun e w' => e = .returned (col p q r) ∧ Grown V w' := by
  refine (fit_any x y z V).mono ?_
  rintro e w' ⟨rfl, rfl⟩
  rw [ep, eq, er]
  exact ⟨rfl, (((Grown.refl V).alloc _ _).alloc _ _).drew⟩

set_option maxHeartbeats 0 in
set_option maxRecDepth 100000 in
theorem walk3 (x y z x' y' z' t p q r p' q' r' m1 m2 m3 : Nat) (w : World) (hx : Hid (x < 2 ^ 64)) (hy : Hid (y < 2 ^ 64)) (hz : Hid (z < 2 ^ 64)) (hx' : Hid (x' < 2 ^ 64)) (hy' : Hid (y' < 2 ^ 64)) (hz' : Hid (z' < 2 ^ 64)) (ht : Hid (t < 2 ^ 64))
    (ep : Hid (partB x = p)) (eq : Hid (partB y = q)) (er : Hid (partB z = r)) (ep' : Hid (partB x' = p')) (eq' : Hid (partB y' = q')) (er' : Hid (partB z' = r'))
    (em1 : Hid (mixC x x' (partB t) = m1)) (em2 : Hid (mixC y y' (partB t) = m2)) (em3 : Hid (mixC z z' (partB t) = m3))
    (t1 : (FloatKind.f64.format.order t t != some Ordering.eq) = false) (t2 : (FloatKind.f64.format.order t 0 == some Ordering.lt || FloatKind.f64.format.order t 0 == some Ordering.eq) = false)
    {n1 d1 x1 a1 n2 d2 x2 a2 n3 d3 x3 a3 : Nat} (side1 : Hid (Side m1 p p' n1 d1 x1 a1)) (side2 : Hid (Side m2 q q' n2 d2 x2 a2)) (side3 : Hid (Side m3 r r' n3 d3 x3 a3))
    (mix_self : Hid (∀ w, Calls Try.prog 31 #[col p q r, col p q r, fl t] w fun e w' => e = .returned (col p q r) ∧ Grown w w'))
    (t3 : (FloatKind.f64.format.order t 4607182418800017408 == some Ordering.gt || FloatKind.f64.format.order t 4607182418800017408 == some Ordering.eq) = false) :
    Calls Try.prog 10 #[col x y z, col x' y' z', fl t] w fun e w' => e = .returned (.bool true) ∧ Grown w w' := by
  have hB := boxes w x y z x' y' z'
  go_enter Try.func10, Try.ntmps10
  go_wp2_with fail
  refine (mix_any x y z x' y' z' t _ hx.out hy.out hz.out hx'.out hy'.out hz'.out ht.out).mono ?_
  rintro e w1 ⟨rfl, g1⟩
  rw [em1.out, em2.out, em3.out]
  have hB1 := hB.grown g1
  have hm0 : (w1.alloc (Obj.cells #[fl m1, fl m2, fl m3] 38)).cell? ⟨w1.heap.size, 0, none⟩ = some (fl m1) := by go_simp
  have hm1 : (w1.alloc (Obj.cells #[fl m1, fl m2, fl m3] 38)).cell? ⟨w1.heap.size, 1, none⟩ = some (fl m2) := by go_simp
  have hm2 : (w1.alloc (Obj.cells #[fl m1, fl m2, fl m3] 38)).cell? ⟨w1.heap.size, 2, none⟩ = some (fl m3) := by go_simp
  have hBW := hB1.grown ((Grown.refl w1).alloc #[fl m1, fl m2, fl m3] 38)
  clear hB hB1 g1

  go_wp2_with fail
  generalize w1.alloc (Obj.cells #[fl m1, fl m2, fl m3] 38) = W at *
  go_cut [8, 9, 10] (fun s8 s9 s10 wx => Fitted W p q r p' q' r' s8 s9 s10 wx)
  case first =>
    clear hm0 hm1 hm2 t1 t2 t3 side1 side2 side3 mix_self
    have FA : Aside0 (∀ V, Calls Try.prog 29 #[col x y z] V fun e w' => e = .returned (col p q r) ∧ Grown V w') := ⟨fit_call ep.out eq.out er.out⟩
    have FB : Aside0 (∀ V, Calls Try.prog 29 #[col x' y' z'] V fun e w' => e = .returned (col p' q' r') ∧ Grown V w') := ⟨fit_call ep'.out eq'.out er'.out⟩
    clear em1 em2 em3 ep eq er ep' eq' er'
    refine start_ (n := 12) (S := fun w' => Aside0 (Grown W w')) (ds := []) #[false, false, false, false, false, false, false, false, false, false, false, false] (by kernel_rfl) rfl rfl ⟨Grown.drew (Grown.refl _)⟩ (fun hHeld => ?_)
    generalize W.drew = v at hHeld ⊢
    refine take_ (i := 0) (N := some 39) (v := col x y z) (a' := ?_) #[true, false, false, false, false, false, false, false, false, false, false, false] rfl rfl (by kernel_rfl) (fun _ _ _ h => h) (Or.inl ⟨by rfl, ?_⟩) hHeld ?_ ?_
    · intro w' hS
      obtain ⟨k0, k1, k2, k3, k4, k5, _⟩ := (hBW.grown hS.out).hold
      clear hS
      go_simp
    rotate_left
    · simp only [Act.put, List.setIfInBounds_toArray, List.set_cons_zero, List.set_cons_succ]
      rfl
    refine take_ (i := 2) (N := some 41) (v := col x' y' z') (a' := ?_) #[true, false, true, false, false, false, false, false, false, false, false, false] rfl rfl (by kernel_rfl) (fun _ _ _ h => h) (Or.inl ⟨by rfl, ?_⟩) hHeld ?_ ?_
    · intro w' hS
      obtain ⟨k0, k1, k2, k3, k4, k5, _⟩ := (hBW.grown hS.out).hold
      clear hS
      go_simp
    rotate_left
    · simp only [Act.put, List.setIfInBounds_toArray, List.set_cons_zero, List.set_cons_succ]
      rfl
    refine take_ (i := 4) (N := some 43) (v := col x y z) (a' := ?_) #[true, false, true, false, true, false, false, false, false, false, false, false] rfl rfl (by kernel_rfl) (fun _ _ _ h => h) (Or.inl ⟨by rfl, ?_⟩) hHeld ?_ ?_
    · intro w' hS
      obtain ⟨k0, k1, k2, k3, k4, k5, _⟩ := (hBW.grown hS.out).hold
      clear hS
      go_simp
    rotate_left
    · simp only [Act.put, List.setIfInBounds_toArray, List.set_cons_zero, List.set_cons_succ]
      rfl
    refine join_ (σ := Nat × Nat × Nat) 3 #[true, true, true, true, true, true, true, true, true, false, false, false] (fun s => [(40, col p q r), (42, col p' q' r'), (44, col p q r), (8, .pointer (some ⟨s.1, 0, none⟩)), (9, .pointer (some ⟨s.2.1, 0, none⟩)), (10, .pointer (some ⟨s.2.2, 0, none⟩))]) (fun s w' => Aside0 (Grown W w') ∧ Aside0 (Fresh W w' s.1) ∧ Aside0 (Fresh W w' s.2.1) ∧ Aside0 (Fresh W w' s.2.2) ∧ Aside0 (s.1 ≠ s.2.1) ∧ Aside0 (s.1 ≠ s.2.2) ∧ Aside0 (s.2.1 ≠ s.2.2)) ?_ ?_
    · skip
      rintro ⟨b6, b7, b8⟩ v ⟨HG, H6, H7, H8, N67, N68, N78⟩
      have hHeld := HG
      refine norm_ (a' := ?_) ?_ ?_
      rotate_left
      · simp only [putAll, Act.put, List.setIfInBounds_toArray, List.set_cons_zero, List.set_cons_succ]
        rfl
      have m67 := N67.out
      have m68 := N68.out
      have m78 := N78.out
      clear N67 N68 N78
      have M67 := Aside0.mk m67
      have M68 := Aside0.mk m68
      have M78 := Aside0.mk m78
      clear m67 m68 m78
      have g9_0 := H6.out.c0
      have g9_1 := H6.out.c1
      have g9_2 := H6.out.c2
      have g9_3 := H6.out.f0
      have g9_4 := H6.out.f1
      have g9_5 := H6.out.f2
      refine one_ (i := 9) (N := none) #[true, true, true, true, true, true, true, true, true, true, false, false] rfl rfl (by kernel_rfl) (by decide) (fun K hK => ?_)
      refine skip_ (w1 := put3 v b6 p q r) (by rfl) rfl ?_ ?_
      · go_simp
        rfl
      clear g9_0 g9_1 g9_2 g9_3 g9_4 g9_5
      have G9 : Aside0 (Grown W (put3 v b6 p q r)) := ⟨put3_grown HG.out H6.out.ge _ _ _⟩
      have F9b7 := Aside0.mk (H7.out.put M67.out.symm p q r)
      have F9b8 := Aside0.mk (H8.out.put M68.out.symm p q r)
      have E9b6 := Aside0.mk (Held3.new H6.out p q r)
      refine hK.out _ _ G9 (fun _ => ?_)
      clear hK K
      generalize put3 v b6 p q r = v9 at *
      have g10_0 := F9b7.out.c0
      have g10_1 := F9b7.out.c1
      have g10_2 := F9b7.out.c2
      have g10_3 := F9b7.out.f0
      have g10_4 := F9b7.out.f1
      have g10_5 := F9b7.out.f2
      refine one_ (i := 10) (N := none) #[true, true, true, true, true, true, true, true, true, true, true, false] rfl rfl (by kernel_rfl) (by decide) (fun K hK => ?_)
      refine skip_ (w1 := put3 v9 b7 p' q' r') (by rfl) rfl ?_ ?_
      · go_simp
        rfl
      clear g10_0 g10_1 g10_2 g10_3 g10_4 g10_5
      have G10 : Aside0 (Grown W (put3 v9 b7 p' q' r')) := ⟨put3_grown G9.out F9b7.out.ge _ _ _⟩
      have F10b8 := Aside0.mk (F9b8.out.put M78.out.symm p' q' r')
      have E10b6 := Aside0.mk (E9b6.out.put M67.out p' q' r')
      have E10b7 := Aside0.mk (Held3.new F9b7.out p' q' r')
      refine hK.out _ _ G10 (fun _ => ?_)
      clear hK K
      generalize put3 v9 b7 p' q' r' = v10 at *
      have g11_0 := F10b8.out.c0
      have g11_1 := F10b8.out.c1
      have g11_2 := F10b8.out.c2
      have g11_3 := F10b8.out.f0
      have g11_4 := F10b8.out.f1
      have g11_5 := F10b8.out.f2
      refine one_ (i := 11) (N := none) #[true, true, true, true, true, true, true, true, true, true, true, true] rfl rfl (by kernel_rfl) (by decide) (fun K hK => ?_)
      refine skip_ (w1 := put3 v10 b8 p q r) (by rfl) rfl ?_ ?_
      · go_simp
        rfl
      clear g11_0 g11_1 g11_2 g11_3 g11_4 g11_5
      have G11 : Aside0 (Grown W (put3 v10 b8 p q r)) := ⟨put3_grown G10.out F10b8.out.ge _ _ _⟩
      have E11b6 := Aside0.mk (E10b6.out.put M68.out p q r)
      have E11b7 := Aside0.mk (E10b7.out.put M78.out p q r)
      have E11b8 := Aside0.mk (Held3.new F10b8.out p q r)
      refine hK.out _ _ G11 (fun _ => ?_)
      clear hK K
      generalize put3 v10 b8 p q r = v11 at *
      refine done_ (by kernel_rfl) ?_
      go_wp2_with fail
      go_meet
      exact ⟨b6, b7, b8, rfl, rfl, rfl, E11b6.out.c0, E11b6.out.c1, E11b6.out.c2, E11b7.out.c0, E11b7.out.c1, E11b7.out.c2, E11b8.out.c0, E11b8.out.c1, E11b8.out.c2, G11.out⟩
    intro hJ3_678
    refine join_ (σ := Nat × Nat × Nat) 4 #[true, true, true, true, true, true, true, true, false, false, false, false] (fun s => [(40, col p q r), (42, col p' q' r'), (44, col p q r), (8, .pointer (some ⟨s.1, 0, none⟩)), (9, .pointer (some ⟨s.2.1, 0, none⟩))]) (fun s w' => Aside0 (Grown W w') ∧ Aside0 (Fresh W w' s.1) ∧ Aside0 (Fresh W w' s.2.1) ∧ Aside0 (s.1 ≠ s.2.1)) ?_ ?_
    · skip
      rintro ⟨b6, b7, b8⟩ v ⟨HG, H6, H7, N67⟩
      have hHeld := HG
      refine norm_ (a' := ?_) ?_ ?_
      rotate_left
      · simp only [putAll, Act.put, List.setIfInBounds_toArray, List.set_cons_zero, List.set_cons_succ]
        rfl
      refine one_ (i := 8) (N := some 10) #[true, true, true, true, true, true, true, true, true, false, false, false] rfl rfl (by kernel_rfl) (by decide) (fun K hK => ?_)
      refine value_ (w1 := v.alloc (.cells #[Value.float FloatKind.f64 0, Value.float FloatKind.f64 0, Value.float FloatKind.f64 0] 38)) (v := .pointer (some ⟨v.heap.size, 0, none⟩)) (by rfl) rfl ?_ ?_
      · go_simp
      have HG1 : Aside0 (Grown W (v.alloc (.cells #[Value.float FloatKind.f64 0, Value.float FloatKind.f64 0, Value.float FloatKind.f64 0] 38))) := ⟨Grown.alloc HG.out _ _⟩
      have K6 := Aside0.mk (H6.out.grown (Grown.alloc (Grown.refl v) #[Value.float FloatKind.f64 0, Value.float FloatKind.f64 0, Value.float FloatKind.f64 0] 38))
      have K7 := Aside0.mk (H7.out.grown (Grown.alloc (Grown.refl v) #[Value.float FloatKind.f64 0, Value.float FloatKind.f64 0, Value.float FloatKind.f64 0] 38))
      have K8 := Aside0.mk (Fresh.new HG.out)
      refine hK.out _ _ HG1 (fun _ => ?_)
      clear hK K
      exact norm_ (by first | (simp only [putAll, Act.put, List.setIfInBounds_toArray, List.set_cons_zero, List.set_cons_succ]; done) | (simp only [putAll, Act.put, List.setIfInBounds_toArray, List.set_cons_zero, List.set_cons_succ]; rfl)) (hJ3_678 (b6, b7, v.heap.size) _ ⟨HG1, K6, K7, K8, N67, ⟨Nat.ne_of_lt H6.out.lt⟩, ⟨Nat.ne_of_lt H7.out.lt⟩⟩)
    intro hJ3_67
    refine join_ (σ := Nat × Nat × Nat) 4 #[true, true, true, true, true, true, true, false, true, false, false, false] (fun s => [(40, col p q r), (42, col p' q' r'), (44, col p q r), (8, .pointer (some ⟨s.1, 0, none⟩)), (10, .pointer (some ⟨s.2.2, 0, none⟩))]) (fun s w' => Aside0 (Grown W w') ∧ Aside0 (Fresh W w' s.1) ∧ Aside0 (Fresh W w' s.2.2) ∧ Aside0 (s.1 ≠ s.2.2)) ?_ ?_
    · skip
      rintro ⟨b6, b7, b8⟩ v ⟨HG, H6, H8, N68⟩
      have hHeld := HG
      refine norm_ (a' := ?_) ?_ ?_
      rotate_left
      · simp only [putAll, Act.put, List.setIfInBounds_toArray, List.set_cons_zero, List.set_cons_succ]
        rfl
      refine one_ (i := 7) (N := some 9) #[true, true, true, true, true, true, true, true, true, false, false, false] rfl rfl (by kernel_rfl) (by decide) (fun K hK => ?_)
      refine value_ (w1 := v.alloc (.cells #[Value.float FloatKind.f64 0, Value.float FloatKind.f64 0, Value.float FloatKind.f64 0] 38)) (v := .pointer (some ⟨v.heap.size, 0, none⟩)) (by rfl) rfl ?_ ?_
      · go_simp
      have HG1 : Aside0 (Grown W (v.alloc (.cells #[Value.float FloatKind.f64 0, Value.float FloatKind.f64 0, Value.float FloatKind.f64 0] 38))) := ⟨Grown.alloc HG.out _ _⟩
      have K6 := Aside0.mk (H6.out.grown (Grown.alloc (Grown.refl v) #[Value.float FloatKind.f64 0, Value.float FloatKind.f64 0, Value.float FloatKind.f64 0] 38))
      have K8 := Aside0.mk (H8.out.grown (Grown.alloc (Grown.refl v) #[Value.float FloatKind.f64 0, Value.float FloatKind.f64 0, Value.float FloatKind.f64 0] 38))
      have K7 := Aside0.mk (Fresh.new HG.out)
      refine hK.out _ _ HG1 (fun _ => ?_)
      clear hK K
      exact norm_ (by first | (simp only [putAll, Act.put, List.setIfInBounds_toArray, List.set_cons_zero, List.set_cons_succ]; done) | (simp only [putAll, Act.put, List.setIfInBounds_toArray, List.set_cons_zero, List.set_cons_succ]; rfl)) (hJ3_678 (b6, v.heap.size, b8) _ ⟨HG1, K6, K7, K8, ⟨Nat.ne_of_lt H6.out.lt⟩, N68, ⟨Nat.ne_of_gt H8.out.lt⟩⟩)
    intro hJ3_68
    refine join_ (σ := Nat × Nat × Nat) 4 #[true, true, true, true, true, true, false, true, true, false, false, false] (fun s => [(40, col p q r), (42, col p' q' r'), (44, col p q r), (9, .pointer (some ⟨s.2.1, 0, none⟩)), (10, .pointer (some ⟨s.2.2, 0, none⟩))]) (fun s w' => Aside0 (Grown W w') ∧ Aside0 (Fresh W w' s.2.1) ∧ Aside0 (Fresh W w' s.2.2) ∧ Aside0 (s.2.1 ≠ s.2.2)) ?_ ?_
    · skip
      rintro ⟨b6, b7, b8⟩ v ⟨HG, H7, H8, N78⟩
      have hHeld := HG
      refine norm_ (a' := ?_) ?_ ?_
      rotate_left
      · simp only [putAll, Act.put, List.setIfInBounds_toArray, List.set_cons_zero, List.set_cons_succ]
        rfl
      refine one_ (i := 6) (N := some 8) #[true, true, true, true, true, true, true, true, true, false, false, false] rfl rfl (by kernel_rfl) (by decide) (fun K hK => ?_)
      refine value_ (w1 := v.alloc (.cells #[Value.float FloatKind.f64 0, Value.float FloatKind.f64 0, Value.float FloatKind.f64 0] 38)) (v := .pointer (some ⟨v.heap.size, 0, none⟩)) (by rfl) rfl ?_ ?_
      · go_simp
      have HG1 : Aside0 (Grown W (v.alloc (.cells #[Value.float FloatKind.f64 0, Value.float FloatKind.f64 0, Value.float FloatKind.f64 0] 38))) := ⟨Grown.alloc HG.out _ _⟩
      have K7 := Aside0.mk (H7.out.grown (Grown.alloc (Grown.refl v) #[Value.float FloatKind.f64 0, Value.float FloatKind.f64 0, Value.float FloatKind.f64 0] 38))
      have K8 := Aside0.mk (H8.out.grown (Grown.alloc (Grown.refl v) #[Value.float FloatKind.f64 0, Value.float FloatKind.f64 0, Value.float FloatKind.f64 0] 38))
      have K6 := Aside0.mk (Fresh.new HG.out)
      refine hK.out _ _ HG1 (fun _ => ?_)
      clear hK K
      exact norm_ (by first | (simp only [putAll, Act.put, List.setIfInBounds_toArray, List.set_cons_zero, List.set_cons_succ]; done) | (simp only [putAll, Act.put, List.setIfInBounds_toArray, List.set_cons_zero, List.set_cons_succ]; rfl)) (hJ3_678 (v.heap.size, b7, b8) _ ⟨HG1, K6, K7, K8, ⟨Nat.ne_of_gt H7.out.lt⟩, ⟨Nat.ne_of_gt H8.out.lt⟩, N78⟩)
    intro hJ3_78
    refine join_ (σ := Nat × Nat × Nat) 4 #[true, true, true, true, true, false, true, true, true, false, false, false] (fun s => [(40, col p q r), (42, col p' q' r'), (8, .pointer (some ⟨s.1, 0, none⟩)), (9, .pointer (some ⟨s.2.1, 0, none⟩)), (10, .pointer (some ⟨s.2.2, 0, none⟩))]) (fun s w' => Aside0 (Grown W w') ∧ Aside0 (Fresh W w' s.1) ∧ Aside0 (Fresh W w' s.2.1) ∧ Aside0 (Fresh W w' s.2.2) ∧ Aside0 (s.1 ≠ s.2.1) ∧ Aside0 (s.1 ≠ s.2.2) ∧ Aside0 (s.2.1 ≠ s.2.2)) ?_ ?_
    · skip
      rintro ⟨b6, b7, b8⟩ v ⟨HG, H6, H7, H8, N67, N68, N78⟩
      have hHeld := HG
      refine norm_ (a' := ?_) ?_ ?_
      rotate_left
      · simp only [putAll, Act.put, List.setIfInBounds_toArray, List.set_cons_zero, List.set_cons_succ]
        rfl
      refine one_ (i := 5) (N := some 44) #[true, true, true, true, true, true, true, true, true, false, false, false] rfl rfl (by kernel_rfl) (by decide) (fun K hK => ?_)
      refine goes_ Try.func29 (by kernel_rfl) rfl #[col x y z] (by rfl) rfl rfl (by simp only [List.map_toArray, List.map_cons, List.map_nil]; rfl) ?_
      with_reducible refine (FA.out _).mono ?_
      rintro e v1 ⟨rfl, hg⟩
      refine ⟨_, rfl, ?_⟩
      have HG1 : Aside0 (Grown W v1) := ⟨Grown.trans HG.out hg⟩
      have K6 : Aside0 (Fresh W v1 b6) := ⟨H6.out.grown hg⟩
      have K7 : Aside0 (Fresh W v1 b7) := ⟨H7.out.grown hg⟩
      have K8 : Aside0 (Fresh W v1 b8) := ⟨H8.out.grown hg⟩
      refine hK.out _ _ HG1 (fun _ => ?_)
      clear hK K
      exact norm_ (by first | (simp only [putAll, Act.put, List.setIfInBounds_toArray, List.set_cons_zero, List.set_cons_succ]; done) | (simp only [putAll, Act.put, List.setIfInBounds_toArray, List.set_cons_zero, List.set_cons_succ]; rfl)) (hJ3_678 (b6, b7, b8) _ ⟨HG1, K6, K7, K8, N67, N68, N78⟩)
    intro hJ2_678
    refine join_ (σ := Nat × Nat × Nat) 5 #[true, true, true, true, true, true, true, false, false, false, false, false] (fun s => [(40, col p q r), (42, col p' q' r'), (44, col p q r), (8, .pointer (some ⟨s.1, 0, none⟩))]) (fun s w' => Aside0 (Grown W w') ∧ Aside0 (Fresh W w' s.1)) ?_ ?_
    · skip
      rintro ⟨b6, b7, b8⟩ v ⟨HG, H6⟩
      have hHeld := HG
      refine norm_ (a' := ?_) ?_ ?_
      rotate_left
      · simp only [putAll, Act.put, List.setIfInBounds_toArray, List.set_cons_zero, List.set_cons_succ]
        rfl
      refine two_ (i := 7) (j := 8) (Ni := some 9) (Nj := some 10) #[true, true, true, true, true, true, true, true, false, false, false, false] #[true, true, true, true, true, true, true, false, true, false, false, false] rfl rfl rfl rfl (by kernel_rfl) (by decide) (by decide) (fun K hK => ?_) (fun K hK => ?_)
      · skip
        refine value_ (w1 := v.alloc (.cells #[Value.float FloatKind.f64 0, Value.float FloatKind.f64 0, Value.float FloatKind.f64 0] 38)) (v := .pointer (some ⟨v.heap.size, 0, none⟩)) (by rfl) rfl ?_ ?_
        · go_simp
        have HG1 : Aside0 (Grown W (v.alloc (.cells #[Value.float FloatKind.f64 0, Value.float FloatKind.f64 0, Value.float FloatKind.f64 0] 38))) := ⟨Grown.alloc HG.out _ _⟩
        have K6 := Aside0.mk (H6.out.grown (Grown.alloc (Grown.refl v) #[Value.float FloatKind.f64 0, Value.float FloatKind.f64 0, Value.float FloatKind.f64 0] 38))
        have K7 := Aside0.mk (Fresh.new HG.out)
        refine hK.out _ _ HG1 (fun _ => ?_)
        clear hK K
        exact norm_ (by first | (simp only [putAll, Act.put, List.setIfInBounds_toArray, List.set_cons_zero, List.set_cons_succ]; done) | (simp only [putAll, Act.put, List.setIfInBounds_toArray, List.set_cons_zero, List.set_cons_succ]; rfl)) (hJ3_67 (b6, v.heap.size, b8) _ ⟨HG1, K6, K7, ⟨Nat.ne_of_lt H6.out.lt⟩⟩)
      · skip
        refine value_ (w1 := v.alloc (.cells #[Value.float FloatKind.f64 0, Value.float FloatKind.f64 0, Value.float FloatKind.f64 0] 38)) (v := .pointer (some ⟨v.heap.size, 0, none⟩)) (by rfl) rfl ?_ ?_
        · go_simp
        have HG1 : Aside0 (Grown W (v.alloc (.cells #[Value.float FloatKind.f64 0, Value.float FloatKind.f64 0, Value.float FloatKind.f64 0] 38))) := ⟨Grown.alloc HG.out _ _⟩
        have K6 := Aside0.mk (H6.out.grown (Grown.alloc (Grown.refl v) #[Value.float FloatKind.f64 0, Value.float FloatKind.f64 0, Value.float FloatKind.f64 0] 38))
        have K8 := Aside0.mk (Fresh.new HG.out)
        refine hK.out _ _ HG1 (fun _ => ?_)
        clear hK K
        exact norm_ (by first | (simp only [putAll, Act.put, List.setIfInBounds_toArray, List.set_cons_zero, List.set_cons_succ]; done) | (simp only [putAll, Act.put, List.setIfInBounds_toArray, List.set_cons_zero, List.set_cons_succ]; rfl)) (hJ3_68 (b6, b7, v.heap.size) _ ⟨HG1, K6, K8, ⟨Nat.ne_of_lt H6.out.lt⟩⟩)
    intro hJ3_6
    refine join_ (σ := Nat × Nat × Nat) 5 #[true, true, true, true, true, true, false, true, false, false, false, false] (fun s => [(40, col p q r), (42, col p' q' r'), (44, col p q r), (9, .pointer (some ⟨s.2.1, 0, none⟩))]) (fun s w' => Aside0 (Grown W w') ∧ Aside0 (Fresh W w' s.2.1)) ?_ ?_
    · skip
      rintro ⟨b6, b7, b8⟩ v ⟨HG, H7⟩
      have hHeld := HG
      refine norm_ (a' := ?_) ?_ ?_
      rotate_left
      · simp only [putAll, Act.put, List.setIfInBounds_toArray, List.set_cons_zero, List.set_cons_succ]
        rfl
      refine two_ (i := 6) (j := 8) (Ni := some 8) (Nj := some 10) #[true, true, true, true, true, true, true, true, false, false, false, false] #[true, true, true, true, true, true, false, true, true, false, false, false] rfl rfl rfl rfl (by kernel_rfl) (by decide) (by decide) (fun K hK => ?_) (fun K hK => ?_)
      · skip
        refine value_ (w1 := v.alloc (.cells #[Value.float FloatKind.f64 0, Value.float FloatKind.f64 0, Value.float FloatKind.f64 0] 38)) (v := .pointer (some ⟨v.heap.size, 0, none⟩)) (by rfl) rfl ?_ ?_
        · go_simp
        have HG1 : Aside0 (Grown W (v.alloc (.cells #[Value.float FloatKind.f64 0, Value.float FloatKind.f64 0, Value.float FloatKind.f64 0] 38))) := ⟨Grown.alloc HG.out _ _⟩
        have K7 := Aside0.mk (H7.out.grown (Grown.alloc (Grown.refl v) #[Value.float FloatKind.f64 0, Value.float FloatKind.f64 0, Value.float FloatKind.f64 0] 38))
        have K6 := Aside0.mk (Fresh.new HG.out)
        refine hK.out _ _ HG1 (fun _ => ?_)
        clear hK K
        exact norm_ (by first | (simp only [putAll, Act.put, List.setIfInBounds_toArray, List.set_cons_zero, List.set_cons_succ]; done) | (simp only [putAll, Act.put, List.setIfInBounds_toArray, List.set_cons_zero, List.set_cons_succ]; rfl)) (hJ3_67 (v.heap.size, b7, b8) _ ⟨HG1, K6, K7, ⟨Nat.ne_of_gt H7.out.lt⟩⟩)
      · skip
        refine value_ (w1 := v.alloc (.cells #[Value.float FloatKind.f64 0, Value.float FloatKind.f64 0, Value.float FloatKind.f64 0] 38)) (v := .pointer (some ⟨v.heap.size, 0, none⟩)) (by rfl) rfl ?_ ?_
        · go_simp
        have HG1 : Aside0 (Grown W (v.alloc (.cells #[Value.float FloatKind.f64 0, Value.float FloatKind.f64 0, Value.float FloatKind.f64 0] 38))) := ⟨Grown.alloc HG.out _ _⟩
        have K7 := Aside0.mk (H7.out.grown (Grown.alloc (Grown.refl v) #[Value.float FloatKind.f64 0, Value.float FloatKind.f64 0, Value.float FloatKind.f64 0] 38))
        have K8 := Aside0.mk (Fresh.new HG.out)
        refine hK.out _ _ HG1 (fun _ => ?_)
        clear hK K
        exact norm_ (by first | (simp only [putAll, Act.put, List.setIfInBounds_toArray, List.set_cons_zero, List.set_cons_succ]; done) | (simp only [putAll, Act.put, List.setIfInBounds_toArray, List.set_cons_zero, List.set_cons_succ]; rfl)) (hJ3_78 (b6, b7, v.heap.size) _ ⟨HG1, K7, K8, ⟨Nat.ne_of_lt H7.out.lt⟩⟩)
    intro hJ3_7
    refine join_ (σ := Nat × Nat × Nat) 5 #[true, true, true, true, true, true, false, false, true, false, false, false] (fun s => [(40, col p q r), (42, col p' q' r'), (44, col p q r), (10, .pointer (some ⟨s.2.2, 0, none⟩))]) (fun s w' => Aside0 (Grown W w') ∧ Aside0 (Fresh W w' s.2.2)) ?_ ?_
    · skip
      rintro ⟨b6, b7, b8⟩ v ⟨HG, H8⟩
      have hHeld := HG
      refine norm_ (a' := ?_) ?_ ?_
      rotate_left
      · simp only [putAll, Act.put, List.setIfInBounds_toArray, List.set_cons_zero, List.set_cons_succ]
        rfl
      refine two_ (i := 6) (j := 7) (Ni := some 8) (Nj := some 9) #[true, true, true, true, true, true, true, false, true, false, false, false] #[true, true, true, true, true, true, false, true, true, false, false, false] rfl rfl rfl rfl (by kernel_rfl) (by decide) (by decide) (fun K hK => ?_) (fun K hK => ?_)
      · skip
        refine value_ (w1 := v.alloc (.cells #[Value.float FloatKind.f64 0, Value.float FloatKind.f64 0, Value.float FloatKind.f64 0] 38)) (v := .pointer (some ⟨v.heap.size, 0, none⟩)) (by rfl) rfl ?_ ?_
        · go_simp
        have HG1 : Aside0 (Grown W (v.alloc (.cells #[Value.float FloatKind.f64 0, Value.float FloatKind.f64 0, Value.float FloatKind.f64 0] 38))) := ⟨Grown.alloc HG.out _ _⟩
        have K8 := Aside0.mk (H8.out.grown (Grown.alloc (Grown.refl v) #[Value.float FloatKind.f64 0, Value.float FloatKind.f64 0, Value.float FloatKind.f64 0] 38))
        have K6 := Aside0.mk (Fresh.new HG.out)
        refine hK.out _ _ HG1 (fun _ => ?_)
        clear hK K
        exact norm_ (by first | (simp only [putAll, Act.put, List.setIfInBounds_toArray, List.set_cons_zero, List.set_cons_succ]; done) | (simp only [putAll, Act.put, List.setIfInBounds_toArray, List.set_cons_zero, List.set_cons_succ]; rfl)) (hJ3_68 (v.heap.size, b7, b8) _ ⟨HG1, K6, K8, ⟨Nat.ne_of_gt H8.out.lt⟩⟩)
      · skip
        refine value_ (w1 := v.alloc (.cells #[Value.float FloatKind.f64 0, Value.float FloatKind.f64 0, Value.float FloatKind.f64 0] 38)) (v := .pointer (some ⟨v.heap.size, 0, none⟩)) (by rfl) rfl ?_ ?_
        · go_simp
        have HG1 : Aside0 (Grown W (v.alloc (.cells #[Value.float FloatKind.f64 0, Value.float FloatKind.f64 0, Value.float FloatKind.f64 0] 38))) := ⟨Grown.alloc HG.out _ _⟩
        have K8 := Aside0.mk (H8.out.grown (Grown.alloc (Grown.refl v) #[Value.float FloatKind.f64 0, Value.float FloatKind.f64 0, Value.float FloatKind.f64 0] 38))
        have K7 := Aside0.mk (Fresh.new HG.out)
        refine hK.out _ _ HG1 (fun _ => ?_)
        clear hK K
        exact norm_ (by first | (simp only [putAll, Act.put, List.setIfInBounds_toArray, List.set_cons_zero, List.set_cons_succ]; done) | (simp only [putAll, Act.put, List.setIfInBounds_toArray, List.set_cons_zero, List.set_cons_succ]; rfl)) (hJ3_78 (b6, v.heap.size, b8) _ ⟨HG1, K7, K8, ⟨Nat.ne_of_gt H8.out.lt⟩⟩)
    intro hJ3_8
    refine join_ (σ := Nat × Nat × Nat) 5 #[true, true, true, true, true, false, true, true, false, false, false, false] (fun s => [(40, col p q r), (42, col p' q' r'), (8, .pointer (some ⟨s.1, 0, none⟩)), (9, .pointer (some ⟨s.2.1, 0, none⟩))]) (fun s w' => Aside0 (Grown W w') ∧ Aside0 (Fresh W w' s.1) ∧ Aside0 (Fresh W w' s.2.1) ∧ Aside0 (s.1 ≠ s.2.1)) ?_ ?_
    · skip
      rintro ⟨b6, b7, b8⟩ v ⟨HG, H6, H7, N67⟩
      have hHeld := HG
      refine norm_ (a' := ?_) ?_ ?_
      rotate_left
      · simp only [putAll, Act.put, List.setIfInBounds_toArray, List.set_cons_zero, List.set_cons_succ]
        rfl
      refine two_ (i := 5) (j := 8) (Ni := some 44) (Nj := some 10) #[true, true, true, true, true, true, true, true, false, false, false, false] #[true, true, true, true, true, false, true, true, true, false, false, false] rfl rfl rfl rfl (by kernel_rfl) (by decide) (by decide) (fun K hK => ?_) (fun K hK => ?_)
      · skip
        refine goes_ Try.func29 (by kernel_rfl) rfl #[col x y z] (by rfl) rfl rfl (by simp only [List.map_toArray, List.map_cons, List.map_nil]; rfl) ?_
        with_reducible refine (FA.out _).mono ?_
        rintro e v1 ⟨rfl, hg⟩
        refine ⟨_, rfl, ?_⟩
        have HG1 : Aside0 (Grown W v1) := ⟨Grown.trans HG.out hg⟩
        have K6 : Aside0 (Fresh W v1 b6) := ⟨H6.out.grown hg⟩
        have K7 : Aside0 (Fresh W v1 b7) := ⟨H7.out.grown hg⟩
        refine hK.out _ _ HG1 (fun _ => ?_)
        clear hK K
        exact norm_ (by first | (simp only [putAll, Act.put, List.setIfInBounds_toArray, List.set_cons_zero, List.set_cons_succ]; done) | (simp only [putAll, Act.put, List.setIfInBounds_toArray, List.set_cons_zero, List.set_cons_succ]; rfl)) (hJ3_67 (b6, b7, b8) _ ⟨HG1, K6, K7, N67⟩)
      · skip
        refine value_ (w1 := v.alloc (.cells #[Value.float FloatKind.f64 0, Value.float FloatKind.f64 0, Value.float FloatKind.f64 0] 38)) (v := .pointer (some ⟨v.heap.size, 0, none⟩)) (by rfl) rfl ?_ ?_
        · go_simp
        have HG1 : Aside0 (Grown W (v.alloc (.cells #[Value.float FloatKind.f64 0, Value.float FloatKind.f64 0, Value.float FloatKind.f64 0] 38))) := ⟨Grown.alloc HG.out _ _⟩
        have K6 := Aside0.mk (H6.out.grown (Grown.alloc (Grown.refl v) #[Value.float FloatKind.f64 0, Value.float FloatKind.f64 0, Value.float FloatKind.f64 0] 38))
        have K7 := Aside0.mk (H7.out.grown (Grown.alloc (Grown.refl v) #[Value.float FloatKind.f64 0, Value.float FloatKind.f64 0, Value.float FloatKind.f64 0] 38))
        have K8 := Aside0.mk (Fresh.new HG.out)
        refine hK.out _ _ HG1 (fun _ => ?_)
        clear hK K
        exact norm_ (by first | (simp only [putAll, Act.put, List.setIfInBounds_toArray, List.set_cons_zero, List.set_cons_succ]; done) | (simp only [putAll, Act.put, List.setIfInBounds_toArray, List.set_cons_zero, List.set_cons_succ]; rfl)) (hJ2_678 (b6, b7, v.heap.size) _ ⟨HG1, K6, K7, K8, N67, ⟨Nat.ne_of_lt H6.out.lt⟩, ⟨Nat.ne_of_lt H7.out.lt⟩⟩)
    intro hJ2_67
    refine join_ (σ := Nat × Nat × Nat) 5 #[true, true, true, true, true, false, true, false, true, false, false, false] (fun s => [(40, col p q r), (42, col p' q' r'), (8, .pointer (some ⟨s.1, 0, none⟩)), (10, .pointer (some ⟨s.2.2, 0, none⟩))]) (fun s w' => Aside0 (Grown W w') ∧ Aside0 (Fresh W w' s.1) ∧ Aside0 (Fresh W w' s.2.2) ∧ Aside0 (s.1 ≠ s.2.2)) ?_ ?_
    · skip
      rintro ⟨b6, b7, b8⟩ v ⟨HG, H6, H8, N68⟩
      have hHeld := HG
      refine norm_ (a' := ?_) ?_ ?_
      rotate_left
      · simp only [putAll, Act.put, List.setIfInBounds_toArray, List.set_cons_zero, List.set_cons_succ]
        rfl
      refine two_ (i := 5) (j := 7) (Ni := some 44) (Nj := some 9) #[true, true, true, true, true, true, true, false, true, false, false, false] #[true, true, true, true, true, false, true, true, true, false, false, false] rfl rfl rfl rfl (by kernel_rfl) (by decide) (by decide) (fun K hK => ?_) (fun K hK => ?_)
      · skip
        refine goes_ Try.func29 (by kernel_rfl) rfl #[col x y z] (by rfl) rfl rfl (by simp only [List.map_toArray, List.map_cons, List.map_nil]; rfl) ?_
        with_reducible refine (FA.out _).mono ?_
        rintro e v1 ⟨rfl, hg⟩
        refine ⟨_, rfl, ?_⟩
        have HG1 : Aside0 (Grown W v1) := ⟨Grown.trans HG.out hg⟩
        have K6 : Aside0 (Fresh W v1 b6) := ⟨H6.out.grown hg⟩
        have K8 : Aside0 (Fresh W v1 b8) := ⟨H8.out.grown hg⟩
        refine hK.out _ _ HG1 (fun _ => ?_)
        clear hK K
        exact norm_ (by first | (simp only [putAll, Act.put, List.setIfInBounds_toArray, List.set_cons_zero, List.set_cons_succ]; done) | (simp only [putAll, Act.put, List.setIfInBounds_toArray, List.set_cons_zero, List.set_cons_succ]; rfl)) (hJ3_68 (b6, b7, b8) _ ⟨HG1, K6, K8, N68⟩)
      · skip
        refine value_ (w1 := v.alloc (.cells #[Value.float FloatKind.f64 0, Value.float FloatKind.f64 0, Value.float FloatKind.f64 0] 38)) (v := .pointer (some ⟨v.heap.size, 0, none⟩)) (by rfl) rfl ?_ ?_
        · go_simp
        have HG1 : Aside0 (Grown W (v.alloc (.cells #[Value.float FloatKind.f64 0, Value.float FloatKind.f64 0, Value.float FloatKind.f64 0] 38))) := ⟨Grown.alloc HG.out _ _⟩
        have K6 := Aside0.mk (H6.out.grown (Grown.alloc (Grown.refl v) #[Value.float FloatKind.f64 0, Value.float FloatKind.f64 0, Value.float FloatKind.f64 0] 38))
        have K8 := Aside0.mk (H8.out.grown (Grown.alloc (Grown.refl v) #[Value.float FloatKind.f64 0, Value.float FloatKind.f64 0, Value.float FloatKind.f64 0] 38))
        have K7 := Aside0.mk (Fresh.new HG.out)
        refine hK.out _ _ HG1 (fun _ => ?_)
        clear hK K
        exact norm_ (by first | (simp only [putAll, Act.put, List.setIfInBounds_toArray, List.set_cons_zero, List.set_cons_succ]; done) | (simp only [putAll, Act.put, List.setIfInBounds_toArray, List.set_cons_zero, List.set_cons_succ]; rfl)) (hJ2_678 (b6, v.heap.size, b8) _ ⟨HG1, K6, K7, K8, ⟨Nat.ne_of_lt H6.out.lt⟩, N68, ⟨Nat.ne_of_gt H8.out.lt⟩⟩)
    intro hJ2_68
    refine join_ (σ := Nat × Nat × Nat) 5 #[true, true, true, true, true, false, false, true, true, false, false, false] (fun s => [(40, col p q r), (42, col p' q' r'), (9, .pointer (some ⟨s.2.1, 0, none⟩)), (10, .pointer (some ⟨s.2.2, 0, none⟩))]) (fun s w' => Aside0 (Grown W w') ∧ Aside0 (Fresh W w' s.2.1) ∧ Aside0 (Fresh W w' s.2.2) ∧ Aside0 (s.2.1 ≠ s.2.2)) ?_ ?_
    · skip
      rintro ⟨b6, b7, b8⟩ v ⟨HG, H7, H8, N78⟩
      have hHeld := HG
      refine norm_ (a' := ?_) ?_ ?_
      rotate_left
      · simp only [putAll, Act.put, List.setIfInBounds_toArray, List.set_cons_zero, List.set_cons_succ]
        rfl
      refine two_ (i := 5) (j := 6) (Ni := some 44) (Nj := some 8) #[true, true, true, true, true, true, false, true, true, false, false, false] #[true, true, true, true, true, false, true, true, true, false, false, false] rfl rfl rfl rfl (by kernel_rfl) (by decide) (by decide) (fun K hK => ?_) (fun K hK => ?_)
      · skip
        refine goes_ Try.func29 (by kernel_rfl) rfl #[col x y z] (by rfl) rfl rfl (by simp only [List.map_toArray, List.map_cons, List.map_nil]; rfl) ?_
        with_reducible refine (FA.out _).mono ?_
        rintro e v1 ⟨rfl, hg⟩
        refine ⟨_, rfl, ?_⟩
        have HG1 : Aside0 (Grown W v1) := ⟨Grown.trans HG.out hg⟩
        have K7 : Aside0 (Fresh W v1 b7) := ⟨H7.out.grown hg⟩
        have K8 : Aside0 (Fresh W v1 b8) := ⟨H8.out.grown hg⟩
        refine hK.out _ _ HG1 (fun _ => ?_)
        clear hK K
        exact norm_ (by first | (simp only [putAll, Act.put, List.setIfInBounds_toArray, List.set_cons_zero, List.set_cons_succ]; done) | (simp only [putAll, Act.put, List.setIfInBounds_toArray, List.set_cons_zero, List.set_cons_succ]; rfl)) (hJ3_78 (b6, b7, b8) _ ⟨HG1, K7, K8, N78⟩)
      · skip
        refine value_ (w1 := v.alloc (.cells #[Value.float FloatKind.f64 0, Value.float FloatKind.f64 0, Value.float FloatKind.f64 0] 38)) (v := .pointer (some ⟨v.heap.size, 0, none⟩)) (by rfl) rfl ?_ ?_
        · go_simp
        have HG1 : Aside0 (Grown W (v.alloc (.cells #[Value.float FloatKind.f64 0, Value.float FloatKind.f64 0, Value.float FloatKind.f64 0] 38))) := ⟨Grown.alloc HG.out _ _⟩
        have K7 := Aside0.mk (H7.out.grown (Grown.alloc (Grown.refl v) #[Value.float FloatKind.f64 0, Value.float FloatKind.f64 0, Value.float FloatKind.f64 0] 38))
        have K8 := Aside0.mk (H8.out.grown (Grown.alloc (Grown.refl v) #[Value.float FloatKind.f64 0, Value.float FloatKind.f64 0, Value.float FloatKind.f64 0] 38))
        have K6 := Aside0.mk (Fresh.new HG.out)
        refine hK.out _ _ HG1 (fun _ => ?_)
        clear hK K
        exact norm_ (by first | (simp only [putAll, Act.put, List.setIfInBounds_toArray, List.set_cons_zero, List.set_cons_succ]; done) | (simp only [putAll, Act.put, List.setIfInBounds_toArray, List.set_cons_zero, List.set_cons_succ]; rfl)) (hJ2_678 (v.heap.size, b7, b8) _ ⟨HG1, K6, K7, K8, ⟨Nat.ne_of_gt H7.out.lt⟩, ⟨Nat.ne_of_gt H8.out.lt⟩, N78⟩)
    intro hJ2_78
    refine join_ (σ := Nat × Nat × Nat) 5 #[true, true, true, false, true, false, true, true, true, false, false, false] (fun s => [(40, col p q r), (8, .pointer (some ⟨s.1, 0, none⟩)), (9, .pointer (some ⟨s.2.1, 0, none⟩)), (10, .pointer (some ⟨s.2.2, 0, none⟩))]) (fun s w' => Aside0 (Grown W w') ∧ Aside0 (Fresh W w' s.1) ∧ Aside0 (Fresh W w' s.2.1) ∧ Aside0 (Fresh W w' s.2.2) ∧ Aside0 (s.1 ≠ s.2.1) ∧ Aside0 (s.1 ≠ s.2.2) ∧ Aside0 (s.2.1 ≠ s.2.2)) ?_ ?_
    · skip
      rintro ⟨b6, b7, b8⟩ v ⟨HG, H6, H7, H8, N67, N68, N78⟩
      have hHeld := HG
      refine norm_ (a' := ?_) ?_ ?_
      rotate_left
      · simp only [putAll, Act.put, List.setIfInBounds_toArray, List.set_cons_zero, List.set_cons_succ]
        rfl
      refine one_ (i := 3) (N := some 42) #[true, true, true, true, true, false, true, true, true, false, false, false] rfl rfl (by kernel_rfl) (by decide) (fun K hK => ?_)
      refine goes_ Try.func29 (by kernel_rfl) rfl #[col x' y' z'] (by rfl) rfl rfl (by simp only [List.map_toArray, List.map_cons, List.map_nil]; rfl) ?_
      with_reducible refine (FB.out _).mono ?_
      rintro e v1 ⟨rfl, hg⟩
      refine ⟨_, rfl, ?_⟩
      have HG1 : Aside0 (Grown W v1) := ⟨Grown.trans HG.out hg⟩
      have K6 : Aside0 (Fresh W v1 b6) := ⟨H6.out.grown hg⟩
      have K7 : Aside0 (Fresh W v1 b7) := ⟨H7.out.grown hg⟩
      have K8 : Aside0 (Fresh W v1 b8) := ⟨H8.out.grown hg⟩
      refine hK.out _ _ HG1 (fun _ => ?_)
      clear hK K
      exact norm_ (by first | (simp only [putAll, Act.put, List.setIfInBounds_toArray, List.set_cons_zero, List.set_cons_succ]; done) | (simp only [putAll, Act.put, List.setIfInBounds_toArray, List.set_cons_zero, List.set_cons_succ]; rfl)) (hJ2_678 (b6, b7, b8) _ ⟨HG1, K6, K7, K8, N67, N68, N78⟩)
    intro hJ1_678
    refine join_ (σ := Nat × Nat × Nat) 6 #[true, true, true, true, true, true, false, false, false, false, false, false] (fun s => [(40, col p q r), (42, col p' q' r'), (44, col p q r)]) (fun s w' => Aside0 (Grown W w')) ?_ ?_
    · skip
      rintro ⟨b6, b7, b8⟩ v HG
      have hHeld := HG
      refine norm_ (a' := ?_) ?_ ?_
      rotate_left
      · simp only [putAll, Act.put, List.setIfInBounds_toArray, List.set_cons_zero, List.set_cons_succ]
        rfl
      refine three_ (i := 6) (j := 7) (k := 8) (Ni := some 8) (Nj := some 9) (Nk := some 10) #[true, true, true, true, true, true, true, false, false, false, false, false] #[true, true, true, true, true, true, false, true, false, false, false, false] #[true, true, true, true, true, true, false, false, true, false, false, false] rfl rfl rfl rfl rfl rfl (by kernel_rfl) (by decide) (by decide) (by decide) (fun K hK => ?_) (fun K hK => ?_) (fun K hK => ?_)
      · skip
        refine value_ (w1 := v.alloc (.cells #[Value.float FloatKind.f64 0, Value.float FloatKind.f64 0, Value.float FloatKind.f64 0] 38)) (v := .pointer (some ⟨v.heap.size, 0, none⟩)) (by rfl) rfl ?_ ?_
        · go_simp
        have HG1 : Aside0 (Grown W (v.alloc (.cells #[Value.float FloatKind.f64 0, Value.float FloatKind.f64 0, Value.float FloatKind.f64 0] 38))) := ⟨Grown.alloc HG.out _ _⟩
        have K6 := Aside0.mk (Fresh.new HG.out)
        refine hK.out _ _ HG1 (fun _ => ?_)
        clear hK K
        exact norm_ (by first | (simp only [putAll, Act.put, List.setIfInBounds_toArray, List.set_cons_zero, List.set_cons_succ]; done) | (simp only [putAll, Act.put, List.setIfInBounds_toArray, List.set_cons_zero, List.set_cons_succ]; rfl)) (hJ3_6 (v.heap.size, b7, b8) _ ⟨HG1, K6⟩)
      · skip
        refine value_ (w1 := v.alloc (.cells #[Value.float FloatKind.f64 0, Value.float FloatKind.f64 0, Value.float FloatKind.f64 0] 38)) (v := .pointer (some ⟨v.heap.size, 0, none⟩)) (by rfl) rfl ?_ ?_
        · go_simp
        have HG1 : Aside0 (Grown W (v.alloc (.cells #[Value.float FloatKind.f64 0, Value.float FloatKind.f64 0, Value.float FloatKind.f64 0] 38))) := ⟨Grown.alloc HG.out _ _⟩
        have K7 := Aside0.mk (Fresh.new HG.out)
        refine hK.out _ _ HG1 (fun _ => ?_)
        clear hK K
        exact norm_ (by first | (simp only [putAll, Act.put, List.setIfInBounds_toArray, List.set_cons_zero, List.set_cons_succ]; done) | (simp only [putAll, Act.put, List.setIfInBounds_toArray, List.set_cons_zero, List.set_cons_succ]; rfl)) (hJ3_7 (b6, v.heap.size, b8) _ ⟨HG1, K7⟩)
      · skip
        refine value_ (w1 := v.alloc (.cells #[Value.float FloatKind.f64 0, Value.float FloatKind.f64 0, Value.float FloatKind.f64 0] 38)) (v := .pointer (some ⟨v.heap.size, 0, none⟩)) (by rfl) rfl ?_ ?_
        · go_simp
        have HG1 : Aside0 (Grown W (v.alloc (.cells #[Value.float FloatKind.f64 0, Value.float FloatKind.f64 0, Value.float FloatKind.f64 0] 38))) := ⟨Grown.alloc HG.out _ _⟩
        have K8 := Aside0.mk (Fresh.new HG.out)
        refine hK.out _ _ HG1 (fun _ => ?_)
        clear hK K
        exact norm_ (by first | (simp only [putAll, Act.put, List.setIfInBounds_toArray, List.set_cons_zero, List.set_cons_succ]; done) | (simp only [putAll, Act.put, List.setIfInBounds_toArray, List.set_cons_zero, List.set_cons_succ]; rfl)) (hJ3_8 (b6, b7, v.heap.size) _ ⟨HG1, K8⟩)
    intro hJ3_
    refine join_ (σ := Nat × Nat × Nat) 6 #[true, true, true, true, true, false, true, false, false, false, false, false] (fun s => [(40, col p q r), (42, col p' q' r'), (8, .pointer (some ⟨s.1, 0, none⟩))]) (fun s w' => Aside0 (Grown W w') ∧ Aside0 (Fresh W w' s.1)) ?_ ?_
    · skip
      rintro ⟨b6, b7, b8⟩ v ⟨HG, H6⟩
      have hHeld := HG
      refine norm_ (a' := ?_) ?_ ?_
      rotate_left
      · simp only [putAll, Act.put, List.setIfInBounds_toArray, List.set_cons_zero, List.set_cons_succ]
        rfl
      refine three_ (i := 5) (j := 7) (k := 8) (Ni := some 44) (Nj := some 9) (Nk := some 10) #[true, true, true, true, true, true, true, false, false, false, false, false] #[true, true, true, true, true, false, true, true, false, false, false, false] #[true, true, true, true, true, false, true, false, true, false, false, false] rfl rfl rfl rfl rfl rfl (by kernel_rfl) (by decide) (by decide) (by decide) (fun K hK => ?_) (fun K hK => ?_) (fun K hK => ?_)
      · skip
        refine goes_ Try.func29 (by kernel_rfl) rfl #[col x y z] (by rfl) rfl rfl (by simp only [List.map_toArray, List.map_cons, List.map_nil]; rfl) ?_
        with_reducible refine (FA.out _).mono ?_
        rintro e v1 ⟨rfl, hg⟩
        refine ⟨_, rfl, ?_⟩
        have HG1 : Aside0 (Grown W v1) := ⟨Grown.trans HG.out hg⟩
        have K6 : Aside0 (Fresh W v1 b6) := ⟨H6.out.grown hg⟩
        refine hK.out _ _ HG1 (fun _ => ?_)
        clear hK K
        exact norm_ (by first | (simp only [putAll, Act.put, List.setIfInBounds_toArray, List.set_cons_zero, List.set_cons_succ]; done) | (simp only [putAll, Act.put, List.setIfInBounds_toArray, List.set_cons_zero, List.set_cons_succ]; rfl)) (hJ3_6 (b6, b7, b8) _ ⟨HG1, K6⟩)
      · skip
        refine value_ (w1 := v.alloc (.cells #[Value.float FloatKind.f64 0, Value.float FloatKind.f64 0, Value.float FloatKind.f64 0] 38)) (v := .pointer (some ⟨v.heap.size, 0, none⟩)) (by rfl) rfl ?_ ?_
        · go_simp
        have HG1 : Aside0 (Grown W (v.alloc (.cells #[Value.float FloatKind.f64 0, Value.float FloatKind.f64 0, Value.float FloatKind.f64 0] 38))) := ⟨Grown.alloc HG.out _ _⟩
        have K6 := Aside0.mk (H6.out.grown (Grown.alloc (Grown.refl v) #[Value.float FloatKind.f64 0, Value.float FloatKind.f64 0, Value.float FloatKind.f64 0] 38))
        have K7 := Aside0.mk (Fresh.new HG.out)
        refine hK.out _ _ HG1 (fun _ => ?_)
        clear hK K
        exact norm_ (by first | (simp only [putAll, Act.put, List.setIfInBounds_toArray, List.set_cons_zero, List.set_cons_succ]; done) | (simp only [putAll, Act.put, List.setIfInBounds_toArray, List.set_cons_zero, List.set_cons_succ]; rfl)) (hJ2_67 (b6, v.heap.size, b8) _ ⟨HG1, K6, K7, ⟨Nat.ne_of_lt H6.out.lt⟩⟩)
      · skip
        refine value_ (w1 := v.alloc (.cells #[Value.float FloatKind.f64 0, Value.float FloatKind.f64 0, Value.float FloatKind.f64 0] 38)) (v := .pointer (some ⟨v.heap.size, 0, none⟩)) (by rfl) rfl ?_ ?_
        · go_simp
        have HG1 : Aside0 (Grown W (v.alloc (.cells #[Value.float FloatKind.f64 0, Value.float FloatKind.f64 0, Value.float FloatKind.f64 0] 38))) := ⟨Grown.alloc HG.out _ _⟩
        have K6 := Aside0.mk (H6.out.grown (Grown.alloc (Grown.refl v) #[Value.float FloatKind.f64 0, Value.float FloatKind.f64 0, Value.float FloatKind.f64 0] 38))
        have K8 := Aside0.mk (Fresh.new HG.out)
        refine hK.out _ _ HG1 (fun _ => ?_)
        clear hK K
        exact norm_ (by first | (simp only [putAll, Act.put, List.setIfInBounds_toArray, List.set_cons_zero, List.set_cons_succ]; done) | (simp only [putAll, Act.put, List.setIfInBounds_toArray, List.set_cons_zero, List.set_cons_succ]; rfl)) (hJ2_68 (b6, b7, v.heap.size) _ ⟨HG1, K6, K8, ⟨Nat.ne_of_lt H6.out.lt⟩⟩)
    intro hJ2_6
    refine join_ (σ := Nat × Nat × Nat) 6 #[true, true, true, true, true, false, false, true, false, false, false, false] (fun s => [(40, col p q r), (42, col p' q' r'), (9, .pointer (some ⟨s.2.1, 0, none⟩))]) (fun s w' => Aside0 (Grown W w') ∧ Aside0 (Fresh W w' s.2.1)) ?_ ?_
    · skip
      rintro ⟨b6, b7, b8⟩ v ⟨HG, H7⟩
      have hHeld := HG
      refine norm_ (a' := ?_) ?_ ?_
      rotate_left
      · simp only [putAll, Act.put, List.setIfInBounds_toArray, List.set_cons_zero, List.set_cons_succ]
        rfl
      refine three_ (i := 5) (j := 6) (k := 8) (Ni := some 44) (Nj := some 8) (Nk := some 10) #[true, true, true, true, true, true, false, true, false, false, false, false] #[true, true, true, true, true, false, true, true, false, false, false, false] #[true, true, true, true, true, false, false, true, true, false, false, false] rfl rfl rfl rfl rfl rfl (by kernel_rfl) (by decide) (by decide) (by decide) (fun K hK => ?_) (fun K hK => ?_) (fun K hK => ?_)
      · skip
        refine goes_ Try.func29 (by kernel_rfl) rfl #[col x y z] (by rfl) rfl rfl (by simp only [List.map_toArray, List.map_cons, List.map_nil]; rfl) ?_
        with_reducible refine (FA.out _).mono ?_
        rintro e v1 ⟨rfl, hg⟩
        refine ⟨_, rfl, ?_⟩
        have HG1 : Aside0 (Grown W v1) := ⟨Grown.trans HG.out hg⟩
        have K7 : Aside0 (Fresh W v1 b7) := ⟨H7.out.grown hg⟩
        refine hK.out _ _ HG1 (fun _ => ?_)
        clear hK K
        exact norm_ (by first | (simp only [putAll, Act.put, List.setIfInBounds_toArray, List.set_cons_zero, List.set_cons_succ]; done) | (simp only [putAll, Act.put, List.setIfInBounds_toArray, List.set_cons_zero, List.set_cons_succ]; rfl)) (hJ3_7 (b6, b7, b8) _ ⟨HG1, K7⟩)
      · skip
        refine value_ (w1 := v.alloc (.cells #[Value.float FloatKind.f64 0, Value.float FloatKind.f64 0, Value.float FloatKind.f64 0] 38)) (v := .pointer (some ⟨v.heap.size, 0, none⟩)) (by rfl) rfl ?_ ?_
        · go_simp
        have HG1 : Aside0 (Grown W (v.alloc (.cells #[Value.float FloatKind.f64 0, Value.float FloatKind.f64 0, Value.float FloatKind.f64 0] 38))) := ⟨Grown.alloc HG.out _ _⟩
        have K7 := Aside0.mk (H7.out.grown (Grown.alloc (Grown.refl v) #[Value.float FloatKind.f64 0, Value.float FloatKind.f64 0, Value.float FloatKind.f64 0] 38))
        have K6 := Aside0.mk (Fresh.new HG.out)
        refine hK.out _ _ HG1 (fun _ => ?_)
        clear hK K
        exact norm_ (by first | (simp only [putAll, Act.put, List.setIfInBounds_toArray, List.set_cons_zero, List.set_cons_succ]; done) | (simp only [putAll, Act.put, List.setIfInBounds_toArray, List.set_cons_zero, List.set_cons_succ]; rfl)) (hJ2_67 (v.heap.size, b7, b8) _ ⟨HG1, K6, K7, ⟨Nat.ne_of_gt H7.out.lt⟩⟩)
      · skip
        refine value_ (w1 := v.alloc (.cells #[Value.float FloatKind.f64 0, Value.float FloatKind.f64 0, Value.float FloatKind.f64 0] 38)) (v := .pointer (some ⟨v.heap.size, 0, none⟩)) (by rfl) rfl ?_ ?_
        · go_simp
        have HG1 : Aside0 (Grown W (v.alloc (.cells #[Value.float FloatKind.f64 0, Value.float FloatKind.f64 0, Value.float FloatKind.f64 0] 38))) := ⟨Grown.alloc HG.out _ _⟩
        have K7 := Aside0.mk (H7.out.grown (Grown.alloc (Grown.refl v) #[Value.float FloatKind.f64 0, Value.float FloatKind.f64 0, Value.float FloatKind.f64 0] 38))
        have K8 := Aside0.mk (Fresh.new HG.out)
        refine hK.out _ _ HG1 (fun _ => ?_)
        clear hK K
        exact norm_ (by first | (simp only [putAll, Act.put, List.setIfInBounds_toArray, List.set_cons_zero, List.set_cons_succ]; done) | (simp only [putAll, Act.put, List.setIfInBounds_toArray, List.set_cons_zero, List.set_cons_succ]; rfl)) (hJ2_78 (b6, b7, v.heap.size) _ ⟨HG1, K7, K8, ⟨Nat.ne_of_lt H7.out.lt⟩⟩)
    intro hJ2_7
    refine join_ (σ := Nat × Nat × Nat) 6 #[true, true, true, true, true, false, false, false, true, false, false, false] (fun s => [(40, col p q r), (42, col p' q' r'), (10, .pointer (some ⟨s.2.2, 0, none⟩))]) (fun s w' => Aside0 (Grown W w') ∧ Aside0 (Fresh W w' s.2.2)) ?_ ?_
    · skip
      rintro ⟨b6, b7, b8⟩ v ⟨HG, H8⟩
      have hHeld := HG
      refine norm_ (a' := ?_) ?_ ?_
      rotate_left
      · simp only [putAll, Act.put, List.setIfInBounds_toArray, List.set_cons_zero, List.set_cons_succ]
        rfl
      refine three_ (i := 5) (j := 6) (k := 7) (Ni := some 44) (Nj := some 8) (Nk := some 9) #[true, true, true, true, true, true, false, false, true, false, false, false] #[true, true, true, true, true, false, true, false, true, false, false, false] #[true, true, true, true, true, false, false, true, true, false, false, false] rfl rfl rfl rfl rfl rfl (by kernel_rfl) (by decide) (by decide) (by decide) (fun K hK => ?_) (fun K hK => ?_) (fun K hK => ?_)
      · skip
        refine goes_ Try.func29 (by kernel_rfl) rfl #[col x y z] (by rfl) rfl rfl (by simp only [List.map_toArray, List.map_cons, List.map_nil]; rfl) ?_
        with_reducible refine (FA.out _).mono ?_
        rintro e v1 ⟨rfl, hg⟩
        refine ⟨_, rfl, ?_⟩
        have HG1 : Aside0 (Grown W v1) := ⟨Grown.trans HG.out hg⟩
        have K8 : Aside0 (Fresh W v1 b8) := ⟨H8.out.grown hg⟩
        refine hK.out _ _ HG1 (fun _ => ?_)
        clear hK K
        exact norm_ (by first | (simp only [putAll, Act.put, List.setIfInBounds_toArray, List.set_cons_zero, List.set_cons_succ]; done) | (simp only [putAll, Act.put, List.setIfInBounds_toArray, List.set_cons_zero, List.set_cons_succ]; rfl)) (hJ3_8 (b6, b7, b8) _ ⟨HG1, K8⟩)
      · skip
        refine value_ (w1 := v.alloc (.cells #[Value.float FloatKind.f64 0, Value.float FloatKind.f64 0, Value.float FloatKind.f64 0] 38)) (v := .pointer (some ⟨v.heap.size, 0, none⟩)) (by rfl) rfl ?_ ?_
        · go_simp
        have HG1 : Aside0 (Grown W (v.alloc (.cells #[Value.float FloatKind.f64 0, Value.float FloatKind.f64 0, Value.float FloatKind.f64 0] 38))) := ⟨Grown.alloc HG.out _ _⟩
        have K8 := Aside0.mk (H8.out.grown (Grown.alloc (Grown.refl v) #[Value.float FloatKind.f64 0, Value.float FloatKind.f64 0, Value.float FloatKind.f64 0] 38))
        have K6 := Aside0.mk (Fresh.new HG.out)
        refine hK.out _ _ HG1 (fun _ => ?_)
        clear hK K
        exact norm_ (by first | (simp only [putAll, Act.put, List.setIfInBounds_toArray, List.set_cons_zero, List.set_cons_succ]; done) | (simp only [putAll, Act.put, List.setIfInBounds_toArray, List.set_cons_zero, List.set_cons_succ]; rfl)) (hJ2_68 (v.heap.size, b7, b8) _ ⟨HG1, K6, K8, ⟨Nat.ne_of_gt H8.out.lt⟩⟩)
      · skip
        refine value_ (w1 := v.alloc (.cells #[Value.float FloatKind.f64 0, Value.float FloatKind.f64 0, Value.float FloatKind.f64 0] 38)) (v := .pointer (some ⟨v.heap.size, 0, none⟩)) (by rfl) rfl ?_ ?_
        · go_simp
        have HG1 : Aside0 (Grown W (v.alloc (.cells #[Value.float FloatKind.f64 0, Value.float FloatKind.f64 0, Value.float FloatKind.f64 0] 38))) := ⟨Grown.alloc HG.out _ _⟩
        have K8 := Aside0.mk (H8.out.grown (Grown.alloc (Grown.refl v) #[Value.float FloatKind.f64 0, Value.float FloatKind.f64 0, Value.float FloatKind.f64 0] 38))
        have K7 := Aside0.mk (Fresh.new HG.out)
        refine hK.out _ _ HG1 (fun _ => ?_)
        clear hK K
        exact norm_ (by first | (simp only [putAll, Act.put, List.setIfInBounds_toArray, List.set_cons_zero, List.set_cons_succ]; done) | (simp only [putAll, Act.put, List.setIfInBounds_toArray, List.set_cons_zero, List.set_cons_succ]; rfl)) (hJ2_78 (b6, v.heap.size, b8) _ ⟨HG1, K7, K8, ⟨Nat.ne_of_gt H8.out.lt⟩⟩)
    intro hJ2_8
    refine join_ (σ := Nat × Nat × Nat) 6 #[true, true, true, false, true, false, true, true, false, false, false, false] (fun s => [(40, col p q r), (8, .pointer (some ⟨s.1, 0, none⟩)), (9, .pointer (some ⟨s.2.1, 0, none⟩))]) (fun s w' => Aside0 (Grown W w') ∧ Aside0 (Fresh W w' s.1) ∧ Aside0 (Fresh W w' s.2.1) ∧ Aside0 (s.1 ≠ s.2.1)) ?_ ?_
    · skip
      rintro ⟨b6, b7, b8⟩ v ⟨HG, H6, H7, N67⟩
      have hHeld := HG
      refine norm_ (a' := ?_) ?_ ?_
      rotate_left
      · simp only [putAll, Act.put, List.setIfInBounds_toArray, List.set_cons_zero, List.set_cons_succ]
        rfl
      refine two_ (i := 3) (j := 8) (Ni := some 42) (Nj := some 10) #[true, true, true, true, true, false, true, true, false, false, false, false] #[true, true, true, false, true, false, true, true, true, false, false, false] rfl rfl rfl rfl (by kernel_rfl) (by decide) (by decide) (fun K hK => ?_) (fun K hK => ?_)
      · skip
        refine goes_ Try.func29 (by kernel_rfl) rfl #[col x' y' z'] (by rfl) rfl rfl (by simp only [List.map_toArray, List.map_cons, List.map_nil]; rfl) ?_
        with_reducible refine (FB.out _).mono ?_
        rintro e v1 ⟨rfl, hg⟩
        refine ⟨_, rfl, ?_⟩
        have HG1 : Aside0 (Grown W v1) := ⟨Grown.trans HG.out hg⟩
        have K6 : Aside0 (Fresh W v1 b6) := ⟨H6.out.grown hg⟩
        have K7 : Aside0 (Fresh W v1 b7) := ⟨H7.out.grown hg⟩
        refine hK.out _ _ HG1 (fun _ => ?_)
        clear hK K
        exact norm_ (by first | (simp only [putAll, Act.put, List.setIfInBounds_toArray, List.set_cons_zero, List.set_cons_succ]; done) | (simp only [putAll, Act.put, List.setIfInBounds_toArray, List.set_cons_zero, List.set_cons_succ]; rfl)) (hJ2_67 (b6, b7, b8) _ ⟨HG1, K6, K7, N67⟩)
      · skip
        refine value_ (w1 := v.alloc (.cells #[Value.float FloatKind.f64 0, Value.float FloatKind.f64 0, Value.float FloatKind.f64 0] 38)) (v := .pointer (some ⟨v.heap.size, 0, none⟩)) (by rfl) rfl ?_ ?_
        · go_simp
        have HG1 : Aside0 (Grown W (v.alloc (.cells #[Value.float FloatKind.f64 0, Value.float FloatKind.f64 0, Value.float FloatKind.f64 0] 38))) := ⟨Grown.alloc HG.out _ _⟩
        have K6 := Aside0.mk (H6.out.grown (Grown.alloc (Grown.refl v) #[Value.float FloatKind.f64 0, Value.float FloatKind.f64 0, Value.float FloatKind.f64 0] 38))
        have K7 := Aside0.mk (H7.out.grown (Grown.alloc (Grown.refl v) #[Value.float FloatKind.f64 0, Value.float FloatKind.f64 0, Value.float FloatKind.f64 0] 38))
        have K8 := Aside0.mk (Fresh.new HG.out)
        refine hK.out _ _ HG1 (fun _ => ?_)
        clear hK K
        exact norm_ (by first | (simp only [putAll, Act.put, List.setIfInBounds_toArray, List.set_cons_zero, List.set_cons_succ]; done) | (simp only [putAll, Act.put, List.setIfInBounds_toArray, List.set_cons_zero, List.set_cons_succ]; rfl)) (hJ1_678 (b6, b7, v.heap.size) _ ⟨HG1, K6, K7, K8, N67, ⟨Nat.ne_of_lt H6.out.lt⟩, ⟨Nat.ne_of_lt H7.out.lt⟩⟩)
    intro hJ1_67
    refine join_ (σ := Nat × Nat × Nat) 6 #[true, true, true, false, true, false, true, false, true, false, false, false] (fun s => [(40, col p q r), (8, .pointer (some ⟨s.1, 0, none⟩)), (10, .pointer (some ⟨s.2.2, 0, none⟩))]) (fun s w' => Aside0 (Grown W w') ∧ Aside0 (Fresh W w' s.1) ∧ Aside0 (Fresh W w' s.2.2) ∧ Aside0 (s.1 ≠ s.2.2)) ?_ ?_
    · skip
      rintro ⟨b6, b7, b8⟩ v ⟨HG, H6, H8, N68⟩
      have hHeld := HG
      refine norm_ (a' := ?_) ?_ ?_
      rotate_left
      · simp only [putAll, Act.put, List.setIfInBounds_toArray, List.set_cons_zero, List.set_cons_succ]
        rfl
      refine two_ (i := 3) (j := 7) (Ni := some 42) (Nj := some 9) #[true, true, true, true, true, false, true, false, true, false, false, false] #[true, true, true, false, true, false, true, true, true, false, false, false] rfl rfl rfl rfl (by kernel_rfl) (by decide) (by decide) (fun K hK => ?_) (fun K hK => ?_)
      · skip
        refine goes_ Try.func29 (by kernel_rfl) rfl #[col x' y' z'] (by rfl) rfl rfl (by simp only [List.map_toArray, List.map_cons, List.map_nil]; rfl) ?_
        with_reducible refine (FB.out _).mono ?_
        rintro e v1 ⟨rfl, hg⟩
        refine ⟨_, rfl, ?_⟩
        have HG1 : Aside0 (Grown W v1) := ⟨Grown.trans HG.out hg⟩
        have K6 : Aside0 (Fresh W v1 b6) := ⟨H6.out.grown hg⟩
        have K8 : Aside0 (Fresh W v1 b8) := ⟨H8.out.grown hg⟩
        refine hK.out _ _ HG1 (fun _ => ?_)
        clear hK K
        exact norm_ (by first | (simp only [putAll, Act.put, List.setIfInBounds_toArray, List.set_cons_zero, List.set_cons_succ]; done) | (simp only [putAll, Act.put, List.setIfInBounds_toArray, List.set_cons_zero, List.set_cons_succ]; rfl)) (hJ2_68 (b6, b7, b8) _ ⟨HG1, K6, K8, N68⟩)
      · skip
        refine value_ (w1 := v.alloc (.cells #[Value.float FloatKind.f64 0, Value.float FloatKind.f64 0, Value.float FloatKind.f64 0] 38)) (v := .pointer (some ⟨v.heap.size, 0, none⟩)) (by rfl) rfl ?_ ?_
        · go_simp
        have HG1 : Aside0 (Grown W (v.alloc (.cells #[Value.float FloatKind.f64 0, Value.float FloatKind.f64 0, Value.float FloatKind.f64 0] 38))) := ⟨Grown.alloc HG.out _ _⟩
        have K6 := Aside0.mk (H6.out.grown (Grown.alloc (Grown.refl v) #[Value.float FloatKind.f64 0, Value.float FloatKind.f64 0, Value.float FloatKind.f64 0] 38))
        have K8 := Aside0.mk (H8.out.grown (Grown.alloc (Grown.refl v) #[Value.float FloatKind.f64 0, Value.float FloatKind.f64 0, Value.float FloatKind.f64 0] 38))
        have K7 := Aside0.mk (Fresh.new HG.out)
        refine hK.out _ _ HG1 (fun _ => ?_)
        clear hK K
        exact norm_ (by first | (simp only [putAll, Act.put, List.setIfInBounds_toArray, List.set_cons_zero, List.set_cons_succ]; done) | (simp only [putAll, Act.put, List.setIfInBounds_toArray, List.set_cons_zero, List.set_cons_succ]; rfl)) (hJ1_678 (b6, v.heap.size, b8) _ ⟨HG1, K6, K7, K8, ⟨Nat.ne_of_lt H6.out.lt⟩, N68, ⟨Nat.ne_of_gt H8.out.lt⟩⟩)
    intro hJ1_68
    refine join_ (σ := Nat × Nat × Nat) 6 #[true, true, true, false, true, false, false, true, true, false, false, false] (fun s => [(40, col p q r), (9, .pointer (some ⟨s.2.1, 0, none⟩)), (10, .pointer (some ⟨s.2.2, 0, none⟩))]) (fun s w' => Aside0 (Grown W w') ∧ Aside0 (Fresh W w' s.2.1) ∧ Aside0 (Fresh W w' s.2.2) ∧ Aside0 (s.2.1 ≠ s.2.2)) ?_ ?_
    · skip
      rintro ⟨b6, b7, b8⟩ v ⟨HG, H7, H8, N78⟩
      have hHeld := HG
      refine norm_ (a' := ?_) ?_ ?_
      rotate_left
      · simp only [putAll, Act.put, List.setIfInBounds_toArray, List.set_cons_zero, List.set_cons_succ]
        rfl
      refine two_ (i := 3) (j := 6) (Ni := some 42) (Nj := some 8) #[true, true, true, true, true, false, false, true, true, false, false, false] #[true, true, true, false, true, false, true, true, true, false, false, false] rfl rfl rfl rfl (by kernel_rfl) (by decide) (by decide) (fun K hK => ?_) (fun K hK => ?_)
      · skip
        refine goes_ Try.func29 (by kernel_rfl) rfl #[col x' y' z'] (by rfl) rfl rfl (by simp only [List.map_toArray, List.map_cons, List.map_nil]; rfl) ?_
        with_reducible refine (FB.out _).mono ?_
        rintro e v1 ⟨rfl, hg⟩
        refine ⟨_, rfl, ?_⟩
        have HG1 : Aside0 (Grown W v1) := ⟨Grown.trans HG.out hg⟩
        have K7 : Aside0 (Fresh W v1 b7) := ⟨H7.out.grown hg⟩
        have K8 : Aside0 (Fresh W v1 b8) := ⟨H8.out.grown hg⟩
        refine hK.out _ _ HG1 (fun _ => ?_)
        clear hK K
        exact norm_ (by first | (simp only [putAll, Act.put, List.setIfInBounds_toArray, List.set_cons_zero, List.set_cons_succ]; done) | (simp only [putAll, Act.put, List.setIfInBounds_toArray, List.set_cons_zero, List.set_cons_succ]; rfl)) (hJ2_78 (b6, b7, b8) _ ⟨HG1, K7, K8, N78⟩)
      · skip
        refine value_ (w1 := v.alloc (.cells #[Value.float FloatKind.f64 0, Value.float FloatKind.f64 0, Value.float FloatKind.f64 0] 38)) (v := .pointer (some ⟨v.heap.size, 0, none⟩)) (by rfl) rfl ?_ ?_
        · go_simp
        have HG1 : Aside0 (Grown W (v.alloc (.cells #[Value.float FloatKind.f64 0, Value.float FloatKind.f64 0, Value.float FloatKind.f64 0] 38))) := ⟨Grown.alloc HG.out _ _⟩
        have K7 := Aside0.mk (H7.out.grown (Grown.alloc (Grown.refl v) #[Value.float FloatKind.f64 0, Value.float FloatKind.f64 0, Value.float FloatKind.f64 0] 38))
        have K8 := Aside0.mk (H8.out.grown (Grown.alloc (Grown.refl v) #[Value.float FloatKind.f64 0, Value.float FloatKind.f64 0, Value.float FloatKind.f64 0] 38))
        have K6 := Aside0.mk (Fresh.new HG.out)
        refine hK.out _ _ HG1 (fun _ => ?_)
        clear hK K
        exact norm_ (by first | (simp only [putAll, Act.put, List.setIfInBounds_toArray, List.set_cons_zero, List.set_cons_succ]; done) | (simp only [putAll, Act.put, List.setIfInBounds_toArray, List.set_cons_zero, List.set_cons_succ]; rfl)) (hJ1_678 (v.heap.size, b7, b8) _ ⟨HG1, K6, K7, K8, ⟨Nat.ne_of_gt H7.out.lt⟩, ⟨Nat.ne_of_gt H8.out.lt⟩, N78⟩)
    intro hJ1_78
    refine join_ (σ := Nat × Nat × Nat) 6 #[true, false, true, false, true, false, true, true, true, false, false, false] (fun s => [(8, .pointer (some ⟨s.1, 0, none⟩)), (9, .pointer (some ⟨s.2.1, 0, none⟩)), (10, .pointer (some ⟨s.2.2, 0, none⟩))]) (fun s w' => Aside0 (Grown W w') ∧ Aside0 (Fresh W w' s.1) ∧ Aside0 (Fresh W w' s.2.1) ∧ Aside0 (Fresh W w' s.2.2) ∧ Aside0 (s.1 ≠ s.2.1) ∧ Aside0 (s.1 ≠ s.2.2) ∧ Aside0 (s.2.1 ≠ s.2.2)) ?_ ?_
    · skip
      rintro ⟨b6, b7, b8⟩ v ⟨HG, H6, H7, H8, N67, N68, N78⟩
      have hHeld := HG
      refine norm_ (a' := ?_) ?_ ?_
      rotate_left
      · simp only [putAll, Act.put, List.setIfInBounds_toArray, List.set_cons_zero, List.set_cons_succ]
        rfl
      refine one_ (i := 1) (N := some 40) #[true, true, true, false, true, false, true, true, true, false, false, false] rfl rfl (by kernel_rfl) (by decide) (fun K hK => ?_)
      refine goes_ Try.func29 (by kernel_rfl) rfl #[col x y z] (by rfl) rfl rfl (by simp only [List.map_toArray, List.map_cons, List.map_nil]; rfl) ?_
      with_reducible refine (FA.out _).mono ?_
      rintro e v1 ⟨rfl, hg⟩
      refine ⟨_, rfl, ?_⟩
      have HG1 : Aside0 (Grown W v1) := ⟨Grown.trans HG.out hg⟩
      have K6 : Aside0 (Fresh W v1 b6) := ⟨H6.out.grown hg⟩
      have K7 : Aside0 (Fresh W v1 b7) := ⟨H7.out.grown hg⟩
      have K8 : Aside0 (Fresh W v1 b8) := ⟨H8.out.grown hg⟩
      refine hK.out _ _ HG1 (fun _ => ?_)
      clear hK K
      exact norm_ (by first | (simp only [putAll, Act.put, List.setIfInBounds_toArray, List.set_cons_zero, List.set_cons_succ]; done) | (simp only [putAll, Act.put, List.setIfInBounds_toArray, List.set_cons_zero, List.set_cons_succ]; rfl)) (hJ1_678 (b6, b7, b8) _ ⟨HG1, K6, K7, K8, N67, N68, N78⟩)
    intro hJ0_678
    refine join_ (σ := Nat × Nat × Nat) 7 #[true, true, true, true, true, false, false, false, false, false, false, false] (fun s => [(40, col p q r), (42, col p' q' r')]) (fun s w' => Aside0 (Grown W w')) ?_ ?_
    · skip
      rintro ⟨b6, b7, b8⟩ v HG
      have hHeld := HG
      refine norm_ (a' := ?_) ?_ ?_
      rotate_left
      · simp only [putAll, Act.put, List.setIfInBounds_toArray, List.set_cons_zero, List.set_cons_succ]
        rfl
      refine four_ (i := 5) (j := 6) (k := 7) (m := 8) (Ni := some 44) (Nj := some 8) (Nk := some 9) (Nm := some 10) #[true, true, true, true, true, true, false, false, false, false, false, false] #[true, true, true, true, true, false, true, false, false, false, false, false] #[true, true, true, true, true, false, false, true, false, false, false, false] #[true, true, true, true, true, false, false, false, true, false, false, false] rfl rfl rfl rfl rfl rfl rfl rfl (by kernel_rfl) (by decide) (by decide) (by decide) (by decide) (fun K hK => ?_) (fun K hK => ?_) (fun K hK => ?_) (fun K hK => ?_)
      · skip
        refine goes_ Try.func29 (by kernel_rfl) rfl #[col x y z] (by rfl) rfl rfl (by simp only [List.map_toArray, List.map_cons, List.map_nil]; rfl) ?_
        with_reducible refine (FA.out _).mono ?_
        rintro e v1 ⟨rfl, hg⟩
        refine ⟨_, rfl, ?_⟩
        have HG1 : Aside0 (Grown W v1) := ⟨Grown.trans HG.out hg⟩
        refine hK.out _ _ HG1 (fun _ => ?_)
        clear hK K
        exact norm_ (by first | (simp only [putAll, Act.put, List.setIfInBounds_toArray, List.set_cons_zero, List.set_cons_succ]; done) | (simp only [putAll, Act.put, List.setIfInBounds_toArray, List.set_cons_zero, List.set_cons_succ]; rfl)) (hJ3_ (b6, b7, b8) _ HG1)
      · skip
        refine value_ (w1 := v.alloc (.cells #[Value.float FloatKind.f64 0, Value.float FloatKind.f64 0, Value.float FloatKind.f64 0] 38)) (v := .pointer (some ⟨v.heap.size, 0, none⟩)) (by rfl) rfl ?_ ?_
        · go_simp
        have HG1 : Aside0 (Grown W (v.alloc (.cells #[Value.float FloatKind.f64 0, Value.float FloatKind.f64 0, Value.float FloatKind.f64 0] 38))) := ⟨Grown.alloc HG.out _ _⟩
        have K6 := Aside0.mk (Fresh.new HG.out)
        refine hK.out _ _ HG1 (fun _ => ?_)
        clear hK K
        exact norm_ (by first | (simp only [putAll, Act.put, List.setIfInBounds_toArray, List.set_cons_zero, List.set_cons_succ]; done) | (simp only [putAll, Act.put, List.setIfInBounds_toArray, List.set_cons_zero, List.set_cons_succ]; rfl)) (hJ2_6 (v.heap.size, b7, b8) _ ⟨HG1, K6⟩)
      · skip
        refine value_ (w1 := v.alloc (.cells #[Value.float FloatKind.f64 0, Value.float FloatKind.f64 0, Value.float FloatKind.f64 0] 38)) (v := .pointer (some ⟨v.heap.size, 0, none⟩)) (by rfl) rfl ?_ ?_
        · go_simp
        have HG1 : Aside0 (Grown W (v.alloc (.cells #[Value.float FloatKind.f64 0, Value.float FloatKind.f64 0, Value.float FloatKind.f64 0] 38))) := ⟨Grown.alloc HG.out _ _⟩
        have K7 := Aside0.mk (Fresh.new HG.out)
        refine hK.out _ _ HG1 (fun _ => ?_)
        clear hK K
        exact norm_ (by first | (simp only [putAll, Act.put, List.setIfInBounds_toArray, List.set_cons_zero, List.set_cons_succ]; done) | (simp only [putAll, Act.put, List.setIfInBounds_toArray, List.set_cons_zero, List.set_cons_succ]; rfl)) (hJ2_7 (b6, v.heap.size, b8) _ ⟨HG1, K7⟩)
      · skip
        refine value_ (w1 := v.alloc (.cells #[Value.float FloatKind.f64 0, Value.float FloatKind.f64 0, Value.float FloatKind.f64 0] 38)) (v := .pointer (some ⟨v.heap.size, 0, none⟩)) (by rfl) rfl ?_ ?_
        · go_simp
        have HG1 : Aside0 (Grown W (v.alloc (.cells #[Value.float FloatKind.f64 0, Value.float FloatKind.f64 0, Value.float FloatKind.f64 0] 38))) := ⟨Grown.alloc HG.out _ _⟩
        have K8 := Aside0.mk (Fresh.new HG.out)
        refine hK.out _ _ HG1 (fun _ => ?_)
        clear hK K
        exact norm_ (by first | (simp only [putAll, Act.put, List.setIfInBounds_toArray, List.set_cons_zero, List.set_cons_succ]; done) | (simp only [putAll, Act.put, List.setIfInBounds_toArray, List.set_cons_zero, List.set_cons_succ]; rfl)) (hJ2_8 (b6, b7, v.heap.size) _ ⟨HG1, K8⟩)
    intro hJ2_
    refine join_ (σ := Nat × Nat × Nat) 7 #[true, true, true, false, true, false, true, false, false, false, false, false] (fun s => [(40, col p q r), (8, .pointer (some ⟨s.1, 0, none⟩))]) (fun s w' => Aside0 (Grown W w') ∧ Aside0 (Fresh W w' s.1)) ?_ ?_
    · skip
      rintro ⟨b6, b7, b8⟩ v ⟨HG, H6⟩
      have hHeld := HG
      refine norm_ (a' := ?_) ?_ ?_
      rotate_left
      · simp only [putAll, Act.put, List.setIfInBounds_toArray, List.set_cons_zero, List.set_cons_succ]
        rfl
      refine three_ (i := 3) (j := 7) (k := 8) (Ni := some 42) (Nj := some 9) (Nk := some 10) #[true, true, true, true, true, false, true, false, false, false, false, false] #[true, true, true, false, true, false, true, true, false, false, false, false] #[true, true, true, false, true, false, true, false, true, false, false, false] rfl rfl rfl rfl rfl rfl (by kernel_rfl) (by decide) (by decide) (by decide) (fun K hK => ?_) (fun K hK => ?_) (fun K hK => ?_)
      · skip
        refine goes_ Try.func29 (by kernel_rfl) rfl #[col x' y' z'] (by rfl) rfl rfl (by simp only [List.map_toArray, List.map_cons, List.map_nil]; rfl) ?_
        with_reducible refine (FB.out _).mono ?_
        rintro e v1 ⟨rfl, hg⟩
        refine ⟨_, rfl, ?_⟩
        have HG1 : Aside0 (Grown W v1) := ⟨Grown.trans HG.out hg⟩
        have K6 : Aside0 (Fresh W v1 b6) := ⟨H6.out.grown hg⟩
        refine hK.out _ _ HG1 (fun _ => ?_)
        clear hK K
        exact norm_ (by first | (simp only [putAll, Act.put, List.setIfInBounds_toArray, List.set_cons_zero, List.set_cons_succ]; done) | (simp only [putAll, Act.put, List.setIfInBounds_toArray, List.set_cons_zero, List.set_cons_succ]; rfl)) (hJ2_6 (b6, b7, b8) _ ⟨HG1, K6⟩)
      · skip
        refine value_ (w1 := v.alloc (.cells #[Value.float FloatKind.f64 0, Value.float FloatKind.f64 0, Value.float FloatKind.f64 0] 38)) (v := .pointer (some ⟨v.heap.size, 0, none⟩)) (by rfl) rfl ?_ ?_
        · go_simp
        have HG1 : Aside0 (Grown W (v.alloc (.cells #[Value.float FloatKind.f64 0, Value.float FloatKind.f64 0, Value.float FloatKind.f64 0] 38))) := ⟨Grown.alloc HG.out _ _⟩
        have K6 := Aside0.mk (H6.out.grown (Grown.alloc (Grown.refl v) #[Value.float FloatKind.f64 0, Value.float FloatKind.f64 0, Value.float FloatKind.f64 0] 38))
        have K7 := Aside0.mk (Fresh.new HG.out)
        refine hK.out _ _ HG1 (fun _ => ?_)
        clear hK K
        exact norm_ (by first | (simp only [putAll, Act.put, List.setIfInBounds_toArray, List.set_cons_zero, List.set_cons_succ]; done) | (simp only [putAll, Act.put, List.setIfInBounds_toArray, List.set_cons_zero, List.set_cons_succ]; rfl)) (hJ1_67 (b6, v.heap.size, b8) _ ⟨HG1, K6, K7, ⟨Nat.ne_of_lt H6.out.lt⟩⟩)
      · skip
        refine value_ (w1 := v.alloc (.cells #[Value.float FloatKind.f64 0, Value.float FloatKind.f64 0, Value.float FloatKind.f64 0] 38)) (v := .pointer (some ⟨v.heap.size, 0, none⟩)) (by rfl) rfl ?_ ?_
        · go_simp
        have HG1 : Aside0 (Grown W (v.alloc (.cells #[Value.float FloatKind.f64 0, Value.float FloatKind.f64 0, Value.float FloatKind.f64 0] 38))) := ⟨Grown.alloc HG.out _ _⟩
        have K6 := Aside0.mk (H6.out.grown (Grown.alloc (Grown.refl v) #[Value.float FloatKind.f64 0, Value.float FloatKind.f64 0, Value.float FloatKind.f64 0] 38))
        have K8 := Aside0.mk (Fresh.new HG.out)
        refine hK.out _ _ HG1 (fun _ => ?_)
        clear hK K
        exact norm_ (by first | (simp only [putAll, Act.put, List.setIfInBounds_toArray, List.set_cons_zero, List.set_cons_succ]; done) | (simp only [putAll, Act.put, List.setIfInBounds_toArray, List.set_cons_zero, List.set_cons_succ]; rfl)) (hJ1_68 (b6, b7, v.heap.size) _ ⟨HG1, K6, K8, ⟨Nat.ne_of_lt H6.out.lt⟩⟩)
    intro hJ1_6
    refine join_ (σ := Nat × Nat × Nat) 7 #[true, true, true, false, true, false, false, true, false, false, false, false] (fun s => [(40, col p q r), (9, .pointer (some ⟨s.2.1, 0, none⟩))]) (fun s w' => Aside0 (Grown W w') ∧ Aside0 (Fresh W w' s.2.1)) ?_ ?_
    · skip
      rintro ⟨b6, b7, b8⟩ v ⟨HG, H7⟩
      have hHeld := HG
      refine norm_ (a' := ?_) ?_ ?_
      rotate_left
      · simp only [putAll, Act.put, List.setIfInBounds_toArray, List.set_cons_zero, List.set_cons_succ]
        rfl
      refine three_ (i := 3) (j := 6) (k := 8) (Ni := some 42) (Nj := some 8) (Nk := some 10) #[true, true, true, true, true, false, false, true, false, false, false, false] #[true, true, true, false, true, false, true, true, false, false, false, false] #[true, true, true, false, true, false, false, true, true, false, false, false] rfl rfl rfl rfl rfl rfl (by kernel_rfl) (by decide) (by decide) (by decide) (fun K hK => ?_) (fun K hK => ?_) (fun K hK => ?_)
      · skip
        refine goes_ Try.func29 (by kernel_rfl) rfl #[col x' y' z'] (by rfl) rfl rfl (by simp only [List.map_toArray, List.map_cons, List.map_nil]; rfl) ?_
        with_reducible refine (FB.out _).mono ?_
        rintro e v1 ⟨rfl, hg⟩
        refine ⟨_, rfl, ?_⟩
        have HG1 : Aside0 (Grown W v1) := ⟨Grown.trans HG.out hg⟩
        have K7 : Aside0 (Fresh W v1 b7) := ⟨H7.out.grown hg⟩
        refine hK.out _ _ HG1 (fun _ => ?_)
        clear hK K
        exact norm_ (by first | (simp only [putAll, Act.put, List.setIfInBounds_toArray, List.set_cons_zero, List.set_cons_succ]; done) | (simp only [putAll, Act.put, List.setIfInBounds_toArray, List.set_cons_zero, List.set_cons_succ]; rfl)) (hJ2_7 (b6, b7, b8) _ ⟨HG1, K7⟩)
      · skip
        refine value_ (w1 := v.alloc (.cells #[Value.float FloatKind.f64 0, Value.float FloatKind.f64 0, Value.float FloatKind.f64 0] 38)) (v := .pointer (some ⟨v.heap.size, 0, none⟩)) (by rfl) rfl ?_ ?_
        · go_simp
        have HG1 : Aside0 (Grown W (v.alloc (.cells #[Value.float FloatKind.f64 0, Value.float FloatKind.f64 0, Value.float FloatKind.f64 0] 38))) := ⟨Grown.alloc HG.out _ _⟩
        have K7 := Aside0.mk (H7.out.grown (Grown.alloc (Grown.refl v) #[Value.float FloatKind.f64 0, Value.float FloatKind.f64 0, Value.float FloatKind.f64 0] 38))
        have K6 := Aside0.mk (Fresh.new HG.out)
        refine hK.out _ _ HG1 (fun _ => ?_)
        clear hK K
        exact norm_ (by first | (simp only [putAll, Act.put, List.setIfInBounds_toArray, List.set_cons_zero, List.set_cons_succ]; done) | (simp only [putAll, Act.put, List.setIfInBounds_toArray, List.set_cons_zero, List.set_cons_succ]; rfl)) (hJ1_67 (v.heap.size, b7, b8) _ ⟨HG1, K6, K7, ⟨Nat.ne_of_gt H7.out.lt⟩⟩)
      · skip
        refine value_ (w1 := v.alloc (.cells #[Value.float FloatKind.f64 0, Value.float FloatKind.f64 0, Value.float FloatKind.f64 0] 38)) (v := .pointer (some ⟨v.heap.size, 0, none⟩)) (by rfl) rfl ?_ ?_
        · go_simp
        have HG1 : Aside0 (Grown W (v.alloc (.cells #[Value.float FloatKind.f64 0, Value.float FloatKind.f64 0, Value.float FloatKind.f64 0] 38))) := ⟨Grown.alloc HG.out _ _⟩
        have K7 := Aside0.mk (H7.out.grown (Grown.alloc (Grown.refl v) #[Value.float FloatKind.f64 0, Value.float FloatKind.f64 0, Value.float FloatKind.f64 0] 38))
        have K8 := Aside0.mk (Fresh.new HG.out)
        refine hK.out _ _ HG1 (fun _ => ?_)
        clear hK K
        exact norm_ (by first | (simp only [putAll, Act.put, List.setIfInBounds_toArray, List.set_cons_zero, List.set_cons_succ]; done) | (simp only [putAll, Act.put, List.setIfInBounds_toArray, List.set_cons_zero, List.set_cons_succ]; rfl)) (hJ1_78 (b6, b7, v.heap.size) _ ⟨HG1, K7, K8, ⟨Nat.ne_of_lt H7.out.lt⟩⟩)
    intro hJ1_7
    refine join_ (σ := Nat × Nat × Nat) 7 #[true, true, true, false, true, false, false, false, true, false, false, false] (fun s => [(40, col p q r), (10, .pointer (some ⟨s.2.2, 0, none⟩))]) (fun s w' => Aside0 (Grown W w') ∧ Aside0 (Fresh W w' s.2.2)) ?_ ?_
    · skip
      rintro ⟨b6, b7, b8⟩ v ⟨HG, H8⟩
      have hHeld := HG
      refine norm_ (a' := ?_) ?_ ?_
      rotate_left
      · simp only [putAll, Act.put, List.setIfInBounds_toArray, List.set_cons_zero, List.set_cons_succ]
        rfl
      refine three_ (i := 3) (j := 6) (k := 7) (Ni := some 42) (Nj := some 8) (Nk := some 9) #[true, true, true, true, true, false, false, false, true, false, false, false] #[true, true, true, false, true, false, true, false, true, false, false, false] #[true, true, true, false, true, false, false, true, true, false, false, false] rfl rfl rfl rfl rfl rfl (by kernel_rfl) (by decide) (by decide) (by decide) (fun K hK => ?_) (fun K hK => ?_) (fun K hK => ?_)
      · skip
        refine goes_ Try.func29 (by kernel_rfl) rfl #[col x' y' z'] (by rfl) rfl rfl (by simp only [List.map_toArray, List.map_cons, List.map_nil]; rfl) ?_
        with_reducible refine (FB.out _).mono ?_
        rintro e v1 ⟨rfl, hg⟩
        refine ⟨_, rfl, ?_⟩
        have HG1 : Aside0 (Grown W v1) := ⟨Grown.trans HG.out hg⟩
        have K8 : Aside0 (Fresh W v1 b8) := ⟨H8.out.grown hg⟩
        refine hK.out _ _ HG1 (fun _ => ?_)
        clear hK K
        exact norm_ (by first | (simp only [putAll, Act.put, List.setIfInBounds_toArray, List.set_cons_zero, List.set_cons_succ]; done) | (simp only [putAll, Act.put, List.setIfInBounds_toArray, List.set_cons_zero, List.set_cons_succ]; rfl)) (hJ2_8 (b6, b7, b8) _ ⟨HG1, K8⟩)
      · skip
        refine value_ (w1 := v.alloc (.cells #[Value.float FloatKind.f64 0, Value.float FloatKind.f64 0, Value.float FloatKind.f64 0] 38)) (v := .pointer (some ⟨v.heap.size, 0, none⟩)) (by rfl) rfl ?_ ?_
        · go_simp
        have HG1 : Aside0 (Grown W (v.alloc (.cells #[Value.float FloatKind.f64 0, Value.float FloatKind.f64 0, Value.float FloatKind.f64 0] 38))) := ⟨Grown.alloc HG.out _ _⟩
        have K8 := Aside0.mk (H8.out.grown (Grown.alloc (Grown.refl v) #[Value.float FloatKind.f64 0, Value.float FloatKind.f64 0, Value.float FloatKind.f64 0] 38))
        have K6 := Aside0.mk (Fresh.new HG.out)
        refine hK.out _ _ HG1 (fun _ => ?_)
        clear hK K
        exact norm_ (by first | (simp only [putAll, Act.put, List.setIfInBounds_toArray, List.set_cons_zero, List.set_cons_succ]; done) | (simp only [putAll, Act.put, List.setIfInBounds_toArray, List.set_cons_zero, List.set_cons_succ]; rfl)) (hJ1_68 (v.heap.size, b7, b8) _ ⟨HG1, K6, K8, ⟨Nat.ne_of_gt H8.out.lt⟩⟩)
      · skip
        refine value_ (w1 := v.alloc (.cells #[Value.float FloatKind.f64 0, Value.float FloatKind.f64 0, Value.float FloatKind.f64 0] 38)) (v := .pointer (some ⟨v.heap.size, 0, none⟩)) (by rfl) rfl ?_ ?_
        · go_simp
        have HG1 : Aside0 (Grown W (v.alloc (.cells #[Value.float FloatKind.f64 0, Value.float FloatKind.f64 0, Value.float FloatKind.f64 0] 38))) := ⟨Grown.alloc HG.out _ _⟩
        have K8 := Aside0.mk (H8.out.grown (Grown.alloc (Grown.refl v) #[Value.float FloatKind.f64 0, Value.float FloatKind.f64 0, Value.float FloatKind.f64 0] 38))
        have K7 := Aside0.mk (Fresh.new HG.out)
        refine hK.out _ _ HG1 (fun _ => ?_)
        clear hK K
        exact norm_ (by first | (simp only [putAll, Act.put, List.setIfInBounds_toArray, List.set_cons_zero, List.set_cons_succ]; done) | (simp only [putAll, Act.put, List.setIfInBounds_toArray, List.set_cons_zero, List.set_cons_succ]; rfl)) (hJ1_78 (b6, v.heap.size, b8) _ ⟨HG1, K7, K8, ⟨Nat.ne_of_gt H8.out.lt⟩⟩)
    intro hJ1_8
    refine join_ (σ := Nat × Nat × Nat) 7 #[true, false, true, false, true, false, true, true, false, false, false, false] (fun s => [(8, .pointer (some ⟨s.1, 0, none⟩)), (9, .pointer (some ⟨s.2.1, 0, none⟩))]) (fun s w' => Aside0 (Grown W w') ∧ Aside0 (Fresh W w' s.1) ∧ Aside0 (Fresh W w' s.2.1) ∧ Aside0 (s.1 ≠ s.2.1)) ?_ ?_
    · skip
      rintro ⟨b6, b7, b8⟩ v ⟨HG, H6, H7, N67⟩
      have hHeld := HG
      refine norm_ (a' := ?_) ?_ ?_
      rotate_left
      · simp only [putAll, Act.put, List.setIfInBounds_toArray, List.set_cons_zero, List.set_cons_succ]
        rfl
      refine two_ (i := 1) (j := 8) (Ni := some 40) (Nj := some 10) #[true, true, true, false, true, false, true, true, false, false, false, false] #[true, false, true, false, true, false, true, true, true, false, false, false] rfl rfl rfl rfl (by kernel_rfl) (by decide) (by decide) (fun K hK => ?_) (fun K hK => ?_)
      · skip
        refine goes_ Try.func29 (by kernel_rfl) rfl #[col x y z] (by rfl) rfl rfl (by simp only [List.map_toArray, List.map_cons, List.map_nil]; rfl) ?_
        with_reducible refine (FA.out _).mono ?_
        rintro e v1 ⟨rfl, hg⟩
        refine ⟨_, rfl, ?_⟩
        have HG1 : Aside0 (Grown W v1) := ⟨Grown.trans HG.out hg⟩
        have K6 : Aside0 (Fresh W v1 b6) := ⟨H6.out.grown hg⟩
        have K7 : Aside0 (Fresh W v1 b7) := ⟨H7.out.grown hg⟩
        refine hK.out _ _ HG1 (fun _ => ?_)
        clear hK K
        exact norm_ (by first | (simp only [putAll, Act.put, List.setIfInBounds_toArray, List.set_cons_zero, List.set_cons_succ]; done) | (simp only [putAll, Act.put, List.setIfInBounds_toArray, List.set_cons_zero, List.set_cons_succ]; rfl)) (hJ1_67 (b6, b7, b8) _ ⟨HG1, K6, K7, N67⟩)
      · skip
        refine value_ (w1 := v.alloc (.cells #[Value.float FloatKind.f64 0, Value.float FloatKind.f64 0, Value.float FloatKind.f64 0] 38)) (v := .pointer (some ⟨v.heap.size, 0, none⟩)) (by rfl) rfl ?_ ?_
        · go_simp
        have HG1 : Aside0 (Grown W (v.alloc (.cells #[Value.float FloatKind.f64 0, Value.float FloatKind.f64 0, Value.float FloatKind.f64 0] 38))) := ⟨Grown.alloc HG.out _ _⟩
        have K6 := Aside0.mk (H6.out.grown (Grown.alloc (Grown.refl v) #[Value.float FloatKind.f64 0, Value.float FloatKind.f64 0, Value.float FloatKind.f64 0] 38))
        have K7 := Aside0.mk (H7.out.grown (Grown.alloc (Grown.refl v) #[Value.float FloatKind.f64 0, Value.float FloatKind.f64 0, Value.float FloatKind.f64 0] 38))
        have K8 := Aside0.mk (Fresh.new HG.out)
        refine hK.out _ _ HG1 (fun _ => ?_)
        clear hK K
        exact norm_ (by first | (simp only [putAll, Act.put, List.setIfInBounds_toArray, List.set_cons_zero, List.set_cons_succ]; done) | (simp only [putAll, Act.put, List.setIfInBounds_toArray, List.set_cons_zero, List.set_cons_succ]; rfl)) (hJ0_678 (b6, b7, v.heap.size) _ ⟨HG1, K6, K7, K8, N67, ⟨Nat.ne_of_lt H6.out.lt⟩, ⟨Nat.ne_of_lt H7.out.lt⟩⟩)
    intro hJ0_67
    refine join_ (σ := Nat × Nat × Nat) 7 #[true, false, true, false, true, false, true, false, true, false, false, false] (fun s => [(8, .pointer (some ⟨s.1, 0, none⟩)), (10, .pointer (some ⟨s.2.2, 0, none⟩))]) (fun s w' => Aside0 (Grown W w') ∧ Aside0 (Fresh W w' s.1) ∧ Aside0 (Fresh W w' s.2.2) ∧ Aside0 (s.1 ≠ s.2.2)) ?_ ?_
    · skip
      rintro ⟨b6, b7, b8⟩ v ⟨HG, H6, H8, N68⟩
      have hHeld := HG
      refine norm_ (a' := ?_) ?_ ?_
      rotate_left
      · simp only [putAll, Act.put, List.setIfInBounds_toArray, List.set_cons_zero, List.set_cons_succ]
        rfl
      refine two_ (i := 1) (j := 7) (Ni := some 40) (Nj := some 9) #[true, true, true, false, true, false, true, false, true, false, false, false] #[true, false, true, false, true, false, true, true, true, false, false, false] rfl rfl rfl rfl (by kernel_rfl) (by decide) (by decide) (fun K hK => ?_) (fun K hK => ?_)
      · skip
        refine goes_ Try.func29 (by kernel_rfl) rfl #[col x y z] (by rfl) rfl rfl (by simp only [List.map_toArray, List.map_cons, List.map_nil]; rfl) ?_
        with_reducible refine (FA.out _).mono ?_
        rintro e v1 ⟨rfl, hg⟩
        refine ⟨_, rfl, ?_⟩
        have HG1 : Aside0 (Grown W v1) := ⟨Grown.trans HG.out hg⟩
        have K6 : Aside0 (Fresh W v1 b6) := ⟨H6.out.grown hg⟩
        have K8 : Aside0 (Fresh W v1 b8) := ⟨H8.out.grown hg⟩
        refine hK.out _ _ HG1 (fun _ => ?_)
        clear hK K
        exact norm_ (by first | (simp only [putAll, Act.put, List.setIfInBounds_toArray, List.set_cons_zero, List.set_cons_succ]; done) | (simp only [putAll, Act.put, List.setIfInBounds_toArray, List.set_cons_zero, List.set_cons_succ]; rfl)) (hJ1_68 (b6, b7, b8) _ ⟨HG1, K6, K8, N68⟩)
      · skip
        refine value_ (w1 := v.alloc (.cells #[Value.float FloatKind.f64 0, Value.float FloatKind.f64 0, Value.float FloatKind.f64 0] 38)) (v := .pointer (some ⟨v.heap.size, 0, none⟩)) (by rfl) rfl ?_ ?_
        · go_simp
        have HG1 : Aside0 (Grown W (v.alloc (.cells #[Value.float FloatKind.f64 0, Value.float FloatKind.f64 0, Value.float FloatKind.f64 0] 38))) := ⟨Grown.alloc HG.out _ _⟩
        have K6 := Aside0.mk (H6.out.grown (Grown.alloc (Grown.refl v) #[Value.float FloatKind.f64 0, Value.float FloatKind.f64 0, Value.float FloatKind.f64 0] 38))
        have K8 := Aside0.mk (H8.out.grown (Grown.alloc (Grown.refl v) #[Value.float FloatKind.f64 0, Value.float FloatKind.f64 0, Value.float FloatKind.f64 0] 38))
        have K7 := Aside0.mk (Fresh.new HG.out)
        refine hK.out _ _ HG1 (fun _ => ?_)
        clear hK K
        exact norm_ (by first | (simp only [putAll, Act.put, List.setIfInBounds_toArray, List.set_cons_zero, List.set_cons_succ]; done) | (simp only [putAll, Act.put, List.setIfInBounds_toArray, List.set_cons_zero, List.set_cons_succ]; rfl)) (hJ0_678 (b6, v.heap.size, b8) _ ⟨HG1, K6, K7, K8, ⟨Nat.ne_of_lt H6.out.lt⟩, N68, ⟨Nat.ne_of_gt H8.out.lt⟩⟩)
    intro hJ0_68
    refine join_ (σ := Nat × Nat × Nat) 7 #[true, false, true, false, true, false, false, true, true, false, false, false] (fun s => [(9, .pointer (some ⟨s.2.1, 0, none⟩)), (10, .pointer (some ⟨s.2.2, 0, none⟩))]) (fun s w' => Aside0 (Grown W w') ∧ Aside0 (Fresh W w' s.2.1) ∧ Aside0 (Fresh W w' s.2.2) ∧ Aside0 (s.2.1 ≠ s.2.2)) ?_ ?_
    · skip
      rintro ⟨b6, b7, b8⟩ v ⟨HG, H7, H8, N78⟩
      have hHeld := HG
      refine norm_ (a' := ?_) ?_ ?_
      rotate_left
      · simp only [putAll, Act.put, List.setIfInBounds_toArray, List.set_cons_zero, List.set_cons_succ]
        rfl
      refine two_ (i := 1) (j := 6) (Ni := some 40) (Nj := some 8) #[true, true, true, false, true, false, false, true, true, false, false, false] #[true, false, true, false, true, false, true, true, true, false, false, false] rfl rfl rfl rfl (by kernel_rfl) (by decide) (by decide) (fun K hK => ?_) (fun K hK => ?_)
      · skip
        refine goes_ Try.func29 (by kernel_rfl) rfl #[col x y z] (by rfl) rfl rfl (by simp only [List.map_toArray, List.map_cons, List.map_nil]; rfl) ?_
        with_reducible refine (FA.out _).mono ?_
        rintro e v1 ⟨rfl, hg⟩
        refine ⟨_, rfl, ?_⟩
        have HG1 : Aside0 (Grown W v1) := ⟨Grown.trans HG.out hg⟩
        have K7 : Aside0 (Fresh W v1 b7) := ⟨H7.out.grown hg⟩
        have K8 : Aside0 (Fresh W v1 b8) := ⟨H8.out.grown hg⟩
        refine hK.out _ _ HG1 (fun _ => ?_)
        clear hK K
        exact norm_ (by first | (simp only [putAll, Act.put, List.setIfInBounds_toArray, List.set_cons_zero, List.set_cons_succ]; done) | (simp only [putAll, Act.put, List.setIfInBounds_toArray, List.set_cons_zero, List.set_cons_succ]; rfl)) (hJ1_78 (b6, b7, b8) _ ⟨HG1, K7, K8, N78⟩)
      · skip
        refine value_ (w1 := v.alloc (.cells #[Value.float FloatKind.f64 0, Value.float FloatKind.f64 0, Value.float FloatKind.f64 0] 38)) (v := .pointer (some ⟨v.heap.size, 0, none⟩)) (by rfl) rfl ?_ ?_
        · go_simp
        have HG1 : Aside0 (Grown W (v.alloc (.cells #[Value.float FloatKind.f64 0, Value.float FloatKind.f64 0, Value.float FloatKind.f64 0] 38))) := ⟨Grown.alloc HG.out _ _⟩
        have K7 := Aside0.mk (H7.out.grown (Grown.alloc (Grown.refl v) #[Value.float FloatKind.f64 0, Value.float FloatKind.f64 0, Value.float FloatKind.f64 0] 38))
        have K8 := Aside0.mk (H8.out.grown (Grown.alloc (Grown.refl v) #[Value.float FloatKind.f64 0, Value.float FloatKind.f64 0, Value.float FloatKind.f64 0] 38))
        have K6 := Aside0.mk (Fresh.new HG.out)
        refine hK.out _ _ HG1 (fun _ => ?_)
        clear hK K
        exact norm_ (by first | (simp only [putAll, Act.put, List.setIfInBounds_toArray, List.set_cons_zero, List.set_cons_succ]; done) | (simp only [putAll, Act.put, List.setIfInBounds_toArray, List.set_cons_zero, List.set_cons_succ]; rfl)) (hJ0_678 (v.heap.size, b7, b8) _ ⟨HG1, K6, K7, K8, ⟨Nat.ne_of_gt H7.out.lt⟩, ⟨Nat.ne_of_gt H8.out.lt⟩, N78⟩)
    intro hJ0_78
    refine join_ (σ := Nat × Nat × Nat) 8 #[true, true, true, false, true, false, false, false, false, false, false, false] (fun s => [(40, col p q r)]) (fun s w' => Aside0 (Grown W w')) ?_ ?_
    · skip
      rintro ⟨b6, b7, b8⟩ v HG
      have hHeld := HG
      refine norm_ (a' := ?_) ?_ ?_
      rotate_left
      · simp only [putAll, Act.put, List.setIfInBounds_toArray, List.set_cons_zero, List.set_cons_succ]
        rfl
      refine four_ (i := 3) (j := 6) (k := 7) (m := 8) (Ni := some 42) (Nj := some 8) (Nk := some 9) (Nm := some 10) #[true, true, true, true, true, false, false, false, false, false, false, false] #[true, true, true, false, true, false, true, false, false, false, false, false] #[true, true, true, false, true, false, false, true, false, false, false, false] #[true, true, true, false, true, false, false, false, true, false, false, false] rfl rfl rfl rfl rfl rfl rfl rfl (by kernel_rfl) (by decide) (by decide) (by decide) (by decide) (fun K hK => ?_) (fun K hK => ?_) (fun K hK => ?_) (fun K hK => ?_)
      · skip
        refine goes_ Try.func29 (by kernel_rfl) rfl #[col x' y' z'] (by rfl) rfl rfl (by simp only [List.map_toArray, List.map_cons, List.map_nil]; rfl) ?_
        with_reducible refine (FB.out _).mono ?_
        rintro e v1 ⟨rfl, hg⟩
        refine ⟨_, rfl, ?_⟩
        have HG1 : Aside0 (Grown W v1) := ⟨Grown.trans HG.out hg⟩
        refine hK.out _ _ HG1 (fun _ => ?_)
        clear hK K
        exact norm_ (by first | (simp only [putAll, Act.put, List.setIfInBounds_toArray, List.set_cons_zero, List.set_cons_succ]; done) | (simp only [putAll, Act.put, List.setIfInBounds_toArray, List.set_cons_zero, List.set_cons_succ]; rfl)) (hJ2_ (b6, b7, b8) _ HG1)
      · skip
        refine value_ (w1 := v.alloc (.cells #[Value.float FloatKind.f64 0, Value.float FloatKind.f64 0, Value.float FloatKind.f64 0] 38)) (v := .pointer (some ⟨v.heap.size, 0, none⟩)) (by rfl) rfl ?_ ?_
        · go_simp
        have HG1 : Aside0 (Grown W (v.alloc (.cells #[Value.float FloatKind.f64 0, Value.float FloatKind.f64 0, Value.float FloatKind.f64 0] 38))) := ⟨Grown.alloc HG.out _ _⟩
        have K6 := Aside0.mk (Fresh.new HG.out)
        refine hK.out _ _ HG1 (fun _ => ?_)
        clear hK K
        exact norm_ (by first | (simp only [putAll, Act.put, List.setIfInBounds_toArray, List.set_cons_zero, List.set_cons_succ]; done) | (simp only [putAll, Act.put, List.setIfInBounds_toArray, List.set_cons_zero, List.set_cons_succ]; rfl)) (hJ1_6 (v.heap.size, b7, b8) _ ⟨HG1, K6⟩)
      · skip
        refine value_ (w1 := v.alloc (.cells #[Value.float FloatKind.f64 0, Value.float FloatKind.f64 0, Value.float FloatKind.f64 0] 38)) (v := .pointer (some ⟨v.heap.size, 0, none⟩)) (by rfl) rfl ?_ ?_
        · go_simp
        have HG1 : Aside0 (Grown W (v.alloc (.cells #[Value.float FloatKind.f64 0, Value.float FloatKind.f64 0, Value.float FloatKind.f64 0] 38))) := ⟨Grown.alloc HG.out _ _⟩
        have K7 := Aside0.mk (Fresh.new HG.out)
        refine hK.out _ _ HG1 (fun _ => ?_)
        clear hK K
        exact norm_ (by first | (simp only [putAll, Act.put, List.setIfInBounds_toArray, List.set_cons_zero, List.set_cons_succ]; done) | (simp only [putAll, Act.put, List.setIfInBounds_toArray, List.set_cons_zero, List.set_cons_succ]; rfl)) (hJ1_7 (b6, v.heap.size, b8) _ ⟨HG1, K7⟩)
      · skip
        refine value_ (w1 := v.alloc (.cells #[Value.float FloatKind.f64 0, Value.float FloatKind.f64 0, Value.float FloatKind.f64 0] 38)) (v := .pointer (some ⟨v.heap.size, 0, none⟩)) (by rfl) rfl ?_ ?_
        · go_simp
        have HG1 : Aside0 (Grown W (v.alloc (.cells #[Value.float FloatKind.f64 0, Value.float FloatKind.f64 0, Value.float FloatKind.f64 0] 38))) := ⟨Grown.alloc HG.out _ _⟩
        have K8 := Aside0.mk (Fresh.new HG.out)
        refine hK.out _ _ HG1 (fun _ => ?_)
        clear hK K
        exact norm_ (by first | (simp only [putAll, Act.put, List.setIfInBounds_toArray, List.set_cons_zero, List.set_cons_succ]; done) | (simp only [putAll, Act.put, List.setIfInBounds_toArray, List.set_cons_zero, List.set_cons_succ]; rfl)) (hJ1_8 (b6, b7, v.heap.size) _ ⟨HG1, K8⟩)
    intro hJ1_
    refine join_ (σ := Nat × Nat × Nat) 8 #[true, false, true, false, true, false, true, false, false, false, false, false] (fun s => [(8, .pointer (some ⟨s.1, 0, none⟩))]) (fun s w' => Aside0 (Grown W w') ∧ Aside0 (Fresh W w' s.1)) ?_ ?_
    · skip
      rintro ⟨b6, b7, b8⟩ v ⟨HG, H6⟩
      have hHeld := HG
      refine norm_ (a' := ?_) ?_ ?_
      rotate_left
      · simp only [putAll, Act.put, List.setIfInBounds_toArray, List.set_cons_zero, List.set_cons_succ]
        rfl
      refine three_ (i := 1) (j := 7) (k := 8) (Ni := some 40) (Nj := some 9) (Nk := some 10) #[true, true, true, false, true, false, true, false, false, false, false, false] #[true, false, true, false, true, false, true, true, false, false, false, false] #[true, false, true, false, true, false, true, false, true, false, false, false] rfl rfl rfl rfl rfl rfl (by kernel_rfl) (by decide) (by decide) (by decide) (fun K hK => ?_) (fun K hK => ?_) (fun K hK => ?_)
      · skip
        refine goes_ Try.func29 (by kernel_rfl) rfl #[col x y z] (by rfl) rfl rfl (by simp only [List.map_toArray, List.map_cons, List.map_nil]; rfl) ?_
        with_reducible refine (FA.out _).mono ?_
        rintro e v1 ⟨rfl, hg⟩
        refine ⟨_, rfl, ?_⟩
        have HG1 : Aside0 (Grown W v1) := ⟨Grown.trans HG.out hg⟩
        have K6 : Aside0 (Fresh W v1 b6) := ⟨H6.out.grown hg⟩
        refine hK.out _ _ HG1 (fun _ => ?_)
        clear hK K
        exact norm_ (by first | (simp only [putAll, Act.put, List.setIfInBounds_toArray, List.set_cons_zero, List.set_cons_succ]; done) | (simp only [putAll, Act.put, List.setIfInBounds_toArray, List.set_cons_zero, List.set_cons_succ]; rfl)) (hJ1_6 (b6, b7, b8) _ ⟨HG1, K6⟩)
      · skip
        refine value_ (w1 := v.alloc (.cells #[Value.float FloatKind.f64 0, Value.float FloatKind.f64 0, Value.float FloatKind.f64 0] 38)) (v := .pointer (some ⟨v.heap.size, 0, none⟩)) (by rfl) rfl ?_ ?_
        · go_simp
        have HG1 : Aside0 (Grown W (v.alloc (.cells #[Value.float FloatKind.f64 0, Value.float FloatKind.f64 0, Value.float FloatKind.f64 0] 38))) := ⟨Grown.alloc HG.out _ _⟩
        have K6 := Aside0.mk (H6.out.grown (Grown.alloc (Grown.refl v) #[Value.float FloatKind.f64 0, Value.float FloatKind.f64 0, Value.float FloatKind.f64 0] 38))
        have K7 := Aside0.mk (Fresh.new HG.out)
        refine hK.out _ _ HG1 (fun _ => ?_)
        clear hK K
        exact norm_ (by first | (simp only [putAll, Act.put, List.setIfInBounds_toArray, List.set_cons_zero, List.set_cons_succ]; done) | (simp only [putAll, Act.put, List.setIfInBounds_toArray, List.set_cons_zero, List.set_cons_succ]; rfl)) (hJ0_67 (b6, v.heap.size, b8) _ ⟨HG1, K6, K7, ⟨Nat.ne_of_lt H6.out.lt⟩⟩)
      · skip
        refine value_ (w1 := v.alloc (.cells #[Value.float FloatKind.f64 0, Value.float FloatKind.f64 0, Value.float FloatKind.f64 0] 38)) (v := .pointer (some ⟨v.heap.size, 0, none⟩)) (by rfl) rfl ?_ ?_
        · go_simp
        have HG1 : Aside0 (Grown W (v.alloc (.cells #[Value.float FloatKind.f64 0, Value.float FloatKind.f64 0, Value.float FloatKind.f64 0] 38))) := ⟨Grown.alloc HG.out _ _⟩
        have K6 := Aside0.mk (H6.out.grown (Grown.alloc (Grown.refl v) #[Value.float FloatKind.f64 0, Value.float FloatKind.f64 0, Value.float FloatKind.f64 0] 38))
        have K8 := Aside0.mk (Fresh.new HG.out)
        refine hK.out _ _ HG1 (fun _ => ?_)
        clear hK K
        exact norm_ (by first | (simp only [putAll, Act.put, List.setIfInBounds_toArray, List.set_cons_zero, List.set_cons_succ]; done) | (simp only [putAll, Act.put, List.setIfInBounds_toArray, List.set_cons_zero, List.set_cons_succ]; rfl)) (hJ0_68 (b6, b7, v.heap.size) _ ⟨HG1, K6, K8, ⟨Nat.ne_of_lt H6.out.lt⟩⟩)
    intro hJ0_6
    refine join_ (σ := Nat × Nat × Nat) 8 #[true, false, true, false, true, false, false, true, false, false, false, false] (fun s => [(9, .pointer (some ⟨s.2.1, 0, none⟩))]) (fun s w' => Aside0 (Grown W w') ∧ Aside0 (Fresh W w' s.2.1)) ?_ ?_
    · skip
      rintro ⟨b6, b7, b8⟩ v ⟨HG, H7⟩
      have hHeld := HG
      refine norm_ (a' := ?_) ?_ ?_
      rotate_left
      · simp only [putAll, Act.put, List.setIfInBounds_toArray, List.set_cons_zero, List.set_cons_succ]
        rfl
      refine three_ (i := 1) (j := 6) (k := 8) (Ni := some 40) (Nj := some 8) (Nk := some 10) #[true, true, true, false, true, false, false, true, false, false, false, false] #[true, false, true, false, true, false, true, true, false, false, false, false] #[true, false, true, false, true, false, false, true, true, false, false, false] rfl rfl rfl rfl rfl rfl (by kernel_rfl) (by decide) (by decide) (by decide) (fun K hK => ?_) (fun K hK => ?_) (fun K hK => ?_)
      · skip
        refine goes_ Try.func29 (by kernel_rfl) rfl #[col x y z] (by rfl) rfl rfl (by simp only [List.map_toArray, List.map_cons, List.map_nil]; rfl) ?_
        with_reducible refine (FA.out _).mono ?_
        rintro e v1 ⟨rfl, hg⟩
        refine ⟨_, rfl, ?_⟩
        have HG1 : Aside0 (Grown W v1) := ⟨Grown.trans HG.out hg⟩
        have K7 : Aside0 (Fresh W v1 b7) := ⟨H7.out.grown hg⟩
        refine hK.out _ _ HG1 (fun _ => ?_)
        clear hK K
        exact norm_ (by first | (simp only [putAll, Act.put, List.setIfInBounds_toArray, List.set_cons_zero, List.set_cons_succ]; done) | (simp only [putAll, Act.put, List.setIfInBounds_toArray, List.set_cons_zero, List.set_cons_succ]; rfl)) (hJ1_7 (b6, b7, b8) _ ⟨HG1, K7⟩)
      · skip
        refine value_ (w1 := v.alloc (.cells #[Value.float FloatKind.f64 0, Value.float FloatKind.f64 0, Value.float FloatKind.f64 0] 38)) (v := .pointer (some ⟨v.heap.size, 0, none⟩)) (by rfl) rfl ?_ ?_
        · go_simp
        have HG1 : Aside0 (Grown W (v.alloc (.cells #[Value.float FloatKind.f64 0, Value.float FloatKind.f64 0, Value.float FloatKind.f64 0] 38))) := ⟨Grown.alloc HG.out _ _⟩
        have K7 := Aside0.mk (H7.out.grown (Grown.alloc (Grown.refl v) #[Value.float FloatKind.f64 0, Value.float FloatKind.f64 0, Value.float FloatKind.f64 0] 38))
        have K6 := Aside0.mk (Fresh.new HG.out)
        refine hK.out _ _ HG1 (fun _ => ?_)
        clear hK K
        exact norm_ (by first | (simp only [putAll, Act.put, List.setIfInBounds_toArray, List.set_cons_zero, List.set_cons_succ]; done) | (simp only [putAll, Act.put, List.setIfInBounds_toArray, List.set_cons_zero, List.set_cons_succ]; rfl)) (hJ0_67 (v.heap.size, b7, b8) _ ⟨HG1, K6, K7, ⟨Nat.ne_of_gt H7.out.lt⟩⟩)
      · skip
        refine value_ (w1 := v.alloc (.cells #[Value.float FloatKind.f64 0, Value.float FloatKind.f64 0, Value.float FloatKind.f64 0] 38)) (v := .pointer (some ⟨v.heap.size, 0, none⟩)) (by rfl) rfl ?_ ?_
        · go_simp
        have HG1 : Aside0 (Grown W (v.alloc (.cells #[Value.float FloatKind.f64 0, Value.float FloatKind.f64 0, Value.float FloatKind.f64 0] 38))) := ⟨Grown.alloc HG.out _ _⟩
        have K7 := Aside0.mk (H7.out.grown (Grown.alloc (Grown.refl v) #[Value.float FloatKind.f64 0, Value.float FloatKind.f64 0, Value.float FloatKind.f64 0] 38))
        have K8 := Aside0.mk (Fresh.new HG.out)
        refine hK.out _ _ HG1 (fun _ => ?_)
        clear hK K
        exact norm_ (by first | (simp only [putAll, Act.put, List.setIfInBounds_toArray, List.set_cons_zero, List.set_cons_succ]; done) | (simp only [putAll, Act.put, List.setIfInBounds_toArray, List.set_cons_zero, List.set_cons_succ]; rfl)) (hJ0_78 (b6, b7, v.heap.size) _ ⟨HG1, K7, K8, ⟨Nat.ne_of_lt H7.out.lt⟩⟩)
    intro hJ0_7
    refine join_ (σ := Nat × Nat × Nat) 8 #[true, false, true, false, true, false, false, false, true, false, false, false] (fun s => [(10, .pointer (some ⟨s.2.2, 0, none⟩))]) (fun s w' => Aside0 (Grown W w') ∧ Aside0 (Fresh W w' s.2.2)) ?_ ?_
    · skip
      rintro ⟨b6, b7, b8⟩ v ⟨HG, H8⟩
      have hHeld := HG
      refine norm_ (a' := ?_) ?_ ?_
      rotate_left
      · simp only [putAll, Act.put, List.setIfInBounds_toArray, List.set_cons_zero, List.set_cons_succ]
        rfl
      refine three_ (i := 1) (j := 6) (k := 7) (Ni := some 40) (Nj := some 8) (Nk := some 9) #[true, true, true, false, true, false, false, false, true, false, false, false] #[true, false, true, false, true, false, true, false, true, false, false, false] #[true, false, true, false, true, false, false, true, true, false, false, false] rfl rfl rfl rfl rfl rfl (by kernel_rfl) (by decide) (by decide) (by decide) (fun K hK => ?_) (fun K hK => ?_) (fun K hK => ?_)
      · skip
        refine goes_ Try.func29 (by kernel_rfl) rfl #[col x y z] (by rfl) rfl rfl (by simp only [List.map_toArray, List.map_cons, List.map_nil]; rfl) ?_
        with_reducible refine (FA.out _).mono ?_
        rintro e v1 ⟨rfl, hg⟩
        refine ⟨_, rfl, ?_⟩
        have HG1 : Aside0 (Grown W v1) := ⟨Grown.trans HG.out hg⟩
        have K8 : Aside0 (Fresh W v1 b8) := ⟨H8.out.grown hg⟩
        refine hK.out _ _ HG1 (fun _ => ?_)
        clear hK K
        exact norm_ (by first | (simp only [putAll, Act.put, List.setIfInBounds_toArray, List.set_cons_zero, List.set_cons_succ]; done) | (simp only [putAll, Act.put, List.setIfInBounds_toArray, List.set_cons_zero, List.set_cons_succ]; rfl)) (hJ1_8 (b6, b7, b8) _ ⟨HG1, K8⟩)
      · skip
        refine value_ (w1 := v.alloc (.cells #[Value.float FloatKind.f64 0, Value.float FloatKind.f64 0, Value.float FloatKind.f64 0] 38)) (v := .pointer (some ⟨v.heap.size, 0, none⟩)) (by rfl) rfl ?_ ?_
        · go_simp
        have HG1 : Aside0 (Grown W (v.alloc (.cells #[Value.float FloatKind.f64 0, Value.float FloatKind.f64 0, Value.float FloatKind.f64 0] 38))) := ⟨Grown.alloc HG.out _ _⟩
        have K8 := Aside0.mk (H8.out.grown (Grown.alloc (Grown.refl v) #[Value.float FloatKind.f64 0, Value.float FloatKind.f64 0, Value.float FloatKind.f64 0] 38))
        have K6 := Aside0.mk (Fresh.new HG.out)
        refine hK.out _ _ HG1 (fun _ => ?_)
        clear hK K
        exact norm_ (by first | (simp only [putAll, Act.put, List.setIfInBounds_toArray, List.set_cons_zero, List.set_cons_succ]; done) | (simp only [putAll, Act.put, List.setIfInBounds_toArray, List.set_cons_zero, List.set_cons_succ]; rfl)) (hJ0_68 (v.heap.size, b7, b8) _ ⟨HG1, K6, K8, ⟨Nat.ne_of_gt H8.out.lt⟩⟩)
      · skip
        refine value_ (w1 := v.alloc (.cells #[Value.float FloatKind.f64 0, Value.float FloatKind.f64 0, Value.float FloatKind.f64 0] 38)) (v := .pointer (some ⟨v.heap.size, 0, none⟩)) (by rfl) rfl ?_ ?_
        · go_simp
        have HG1 : Aside0 (Grown W (v.alloc (.cells #[Value.float FloatKind.f64 0, Value.float FloatKind.f64 0, Value.float FloatKind.f64 0] 38))) := ⟨Grown.alloc HG.out _ _⟩
        have K8 := Aside0.mk (H8.out.grown (Grown.alloc (Grown.refl v) #[Value.float FloatKind.f64 0, Value.float FloatKind.f64 0, Value.float FloatKind.f64 0] 38))
        have K7 := Aside0.mk (Fresh.new HG.out)
        refine hK.out _ _ HG1 (fun _ => ?_)
        clear hK K
        exact norm_ (by first | (simp only [putAll, Act.put, List.setIfInBounds_toArray, List.set_cons_zero, List.set_cons_succ]; done) | (simp only [putAll, Act.put, List.setIfInBounds_toArray, List.set_cons_zero, List.set_cons_succ]; rfl)) (hJ0_78 (b6, v.heap.size, b8) _ ⟨HG1, K7, K8, ⟨Nat.ne_of_gt H8.out.lt⟩⟩)
    intro hJ0_8
    have HG := hHeld
    obtain ⟨b6, b7, b8⟩ : Nat × Nat × Nat := (0, 0, 0)
    refine four_ (i := 1) (j := 6) (k := 7) (m := 8) (Ni := some 40) (Nj := some 8) (Nk := some 9) (Nm := some 10) #[true, true, true, false, true, false, false, false, false, false, false, false] #[true, false, true, false, true, false, true, false, false, false, false, false] #[true, false, true, false, true, false, false, true, false, false, false, false] #[true, false, true, false, true, false, false, false, true, false, false, false] rfl rfl rfl rfl rfl rfl rfl rfl (by kernel_rfl) (by decide) (by decide) (by decide) (by decide) (fun K hK => ?_) (fun K hK => ?_) (fun K hK => ?_) (fun K hK => ?_)
    · skip
      refine goes_ Try.func29 (by kernel_rfl) rfl #[col x y z] (by rfl) rfl rfl (by simp only [List.map_toArray, List.map_cons, List.map_nil]; rfl) ?_
      with_reducible refine (FA.out _).mono ?_
      rintro e v1 ⟨rfl, hg⟩
      refine ⟨_, rfl, ?_⟩
      have HG1 : Aside0 (Grown W v1) := ⟨Grown.trans HG.out hg⟩
      refine hK.out _ _ HG1 (fun _ => ?_)
      clear hK K
      exact norm_ (by first | (simp only [putAll, Act.put, List.setIfInBounds_toArray, List.set_cons_zero, List.set_cons_succ]; done) | (simp only [putAll, Act.put, List.setIfInBounds_toArray, List.set_cons_zero, List.set_cons_succ]; rfl)) (hJ1_ (b6, b7, b8) _ HG1)
    · skip
      refine value_ (w1 := v.alloc (.cells #[Value.float FloatKind.f64 0, Value.float FloatKind.f64 0, Value.float FloatKind.f64 0] 38)) (v := .pointer (some ⟨v.heap.size, 0, none⟩)) (by rfl) rfl ?_ ?_
      · go_simp
      have HG1 : Aside0 (Grown W (v.alloc (.cells #[Value.float FloatKind.f64 0, Value.float FloatKind.f64 0, Value.float FloatKind.f64 0] 38))) := ⟨Grown.alloc HG.out _ _⟩
      have K6 := Aside0.mk (Fresh.new HG.out)
      refine hK.out _ _ HG1 (fun _ => ?_)
      clear hK K
      exact norm_ (by first | (simp only [putAll, Act.put, List.setIfInBounds_toArray, List.set_cons_zero, List.set_cons_succ]; done) | (simp only [putAll, Act.put, List.setIfInBounds_toArray, List.set_cons_zero, List.set_cons_succ]; rfl)) (hJ0_6 (v.heap.size, b7, b8) _ ⟨HG1, K6⟩)
    · skip
      refine value_ (w1 := v.alloc (.cells #[Value.float FloatKind.f64 0, Value.float FloatKind.f64 0, Value.float FloatKind.f64 0] 38)) (v := .pointer (some ⟨v.heap.size, 0, none⟩)) (by rfl) rfl ?_ ?_
      · go_simp
      have HG1 : Aside0 (Grown W (v.alloc (.cells #[Value.float FloatKind.f64 0, Value.float FloatKind.f64 0, Value.float FloatKind.f64 0] 38))) := ⟨Grown.alloc HG.out _ _⟩
      have K7 := Aside0.mk (Fresh.new HG.out)
      refine hK.out _ _ HG1 (fun _ => ?_)
      clear hK K
      exact norm_ (by first | (simp only [putAll, Act.put, List.setIfInBounds_toArray, List.set_cons_zero, List.set_cons_succ]; done) | (simp only [putAll, Act.put, List.setIfInBounds_toArray, List.set_cons_zero, List.set_cons_succ]; rfl)) (hJ0_7 (b6, v.heap.size, b8) _ ⟨HG1, K7⟩)
    · skip
      refine value_ (w1 := v.alloc (.cells #[Value.float FloatKind.f64 0, Value.float FloatKind.f64 0, Value.float FloatKind.f64 0] 38)) (v := .pointer (some ⟨v.heap.size, 0, none⟩)) (by rfl) rfl ?_ ?_
      · go_simp
      have HG1 : Aside0 (Grown W (v.alloc (.cells #[Value.float FloatKind.f64 0, Value.float FloatKind.f64 0, Value.float FloatKind.f64 0] 38))) := ⟨Grown.alloc HG.out _ _⟩
      have K8 := Aside0.mk (Fresh.new HG.out)
      refine hK.out _ _ HG1 (fun _ => ?_)
      clear hK K
      exact norm_ (by first | (simp only [putAll, Act.put, List.setIfInBounds_toArray, List.set_cons_zero, List.set_cons_succ]; done) | (simp only [putAll, Act.put, List.setIfInBounds_toArray, List.set_cons_zero, List.set_cons_succ]; rfl)) (hJ0_8 (b6, b7, v.heap.size) _ ⟨HG1, K8⟩)
  case rest =>
    obtain ⟨b8, b9, b10, rfl, rfl, rfl, e0, e1, e2, f0, f1, f2, h0, h1, h2, hg⟩ := hcut
    have ms := mix_self.out
    go_wp2_with fail
    refine (mix_self.out _).mono ?_
    rintro e w2 ⟨rfl, g2⟩
    have A0 := Grown.cell g2 e0
    have A1 := Grown.cell g2 e1
    have A2 := Grown.cell g2 e2
    have B0 := Grown.cell g2 f0
    have B1 := Grown.cell g2 f1
    have B2 := Grown.cell g2 f2
    have C0 := Grown.cell g2 h0
    have C1 := Grown.cell g2 h1
    have C2 := Grown.cell g2 h2
    have M0 := Grown.cell (Grown.trans hg g2) hm0
    have M1 := Grown.cell (Grown.trans hg g2) hm1
    have M2 := Grown.cell (Grown.trans hg g2) hm2
    have gw2 : Grown w w2 := Grown.trans hBW.g (Grown.trans hg g2)
    clear e0 e1 e2 f0 f1 f2 h0 h1 h2 hm0 hm1 hm2 hg g2 hBW ms
    have D := fun (b o : Nat) (v : Value) (ob : Obj) (h : w2.cell? ⟨b, o, none⟩ = some v) => (World.cell?_alloc_lt w2 ob ⟨b, o, none⟩ (World.block_lt_of_cell? w2 _ h)).trans h
    have a0 := fun ob => D _ _ _ ob A0
    have a1 := fun ob => D _ _ _ ob A1
    have a2 := fun ob => D _ _ _ ob A2
    have b0 := fun ob => D _ _ _ ob B0
    have b1 := fun ob => D _ _ _ ob B1
    have b2 := fun ob => D _ _ _ ob B2
    have c0 := fun ob => D _ _ _ ob C0
    have c1 := fun ob => D _ _ _ ob C1
    have c2 := fun ob => D _ _ _ ob C2
    have k0 := fun ob => D _ _ _ ob M0
    have k1 := fun ob => D _ _ _ ob M1
    have k2 := fun ob => D _ _ _ ob M2
    clear D A0 A1 A2 B0 B1 B2 C0 C1 C2 M0 M1 M2
    go_wp2_with fail
    refine (told1_any _).mono ?_
    rintro e w3 ⟨rfl, g3⟩
    have A0 := Grown.cell g3 (a0 _)
    have A1 := Grown.cell g3 (a1 _)
    have A2 := Grown.cell g3 (a2 _)
    have B0 := Grown.cell g3 (b0 _)
    have B1 := Grown.cell g3 (b1 _)
    have B2 := Grown.cell g3 (b2 _)
    have C0 := Grown.cell g3 (c0 _)
    have C1 := Grown.cell g3 (c1 _)
    have C2 := Grown.cell g3 (c2 _)
    have M0 := Grown.cell g3 (k0 _)
    have M1 := Grown.cell g3 (k1 _)
    have M2 := Grown.cell g3 (k2 _)
    have S0 := Grown.cell g3 (b := w2.heap.size) (o := 0) (v := fl p) (by go_simp)
    have S1 := Grown.cell g3 (b := w2.heap.size) (o := 1) (v := fl q) (by go_simp)
    have S2 := Grown.cell g3 (b := w2.heap.size) (o := 2) (v := fl r) (by go_simp)
    have gw3 : Grown w w3 := Grown.trans (gw2.alloc _ _) g3
    clear a0 a1 a2 b0 b1 b2 c0 c1 c2 k0 k1 k2 g3 gw2
    obtain ⟨p1, p2, p3, p4, p5, p6⟩ := side1.out
    obtain ⟨q1, q2, q3, q4, q5, q6⟩ := side2.out
    obtain ⟨r1, r2, r3, r4, r5, r6⟩ := side3.out
    go_wp2_with fail
    refine (same_self p q r _).mono ?_
    rintro e w4 ⟨rfl, g4⟩
    go_wp2
    go_ret
    exact ⟨rfl, Grown.trans gw3 g4⟩

theorem walk_lo (x y z x' y' z' t : Nat) (w : World) (hx : x < 2 ^ 64) (hy : y < 2 ^ 64) (hz : z < 2 ^ 64) (hx' : x' < 2 ^ 64) (hy' : y' < 2 ^ 64) (hz' : z' < 2 ^ 64) (ht : t < 2 ^ 64) (hu : partB t = 0)
    (h : (FloatKind.f64.format.order t t != some Ordering.eq) = true ∨ ((FloatKind.f64.format.order t t != some Ordering.eq) = false ∧ (FloatKind.f64.format.order t 0 == some Ordering.lt || FloatKind.f64.format.order t 0 == some Ordering.eq) = true)) :
    Calls Try.prog 10 #[col x y z, col x' y' z', fl t] w fun e w' => e = .returned (.bool true) ∧ Grown w w' := by
  have hB := boxes w x y z x' y' z'
  have e : ∀ a b, mixC a b (partB t) = a := fun a b => by unfold mixC; rw [hu, if_pos rfl]
  have EE := Lib.hid e
  have HX := Lib.hid hx
  have HY := Lib.hid hy
  have HZ := Lib.hid hz
  have HX' := Lib.hid hx'
  have HY' := Lib.hid hy'
  have HZ' := Lib.hid hz'
  have HT := Lib.hid ht
  clear e hu hx hy hz hx' hy' hz' ht
  rcases h with h | ⟨h, h'⟩
  all_goals
    go_enter Try.func10, Try.ntmps10
    go_wp2_with fail
    refine (mix_any x y z x' y' z' t _ HX.out HY.out HZ.out HX'.out HY'.out HZ'.out HT.out).mono ?_
    rintro e w1 ⟨rfl, g1⟩
    rw [EE.out, EE.out, EE.out]
    have hB1 := hB.grown g1
    obtain ⟨c0, c1, c2, _, _, _, gw⟩ := hB1.hold
    have kk : w.heap.size < w1.heap.size := World.block_lt_of_cell? w1 _ c0
    have d0 := fun ob => (World.cell?_alloc_lt w1 ob ⟨w.heap.size, 0, none⟩ kk).trans c0
    have d1 := fun ob => (World.cell?_alloc_lt w1 ob ⟨w.heap.size, 1, none⟩ kk).trans c1
    have d2 := fun ob => (World.cell?_alloc_lt w1 ob ⟨w.heap.size, 2, none⟩ kk).trans c2
    clear hB hB1 g1 c0 c1 c2
    go_wp2_with fail
    refine (told1_any _).mono ?_
    rintro e w2 ⟨rfl, g2⟩
    have q0 := Grown.cell g2 (d0 _)
    have q1 := Grown.cell g2 (d1 _)
    have q2 := Grown.cell g2 (d2 _)
    have m0 := Grown.cell g2 (b := w1.heap.size) (o := 0) (v := fl x) (by go_simp)
    have m1 := Grown.cell g2 (b := w1.heap.size) (o := 1) (v := fl y) (by go_simp)
    have m2 := Grown.cell g2 (b := w1.heap.size) (o := 2) (v := fl z) (by go_simp)
    have gw2 : Grown w w2 := Grown.trans (gw.alloc _ _) g2
    clear d0 d1 d2 g2 gw
    go_wp2_with fail
    refine (same_self x y z _).mono ?_
    rintro e w3 ⟨rfl, g3⟩
    go_wp2
    go_ret
    exact ⟨rfl, Grown.trans gw2 g3⟩

theorem walk_hi (x y z x' y' z' t : Nat) (w : World) (hx : x < 2 ^ 64) (hy : y < 2 ^ 64) (hz : z < 2 ^ 64) (hx' : x' < 2 ^ 64) (hy' : y' < 2 ^ 64) (hz' : z' < 2 ^ 64) (ht : t < 2 ^ 64) (hu : partB t = one)
    (h : (FloatKind.f64.format.order t t != some Ordering.eq) = false) (h' : (FloatKind.f64.format.order t 0 == some Ordering.lt || FloatKind.f64.format.order t 0 == some Ordering.eq) = false)
    (h'' : (FloatKind.f64.format.order t 4607182418800017408 == some Ordering.gt || FloatKind.f64.format.order t 4607182418800017408 == some Ordering.eq) = true) :
    Calls Try.prog 10 #[col x y z, col x' y' z', fl t] w fun e w' => e = .returned (.bool true) ∧ Grown w w' := by
  have hB := boxes w x y z x' y' z'
  have e : ∀ a b, mixC a b (partB t) = b := fun a b => by unfold mixC; rw [hu, if_neg (by decide), if_pos rfl]
  have EE := Lib.hid e
  have HX := Lib.hid hx
  have HY := Lib.hid hy
  have HZ := Lib.hid hz
  have HX' := Lib.hid hx'
  have HY' := Lib.hid hy'
  have HZ' := Lib.hid hz'
  have HT := Lib.hid ht
  clear e hu hx hy hz hx' hy' hz' ht
  go_enter Try.func10, Try.ntmps10
  go_wp2_with fail
  refine (mix_any x y z x' y' z' t _ HX.out HY.out HZ.out HX'.out HY'.out HZ'.out HT.out).mono ?_
  rintro e w1 ⟨rfl, g1⟩
  rw [EE.out, EE.out, EE.out]
  have hB1 := hB.grown g1
  obtain ⟨_, _, _, c0, c1, c2, gw⟩ := hB1.hold
  have kk : w.heap.size + 1 < w1.heap.size := World.block_lt_of_cell? w1 _ c0
  have d0 := fun ob => (World.cell?_alloc_lt w1 ob ⟨w.heap.size + 1, 0, none⟩ kk).trans c0
  have d1 := fun ob => (World.cell?_alloc_lt w1 ob ⟨w.heap.size + 1, 1, none⟩ kk).trans c1
  have d2 := fun ob => (World.cell?_alloc_lt w1 ob ⟨w.heap.size + 1, 2, none⟩ kk).trans c2
  clear hB hB1 g1 c0 c1 c2
  go_wp2_with fail
  refine (told1_any _).mono ?_
  rintro e w2 ⟨rfl, g2⟩
  have q0 := Grown.cell g2 (d0 _)
  have q1 := Grown.cell g2 (d1 _)
  have q2 := Grown.cell g2 (d2 _)
  have m0 := Grown.cell g2 (b := w1.heap.size) (o := 0) (v := fl x') (by go_simp)
  have m1 := Grown.cell g2 (b := w1.heap.size) (o := 1) (v := fl y') (by go_simp)
  have m2 := Grown.cell g2 (b := w1.heap.size) (o := 2) (v := fl z') (by go_simp)
  have gw2 : Grown w w2 := Grown.trans (gw.alloc _ _) g2
  clear d0 d1 d2 g2 gw
  go_wp2_with fail
  refine (same_self x' y' z' _).mono ?_
  rintro e w3 ⟨rfl, g3⟩
  go_wp2
  go_ret
  exact ⟨rfl, Grown.trans gw2 g3⟩

theorem walk (x y z x' y' z' t : Nat) (hx0 : (Lit.float .f64 x).wf = true) (hy0 : (Lit.float .f64 y).wf = true) (hz0 : (Lit.float .f64 z).wf = true)
    (hx0' : (Lit.float .f64 x').wf = true) (hy0' : (Lit.float .f64 y').wf = true) (hz0' : (Lit.float .f64 z').wf = true) (ht0 : (Lit.float .f64 t).wf = true) (w : World) :
    Calls Try.prog 10 #[col x y z, col x' y' z', fl t] w fun e w' => e = .returned (.bool true) ∧ Grown w w' := by
  have hx := wf_lt hx0
  have hy := wf_lt hy0
  have hz := wf_lt hz0
  have hx' := wf_lt hx0'
  have hy' := wf_lt hy0'
  have hz' := wf_lt hz0'
  have ht := wf_lt ht0
  cases nt : isN t
  · cases lt : le0 t
    · cases gt : ge1 t
      · have et : partB t = t := by unfold partB; rw [nt, lt, gt]; rfl
        have hu : t ≤ one := by have := partB_le t ht; rwa [et] at this
        have t0 : t ≠ 0 := by
          rintro rfl
          have : le0 0 = true := by decide +kernel
          rw [this] at lt; cases lt
        have t1 : t ≠ one := by
          rintro rfl
          have : ge1 one = true := by decide +kernel
          rw [this] at gt; cases gt
        have em : ∀ a b, mixC a b (partB t) = mix1 (partB a) (partB b) t := fun a b => by
          unfold mixC
          rw [et, if_neg t0, if_neg t1]
        have px := partB_le x hx
        have py := partB_le y hy
        have pz := partB_le z hz
        have px' := partB_le x' hx'
        have py' := partB_le y' hy'
        have pz' := partB_le z' hz'
        have l64 : ∀ a, a ≤ one → a < 2 ^ 64 := fun a h => Nat.lt_of_le_of_lt h (by decide)
        refine walk3 x y z x' y' z' t _ _ _ _ _ _ _ _ _ w (Lib.hid hx) (Lib.hid hy) (Lib.hid hz) (Lib.hid hx') (Lib.hid hy') (Lib.hid hz') (Lib.hid ht) (Lib.hid rfl) (Lib.hid rfl) (Lib.hid rfl) (Lib.hid rfl) (Lib.hid rfl) (Lib.hid rfl)
          (Lib.hid (em x x')) (Lib.hid (em y y')) (Lib.hid (em z z')) nt lt (Lib.hid (sides _ _ t px px' hu)) (Lib.hid (sides _ _ t py py' hu)) (Lib.hid (sides _ _ t pz pz' hu)) (Lib.hid (fun w => ?_)) gt
        have := mix_any (partB x) (partB y) (partB z) (partB x) (partB y) (partB z) t w (l64 _ px) (l64 _ py) (l64 _ pz) (l64 _ px) (l64 _ py) (l64 _ pz) ht
        rw [em, em, em, partB_of_le _ px, partB_of_le _ py, partB_of_le _ pz, mix1_self _ t px hu, mix1_self _ t py hu, mix1_self _ t pz hu] at this
        exact this
      · have et : partB t = one := by unfold partB; rw [nt, lt, gt]; rfl
        exact walk_hi x y z x' y' z' t w hx hy hz hx' hy' hz' ht et nt lt gt
    · have et : partB t = 0 := by unfold partB; rw [nt, lt]; rfl
      exact walk_lo x y z x' y' z' t w hx hy hz hx' hy' hz' ht et (Or.inr ⟨nt, lt⟩)
  · have et : partB t = 0 := by unfold partB; rw [nt]; rfl
    exact walk_lo x y z x' y' z' t w hx hy hz hx' hy' hz' ht et (Or.inl nt)

set_option maxRecDepth 100000 in
theorem lifted (os : Os) (started : os.Started) (H : Type) (enc : TypeId × Value → H) :
    ReturnsInHanded {} Try.checked os 10 .any (Rows.tintMixesSpec.pre6 enc Try.prog Try.f10 Rows.tintMixesRow.domain false) (Rows.tintMixesSpec.post enc Try.prog Try.f10 false true false false) := by
  refine returnsInHanded_of_change (C := Try.checked) own started (by kernel_rfl) Try.func10
    (ChangeSpec.witness6 (enc := enc) (C := Try.checked) false ⟨#[], #[.agg #[.float .f64 0, .float .f64 0, .float .f64 0], .agg #[.float .f64 0, .float .f64 0, .float .f64 0], .float .f64 0], []⟩ 8 (by kernel_rfl) (by kernel_rfl) (by kernel_rfl) (by kernel_rfl)) ?_
  intro W base args ds gs before hval0 hW hcnd _
  have hval : ∀ (j : Nat) t v, Try.f10.params[j]? = some t → args[j]? = some v → Value.okWide Try.prog W .any base t v := hval0
  have hW' := hW
  obtain ⟨p, q, hA0, hV, rfl, hfz, hnd⟩ := hW
  have hA : DataW.TrodAll enc Try.prog W 0 (fun _ => true) true Try.f10.params.toList args.toList ds p := hA0
  rw [Try.params10] at hA hval
  obtain ⟨v0, vs0, d0, ds0, p0, q0, hargs, rfl, rfl, h0, r0⟩ := trodAll_cons hA
  obtain ⟨v1, vs1, d1, ds1, p1, q1, rfl, rfl, rfl, h1, r1⟩ := trodAll_cons r0
  obtain ⟨v2, vs2, d2, ds2, p2, q2, rfl, rfl, rfl, h2, r2⟩ := trodAll_cons r1
  obtain ⟨rfl, rfl, rfl⟩ := trodAll_nil r2
  obtain rfl : args = #[v0, v1, v2] := by cases args; simp_all
  obtain ⟨rfl, rfl⟩ := trodVars_none hV
  obtain ⟨x0, y0, z0, dx0, dy0, dz0, m0, rfl, rfl, rfl, hx0, hy0, hz0⟩ := Joins.open_agg3 Try.underlying38 (by kernel_rfl) Try.cells38 (hval 0 38 v0 rfl rfl) h0
  obtain ⟨a0x, e0x, f0x, w0x⟩ := trod_float Try.underlying23 hx0
  simp only [List.cons.injEq, and_true] at e0x
  subst e0x f0x
  obtain ⟨a0y, e0y, f0y, w0y⟩ := trod_float Try.underlying23 hy0
  simp only [List.cons.injEq, and_true] at e0y
  subst e0y f0y
  obtain ⟨a0z, e0z, f0z, w0z⟩ := trod_float Try.underlying23 hz0
  simp only [List.cons.injEq, and_true] at e0z
  subst e0z f0z
  obtain ⟨x1, y1, z1, dx1, dy1, dz1, m1, rfl, rfl, rfl, hx1, hy1, hz1⟩ := Joins.open_agg3 Try.underlying38 (by kernel_rfl) Try.cells38 (hval 1 38 v1 rfl rfl) h1
  obtain ⟨a1x, e1x, f1x, w1x⟩ := trod_float Try.underlying23 hx1
  simp only [List.cons.injEq, and_true] at e1x
  subst e1x f1x
  obtain ⟨a1y, e1y, f1y, w1y⟩ := trod_float Try.underlying23 hy1
  simp only [List.cons.injEq, and_true] at e1y
  subst e1y f1y
  obtain ⟨a1z, e1z, f1z, w1z⟩ := trod_float Try.underlying23 hz1
  simp only [List.cons.injEq, and_true] at e1z
  subst e1z f1z
  obtain ⟨a2, rfl, rfl, rfl, w2⟩ := open_float Try.underlying23 (hval 2 23 v2 rfl rfl) h2
  clear hA0 hval0
  simp only [List.append_nil] at hW'
  refine (walk a0x a0y a0z a1x a1y a1z a2 w0x w0y w0z w1x w1y w1z w2 W).mono fun e W' ⟨he, hg⟩ => ?_
  subst he
  exact ⟨_, rfl, post_of_same (pa := []) (pv := []) hW' (fun _ _ _ => (trodAll_cons_mk (shut_bool Try.underlying4 _) trodAll_mk0)) (fun sp _ => (trodAll_cons_mk (Joins.shut_agg3 (y0 := (.lit (.float .f64 a0x), [])) (y1 := (.lit (.float .f64 a0y), [])) (y2 := (.lit (.float .f64 a0z), [])) Try.underlying38 (by kernel_rfl) Try.cells38 (shut_float1 Try.underlying23 w0x) (shut_float1 Try.underlying23 w0y) (shut_float1 Try.underlying23 w0z)) (trodAll_cons_mk (Joins.shut_agg3 (y0 := (.lit (.float .f64 a1x), [])) (y1 := (.lit (.float .f64 a1y), [])) (y2 := (.lit (.float .f64 a1z), [])) Try.underlying38 (by kernel_rfl) Try.cells38 (shut_float1 Try.underlying23 w1x) (shut_float1 Try.underlying23 w1y) (shut_float1 Try.underlying23 w1z)) (trodAll_cons_mk (shut_float Try.underlying23 w2) trodAll_mk0)))) (fun _ _ => rfl) rfl
    (hg.frame _) hg.2.1 (ok_one (by kernel_rfl) rfl (okWide_bool_mk Try.underlying4 _))⟩

theorem over : Rows.tintMixesRow.holds Try.pinned (OpenSpec.ofChange Rows.tintMixesSpec) :=
  OpenClaim.holds_of_wide 10 Try.f10 rfl rfl rfl rfl rfl rfl rfl ⟨rfl, rfl, rfl, rfl, rfl⟩ rfl rfl rfl rfl rfl (by kernel_rfl) Try.func10 (by kernel_rfl)
    (of_decide_eq_true (by kernel_rfl)) (by unfold Func.isWrapper; first | (rw [if_pos (by decide +kernel)]; kernel_rfl) | (rw [if_neg (by decide +kernel)]; exact ⟨rfl, rfl⟩))
    (fun os started H enc _ => lifted os started H enc)

theorem proved : Rows.TintMixesSaid := over
#print axioms proved
end Go.Proofs.Ytdakpnfkcnnebaa.tintMixes
