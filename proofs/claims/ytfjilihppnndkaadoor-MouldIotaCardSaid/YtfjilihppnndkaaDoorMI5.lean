-- Written by drive.py of this claim's own session, by way of the kit's print. Lean checks it.
import Derived.Test.YtfjilihppnndkaaDoorMI1
import Derived.Test.YtfjilihppnndkaaDoorMI3
import Derived.Test.YtfjilihppnndkaaDoorMI2
import Derived.Test.YtfjilihppnndkaaDoorMI4
namespace Go.Proofs.YtfjilihppnndkaaDoor.P
open Go.RowKit Go.Proofs.YtfjilihppnndkaaDoorW.PrintWords Go.Proofs.YtfjilihppnndkaaDoorW.PrintLast Go.Proofs.YtfjilihppnndkaaDoorW.PrintMore
attribute [local go_sem] max2_int min2_int max_two min_two max_three min_three max_four min_four   -- for this text's walks alone
set_option linter.unusedVariables false
set_option linter.unusedSimpArgs false

/-! ### shape_Items: function 68 -/
def shape_Items.f (l0 : List Int) : Option (Int × List Int) := if (l0.length : Int) = 0 then (some (1, ([] : List Int))) else (if 0 < (l0.length : Int) then (if 1 ≤ (l0.length : Int) then ((slices_Clone_int_int.f (l0.drop 1)).bind fun t103 => (some (rd l0 0, t103))) else (none)) else (none))
def shape_Items.T3 : Bool × List (List Nat × List Nat) := (true, [([], []), ([0], [0]), ([1], [1]), ([], []), ([3], [3]), ([4], [4]), ([2, 5, 0, 1, 2], [2]), ([5, 6, 0, 1, 2, 3, 4, 5, 6], [5])])
def shape_Items.B3 : List Nat := [0, 1, 3, 0, 8, 24, 63, 127]
theorem shape_Items.tab3 : rtab .any (opsOf Tryd.f68 3) = shape_Items.T3 := by kernel_rfl
theorem shape_Items.bits3 : waitsOk shape_Items.T3.2 shape_Items.B3 = true := by kernel_rfl
set_option maxHeartbeats 8000000 in
set_option maxRecDepth 100000 in
theorem shape_Items.calls (A0 : Option Addr) (c0 : Nat) (l0 : List Int) (r1 : Int) (r2 : List Int) (w : World) (hr0 : Kd.C (Kd.int .i64) w A0 l0.length l0) (hc0 : l0.length ≤ c0) (h : shape_Items.f l0 = some (r1, r2)) :
    Calls Tryd.prog 68 #[.slice A0 l0.length c0] w fun e w' => ∃ v1_ : Value, e = .returned (.tuple #[.int .i64 r1, v1_]) ∧ Kd.R (Kd.int .i64) 3 w' w.heap.size (fun _ => True) v1_ r2 ∧ Below w.heap.size w w' := by
  have HR0 := Aside0.mk hr0
  have HC0 := Aside0.mk hc0
  clear hr0 hc0
  have HB := Aside0.mk (Below.refl w.heap.size w)
  have H : (if (l0.length : Int) = 0 then (some (1, ([] : List Int))) else (if 0 < (l0.length : Int) then (if 1 ≤ (l0.length : Int) then ((slices_Clone_int_int.f (l0.drop 1)).bind fun t103 => (some (rd l0 0, t103))) else (none)) else (none))) = some (r1, r2) := h
  clear h
  by_cases c2 : (l0.length : Int) = 0
  · rw [if_pos c2] at H
    have c2b0 : ((l0.length : Int) == 0) = true := beq_iff_eq.mpr c2
    have c2b1 : ((l0.length : Int) != 0) = false := bne_eq_false_iff_eq.mpr c2
    clear c2
    simp only [Option.some.injEq, Prod.mk.injEq] at H
    obtain ⟨rfl, rfl⟩ := H
    go_enter Tryd.func68, Tryd.ntmps68
    go_wp2
    go_ret2
    exact ⟨_, Re_, by first | exact Kd.R_nil _ _ _ _ _ | exact Kd.N_nil _ _ _ _ _ | exact Kd.V_nil _ _ _ _ _ | exact Kd.Q_nil _ _ _ _ _ | exact Kd.S_nil _ _ _ _ _, Bl_⟩
  · rw [if_neg c2] at H
    have c2b0 : ((l0.length : Int) == 0) = false := beq_eq_false_iff_ne.mpr c2
    have c2b1 : ((l0.length : Int) != 0) = true := bne_iff_ne.mpr c2
    have c2b2 : ¬ (l0 = []) := fun h_ => c2 (by rw [h_]; rfl)
    by_cases c3 : 0 < (l0.length : Int)
    · rw [if_pos c3] at H
      have c3b0 : decide (0 < (l0.length : Int)) = true := decide_eq_true c3
      have c3b1 : decide (0 < l0.length) = true := decide_eq_true (by omega)
      clear c3
      by_cases c4 : 1 ≤ (l0.length : Int)
      · rw [if_pos c4] at H
        have c4b0 := eq_true c4
        have c4b1 : decide (1 ≤ (l0.length : Int)) = true := decide_eq_true c4
        clear c4
        obtain ⟨t103, A5, H⟩ := bnd_ H
        try dsimp -simprocs only at H
        simp only [Option.some.injEq, Prod.mk.injEq] at H
        obtain ⟨rfl, rfl⟩ := H
        go_enter Tryd.func68, Tryd.ntmps68
        try go_wp2
        replace HB := Aside0.mk (below_drew1 HB.out)
        have p101 : 0 ≤ (0 : Int) := (by omega)
        have q101 : 0 < (l0.length : Int) := of_decide_eq_true As_
        obtain ⟨ad101, e101, hx101_0⟩ := Kd.at_int HR0.out 0 p101 q101
        have hw101_0 := hx101_0
        (try rw [show ((0 : Int)).toNat = 0 from rfl] at hw101_0)
        (try rw [show 0 * 1 = 0 from rfl] at hw101_0)
        (try rw [Addr.add_zero'] at hw101_0)
        cases e101
        have qi101 : (0 < l0.length) = True := eq_true (by omega)
        (try rw [show ((0 : Int)).toNat = 0 from rfl] at hx101_0)
        (try rw [Addr.add_zero'] at hx101_0)
        replace hx101_0 := (HB.out.cell (World.block_lt_of_cell? w _ hx101_0)).trans hx101_0
        replace p101 := eq_true p101
        replace q101 := eq_true q101
        obtain ⟨i07, hi07, _, hsz7, _⟩ := info_parts info3
        obtain ⟨A7, hcut7, hA7, hC7⟩ := print_drop_of (P := Tryd.prog) (Value.int .i64) 0 22 3 .i64 Tryd.underlying22 hi07 hsz7 (some ad101) c0 l0 1 (by omega) (of_decide_eq_true As_) HC0.out
        have HR102 := Aside0.mk (Kd.C_of_reads (h1 := fun _ => rfl) (hA7 _ (Kd.reads_of_C HR0.out)))
        have HC102 := Aside0.mk hC7
        clear hA7 hC7 hi07 hsz7
        refine start_ (n := 8) (S := fun w' => w'.cell? ad101 = some (.int .i64 (rd l0 0))) (ds := []) #[false, false, false, false, false, false, false, false] (by kernel_rfl) rfl rfl (((HB.out.cell (World.block_lt_of_cell? w _ hw101_0)).trans hw101_0)) (fun hHeld => ?_); refine with_tabW shape_Items.tab3 shape_Items.bits3 (fun HT_ HW_ => ?_)
        generalize w.drew = w6 at HB HR102 hx101_0 hHeld ⊢
        refine pu_ 0 (some 7) HT_ #[true, false, false, false, false, false, false, false] ?_
        refine pu_ 1 (some 8) HT_ #[true, true, false, false, false, false, false, false] ?_
        refine pu_ 3 (some 10) HT_ #[true, true, false, true, false, false, false, false] ?_
        refine pu_ 4 (some 11) HT_ #[true, true, false, true, true, false, false, false] ?_
        refine take_ (i := 2) (N := some 9) (v := ?_) (a' := ?_) #[true, true, true, true, true, false, false, false] rfl rfl (take_ofW HT_.out HW_.out (by kernel_rfl)) (fun _ _ _ h => h) (Or.inl ⟨by rfl, ?_⟩) hHeld ?_ ?_
        rotate_left
        · intro w' s0
          go_simp
          with_reducible rfl
        rotate_left
        · simp only [Act.put, List.setIfInBounds_toArray, List.set_cons_zero, List.set_cons_succ, i64_w, i32_w]
          rfl
        refine one_ (i := 5) (N := some 12) #[true, true, true, true, true, true, false, false] rfl rfl (one_of HT_.out (by kernel_rfl)) (by decide) (fun K hK => ?_)
        refine goes_ Tryd.func55 (by kernel_rfl) rfl #[.slice A7 (l0.drop 1).length (c0 - 1)] (by rfl) rfl rfl (by (try simp only [List.map_toArray, List.map_cons, List.map_nil]); first | done | (rw [show (l0.drop 1).length = (l0.length - 1) from List.length_drop] <;> rfl) | rfl | (simp only [List.length_drop, List.length_take]; rfl)) ?_
        with_reducible refine (slices_Clone_int_int.calls _ _ (l0.drop 1) t103 _ ?side1 ?side2 A5.out).mono ?_
        (case side1 => exact Pc_ (Kd.C_below HR102.out HB.out))
        (case side2 => exact HC102.out)
        rintro e w8 ⟨v104, rfl, ho0, hb⟩
        refine ⟨_, rfl, ?_⟩
        have HO105 := Aside0.mk (Kd.R_lower ho0 Bz_)
        replace HB := Bs_ hb
        (try clear hb)
        (try clear hb2)
        (try clear hk)
        (try clear hi)
        (try clear ho0)
        refine hK.out _ _ (((HB.out.cell (World.block_lt_of_cell? w _ hw101_0)).trans hw101_0)) (fun hHeld => ?_)
        clear hK K
        refine norm_ (a' := ?_) ?_ ?_
        rotate_left
        · show Act.put _ (some 12) _ = _
          simp only [Act.put, List.setIfInBounds_toArray, List.set_cons_zero, List.set_cons_succ, i64_w, i32_w]
          rfl
        refine pu_ 6 (some 2) HT_ #[true, true, true, true, true, true, true, false] ?_
        refine pu_ 7 (some 3) HT_ #[true, true, true, true, true, true, true, true] ?_
        refine done_ (done_of HT_.out (by kernel_rfl)) ?_
        try go_wp2
        go_ret2
        exact ⟨_, Re_, by (with_reducible repeat (first | apply Kd.R_alloc | apply Kd.R_drewN | apply Kd.R_drew)); exact HO105.out, Bl_⟩
      · rw [if_neg c4] at H
        exact absurd H (by simp)
    · rw [if_neg c3] at H
      exact absurd H (by simp)
/-! ### val_Many: function 32 -/
def val_Many.f (l0_0 : List Int) (l0_1 : List ByteArray) : Option (Int) := (shape_Items.f l0_0).bind fun bt102 => (some bt102.1)
set_option maxHeartbeats 8000000 in
set_option maxRecDepth 100000 in
theorem val_Many.calls (A0_0 : Option Addr) (c0_0 : Nat) (l0_0 : List Int) (A0_1 : Option Addr) (c0_1 : Nat) (l0_1 : List ByteArray) (r : Int) (w : World) (hr0_0 : Kd.C (Kd.int .i64) w A0_0 l0_0.length l0_0) (hc0_0 : l0_0.length ≤ c0_0) (hr0_1 : Kd.C Kd.string w A0_1 l0_1.length l0_1) (hc0_1 : l0_1.length ≤ c0_1) (h : val_Many.f l0_0 l0_1 = some r) :
    Calls Tryd.prog 32 #[.agg #[.slice A0_0 l0_0.length c0_0, .slice A0_1 l0_1.length c0_1]] w fun e w' => e = .returned (.int .i64 r) ∧ Below w.heap.size w w' := by
  have hu25 := Tryd.underlying25
  have HR0_0 := Aside0.mk hr0_0
  have HC0_0 := Aside0.mk hc0_0
  clear hr0_0 hc0_0
  have HR0_1 := Aside0.mk hr0_1
  have HC0_1 := Aside0.mk hc0_1
  clear hr0_1 hc0_1
  have HB := Aside0.mk (Below.refl w.heap.size w)
  have H : ((shape_Items.f l0_0).bind fun bt102 => (some bt102.1)) = some r := h
  clear h
  obtain ⟨⟨t102, t103⟩, A2, H⟩ := bnd_ H
  try dsimp -simprocs only at H
  obtain rfl := Option.some.inj H
  go_enter Tryd.func32, Tryd.ntmps32
  go_wp2_with (first | ((with_reducible refine gate_dst (N := 1) rfl ?_); refine bx_ 1 #[.slice A0_0 l0_0.length c0_0, .slice A0_1 l0_1.length c0_1] 25 ?_; intro gb101 hg w3 hbox hb; have BK101 := Aside0.mk (hbox); have GW101 := (Bg_ hg : Aside0 (w.heap.size ≤ gb101)); have GE101 := (Bg_ hg : Aside0 (w.heap.size ≤ gb101)); replace HB := Bs_ hb; clear hb hbox hg; obtain ⟨hcz4_0, hcz4_1⟩ := c2_ BK101; obtain ⟨hfz4_0, hfz4_1⟩ := f2_ BK101) | ((with_reducible refine gate_callee (f := 68) rfl ?_); refine goesL_ (some 8) rfl rfl Tryd.func68 (by kernel_rfl) rfl #[.slice A0_0 l0_0.length c0_0] rfl Ga_ ?_; (with_reducible refine (shape_Items.calls _ _ l0_0 t102 t103 _ ?side1 ?side2 A2.out).mono ?_); (case side1 => exact Pc_ (Kd.C_below HR0_0.out HB.out)); (case side2 => exact HC0_0.out); rintro e w5 ⟨v104, rfl, ho0, hb⟩; refine ⟨_, rfl, ?_⟩; have HO105 := Aside0.mk (Kd.R_lower ho0 Bz_); replace BK101 := kb_ BK101 hb; replace HB := Bs_ hb; (try clear hb); (try clear hb2); (try clear hk); (try clear hi); (try clear ho0)))
  go_ret
  exact ⟨Re_, Bl_⟩
/-! ### mould_part_string: function 89 -/
def mould_part_string.f (l0 : List ByteArray) (a1 : Int) (a2 : Int) : Option (List ByteArray) := if 0 ≤ a1 ∧ a1 ≤ a2 ∧ a2 ≤ (l0.length : Int) then slices_Clone_string_string.f ((l0.drop a1.toNat).take (a2.toNat - a1.toNat)) else none
set_option maxHeartbeats 1000000 in
theorem mould_part_string.calls (A0 : Option Addr) (c0 : Nat) (l0 : List ByteArray) (a1 : Int) (a2 : Int) (r : List ByteArray) (w : World) (hr0 : Kd.C Kd.string w A0 l0.length l0) (hc0 : l0.length ≤ c0) (h : mould_part_string.f l0 a1 a2 = some r) :
    Calls Tryd.prog 89 #[.slice A0 l0.length c0, .int .i64 a1, .int .i64 a2] w fun e w' => ∃ v0_ : Value, e = .returned (v0_) ∧ Kd.R Kd.string 9 w' w.heap.size (fun _ => True) v0_ r ∧ Below w.heap.size w w' := by
  unfold mould_part_string.f at h
  split at h
  case isFalse => cases h
  rename_i hg
  obtain ⟨h0, h1, h2⟩ := hg
  obtain ⟨a, rfl⟩ := Int.eq_ofNat_of_zero_le h0
  obtain ⟨b, rfl⟩ := Int.eq_ofNat_of_zero_le (Int.le_trans h0 h1)
  simp only [Int.toNat_natCast] at h
  have q0 : ((b : Nat) : Int) ≤ (c0 : Int) := by omega
  by_cases hab : a = b
  · subst hab
    rw [Nat.sub_self] at h
    have hr : Kd.C Kd.string w A0 ((l0.drop a).take 0).length ((l0.drop a).take 0) := by simpa using Kd.C_take hr0 (m := 0) (by omega)
    rw [List.take_zero] at hr h
    have HH := Aside0.mk h
    have HR := Aside0.mk hr
    clear h hr hr0
    go_enter Tryd.func89, Tryd.ntmps89
    go_wp2_with (go_at_call 56; refine (slices_Clone_string_string.calls A0 0 [] r w HR.out (Nat.le_refl _) HH.out).mono ?_; rintro e w' ⟨v, rfl, ho, hb⟩)
    go_ret
    exact ⟨_, rfl, ho, hb⟩
  · have hlt : a < b := by omega
    have hnc : ¬ c0 = a := by omega
    have hd := Kd.C_drop hr0 (m := a) (c := c0) (by omega) hc0
    rw [if_neg hnc] at hd
    have hr := Kd.C_take hd (m := b - a) (by rw [List.length_drop]; omega)
    have hl : ((l0.drop a).take (b - a)).length = b - a := by rw [List.length_take, List.length_drop]; omega
    have e1 : Option.map (fun x : Addr => x.add (a * Kd.string.sz)) A0 = Option.map (fun x => x.add a) A0 := by simp [Kd.string, Kd.scalar]
    rw [e1] at hr
    have HH := Aside0.mk h
    have HR := Aside0.mk hr
    have HL := Aside0.mk hl
    clear h hr hr0 hd hl e1
    go_enter Tryd.func89, Tryd.ntmps89
    go_wp2_with fail
    all_goals first
      | omega
      | (have hcl := slices_Clone_string_string.calls (Option.map (fun x => x.add a) A0) (b - a) _ r w HR.out (by rw [HL.out]; exact Nat.le_refl _) HH.out
         rw [HL.out] at hcl
         refine hcl.mono ?_
         clear hcl
         rintro e w' ⟨v, rfl, ho, hb⟩
         go_wp2
         go_ret
         exact ⟨_, rfl, ho, hb⟩)
/-! ### mould_some: function 57 -/
def mould_some.f (l0_0 : List Int) (l0_1 : List ByteArray) (a1 : Int) (a2 : Int) : Option (List Int × List ByteArray) := (shape_Items.f l0_0).bind fun bt103 => (if bt103.1 > 0 then (if bt103.1 = 0 then (none) else ((some (([wrap64 (a2 - a1)] : List Int) : List Int)).bind fun y107 => (if y107.length + bt103.2.length < 17592186044416 then ((mould_part_string.f l0_1 (wrap64 (a1 * (wrap64 ((l0_1.length : Int) / bt103.1)))) (wrap64 (a2 * (wrap64 ((l0_1.length : Int) / bt103.1))))).bind fun t113 => (some ((y107 ++ bt103.2), t113))) else (none)))) else ((some (([wrap64 (a2 - a1)] : List Int) : List Int)).bind fun y116 => (if y116.length + bt103.2.length < 17592186044416 then ((mould_part_string.f l0_1 (wrap64 0) (wrap64 0)).bind fun t122 => (some ((y116 ++ bt103.2), t122))) else (none))))
def mould_some.T5 : Bool × List (List Nat × List Nat) := (true, [([], []), ([], []), ([0, 1], [0, 1]), ([2], [2]), ([], []), ([3, 4], [3, 4]), ([], []), ([6], [6]), ([], []), ([], []), ([8, 9], [8, 9]), ([], []), ([], []), ([11, 12], [11, 12]), ([7, 10, 13, 5], [7, 10, 13]), ([5, 14], [5, 14]), ([15, 14, 0, 1, 2, 3, 4, 5, 6, 7, 8, 9, 10, 11, 12, 13, 14, 15], [15])])
def mould_some.B5 : List Nat := [0, 0, 3, 7, 0, 31, 0, 64, 0, 0, 768, 0, 0, 6144, 16383, 32767, 65535]
theorem mould_some.tab5 : rtab .any (opsOf Tryd.f57 5) = mould_some.T5 := by kernel_rfl
theorem mould_some.bits5 : waitsOk mould_some.T5.2 mould_some.B5 = true := by kernel_rfl
set_option maxHeartbeats 8000000 in
set_option maxRecDepth 100000 in
theorem mould_some.calls (A0_0 : Option Addr) (c0_0 : Nat) (l0_0 : List Int) (A0_1 : Option Addr) (c0_1 : Nat) (l0_1 : List ByteArray) (a1 : Int) (a2 : Int) (r1 : List Int) (r2 : List ByteArray) (w : World) (hr0_0 : Kd.C (Kd.int .i64) w A0_0 l0_0.length l0_0) (hc0_0 : l0_0.length ≤ c0_0) (hr0_1 : Kd.C Kd.string w A0_1 l0_1.length l0_1) (hc0_1 : l0_1.length ≤ c0_1) (h : mould_some.f l0_0 l0_1 a1 a2 = some (r1, r2)) :
    Calls Tryd.prog 57 #[.agg #[.slice A0_0 l0_0.length c0_0, .slice A0_1 l0_1.length c0_1], .int .i64 a1, .int .i64 a2] w fun e w' => ∃ v0_ v1_ : Value, e = .returned (.agg #[v0_, v1_]) ∧ Kd.R (Kd.int .i64) 3 w' w.heap.size (fun _ => True) v0_ r1 ∧ Kd.R Kd.string 9 w' w.heap.size (fun _ => True) v1_ r2 ∧ Below w.heap.size w w' := by
  have hu25 := Tryd.underlying25
  have HR0_0 := Aside0.mk hr0_0
  have HC0_0 := Aside0.mk hc0_0
  clear hr0_0 hc0_0
  have HR0_1 := Aside0.mk hr0_1
  have HC0_1 := Aside0.mk hc0_1
  clear hr0_1 hc0_1
  have HB := Aside0.mk (Below.refl w.heap.size w)
  have H : ((shape_Items.f l0_0).bind fun bt103 => (if bt103.1 > 0 then (if bt103.1 = 0 then (none) else ((some (([wrap64 (a2 - a1)] : List Int) : List Int)).bind fun y107 => (if y107.length + bt103.2.length < 17592186044416 then ((mould_part_string.f l0_1 (wrap64 (a1 * (wrap64 ((l0_1.length : Int) / bt103.1)))) (wrap64 (a2 * (wrap64 ((l0_1.length : Int) / bt103.1))))).bind fun t113 => (some ((y107 ++ bt103.2), t113))) else (none)))) else ((some (([wrap64 (a2 - a1)] : List Int) : List Int)).bind fun y116 => (if y116.length + bt103.2.length < 17592186044416 then ((mould_part_string.f l0_1 (wrap64 0) (wrap64 0)).bind fun t122 => (some ((y116 ++ bt103.2), t122))) else (none))))) = some (r1, r2) := h
  clear h
  obtain ⟨⟨t103, t104⟩, A4, H⟩ := bnd_ H
  try dsimp -simprocs only at H
  by_cases c5 : t103 > 0
  · rw [if_pos c5] at H
    have c5b0 : decide (0 < t103) = true := decide_eq_true c5
    clear c5
    by_cases c6 : t103 = 0
    · rw [if_pos c6] at H
      exact absurd H (by simp)
    · rw [if_neg c6] at H
      have c6b0 : (t103 == 0) = false := beq_eq_false_iff_ne.mpr c6
      have c6b1 : (t103 != 0) = true := bne_iff_ne.mpr c6
      obtain ⟨y107, hy107⟩ : ∃ y_ : List Int, y_ = (([wrap64 (a2 - a1)] : List Int)) := ⟨_, rfl⟩
      replace H : (if y107.length + t104.length < 17592186044416 then ((mould_part_string.f l0_1 (wrap64 (a1 * (wrap64 ((l0_1.length : Int) / t103)))) (wrap64 (a2 * (wrap64 ((l0_1.length : Int) / t103))))).bind fun t113 => (some ((y107 ++ t104), t113))) else (none)) = some (r1, r2) := by first | (rw [hy107]; with_reducible exact H) | (have H2_ := (Option.bind_some _ _).symm.trans H; rw [hy107]; with_reducible exact H2_) | (have H2_ := (Option.bind_some _ _).symm.trans H; with_reducible exact H2_) | with_reducible exact H | (rw [hy107]; exact H) | exact H
      have Ny107 := Aside0.mk hy107
      clear hy107
      by_cases c7 : y107.length + t104.length < 17592186044416
      · rw [if_pos c7] at H
        have LMc7 := Aside0.mk c7
        clear c7
        obtain ⟨y110, hy110⟩ : ∃ y_ : List Int, y_ = (y107 ++ t104) := ⟨_, rfl⟩
        replace H : ((mould_part_string.f l0_1 (wrap64 (a1 * (wrap64 ((l0_1.length : Int) / t103)))) (wrap64 (a2 * (wrap64 ((l0_1.length : Int) / t103))))).bind fun t113 => (some (y110, t113))) = some (r1, r2) := by first | (rw [hy110]; with_reducible exact H) | (have H2_ := (Option.bind_some _ _).symm.trans H; rw [hy110]; with_reducible exact H2_) | (have H2_ := (Option.bind_some _ _).symm.trans H; with_reducible exact H2_) | with_reducible exact H | (rw [hy110]; exact H) | exact H
        have Ny110 := Aside0.mk hy110
        clear hy110
        obtain ⟨t113, A8, H⟩ := bnd_ H
        try dsimp -simprocs only at H
        simp only [Option.some.injEq, Prod.mk.injEq] at H
        obtain ⟨rfl, rfl⟩ := H
        go_enter Tryd.func57, Tryd.ntmps57
        try go_wp2_with (first | ((with_reducible refine gate_dst (N := 3) rfl ?_); refine bx_ 3 #[.slice A0_0 l0_0.length c0_0, .slice A0_1 l0_1.length c0_1] 25 ?_; intro gb101 hg w9 hbox hb; have BK101 := Aside0.mk (hbox); have GW101 := (Bg_ hg : Aside0 (w.heap.size ≤ gb101)); have GE101 := (Bg_ hg : Aside0 (w.heap.size ≤ gb101)); replace HB := Bs_ hb; clear hb hbox hg) | ((with_reducible refine gate_dst (N := 6) rfl ?_); refine bx_ 6 #[.slice none 0 0, .slice none 0 0] 25 ?_; intro gb102 hg w10 hbox hb; have BK102 := Aside0.mk (hbox); have GW102 := (Bg_ hg : Aside0 (w.heap.size ≤ gb102)); have GE102 := (Bg_ hg : Aside0 (w.heap.size ≤ gb102)); replace HB := Bs_ hb; have NB101_102 := nl_ hg BK101; have NB102_101 := ng_ hg BK101; replace BK101 := kb_ BK101 hb; clear hb hbox hg; have hnb11 := NB101_102.out; have hnc11 := NB102_101.out; obtain ⟨hcz12_0, hcz12_1⟩ := c2_ BK101; obtain ⟨hfz12_0, hfz12_1⟩ := f2_ BK101) | ((with_reducible refine gate_callee (f := 68) rfl ?_); refine goesL_ (some 13) rfl rfl Tryd.func68 (by kernel_rfl) rfl #[.slice A0_0 l0_0.length c0_0] rfl Ga_ ?_; (with_reducible refine (shape_Items.calls _ _ l0_0 t103 t104 _ ?side1 ?side2 A4.out).mono ?_); (case side1 => exact Pc_ (Kd.C_below HR0_0.out HB.out)); (case side2 => exact HC0_0.out); rintro e w13 ⟨v105, rfl, ho0, hb⟩; refine ⟨_, rfl, ?_⟩; have HO106 := Aside0.mk (Kd.R_lower ho0 Bz_); replace BK101 := kb_ BK101 hb; replace BK102 := kb_ BK102 hb; replace HB := Bs_ hb; (try clear hb); (try clear hb2); (try clear hk); (try clear hi); (try clear ho0); obtain ⟨hcz14_0, hcz14_1⟩ := c2_ BK101; obtain ⟨hfz14_0, hfz14_1⟩ := f2_ BK101))
        replace HO106 := Aside0.mk (Kd.R_drew HO106.out)
        replace BK101 := Aside0.mk (blk_drew BK101.out)
        replace BK102 := Aside0.mk (blk_drew BK102.out)
        replace HB := Aside0.mk (below_drew1 HB.out)
        refine start_ (n := 17) (S := fun w' => w'.cell? ⟨gb101, 0, none⟩ = some (.slice A0_0 l0_0.length c0_0) ∧ w'.cell? ⟨gb101, 1, none⟩ = some (.slice A0_1 l0_1.length c0_1)) (ds := []) #[false, false, false, false, false, false, false, false, false, false, false, false, false, false, false, false, false] (by kernel_rfl) rfl rfl ⟨(blk_cell BK101.out 0).trans rfl, (blk_cell BK101.out 1).trans rfl⟩ (fun hHeld => ?_); refine with_tabW mould_some.tab5 mould_some.bits5 (fun HT_ HW_ => ?_)
        generalize w13.drew = w15 at HO106 BK101 BK102 HB hHeld ⊢
        refine pu_ 0 (some 23) HT_ #[true, false, false, false, false, false, false, false, false, false, false, false, false, false, false, false, false] ?_
        refine pu_ 1 (some 24) HT_ #[true, true, false, false, false, false, false, false, false, false, false, false, false, false, false, false, false] ?_
        refine pu_ 2 (some 25) HT_ #[true, true, true, false, false, false, false, false, false, false, false, false, false, false, false, false, false] ?_
        refine pu_ 4 (some 27) HT_ #[true, true, true, false, true, false, false, false, false, false, false, false, false, false, false, false, false] ?_
        refine pu_ 6 (some 29) HT_ #[true, true, true, false, true, false, true, false, false, false, false, false, false, false, false, false, false] ?_
        refine pu_ 8 (some 31) HT_ #[true, true, true, false, true, false, true, false, true, false, false, false, false, false, false, false, false] ?_
        refine pu_ 9 (some 32) HT_ #[true, true, true, false, true, false, true, false, true, true, false, false, false, false, false, false, false] ?_
        refine pu_ 10 (some 33) HT_ #[true, true, true, false, true, false, true, false, true, true, true, false, false, false, false, false, false] ?_
        refine pu_ 11 (some 34) HT_ #[true, true, true, false, true, false, true, false, true, true, true, true, false, false, false, false, false] ?_
        refine pu_ 12 (some 35) HT_ #[true, true, true, false, true, false, true, false, true, true, true, true, true, false, false, false, false] ?_
        refine pu_ 13 (some 36) HT_ #[true, true, true, false, true, false, true, false, true, true, true, true, true, true, false, false, false] ?_
        refine take_ (i := 7) (N := some 30) (v := ?_) (a' := ?_) #[true, true, true, false, true, false, true, true, true, true, true, true, true, true, false, false, false] rfl rfl (take_ofW HT_.out HW_.out (by kernel_rfl)) (fun _ _ _ h => h) (Or.inl ⟨by rfl, ?_⟩) hHeld ?_ ?_
        rotate_left
        · rintro w' ⟨s0, s1⟩
          go_simp
          with_reducible rfl
        rotate_left
        · simp only [Act.put, List.setIfInBounds_toArray, List.set_cons_zero, List.set_cons_succ, i64_w, i32_w]
          rfl
        refine one_ (i := 3) (N := some 26) #[true, true, true, true, true, false, true, true, true, true, true, true, true, true, false, false, false] rfl rfl (one_of HT_.out (by kernel_rfl)) (by decide) (fun K hK => ?_)
        refine Kd.R_lit_step (Kd.int .i64) _ 3 ?hg (N := 26) ?hd (xs := ([wrap64 (a2 - a1)] : List Int)) (inner := [.int .i64 (wrap64 (a2 - a1))]) (ok := fun _ => True) (okp := fun _ => True) ?hr ?hp (fun _ hk => hk) trivial (Below.refl _ _) (Nat.le_refl _) (by simp) ?_; (case hd => rfl); (case hg => rfl); (case hr => first | (go_simp; done) | (go_simp; rfl)); (case hp => exact (Reps.one (show Kd.M (Kd.int .i64) _ _ _ (wrap64 (a2 - a1)) [.int .i64 (wrap64 (a2 - a1))] from rfl) (Reps.none _ _)))
        intro v108 w16 ho17 hb hg_ hnew_
        clear hg_ hnew_
        (first | rw [← Ny107.out] at ho17 | (simp only [Int.reduceToNat] at ho17; rw [← Ny107.out] at ho17))
        have HO109 := Aside0.mk (Kd.R_lower (Kd.R_new' ho17 (Kd.R_lt (Pr_ HO106.out))) Bz_)
        replace HO106 := Aside0.mk (Kd.R_elder' (Pr_ HO106.out) (Kd.R_base ho17) hb)
        replace BK101 := kb_ BK101 hb
        replace BK102 := kb_ BK102 hb
        replace HB := Bs_ hb
        clear hb ho17
        obtain ⟨Ao19, co19, eo19⟩ := Kd.R_slice HO106.out
        (first | subst eo19 | (injection eo19 with f1_ f2_ f3_; have f4_ := f1_.symm; have f5_ := f3_.symm; clear f1_ f2_ f3_; subst f4_; subst f5_))
        refine hK.out _ _ ⟨(blk_cell BK101.out 0).trans rfl, (blk_cell BK101.out 1).trans rfl⟩ (fun hHeld => ?_)
        clear hK K
        refine norm_ (a' := ?_) ?_ ?_
        rotate_left
        · show Act.put _ (some 26) _ = _
          simp only [Act.put, List.setIfInBounds_toArray, List.set_cons_zero, List.set_cons_succ, i64_w, i32_w]
          rfl
        refine one_ (i := 5) (N := some 28) #[true, true, true, true, true, true, true, true, true, true, true, true, true, true, false, false, false] rfl rfl (one_of HT_.out (by kernel_rfl)) (by decide) (fun K hK => ?_)
        refine Kd.R_append_rows_step (Kd.int .i64) (w0 := w) w.heap.size (by rfl) (.tmp 26) (.tmp 27) 22 3 (.int .i64 0) 8 rfl Tryd.underlying22 info3 rfl (by decide) (by omega) v108 y107 t104 _ _ _ (fun k_ => some k_ ≠ (.slice Ao19 t104.length co19 : Value).ownBlock) (fun _ => False) rfl rfl ?aO ?aR (fun _ _ h => h) (fun _ h => h.elim) ?aF ?aB ?aS ?aL ?_
        (case aR => exact Pc_ ((Kd.R_reads' HO106.out).2.2))
        (case aB => exact Bl_)
        (case aF => exact (fun k_ hk => Kd.fresh' (Kd.R_lt (Pr_ HO106.out)) k_ hk))
        (case aO => exact (by (with_reducible repeat (first | apply Kd.R_alloc | apply Kd.R_drewN | apply Kd.R_drew)); exact Kd.R_mono HO109.out (fun _ hk => hk.2)))
        (case aS => exact Bz_)
        (case aL => have := LMc7.out; omega)
        intro v111 w18 ho hb hg hat
        rw [← Ny110.out] at ho
        replace BK101 := kg_ BK101 hg (Kd.R_ne HO109.out BK101.out (by decide))
        replace BK102 := kg_ BK102 hg (Kd.R_ne HO109.out BK102.out (by decide))
        replace HO106 := Aside0.mk (Kd.R_after (ok := (fun _ => True)) (Pr_ HO106.out) hg hat)
        replace HB := Aside0.mk (hb)
        have HO112 := Aside0.mk (ho)
        clear HO109
        clear ho hb hg hat
        refine hK.out _ _ ⟨(blk_cell BK101.out 0).trans rfl, (blk_cell BK101.out 1).trans rfl⟩ (fun hHeld => ?_)
        clear hK K
        refine norm_ (a' := ?_) ?_ ?_
        rotate_left
        · show Act.put _ (some 28) _ = _
          simp only [Act.put, List.setIfInBounds_toArray, List.set_cons_zero, List.set_cons_succ, i64_w, i32_w]
          rfl
        refine one_ (i := 14) (N := some 37) #[true, true, true, true, true, true, true, true, true, true, true, true, true, true, true, false, false] rfl rfl (one_of HT_.out (by kernel_rfl)) (by decide) (fun K hK => ?_)
        refine goes_ Tryd.func89 (by kernel_rfl) rfl #[.slice A0_1 l0_1.length c0_1, .int .i64 (wrap64 (a1 * (wrap64 ((l0_1.length : Int) / t103)))), .int .i64 (wrap64 (a2 * (wrap64 ((l0_1.length : Int) / t103))))] (by rfl) rfl rfl Ga_ ?_
        with_reducible refine (mould_part_string.calls _ _ l0_1 (wrap64 (a1 * (wrap64 ((l0_1.length : Int) / t103)))) (wrap64 (a2 * (wrap64 ((l0_1.length : Int) / t103)))) t113 _ ?side1 ?side2 A8.out).mono ?_
        (case side1 => exact Pc_ (Kd.C_below HR0_1.out HB.out))
        (case side2 => exact HC0_1.out)
        rintro e w20 ⟨v114, rfl, ho0, hb⟩
        refine ⟨_, rfl, ?_⟩
        replace HO106 := Aside0.mk (Kd.R_below (Pr_ HO106.out) hb)
        replace HO112 := Aside0.mk (Kd.R_below (Pr_ HO112.out) hb)
        have HO115 := Aside0.mk (Kd.R_lower ho0 Bz_)
        replace BK101 := kb_ BK101 hb
        replace BK102 := kb_ BK102 hb
        replace HB := Bs_ hb
        (try clear hb)
        (try clear hb2)
        (try clear hk)
        (try clear hi)
        (try clear ho0)
        obtain ⟨Ao21, co21, eo21⟩ := Kd.R_slice HO115.out
        (first | subst eo21 | (injection eo21 with f1_ f2_ f3_; have f4_ := f1_.symm; have f5_ := f3_.symm; clear f1_ f2_ f3_; subst f4_; subst f5_))
        obtain ⟨Ao22, co22, eo22⟩ := Kd.R_slice HO112.out
        (first | subst eo22 | (injection eo22 with f1_ f2_ f3_; have f4_ := f1_.symm; have f5_ := f3_.symm; clear f1_ f2_ f3_; subst f4_; subst f5_))
        refine hK.out _ _ ⟨(blk_cell BK101.out 0).trans rfl, (blk_cell BK101.out 1).trans rfl⟩ (fun hHeld => ?_)
        clear hK K
        refine norm_ (a' := ?_) ?_ ?_
        rotate_left
        · show Act.put _ (some 37) _ = _
          simp only [Act.put, List.setIfInBounds_toArray, List.set_cons_zero, List.set_cons_succ, i64_w, i32_w]
          rfl
        refine pu_ 15 (some 38) HT_ #[true, true, true, true, true, true, true, true, true, true, true, true, true, true, true, true, false] ?_
        refine one_ (i := 16) (N := none) #[true, true, true, true, true, true, true, true, true, true, true, true, true, true, true, true, true] rfl rfl (one_of HT_.out (by kernel_rfl)) (by decide) (fun K hK => ?_)
        have hs23 : w20.cell? ⟨gb102, 0, none⟩ = some (.slice none 0 0) := (blk_cell BK102.out 0).trans rfl
        have hfs23 := blk_frozen BK102.out 0
        have hns23_0 := NB101_102.out
        have hms23_0 := NB102_101.out
        have hs24 : w20.cell? ⟨gb102, 1, none⟩ = some (.slice none 0 0) := (blk_cell BK102.out 1).trans rfl
        have hfs24 := blk_frozen BK102.out 1
        have hns24_0 := NB101_102.out
        have hms24_0 := NB102_101.out
        refine skip_ (w1 := ?_) (by rfl) rfl ?_ ?_
        rotate_left
        · go_simp
          rfl
        refine hK.out _ _ ⟨((cell_far (p := ⟨gb102, _, none⟩) NB101_102.out _).trans (((cell_far (p := ⟨gb102, _, none⟩) NB101_102.out _).trans (hHeld.1)))), ((cell_far (p := ⟨gb102, _, none⟩) NB101_102.out _).trans (((cell_far (p := ⟨gb102, _, none⟩) NB101_102.out _).trans (hHeld.2))))⟩ (fun hHeld => ?_)
        clear hK K
        refine done_ (done_of HT_.out (by kernel_rfl)) ?_
        try go_wp2
        refine bodyPost_ret (results_cell_row rfl _ _ gb102 25 #[.slice Ao22 y110.length co22, .slice Ao21 t113.length co21] (0, 0) _ rfl (by (with_reducible repeat (first | refine blk_drewN ?_ _ | refine blk_drew ?_ | refine blk_alloc ?_ _)); refine blk_put (cs := #[.slice Ao22 y110.length co22, .slice none 0 0]) ?_ 1 _ rfl; (with_reducible repeat (first | refine blk_drewN ?_ _ | refine blk_drew ?_ | refine blk_alloc ?_ _)); refine blk_put (cs := #[.slice none 0 0, .slice none 0 0]) ?_ 0 _ rfl; (with_reducible repeat (first | refine blk_drewN ?_ _ | refine blk_drew ?_ | refine blk_alloc ?_ _)); exact BK102.out) Tryd.underlying25 rfl (by kernel_rfl)) rfl ?_
        exact ⟨_, _, Re_, by (with_reducible repeat (first | apply Kd.R_alloc | apply Kd.R_drewN | apply Kd.R_drew)); exact Kd.R_mono (Kd.R_far (p := ⟨gb102, 1, none⟩) (Kd.R_far (p := ⟨gb102, 0, none⟩) (Kd.R_types HO112.out BK102.out (by decide)) (fun _ hk => hk.2) (.slice Ao22 y110.length co22)) (fun _ hk => hk.2) (.slice Ao21 t113.length co21)) (fun _ hk => trivial), by (with_reducible repeat (first | apply Kd.R_alloc | apply Kd.R_drewN | apply Kd.R_drew)); exact Kd.R_mono (Kd.R_far (p := ⟨gb102, 1, none⟩) (Kd.R_far (p := ⟨gb102, 0, none⟩) (Kd.R_types HO115.out BK102.out (by decide)) (fun _ hk => hk.2) (.slice Ao22 y110.length co22)) (fun _ hk => hk.2) (.slice Ao21 t113.length co21)) (fun _ hk => trivial), Bl_⟩
      · rw [if_neg c7] at H
        exact absurd H (by simp)
  · rw [if_neg c5] at H
    have c5b0 : decide (0 < t103) = false := decide_eq_false c5
    clear c5
    obtain ⟨y116, hy116⟩ : ∃ y_ : List Int, y_ = (([wrap64 (a2 - a1)] : List Int)) := ⟨_, rfl⟩
    replace H : (if y116.length + t104.length < 17592186044416 then ((mould_part_string.f l0_1 (wrap64 0) (wrap64 0)).bind fun t122 => (some ((y116 ++ t104), t122))) else (none)) = some (r1, r2) := by first | (rw [hy116]; with_reducible exact H) | (have H2_ := (Option.bind_some _ _).symm.trans H; rw [hy116]; with_reducible exact H2_) | (have H2_ := (Option.bind_some _ _).symm.trans H; with_reducible exact H2_) | with_reducible exact H | (rw [hy116]; exact H) | exact H
    have Ny116 := Aside0.mk hy116
    clear hy116
    by_cases c25 : y116.length + t104.length < 17592186044416
    · rw [if_pos c25] at H
      have LMc25 := Aside0.mk c25
      clear c25
      obtain ⟨y119, hy119⟩ : ∃ y_ : List Int, y_ = (y116 ++ t104) := ⟨_, rfl⟩
      replace H : ((mould_part_string.f l0_1 (wrap64 0) (wrap64 0)).bind fun t122 => (some (y119, t122))) = some (r1, r2) := by first | (rw [hy119]; with_reducible exact H) | (have H2_ := (Option.bind_some _ _).symm.trans H; rw [hy119]; with_reducible exact H2_) | (have H2_ := (Option.bind_some _ _).symm.trans H; with_reducible exact H2_) | with_reducible exact H | (rw [hy119]; exact H) | exact H
      have Ny119 := Aside0.mk hy119
      clear hy119
      obtain ⟨t122, A26, H⟩ := bnd_ H
      try dsimp -simprocs only at H
      simp only [Option.some.injEq, Prod.mk.injEq] at H
      obtain ⟨rfl, rfl⟩ := H
      go_enter Tryd.func57, Tryd.ntmps57
      try go_wp2_with (first | ((with_reducible refine gate_dst (N := 3) rfl ?_); refine bx_ 3 #[.slice A0_0 l0_0.length c0_0, .slice A0_1 l0_1.length c0_1] 25 ?_; intro gb101 hg w27 hbox hb; have BK101 := Aside0.mk (hbox); have GW101 := (Bg_ hg : Aside0 (w.heap.size ≤ gb101)); have GE101 := (Bg_ hg : Aside0 (w.heap.size ≤ gb101)); replace HB := Bs_ hb; clear hb hbox hg) | ((with_reducible refine gate_dst (N := 6) rfl ?_); refine bx_ 6 #[.slice none 0 0, .slice none 0 0] 25 ?_; intro gb102 hg w28 hbox hb; have BK102 := Aside0.mk (hbox); have GW102 := (Bg_ hg : Aside0 (w.heap.size ≤ gb102)); have GE102 := (Bg_ hg : Aside0 (w.heap.size ≤ gb102)); replace HB := Bs_ hb; have NB101_102 := nl_ hg BK101; have NB102_101 := ng_ hg BK101; replace BK101 := kb_ BK101 hb; clear hb hbox hg; have hnb29 := NB101_102.out; have hnc29 := NB102_101.out; obtain ⟨hcz30_0, hcz30_1⟩ := c2_ BK101; obtain ⟨hfz30_0, hfz30_1⟩ := f2_ BK101) | ((with_reducible refine gate_callee (f := 68) rfl ?_); refine goesL_ (some 13) rfl rfl Tryd.func68 (by kernel_rfl) rfl #[.slice A0_0 l0_0.length c0_0] rfl Ga_ ?_; (with_reducible refine (shape_Items.calls _ _ l0_0 t103 t104 _ ?side1 ?side2 A4.out).mono ?_); (case side1 => exact Pc_ (Kd.C_below HR0_0.out HB.out)); (case side2 => exact HC0_0.out); rintro e w31 ⟨v105, rfl, ho0, hb⟩; refine ⟨_, rfl, ?_⟩; have HO106 := Aside0.mk (Kd.R_lower ho0 Bz_); replace BK101 := kb_ BK101 hb; replace BK102 := kb_ BK102 hb; replace HB := Bs_ hb; (try clear hb); (try clear hb2); (try clear hk); (try clear hi); (try clear ho0)))
      replace HO106 := Aside0.mk (Kd.R_drew HO106.out)
      replace BK101 := Aside0.mk (blk_drew BK101.out)
      replace BK102 := Aside0.mk (blk_drew BK102.out)
      replace HB := Aside0.mk (below_drew1 HB.out)
      refine start_ (n := 17) (S := fun w' => w'.cell? ⟨gb101, 0, none⟩ = some (.slice A0_0 l0_0.length c0_0) ∧ w'.cell? ⟨gb101, 1, none⟩ = some (.slice A0_1 l0_1.length c0_1)) (ds := []) #[false, false, false, false, false, false, false, false, false, false, false, false, false, false, false, false, false] (by kernel_rfl) rfl rfl ⟨(blk_cell BK101.out 0).trans rfl, (blk_cell BK101.out 1).trans rfl⟩ (fun hHeld => ?_); refine with_tabW mould_some.tab5 mould_some.bits5 (fun HT_ HW_ => ?_)
      generalize w31.drew = w32 at HO106 BK101 BK102 HB hHeld ⊢
      refine pu_ 0 (some 23) HT_ #[true, false, false, false, false, false, false, false, false, false, false, false, false, false, false, false, false] ?_
      refine pu_ 1 (some 24) HT_ #[true, true, false, false, false, false, false, false, false, false, false, false, false, false, false, false, false] ?_
      refine pu_ 2 (some 25) HT_ #[true, true, true, false, false, false, false, false, false, false, false, false, false, false, false, false, false] ?_
      refine pu_ 4 (some 27) HT_ #[true, true, true, false, true, false, false, false, false, false, false, false, false, false, false, false, false] ?_
      refine pu_ 6 (some 29) HT_ #[true, true, true, false, true, false, true, false, false, false, false, false, false, false, false, false, false] ?_
      refine pu_ 8 (some 31) HT_ #[true, true, true, false, true, false, true, false, true, false, false, false, false, false, false, false, false] ?_
      refine pu_ 9 (some 32) HT_ #[true, true, true, false, true, false, true, false, true, true, false, false, false, false, false, false, false] ?_
      refine pu_ 10 (some 33) HT_ #[true, true, true, false, true, false, true, false, true, true, true, false, false, false, false, false, false] ?_
      refine pu_ 11 (some 34) HT_ #[true, true, true, false, true, false, true, false, true, true, true, true, false, false, false, false, false] ?_
      refine pu_ 12 (some 35) HT_ #[true, true, true, false, true, false, true, false, true, true, true, true, true, false, false, false, false] ?_
      refine pu_ 13 (some 36) HT_ #[true, true, true, false, true, false, true, false, true, true, true, true, true, true, false, false, false] ?_
      refine take_ (i := 7) (N := some 30) (v := ?_) (a' := ?_) #[true, true, true, false, true, false, true, true, true, true, true, true, true, true, false, false, false] rfl rfl (take_ofW HT_.out HW_.out (by kernel_rfl)) (fun _ _ _ h => h) (Or.inl ⟨by rfl, ?_⟩) hHeld ?_ ?_
      rotate_left
      · rintro w' ⟨s0, s1⟩
        go_simp
        with_reducible rfl
      rotate_left
      · simp only [Act.put, List.setIfInBounds_toArray, List.set_cons_zero, List.set_cons_succ, i64_w, i32_w]
        rfl
      refine one_ (i := 3) (N := some 26) #[true, true, true, true, true, false, true, true, true, true, true, true, true, true, false, false, false] rfl rfl (one_of HT_.out (by kernel_rfl)) (by decide) (fun K hK => ?_)
      refine Kd.R_lit_step (Kd.int .i64) _ 3 ?hg (N := 26) ?hd (xs := ([wrap64 (a2 - a1)] : List Int)) (inner := [.int .i64 (wrap64 (a2 - a1))]) (ok := fun _ => True) (okp := fun _ => True) ?hr ?hp (fun _ hk => hk) trivial (Below.refl _ _) (Nat.le_refl _) (by simp) ?_; (case hd => rfl); (case hg => rfl); (case hr => first | (go_simp; done) | (go_simp; rfl)); (case hp => exact (Reps.one (show Kd.M (Kd.int .i64) _ _ _ (wrap64 (a2 - a1)) [.int .i64 (wrap64 (a2 - a1))] from rfl) (Reps.none _ _)))
      intro v117 w33 ho34 hb hg_ hnew_
      clear hg_ hnew_
      (first | rw [← Ny116.out] at ho34 | (simp only [Int.reduceToNat] at ho34; rw [← Ny116.out] at ho34))
      have HO118 := Aside0.mk (Kd.R_lower (Kd.R_new' ho34 (Kd.R_lt (Pr_ HO106.out))) Bz_)
      replace HO106 := Aside0.mk (Kd.R_elder' (Pr_ HO106.out) (Kd.R_base ho34) hb)
      replace BK101 := kb_ BK101 hb
      replace BK102 := kb_ BK102 hb
      replace HB := Bs_ hb
      clear hb ho34
      obtain ⟨Ao36, co36, eo36⟩ := Kd.R_slice HO106.out
      (first | subst eo36 | (injection eo36 with f1_ f2_ f3_; have f4_ := f1_.symm; have f5_ := f3_.symm; clear f1_ f2_ f3_; subst f4_; subst f5_))
      refine hK.out _ _ ⟨(blk_cell BK101.out 0).trans rfl, (blk_cell BK101.out 1).trans rfl⟩ (fun hHeld => ?_)
      clear hK K
      refine norm_ (a' := ?_) ?_ ?_
      rotate_left
      · show Act.put _ (some 26) _ = _
        simp only [Act.put, List.setIfInBounds_toArray, List.set_cons_zero, List.set_cons_succ, i64_w, i32_w]
        rfl
      refine one_ (i := 5) (N := some 28) #[true, true, true, true, true, true, true, true, true, true, true, true, true, true, false, false, false] rfl rfl (one_of HT_.out (by kernel_rfl)) (by decide) (fun K hK => ?_)
      refine Kd.R_append_rows_step (Kd.int .i64) (w0 := w) w.heap.size (by rfl) (.tmp 26) (.tmp 27) 22 3 (.int .i64 0) 8 rfl Tryd.underlying22 info3 rfl (by decide) (by omega) v117 y116 t104 _ _ _ (fun k_ => some k_ ≠ (.slice Ao36 t104.length co36 : Value).ownBlock) (fun _ => False) rfl rfl ?aO ?aR (fun _ _ h => h) (fun _ h => h.elim) ?aF ?aB ?aS ?aL ?_
      (case aR => exact Pc_ ((Kd.R_reads' HO106.out).2.2))
      (case aB => exact Bl_)
      (case aF => exact (fun k_ hk => Kd.fresh' (Kd.R_lt (Pr_ HO106.out)) k_ hk))
      (case aO => exact (by (with_reducible repeat (first | apply Kd.R_alloc | apply Kd.R_drewN | apply Kd.R_drew)); exact Kd.R_mono HO118.out (fun _ hk => hk.2)))
      (case aS => exact Bz_)
      (case aL => have := LMc25.out; omega)
      intro v120 w35 ho hb hg hat
      rw [← Ny119.out] at ho
      replace BK101 := kg_ BK101 hg (Kd.R_ne HO118.out BK101.out (by decide))
      replace BK102 := kg_ BK102 hg (Kd.R_ne HO118.out BK102.out (by decide))
      replace HO106 := Aside0.mk (Kd.R_after (ok := (fun _ => True)) (Pr_ HO106.out) hg hat)
      replace HB := Aside0.mk (hb)
      have HO121 := Aside0.mk (ho)
      clear HO118
      clear ho hb hg hat
      refine hK.out _ _ ⟨(blk_cell BK101.out 0).trans rfl, (blk_cell BK101.out 1).trans rfl⟩ (fun hHeld => ?_)
      clear hK K
      refine norm_ (a' := ?_) ?_ ?_
      rotate_left
      · show Act.put _ (some 28) _ = _
        simp only [Act.put, List.setIfInBounds_toArray, List.set_cons_zero, List.set_cons_succ, i64_w, i32_w]
        rfl
      refine one_ (i := 14) (N := some 37) #[true, true, true, true, true, true, true, true, true, true, true, true, true, true, true, false, false] rfl rfl (one_of HT_.out (by kernel_rfl)) (by decide) (fun K hK => ?_)
      refine goes_ Tryd.func89 (by kernel_rfl) rfl #[.slice A0_1 l0_1.length c0_1, .int .i64 (wrap64 0), .int .i64 (wrap64 0)] (by rfl) rfl rfl Ga_ ?_
      with_reducible refine (mould_part_string.calls _ _ l0_1 (wrap64 0) (wrap64 0) t122 _ ?side1 ?side2 A26.out).mono ?_
      (case side1 => exact Pc_ (Kd.C_below HR0_1.out HB.out))
      (case side2 => exact HC0_1.out)
      rintro e w37 ⟨v123, rfl, ho0, hb⟩
      refine ⟨_, rfl, ?_⟩
      replace HO106 := Aside0.mk (Kd.R_below (Pr_ HO106.out) hb)
      replace HO121 := Aside0.mk (Kd.R_below (Pr_ HO121.out) hb)
      have HO124 := Aside0.mk (Kd.R_lower ho0 Bz_)
      replace BK101 := kb_ BK101 hb
      replace BK102 := kb_ BK102 hb
      replace HB := Bs_ hb
      (try clear hb)
      (try clear hb2)
      (try clear hk)
      (try clear hi)
      (try clear ho0)
      obtain ⟨Ao38, co38, eo38⟩ := Kd.R_slice HO124.out
      (first | subst eo38 | (injection eo38 with f1_ f2_ f3_; have f4_ := f1_.symm; have f5_ := f3_.symm; clear f1_ f2_ f3_; subst f4_; subst f5_))
      obtain ⟨Ao39, co39, eo39⟩ := Kd.R_slice HO121.out
      (first | subst eo39 | (injection eo39 with f1_ f2_ f3_; have f4_ := f1_.symm; have f5_ := f3_.symm; clear f1_ f2_ f3_; subst f4_; subst f5_))
      refine hK.out _ _ ⟨(blk_cell BK101.out 0).trans rfl, (blk_cell BK101.out 1).trans rfl⟩ (fun hHeld => ?_)
      clear hK K
      refine norm_ (a' := ?_) ?_ ?_
      rotate_left
      · show Act.put _ (some 37) _ = _
        simp only [Act.put, List.setIfInBounds_toArray, List.set_cons_zero, List.set_cons_succ, i64_w, i32_w]
        rfl
      refine pu_ 15 (some 38) HT_ #[true, true, true, true, true, true, true, true, true, true, true, true, true, true, true, true, false] ?_
      refine one_ (i := 16) (N := none) #[true, true, true, true, true, true, true, true, true, true, true, true, true, true, true, true, true] rfl rfl (one_of HT_.out (by kernel_rfl)) (by decide) (fun K hK => ?_)
      have hs40 : w37.cell? ⟨gb102, 0, none⟩ = some (.slice none 0 0) := (blk_cell BK102.out 0).trans rfl
      have hfs40 := blk_frozen BK102.out 0
      have hns40_0 := NB101_102.out
      have hms40_0 := NB102_101.out
      have hs41 : w37.cell? ⟨gb102, 1, none⟩ = some (.slice none 0 0) := (blk_cell BK102.out 1).trans rfl
      have hfs41 := blk_frozen BK102.out 1
      have hns41_0 := NB101_102.out
      have hms41_0 := NB102_101.out
      refine skip_ (w1 := ?_) (by rfl) rfl ?_ ?_
      rotate_left
      · go_simp
        rfl
      refine hK.out _ _ ⟨((cell_far (p := ⟨gb102, _, none⟩) NB101_102.out _).trans (((cell_far (p := ⟨gb102, _, none⟩) NB101_102.out _).trans (hHeld.1)))), ((cell_far (p := ⟨gb102, _, none⟩) NB101_102.out _).trans (((cell_far (p := ⟨gb102, _, none⟩) NB101_102.out _).trans (hHeld.2))))⟩ (fun hHeld => ?_)
      clear hK K
      refine done_ (done_of HT_.out (by kernel_rfl)) ?_
      try go_wp2
      refine bodyPost_ret (results_cell_row rfl _ _ gb102 25 #[.slice Ao39 y119.length co39, .slice Ao38 t122.length co38] (0, 0) _ rfl (by (with_reducible repeat (first | refine blk_drewN ?_ _ | refine blk_drew ?_ | refine blk_alloc ?_ _)); refine blk_put (cs := #[.slice Ao39 y119.length co39, .slice none 0 0]) ?_ 1 _ rfl; (with_reducible repeat (first | refine blk_drewN ?_ _ | refine blk_drew ?_ | refine blk_alloc ?_ _)); refine blk_put (cs := #[.slice none 0 0, .slice none 0 0]) ?_ 0 _ rfl; (with_reducible repeat (first | refine blk_drewN ?_ _ | refine blk_drew ?_ | refine blk_alloc ?_ _)); exact BK102.out) Tryd.underlying25 rfl (by kernel_rfl)) rfl ?_
      exact ⟨_, _, Re_, by (with_reducible repeat (first | apply Kd.R_alloc | apply Kd.R_drewN | apply Kd.R_drew)); exact Kd.R_mono (Kd.R_far (p := ⟨gb102, 1, none⟩) (Kd.R_far (p := ⟨gb102, 0, none⟩) (Kd.R_types HO121.out BK102.out (by decide)) (fun _ hk => hk.2) (.slice Ao39 y119.length co39)) (fun _ hk => hk.2) (.slice Ao38 t122.length co38)) (fun _ hk => trivial), by (with_reducible repeat (first | apply Kd.R_alloc | apply Kd.R_drewN | apply Kd.R_drew)); exact Kd.R_mono (Kd.R_far (p := ⟨gb102, 1, none⟩) (Kd.R_far (p := ⟨gb102, 0, none⟩) (Kd.R_types HO124.out BK102.out (by decide)) (fun _ hk => hk.2) (.slice Ao39 y119.length co39)) (fun _ hk => hk.2) (.slice Ao38 t122.length co38)) (fun _ hk => trivial), Bl_⟩
    · rw [if_neg c25] at H
      exact absurd H (by simp)
/-! ### mould_Reverse: function 25 -/
mutual
def mould_Reverse.j0 : Nat → Bool → List Int → List ByteArray → Option (List Int × List ByteArray × Int)
  | 0, _, _, _ => none
  | k + 1, x12, x102000, x102001 => if x12 = true then ((slices_Clone_int_int.f x102000).bind fun t107 => ((slices_Clone_string_string.f x102001).bind fun t110 => (some (t107, t110, 0)))) else ((slices_Clone_int_int.f x102000).bind fun t113 => ((val_Many.f x102000 x102001).bind fun t117 => (mould_Reverse.l0 k (wrap64 (t117 - 1)) x102000 x102001 t113 ([] : List ByteArray))))
def mould_Reverse.l0 : Nat → Int → List Int → List ByteArray → List Int → List ByteArray → Option (List Int × List ByteArray × Int)
  | 0, _, _, _, _, _ => none
  | k + 1, x5, x102000, x102001, x117000, x117001 => if x5 ≥ 0 then ((mould_some.f x102000 x102001 x5 (wrap64 (x5 + 1))).bind fun bt118 => (if x117001.length + bt118.2.length < 8796093022208 then (mould_Reverse.l0 k (wrap64 (x5 - 1)) x102000 x102001 x117000 (x117001 ++ bt118.2)) else (none))) else (some (x117000, x117001, 0))
end
def mould_Reverse.f (k : Nat) (l0_0 : List Int) (l0_1 : List ByteArray) : Option (List Int × List ByteArray × Int) := (mould_fine.f k (([(⟨l0_0, l0_1⟩ : S25)] : List (S25)))).bind fun t106 => (if t106 = true then (if (l0_0.length : Int) = 0 then (mould_Reverse.j0 k true l0_0 l0_1) else (mould_Reverse.j0 k ((l0_1.length : Int) == 0) l0_0 l0_1)) else (some (([] : List Int), ([] : List ByteArray), 1)))
def mould_Reverse.T4 : Bool × List (List Nat × List Nat) := (true, [([], []), ([0], [0]), ([1], [1]), ([], []), ([3], [3]), ([4, 2], [4]), ([2, 5], [2, 5]), ([6, 5, 0, 1, 2, 3, 4, 5, 6], [6]), ([7, 0, 1, 2, 3, 4, 5, 6, 7], [])])
def mould_Reverse.B4 : List Nat := [0, 1, 3, 0, 8, 31, 63, 127, 255]
theorem mould_Reverse.tab4 : rtab .any (opsOf Tryd.f25 4) = mould_Reverse.T4 := by kernel_rfl
theorem mould_Reverse.bits4 : waitsOk mould_Reverse.T4.2 mould_Reverse.B4 = true := by kernel_rfl
def mould_Reverse.T9 : Bool × List (List Nat × List Nat) := (true, [([], []), ([0], [0]), ([], []), ([], []), ([], []), ([4], [4]), ([2, 3, 5], [2, 3, 5]), ([6], [6]), ([1, 7, 6], [1, 7]), ([0, 1, 2, 3, 4, 5, 6, 7, 8], []), ([9, 8, 8, 0, 1, 2, 3, 4, 5, 6, 7, 8], [8, 9])])
def mould_Reverse.B9 : List Nat := [0, 1, 0, 0, 0, 16, 60, 124, 255, 511, 1023]
theorem mould_Reverse.tab9 : rtab .any (opsOf Tryd.f25 9) = mould_Reverse.T9 := by kernel_rfl
theorem mould_Reverse.bits9 : waitsOk mould_Reverse.T9.2 mould_Reverse.B9 = true := by kernel_rfl
set_option maxHeartbeats 8000000 in
set_option maxRecDepth 100000 in
theorem mould_Reverse.calls (k : Nat) (P0_0_ : Nat → Prop) (A0_0 : Option Addr) (c0_0 : Nat) (l0_0 : List Int) (P0_1_ : Nat → Prop) (A0_1 : Option Addr) (c0_1 : Nat) (l0_1 : List ByteArray) (r1 : List Int) (r2 : List ByteArray) (r3 : Int) (w : World) (hs0_0 : Kd.V (Kd.int .i64) 3 w w.heap.size (fun k_ => P0_0_ k_) (.slice A0_0 l0_0.length c0_0) l0_0) (hs0_1 : Kd.V Kd.string 9 w w.heap.size (fun k_ => P0_1_ k_) (.slice A0_1 l0_1.length c0_1) l0_1) (h : mould_Reverse.f k l0_0 l0_1 = some (r1, r2, r3)) :
    Calls Tryd.prog 25 #[.agg #[.slice A0_0 l0_0.length c0_0, .slice A0_1 l0_1.length c0_1]] w fun e w' => ∃ v0_ v1_ : Value, e = .returned (.tuple #[.agg #[v0_, v1_], .int .i64 r3]) ∧ Kd.R (Kd.int .i64) 3 w' w.heap.size (fun k_ => (w.heap.size ≤ k_)) v0_ r1 ∧ Kd.R Kd.string 9 w' w.heap.size (fun k_ => (w.heap.size ≤ k_)) v1_ r2 ∧ Below w.heap.size w w' := by
  have hu25 := Tryd.underlying25
  have HO0_0 := Aside0.mk (show Kd.V (Kd.int .i64) 3 w w.heap.size (fun k_ => ((P0_0_ k_ ∨ P0_1_ k_) ∨ w.heap.size ≤ k_)) (.slice A0_0 l0_0.length c0_0) l0_0 from Kd.V_mono hs0_0 (fun k_ hk => .inl (.inl hk)))
  have HO0_1 := Aside0.mk (show Kd.V Kd.string 9 w w.heap.size (fun k_ => ((P0_0_ k_ ∨ P0_1_ k_) ∨ w.heap.size ≤ k_)) (.slice A0_1 l0_1.length c0_1) l0_1 from Kd.V_mono hs0_1 (fun k_ hk => .inl (.inr hk)))
  have HB := Aside0.mk (Below.refl w.heap.size w)
  have H : ((mould_fine.f k (([(⟨l0_0, l0_1⟩ : S25)] : List (S25)))).bind fun t106 => (if t106 = true then (if (l0_0.length : Int) = 0 then (mould_Reverse.j0 k true l0_0 l0_1) else (mould_Reverse.j0 k ((l0_1.length : Int) == 0) l0_0 l0_1)) else (some (([] : List Int), ([] : List ByteArray), 1)))) = some (r1, r2, r3) := h
  clear h
  obtain ⟨y103, hy103⟩ : ∃ y_ : List (S25), y_ = (([(⟨l0_0, l0_1⟩ : S25)] : List (S25))) := ⟨_, rfl⟩
  replace H : ((mould_fine.f k y103).bind fun t106 => (if t106 = true then (if (l0_0.length : Int) = 0 then (mould_Reverse.j0 k true l0_0 l0_1) else (mould_Reverse.j0 k ((l0_1.length : Int) == 0) l0_0 l0_1)) else (some (([] : List Int), ([] : List ByteArray), 1)))) = some (r1, r2, r3) := by first | (rw [hy103]; with_reducible exact H) | (have H2_ := (Option.bind_some _ _).symm.trans H; rw [hy103]; with_reducible exact H2_) | (have H2_ := (Option.bind_some _ _).symm.trans H; with_reducible exact H2_) | with_reducible exact H | (rw [hy103]; exact H) | exact H
  have Ny103 := Aside0.mk hy103
  clear hy103
  obtain ⟨t106, A2, H⟩ := bnd_ H
  try dsimp -simprocs only at H
  by_cases c3 : t106 = true
  · subst c3
    have H1 : (if (l0_0.length : Int) = 0 then (mould_Reverse.j0 k true l0_0 l0_1) else (mould_Reverse.j0 k ((l0_1.length : Int) == 0) l0_0 l0_1)) = some (r1, r2, r3) := by rw [if_pos rfl] at H; exact H
    clear H
    have H := H1
    clear H1
    have HC4 := Aside0.mk H
    clear H
    go_enter Tryd.func25, Tryd.ntmps25
    go_upto_region 3 with (first | ((with_reducible refine gate_dst (N := 1) rfl ?_); (try (refine gate_guard (by rfl) ?_; dsimp only)); refine bx_ 1 #[.slice A0_0 l0_0.length c0_0, .slice A0_1 l0_1.length c0_1] 25 ?_; intro gb101 hg w5 hbox hb; replace HO0_0 := Aside0.mk (Kd.V_below (Kd.V_elderB (Pv_ HO0_0.out) gb101 (Nat.le_of_eq hg.symm)) hb); replace HO0_1 := Aside0.mk (Kd.V_below (Kd.V_elderB (Pv_ HO0_1.out) gb101 (Nat.le_of_eq hg.symm)) hb); have BK101 := Aside0.mk (hbox); have GW101 := (Bg_ hg : Aside0 (w.heap.size ≤ gb101)); have GE101 := (Bg_ hg : Aside0 (w.heap.size ≤ gb101)); replace HB := Bs_ hb; clear hb hbox hg) | ((with_reducible refine gate_dst (N := 2) rfl ?_); (try (refine gate_guard (by rfl) ?_; dsimp only)); refine bx_ 2 #[.slice none 0 0, .slice none 0 0] 25 ?_; intro gb102 hg w6 hbox hb; replace HO0_0 := Aside0.mk (Kd.V_below (Kd.V_elderB (Pv_ HO0_0.out) gb102 (Nat.le_of_eq hg.symm)) hb); replace HO0_1 := Aside0.mk (Kd.V_below (Kd.V_elderB (Pv_ HO0_1.out) gb102 (Nat.le_of_eq hg.symm)) hb); have BK102 := Aside0.mk (hbox); have GW102 := (Bg_ hg : Aside0 (w.heap.size ≤ gb102)); have GE102 := (Bg_ hg : Aside0 (w.heap.size ≤ gb102)); replace HB := Bs_ hb; have NB101_102 := nl_ hg BK101; have NB102_101 := ng_ hg BK101; replace BK101 := kb_ BK101 hb; clear hb hbox hg; have hnb7 := NB101_102.out; have hnc7 := NB102_101.out; obtain ⟨hcz8_0, hcz8_1⟩ := c2_ BK101; obtain ⟨hfz8_0, hfz8_1⟩ := f2_ BK101) | ((with_reducible refine gate_dst (N := 8) rfl ?_); (try (refine gate_guard (by rfl) ?_; dsimp only)); refine Kd.N_lit k25 _ 25 ?hg (N' := 8) ?hd (xs := ([(⟨l0_0, l0_1⟩ : S25)] : List (S25))) (inner := [.slice A0_0 l0_0.length c0_0, .slice A0_1 l0_1.length c0_1]) (ok := (fun k_ => ((P0_0_ k_ ∨ P0_1_ k_) ∨ w.heap.size ≤ k_) ∧ k_ ≠ gb101 ∧ k_ ≠ gb102)) (okp := (fun k_ => ((P0_0_ k_ ∨ P0_1_ k_) ∨ w.heap.size ≤ k_) ∧ k_ ≠ gb101 ∧ k_ ≠ gb102)) ?hr ?hp (fun _ hk => hk) ((show ∀ k_, w6.heap.size ≤ k_ → (fun k_ => ((P0_0_ k_ ∨ P0_1_ k_) ∨ w.heap.size ≤ k_) ∧ k_ ≠ gb101 ∧ k_ ≠ gb102) k_ from fun k_ hk => ⟨(.inr (Nat.le_trans Bz_ hk)), Kd.freshB (g := gb101) (o := .cells #[.slice A0_0 l0_0.length c0_0, .slice A0_1 l0_1.length c0_1] 25 (0, 0)) (Bk_ BK101.out) k_ hk, Kd.freshB (g := gb102) (o := .cells #[.slice none 0 0, .slice none 0 0] 25 (0, 0)) (Bk_ BK102.out) k_ hk⟩) _ (Nat.le_refl _)) (Below.refl _ _) (Nat.le_refl _) (by simp) ?_; (case hd => rfl); (case hg => rfl); (case hr => first | (go_simp; done) | (go_simp; rfl)); (case hp => exact (Reps.c2 (show Kd.FK k25 _ _ (⟨l0_0, l0_1⟩ : S25) [.slice A0_0 l0_0.length c0_0, .slice A0_1 l0_1.length c0_1] from (k25_mkF _ _ (⟨l0_0, l0_1⟩ : S25) (Kd.V_reads' (Kd.V_mono (ok' := (fun k_ => ((P0_0_ k_ ∨ P0_1_ k_) ∨ w.heap.size ≤ k_) ∧ k_ ≠ gb101 ∧ k_ ≠ gb102)) (HO0_0.out) (fun k_ hk => ⟨hk.1.1, ⟨hk.1.2, hk.2⟩⟩))).2.1 (Kd.V_F (Kd.V_mono (ok' := (fun k_ => ((P0_0_ k_ ∨ P0_1_ k_) ∨ w.heap.size ≤ k_) ∧ k_ ≠ gb101 ∧ k_ ≠ gb102)) (HO0_0.out) (fun k_ hk => ⟨hk.1.1, ⟨hk.1.2, hk.2⟩⟩))) (Kd.V_reads' (Kd.V_mono (ok' := (fun k_ => ((P0_0_ k_ ∨ P0_1_ k_) ∨ w.heap.size ≤ k_) ∧ k_ ≠ gb101 ∧ k_ ≠ gb102)) (HO0_1.out) (fun k_ hk => ⟨hk.1.1, ⟨hk.1.2, hk.2⟩⟩))).2.1 (Kd.V_F (Kd.V_mono (ok' := (fun k_ => ((P0_0_ k_ ∨ P0_1_ k_) ∨ w.heap.size ≤ k_) ∧ k_ ≠ gb101 ∧ k_ ≠ gb102)) (HO0_1.out) (fun k_ hk => ⟨hk.1.1, ⟨hk.1.2, hk.2⟩⟩))))) (Reps.none _ _))); intro v104 w9 ho10 hb hg_ hnew_; clear hg_ hnew_; (first | rw [← Ny103.out] at ho10 | (simp only [Int.reduceToNat] at ho10; rw [← Ny103.out] at ho10)); replace HO0_0 := Aside0.mk (Kd.V_elder' (Pv_ HO0_0.out) (Kd.N_base ho10) hb); replace HO0_1 := Aside0.mk (Kd.V_elder' (Pv_ HO0_1.out) (Kd.N_base ho10) hb); have HO105 := Aside0.mk (Kd.N_lower ho10 Bz_); replace BK101 := kb_ BK101 hb; replace BK102 := kb_ BK102 hb; replace HB := Bs_ hb; clear hb ho10; obtain ⟨Ao11, co11, eo11⟩ := Kd.N_slice HO105.out; subst eo11) | ((with_reducible refine gate_callee (f := 50) rfl ?_); refine goesL_ (some 9) rfl rfl Tryd.func50 (by kernel_rfl) rfl #[.slice Ao11 y103.length co11] rfl Ga_ ?_; (with_reducible refine (mould_fine.calls k _ _ y103 true _ ?side1 ?side2 A2.out).mono ?_); (case side1 => exact Pc_ ((Kd.N_reads' HO105.out).2.2)); (case side2 => exact (Kd.N_reads' HO105.out).2.1); rintro e w12 ⟨rfl, hb⟩; refine ⟨_, rfl, ?_⟩; replace HO0_0 := Aside0.mk (Kd.V_below (Pv_ HO0_0.out) hb); replace HO0_1 := Aside0.mk (Kd.V_below (Pv_ HO0_1.out) hb); replace HO105 := Aside0.mk (Kd.N_below (by (with_reducible repeat (first | apply Kd.N_alloc | apply Kd.N_drewN | apply Kd.N_drew)); exact HO105.out) hb); replace BK101 := kb_ BK101 hb; replace BK102 := kb_ BK102 hb; replace HB := Bs_ hb; (try clear hb); (try clear hb2); (try clear hk); (try clear hi)))
    (try simp only [Act.put, List.setIfInBounds_toArray, List.set_cons_zero, List.set_cons_succ])
    go_cut [12] (fun v12 wc => ∃ (kq : Nat) (x12_3 : Bool), v12 = .bool x12_3 ∧ Aside0 (mould_Reverse.j0 kq x12_3 l0_0 l0_1 = some (r1, r2, r3)) ∧ Aside0 (kq ≤ k) ∧ Aside0 (Kd.V (Kd.int .i64) 3 wc w.heap.size (fun k_ => ((P0_0_ k_ ∨ P0_1_ k_) ∨ w.heap.size ≤ k_) ∧ k_ ≠ gb101 ∧ k_ ≠ gb102) (.slice A0_0 l0_0.length c0_0) l0_0) ∧ Aside0 (Kd.V Kd.string 9 wc w.heap.size (fun k_ => ((P0_0_ k_ ∨ P0_1_ k_) ∨ w.heap.size ≤ k_) ∧ k_ ≠ gb101 ∧ k_ ≠ gb102) (.slice A0_1 l0_1.length c0_1) l0_1) ∧ Aside0 (wc.heap[gb101]? = some (.cells #[(.slice A0_0 l0_0.length c0_0), (.slice A0_1 l0_1.length c0_1)] 25 (0, 0))) ∧ Aside0 (wc.heap[gb102]? = some (.cells #[(.slice none 0 0), (.slice none 0 0)] 25 (0, 0))) ∧ Aside0 (Below w.heap.size w wc))
    case first =>
      have H := HC4.out
      clear HC4
      by_cases c13 : (l0_0.length : Int) = 0
      · rw [if_pos c13] at H
        have c13b0 : ((l0_0.length : Int) == 0) = true := beq_iff_eq.mpr c13
        have c13b1 : ((l0_0.length : Int) != 0) = false := bne_eq_false_iff_eq.mpr c13
        clear c13
        (first | rw [c13b0] | (simp only [i64_w, i32_w]; rw [c13b0]) | skip)
        have H' := Aside0.mk H
        clear H
        have hnb14 := NB101_102.out
        have hnc14 := NB102_101.out
        obtain ⟨hcz15_0, hcz15_1⟩ := c2_ BK101
        obtain ⟨hfz15_0, hfz15_1⟩ := f2_ BK101
        go_wp2
        go_meet
        case rel => exact ⟨_, (true), Rf_, H', ⟨by first | omega | exact Nat.le_refl _⟩, ⟨by (with_reducible repeat (first | apply Kd.V_alloc | apply Kd.V_drewN | apply Kd.V_drew)); exact Kd.V_mono HO0_0.out (fun _ hk => ⟨hk.1.1.1, ⟨hk.1.1.2, hk.1.2⟩⟩)⟩, ⟨by (with_reducible repeat (first | apply Kd.V_alloc | apply Kd.V_drewN | apply Kd.V_drew)); exact Kd.V_mono HO0_1.out (fun _ hk => ⟨hk.1.1.1, ⟨hk.1.1.2, hk.1.2⟩⟩)⟩, ⟨by (with_reducible repeat (first | refine blk_drewN ?_ _ | refine blk_drew ?_ | refine blk_alloc ?_ _)); exact BK101.out⟩, ⟨by (with_reducible repeat (first | refine blk_drewN ?_ _ | refine blk_drew ?_ | refine blk_alloc ?_ _)); exact BK102.out⟩, ⟨Bl_⟩⟩
      · rw [if_neg c13] at H
        have c13b0 : ((l0_0.length : Int) == 0) = false := beq_eq_false_iff_ne.mpr c13
        have c13b1 : ((l0_0.length : Int) != 0) = true := bne_iff_ne.mpr c13
        have c13b2 : ¬ (l0_0 = []) := fun h_ => c13 (by rw [h_]; rfl)
        (first | rw [c13b0] | (simp only [i64_w, i32_w]; rw [c13b0]) | skip)
        have H' := Aside0.mk H
        clear H
        have hnb16 := NB101_102.out
        have hnc16 := NB102_101.out
        obtain ⟨hcz17_0, hcz17_1⟩ := c2_ BK101
        obtain ⟨hfz17_0, hfz17_1⟩ := f2_ BK101
        go_wp2
        go_meet
        case rel => exact ⟨_, (((l0_1.length : Int) == 0)), Rf_, H', ⟨by first | omega | exact Nat.le_refl _⟩, ⟨by (with_reducible repeat (first | apply Kd.V_alloc | apply Kd.V_drewN | apply Kd.V_drew)); exact Kd.V_mono HO0_0.out (fun _ hk => ⟨hk.1.1.1, ⟨hk.1.1.2, hk.1.2⟩⟩)⟩, ⟨by (with_reducible repeat (first | apply Kd.V_alloc | apply Kd.V_drewN | apply Kd.V_drew)); exact Kd.V_mono HO0_1.out (fun _ hk => ⟨hk.1.1.1, ⟨hk.1.1.2, hk.1.2⟩⟩)⟩, ⟨by (with_reducible repeat (first | refine blk_drewN ?_ _ | refine blk_drew ?_ | refine blk_alloc ?_ _)); exact BK101.out⟩, ⟨by (with_reducible repeat (first | refine blk_drewN ?_ _ | refine blk_drew ?_ | refine blk_alloc ?_ _)); exact BK102.out⟩, ⟨Bl_⟩⟩
    case rest =>
      clear HC4
      try clear c1
      try clear c2
      try clear p2
      try clear c3
      try clear c5
      try clear c7
      try clear c13
      try clear c13b0
      try clear c13b1
      try clear c13b2
      try clear c14
      try clear c16
      try clear hcz15_0
      try clear hcz15_1
      try clear hcz17_0
      try clear hcz17_1
      try clear hcz8_0
      try clear hcz8_1
      try clear hfz15_0
      try clear hfz15_1
      try clear hfz17_0
      try clear hfz17_1
      try clear hfz8_0
      try clear hfz8_1
      obtain ⟨kq, x12_3, rfl, HA, HJ3, HO_102000, HO_102001, BK101, BK102, HB⟩ := hcut
      cases kq with
      | zero => exact absurd HA.out (by simp [mould_Reverse.j0])
      | succ kj3 =>
        have H := HA.out
        clear HA
        simp only [mould_Reverse.j0] at H
        by_cases c18 : x12_3 = true
        · subst c18
          have H1 : ((slices_Clone_int_int.f l0_0).bind fun t107 => ((slices_Clone_string_string.f l0_1).bind fun t110 => (some (t107, t110, 0)))) = some (r1, r2, r3) := by rw [if_pos rfl] at H; exact H
          clear H
          have H := H1
          clear H1
          obtain ⟨t107, A19, H⟩ := bnd_ H
          try dsimp -simprocs only at H
          obtain ⟨t110, A20, H⟩ := bnd_ H
          try dsimp -simprocs only at H
          simp only [Option.some.injEq, Prod.mk.injEq] at H
          obtain ⟨rfl, rfl, rfl⟩ := H
          try go_wp2
          replace HO_102000 := Aside0.mk (Kd.V_drew HO_102000.out)
          replace HO_102001 := Aside0.mk (Kd.V_drew HO_102001.out)
          replace BK101 := Aside0.mk (blk_drew BK101.out)
          replace BK102 := Aside0.mk (blk_drew BK102.out)
          replace HB := Aside0.mk (below_drew1 HB.out)
          refine start_ (n := 9) (S := fun w' => w'.cell? ⟨gb101, 0, none⟩ = some (.slice A0_0 l0_0.length c0_0) ∧ w'.cell? ⟨gb101, 1, none⟩ = some (.slice A0_1 l0_1.length c0_1)) (ds := []) #[false, false, false, false, false, false, false, false, false] (by kernel_rfl) rfl rfl ⟨(blk_cell BK101.out 0).trans rfl, (blk_cell BK101.out 1).trans rfl⟩ (fun hHeld => ?_); refine with_tabW mould_Reverse.tab4 mould_Reverse.bits4 (fun HT_ HW_ => ?_)
          generalize wc.drew = w21 at HO_102000 HO_102001 BK101 BK102 HB hHeld ⊢
          refine pu_ 0 (some 23) HT_ #[true, false, false, false, false, false, false, false, false] ?_
          refine pu_ 3 (some 26) HT_ #[true, false, false, true, false, false, false, false, false] ?_
          refine take_ (i := 1) (N := some 24) (v := ?_) (a' := ?_) #[true, true, false, true, false, false, false, false, false] rfl rfl (take_ofW HT_.out HW_.out (by kernel_rfl)) (fun _ _ _ h => h) (Or.inl ⟨by rfl, ?_⟩) hHeld ?_ ?_
          rotate_left
          · rintro w' ⟨s0, s1⟩
            go_simp
            with_reducible rfl
          rotate_left
          · simp only [Act.put, List.setIfInBounds_toArray, List.set_cons_zero, List.set_cons_succ, i64_w, i32_w]
            rfl
          refine take_ (i := 4) (N := some 27) (v := ?_) (a' := ?_) #[true, true, false, true, true, false, false, false, false] rfl rfl (take_ofW HT_.out HW_.out (by kernel_rfl)) (fun _ _ _ h => h) (Or.inl ⟨by rfl, ?_⟩) hHeld ?_ ?_
          rotate_left
          · rintro w' ⟨s0, s1⟩
            go_simp
            with_reducible rfl
          rotate_left
          · simp only [Act.put, List.setIfInBounds_toArray, List.set_cons_zero, List.set_cons_succ, i64_w, i32_w]
            rfl
          refine one_ (i := 2) (N := some 25) #[true, true, true, true, true, false, false, false, false] rfl rfl (one_of HT_.out (by kernel_rfl)) (by decide) (fun K hK => ?_)
          refine goes_ Tryd.func55 (by kernel_rfl) rfl #[.slice A0_0 l0_0.length c0_0] (by rfl) rfl rfl Ga_ ?_
          with_reducible refine (slices_Clone_int_int.calls _ _ l0_0 t107 _ ?side1 ?side2 A19.out).mono ?_
          (case side1 => exact Pc_ ((Kd.V_reads' HO_102000.out).2.2))
          (case side2 => exact (Kd.V_reads' HO_102000.out).2.1)
          rintro e w22 ⟨v108, rfl, ho0, hb⟩
          refine ⟨_, rfl, ?_⟩
          replace HO_102000 := Aside0.mk (Kd.V_elder' (Pv_ HO_102000.out) (Kd.R_base ho0) hb)
          replace HO_102001 := Aside0.mk (Kd.V_elder' (Pv_ HO_102001.out) (Kd.R_base ho0) hb)
          have HO109 := Aside0.mk (Kd.R_lower (Kd.R_newM (M := fun k_ => (w.heap.size ≤ k_)) ho0 Bz_ (fun k_ h_ => h_)) Bz_)
          replace BK101 := kb_ BK101 hb
          replace BK102 := kb_ BK102 hb
          replace HB := Bs_ hb
          (try clear hb)
          (try clear hb2)
          (try clear hk)
          (try clear hi)
          (try clear ho0)
          refine hK.out _ _ ⟨(blk_cell BK101.out 0).trans rfl, (blk_cell BK101.out 1).trans rfl⟩ (fun hHeld => ?_)
          clear hK K
          refine norm_ (a' := ?_) ?_ ?_
          rotate_left
          · show Act.put _ (some 25) _ = _
            simp only [Act.put, List.setIfInBounds_toArray, List.set_cons_zero, List.set_cons_succ, i64_w, i32_w]
            rfl
          refine one_ (i := 5) (N := some 28) #[true, true, true, true, true, true, false, false, false] rfl rfl (one_of HT_.out (by kernel_rfl)) (by decide) (fun K hK => ?_)
          refine goes_ Tryd.func56 (by kernel_rfl) rfl #[.slice A0_1 l0_1.length c0_1] (by rfl) rfl rfl Ga_ ?_
          with_reducible refine (slices_Clone_string_string.calls _ _ l0_1 t110 _ ?side1 ?side2 A20.out).mono ?_
          (case side1 => exact Pc_ ((Kd.V_reads' HO_102001.out).2.2))
          (case side2 => exact (Kd.V_reads' HO_102001.out).2.1)
          rintro e w23 ⟨v111, rfl, ho0, hb⟩
          refine ⟨_, rfl, ?_⟩
          replace HO_102000 := Aside0.mk (Kd.V_elder' (Pv_ HO_102000.out) (Kd.R_base ho0) hb)
          replace HO_102001 := Aside0.mk (Kd.V_elder' (Pv_ HO_102001.out) (Kd.R_base ho0) hb)
          replace HO109 := Aside0.mk (Kd.R_below (Pr_ HO109.out) hb)
          have HO112 := Aside0.mk (Kd.R_lower (Kd.R_newM (M := fun k_ => (w.heap.size ≤ k_)) ho0 Bz_ (fun k_ h_ => h_)) Bz_)
          replace BK101 := kb_ BK101 hb
          replace BK102 := kb_ BK102 hb
          replace HB := Bs_ hb
          (try clear hb)
          (try clear hb2)
          (try clear hk)
          (try clear hi)
          (try clear ho0)
          obtain ⟨Ao24, co24, eo24⟩ := Kd.R_slice HO112.out
          (first | subst eo24 | (injection eo24 with f1_ f2_ f3_; have f4_ := f1_.symm; have f5_ := f3_.symm; clear f1_ f2_ f3_; subst f4_; subst f5_))
          obtain ⟨Ao25, co25, eo25⟩ := Kd.R_slice HO109.out
          (first | subst eo25 | (injection eo25 with f1_ f2_ f3_; have f4_ := f1_.symm; have f5_ := f3_.symm; clear f1_ f2_ f3_; subst f4_; subst f5_))
          refine hK.out _ _ ⟨(blk_cell BK101.out 0).trans rfl, (blk_cell BK101.out 1).trans rfl⟩ (fun hHeld => ?_)
          clear hK K
          refine norm_ (a' := ?_) ?_ ?_
          rotate_left
          · show Act.put _ (some 28) _ = _
            simp only [Act.put, List.setIfInBounds_toArray, List.set_cons_zero, List.set_cons_succ, i64_w, i32_w]
            rfl
          refine pu_ 6 (some 29) HT_ #[true, true, true, true, true, true, true, false, false] ?_
          refine one_ (i := 7) (N := none) #[true, true, true, true, true, true, true, true, false] rfl rfl (one_of HT_.out (by kernel_rfl)) (by decide) (fun K hK => ?_)
          have hs26 : w23.cell? ⟨gb102, 0, none⟩ = some (.slice none 0 0) := (blk_cell BK102.out 0).trans rfl
          have hfs26 := blk_frozen BK102.out 0
          have hns26_0 := NB101_102.out
          have hms26_0 := NB102_101.out
          have hs27 : w23.cell? ⟨gb102, 1, none⟩ = some (.slice none 0 0) := (blk_cell BK102.out 1).trans rfl
          have hfs27 := blk_frozen BK102.out 1
          have hns27_0 := NB101_102.out
          have hms27_0 := NB102_101.out
          refine skip_ (w1 := ?_) (by rfl) rfl ?_ ?_
          rotate_left
          · go_simp
            rfl
          refine hK.out _ _ ⟨((cell_far (p := ⟨gb102, _, none⟩) NB101_102.out _).trans (((cell_far (p := ⟨gb102, _, none⟩) NB101_102.out _).trans (hHeld.1)))), ((cell_far (p := ⟨gb102, _, none⟩) NB101_102.out _).trans (((cell_far (p := ⟨gb102, _, none⟩) NB101_102.out _).trans (hHeld.2))))⟩ (fun hHeld => ?_)
          clear hK K
          refine pu_ 8 (some 3) HT_ #[true, true, true, true, true, true, true, true, true] ?_
          refine done_ (done_of HT_.out (by kernel_rfl)) ?_
          try go_wp2
          refine bodyPost_ret (results_ct rfl _ _ gb102 25 #[.slice Ao25 t107.length co25, .slice Ao24 t110.length co24] (0, 0) _ rfl (by (with_reducible repeat (first | refine blk_drewN ?_ _ | refine blk_drew ?_ | refine blk_alloc ?_ _)); refine blk_put (cs := #[.slice Ao25 t107.length co25, .slice none 0 0]) ?_ 1 _ rfl; (with_reducible repeat (first | refine blk_drewN ?_ _ | refine blk_drew ?_ | refine blk_alloc ?_ _)); refine blk_put (cs := #[.slice none 0 0, .slice none 0 0]) ?_ 0 _ rfl; (with_reducible repeat (first | refine blk_drewN ?_ _ | refine blk_drew ?_ | refine blk_alloc ?_ _)); exact BK102.out) Tryd.underlying25 rfl (by kernel_rfl)) rfl ?_
          exact ⟨_, _, Re_, by (with_reducible repeat (first | apply Kd.R_alloc | apply Kd.R_drewN | apply Kd.R_drew)); exact Kd.R_mono (Kd.R_far (p := ⟨gb102, 1, none⟩) (Kd.R_far (p := ⟨gb102, 0, none⟩) (Kd.R_types HO109.out BK102.out (by decide)) (fun _ hk => hk.2) (.slice Ao25 t107.length co25)) (fun _ hk => hk.2) (.slice Ao24 t110.length co24)) (fun _ hk => hk.1.1), by (with_reducible repeat (first | apply Kd.R_alloc | apply Kd.R_drewN | apply Kd.R_drew)); exact Kd.R_mono (Kd.R_far (p := ⟨gb102, 1, none⟩) (Kd.R_far (p := ⟨gb102, 0, none⟩) (Kd.R_types HO112.out BK102.out (by decide)) (fun _ hk => hk.2) (.slice Ao25 t107.length co25)) (fun _ hk => hk.2) (.slice Ao24 t110.length co24)) (fun _ hk => hk.1.1), Bl_⟩
        · replace c18 := Bool.eq_false_iff.mpr c18
          subst c18
          have H1 : ((slices_Clone_int_int.f l0_0).bind fun t113 => ((val_Many.f l0_0 l0_1).bind fun t117 => (mould_Reverse.l0 kj3 (wrap64 (t117 - 1)) l0_0 l0_1 t113 ([] : List ByteArray)))) = some (r1, r2, r3) := by rw [if_neg (show ¬ (false = true) by decide)] at H; exact H
          clear H
          have H := H1
          clear H1
          obtain ⟨t113, A28, H⟩ := bnd_ H
          try dsimp -simprocs only at H
          obtain ⟨t117, A29, H⟩ := bnd_ H
          try dsimp -simprocs only at H
          have H' := Aside0.mk H
          clear H
          have hnb30 := NB101_102.out
          have hnc30 := NB102_101.out
          obtain ⟨hcz31_0, hcz31_1⟩ := c2_ BK101
          obtain ⟨hfz31_0, hfz31_1⟩ := f2_ BK101
          go_wp2_with (first | ((with_reducible refine gate_callee (f := 55) rfl ?_); refine goesL_ (some 32) rfl rfl Tryd.func55 (by kernel_rfl) rfl #[.slice A0_0 l0_0.length c0_0] rfl Ga_ ?_; (with_reducible refine (slices_Clone_int_int.calls _ _ l0_0 t113 _ ?side1 ?side2 A28.out).mono ?_); (case side1 => exact Pc_ ((Kd.V_reads' HO_102000.out).2.2)); (case side2 => exact (Kd.V_reads' HO_102000.out).2.1); rintro e w32 ⟨v114, rfl, ho0, hb⟩; refine ⟨_, rfl, ?_⟩; replace HO_102000 := Aside0.mk (Kd.V_elder' (Pv_ HO_102000.out) (Kd.R_base ho0) hb); replace HO_102001 := Aside0.mk (Kd.V_elder' (Pv_ HO_102001.out) (Kd.R_base ho0) hb); have HO115 := Aside0.mk (Kd.R_lower (Kd.R_newM (M := fun k_ => (w.heap.size ≤ k_)) ho0 Bz_ (fun k_ h_ => h_)) Bz_); replace BK101 := kb_ BK101 hb; replace BK102 := kb_ BK102 hb; replace HB := Bs_ hb; (try clear hb); (try clear hb2); (try clear hk); (try clear hi); (try clear ho0); obtain ⟨Ao33, co33, eo33⟩ := Kd.R_slice HO115.out; subst eo33) | ((with_reducible refine gate_dst (N := 4) rfl ?_); (try (refine gate_guard (by rfl) ?_; dsimp only)); refine bx_ 4 #[.slice none 0 0, .slice none 0 0] 25 ?_; intro gb116 hg w34 hbox hb; replace HO_102000 := Aside0.mk (Kd.V_below (Kd.V_elderB (Pv_ HO_102000.out) gb116 (Nat.le_of_eq hg.symm)) hb); replace HO_102001 := Aside0.mk (Kd.V_below (Kd.V_elderB (Pv_ HO_102001.out) gb116 (Nat.le_of_eq hg.symm)) hb); replace HO115 := Aside0.mk (Kd.R_below (Pr_ HO115.out) hb); have BK116 := Aside0.mk (hbox); have GW116 := (Bg_ hg : Aside0 (w.heap.size ≤ gb116)); have GE116 := (Bg_ hg : Aside0 (w.heap.size ≤ gb116)); replace HB := Bs_ hb; have NB101_116 := nl_ hg BK101; have NB116_101 := ng_ hg BK101; replace BK101 := kb_ BK101 hb; have NB102_116 := nl_ hg BK102; have NB116_102 := ng_ hg BK102; replace BK102 := kb_ BK102 hb; clear hb hbox hg; have hnb35 := NB116_101.out; have hnc35 := NB101_116.out; have hnb36 := NB116_102.out; have hnc36 := NB102_116.out; obtain ⟨hcz37_0, hcz37_1⟩ := c2_ BK116; obtain ⟨hfz37_0, hfz37_1⟩ := f2_ BK116; obtain ⟨hcz38_0, hcz38_1⟩ := c2_ BK101; obtain ⟨hfz38_0, hfz38_1⟩ := f2_ BK101) | ((with_reducible refine gate_callee (f := 32) rfl ?_); refine goesL_ (some 35) rfl rfl Tryd.func32 (by kernel_rfl) rfl #[.agg #[.slice A0_0 l0_0.length c0_0, .slice A0_1 l0_1.length c0_1]] rfl Ga_ ?_; (with_reducible refine (val_Many.calls _ _ l0_0 _ _ l0_1 t117 _ ?side1 ?side2 ?side3 ?side4 A29.out).mono ?_); (case side1 => refine (Kd.V_reads' (e := 3) (base := w.heap.size) (ok := fun k_ => (((((P0_0_ k_ ∨ P0_1_ k_) ∨ w.heap.size ≤ k_) ∧ (k_ ≠ gb101 ∧ k_ ≠ gb102)) ∧ some k_ ≠ (.slice Ao33 t113.length co33 : Value).ownBlock) ∧ k_ ≠ gb116)) (n := l0_0.length) (c := c0_0) ?_).2.2; exact (by (with_reducible repeat (first | apply Kd.V_alloc | apply Kd.V_drewN | apply Kd.V_drew)); exact (Kd.V_mono (Kd.V_far (p := ⟨gb116, 1, none⟩) (Kd.V_far (p := ⟨gb116, 0, none⟩) (Kd.V_mono HO_102000.out (fun k_ hk => (⟨hk, hk.2⟩ : _ ∧ k_ ≠ gb116))) (fun _ hk => hk.2) (.slice Ao33 t113.length co33)) (fun _ hk => hk.2) (.slice none 0 0)) (fun _ h_ => h_.1)))); (case side2 => exact (Kd.V_reads' HO_102000.out).2.1); (case side3 => refine (Kd.V_reads' (e := 9) (base := w.heap.size) (ok := fun k_ => (((((P0_0_ k_ ∨ P0_1_ k_) ∨ w.heap.size ≤ k_) ∧ (k_ ≠ gb101 ∧ k_ ≠ gb102)) ∧ some k_ ≠ (.slice Ao33 t113.length co33 : Value).ownBlock) ∧ k_ ≠ gb116)) (n := l0_1.length) (c := c0_1) ?_).2.2; exact (by (with_reducible repeat (first | apply Kd.V_alloc | apply Kd.V_drewN | apply Kd.V_drew)); exact (Kd.V_mono (Kd.V_far (p := ⟨gb116, 1, none⟩) (Kd.V_far (p := ⟨gb116, 0, none⟩) (Kd.V_mono HO_102001.out (fun k_ hk => (⟨hk, hk.2⟩ : _ ∧ k_ ≠ gb116))) (fun _ hk => hk.2) (.slice Ao33 t113.length co33)) (fun _ hk => hk.2) (.slice none 0 0)) (fun _ h_ => h_.1)))); (case side4 => exact (Kd.V_reads' HO_102001.out).2.1); rintro e w39 ⟨rfl, hb⟩; refine ⟨_, rfl, ?_⟩; replace HO_102000 := Aside0.mk (Kd.V_below (by (with_reducible repeat (first | apply Kd.V_alloc | apply Kd.V_drewN | apply Kd.V_drew)); exact (Kd.V_mono (Kd.V_far (p := ⟨gb116, 1, none⟩) (Kd.V_far (p := ⟨gb116, 0, none⟩) (Kd.V_mono HO_102000.out (fun k_ hk => (⟨hk, hk.2⟩ : _ ∧ k_ ≠ gb116))) (fun _ hk => hk.2) (.slice Ao33 t113.length co33)) (fun _ hk => hk.2) (.slice none 0 0)) (fun _ h_ => h_.1))) hb); replace HO_102001 := Aside0.mk (Kd.V_below (by (with_reducible repeat (first | apply Kd.V_alloc | apply Kd.V_drewN | apply Kd.V_drew)); exact (Kd.V_mono (Kd.V_far (p := ⟨gb116, 1, none⟩) (Kd.V_far (p := ⟨gb116, 0, none⟩) (Kd.V_mono HO_102001.out (fun k_ hk => (⟨hk, hk.2⟩ : _ ∧ k_ ≠ gb116))) (fun _ hk => hk.2) (.slice Ao33 t113.length co33)) (fun _ hk => hk.2) (.slice none 0 0)) (fun _ h_ => h_.1))) hb); replace HO115 := Aside0.mk (Kd.R_below (by (with_reducible repeat (first | apply Kd.R_alloc | apply Kd.R_drewN | apply Kd.R_drew)); exact (Kd.R_mono (Kd.R_far (p := ⟨gb116, 1, none⟩) (Kd.R_far (p := ⟨gb116, 0, none⟩) (Kd.R_types HO115.out BK116.out (by decide)) (fun _ hk => hk.2) (.slice Ao33 t113.length co33)) (fun _ hk => hk.2) (.slice none 0 0)) (fun _ h_ => h_.1))) hb); replace BK101 := Aside0.mk (blk_below (g := gb101) (o := .cells #[.slice A0_0 l0_0.length c0_0, .slice A0_1 l0_1.length c0_1] 25 (0, 0)) (by (with_reducible repeat (first | refine blk_drewN ?_ _ | refine blk_drew ?_ | refine blk_alloc ?_ _)); refine blk_far ?_ NB101_116.out _; (with_reducible repeat (first | refine blk_drewN ?_ _ | refine blk_drew ?_ | refine blk_alloc ?_ _)); refine blk_far ?_ NB101_116.out _; (with_reducible repeat (first | refine blk_drewN ?_ _ | refine blk_drew ?_ | refine blk_alloc ?_ _)); exact BK101.out) hb); replace BK102 := Aside0.mk (blk_below (g := gb102) (o := .cells #[.slice none 0 0, .slice none 0 0] 25 (0, 0)) (by (with_reducible repeat (first | refine blk_drewN ?_ _ | refine blk_drew ?_ | refine blk_alloc ?_ _)); refine blk_far ?_ NB102_116.out _; (with_reducible repeat (first | refine blk_drewN ?_ _ | refine blk_drew ?_ | refine blk_alloc ?_ _)); refine blk_far ?_ NB102_116.out _; (with_reducible repeat (first | refine blk_drewN ?_ _ | refine blk_drew ?_ | refine blk_alloc ?_ _)); exact BK102.out) hb); replace BK116 := Aside0.mk (blk_below (g := gb116) (o := .cells #[.slice Ao33 t113.length co33, .slice none 0 0] 25 (0, 0)) (by (with_reducible repeat (first | refine blk_drewN ?_ _ | refine blk_drew ?_ | refine blk_alloc ?_ _)); refine blk_put (cs := #[.slice Ao33 t113.length co33, .slice none 0 0]) ?_ 1 _ rfl; (with_reducible repeat (first | refine blk_drewN ?_ _ | refine blk_drew ?_ | refine blk_alloc ?_ _)); refine blk_put (cs := #[.slice none 0 0, .slice none 0 0]) ?_ 0 _ rfl; (with_reducible repeat (first | refine blk_drewN ?_ _ | refine blk_drew ?_ | refine blk_alloc ?_ _)); exact BK116.out) hb); replace HB := Bs_ hb; (try clear hb); (try clear hb2); (try clear hk); (try clear hi)))
          go_loopg [5] kj3 (fun kq v5 w' => ∃ (x5_2 : Int) (x117001_2 : List ByteArray) (u117001 : Value), v5 = .int .i64 x5_2 ∧ Aside0 (mould_Reverse.l0 kq x5_2 l0_0 l0_1 t113 x117001_2 = some (r1, r2, r3)) ∧ Aside0 (kq ≤ kj3) ∧ Aside0 (Kd.V (Kd.int .i64) 3 w' w.heap.size (fun k_ => ((P0_0_ k_ ∨ P0_1_ k_) ∨ w.heap.size ≤ k_) ∧ some k_ ≠ ((.slice Ao33 t113.length co33) : Value).ownBlock ∧ some k_ ≠ (u117001 : Value).ownBlock ∧ k_ ≠ gb101 ∧ k_ ≠ gb102 ∧ k_ ≠ gb116) (.slice A0_0 l0_0.length c0_0) l0_0) ∧ Aside0 (Kd.V Kd.string 9 w' w.heap.size (fun k_ => ((P0_0_ k_ ∨ P0_1_ k_) ∨ w.heap.size ≤ k_) ∧ some k_ ≠ ((.slice Ao33 t113.length co33) : Value).ownBlock ∧ some k_ ≠ (u117001 : Value).ownBlock ∧ k_ ≠ gb101 ∧ k_ ≠ gb102 ∧ k_ ≠ gb116) (.slice A0_1 l0_1.length c0_1) l0_1) ∧ Aside0 (Kd.R (Kd.int .i64) 3 w' w.heap.size (fun k_ => (w.heap.size ≤ k_)) (.slice Ao33 t113.length co33) t113) ∧ Aside0 (Kd.R Kd.string 9 w' w.heap.size (fun k_ => (w.heap.size ≤ k_)) u117001 x117001_2) ∧ Aside0 (w'.heap[gb101]? = some (.cells #[(.slice A0_0 l0_0.length c0_0), (.slice A0_1 l0_1.length c0_1)] 25 (0, 0))) ∧ Aside0 (w'.heap[gb102]? = some (.cells #[(.slice none 0 0), (.slice none 0 0)] 25 (0, 0))) ∧ Aside0 (w'.heap[gb116]? = some (.cells #[(.slice Ao33 t113.length co33), u117001] 25 (0, 0))) ∧ Aside0 (Below w.heap.size w w'))
          case atStart => exact ⟨(wrap64 (t117 - 1)), (([] : List ByteArray)), (.slice none 0 0), Rf_, H', ⟨Nat.le_refl _⟩, ⟨by (with_reducible repeat (first | apply Kd.V_alloc | apply Kd.V_drewN | apply Kd.V_drew)); exact Kd.V_mono HO_102000.out (fun _ hk => ⟨hk.1.1.1, ⟨hk.1.2, ⟨(by simp [Value.ownBlock]), ⟨hk.1.1.2.1, ⟨hk.1.1.2.2, hk.2⟩⟩⟩⟩⟩)⟩, ⟨by (with_reducible repeat (first | apply Kd.V_alloc | apply Kd.V_drewN | apply Kd.V_drew)); exact Kd.V_mono HO_102001.out (fun _ hk => ⟨hk.1.1.1, ⟨hk.1.2, ⟨(by simp [Value.ownBlock]), ⟨hk.1.1.2.1, ⟨hk.1.1.2.2, hk.2⟩⟩⟩⟩⟩)⟩, ⟨by (with_reducible repeat (first | apply Kd.R_alloc | apply Kd.R_drewN | apply Kd.R_drew)); exact Kd.R_mono HO115.out (fun _ hk => hk.1)⟩, ⟨by first | exact Kd.R_nil _ _ _ _ _ | exact Kd.N_nil _ _ _ _ _ | exact Kd.V_nil _ _ _ _ _ | exact Kd.Q_nil _ _ _ _ _ | exact Kd.S_nil _ _ _ _ _⟩, ⟨by (with_reducible repeat (first | refine blk_drewN ?_ _ | refine blk_drew ?_ | refine blk_alloc ?_ _)); exact BK101.out⟩, ⟨by (with_reducible repeat (first | refine blk_drewN ?_ _ | refine blk_drew ?_ | refine blk_alloc ?_ _)); exact BK102.out⟩, ⟨by (with_reducible repeat (first | refine blk_drewN ?_ _ | refine blk_drew ?_ | refine blk_alloc ?_ _)); exact BK116.out⟩, ⟨Bl_⟩⟩
          case round =>
            clear H'
            try clear c1
            try clear c2
            try clear p2
            try clear c3
            try clear c5
            try clear p6
            try clear c7
            try clear c13
            try clear c13b0
            try clear c13b1
            try clear c13b2
            try clear c14
            try clear c16
            try clear c18
            try clear c25
            try clear c30
            try clear c32
            try clear c35
            try clear c36
            try clear hcz15_0
            try clear hcz15_1
            try clear hcz17_0
            try clear hcz17_1
            try clear hcz31_0
            try clear hcz31_1
            try clear hcz37_0
            try clear hcz37_1
            try clear hcz38_0
            try clear hcz38_1
            try clear hcz8_0
            try clear hcz8_1
            try clear hfz15_0
            try clear hfz15_1
            try clear hfz17_0
            try clear hfz17_1
            try clear hfz31_0
            try clear hfz31_1
            try clear hfz37_0
            try clear hfz37_1
            try clear hfz38_0
            try clear hfz38_1
            try clear hfz8_0
            try clear hfz8_1
            try clear p2
            obtain ⟨x5_2, x117001_2, u117001, rfl, HA, HK2, HO_102000, HO_102001, HO_117000, HO_117001, BK101, BK102, BK116, HB⟩ := hrel
            cases gk with
            | zero => exact absurd HA.out (by simp [mould_Reverse.l0])
            | succ k2 =>
              have H := HA.out
              clear HA
              simp only [mould_Reverse.l0] at H
              by_cases c40 : x5_2 ≥ 0
              · rw [if_pos c40] at H
                have c40b0 : decide (0 ≤ x5_2) = true := decide_eq_true c40
                clear c40
                obtain ⟨⟨t118, t121⟩, A41, H⟩ := bnd_ H
                try dsimp -simprocs only at H
                by_cases c42 : x117001_2.length + t121.length < 8796093022208
                · rw [if_pos c42] at H
                  have LMc42 := Aside0.mk c42
                  clear c42
                  obtain ⟨y124, hy124⟩ : ∃ y_ : List ByteArray, y_ = (x117001_2 ++ t121) := ⟨_, rfl⟩
                  replace H : (mould_Reverse.l0 k2 (wrap64 (x5_2 - 1)) l0_0 l0_1 t113 y124) = some (r1, r2, r3) := by first | (rw [hy124]; with_reducible exact H) | (have H2_ := (Option.bind_some _ _).symm.trans H; rw [hy124]; with_reducible exact H2_) | (have H2_ := (Option.bind_some _ _).symm.trans H; with_reducible exact H2_) | with_reducible exact H | (rw [hy124]; exact H) | exact H
                  have Ny124 := Aside0.mk hy124
                  clear hy124
                  have H' := Aside0.mk H
                  clear H
                  try go_wp2
                  replace HO_102000 := Aside0.mk (Kd.V_drew HO_102000.out)
                  replace HO_102001 := Aside0.mk (Kd.V_drew HO_102001.out)
                  replace HO_117000 := Aside0.mk (Kd.R_drew HO_117000.out)
                  replace HO_117001 := Aside0.mk (Kd.R_drew HO_117001.out)
                  replace BK101 := Aside0.mk (blk_drew BK101.out)
                  replace BK102 := Aside0.mk (blk_drew BK102.out)
                  replace BK116 := Aside0.mk (blk_drew BK116.out)
                  replace HB := Aside0.mk (below_drew1 HB.out)
                  refine start_ (n := 11) (S := fun w' => w'.cell? ⟨gb116, 0, none⟩ = some (.slice Ao33 t113.length co33) ∧ w'.cell? ⟨gb116, 1, none⟩ = some (u117001) ∧ w'.cell? ⟨gb101, 0, none⟩ = some (.slice A0_0 l0_0.length c0_0) ∧ w'.cell? ⟨gb101, 1, none⟩ = some (.slice A0_1 l0_1.length c0_1)) (ds := [10]) #[false, false, false, false, false, false, false, false, false, false, false] (by kernel_rfl) rfl rfl ⟨(blk_cell BK116.out 0).trans rfl, (blk_cell BK116.out 1).trans rfl, (blk_cell BK101.out 0).trans rfl, (blk_cell BK101.out 1).trans rfl⟩ (fun hHeld => ?_); refine with_tabW mould_Reverse.tab9 mould_Reverse.bits9 (fun HT_ HW_ => ?_)
                  generalize wr.drew = w43 at HO_102000 HO_102001 HO_117000 HO_117001 BK101 BK102 BK116 HB hHeld ⊢
                  refine pu_ 0 (some 41) HT_ #[true, false, false, false, false, false, false, false, false, false, false] ?_
                  refine pu_ 3 (some 44) HT_ #[true, false, false, true, false, false, false, false, false, false, false] ?_
                  refine pu_ 4 (some 45) HT_ #[true, false, false, true, true, false, false, false, false, false, false] ?_
                  refine pu_ 5 (some 46) HT_ #[true, false, false, true, true, true, false, false, false, false, false] ?_
                  refine take_ (i := 1) (N := some 42) (v := ?_) (a' := ?_) #[true, true, false, true, true, true, false, false, false, false, false] rfl rfl (take_ofW HT_.out HW_.out (by kernel_rfl)) (fun _ _ _ h => h) (Or.inl ⟨by rfl, ?_⟩) hHeld ?_ ?_
                  rotate_left
                  · rintro w' ⟨s0, s1, s2, s3⟩
                    go_simp
                    with_reducible rfl
                  rotate_left
                  · simp only [Act.put, List.setIfInBounds_toArray, List.set_cons_zero, List.set_cons_succ, i64_w, i32_w]
                    rfl
                  refine take_ (i := 2) (N := some 43) (v := ?_) (a' := ?_) #[true, true, true, true, true, true, false, false, false, false, false] rfl rfl (take_ofW HT_.out HW_.out (by kernel_rfl)) (fun _ _ _ h => h) (Or.inl ⟨by rfl, ?_⟩) hHeld ?_ ?_
                  rotate_left
                  · rintro w' ⟨s0, s1, s2, s3⟩
                    go_simp
                    with_reducible rfl
                  rotate_left
                  · simp only [Act.put, List.setIfInBounds_toArray, List.set_cons_zero, List.set_cons_succ, i64_w, i32_w]
                    rfl
                  refine one_ (i := 6) (N := some 47) #[true, true, true, true, true, true, true, false, false, false, false] rfl rfl (one_of HT_.out (by kernel_rfl)) (by decide) (fun K hK => ?_)
                  refine goes_ Tryd.func57 (by kernel_rfl) rfl #[.agg #[.slice A0_0 l0_0.length c0_0, .slice A0_1 l0_1.length c0_1], .int .i64 x5_2, .int .i64 (wrap64 (x5_2 + 1))] (by rfl) rfl rfl Ga_ ?_
                  with_reducible refine (mould_some.calls _ _ l0_0 _ _ l0_1 x5_2 (wrap64 (x5_2 + 1)) t118 t121 _ ?side1 ?side2 ?side3 ?side4 A41.out).mono ?_
                  (case side1 => exact Pc_ ((Kd.V_reads' HO_102000.out).2.2))
                  (case side2 => exact (Kd.V_reads' HO_102000.out).2.1)
                  (case side3 => exact Pc_ ((Kd.V_reads' HO_102001.out).2.2))
                  (case side4 => exact (Kd.V_reads' HO_102001.out).2.1)
                  rintro e w44 ⟨v119, v122, rfl, ho0, ho1, hb⟩
                  refine ⟨_, rfl, ?_⟩
                  replace HO_102000 := Aside0.mk (Kd.V_mono (Kd.V_told (Kd.V_told (Kd.V_old (Pv_ HO_102000.out) hb) (Kd.R_base ho0)) (Kd.R_base ho1)) (fun _ h_ => h_.1))
                  replace HO_102001 := Aside0.mk (Kd.V_mono (Kd.V_told (Kd.V_told (Kd.V_old (Pv_ HO_102001.out) hb) (Kd.R_base ho0)) (Kd.R_base ho1)) (fun _ h_ => h_.1))
                  have HO120 := Aside0.mk (Kd.R_lower (Kd.R_new' (Kd.R_newM (M := fun k_ => (w.heap.size ≤ k_)) ho0 Bz_ (fun k_ h_ => h_)) (Kd.R_lt (Pr_ HO_117000.out))) Bz_)
                  replace HO_117000 := Aside0.mk (Kd.R_elder' (Pr_ HO_117000.out) (Kd.R_base ho0) hb)
                  have HO123 := Aside0.mk (Kd.R_lower (Kd.R_new' (Kd.R_newM (M := fun k_ => (w.heap.size ≤ k_)) ho1 Bz_ (fun k_ h_ => h_)) (Kd.R_lt (Pr_ HO_117001.out))) Bz_)
                  replace HO_117001 := Aside0.mk (Kd.R_elder' (Pr_ HO_117001.out) (Kd.R_base ho1) hb)
                  replace BK101 := kb_ BK101 hb
                  replace BK102 := kb_ BK102 hb
                  replace BK116 := kb_ BK116 hb
                  replace HB := Bs_ hb
                  (try clear hb)
                  (try clear hb2)
                  (try clear hk)
                  (try clear hi)
                  (try clear ho0)
                  (try clear ho1)
                  obtain ⟨Ao45, co45, eo45⟩ := Kd.R_slice HO123.out
                  (first | subst eo45 | (injection eo45 with f1_ f2_ f3_; have f4_ := f1_.symm; have f5_ := f3_.symm; clear f1_ f2_ f3_; subst f4_; subst f5_))
                  obtain ⟨Ao46, co46, eo46⟩ := Kd.R_slice HO120.out
                  (first | subst eo46 | (injection eo46 with f1_ f2_ f3_; have f4_ := f1_.symm; have f5_ := f3_.symm; clear f1_ f2_ f3_; subst f4_; subst f5_))
                  have hfdf47 : ∀ w_ : World, (Instr.field 25 (.agg #[.slice Ao46 t118.length co46, .slice Ao45 t121.length co45]) 1).run Tryd.prog w_ = .ok (.slice Ao45 t121.length co45) w_ := fun _ => by kernel_rfl
                  refine hK.out _ _ ⟨(blk_cell BK116.out 0).trans rfl, (blk_cell BK116.out 1).trans rfl, (blk_cell BK101.out 0).trans rfl, (blk_cell BK101.out 1).trans rfl⟩ (fun hHeld => ?_)
                  clear hK K
                  refine norm_ (a' := ?_) ?_ ?_
                  rotate_left
                  · show Act.put _ (some 47) _ = _
                    simp only [Act.put, List.setIfInBounds_toArray, List.set_cons_zero, List.set_cons_succ, i64_w, i32_w]
                    rfl
                  refine pu_ 7 (some 48) HT_ #[true, true, true, true, true, true, true, true, false, false, false] ?_
                  refine one_ (i := 8) (N := some 49) #[true, true, true, true, true, true, true, true, true, false, false] rfl rfl (one_of HT_.out (by kernel_rfl)) (by decide) (fun K hK => ?_)
                  refine Kd.R_append_rows_step Kd.string (w0 := w) w.heap.size (by rfl) (.tmp 42) (.tmp 48) 23 9 (.string ⟨#[]⟩) 16 rfl Tryd.underlying23 info9 rfl (by decide) (by omega) u117001 x117001_2 t121 _ _ _ (fun k_ => (w.heap.size ≤ k_) ∧ some k_ ≠ (.slice Ao45 t121.length co45 : Value).ownBlock) (fun _ => False) rfl rfl ?aO ?aR (fun _ _ h => h) (fun _ h => h.elim) ?aF ?aB ?aS ?aL ?_
                  (case aR => exact Pc_ ((Kd.R_reads' HO123.out).2.2))
                  (case aB => exact Bl_)
                  (case aF => exact (fun k_ hk => ⟨(Nat.le_trans Bz_ hk), Kd.fresh' (Kd.R_lt (Pr_ HO123.out)) k_ hk⟩))
                  (case aO => exact (Pr_ HO_117001.out))
                  (case aS => exact Bz_)
                  (case aL => have := LMc42.out; omega)
                  intro v125 w48 ho hb hg hat
                  rw [← Ny124.out] at ho
                  replace HO_102000 := Aside0.mk (Kd.V_afterv (ok := (fun k_ => ((P0_0_ k_ ∨ P0_1_ k_) ∨ w.heap.size ≤ k_) ∧ some k_ ≠ (.slice Ao33 t113.length co33 : Value).ownBlock ∧ some k_ ≠ (.slice Ao46 t118.length co46 : Value).ownBlock ∧ some k_ ≠ (.slice Ao45 t121.length co45 : Value).ownBlock ∧ k_ ≠ gb101 ∧ k_ ≠ gb102 ∧ k_ ≠ gb116)) (by (with_reducible repeat (first | apply Kd.V_alloc | apply Kd.V_drewN | apply Kd.V_drew)); exact Kd.V_mono HO_102000.out (fun _ hk => ⟨⟨hk.1.1.1, ⟨hk.1.1.2.1, ⟨hk.1.2, ⟨hk.2, ⟨hk.1.1.2.2.2.1, ⟨hk.1.1.2.2.2.2.1, hk.1.1.2.2.2.2.2⟩⟩⟩⟩⟩⟩, hk.1.1.2.2.1⟩)) hg hat)
                  replace HO_102001 := Aside0.mk (Kd.V_afterv (ok := (fun k_ => ((P0_0_ k_ ∨ P0_1_ k_) ∨ w.heap.size ≤ k_) ∧ some k_ ≠ (.slice Ao33 t113.length co33 : Value).ownBlock ∧ some k_ ≠ (.slice Ao46 t118.length co46 : Value).ownBlock ∧ some k_ ≠ (.slice Ao45 t121.length co45 : Value).ownBlock ∧ k_ ≠ gb101 ∧ k_ ≠ gb102 ∧ k_ ≠ gb116)) (by (with_reducible repeat (first | apply Kd.V_alloc | apply Kd.V_drewN | apply Kd.V_drew)); exact Kd.V_mono HO_102001.out (fun _ hk => ⟨⟨hk.1.1.1, ⟨hk.1.1.2.1, ⟨hk.1.2, ⟨hk.2, ⟨hk.1.1.2.2.2.1, ⟨hk.1.1.2.2.2.2.1, hk.1.1.2.2.2.2.2⟩⟩⟩⟩⟩⟩, hk.1.1.2.2.1⟩)) hg hat)
                  replace HO_117000 := Aside0.mk (Kd.R_over' (Pr_ HO_117000.out) (Kd.R_typed (Pr_ HO_117001.out)) (by decide) hg)
                  replace BK101 := kg_ BK101 hg (Kd.R_ne HO_117001.out BK101.out (by decide))
                  replace BK102 := kg_ BK102 hg (Kd.R_ne HO_117001.out BK102.out (by decide))
                  replace BK116 := kg_ BK116 hg (Kd.R_ne HO_117001.out BK116.out (by decide))
                  replace HO120 := Aside0.mk (Kd.R_over' (Pr_ HO120.out) (Kd.R_typed (Pr_ HO_117001.out)) (by decide) hg)
                  replace HO123 := Aside0.mk (Kd.R_after (ok := (fun k_ => (w.heap.size ≤ k_))) (by (with_reducible repeat (first | apply Kd.R_alloc | apply Kd.R_drewN | apply Kd.R_drew)); exact Kd.R_mono HO123.out (fun _ hk => ⟨hk.1.1, hk.2⟩)) hg hat)
                  replace HB := Aside0.mk (hb)
                  have HO126 := Aside0.mk (ho)
                  clear HO_117001
                  clear ho hb hg hat
                  obtain ⟨Ao49, co49, eo49⟩ := Kd.R_slice HO126.out
                  (first | subst eo49 | (injection eo49 with f1_ f2_ f3_; have f4_ := f1_.symm; have f5_ := f3_.symm; clear f1_ f2_ f3_; subst f4_; subst f5_))
                  refine hK.out _ _ ⟨(blk_cell BK116.out 0).trans rfl, (blk_cell BK116.out 1).trans rfl, (blk_cell BK101.out 0).trans rfl, (blk_cell BK101.out 1).trans rfl⟩ (fun hHeld => ?_)
                  clear hK K
                  refine norm_ (a' := ?_) ?_ ?_
                  rotate_left
                  · show Act.put _ (some 49) _ = _
                    simp only [Act.put, List.setIfInBounds_toArray, List.set_cons_zero, List.set_cons_succ, i64_w, i32_w]
                    rfl
                  refine pu_ 9 (some 50) HT_ #[true, true, true, true, true, true, true, true, true, true, false] ?_
                  refine last_ (i := 10) (N := none) #[true, true, true, true, true, true, true, true, true, true, true] rfl rfl (one_of HT_.out (by kernel_rfl)) (by decide) (fun K hK => ?_)
                  have hs50 : w48.cell? ⟨gb116, 1, none⟩ = some (u117001) := (blk_cell BK116.out 1).trans rfl
                  have hfs50 := blk_frozen BK116.out 1
                  have hns50_0 := NB101_116.out
                  have hns50_1 := NB102_116.out
                  have hms50_0 := NB116_101.out
                  have hms50_1 := NB116_102.out
                  refine skip_ (w1 := ?_) (by rfl) rfl ?_ ?_
                  rotate_left
                  · go_simp
                    rfl
                  refine hK.out _ _ ?_
                  clear hK K
                  refine done_ (done_of HT_.out (by kernel_rfl)) ?_
                  try go_wp2
                  go_roundg k2
                  case measure => have := HJ3.out; have := HK2.out; omega
                  case rel => exact ⟨(wrap64 (x5_2 - 1)), (y124), (.slice Ao49 y124.length co49), Rf_, H', ⟨by have := HJ3.out; have := HK2.out; omega⟩, ⟨by (with_reducible repeat (first | apply Kd.V_alloc | apply Kd.V_drewN | apply Kd.V_drew)); exact Kd.V_mono (Kd.V_far (p := ⟨gb116, 1, none⟩) (Kd.V_mono HO_102000.out (fun k_ hk => (⟨hk, hk.1.2.2.2.2.2.2⟩ : _ ∧ k_ ≠ gb116))) (fun _ hk => hk.2) (.slice Ao49 y124.length co49)) (fun _ hk => ⟨hk.1.1.1, ⟨hk.1.1.2.1, ⟨hk.1.2, ⟨hk.1.1.2.2.2.2.1, ⟨hk.1.1.2.2.2.2.2.1, hk.1.1.2.2.2.2.2.2⟩⟩⟩⟩⟩)⟩, ⟨by (with_reducible repeat (first | apply Kd.V_alloc | apply Kd.V_drewN | apply Kd.V_drew)); exact Kd.V_mono (Kd.V_far (p := ⟨gb116, 1, none⟩) (Kd.V_mono HO_102001.out (fun k_ hk => (⟨hk, hk.1.2.2.2.2.2.2⟩ : _ ∧ k_ ≠ gb116))) (fun _ hk => hk.2) (.slice Ao49 y124.length co49)) (fun _ hk => ⟨hk.1.1.1, ⟨hk.1.1.2.1, ⟨hk.1.2, ⟨hk.1.1.2.2.2.2.1, ⟨hk.1.1.2.2.2.2.2.1, hk.1.1.2.2.2.2.2.2⟩⟩⟩⟩⟩)⟩, ⟨by (with_reducible repeat (first | apply Kd.R_alloc | apply Kd.R_drewN | apply Kd.R_drew)); exact Kd.R_mono (Kd.R_far (p := ⟨gb116, 1, none⟩) (Kd.R_types HO_117000.out BK116.out (by decide)) (fun _ hk => hk.2) (.slice Ao49 y124.length co49)) (fun _ hk => hk.1.1)⟩, ⟨by (with_reducible repeat (first | apply Kd.R_alloc | apply Kd.R_drewN | apply Kd.R_drew)); exact Kd.R_mono (Kd.R_far (p := ⟨gb116, 1, none⟩) (Kd.R_types HO126.out BK116.out (by decide)) (fun _ hk => hk.2) (.slice Ao49 y124.length co49)) (fun _ hk => hk.1.1)⟩, ⟨by (with_reducible repeat (first | refine blk_drewN ?_ _ | refine blk_drew ?_ | refine blk_alloc ?_ _)); refine blk_far ?_ NB101_116.out _; (with_reducible repeat (first | refine blk_drewN ?_ _ | refine blk_drew ?_ | refine blk_alloc ?_ _)); exact BK101.out⟩, ⟨by (with_reducible repeat (first | refine blk_drewN ?_ _ | refine blk_drew ?_ | refine blk_alloc ?_ _)); refine blk_far ?_ NB102_116.out _; (with_reducible repeat (first | refine blk_drewN ?_ _ | refine blk_drew ?_ | refine blk_alloc ?_ _)); exact BK102.out⟩, ⟨by (with_reducible repeat (first | refine blk_drewN ?_ _ | refine blk_drew ?_ | refine blk_alloc ?_ _)); refine blk_put (cs := #[.slice Ao33 t113.length co33, u117001]) ?_ 1 _ rfl; (with_reducible repeat (first | refine blk_drewN ?_ _ | refine blk_drew ?_ | refine blk_alloc ?_ _)); exact BK116.out⟩, ⟨Bl_⟩⟩
                · rw [if_neg c42] at H
                  exact absurd H (by simp)
              · rw [if_neg c40] at H
                have c40b0 : decide (0 ≤ x5_2) = false := decide_eq_false c40
                clear c40
                simp only [Option.some.injEq, Prod.mk.injEq] at H
                obtain ⟨rfl, rfl, rfl⟩ := H
                have hnb51 := NB116_101.out
                have hnc51 := NB101_116.out
                have hnb52 := NB116_102.out
                have hnc52 := NB102_116.out
                obtain ⟨hcz53_0, hcz53_1⟩ := c2_ BK116
                obtain ⟨hfz53_0, hfz53_1⟩ := f2_ BK116
                have hnb54 := NB102_101.out
                have hnc54 := NB101_102.out
                obtain ⟨hcz55_0, hcz55_1⟩ := c2_ BK102
                obtain ⟨hfz55_0, hfz55_1⟩ := f2_ BK102
                obtain ⟨Ao56, co56, eo56⟩ := Kd.R_slice HO_117001.out
                subst eo56
                go_wp2
                refine bodyPost_ret (results_ct rfl _ _ gb102 25 #[.slice Ao33 t113.length co33, .slice Ao56 x117001_2.length co56] (0, 0) _ rfl (by (with_reducible repeat (first | refine blk_drewN ?_ _ | refine blk_drew ?_ | refine blk_alloc ?_ _)); refine blk_put (cs := #[.slice Ao33 t113.length co33, .slice none 0 0]) ?_ 1 _ rfl; (with_reducible repeat (first | refine blk_drewN ?_ _ | refine blk_drew ?_ | refine blk_alloc ?_ _)); refine blk_put (cs := #[.slice none 0 0, .slice none 0 0]) ?_ 0 _ rfl; (with_reducible repeat (first | refine blk_drewN ?_ _ | refine blk_drew ?_ | refine blk_alloc ?_ _)); exact BK102.out) Tryd.underlying25 rfl (by kernel_rfl)) rfl ?_
                exact ⟨_, _, Re_, by (with_reducible repeat (first | apply Kd.R_alloc | apply Kd.R_drewN | apply Kd.R_drew)); exact Kd.R_mono (Kd.R_far (p := ⟨gb102, 1, none⟩) (Kd.R_far (p := ⟨gb102, 0, none⟩) (Kd.R_types HO_117000.out BK102.out (by decide)) (fun _ hk => hk.2) (.slice Ao33 t113.length co33)) (fun _ hk => hk.2) (.slice Ao56 x117001_2.length co56)) (fun _ hk => hk.1), by (with_reducible repeat (first | apply Kd.R_alloc | apply Kd.R_drewN | apply Kd.R_drew)); exact Kd.R_mono (Kd.R_far (p := ⟨gb102, 1, none⟩) (Kd.R_far (p := ⟨gb102, 0, none⟩) (Kd.R_types HO_117001.out BK102.out (by decide)) (fun _ hk => hk.2) (.slice Ao33 t113.length co33)) (fun _ hk => hk.2) (.slice Ao56 x117001_2.length co56)) (fun _ hk => hk.1), Bl_⟩
  · replace c3 := Bool.eq_false_iff.mpr c3
    subst c3
    have H1 : (some (([] : List Int), ([] : List ByteArray), 1)) = some (r1, r2, r3) := by rw [if_neg (show ¬ (false = true) by decide)] at H; exact H
    clear H
    have H := H1
    clear H1
    simp only [Option.some.injEq, Prod.mk.injEq] at H
    obtain ⟨rfl, rfl, rfl⟩ := H
    go_enter Tryd.func25, Tryd.ntmps25
    go_wp2_with (first | ((with_reducible refine gate_dst (N := 1) rfl ?_); (try (refine gate_guard (by rfl) ?_; dsimp only)); refine bx_ 1 #[.slice A0_0 l0_0.length c0_0, .slice A0_1 l0_1.length c0_1] 25 ?_; intro gb101 hg w57 hbox hb; replace HO0_0 := Aside0.mk (Kd.V_below (Kd.V_elderB (Pv_ HO0_0.out) gb101 (Nat.le_of_eq hg.symm)) hb); replace HO0_1 := Aside0.mk (Kd.V_below (Kd.V_elderB (Pv_ HO0_1.out) gb101 (Nat.le_of_eq hg.symm)) hb); have BK101 := Aside0.mk (hbox); have GW101 := (Bg_ hg : Aside0 (w.heap.size ≤ gb101)); have GE101 := (Bg_ hg : Aside0 (w.heap.size ≤ gb101)); replace HB := Bs_ hb; clear hb hbox hg) | ((with_reducible refine gate_dst (N := 2) rfl ?_); (try (refine gate_guard (by rfl) ?_; dsimp only)); refine bx_ 2 #[.slice none 0 0, .slice none 0 0] 25 ?_; intro gb102 hg w58 hbox hb; replace HO0_0 := Aside0.mk (Kd.V_below (Kd.V_elderB (Pv_ HO0_0.out) gb102 (Nat.le_of_eq hg.symm)) hb); replace HO0_1 := Aside0.mk (Kd.V_below (Kd.V_elderB (Pv_ HO0_1.out) gb102 (Nat.le_of_eq hg.symm)) hb); have BK102 := Aside0.mk (hbox); have GW102 := (Bg_ hg : Aside0 (w.heap.size ≤ gb102)); have GE102 := (Bg_ hg : Aside0 (w.heap.size ≤ gb102)); replace HB := Bs_ hb; have NB101_102 := nl_ hg BK101; have NB102_101 := ng_ hg BK101; replace BK101 := kb_ BK101 hb; clear hb hbox hg; have hnb59 := NB101_102.out; have hnc59 := NB102_101.out; obtain ⟨hcz60_0, hcz60_1⟩ := c2_ BK101; obtain ⟨hfz60_0, hfz60_1⟩ := f2_ BK101) | ((with_reducible refine gate_dst (N := 8) rfl ?_); (try (refine gate_guard (by rfl) ?_; dsimp only)); refine Kd.N_lit k25 _ 25 ?hg (N' := 8) ?hd (xs := ([(⟨l0_0, l0_1⟩ : S25)] : List (S25))) (inner := [.slice A0_0 l0_0.length c0_0, .slice A0_1 l0_1.length c0_1]) (ok := (fun k_ => ((P0_0_ k_ ∨ P0_1_ k_) ∨ w.heap.size ≤ k_) ∧ k_ ≠ gb101 ∧ k_ ≠ gb102)) (okp := (fun k_ => ((P0_0_ k_ ∨ P0_1_ k_) ∨ w.heap.size ≤ k_) ∧ k_ ≠ gb101 ∧ k_ ≠ gb102)) ?hr ?hp (fun _ hk => hk) ((show ∀ k_, w58.heap.size ≤ k_ → (fun k_ => ((P0_0_ k_ ∨ P0_1_ k_) ∨ w.heap.size ≤ k_) ∧ k_ ≠ gb101 ∧ k_ ≠ gb102) k_ from fun k_ hk => ⟨(.inr (Nat.le_trans Bz_ hk)), Kd.freshB (g := gb101) (o := .cells #[.slice A0_0 l0_0.length c0_0, .slice A0_1 l0_1.length c0_1] 25 (0, 0)) (Bk_ BK101.out) k_ hk, Kd.freshB (g := gb102) (o := .cells #[.slice none 0 0, .slice none 0 0] 25 (0, 0)) (Bk_ BK102.out) k_ hk⟩) _ (Nat.le_refl _)) (Below.refl _ _) (Nat.le_refl _) (by simp) ?_; (case hd => rfl); (case hg => rfl); (case hr => first | (go_simp; done) | (go_simp; rfl)); (case hp => exact (Reps.c2 (show Kd.FK k25 _ _ (⟨l0_0, l0_1⟩ : S25) [.slice A0_0 l0_0.length c0_0, .slice A0_1 l0_1.length c0_1] from (k25_mkF _ _ (⟨l0_0, l0_1⟩ : S25) (Kd.V_reads' (Kd.V_mono (ok' := (fun k_ => ((P0_0_ k_ ∨ P0_1_ k_) ∨ w.heap.size ≤ k_) ∧ k_ ≠ gb101 ∧ k_ ≠ gb102)) (HO0_0.out) (fun k_ hk => ⟨hk.1.1, ⟨hk.1.2, hk.2⟩⟩))).2.1 (Kd.V_F (Kd.V_mono (ok' := (fun k_ => ((P0_0_ k_ ∨ P0_1_ k_) ∨ w.heap.size ≤ k_) ∧ k_ ≠ gb101 ∧ k_ ≠ gb102)) (HO0_0.out) (fun k_ hk => ⟨hk.1.1, ⟨hk.1.2, hk.2⟩⟩))) (Kd.V_reads' (Kd.V_mono (ok' := (fun k_ => ((P0_0_ k_ ∨ P0_1_ k_) ∨ w.heap.size ≤ k_) ∧ k_ ≠ gb101 ∧ k_ ≠ gb102)) (HO0_1.out) (fun k_ hk => ⟨hk.1.1, ⟨hk.1.2, hk.2⟩⟩))).2.1 (Kd.V_F (Kd.V_mono (ok' := (fun k_ => ((P0_0_ k_ ∨ P0_1_ k_) ∨ w.heap.size ≤ k_) ∧ k_ ≠ gb101 ∧ k_ ≠ gb102)) (HO0_1.out) (fun k_ hk => ⟨hk.1.1, ⟨hk.1.2, hk.2⟩⟩))))) (Reps.none _ _))); intro v104 w61 ho62 hb hg_ hnew_; clear hg_ hnew_; (first | rw [← Ny103.out] at ho62 | (simp only [Int.reduceToNat] at ho62; rw [← Ny103.out] at ho62)); replace HO0_0 := Aside0.mk (Kd.V_elder' (Pv_ HO0_0.out) (Kd.N_base ho62) hb); replace HO0_1 := Aside0.mk (Kd.V_elder' (Pv_ HO0_1.out) (Kd.N_base ho62) hb); have HO105 := Aside0.mk (Kd.N_lower ho62 Bz_); replace BK101 := kb_ BK101 hb; replace BK102 := kb_ BK102 hb; replace HB := Bs_ hb; clear hb ho62; obtain ⟨Ao63, co63, eo63⟩ := Kd.N_slice HO105.out; subst eo63) | ((with_reducible refine gate_callee (f := 50) rfl ?_); refine goesL_ (some 9) rfl rfl Tryd.func50 (by kernel_rfl) rfl #[.slice Ao63 y103.length co63] rfl Ga_ ?_; (with_reducible refine (mould_fine.calls k _ _ y103 false _ ?side1 ?side2 A2.out).mono ?_); (case side1 => exact Pc_ ((Kd.N_reads' HO105.out).2.2)); (case side2 => exact (Kd.N_reads' HO105.out).2.1); rintro e w64 ⟨rfl, hb⟩; refine ⟨_, rfl, ?_⟩; replace HO0_0 := Aside0.mk (Kd.V_below (Pv_ HO0_0.out) hb); replace HO0_1 := Aside0.mk (Kd.V_below (Pv_ HO0_1.out) hb); replace HO105 := Aside0.mk (Kd.N_below (by (with_reducible repeat (first | apply Kd.N_alloc | apply Kd.N_drewN | apply Kd.N_drew)); exact HO105.out) hb); replace BK101 := kb_ BK101 hb; replace BK102 := kb_ BK102 hb; replace HB := Bs_ hb; (try clear hb); (try clear hb2); (try clear hk); (try clear hi); obtain ⟨hcz65_0, hcz65_1⟩ := c2_ BK102; obtain ⟨hfz65_0, hfz65_1⟩ := f2_ BK102))
    refine bodyPost_ret (results_ct rfl _ _ gb102 25 #[.slice none 0 0, .slice none 0 0] (0, 0) _ rfl (by (with_reducible repeat (first | refine blk_drewN ?_ _ | refine blk_drew ?_ | refine blk_alloc ?_ _)); refine blk_put (cs := #[.slice none 0 0, .slice none 0 0]) ?_ 1 _ rfl; (with_reducible repeat (first | refine blk_drewN ?_ _ | refine blk_drew ?_ | refine blk_alloc ?_ _)); refine blk_put (cs := #[.slice none 0 0, .slice none 0 0]) ?_ 0 _ rfl; (with_reducible repeat (first | refine blk_drewN ?_ _ | refine blk_drew ?_ | refine blk_alloc ?_ _)); exact BK102.out) Tryd.underlying25 rfl (by kernel_rfl)) rfl ?_
    exact ⟨_, _, Re_, by first | exact Kd.R_nil _ _ _ _ _ | exact Kd.N_nil _ _ _ _ _ | exact Kd.V_nil _ _ _ _ _ | exact Kd.Q_nil _ _ _ _ _ | exact Kd.S_nil _ _ _ _ _, by first | exact Kd.R_nil _ _ _ _ _ | exact Kd.N_nil _ _ _ _ _ | exact Kd.V_nil _ _ _ _ _ | exact Kd.Q_nil _ _ _ _ _ | exact Kd.S_nil _ _ _ _ _, Bl_⟩
/-! ### reredoslaw14_MouldIota: function 5 -/
mutual
def reredoslaw14_MouldIota.j0 : Nat → Bool → Int → Bool → List Int → List ByteArray → List Int → List ByteArray → Option (Bool)
  | 0, _, _, _, _, _, _, _ => none
  | k + 1, x3, x4, x57, x117000, x117001, x126000, x126001 => if x57 = true then (none) else (reredoslaw14_MouldIota.l0 k x3 x4 0 x117000 x117001 x126000 x126001)
def reredoslaw14_MouldIota.l0 : Nat → Bool → Int → Int → List Int → List ByteArray → List Int → List ByteArray → Option (Bool)
  | 0, _, _, _, _, _, _, _ => none
  | k + 1, x3, x4, x9, x117000, x117001, x126000, x126001 => if x9 < x4 then (if 0 ≤ x9 then (if x9 < (x117001.length : Int) then ((num_Of.f x9).bind fun t128 => (if (rdOf ByteArray.empty x117001 x9).toList = t128.toList then (if x9 < (x126001.length : Int) then ((num_Of.f (wrap64 ((wrap64 (x4 - 1)) - x9))).bind fun t130 => (if (rdOf ByteArray.empty x126001 x9).toList = t130.toList then (reredoslaw14_MouldIota.l0 k x3 x4 (wrap64 (x9 + 1)) x117000 x117001 x126000 x126001) else (none))) else (none)) else (none))) else (none)) else (none)) else (if x3 = true then (if (x117000.length : Int) = 1 then (if 0 < (x117000.length : Int) then (some ((rd x117000 0) == x4)) else (none)) else (none)) else (none))
end
def reredoslaw14_MouldIota.f (k : Nat) (a0 : Int) : Option (Bool) := (reredoslaw14_shownC.f).bind fun _ => ((num_Of.f (Int.tmod (wrap64 (a0)) 5000)).bind fun t102 => ((val_Scalar.f t102).bind fun bt103 => ((mould_Iota.f k bt103.1 bt103.2).bind fun bt109 => (if (Int.tmod (wrap64 (a0)) 5000) > 4096 then (if bt109.2.2 = 8 then ((val_Same.f k bt109.1 bt109.2.1 ([] : List Int) ([] : List ByteArray)).bind fun t117 => (some t117)) else (none)) else ((mould_Reverse.f k bt109.1 bt109.2.1).bind fun bt118 => (if bt109.2.2 = 0 then (if bt118.2.2 = 0 then (if (bt109.2.1.length : Int) = (Int.tmod (wrap64 (a0)) 5000) then (reredoslaw14_MouldIota.j0 k true (Int.tmod (wrap64 (a0)) 5000) ((bt118.2.1.length : Int) != (Int.tmod (wrap64 (a0)) 5000)) bt109.1 bt109.2.1 bt118.1 bt118.2.1) else (reredoslaw14_MouldIota.j0 k true (Int.tmod (wrap64 (a0)) 5000) true bt109.1 bt109.2.1 bt118.1 bt118.2.1)) else (reredoslaw14_MouldIota.j0 k true (Int.tmod (wrap64 (a0)) 5000) true bt109.1 bt109.2.1 bt118.1 bt118.2.1)) else (reredoslaw14_MouldIota.j0 k true (Int.tmod (wrap64 (a0)) 5000) true bt109.1 bt109.2.1 bt118.1 bt118.2.1)))))))
def reredoslaw14_MouldIota.T12 : Bool × List (List Nat × List Nat) := (true, [([], []), ([0], [0]), ([], []), ([1, 2], [1, 2]), ([3], [3]), ([], []), ([5], [5]), ([4, 6], [4, 6]), ([7, 6], [7]), ([8], [8]), ([9, 8], [8, 9]), ([8], [8]), ([10, 11, 8], [8, 10, 11]), ([12, 8], [8, 12]), ([8], [8]), ([14, 8], [8, 14]), ([8], [8]), ([15, 16, 8], [8, 15, 16]), ([17, 8, 8], [8, 17]), ([13, 18, 8], [8, 13, 18]), ([8, 19], [8, 19])])
def reredoslaw14_MouldIota.B12 : List Nat := [0, 1, 0, 7, 15, 0, 32, 127, 255, 511, 1023, 511, 4095, 8191, 511, 16895, 511, 115199, 246271, 524287, 1048575]
theorem reredoslaw14_MouldIota.tab12 : rtab .any (opsOf Tryd.f5 12) = reredoslaw14_MouldIota.T12 := by kernel_rfl
theorem reredoslaw14_MouldIota.bits12 : waitsOk reredoslaw14_MouldIota.T12.2 reredoslaw14_MouldIota.B12 = true := by kernel_rfl
set_option maxHeartbeats 8000000 in
set_option maxRecDepth 100000 in
theorem reredoslaw14_MouldIota.calls (k : Nat) (a0 : Int) (r : Bool) (w : World) (h : reredoslaw14_MouldIota.f k a0 = some r) (hG : Glob w) :
    Calls Tryd.prog 5 #[.int .u16 a0] w fun e w' => e = .returned (.bool r) ∧ Below w.heap.size w w' := by
  have hu25 := Tryd.underlying25
  have HB := Aside0.mk (Below.refl w.heap.size w)
  have H : ((reredoslaw14_shownC.f).bind fun _ => ((num_Of.f (Int.tmod (wrap64 (a0)) 5000)).bind fun t102 => ((val_Scalar.f t102).bind fun bt103 => ((mould_Iota.f k bt103.1 bt103.2).bind fun bt109 => (if (Int.tmod (wrap64 (a0)) 5000) > 4096 then (if bt109.2.2 = 8 then ((val_Same.f k bt109.1 bt109.2.1 ([] : List Int) ([] : List ByteArray)).bind fun t117 => (some t117)) else (none)) else ((mould_Reverse.f k bt109.1 bt109.2.1).bind fun bt118 => (if bt109.2.2 = 0 then (if bt118.2.2 = 0 then (if (bt109.2.1.length : Int) = (Int.tmod (wrap64 (a0)) 5000) then (reredoslaw14_MouldIota.j0 k true (Int.tmod (wrap64 (a0)) 5000) ((bt118.2.1.length : Int) != (Int.tmod (wrap64 (a0)) 5000)) bt109.1 bt109.2.1 bt118.1 bt118.2.1) else (reredoslaw14_MouldIota.j0 k true (Int.tmod (wrap64 (a0)) 5000) true bt109.1 bt109.2.1 bt118.1 bt118.2.1)) else (reredoslaw14_MouldIota.j0 k true (Int.tmod (wrap64 (a0)) 5000) true bt109.1 bt109.2.1 bt118.1 bt118.2.1)) else (reredoslaw14_MouldIota.j0 k true (Int.tmod (wrap64 (a0)) 5000) true bt109.1 bt109.2.1 bt118.1 bt118.2.1)))))))) = some r := h
  clear h
  obtain ⟨cst_, A2, H⟩ := bnd_ H
  try dsimp -simprocs only at H
  obtain rfl := Option.some.inj A2.out
  obtain ⟨t102, A3, H⟩ := bnd_ H
  try dsimp -simprocs only at H
  obtain ⟨⟨t103, t106⟩, A4, H⟩ := bnd_ H
  try dsimp -simprocs only at H
  obtain ⟨⟨t109, t112, t115⟩, A5, H⟩ := bnd_ H
  try dsimp -simprocs only at H
  by_cases c6 : (Int.tmod (wrap64 (a0)) 5000) > 4096
  · rw [if_pos c6] at H
    have c6b0 : decide (4096 < (Int.tmod (wrap64 (a0)) 5000)) = true := decide_eq_true c6
    clear c6
    by_cases c7 : t115 = 8
    · rw [if_pos c7] at H
      have c7b0 : (t115 == 8) = true := beq_iff_eq.mpr c7
      have c7b1 : (t115 != 8) = false := bne_eq_false_iff_eq.mpr c7
      clear c7
      obtain ⟨t117, A8, H⟩ := bnd_ H
      try dsimp -simprocs only at H
      obtain rfl := Option.some.inj H
      go_enter Tryd.func5, Tryd.ntmps5
      go_wp2_with (first | ((with_reducible refine gate_callee (f := 20) rfl ?_); refine goesL_ (some 10) rfl rfl Tryd.func20 (by kernel_rfl) rfl #[] rfl Ga_ ?_; (with_reducible refine (reredoslaw14_shownC.calls  true _ A2.out ?side1).mono ?_); (case side1 => first | exact hG | exact Glob.below hG Bl_); rintro e w9 ⟨rfl, hb⟩; refine ⟨_, rfl, ?_⟩; replace HB := Bs_ hb; (try clear hb); (try clear hb2); (try clear hk); (try clear hi)) | ((with_reducible refine gate_callee (f := 23) rfl ?_); refine goesL_ (some 16) rfl rfl Tryd.func23 (by kernel_rfl) rfl #[.int .i64 (Int.tmod (wrap64 (a0)) 5000)] rfl Ga_ ?_; (with_reducible refine (num_Of.calls (Int.tmod (wrap64 (a0)) 5000) t102 _ A3.out ?side1).mono ?_); (case side1 => first | exact hG | exact Glob.below hG Bl_); rintro e w10 ⟨rfl, hb⟩; refine ⟨_, rfl, ?_⟩; replace HB := Bs_ hb; (try clear hb); (try clear hb2); (try clear hk); (try clear hi)) | ((with_reducible refine gate_callee (f := 22) rfl ?_); refine goesL_ (some 17) rfl rfl Tryd.func22 (by kernel_rfl) rfl #[.string t102] rfl Ga_ ?_; (with_reducible refine (val_Scalar.calls t102 t103 t106 _ A4.out).mono ?_); rintro e w11 ⟨v104, v107, rfl, ho0, ho1, hb⟩; refine ⟨_, rfl, ?_⟩; have HO105 := Aside0.mk (Kd.R_lower ho0 Bz_); have HO108 := Aside0.mk (Kd.R_lower ho1 Bz_); replace HB := Bs_ hb; (try clear hb); (try clear hb2); (try clear hk); (try clear hi); (try clear ho0); (try clear ho1); obtain ⟨Ao12, co12, eo12⟩ := Kd.R_slice HO105.out; subst eo12; obtain ⟨Ao13, co13, eo13⟩ := Kd.R_slice HO108.out; subst eo13) | ((with_reducible refine gate_callee (f := 21) rfl ?_); refine goesL_ (some 18) rfl rfl Tryd.func21 (by kernel_rfl) rfl #[.agg #[.slice Ao12 t103.length co12, .slice Ao13 t106.length co13]] rfl Ga_ ?_; (with_reducible refine (mould_Iota.calls k (fun k_ => some k_ = (.slice Ao12 t103.length co12 : Value).ownBlock) _ _ t103 (fun k_ => some k_ = (.slice Ao13 t106.length co13 : Value).ownBlock) _ _ t106 t109 t112 t115 _ ?side1 ?side2 A5.out ?side3).mono ?_); (case side1 => exact Kd.R_V (Kd.R_tight rfl (Kd.R_apart' (HO105.out) (Kd.R_typed HO108.out) (by decide)))); (case side2 => exact Kd.R_V (Kd.R_tight rfl (Kd.R_apart' (HO108.out) (Kd.R_typed HO105.out) (by decide)))); (case side3 => first | exact hG | exact Glob.below hG Bl_); rintro e w14 ⟨v110, v113, rfl, ho0, ho1, hb⟩; refine ⟨_, rfl, ?_⟩; have HO111 := Aside0.mk (Kd.R_lower (Kd.R_new' (Kd.R_mono (ok' := fun k_ => True) ho0 (fun _ hk_ => trivial)) (Kd.R_lt (Pr_ HO105.out))) Bz_); replace HO105 := Aside0.mk (Kd.R_elder' (Pr_ HO105.out) (Kd.R_base ho0) hb); have HO114 := Aside0.mk (Kd.R_lower (Kd.R_new' (Kd.R_mono (ok' := fun k_ => True) ho1 (fun _ hk_ => trivial)) (Kd.R_lt (Pr_ HO108.out))) Bz_); replace HO108 := Aside0.mk (Kd.R_elder' (Pr_ HO108.out) (Kd.R_base ho1) hb); replace HB := Bs_ hb; (try clear hb); (try clear hb2); (try clear hk); (try clear hi); (try clear ho0); (try clear ho1)) | ((with_reducible refine gate_dst (N := 5) rfl ?_); (try (refine gate_guard (by rfl) ?_; dsimp only)); refine bx_ 5 #[.slice none 0 0, .slice none 0 0] 25 ?_; intro gb116 hg w15 hbox hb; replace HO105 := Aside0.mk (Kd.R_below (Pr_ HO105.out) hb); replace HO108 := Aside0.mk (Kd.R_below (Pr_ HO108.out) hb); replace HO111 := Aside0.mk (Kd.R_below (Pr_ HO111.out) hb); replace HO114 := Aside0.mk (Kd.R_below (Pr_ HO114.out) hb); have BK116 := Aside0.mk (hbox); have GW116 := (Bg_ hg : Aside0 (w.heap.size ≤ gb116)); have GE116 := (Bg_ hg : Aside0 (w.heap.size ≤ gb116)); replace HB := Bs_ hb; clear hb hbox hg; obtain ⟨Ao16, co16, eo16⟩ := Kd.R_slice HO111.out; subst eo16; obtain ⟨hcz17_0, hcz17_1⟩ := c2_ BK116; obtain ⟨hfz17_0, hfz17_1⟩ := f2_ BK116; obtain ⟨Ao18, co18, eo18⟩ := Kd.R_slice HO114.out; subst eo18) | (go_at_call 24; (refine (val_Same.calls k _ _ t109 _ _ t112 _ _ ([] : List Int) _ _ ([] : List ByteArray) t117 _ ?side1 ?side2 ?side3 ?side4 ?side5 ?side6 ?side7 ?side8 A8.out).mono ?_); (case side1 => refine (Kd.R_reads' (e := 3) (base := w.heap.size) (ok := fun k_ => (True ∧ some k_ ≠ (.slice Ao12 t103.length co12 : Value).ownBlock)) (n := t109.length) (c := co16) ?_).2.2; exact (by (with_reducible repeat (first | apply Kd.R_alloc | apply Kd.R_drewN | apply Kd.R_drew)); exact (Kd.R_mono (Kd.R_far (p := ⟨gb116, 1, none⟩) (Kd.R_far (p := ⟨gb116, 0, none⟩) (Kd.R_types HO111.out BK116.out (by decide)) (fun _ hk => hk.2) (.slice Ao16 t109.length co16)) (fun _ hk => hk.2) (.slice Ao18 t112.length co18)) (fun _ h_ => h_.1)))); (case side2 => exact (Kd.R_reads' HO111.out).2.1); (case side3 => refine (Kd.R_reads' (e := 9) (base := w.heap.size) (ok := fun k_ => (True ∧ some k_ ≠ (.slice Ao13 t106.length co13 : Value).ownBlock)) (n := t112.length) (c := co18) ?_).2.2; exact (by (with_reducible repeat (first | apply Kd.R_alloc | apply Kd.R_drewN | apply Kd.R_drew)); exact (Kd.R_mono (Kd.R_far (p := ⟨gb116, 1, none⟩) (Kd.R_far (p := ⟨gb116, 0, none⟩) (Kd.R_types HO114.out BK116.out (by decide)) (fun _ hk => hk.2) (.slice Ao16 t109.length co16)) (fun _ hk => hk.2) (.slice Ao18 t112.length co18)) (fun _ h_ => h_.1)))); (case side4 => exact (Kd.R_reads' HO114.out).2.1); (case side5 => exact Kd.C_nil _ _); (case side6 => exact Nat.le_refl _); (case side7 => exact Kd.C_nil _ _); (case side8 => exact Nat.le_refl _); rintro e w19 ⟨rfl, hb⟩; replace HO105 := Aside0.mk (Kd.R_below (by (with_reducible repeat (first | apply Kd.R_alloc | apply Kd.R_drewN | apply Kd.R_drew)); exact (Kd.R_mono (Kd.R_far (p := ⟨gb116, 1, none⟩) (Kd.R_far (p := ⟨gb116, 0, none⟩) (Kd.R_types HO105.out BK116.out (by decide)) (fun _ hk => hk.2) (.slice Ao16 t109.length co16)) (fun _ hk => hk.2) (.slice Ao18 t112.length co18)) (fun _ h_ => h_.1))) hb); replace HO108 := Aside0.mk (Kd.R_below (by (with_reducible repeat (first | apply Kd.R_alloc | apply Kd.R_drewN | apply Kd.R_drew)); exact (Kd.R_mono (Kd.R_far (p := ⟨gb116, 1, none⟩) (Kd.R_far (p := ⟨gb116, 0, none⟩) (Kd.R_types HO108.out BK116.out (by decide)) (fun _ hk => hk.2) (.slice Ao16 t109.length co16)) (fun _ hk => hk.2) (.slice Ao18 t112.length co18)) (fun _ h_ => h_.1))) hb); replace HO111 := Aside0.mk (Kd.R_below (by (with_reducible repeat (first | apply Kd.R_alloc | apply Kd.R_drewN | apply Kd.R_drew)); exact (Kd.R_mono (Kd.R_far (p := ⟨gb116, 1, none⟩) (Kd.R_far (p := ⟨gb116, 0, none⟩) (Kd.R_types HO111.out BK116.out (by decide)) (fun _ hk => hk.2) (.slice Ao16 t109.length co16)) (fun _ hk => hk.2) (.slice Ao18 t112.length co18)) (fun _ h_ => h_.1))) hb); replace HO114 := Aside0.mk (Kd.R_below (by (with_reducible repeat (first | apply Kd.R_alloc | apply Kd.R_drewN | apply Kd.R_drew)); exact (Kd.R_mono (Kd.R_far (p := ⟨gb116, 1, none⟩) (Kd.R_far (p := ⟨gb116, 0, none⟩) (Kd.R_types HO114.out BK116.out (by decide)) (fun _ hk => hk.2) (.slice Ao16 t109.length co16)) (fun _ hk => hk.2) (.slice Ao18 t112.length co18)) (fun _ h_ => h_.1))) hb); replace BK116 := Aside0.mk (blk_below (g := gb116) (o := .cells #[.slice Ao16 t109.length co16, .slice Ao18 t112.length co18] 25 (0, 0)) (by (with_reducible repeat (first | refine blk_drewN ?_ _ | refine blk_drew ?_ | refine blk_alloc ?_ _)); refine blk_put (cs := #[.slice Ao16 t109.length co16, .slice none 0 0]) ?_ 1 _ rfl; (with_reducible repeat (first | refine blk_drewN ?_ _ | refine blk_drew ?_ | refine blk_alloc ?_ _)); refine blk_put (cs := #[.slice none 0 0, .slice none 0 0]) ?_ 0 _ rfl; (with_reducible repeat (first | refine blk_drewN ?_ _ | refine blk_drew ?_ | refine blk_alloc ?_ _)); exact BK116.out) hb); replace HB := Bs_ hb; (try clear hb); (try clear hb2); (try clear hk); (try clear hi)))
      go_ret
      exact ⟨Re_, Bl_⟩
    · rw [if_neg c7] at H
      exact absurd H (by simp)
  · rw [if_neg c6] at H
    have c6b0 : decide (4096 < (Int.tmod (wrap64 (a0)) 5000)) = false := decide_eq_false c6
    clear c6
    obtain ⟨⟨t118, t121, t124⟩, A20, H⟩ := bnd_ H
    try dsimp -simprocs only at H
    have HC21 := Aside0.mk H
    clear H
    go_enter Tryd.func5, Tryd.ntmps5
    go_upto_region 7 with (first | ((with_reducible refine gate_callee (f := 20) rfl ?_); refine goesL_ (some 10) rfl rfl Tryd.func20 (by kernel_rfl) rfl #[] rfl Ga_ ?_; (with_reducible refine (reredoslaw14_shownC.calls  true _ A2.out ?side1).mono ?_); (case side1 => first | exact hG | exact Glob.below hG Bl_); rintro e w22 ⟨rfl, hb⟩; refine ⟨_, rfl, ?_⟩; replace HB := Bs_ hb; (try clear hb); (try clear hb2); (try clear hk); (try clear hi)) | ((with_reducible refine gate_callee (f := 23) rfl ?_); refine goesL_ (some 16) rfl rfl Tryd.func23 (by kernel_rfl) rfl #[.int .i64 (Int.tmod (wrap64 (a0)) 5000)] rfl Ga_ ?_; (with_reducible refine (num_Of.calls (Int.tmod (wrap64 (a0)) 5000) t102 _ A3.out ?side1).mono ?_); (case side1 => first | exact hG | exact Glob.below hG Bl_); rintro e w23 ⟨rfl, hb⟩; refine ⟨_, rfl, ?_⟩; replace HB := Bs_ hb; (try clear hb); (try clear hb2); (try clear hk); (try clear hi)) | ((with_reducible refine gate_callee (f := 22) rfl ?_); refine goesL_ (some 17) rfl rfl Tryd.func22 (by kernel_rfl) rfl #[.string t102] rfl Ga_ ?_; (with_reducible refine (val_Scalar.calls t102 t103 t106 _ A4.out).mono ?_); rintro e w24 ⟨v104, v107, rfl, ho0, ho1, hb⟩; refine ⟨_, rfl, ?_⟩; have HO105 := Aside0.mk (Kd.R_lower ho0 Bz_); have HO108 := Aside0.mk (Kd.R_lower ho1 Bz_); replace HB := Bs_ hb; (try clear hb); (try clear hb2); (try clear hk); (try clear hi); (try clear ho0); (try clear ho1); obtain ⟨Ao25, co25, eo25⟩ := Kd.R_slice HO105.out; subst eo25; obtain ⟨Ao26, co26, eo26⟩ := Kd.R_slice HO108.out; subst eo26) | ((with_reducible refine gate_callee (f := 21) rfl ?_); refine goesL_ (some 18) rfl rfl Tryd.func21 (by kernel_rfl) rfl #[.agg #[.slice Ao25 t103.length co25, .slice Ao26 t106.length co26]] rfl Ga_ ?_; (with_reducible refine (mould_Iota.calls k (fun k_ => some k_ = (.slice Ao25 t103.length co25 : Value).ownBlock) _ _ t103 (fun k_ => some k_ = (.slice Ao26 t106.length co26 : Value).ownBlock) _ _ t106 t109 t112 t115 _ ?side1 ?side2 A5.out ?side3).mono ?_); (case side1 => exact Kd.R_V (Kd.R_tight rfl (Kd.R_apart' (HO105.out) (Kd.R_typed HO108.out) (by decide)))); (case side2 => exact Kd.R_V (Kd.R_tight rfl (Kd.R_apart' (HO108.out) (Kd.R_typed HO105.out) (by decide)))); (case side3 => first | exact hG | exact Glob.below hG Bl_); rintro e w27 ⟨v110, v113, rfl, ho0, ho1, hb⟩; refine ⟨_, rfl, ?_⟩; have HO111 := Aside0.mk (Kd.R_lower (Kd.R_new' (Kd.R_mono (ok' := fun k_ => True) ho0 (fun _ hk_ => trivial)) (Kd.R_lt (Pr_ HO105.out))) Bz_); replace HO105 := Aside0.mk (Kd.R_elder' (Pr_ HO105.out) (Kd.R_base ho0) hb); have HO114 := Aside0.mk (Kd.R_lower (Kd.R_new' (Kd.R_mono (ok' := fun k_ => True) ho1 (fun _ hk_ => trivial)) (Kd.R_lt (Pr_ HO108.out))) Bz_); replace HO108 := Aside0.mk (Kd.R_elder' (Pr_ HO108.out) (Kd.R_base ho1) hb); replace HB := Bs_ hb; (try clear hb); (try clear hb2); (try clear hk); (try clear hi); (try clear ho0); (try clear ho1)) | ((with_reducible refine gate_dst (N := 5) rfl ?_); (try (refine gate_guard (by rfl) ?_; dsimp only)); refine bx_ 5 #[.slice none 0 0, .slice none 0 0] 25 ?_; intro gb116 hg w28 hbox hb; replace HO105 := Aside0.mk (Kd.R_below (Pr_ HO105.out) hb); replace HO108 := Aside0.mk (Kd.R_below (Pr_ HO108.out) hb); replace HO111 := Aside0.mk (Kd.R_below (Pr_ HO111.out) hb); replace HO114 := Aside0.mk (Kd.R_below (Pr_ HO114.out) hb); have BK116 := Aside0.mk (hbox); have GW116 := (Bg_ hg : Aside0 (w.heap.size ≤ gb116)); have GE116 := (Bg_ hg : Aside0 (w.heap.size ≤ gb116)); replace HB := Bs_ hb; clear hb hbox hg; obtain ⟨Ao29, co29, eo29⟩ := Kd.R_slice HO111.out; subst eo29; obtain ⟨hcz30_0, hcz30_1⟩ := c2_ BK116; obtain ⟨hfz30_0, hfz30_1⟩ := f2_ BK116; obtain ⟨Ao31, co31, eo31⟩ := Kd.R_slice HO114.out; subst eo31) | ((with_reducible refine gate_store (t := 25) (p := 5) rfl ?_); refine store_event (t := 25) (p := 5) (v := ?vo_w32) (w1 := ((w28.setCell ⟨gb116, 0, none⟩ (.slice Ao29 t109.length co29)).setCell ⟨gb116, 1, none⟩ (.slice Ao31 t112.length co31))) ?hg ?ho ?hn ?hr ?_; (case ho => rfl); (case hg => rfl); (case hn => rfl); (case hr => first | (go_simp; done) | (go_simp; rfl)); intro w32 hw; have n0_ : Aside0 (Kd.R (Kd.int .i64) 3 w32 w.heap.size (fun k_ => some k_ ≠ (.slice Ao29 t109.length co29 : Value).ownBlock) (.slice Ao25 t103.length co25) t103) := ⟨(by rw [hw]; exact (by (with_reducible repeat (first | apply Kd.R_alloc | apply Kd.R_drewN | apply Kd.R_drew)); exact Kd.R_mono (Kd.R_far (p := ⟨gb116, 1, none⟩) (Kd.R_far (p := ⟨gb116, 0, none⟩) (Kd.R_types HO105.out BK116.out (by decide)) (fun _ hk => hk.2) (.slice Ao29 t109.length co29)) (fun _ hk => hk.2) (.slice Ao31 t112.length co31)) (fun _ hk => hk.1.2)))⟩; have n1_ : Aside0 (Kd.R Kd.string 9 w32 w.heap.size (fun k_ => some k_ ≠ (.slice Ao31 t112.length co31 : Value).ownBlock) (.slice Ao26 t106.length co26) t106) := ⟨(by rw [hw]; exact (by (with_reducible repeat (first | apply Kd.R_alloc | apply Kd.R_drewN | apply Kd.R_drew)); exact Kd.R_mono (Kd.R_far (p := ⟨gb116, 1, none⟩) (Kd.R_far (p := ⟨gb116, 0, none⟩) (Kd.R_types HO108.out BK116.out (by decide)) (fun _ hk => hk.2) (.slice Ao29 t109.length co29)) (fun _ hk => hk.2) (.slice Ao31 t112.length co31)) (fun _ hk => hk.1.2)))⟩; have n2_ : Aside0 (Kd.R (Kd.int .i64) 3 w32 w.heap.size (fun k_ => some k_ ≠ (.slice Ao25 t103.length co25 : Value).ownBlock) (.slice Ao29 t109.length co29) t109) := ⟨(by rw [hw]; exact (by (with_reducible repeat (first | apply Kd.R_alloc | apply Kd.R_drewN | apply Kd.R_drew)); exact Kd.R_mono (Kd.R_far (p := ⟨gb116, 1, none⟩) (Kd.R_far (p := ⟨gb116, 0, none⟩) (Kd.R_types HO111.out BK116.out (by decide)) (fun _ hk => hk.2) (.slice Ao29 t109.length co29)) (fun _ hk => hk.2) (.slice Ao31 t112.length co31)) (fun _ hk => hk.1.2)))⟩; have n3_ : Aside0 (Kd.R Kd.string 9 w32 w.heap.size (fun k_ => some k_ ≠ (.slice Ao26 t106.length co26 : Value).ownBlock) (.slice Ao31 t112.length co31) t112) := ⟨(by rw [hw]; exact (by (with_reducible repeat (first | apply Kd.R_alloc | apply Kd.R_drewN | apply Kd.R_drew)); exact Kd.R_mono (Kd.R_far (p := ⟨gb116, 1, none⟩) (Kd.R_far (p := ⟨gb116, 0, none⟩) (Kd.R_types HO114.out BK116.out (by decide)) (fun _ hk => hk.2) (.slice Ao29 t109.length co29)) (fun _ hk => hk.2) (.slice Ao31 t112.length co31)) (fun _ hk => hk.1.2)))⟩; have n4_ : Aside0 (w32.heap[gb116]? = some (.cells #[.slice Ao29 t109.length co29, .slice Ao31 t112.length co31] 25 (0, 0))) := ⟨(by rw [hw]; exact (by (with_reducible repeat (first | refine blk_drewN ?_ _ | refine blk_drew ?_ | refine blk_alloc ?_ _)); refine blk_put (cs := #[.slice Ao29 t109.length co29, .slice none 0 0]) ?_ 1 _ rfl; (with_reducible repeat (first | refine blk_drewN ?_ _ | refine blk_drew ?_ | refine blk_alloc ?_ _)); refine blk_put (cs := #[.slice none 0 0, .slice none 0 0]) ?_ 0 _ rfl; (with_reducible repeat (first | refine blk_drewN ?_ _ | refine blk_drew ?_ | refine blk_alloc ?_ _)); exact BK116.out))⟩; have n5_ : Aside0 (Below w.heap.size w w32) := ⟨(by rw [hw]; exact Bl_)⟩; clear hw; clear HO105; clear HO108; clear HO111; clear HO114; clear BK116; clear HB; have HO105 := n0_; have HO108 := n1_; have HO111 := n2_; have HO114 := n3_; have BK116 := n4_; have HB := n5_; clear n0_ n1_ n2_ n3_ n4_ n5_; obtain ⟨hcz33_0, hcz33_1⟩ := c2_ BK116; obtain ⟨hfz33_0, hfz33_1⟩ := f2_ BK116) | ((with_reducible refine gate_callee (f := 25) rfl ?_); refine goesL_ (some 35) rfl rfl Tryd.func25 (by kernel_rfl) rfl #[.agg #[.slice Ao29 t109.length co29, .slice Ao31 t112.length co31]] rfl Ga_ ?_; (with_reducible refine (mould_Reverse.calls k (fun k_ => some k_ = (.slice Ao29 t109.length co29 : Value).ownBlock) _ _ t109 (fun k_ => some k_ = (.slice Ao31 t112.length co31 : Value).ownBlock) _ _ t112 t118 t121 t124 _ ?side1 ?side2 A20.out).mono ?_); (case side1 => exact Kd.R_V (Kd.R_tight rfl (Kd.R_types (Kd.R_apart' (Kd.R_apart' (HO111.out) (Kd.R_typed HO108.out) (by decide)) (Kd.R_typed HO114.out) (by decide)) BK116.out (by decide)))); (case side2 => exact Kd.R_V (Kd.R_tight rfl (Kd.R_types (Kd.R_apart' (Kd.R_apart' (HO114.out) (Kd.R_typed HO105.out) (by decide)) (Kd.R_typed HO111.out) (by decide)) BK116.out (by decide)))); rintro e w34 ⟨v119, v122, rfl, ho0, ho1, hb⟩; refine ⟨_, rfl, ?_⟩; have HO120 := Aside0.mk (Kd.R_lower (Kd.R_new' (Kd.R_new' (Kd.R_mono (ok' := fun k_ => True) ho0 (fun _ hk_ => trivial)) (Kd.R_lt (Pr_ HO105.out))) (Kd.R_lt (Pr_ HO111.out))) Bz_); replace HO105 := Aside0.mk (Kd.R_elder' (Pr_ HO105.out) (Kd.R_base ho0) hb); replace HO111 := Aside0.mk (Kd.R_elder' (Pr_ HO111.out) (Kd.R_base ho0) hb); have HO123 := Aside0.mk (Kd.R_lower (Kd.R_new' (Kd.R_new' (Kd.R_mono (ok' := fun k_ => True) ho1 (fun _ hk_ => trivial)) (Kd.R_lt (Pr_ HO108.out))) (Kd.R_lt (Pr_ HO114.out))) Bz_); replace HO108 := Aside0.mk (Kd.R_elder' (Pr_ HO108.out) (Kd.R_base ho1) hb); replace HO114 := Aside0.mk (Kd.R_elder' (Pr_ HO114.out) (Kd.R_base ho1) hb); replace BK116 := kb_ BK116 hb; replace HB := Bs_ hb; (try clear hb); (try clear hb2); (try clear hk); (try clear hi); (try clear ho0); (try clear ho1)) | ((with_reducible refine gate_dst (N := 7) rfl ?_); (try (refine gate_guard (by rfl) ?_; dsimp only)); refine bx_ 7 #[.slice none 0 0, .slice none 0 0] 25 ?_; intro gb125 hg w35 hbox hb; replace HO105 := Aside0.mk (Kd.R_below (Pr_ HO105.out) hb); replace HO108 := Aside0.mk (Kd.R_below (Pr_ HO108.out) hb); replace HO111 := Aside0.mk (Kd.R_below (Pr_ HO111.out) hb); replace HO114 := Aside0.mk (Kd.R_below (Pr_ HO114.out) hb); replace HO120 := Aside0.mk (Kd.R_below (Pr_ HO120.out) hb); replace HO123 := Aside0.mk (Kd.R_below (Pr_ HO123.out) hb); have BK125 := Aside0.mk (hbox); have GW125 := (Bg_ hg : Aside0 (w.heap.size ≤ gb125)); have GE125 := (Bg_ hg : Aside0 (w.heap.size ≤ gb125)); replace HB := Bs_ hb; have NB116_125 := nl_ hg BK116; have NB125_116 := ng_ hg BK116; replace BK116 := kb_ BK116 hb; clear hb hbox hg; obtain ⟨Ao36, co36, eo36⟩ := Kd.R_slice HO120.out; subst eo36; have hnb37 := NB125_116.out; have hnc37 := NB116_125.out; obtain ⟨hcz38_0, hcz38_1⟩ := c2_ BK125; obtain ⟨hfz38_0, hfz38_1⟩ := f2_ BK125; obtain ⟨Ao39, co39, eo39⟩ := Kd.R_slice HO123.out; subst eo39))
    (try simp only [Act.put, List.setIfInBounds_toArray, List.set_cons_zero, List.set_cons_succ])
    go_cut [57] (fun v57 wc => ∃ (kq : Nat) (x57_20 : Bool), v57 = .bool x57_20 ∧ Aside0 (reredoslaw14_MouldIota.j0 kq true (Int.tmod (wrap64 (a0)) 5000) x57_20 t109 t112 t118 t121 = some r) ∧ Aside0 (kq ≤ k) ∧ Aside0 (Kd.R (Kd.int .i64) 3 wc w.heap.size (fun k_ => some k_ ≠ ((.slice Ao36 t118.length co36) : Value).ownBlock) (.slice Ao29 t109.length co29) t109) ∧ Aside0 (Kd.R Kd.string 9 wc w.heap.size (fun k_ => some k_ ≠ ((.slice Ao39 t121.length co39) : Value).ownBlock) (.slice Ao31 t112.length co31) t112) ∧ Aside0 (Kd.R (Kd.int .i64) 3 wc w.heap.size (fun k_ => some k_ ≠ ((.slice Ao29 t109.length co29) : Value).ownBlock) (.slice Ao36 t118.length co36) t118) ∧ Aside0 (Kd.R Kd.string 9 wc w.heap.size (fun k_ => some k_ ≠ ((.slice Ao31 t112.length co31) : Value).ownBlock) (.slice Ao39 t121.length co39) t121) ∧ Aside0 (wc.heap[gb116]? = some (.cells #[(.slice Ao29 t109.length co29), (.slice Ao31 t112.length co31)] 25 (0, 0))) ∧ Aside0 (wc.heap[gb125]? = some (.cells #[(.slice Ao36 t118.length co36), (.slice Ao39 t121.length co39)] 25 (0, 0))) ∧ Aside0 (Below w.heap.size w wc))
    case first =>
      have H := HC21.out
      clear HC21
      by_cases c40 : t115 = 0
      · rw [if_pos c40] at H
        have c40b0 : (t115 == 0) = true := beq_iff_eq.mpr c40
        have c40b1 : (t115 != 0) = false := bne_eq_false_iff_eq.mpr c40
        clear c40
        (first | rw [c40b0] | (simp only [i64_w, i32_w]; rw [c40b0]) | skip)
        by_cases c41 : t124 = 0
        · rw [if_pos c41] at H
          have c41b0 : (t124 == 0) = true := beq_iff_eq.mpr c41
          have c41b1 : (t124 != 0) = false := bne_eq_false_iff_eq.mpr c41
          clear c41
          by_cases c42 : (t112.length : Int) = (Int.tmod (wrap64 (a0)) 5000)
          · rw [if_pos c42] at H
            have c42b0 : ((t112.length : Int) == (Int.tmod (wrap64 (a0)) 5000)) = true := beq_iff_eq.mpr c42
            have c42b1 : ((t112.length : Int) != (Int.tmod (wrap64 (a0)) 5000)) = false := bne_eq_false_iff_eq.mpr c42
            clear c42
            have H' := Aside0.mk H
            clear H
            have hnb43 := NB116_125.out
            have hnc43 := NB125_116.out
            obtain ⟨hcz44_0, hcz44_1⟩ := c2_ BK116
            obtain ⟨hfz44_0, hfz44_1⟩ := f2_ BK116
            obtain ⟨hcz45_0, hcz45_1⟩ := c2_ BK125
            obtain ⟨hfz45_0, hfz45_1⟩ := f2_ BK125
            go_wp2
            go_meet
            case rel => exact ⟨_, (((t121.length : Int) != (Int.tmod (wrap64 (a0)) 5000))), Rf_, H', ⟨by first | omega | exact Nat.le_refl _⟩, ⟨by (with_reducible repeat (first | apply Kd.R_alloc | apply Kd.R_drewN | apply Kd.R_drew)); exact Kd.R_mono (Kd.R_far (p := ⟨gb125, 1, none⟩) (Kd.R_far (p := ⟨gb125, 0, none⟩) (Kd.R_types HO111.out BK125.out (by decide)) (fun _ hk => hk.2) (.slice Ao36 t118.length co36)) (fun _ hk => hk.2) (.slice Ao39 t121.length co39)) (fun _ hk => hk.1.2)⟩, ⟨by (with_reducible repeat (first | apply Kd.R_alloc | apply Kd.R_drewN | apply Kd.R_drew)); exact Kd.R_mono (Kd.R_far (p := ⟨gb125, 1, none⟩) (Kd.R_far (p := ⟨gb125, 0, none⟩) (Kd.R_types HO114.out BK125.out (by decide)) (fun _ hk => hk.2) (.slice Ao36 t118.length co36)) (fun _ hk => hk.2) (.slice Ao39 t121.length co39)) (fun _ hk => hk.1.2)⟩, ⟨by (with_reducible repeat (first | apply Kd.R_alloc | apply Kd.R_drewN | apply Kd.R_drew)); exact Kd.R_mono (Kd.R_far (p := ⟨gb125, 1, none⟩) (Kd.R_far (p := ⟨gb125, 0, none⟩) (Kd.R_types HO120.out BK125.out (by decide)) (fun _ hk => hk.2) (.slice Ao36 t118.length co36)) (fun _ hk => hk.2) (.slice Ao39 t121.length co39)) (fun _ hk => hk.1.2)⟩, ⟨by (with_reducible repeat (first | apply Kd.R_alloc | apply Kd.R_drewN | apply Kd.R_drew)); exact Kd.R_mono (Kd.R_far (p := ⟨gb125, 1, none⟩) (Kd.R_far (p := ⟨gb125, 0, none⟩) (Kd.R_types HO123.out BK125.out (by decide)) (fun _ hk => hk.2) (.slice Ao36 t118.length co36)) (fun _ hk => hk.2) (.slice Ao39 t121.length co39)) (fun _ hk => hk.1.2)⟩, ⟨by (with_reducible repeat (first | refine blk_drewN ?_ _ | refine blk_drew ?_ | refine blk_alloc ?_ _)); refine blk_far ?_ NB116_125.out _; (with_reducible repeat (first | refine blk_drewN ?_ _ | refine blk_drew ?_ | refine blk_alloc ?_ _)); refine blk_far ?_ NB116_125.out _; (with_reducible repeat (first | refine blk_drewN ?_ _ | refine blk_drew ?_ | refine blk_alloc ?_ _)); exact BK116.out⟩, ⟨by (with_reducible repeat (first | refine blk_drewN ?_ _ | refine blk_drew ?_ | refine blk_alloc ?_ _)); refine blk_put (cs := #[.slice Ao36 t118.length co36, .slice none 0 0]) ?_ 1 _ rfl; (with_reducible repeat (first | refine blk_drewN ?_ _ | refine blk_drew ?_ | refine blk_alloc ?_ _)); refine blk_put (cs := #[.slice none 0 0, .slice none 0 0]) ?_ 0 _ rfl; (with_reducible repeat (first | refine blk_drewN ?_ _ | refine blk_drew ?_ | refine blk_alloc ?_ _)); exact BK125.out⟩, ⟨Bl_⟩⟩
          · rw [if_neg c42] at H
            have c42b0 : ((t112.length : Int) == (Int.tmod (wrap64 (a0)) 5000)) = false := beq_eq_false_iff_ne.mpr c42
            have c42b1 : ((t112.length : Int) != (Int.tmod (wrap64 (a0)) 5000)) = true := bne_iff_ne.mpr c42
            have H' := Aside0.mk H
            clear H
            have hnb46 := NB116_125.out
            have hnc46 := NB125_116.out
            obtain ⟨hcz47_0, hcz47_1⟩ := c2_ BK116
            obtain ⟨hfz47_0, hfz47_1⟩ := f2_ BK116
            go_wp2
            go_meet
            case rel => exact ⟨_, (true), Rf_, H', ⟨by first | omega | exact Nat.le_refl _⟩, ⟨by (with_reducible repeat (first | apply Kd.R_alloc | apply Kd.R_drewN | apply Kd.R_drew)); exact Kd.R_mono (Kd.R_far (p := ⟨gb125, 1, none⟩) (Kd.R_far (p := ⟨gb125, 0, none⟩) (Kd.R_types HO111.out BK125.out (by decide)) (fun _ hk => hk.2) (.slice Ao36 t118.length co36)) (fun _ hk => hk.2) (.slice Ao39 t121.length co39)) (fun _ hk => hk.1.2)⟩, ⟨by (with_reducible repeat (first | apply Kd.R_alloc | apply Kd.R_drewN | apply Kd.R_drew)); exact Kd.R_mono (Kd.R_far (p := ⟨gb125, 1, none⟩) (Kd.R_far (p := ⟨gb125, 0, none⟩) (Kd.R_types HO114.out BK125.out (by decide)) (fun _ hk => hk.2) (.slice Ao36 t118.length co36)) (fun _ hk => hk.2) (.slice Ao39 t121.length co39)) (fun _ hk => hk.1.2)⟩, ⟨by (with_reducible repeat (first | apply Kd.R_alloc | apply Kd.R_drewN | apply Kd.R_drew)); exact Kd.R_mono (Kd.R_far (p := ⟨gb125, 1, none⟩) (Kd.R_far (p := ⟨gb125, 0, none⟩) (Kd.R_types HO120.out BK125.out (by decide)) (fun _ hk => hk.2) (.slice Ao36 t118.length co36)) (fun _ hk => hk.2) (.slice Ao39 t121.length co39)) (fun _ hk => hk.1.2)⟩, ⟨by (with_reducible repeat (first | apply Kd.R_alloc | apply Kd.R_drewN | apply Kd.R_drew)); exact Kd.R_mono (Kd.R_far (p := ⟨gb125, 1, none⟩) (Kd.R_far (p := ⟨gb125, 0, none⟩) (Kd.R_types HO123.out BK125.out (by decide)) (fun _ hk => hk.2) (.slice Ao36 t118.length co36)) (fun _ hk => hk.2) (.slice Ao39 t121.length co39)) (fun _ hk => hk.1.2)⟩, ⟨by (with_reducible repeat (first | refine blk_drewN ?_ _ | refine blk_drew ?_ | refine blk_alloc ?_ _)); refine blk_far ?_ NB116_125.out _; (with_reducible repeat (first | refine blk_drewN ?_ _ | refine blk_drew ?_ | refine blk_alloc ?_ _)); refine blk_far ?_ NB116_125.out _; (with_reducible repeat (first | refine blk_drewN ?_ _ | refine blk_drew ?_ | refine blk_alloc ?_ _)); exact BK116.out⟩, ⟨by (with_reducible repeat (first | refine blk_drewN ?_ _ | refine blk_drew ?_ | refine blk_alloc ?_ _)); refine blk_put (cs := #[.slice Ao36 t118.length co36, .slice none 0 0]) ?_ 1 _ rfl; (with_reducible repeat (first | refine blk_drewN ?_ _ | refine blk_drew ?_ | refine blk_alloc ?_ _)); refine blk_put (cs := #[.slice none 0 0, .slice none 0 0]) ?_ 0 _ rfl; (with_reducible repeat (first | refine blk_drewN ?_ _ | refine blk_drew ?_ | refine blk_alloc ?_ _)); exact BK125.out⟩, ⟨Bl_⟩⟩
        · rw [if_neg c41] at H
          have c41b0 : (t124 == 0) = false := beq_eq_false_iff_ne.mpr c41
          have c41b1 : (t124 != 0) = true := bne_iff_ne.mpr c41
          have H' := Aside0.mk H
          clear H
          go_wp2
          go_meet
          case rel => exact ⟨_, (true), Rf_, H', ⟨by first | omega | exact Nat.le_refl _⟩, ⟨by (with_reducible repeat (first | apply Kd.R_alloc | apply Kd.R_drewN | apply Kd.R_drew)); exact Kd.R_mono (Kd.R_far (p := ⟨gb125, 1, none⟩) (Kd.R_far (p := ⟨gb125, 0, none⟩) (Kd.R_types HO111.out BK125.out (by decide)) (fun _ hk => hk.2) (.slice Ao36 t118.length co36)) (fun _ hk => hk.2) (.slice Ao39 t121.length co39)) (fun _ hk => hk.1.2)⟩, ⟨by (with_reducible repeat (first | apply Kd.R_alloc | apply Kd.R_drewN | apply Kd.R_drew)); exact Kd.R_mono (Kd.R_far (p := ⟨gb125, 1, none⟩) (Kd.R_far (p := ⟨gb125, 0, none⟩) (Kd.R_types HO114.out BK125.out (by decide)) (fun _ hk => hk.2) (.slice Ao36 t118.length co36)) (fun _ hk => hk.2) (.slice Ao39 t121.length co39)) (fun _ hk => hk.1.2)⟩, ⟨by (with_reducible repeat (first | apply Kd.R_alloc | apply Kd.R_drewN | apply Kd.R_drew)); exact Kd.R_mono (Kd.R_far (p := ⟨gb125, 1, none⟩) (Kd.R_far (p := ⟨gb125, 0, none⟩) (Kd.R_types HO120.out BK125.out (by decide)) (fun _ hk => hk.2) (.slice Ao36 t118.length co36)) (fun _ hk => hk.2) (.slice Ao39 t121.length co39)) (fun _ hk => hk.1.2)⟩, ⟨by (with_reducible repeat (first | apply Kd.R_alloc | apply Kd.R_drewN | apply Kd.R_drew)); exact Kd.R_mono (Kd.R_far (p := ⟨gb125, 1, none⟩) (Kd.R_far (p := ⟨gb125, 0, none⟩) (Kd.R_types HO123.out BK125.out (by decide)) (fun _ hk => hk.2) (.slice Ao36 t118.length co36)) (fun _ hk => hk.2) (.slice Ao39 t121.length co39)) (fun _ hk => hk.1.2)⟩, ⟨by (with_reducible repeat (first | refine blk_drewN ?_ _ | refine blk_drew ?_ | refine blk_alloc ?_ _)); refine blk_far ?_ NB116_125.out _; (with_reducible repeat (first | refine blk_drewN ?_ _ | refine blk_drew ?_ | refine blk_alloc ?_ _)); refine blk_far ?_ NB116_125.out _; (with_reducible repeat (first | refine blk_drewN ?_ _ | refine blk_drew ?_ | refine blk_alloc ?_ _)); exact BK116.out⟩, ⟨by (with_reducible repeat (first | refine blk_drewN ?_ _ | refine blk_drew ?_ | refine blk_alloc ?_ _)); refine blk_put (cs := #[.slice Ao36 t118.length co36, .slice none 0 0]) ?_ 1 _ rfl; (with_reducible repeat (first | refine blk_drewN ?_ _ | refine blk_drew ?_ | refine blk_alloc ?_ _)); refine blk_put (cs := #[.slice none 0 0, .slice none 0 0]) ?_ 0 _ rfl; (with_reducible repeat (first | refine blk_drewN ?_ _ | refine blk_drew ?_ | refine blk_alloc ?_ _)); exact BK125.out⟩, ⟨Bl_⟩⟩
      · rw [if_neg c40] at H
        have c40b0 : (t115 == 0) = false := beq_eq_false_iff_ne.mpr c40
        have c40b1 : (t115 != 0) = true := bne_iff_ne.mpr c40
        (first | rw [c40b0] | (simp only [i64_w, i32_w]; rw [c40b0]) | skip)
        have H' := Aside0.mk H
        clear H
        go_wp2
        go_meet
        case rel => exact ⟨_, (true), Rf_, H', ⟨by first | omega | exact Nat.le_refl _⟩, ⟨by (with_reducible repeat (first | apply Kd.R_alloc | apply Kd.R_drewN | apply Kd.R_drew)); exact Kd.R_mono (Kd.R_far (p := ⟨gb125, 1, none⟩) (Kd.R_far (p := ⟨gb125, 0, none⟩) (Kd.R_types HO111.out BK125.out (by decide)) (fun _ hk => hk.2) (.slice Ao36 t118.length co36)) (fun _ hk => hk.2) (.slice Ao39 t121.length co39)) (fun _ hk => hk.1.2)⟩, ⟨by (with_reducible repeat (first | apply Kd.R_alloc | apply Kd.R_drewN | apply Kd.R_drew)); exact Kd.R_mono (Kd.R_far (p := ⟨gb125, 1, none⟩) (Kd.R_far (p := ⟨gb125, 0, none⟩) (Kd.R_types HO114.out BK125.out (by decide)) (fun _ hk => hk.2) (.slice Ao36 t118.length co36)) (fun _ hk => hk.2) (.slice Ao39 t121.length co39)) (fun _ hk => hk.1.2)⟩, ⟨by (with_reducible repeat (first | apply Kd.R_alloc | apply Kd.R_drewN | apply Kd.R_drew)); exact Kd.R_mono (Kd.R_far (p := ⟨gb125, 1, none⟩) (Kd.R_far (p := ⟨gb125, 0, none⟩) (Kd.R_types HO120.out BK125.out (by decide)) (fun _ hk => hk.2) (.slice Ao36 t118.length co36)) (fun _ hk => hk.2) (.slice Ao39 t121.length co39)) (fun _ hk => hk.1.2)⟩, ⟨by (with_reducible repeat (first | apply Kd.R_alloc | apply Kd.R_drewN | apply Kd.R_drew)); exact Kd.R_mono (Kd.R_far (p := ⟨gb125, 1, none⟩) (Kd.R_far (p := ⟨gb125, 0, none⟩) (Kd.R_types HO123.out BK125.out (by decide)) (fun _ hk => hk.2) (.slice Ao36 t118.length co36)) (fun _ hk => hk.2) (.slice Ao39 t121.length co39)) (fun _ hk => hk.1.2)⟩, ⟨by (with_reducible repeat (first | refine blk_drewN ?_ _ | refine blk_drew ?_ | refine blk_alloc ?_ _)); refine blk_far ?_ NB116_125.out _; (with_reducible repeat (first | refine blk_drewN ?_ _ | refine blk_drew ?_ | refine blk_alloc ?_ _)); refine blk_far ?_ NB116_125.out _; (with_reducible repeat (first | refine blk_drewN ?_ _ | refine blk_drew ?_ | refine blk_alloc ?_ _)); exact BK116.out⟩, ⟨by (with_reducible repeat (first | refine blk_drewN ?_ _ | refine blk_drew ?_ | refine blk_alloc ?_ _)); refine blk_put (cs := #[.slice Ao36 t118.length co36, .slice none 0 0]) ?_ 1 _ rfl; (with_reducible repeat (first | refine blk_drewN ?_ _ | refine blk_drew ?_ | refine blk_alloc ?_ _)); refine blk_put (cs := #[.slice none 0 0, .slice none 0 0]) ?_ 0 _ rfl; (with_reducible repeat (first | refine blk_drewN ?_ _ | refine blk_drew ?_ | refine blk_alloc ?_ _)); exact BK125.out⟩, ⟨Bl_⟩⟩
    case rest =>
      clear HC21
      try clear c2
      try clear p2
      try clear c3
      try clear c4
      try clear c5
      try clear c6
      try clear c6b0
      try clear p6
      try clear c7
      try clear c7b0
      try clear c7b1
      try clear c20
      try clear c21
      try clear c22
      try clear c23
      try clear c25
      try clear c37
      try clear c40
      try clear c40b0
      try clear c40b1
      try clear c41
      try clear c41b0
      try clear c41b1
      try clear c42
      try clear c42b0
      try clear c42b1
      try clear c43
      try clear c46
      try clear hcz17_0
      try clear hcz17_1
      try clear hcz30_0
      try clear hcz30_1
      try clear hcz33_0
      try clear hcz33_1
      try clear hcz38_0
      try clear hcz38_1
      try clear hcz44_0
      try clear hcz44_1
      try clear hcz45_0
      try clear hcz45_1
      try clear hcz47_0
      try clear hcz47_1
      try clear hfz17_0
      try clear hfz17_1
      try clear hfz30_0
      try clear hfz30_1
      try clear hfz33_0
      try clear hfz33_1
      try clear hfz38_0
      try clear hfz38_1
      try clear hfz44_0
      try clear hfz44_1
      try clear hfz45_0
      try clear hfz45_1
      try clear hfz47_0
      try clear hfz47_1
      obtain ⟨kq, x57_20, rfl, HA, HJ20, HO_117000, HO_117001, HO_126000, HO_126001, BK116, BK125, HB⟩ := hcut
      cases kq with
      | zero => exact absurd HA.out (by simp [reredoslaw14_MouldIota.j0])
      | succ kj20 =>
        have H := HA.out
        clear HA
        simp only [reredoslaw14_MouldIota.j0] at H
        by_cases c48 : x57_20 = true
        · subst c48
          have H1 : (none) = some r := by rw [if_pos rfl] at H; exact H
          clear H
          have H := H1
          clear H1
          exact absurd H (by simp)
        · replace c48 := Bool.eq_false_iff.mpr c48
          subst c48
          have H1 : (reredoslaw14_MouldIota.l0 kj20 true (Int.tmod (wrap64 (a0)) 5000) 0 t109 t112 t118 t121) = some r := by rw [if_neg (show ¬ (false = true) by decide)] at H; exact H
          clear H
          have H := H1
          clear H1
          have H' := Aside0.mk H
          clear H
          go_wp2
          go_loopg [9] kj20 (fun kq v9 w' => ∃ (x9_2 : Int), v9 = .int .i64 x9_2 ∧ Aside0 (reredoslaw14_MouldIota.l0 kq true (Int.tmod (wrap64 (a0)) 5000) x9_2 t109 t112 t118 t121 = some r) ∧ Aside0 (kq ≤ kj20) ∧ Aside0 (Kd.R (Kd.int .i64) 3 w' w.heap.size (fun k_ => some k_ ≠ ((.slice Ao36 t118.length co36) : Value).ownBlock) (.slice Ao29 t109.length co29) t109) ∧ Aside0 (Kd.R Kd.string 9 w' w.heap.size (fun k_ => some k_ ≠ ((.slice Ao39 t121.length co39) : Value).ownBlock) (.slice Ao31 t112.length co31) t112) ∧ Aside0 (Kd.R (Kd.int .i64) 3 w' w.heap.size (fun k_ => some k_ ≠ ((.slice Ao29 t109.length co29) : Value).ownBlock) (.slice Ao36 t118.length co36) t118) ∧ Aside0 (Kd.R Kd.string 9 w' w.heap.size (fun k_ => some k_ ≠ ((.slice Ao31 t112.length co31) : Value).ownBlock) (.slice Ao39 t121.length co39) t121) ∧ Aside0 (w'.heap[gb116]? = some (.cells #[(.slice Ao29 t109.length co29), (.slice Ao31 t112.length co31)] 25 (0, 0))) ∧ Aside0 (w'.heap[gb125]? = some (.cells #[(.slice Ao36 t118.length co36), (.slice Ao39 t121.length co39)] 25 (0, 0))) ∧ Aside0 (Below w.heap.size w w'))
          case atStart => exact ⟨(0), Rf_, H', ⟨Nat.le_refl _⟩, ⟨by (with_reducible repeat (first | apply Kd.R_alloc | apply Kd.R_drewN | apply Kd.R_drew)); exact HO_117000.out⟩, ⟨by (with_reducible repeat (first | apply Kd.R_alloc | apply Kd.R_drewN | apply Kd.R_drew)); exact HO_117001.out⟩, ⟨by (with_reducible repeat (first | apply Kd.R_alloc | apply Kd.R_drewN | apply Kd.R_drew)); exact HO_126000.out⟩, ⟨by (with_reducible repeat (first | apply Kd.R_alloc | apply Kd.R_drewN | apply Kd.R_drew)); exact HO_126001.out⟩, ⟨by (with_reducible repeat (first | refine blk_drewN ?_ _ | refine blk_drew ?_ | refine blk_alloc ?_ _)); exact BK116.out⟩, ⟨by (with_reducible repeat (first | refine blk_drewN ?_ _ | refine blk_drew ?_ | refine blk_alloc ?_ _)); exact BK125.out⟩, ⟨Bl_⟩⟩
          case round =>
            clear H'
            try clear c2
            try clear p2
            try clear c3
            try clear c4
            try clear c5
            try clear c6
            try clear c6b0
            try clear p6
            try clear c7
            try clear c7b0
            try clear c7b1
            try clear c20
            try clear c21
            try clear c22
            try clear c23
            try clear c25
            try clear c37
            try clear c40
            try clear c40b0
            try clear c40b1
            try clear c41
            try clear c41b0
            try clear c41b1
            try clear c42
            try clear c42b0
            try clear c42b1
            try clear c43
            try clear c46
            try clear c48
            try clear hcz17_0
            try clear hcz17_1
            try clear hcz30_0
            try clear hcz30_1
            try clear hcz33_0
            try clear hcz33_1
            try clear hcz38_0
            try clear hcz38_1
            try clear hcz44_0
            try clear hcz44_1
            try clear hcz45_0
            try clear hcz45_1
            try clear hcz47_0
            try clear hcz47_1
            try clear hfz17_0
            try clear hfz17_1
            try clear hfz30_0
            try clear hfz30_1
            try clear hfz33_0
            try clear hfz33_1
            try clear hfz38_0
            try clear hfz38_1
            try clear hfz44_0
            try clear hfz44_1
            try clear hfz45_0
            try clear hfz45_1
            try clear hfz47_0
            try clear hfz47_1
            try clear p2
            try clear p6
            obtain ⟨x9_2, rfl, HA, HK2, HO_117000, HO_117001, HO_126000, HO_126001, BK116, BK125, HB⟩ := hrel
            cases gk with
            | zero => exact absurd HA.out (by simp [reredoslaw14_MouldIota.l0])
            | succ k2 =>
              have H := HA.out
              clear HA
              simp only [reredoslaw14_MouldIota.l0] at H
              by_cases c49 : x9_2 < (Int.tmod (wrap64 (a0)) 5000)
              · rw [if_pos c49] at H
                have c49b0 : decide (x9_2 < (Int.tmod (wrap64 (a0)) 5000)) = true := decide_eq_true c49
                clear c49
                by_cases c50 : 0 ≤ x9_2
                · rw [if_pos c50] at H
                  have c50b0 : decide (0 ≤ x9_2) = true := decide_eq_true c50
                  clear c50
                  by_cases c51 : x9_2 < (t112.length : Int)
                  · rw [if_pos c51] at H
                    have c51b0 : decide (x9_2 < (t112.length : Int)) = true := decide_eq_true c51
                    clear c51
                    obtain ⟨t128, A52, H⟩ := bnd_ H
                    try dsimp -simprocs only at H
                    by_cases c53 : (rdOf ByteArray.empty t112 x9_2).toList = t128.toList
                    · rw [if_pos c53] at H
                      have c53b0 : ((rdOf ByteArray.empty t112 x9_2).toList == t128.toList) = true := beq_iff_eq.mpr c53
                      have c53b1 : ((rdOf ByteArray.empty t112 x9_2).toList != t128.toList) = false := bne_eq_false_iff_eq.mpr c53
                      clear c53
                      by_cases c54 : x9_2 < (t121.length : Int)
                      · rw [if_pos c54] at H
                        have c54b0 : decide (x9_2 < (t121.length : Int)) = true := decide_eq_true c54
                        clear c54
                        obtain ⟨t130, A55, H⟩ := bnd_ H
                        try dsimp -simprocs only at H
                        by_cases c56 : (rdOf ByteArray.empty t121 x9_2).toList = t130.toList
                        · rw [if_pos c56] at H
                          have c56b0 : ((rdOf ByteArray.empty t121 x9_2).toList == t130.toList) = true := beq_iff_eq.mpr c56
                          have c56b1 : ((rdOf ByteArray.empty t121 x9_2).toList != t130.toList) = false := bne_eq_false_iff_eq.mpr c56
                          clear c56
                          have H' := Aside0.mk H
                          clear H
                          try go_wp2
                          replace HO_117000 := Aside0.mk (Kd.R_drew HO_117000.out)
                          replace HO_117001 := Aside0.mk (Kd.R_drew HO_117001.out)
                          replace HO_126000 := Aside0.mk (Kd.R_drew HO_126000.out)
                          replace HO_126001 := Aside0.mk (Kd.R_drew HO_126001.out)
                          replace BK116 := Aside0.mk (blk_drew BK116.out)
                          replace BK125 := Aside0.mk (blk_drew BK125.out)
                          replace HB := Aside0.mk (below_drew1 HB.out)
                          have p127 : 0 ≤ (x9_2 : Int) := of_decide_eq_true As_
                          have q127 : x9_2 < (t112.length : Int) := of_decide_eq_true As_
                          obtain ⟨ad127, e127, hx127_0⟩ := Kd.at_string (Kd.R_reads' HO_117001.out).2.2 x9_2 p127 q127
                          cases e127
                          replace p127 := eq_true p127
                          replace q127 := eq_true q127
                          have p129 : 0 ≤ (x9_2 : Int) := of_decide_eq_true As_
                          have q129 : x9_2 < (t121.length : Int) := of_decide_eq_true As_
                          obtain ⟨ad129, e129, hx129_0⟩ := Kd.at_string (Kd.R_reads' HO_126001.out).2.2 x9_2 p129 q129
                          cases e129
                          replace p129 := eq_true p129
                          replace q129 := eq_true q129
                          refine start_ (n := 21) (S := fun w' => w'.cell? ⟨gb116, 0, none⟩ = some (.slice Ao29 t109.length co29) ∧ w'.cell? ⟨gb116, 1, none⟩ = some (.slice (some ad127) t112.length co31) ∧ w'.cell? ⟨gb125, 0, none⟩ = some (.slice Ao36 t118.length co36) ∧ w'.cell? ⟨gb125, 1, none⟩ = some (.slice (some ad129) t121.length co39) ∧ w'.cell? (ad127.add (x9_2).toNat) = some (.string (rdOf ByteArray.empty t112 x9_2)) ∧ w'.cell? (ad129.add (x9_2).toNat) = some (.string (rdOf ByteArray.empty t121 x9_2))) (ds := []) #[false, false, false, false, false, false, false, false, false, false, false, false, false, false, false, false, false, false, false, false, false] (by kernel_rfl) rfl rfl ⟨(blk_cell BK116.out 0).trans rfl, (blk_cell BK116.out 1).trans rfl, (blk_cell BK125.out 0).trans rfl, (blk_cell BK125.out 1).trans rfl, hx127_0, hx129_0⟩ (fun hHeld => ?_); refine with_tabW reredoslaw14_MouldIota.tab12 reredoslaw14_MouldIota.bits12 (fun HT_ HW_ => ?_)
                          generalize wr.drew = w57 at HO_117000 HO_117001 HO_126000 HO_126001 BK116 BK125 HB hx127_0 hx129_0 hHeld ⊢
                          refine pu_ 0 (some 63) HT_ #[true, false, false, false, false, false, false, false, false, false, false, false, false, false, false, false, false, false, false, false, false] ?_
                          refine pu_ 2 (some 65) HT_ #[true, false, true, false, false, false, false, false, false, false, false, false, false, false, false, false, false, false, false, false, false] ?_
                          refine pu_ 5 (some 68) HT_ #[true, false, true, false, false, true, false, false, false, false, false, false, false, false, false, false, false, false, false, false, false] ?_
                          refine take_ (i := 1) (N := some 64) (v := ?_) (a' := ?_) #[true, true, true, false, false, true, false, false, false, false, false, false, false, false, false, false, false, false, false, false, false] rfl rfl (take_ofW HT_.out HW_.out (by kernel_rfl)) (fun _ _ _ h => h) (Or.inl ⟨by rfl, ?_⟩) hHeld ?_ ?_
                          rotate_left
                          · rintro w' ⟨s0, s1, s2, s3, s4, s5⟩
                            go_simp
                            with_reducible rfl
                          rotate_left
                          · simp only [Act.put, List.setIfInBounds_toArray, List.set_cons_zero, List.set_cons_succ, i64_w, i32_w]
                            rfl
                          refine pu_ 3 (some 66) HT_ #[true, true, true, true, false, true, false, false, false, false, false, false, false, false, false, false, false, false, false, false, false] ?_
                          refine take_ (i := 4) (N := some 67) (v := ?_) (a' := ?_) #[true, true, true, true, true, true, false, false, false, false, false, false, false, false, false, false, false, false, false, false, false] rfl rfl (take_ofW HT_.out HW_.out (by kernel_rfl)) (fun _ _ _ h => h) (Or.inl ⟨by rfl, ?_⟩) hHeld ?_ ?_
                          rotate_left
                          · rintro w' ⟨s0, s1, s2, s3, s4, s5⟩
                            go_simp
                            with_reducible rfl
                          rotate_left
                          · simp only [Act.put, List.setIfInBounds_toArray, List.set_cons_zero, List.set_cons_succ, i64_w, i32_w]
                            rfl
                          refine one_ (i := 6) (N := some 69) #[true, true, true, true, true, true, true, false, false, false, false, false, false, false, false, false, false, false, false, false, false] rfl rfl (one_of HT_.out (by kernel_rfl)) (by decide) (fun K hK => ?_)
                          refine goes_ Tryd.func23 (by kernel_rfl) rfl #[.int .i64 x9_2] (by rfl) rfl rfl Ga_ ?_
                          with_reducible refine (num_Of.calls x9_2 t128 _ A52.out ?side1).mono ?_
                          (case side1 => first | exact hG | exact Glob.below hG Bl_)
                          rintro e w58 ⟨rfl, hb⟩
                          have HS4_ := (hb.cell (World.block_lt_of_cell? _ _ (hHeld.2.2.2.2.1))).trans (hHeld.2.2.2.2.1)
                          have HS5_ := (hb.cell (World.block_lt_of_cell? _ _ (hHeld.2.2.2.2.2))).trans (hHeld.2.2.2.2.2)
                          refine ⟨_, rfl, ?_⟩
                          replace HO_117000 := Aside0.mk (Kd.R_below (Pr_ HO_117000.out) hb)
                          replace HO_117001 := Aside0.mk (Kd.R_below (Pr_ HO_117001.out) hb)
                          replace HO_126000 := Aside0.mk (Kd.R_below (Pr_ HO_126000.out) hb)
                          replace HO_126001 := Aside0.mk (Kd.R_below (Pr_ HO_126001.out) hb)
                          replace BK116 := kb_ BK116 hb
                          replace BK125 := kb_ BK125 hb
                          replace HB := Bs_ hb
                          (try clear hb)
                          (try clear hb2)
                          (try clear hk)
                          (try clear hi)
                          refine hK.out _ _ ⟨(blk_cell BK116.out 0).trans rfl, (blk_cell BK116.out 1).trans rfl, (blk_cell BK125.out 0).trans rfl, (blk_cell BK125.out 1).trans rfl, HS4_, HS5_⟩ (fun hHeld => ?_)
                          clear hK K
                          refine norm_ (a' := ?_) ?_ ?_
                          rotate_left
                          · show Act.put _ (some 69) _ = _
                            simp only [Act.put, List.setIfInBounds_toArray, List.set_cons_zero, List.set_cons_succ, i64_w, i32_w]
                            rfl
                          refine pu_ 7 (some 70) HT_ #[true, true, true, true, true, true, true, true, false, false, false, false, false, false, false, false, false, false, false, false, false] ?_
                          refine pu_ 8 (some 71) HT_ #[true, true, true, true, true, true, true, true, true, false, false, false, false, false, false, false, false, false, false, false, false] ?_
                          refine pu_ 9 (some 72) HT_ #[true, true, true, true, true, true, true, true, true, true, false, false, false, false, false, false, false, false, false, false, false] ?_
                          refine pu_ 11 (some 74) HT_ #[true, true, true, true, true, true, true, true, true, true, false, true, false, false, false, false, false, false, false, false, false] ?_
                          refine pu_ 14 (some 77) HT_ #[true, true, true, true, true, true, true, true, true, true, false, true, false, false, true, false, false, false, false, false, false] ?_
                          refine pu_ 15 (some 78) HT_ #[true, true, true, true, true, true, true, true, true, true, false, true, false, false, true, true, false, false, false, false, false] ?_
                          refine pu_ 16 (some 79) HT_ #[true, true, true, true, true, true, true, true, true, true, false, true, false, false, true, true, true, false, false, false, false] ?_
                          refine pu_ 17 (some 80) HT_ #[true, true, true, true, true, true, true, true, true, true, false, true, false, false, true, true, true, true, false, false, false] ?_
                          refine take_ (i := 10) (N := some 73) (v := ?_) (a' := ?_) #[true, true, true, true, true, true, true, true, true, true, true, true, false, false, true, true, true, true, false, false, false] rfl rfl (take_ofW HT_.out HW_.out (by kernel_rfl)) (fun _ _ _ h => h) (Or.inl ⟨by rfl, ?_⟩) hHeld ?_ ?_
                          rotate_left
                          · rintro w' ⟨s0, s1, s2, s3, s4, s5⟩
                            go_simp
                            with_reducible rfl
                          rotate_left
                          · simp only [Act.put, List.setIfInBounds_toArray, List.set_cons_zero, List.set_cons_succ, i64_w, i32_w]
                            rfl
                          refine pu_ 12 (some 75) HT_ #[true, true, true, true, true, true, true, true, true, true, true, true, true, false, true, true, true, true, false, false, false] ?_
                          refine take_ (i := 13) (N := some 76) (v := ?_) (a' := ?_) #[true, true, true, true, true, true, true, true, true, true, true, true, true, true, true, true, true, true, false, false, false] rfl rfl (take_ofW HT_.out HW_.out (by kernel_rfl)) (fun _ _ _ h => h) (Or.inl ⟨by rfl, ?_⟩) hHeld ?_ ?_
                          rotate_left
                          · rintro w' ⟨s0, s1, s2, s3, s4, s5⟩
                            go_simp
                            with_reducible rfl
                          rotate_left
                          · simp only [Act.put, List.setIfInBounds_toArray, List.set_cons_zero, List.set_cons_succ, i64_w, i32_w]
                            rfl
                          refine one_ (i := 18) (N := some 81) #[true, true, true, true, true, true, true, true, true, true, true, true, true, true, true, true, true, true, true, false, false] rfl rfl (one_of HT_.out (by kernel_rfl)) (by decide) (fun K hK => ?_)
                          refine goes_ Tryd.func23 (by kernel_rfl) rfl #[.int .i64 (wrap64 ((wrap64 ((Int.tmod (wrap64 (a0)) 5000) - 1)) - x9_2))] (by rfl) rfl rfl Ga_ ?_
                          with_reducible refine (num_Of.calls (wrap64 ((wrap64 ((Int.tmod (wrap64 (a0)) 5000) - 1)) - x9_2)) t130 _ A55.out ?side1).mono ?_
                          (case side1 => first | exact hG | exact Glob.below hG Bl_)
                          rintro e w59 ⟨rfl, hb⟩
                          have HS4_ := (hb.cell (World.block_lt_of_cell? _ _ (hHeld.2.2.2.2.1))).trans (hHeld.2.2.2.2.1)
                          have HS5_ := (hb.cell (World.block_lt_of_cell? _ _ (hHeld.2.2.2.2.2))).trans (hHeld.2.2.2.2.2)
                          refine ⟨_, rfl, ?_⟩
                          replace HO_117000 := Aside0.mk (Kd.R_below (Pr_ HO_117000.out) hb)
                          replace HO_117001 := Aside0.mk (Kd.R_below (Pr_ HO_117001.out) hb)
                          replace HO_126000 := Aside0.mk (Kd.R_below (Pr_ HO_126000.out) hb)
                          replace HO_126001 := Aside0.mk (Kd.R_below (Pr_ HO_126001.out) hb)
                          replace BK116 := kb_ BK116 hb
                          replace BK125 := kb_ BK125 hb
                          replace HB := Bs_ hb
                          (try clear hb)
                          (try clear hb2)
                          (try clear hk)
                          (try clear hi)
                          refine hK.out _ _ ⟨(blk_cell BK116.out 0).trans rfl, (blk_cell BK116.out 1).trans rfl, (blk_cell BK125.out 0).trans rfl, (blk_cell BK125.out 1).trans rfl, HS4_, HS5_⟩ (fun hHeld => ?_)
                          clear hK K
                          refine norm_ (a' := ?_) ?_ ?_
                          rotate_left
                          · show Act.put _ (some 81) _ = _
                            simp only [Act.put, List.setIfInBounds_toArray, List.set_cons_zero, List.set_cons_succ, i64_w, i32_w]
                            rfl
                          refine pu_ 19 (some 82) HT_ #[true, true, true, true, true, true, true, true, true, true, true, true, true, true, true, true, true, true, true, true, false] ?_
                          refine pu_ 20 (some 83) HT_ #[true, true, true, true, true, true, true, true, true, true, true, true, true, true, true, true, true, true, true, true, true] ?_
                          refine done_ (done_of HT_.out (by kernel_rfl)) ?_
                          try go_wp2
                          go_roundg k2
                          case measure => have := HJ20.out; have := HK2.out; omega
                          case rel => exact ⟨(wrap64 (x9_2 + 1)), Rf_, H', ⟨by have := HJ20.out; have := HK2.out; omega⟩, ⟨by (with_reducible repeat (first | apply Kd.R_alloc | apply Kd.R_drewN | apply Kd.R_drew)); exact HO_117000.out⟩, ⟨by (with_reducible repeat (first | apply Kd.R_alloc | apply Kd.R_drewN | apply Kd.R_drew)); exact HO_117001.out⟩, ⟨by (with_reducible repeat (first | apply Kd.R_alloc | apply Kd.R_drewN | apply Kd.R_drew)); exact HO_126000.out⟩, ⟨by (with_reducible repeat (first | apply Kd.R_alloc | apply Kd.R_drewN | apply Kd.R_drew)); exact HO_126001.out⟩, ⟨by (with_reducible repeat (first | refine blk_drewN ?_ _ | refine blk_drew ?_ | refine blk_alloc ?_ _)); exact BK116.out⟩, ⟨by (with_reducible repeat (first | refine blk_drewN ?_ _ | refine blk_drew ?_ | refine blk_alloc ?_ _)); exact BK125.out⟩, ⟨Bl_⟩⟩
                        · rw [if_neg c56] at H
                          exact absurd H (by simp)
                      · rw [if_neg c54] at H
                        exact absurd H (by simp)
                    · rw [if_neg c53] at H
                      exact absurd H (by simp)
                  · rw [if_neg c51] at H
                    exact absurd H (by simp)
                · rw [if_neg c50] at H
                  exact absurd H (by simp)
              · rw [if_neg c49] at H
                have c49b0 : decide (x9_2 < (Int.tmod (wrap64 (a0)) 5000)) = false := decide_eq_false c49
                clear c49
                have H1 : (if (t109.length : Int) = 1 then (if 0 < (t109.length : Int) then (some ((rd t109 0) == (Int.tmod (wrap64 (a0)) 5000))) else (none)) else (none)) = some r := by first | (rw [if_pos rfl] at H; exact H) | (rw [if_pos trivial] at H; exact H)
                clear H
                have H := H1
                clear H1
                by_cases c60 : (t109.length : Int) = 1
                · rw [if_pos c60] at H
                  have c60b0 : ((t109.length : Int) == 1) = true := beq_iff_eq.mpr c60
                  have c60b1 : ((t109.length : Int) != 1) = false := bne_eq_false_iff_eq.mpr c60
                  clear c60
                  by_cases c61 : 0 < (t109.length : Int)
                  · rw [if_pos c61] at H
                    have c61b0 : decide (0 < (t109.length : Int)) = true := decide_eq_true c61
                    have c61b1 : decide (0 < t109.length) = true := decide_eq_true (by omega)
                    clear c61
                    obtain rfl := Option.some.inj H
                    have hnb62 := NB116_125.out
                    have hnc62 := NB125_116.out
                    obtain ⟨hcz63_0, hcz63_1⟩ := c2_ BK116
                    obtain ⟨hfz63_0, hfz63_1⟩ := f2_ BK116
                    have p126 : 0 ≤ (0 : Int) := (by omega)
                    have q126 : 0 < (t109.length : Int) := of_decide_eq_true As_
                    obtain ⟨ad126, e126, hx126_0⟩ := Kd.at_int (Kd.R_reads' HO_117000.out).2.2 0 p126 q126
                    cases e126
                    have qi126 : (0 < t109.length) = True := eq_true (by omega)
                    (try rw [show ((0 : Int)).toNat = 0 from rfl] at hx126_0)
                    (try rw [Addr.add_zero'] at hx126_0)
                    replace p126 := eq_true p126
                    replace q126 := eq_true q126
                    go_wp2
                    go_ret
                    exact ⟨Re_, Bl_⟩
                  · rw [if_neg c61] at H
                    exact absurd H (by simp)
                · rw [if_neg c60] at H
                  exact absurd H (by simp)

end Go.Proofs.YtfjilihppnndkaaDoor.P
