-- Written by drive.py of this claim's own session, by way of the kit's print. Lean checks it.
import Derived.Test.YtlemmdfjcnhjkaaGreatDoorTT1
namespace Go.Proofs.YtlemmdfjcnhjkaaGreatDoor.P
open Go.RowKit Go.Proofs.YtlemmdfjcnhjkaaGreatDoorW.PrintWords Go.Proofs.YtlemmdfjcnhjkaaGreatDoorW.PrintLast Go.Proofs.YtlemmdfjcnhjkaaGreatDoorW.PrintMore
attribute [local go_sem] max2_int min2_int max_two min_two max_three min_three max_four min_four   -- for this text's walks alone
set_option linter.unusedVariables false
set_option linter.unusedSimpArgs false

/-! ### slices_Index_int_int: function 177 -/
def slices_Index_int_int.l0 : Nat → List Int → Int → Int → Int → Option (Int)
  | 0, _, _, _, _ => none
  | k + 1, x0, x1, x7, x8 => if x8 < x7 then (if 0 ≤ x8 then (if x8 < (x0.length : Int) then (if x1 = (rd x0 x8) then (some x8) else (slices_Index_int_int.l0 k x0 x1 x7 (wrap64 (x8 + 1)))) else (none)) else (none)) else (some (-1))
def slices_Index_int_int.f (k : Nat) (l0 : List Int) (a1 : Int) : Option (Int) := slices_Index_int_int.l0 k l0 a1 (l0.length : Int) 0
set_option maxHeartbeats 8000000 in
set_option maxRecDepth 100000 in
theorem slices_Index_int_int.calls (k : Nat) (A0 : Option Addr) (c0 : Nat) (l0 : List Int) (a1 : Int) (r : Int) (w : World) (hr0 : Kd.C (Kd.int .i64) w A0 l0.length l0) (hc0 : l0.length ≤ c0) (h : slices_Index_int_int.f k l0 a1 = some r) :
    Calls Tryz.prog 177 #[.slice A0 l0.length c0, .int .i64 a1] w fun e w' => e = .returned (.int .i64 r) ∧ Drawn0 w w' := by
  have HR0 := Aside0.mk hr0
  have HC0 := Aside0.mk hc0
  clear hr0 hc0
  have H : (slices_Index_int_int.l0 k l0 a1 (l0.length : Int) 0) = some r := h
  clear h
  have H' := Aside0.mk H
  clear H
  go_enter Tryz.func177, Tryz.ntmps177
  go_wp2
  go_loopg [8] k (fun kq v8 w' => ∃ (x8_1 : Int), v8 = .int .i64 x8_1 ∧ Aside0 (slices_Index_int_int.l0 kq l0 a1 (l0.length : Int) x8_1 = some r) ∧ Aside0 (kq ≤ k) ∧ Drawn0 w w')
  case atStart => exact ⟨(0), Rf_, H', ⟨Nat.le_refl _⟩, Dw_⟩
  case round =>
    clear H'
    try clear c1
    try clear p2
    obtain ⟨x8_1, rfl, HA, HK1, ⟨m1, rfl⟩⟩ := hrel
    cases gk with
    | zero => exact absurd HA.out (by simp [slices_Index_int_int.l0])
    | succ k1 =>
      have H := HA.out
      clear HA
      simp only [slices_Index_int_int.l0] at H
      by_cases c3 : x8_1 < (l0.length : Int)
      · rw [if_pos c3] at H
        have c3b0 : decide (x8_1 < (l0.length : Int)) = true := decide_eq_true c3
        clear c3
        by_cases c4 : 0 ≤ x8_1
        · rw [if_pos c4] at H
          have c4b0 : decide (0 ≤ x8_1) = true := decide_eq_true c4
          clear c4
          by_cases c5 : x8_1 < (l0.length : Int)
          · rw [if_pos c5] at H
            have c5b0 : decide (x8_1 < (l0.length : Int)) = true := decide_eq_true c5
            clear c5
            by_cases c6 : a1 = (rd l0 x8_1)
            · rw [if_pos c6] at H
              have c6b0 : (a1 == (rd l0 x8_1)) = true := beq_iff_eq.mpr c6
              have c6b1 : (a1 != (rd l0 x8_1)) = false := bne_eq_false_iff_eq.mpr c6
              clear c6
              obtain rfl := Option.some.inj H
              have p101 : 0 ≤ (x8_1 : Int) := of_decide_eq_true As_
              have q101 : x8_1 < (l0.length : Int) := of_decide_eq_true As_
              obtain ⟨ad101, e101, hx101_0⟩ := Kd.at_int HR0.out x8_1 p101 q101
              cases e101
              replace p101 := eq_true p101
              replace q101 := eq_true q101
              go_wp2
              go_ret
              exact ⟨Rf_, Dw_⟩
            · rw [if_neg c6] at H
              have c6b0 : (a1 == (rd l0 x8_1)) = false := beq_eq_false_iff_ne.mpr c6
              have c6b1 : (a1 != (rd l0 x8_1)) = true := bne_iff_ne.mpr c6
              have H' := Aside0.mk H
              clear H
              have p101 : 0 ≤ (x8_1 : Int) := of_decide_eq_true As_
              have q101 : x8_1 < (l0.length : Int) := of_decide_eq_true As_
              obtain ⟨ad101, e101, hx101_0⟩ := Kd.at_int HR0.out x8_1 p101 q101
              cases e101
              replace p101 := eq_true p101
              replace q101 := eq_true q101
              go_wp2
              go_roundg k1
              case measure => have := HK1.out; omega
              case rel => exact ⟨(wrap64 (x8_1 + 1)), Rf_, H', ⟨by have := HK1.out; omega⟩, Dw_⟩
          · rw [if_neg c5] at H
            exact absurd H (by simp)
        · rw [if_neg c4] at H
          exact absurd H (by simp)
      · rw [if_neg c3] at H
        have c3b0 : decide (x8_1 < (l0.length : Int)) = false := decide_eq_false c3
        clear c3
        obtain rfl := Option.some.inj H
        go_wp2
        go_ret
        exact ⟨Rf_, Dw_⟩
/-! ### slices_Contains_int_int: function 130 -/
def slices_Contains_int_int.f (k : Nat) (l0 : List Int) (a1 : Int) : Option (Bool) := (slices_Index_int_int.f k l0 a1).bind fun t101 => (some (decide (t101 ≥ 0)))
set_option maxHeartbeats 8000000 in
set_option maxRecDepth 100000 in
theorem slices_Contains_int_int.calls (k : Nat) (A0 : Option Addr) (c0 : Nat) (l0 : List Int) (a1 : Int) (r : Bool) (w : World) (hr0 : Kd.C (Kd.int .i64) w A0 l0.length l0) (hc0 : l0.length ≤ c0) (h : slices_Contains_int_int.f k l0 a1 = some r) :
    Calls Tryz.prog 130 #[.slice A0 l0.length c0, .int .i64 a1] w fun e w' => e = .returned (.bool r) ∧ Drawn0 w w' := by
  have HR0 := Aside0.mk hr0
  have HC0 := Aside0.mk hc0
  clear hr0 hc0
  have H : ((slices_Index_int_int.f k l0 a1).bind fun t101 => (some (decide (t101 ≥ 0)))) = some r := h
  clear h
  obtain ⟨t101, A3, H⟩ := bnd_ H
  try dsimp -simprocs only at H
  obtain rfl := Option.some.inj H
  go_enter Tryz.func130, Tryz.ntmps130
  go_wp2_with (first | ((with_reducible refine gate_callee (f := 177) rfl ?_); refine goesL_ (some 7) rfl rfl Tryz.func177 (by kernel_rfl) rfl #[.slice A0 l0.length c0, .int .i64 a1] rfl Ga_ ?_; (with_reducible refine (slices_Index_int_int.calls k _ _ l0 a1 t101 _ ?side1 ?side2 A3.out).mono ?_); (case side1 => repeat (first | exact HR0.out | (with_reducible refine Kd.C_alloc ?_ _) | (with_reducible refine Kd.C_drewN ?_ _) | (with_reducible refine Kd.C_drew ?_))); (case side2 => exact HC0.out); rintro e w' ⟨rfl, ⟨nd, rfl⟩⟩; refine ⟨_, rfl, ?_⟩))
  go_ret
  exact ⟨Rf_, Dw_⟩
/-! ### typed_known: function 70 -/
def typed_known.f (k : Nat) (a0 : Int) : Option (Bool) := (slices_Contains_int_int.f k (([8, 16, 32, 64] : List Int)) a0).bind fun t104 => (some t104)
set_option maxHeartbeats 8000000 in
set_option maxRecDepth 100000 in
theorem typed_known.calls (k : Nat) (a0 : Int) (r : Bool) (w : World) (h : typed_known.f k a0 = some r) :
    Calls Tryz.prog 70 #[.int .i64 a0] w fun e w' => e = .returned (.bool r) ∧ Below w.heap.size w w' := by
  have HB := Aside0.mk (Below.refl w.heap.size w)
  have H : ((slices_Contains_int_int.f k (([8, 16, 32, 64] : List Int)) a0).bind fun t104 => (some t104)) = some r := h
  clear h
  obtain ⟨y101, hy101⟩ : ∃ y_ : List Int, y_ = (([8, 16, 32, 64] : List Int)) := ⟨_, rfl⟩
  replace H : ((slices_Contains_int_int.f k y101 a0).bind fun t104 => (some t104)) = some r := by first | (rw [hy101]; with_reducible exact H) | (have H2_ := (Option.bind_some _ _).symm.trans H; rw [hy101]; with_reducible exact H2_) | (have H2_ := (Option.bind_some _ _).symm.trans H; with_reducible exact H2_) | with_reducible exact H | (rw [hy101]; exact H) | exact H
  have Ny101 := Aside0.mk hy101
  clear hy101
  obtain ⟨t104, A2, H⟩ := bnd_ H
  try dsimp -simprocs only at H
  obtain rfl := Option.some.inj H
  go_enter Tryz.func70, Tryz.ntmps70
  go_wp2_with (first | ((with_reducible refine gate_dst (N := 3) rfl ?_); refine Kd.R_lit (Kd.int .i64) _ 3 ?hg (N := 3) ?hd (xs := ([8, 16, 32, 64] : List Int)) (inner := [.int .i64 8, .int .i64 16, .int .i64 32, .int .i64 64]) (ok := fun _ => True) (okp := fun _ => True) ?hr ?hp (fun _ hk => hk) trivial (Below.refl _ _) (Nat.le_refl _) (by simp) ?_; (case hd => rfl); (case hg => rfl); (case hr => first | (go_simp; done) | (go_simp; rfl)); (case hp => exact (Reps.one (show Kd.M (Kd.int .i64) _ _ _ 8 [.int .i64 8] from rfl) (Reps.one (show Kd.M (Kd.int .i64) _ _ _ 16 [.int .i64 16] from rfl) (Reps.one (show Kd.M (Kd.int .i64) _ _ _ 32 [.int .i64 32] from rfl) (Reps.one (show Kd.M (Kd.int .i64) _ _ _ 64 [.int .i64 64] from rfl) (Reps.none _ _)))))); intro v102 w3 ho4 hb hg_ hnew_; clear hg_ hnew_; (first | rw [← Ny101.out] at ho4 | (simp only [Int.reduceToNat] at ho4; rw [← Ny101.out] at ho4)); have HO103 := Aside0.mk (Kd.R_lower ho4 Bz_); replace HB := Bs_ hb; clear hb ho4; obtain ⟨Ao5, co5, eo5⟩ := Kd.R_slice HO103.out; subst eo5) | ((with_reducible refine gate_callee (f := 130) rfl ?_); refine goesL_ (some 5) rfl rfl Tryz.func130 (by kernel_rfl) rfl #[.slice Ao5 y101.length co5, .int .i64 a0] rfl Ga_ ?_; (with_reducible refine (slices_Contains_int_int.calls k _ _ y101 a0 t104 _ ?side1 ?side2 A2.out).mono ?_); (case side1 => exact Pc_ ((Kd.R_reads' HO103.out).2.2)); (case side2 => exact (Kd.R_reads' HO103.out).2.1); rintro e w' ⟨rfl, ⟨nd, rfl⟩⟩; refine ⟨_, rfl, ?_⟩))
  go_ret
  exact ⟨Re_, Bl_⟩
/-! ### shape_Size_1: function 140 -/
def shape_Size_1.f (a0 : Int) : Option (Bool) := some (decide (a0 < 0))
set_option maxHeartbeats 8000000 in
set_option maxRecDepth 100000 in
theorem shape_Size_1.calls (a0 : Int) (r : Bool) (w : World) (h : shape_Size_1.f a0 = some r) :
    Calls Tryz.prog 140 #[.int .i64 a0] w fun e w' => e = .returned (.bool r) ∧ Drawn0 w w' := by
  have H : (some (decide (a0 < 0))) = some r := h
  clear h
  obtain rfl := Option.some.inj H
  go_enter Tryz.func140, Tryz.ntmps140
  go_wp2
  go_ret
  exact ⟨Rf_, Dw_⟩
/-! ### slices_IndexFunc_int_int_at_shape_Size_1: function 1002186 -/
def slices_IndexFunc_int_int_at_shape_Size_1.l0 : Nat → List Int → Int → Int → Option (Int)
  | 0, _, _, _ => none
  | k + 1, x0, x7, x8 => if x8 < x7 then (if 0 ≤ x8 then (if x8 < (x0.length : Int) then ((shape_Size_1.f (rd x0 x8)).bind fun t102 => (if t102 = true then (some x8) else (slices_IndexFunc_int_int_at_shape_Size_1.l0 k x0 x7 (wrap64 (x8 + 1))))) else (none)) else (none)) else (some (-1))
def slices_IndexFunc_int_int_at_shape_Size_1.f (k : Nat) (l0 : List Int) (a1 : Value) : Option (Int) := slices_IndexFunc_int_int_at_shape_Size_1.l0 k l0 (l0.length : Int) 0
set_option maxHeartbeats 8000000 in
set_option maxRecDepth 100000 in
theorem slices_IndexFunc_int_int_at_shape_Size_1.calls (k : Nat) (A0 : Option Addr) (c0 : Nat) (l0 : List Int) (a1 : Value) (r : Int) (w : World) (hr0 : Kd.C (Kd.int .i64) w A0 l0.length l0) (hc0 : l0.length ≤ c0) (h : slices_IndexFunc_int_int_at_shape_Size_1.f k l0 a1 = some r) :
    Calls Tryz.prog 186 #[.slice A0 l0.length c0, (.func (.func 140) #[] #[])] w fun e w' => e = .returned (.int .i64 r) ∧ Below w.heap.size w w' := by
  have HR0 := Aside0.mk hr0
  have HC0 := Aside0.mk hc0
  clear hr0 hc0
  have HB := Aside0.mk (Below.refl w.heap.size w)
  have H : (slices_IndexFunc_int_int_at_shape_Size_1.l0 k l0 (l0.length : Int) 0) = some r := h
  clear h
  have H' := Aside0.mk H
  clear H
  go_enter Tryz.func186, Tryz.ntmps186
  go_wp2
  go_loopg [8] k (fun kq v8 w' => ∃ (x8_1 : Int), v8 = .int .i64 x8_1 ∧ Aside0 (slices_IndexFunc_int_int_at_shape_Size_1.l0 kq l0 (l0.length : Int) x8_1 = some r) ∧ Aside0 (kq ≤ k) ∧ Aside0 (Below w.heap.size w w'))
  case atStart => exact ⟨(0), Rf_, H', ⟨Nat.le_refl _⟩, ⟨Bl_⟩⟩
  case round =>
    clear H'
    try clear c1
    try clear p2
    obtain ⟨x8_1, rfl, HA, HK1, HB⟩ := hrel
    cases gk with
    | zero => exact absurd HA.out (by simp [slices_IndexFunc_int_int_at_shape_Size_1.l0])
    | succ k1 =>
      have H := HA.out
      clear HA
      simp only [slices_IndexFunc_int_int_at_shape_Size_1.l0] at H
      by_cases c3 : x8_1 < (l0.length : Int)
      · rw [if_pos c3] at H
        have c3b0 : decide (x8_1 < (l0.length : Int)) = true := decide_eq_true c3
        clear c3
        by_cases c4 : 0 ≤ x8_1
        · rw [if_pos c4] at H
          have c4b0 : decide (0 ≤ x8_1) = true := decide_eq_true c4
          clear c4
          by_cases c5 : x8_1 < (l0.length : Int)
          · rw [if_pos c5] at H
            have c5b0 : decide (x8_1 < (l0.length : Int)) = true := decide_eq_true c5
            clear c5
            obtain ⟨t102, A6, H⟩ := bnd_ H
            try dsimp -simprocs only at H
            by_cases c7 : t102 = true
            · subst c7
              have H1 : (some x8_1) = some r := by rw [if_pos rfl] at H; exact H
              clear H
              have H := H1
              clear H1
              obtain rfl := Option.some.inj H
              have p101 : 0 ≤ (x8_1 : Int) := of_decide_eq_true As_
              have q101 : x8_1 < (l0.length : Int) := of_decide_eq_true As_
              obtain ⟨ad101, e101, hx101_0⟩ := Kd.at_int HR0.out x8_1 p101 q101
              cases e101
              replace hx101_0 := (HB.out.cell (World.block_lt_of_cell? w _ hx101_0)).trans hx101_0
              replace p101 := eq_true p101
              replace q101 := eq_true q101
              go_wp2_with (first | (go_at_call 140; (with_reducible refine (shape_Size_1.calls (rd l0 x8_1) true _ A6.out).mono ?_); rintro e w' ⟨rfl, ⟨nd, rfl⟩⟩))
              go_ret
              exact ⟨Re_, Bl_⟩
            · replace c7 := Bool.eq_false_iff.mpr c7
              subst c7
              have H1 : (slices_IndexFunc_int_int_at_shape_Size_1.l0 k1 l0 (l0.length : Int) (wrap64 (x8_1 + 1))) = some r := by rw [if_neg (show ¬ (false = true) by decide)] at H; exact H
              clear H
              have H := H1
              clear H1
              have H' := Aside0.mk H
              clear H
              have p101 : 0 ≤ (x8_1 : Int) := of_decide_eq_true As_
              have q101 : x8_1 < (l0.length : Int) := of_decide_eq_true As_
              obtain ⟨ad101, e101, hx101_0⟩ := Kd.at_int HR0.out x8_1 p101 q101
              cases e101
              replace hx101_0 := (HB.out.cell (World.block_lt_of_cell? w _ hx101_0)).trans hx101_0
              replace p101 := eq_true p101
              replace q101 := eq_true q101
              go_wp2_with (first | (go_at_call 140; (with_reducible refine (shape_Size_1.calls (rd l0 x8_1) false _ A6.out).mono ?_); rintro e w' ⟨rfl, ⟨nd, rfl⟩⟩))
              go_roundg k1
              case measure => have := HK1.out; omega
              case rel => exact ⟨(wrap64 (x8_1 + 1)), Rf_, H', ⟨by have := HK1.out; omega⟩, ⟨Bl_⟩⟩
          · rw [if_neg c5] at H
            exact absurd H (by simp)
        · rw [if_neg c4] at H
          exact absurd H (by simp)
      · rw [if_neg c3] at H
        have c3b0 : decide (x8_1 < (l0.length : Int)) = false := decide_eq_false c3
        clear c3
        obtain rfl := Option.some.inj H
        go_wp2
        go_ret
        exact ⟨Re_, Bl_⟩
/-! ### slices_ContainsFunc_int_int_at_shape_Size_1: function 1001139 -/
def slices_ContainsFunc_int_int_at_shape_Size_1.f (k : Nat) (l0 : List Int) (a1 : Value) : Option (Bool) := (slices_IndexFunc_int_int_at_shape_Size_1.f k l0 (.func (.func 140) #[] #[] : Value)).bind fun t101 => (some (decide (t101 ≥ 0)))
set_option maxHeartbeats 8000000 in
set_option maxRecDepth 100000 in
theorem slices_ContainsFunc_int_int_at_shape_Size_1.calls (k : Nat) (A0 : Option Addr) (c0 : Nat) (l0 : List Int) (a1 : Value) (r : Bool) (w : World) (hr0 : Kd.C (Kd.int .i64) w A0 l0.length l0) (hc0 : l0.length ≤ c0) (h : slices_ContainsFunc_int_int_at_shape_Size_1.f k l0 a1 = some r) :
    Calls Tryz.prog 139 #[.slice A0 l0.length c0, (.func (.func 140) #[] #[])] w fun e w' => e = .returned (.bool r) ∧ Below w.heap.size w w' := by
  have HR0 := Aside0.mk hr0
  have HC0 := Aside0.mk hc0
  clear hr0 hc0
  have HB := Aside0.mk (Below.refl w.heap.size w)
  have H : ((slices_IndexFunc_int_int_at_shape_Size_1.f k l0 (.func (.func 140) #[] #[] : Value)).bind fun t101 => (some (decide (t101 ≥ 0)))) = some r := h
  clear h
  obtain ⟨t101, A3, H⟩ := bnd_ H
  try dsimp -simprocs only at H
  obtain rfl := Option.some.inj H
  go_enter Tryz.func139, Tryz.ntmps139
  go_wp2_with (first | ((with_reducible refine gate_callee (f := 186) rfl ?_); refine goesL_ (some 7) rfl rfl Tryz.func186 (by kernel_rfl) rfl #[.slice A0 l0.length c0, (.func (.func 140) #[] #[] : Value)] rfl Ga_ ?_; (with_reducible refine (slices_IndexFunc_int_int_at_shape_Size_1.calls k _ _ l0 (.func (.func 140) #[] #[] : Value) t101 _ ?side1 ?side2 A3.out).mono ?_); (case side1 => repeat (first | exact HR0.out | (with_reducible refine Kd.C_alloc ?_ _) | (with_reducible refine Kd.C_drewN ?_ _) | (with_reducible refine Kd.C_drew ?_))); (case side2 => exact HC0.out); rintro e w4 ⟨rfl, hb⟩; refine ⟨_, rfl, ?_⟩; replace HB := Bs_ hb; (try clear hb); (try clear hb2); (try clear hk); (try clear hi)))
  go_ret
  exact ⟨Re_, Bl_⟩
/-! ### shape_Size_2: function 141 -/
def shape_Size_2.f (a0 : Int) : Option (Bool) := some (decide (a0 > 1099511627776))
set_option maxHeartbeats 8000000 in
set_option maxRecDepth 100000 in
theorem shape_Size_2.calls (a0 : Int) (r : Bool) (w : World) (h : shape_Size_2.f a0 = some r) :
    Calls Tryz.prog 141 #[.int .i64 a0] w fun e w' => e = .returned (.bool r) ∧ Drawn0 w w' := by
  have H : (some (decide (a0 > 1099511627776))) = some r := h
  clear h
  obtain rfl := Option.some.inj H
  go_enter Tryz.func141, Tryz.ntmps141
  go_wp2
  go_ret
  exact ⟨Rf_, Dw_⟩
/-! ### slices_IndexFunc_int_int_at_shape_Size_2: function 1004186 -/
def slices_IndexFunc_int_int_at_shape_Size_2.l0 : Nat → List Int → Int → Int → Option (Int)
  | 0, _, _, _ => none
  | k + 1, x0, x7, x8 => if x8 < x7 then (if 0 ≤ x8 then (if x8 < (x0.length : Int) then ((shape_Size_2.f (rd x0 x8)).bind fun t102 => (if t102 = true then (some x8) else (slices_IndexFunc_int_int_at_shape_Size_2.l0 k x0 x7 (wrap64 (x8 + 1))))) else (none)) else (none)) else (some (-1))
def slices_IndexFunc_int_int_at_shape_Size_2.f (k : Nat) (l0 : List Int) (a1 : Value) : Option (Int) := slices_IndexFunc_int_int_at_shape_Size_2.l0 k l0 (l0.length : Int) 0
set_option maxHeartbeats 8000000 in
set_option maxRecDepth 100000 in
theorem slices_IndexFunc_int_int_at_shape_Size_2.calls (k : Nat) (A0 : Option Addr) (c0 : Nat) (l0 : List Int) (a1 : Value) (r : Int) (w : World) (hr0 : Kd.C (Kd.int .i64) w A0 l0.length l0) (hc0 : l0.length ≤ c0) (h : slices_IndexFunc_int_int_at_shape_Size_2.f k l0 a1 = some r) :
    Calls Tryz.prog 186 #[.slice A0 l0.length c0, (.func (.func 141) #[] #[])] w fun e w' => e = .returned (.int .i64 r) ∧ Below w.heap.size w w' := by
  have HR0 := Aside0.mk hr0
  have HC0 := Aside0.mk hc0
  clear hr0 hc0
  have HB := Aside0.mk (Below.refl w.heap.size w)
  have H : (slices_IndexFunc_int_int_at_shape_Size_2.l0 k l0 (l0.length : Int) 0) = some r := h
  clear h
  have H' := Aside0.mk H
  clear H
  go_enter Tryz.func186, Tryz.ntmps186
  go_wp2
  go_loopg [8] k (fun kq v8 w' => ∃ (x8_1 : Int), v8 = .int .i64 x8_1 ∧ Aside0 (slices_IndexFunc_int_int_at_shape_Size_2.l0 kq l0 (l0.length : Int) x8_1 = some r) ∧ Aside0 (kq ≤ k) ∧ Aside0 (Below w.heap.size w w'))
  case atStart => exact ⟨(0), Rf_, H', ⟨Nat.le_refl _⟩, ⟨Bl_⟩⟩
  case round =>
    clear H'
    try clear c1
    try clear p2
    obtain ⟨x8_1, rfl, HA, HK1, HB⟩ := hrel
    cases gk with
    | zero => exact absurd HA.out (by simp [slices_IndexFunc_int_int_at_shape_Size_2.l0])
    | succ k1 =>
      have H := HA.out
      clear HA
      simp only [slices_IndexFunc_int_int_at_shape_Size_2.l0] at H
      by_cases c3 : x8_1 < (l0.length : Int)
      · rw [if_pos c3] at H
        have c3b0 : decide (x8_1 < (l0.length : Int)) = true := decide_eq_true c3
        clear c3
        by_cases c4 : 0 ≤ x8_1
        · rw [if_pos c4] at H
          have c4b0 : decide (0 ≤ x8_1) = true := decide_eq_true c4
          clear c4
          by_cases c5 : x8_1 < (l0.length : Int)
          · rw [if_pos c5] at H
            have c5b0 : decide (x8_1 < (l0.length : Int)) = true := decide_eq_true c5
            clear c5
            obtain ⟨t102, A6, H⟩ := bnd_ H
            try dsimp -simprocs only at H
            by_cases c7 : t102 = true
            · subst c7
              have H1 : (some x8_1) = some r := by rw [if_pos rfl] at H; exact H
              clear H
              have H := H1
              clear H1
              obtain rfl := Option.some.inj H
              have p101 : 0 ≤ (x8_1 : Int) := of_decide_eq_true As_
              have q101 : x8_1 < (l0.length : Int) := of_decide_eq_true As_
              obtain ⟨ad101, e101, hx101_0⟩ := Kd.at_int HR0.out x8_1 p101 q101
              cases e101
              replace hx101_0 := (HB.out.cell (World.block_lt_of_cell? w _ hx101_0)).trans hx101_0
              replace p101 := eq_true p101
              replace q101 := eq_true q101
              go_wp2_with (first | (go_at_call 141; (with_reducible refine (shape_Size_2.calls (rd l0 x8_1) true _ A6.out).mono ?_); rintro e w' ⟨rfl, ⟨nd, rfl⟩⟩))
              go_ret
              exact ⟨Re_, Bl_⟩
            · replace c7 := Bool.eq_false_iff.mpr c7
              subst c7
              have H1 : (slices_IndexFunc_int_int_at_shape_Size_2.l0 k1 l0 (l0.length : Int) (wrap64 (x8_1 + 1))) = some r := by rw [if_neg (show ¬ (false = true) by decide)] at H; exact H
              clear H
              have H := H1
              clear H1
              have H' := Aside0.mk H
              clear H
              have p101 : 0 ≤ (x8_1 : Int) := of_decide_eq_true As_
              have q101 : x8_1 < (l0.length : Int) := of_decide_eq_true As_
              obtain ⟨ad101, e101, hx101_0⟩ := Kd.at_int HR0.out x8_1 p101 q101
              cases e101
              replace hx101_0 := (HB.out.cell (World.block_lt_of_cell? w _ hx101_0)).trans hx101_0
              replace p101 := eq_true p101
              replace q101 := eq_true q101
              go_wp2_with (first | (go_at_call 141; (with_reducible refine (shape_Size_2.calls (rd l0 x8_1) false _ A6.out).mono ?_); rintro e w' ⟨rfl, ⟨nd, rfl⟩⟩))
              go_roundg k1
              case measure => have := HK1.out; omega
              case rel => exact ⟨(wrap64 (x8_1 + 1)), Rf_, H', ⟨by have := HK1.out; omega⟩, ⟨Bl_⟩⟩
          · rw [if_neg c5] at H
            exact absurd H (by simp)
        · rw [if_neg c4] at H
          exact absurd H (by simp)
      · rw [if_neg c3] at H
        have c3b0 : decide (x8_1 < (l0.length : Int)) = false := decide_eq_false c3
        clear c3
        obtain rfl := Option.some.inj H
        go_wp2
        go_ret
        exact ⟨Re_, Bl_⟩
/-! ### slices_ContainsFunc_int_int_at_shape_Size_2: function 1003139 -/
def slices_ContainsFunc_int_int_at_shape_Size_2.f (k : Nat) (l0 : List Int) (a1 : Value) : Option (Bool) := (slices_IndexFunc_int_int_at_shape_Size_2.f k l0 (.func (.func 141) #[] #[] : Value)).bind fun t101 => (some (decide (t101 ≥ 0)))
set_option maxHeartbeats 8000000 in
set_option maxRecDepth 100000 in
theorem slices_ContainsFunc_int_int_at_shape_Size_2.calls (k : Nat) (A0 : Option Addr) (c0 : Nat) (l0 : List Int) (a1 : Value) (r : Bool) (w : World) (hr0 : Kd.C (Kd.int .i64) w A0 l0.length l0) (hc0 : l0.length ≤ c0) (h : slices_ContainsFunc_int_int_at_shape_Size_2.f k l0 a1 = some r) :
    Calls Tryz.prog 139 #[.slice A0 l0.length c0, (.func (.func 141) #[] #[])] w fun e w' => e = .returned (.bool r) ∧ Below w.heap.size w w' := by
  have HR0 := Aside0.mk hr0
  have HC0 := Aside0.mk hc0
  clear hr0 hc0
  have HB := Aside0.mk (Below.refl w.heap.size w)
  have H : ((slices_IndexFunc_int_int_at_shape_Size_2.f k l0 (.func (.func 141) #[] #[] : Value)).bind fun t101 => (some (decide (t101 ≥ 0)))) = some r := h
  clear h
  obtain ⟨t101, A3, H⟩ := bnd_ H
  try dsimp -simprocs only at H
  obtain rfl := Option.some.inj H
  go_enter Tryz.func139, Tryz.ntmps139
  go_wp2_with (first | ((with_reducible refine gate_callee (f := 186) rfl ?_); refine goesL_ (some 7) rfl rfl Tryz.func186 (by kernel_rfl) rfl #[.slice A0 l0.length c0, (.func (.func 141) #[] #[] : Value)] rfl Ga_ ?_; (with_reducible refine (slices_IndexFunc_int_int_at_shape_Size_2.calls k _ _ l0 (.func (.func 141) #[] #[] : Value) t101 _ ?side1 ?side2 A3.out).mono ?_); (case side1 => repeat (first | exact HR0.out | (with_reducible refine Kd.C_alloc ?_ _) | (with_reducible refine Kd.C_drewN ?_ _) | (with_reducible refine Kd.C_drew ?_))); (case side2 => exact HC0.out); rintro e w4 ⟨rfl, hb⟩; refine ⟨_, rfl, ?_⟩; replace HB := Bs_ hb; (try clear hb); (try clear hb2); (try clear hk); (try clear hi)))
  go_ret
  exact ⟨Re_, Bl_⟩
/-! ### shape_Size: function 78 -/
def shape_Size.l0 : Nat → Int → List Int → Int → Int → Option (Int × Int)
  | 0, _, _, _, _ => none
  | k + 1, x4, x20, x21, x22 => if x22 < x21 then (if 0 ≤ x22 then (if x22 < (x20.length : Int) then (if x4 = 0 then (none) else (if (rd x20 x22) > (wrap64 (Int.tdiv (4096 : Int) x4)) then (some (0, 8)) else (shape_Size.l0 k (wrap64 (x4 * (rd x20 x22))) x20 x21 (wrap64 (x22 + 1))))) else (none)) else (none)) else (some (x4, 0))
def shape_Size.f (k : Nat) (l0 : List Int) : Option (Int × Int) := if (l0.length : Int) > 3 then (some (0, 3)) else ((slices_ContainsFunc_int_int_at_shape_Size_1.f k l0 (.func (.func 140) #[] #[] : Value)).bind fun t102 => (if t102 = true then (some (0, 5)) else ((slices_ContainsFunc_int_int_at_shape_Size_2.f k l0 (.func (.func 141) #[] #[] : Value)).bind fun t103 => (if t103 = true then (some (0, 8)) else ((slices_Contains_int_int.f k l0 0).bind fun t104 => (if t104 = true then (some (0, 0)) else (shape_Size.l0 k 1 l0 (l0.length : Int) 0)))))))
set_option maxHeartbeats 8000000 in
set_option maxRecDepth 100000 in
theorem shape_Size.calls (k : Nat) (A0 : Option Addr) (c0 : Nat) (l0 : List Int) (r1 : Int) (r2 : Int) (w : World) (hr0 : Kd.C (Kd.int .i64) w A0 l0.length l0) (hc0 : l0.length ≤ c0) (h : shape_Size.f k l0 = some (r1, r2)) :
    Calls Tryz.prog 78 #[.slice A0 l0.length c0] w fun e w' => e = .returned (.tuple #[.int .i64 r1, .int .i64 r2]) ∧ Below w.heap.size w w' := by
  have HR0 := Aside0.mk hr0
  have HC0 := Aside0.mk hc0
  clear hr0 hc0
  have HB := Aside0.mk (Below.refl w.heap.size w)
  have H : (if (l0.length : Int) > 3 then (some (0, 3)) else ((slices_ContainsFunc_int_int_at_shape_Size_1.f k l0 (.func (.func 140) #[] #[] : Value)).bind fun t102 => (if t102 = true then (some (0, 5)) else ((slices_ContainsFunc_int_int_at_shape_Size_2.f k l0 (.func (.func 141) #[] #[] : Value)).bind fun t103 => (if t103 = true then (some (0, 8)) else ((slices_Contains_int_int.f k l0 0).bind fun t104 => (if t104 = true then (some (0, 0)) else (shape_Size.l0 k 1 l0 (l0.length : Int) 0)))))))) = some (r1, r2) := h
  clear h
  by_cases c2 : (l0.length : Int) > 3
  · rw [if_pos c2] at H
    have c2b0 : decide (3 < (l0.length : Int)) = true := decide_eq_true c2
    have c2b1 : decide (3 < l0.length) = true := decide_eq_true (by omega)
    clear c2
    simp only [Option.some.injEq, Prod.mk.injEq] at H
    obtain ⟨rfl, rfl⟩ := H
    go_enter Tryz.func78, Tryz.ntmps78
    go_wp2
    go_ret2
    exact ⟨Re_, Bl_⟩
  · rw [if_neg c2] at H
    have c2b0 : decide (3 < (l0.length : Int)) = false := decide_eq_false c2
    have c2b1 : decide (3 < l0.length) = false := decide_eq_false (by omega)
    clear c2
    obtain ⟨t102, A3, H⟩ := bnd_ H
    try dsimp -simprocs only at H
    by_cases c4 : t102 = true
    · subst c4
      have H1 : (some (0, 5)) = some (r1, r2) := by rw [if_pos rfl] at H; exact H
      clear H
      have H := H1
      clear H1
      simp only [Option.some.injEq, Prod.mk.injEq] at H
      obtain ⟨rfl, rfl⟩ := H
      go_enter Tryz.func78, Tryz.ntmps78
      go_wp2_with (first | ((with_reducible refine gate_callee (f := 139) rfl ?_); refine goesL_ (some 13) rfl rfl Tryz.func139 (by kernel_rfl) rfl #[.slice A0 l0.length c0, (.func (.func 140) #[] #[] : Value)] rfl Ga_ ?_; (with_reducible refine (slices_ContainsFunc_int_int_at_shape_Size_1.calls k _ _ l0 (.func (.func 140) #[] #[] : Value) true _ ?side1 ?side2 A3.out).mono ?_); (case side1 => repeat (first | exact HR0.out | (with_reducible refine Kd.C_alloc ?_ _) | (with_reducible refine Kd.C_drewN ?_ _) | (with_reducible refine Kd.C_drew ?_))); (case side2 => exact HC0.out); rintro e w5 ⟨rfl, hb⟩; refine ⟨_, rfl, ?_⟩; replace HB := Bs_ hb; (try clear hb); (try clear hb2); (try clear hk); (try clear hi)))
      go_ret2
      exact ⟨Re_, Bl_⟩
    · replace c4 := Bool.eq_false_iff.mpr c4
      subst c4
      have H1 : ((slices_ContainsFunc_int_int_at_shape_Size_2.f k l0 (.func (.func 141) #[] #[] : Value)).bind fun t103 => (if t103 = true then (some (0, 8)) else ((slices_Contains_int_int.f k l0 0).bind fun t104 => (if t104 = true then (some (0, 0)) else (shape_Size.l0 k 1 l0 (l0.length : Int) 0))))) = some (r1, r2) := by rw [if_neg (show ¬ (false = true) by decide)] at H; exact H
      clear H
      have H := H1
      clear H1
      obtain ⟨t103, A6, H⟩ := bnd_ H
      try dsimp -simprocs only at H
      by_cases c7 : t103 = true
      · subst c7
        have H1 : (some (0, 8)) = some (r1, r2) := by rw [if_pos rfl] at H; exact H
        clear H
        have H := H1
        clear H1
        simp only [Option.some.injEq, Prod.mk.injEq] at H
        obtain ⟨rfl, rfl⟩ := H
        go_enter Tryz.func78, Tryz.ntmps78
        go_wp2_with (first | ((with_reducible refine gate_callee (f := 139) rfl ?_); refine goesL_ (some 13) rfl rfl Tryz.func139 (by kernel_rfl) rfl #[.slice A0 l0.length c0, (.func (.func 140) #[] #[] : Value)] rfl Ga_ ?_; (with_reducible refine (slices_ContainsFunc_int_int_at_shape_Size_1.calls k _ _ l0 (.func (.func 140) #[] #[] : Value) false _ ?side1 ?side2 A3.out).mono ?_); (case side1 => repeat (first | exact HR0.out | (with_reducible refine Kd.C_alloc ?_ _) | (with_reducible refine Kd.C_drewN ?_ _) | (with_reducible refine Kd.C_drew ?_))); (case side2 => exact HC0.out); rintro e w8 ⟨rfl, hb⟩; refine ⟨_, rfl, ?_⟩; replace HB := Bs_ hb; (try clear hb); (try clear hb2); (try clear hk); (try clear hi)) | ((with_reducible refine gate_callee (f := 139) rfl ?_); refine goesL_ (some 16) rfl rfl Tryz.func139 (by kernel_rfl) rfl #[.slice A0 l0.length c0, (.func (.func 141) #[] #[] : Value)] rfl Ga_ ?_; (with_reducible refine (slices_ContainsFunc_int_int_at_shape_Size_2.calls k _ _ l0 (.func (.func 141) #[] #[] : Value) true _ ?side1 ?side2 A6.out).mono ?_); (case side1 => exact Pc_ (Kd.C_below HR0.out HB.out)); (case side2 => exact HC0.out); rintro e w9 ⟨rfl, hb⟩; refine ⟨_, rfl, ?_⟩; replace HB := Bs_ hb; (try clear hb); (try clear hb2); (try clear hk); (try clear hi)))
        go_ret2
        exact ⟨Re_, Bl_⟩
      · replace c7 := Bool.eq_false_iff.mpr c7
        subst c7
        have H1 : ((slices_Contains_int_int.f k l0 0).bind fun t104 => (if t104 = true then (some (0, 0)) else (shape_Size.l0 k 1 l0 (l0.length : Int) 0))) = some (r1, r2) := by rw [if_neg (show ¬ (false = true) by decide)] at H; exact H
        clear H
        have H := H1
        clear H1
        obtain ⟨t104, A10, H⟩ := bnd_ H
        try dsimp -simprocs only at H
        by_cases c11 : t104 = true
        · subst c11
          have H1 : (some (0, 0)) = some (r1, r2) := by rw [if_pos rfl] at H; exact H
          clear H
          have H := H1
          clear H1
          simp only [Option.some.injEq, Prod.mk.injEq] at H
          obtain ⟨rfl, rfl⟩ := H
          go_enter Tryz.func78, Tryz.ntmps78
          go_wp2_with (first | ((with_reducible refine gate_callee (f := 139) rfl ?_); refine goesL_ (some 13) rfl rfl Tryz.func139 (by kernel_rfl) rfl #[.slice A0 l0.length c0, (.func (.func 140) #[] #[] : Value)] rfl Ga_ ?_; (with_reducible refine (slices_ContainsFunc_int_int_at_shape_Size_1.calls k _ _ l0 (.func (.func 140) #[] #[] : Value) false _ ?side1 ?side2 A3.out).mono ?_); (case side1 => repeat (first | exact HR0.out | (with_reducible refine Kd.C_alloc ?_ _) | (with_reducible refine Kd.C_drewN ?_ _) | (with_reducible refine Kd.C_drew ?_))); (case side2 => exact HC0.out); rintro e w12 ⟨rfl, hb⟩; refine ⟨_, rfl, ?_⟩; replace HB := Bs_ hb; (try clear hb); (try clear hb2); (try clear hk); (try clear hi)) | ((with_reducible refine gate_callee (f := 139) rfl ?_); refine goesL_ (some 16) rfl rfl Tryz.func139 (by kernel_rfl) rfl #[.slice A0 l0.length c0, (.func (.func 141) #[] #[] : Value)] rfl Ga_ ?_; (with_reducible refine (slices_ContainsFunc_int_int_at_shape_Size_2.calls k _ _ l0 (.func (.func 141) #[] #[] : Value) false _ ?side1 ?side2 A6.out).mono ?_); (case side1 => exact Pc_ (Kd.C_below HR0.out HB.out)); (case side2 => exact HC0.out); rintro e w13 ⟨rfl, hb⟩; refine ⟨_, rfl, ?_⟩; replace HB := Bs_ hb; (try clear hb); (try clear hb2); (try clear hk); (try clear hi)) | ((with_reducible refine gate_callee (f := 130) rfl ?_); refine goesL_ (some 19) rfl rfl Tryz.func130 (by kernel_rfl) rfl #[.slice A0 l0.length c0, .int .i64 0] rfl Ga_ ?_; (with_reducible refine (slices_Contains_int_int.calls k _ _ l0 0 true _ ?side1 ?side2 A10.out).mono ?_); (case side1 => exact Pc_ (Kd.C_below HR0.out HB.out)); (case side2 => exact HC0.out); rintro e w' ⟨rfl, ⟨nd, rfl⟩⟩; refine ⟨_, rfl, ?_⟩))
          go_ret2
          exact ⟨Re_, Bl_⟩
        · replace c11 := Bool.eq_false_iff.mpr c11
          subst c11
          have H1 : (shape_Size.l0 k 1 l0 (l0.length : Int) 0) = some (r1, r2) := by rw [if_neg (show ¬ (false = true) by decide)] at H; exact H
          clear H
          have H := H1
          clear H1
          have H' := Aside0.mk H
          clear H
          go_enter Tryz.func78, Tryz.ntmps78
          go_wp2_with (first | ((with_reducible refine gate_callee (f := 139) rfl ?_); refine goesL_ (some 13) rfl rfl Tryz.func139 (by kernel_rfl) rfl #[.slice A0 l0.length c0, (.func (.func 140) #[] #[] : Value)] rfl Ga_ ?_; (with_reducible refine (slices_ContainsFunc_int_int_at_shape_Size_1.calls k _ _ l0 (.func (.func 140) #[] #[] : Value) false _ ?side1 ?side2 A3.out).mono ?_); (case side1 => repeat (first | exact HR0.out | (with_reducible refine Kd.C_alloc ?_ _) | (with_reducible refine Kd.C_drewN ?_ _) | (with_reducible refine Kd.C_drew ?_))); (case side2 => exact HC0.out); rintro e w14 ⟨rfl, hb⟩; refine ⟨_, rfl, ?_⟩; replace HB := Bs_ hb; (try clear hb); (try clear hb2); (try clear hk); (try clear hi)) | ((with_reducible refine gate_callee (f := 139) rfl ?_); refine goesL_ (some 16) rfl rfl Tryz.func139 (by kernel_rfl) rfl #[.slice A0 l0.length c0, (.func (.func 141) #[] #[] : Value)] rfl Ga_ ?_; (with_reducible refine (slices_ContainsFunc_int_int_at_shape_Size_2.calls k _ _ l0 (.func (.func 141) #[] #[] : Value) false _ ?side1 ?side2 A6.out).mono ?_); (case side1 => exact Pc_ (Kd.C_below HR0.out HB.out)); (case side2 => exact HC0.out); rintro e w15 ⟨rfl, hb⟩; refine ⟨_, rfl, ?_⟩; replace HB := Bs_ hb; (try clear hb); (try clear hb2); (try clear hk); (try clear hi)) | ((with_reducible refine gate_callee (f := 130) rfl ?_); refine goesL_ (some 19) rfl rfl Tryz.func130 (by kernel_rfl) rfl #[.slice A0 l0.length c0, .int .i64 0] rfl Ga_ ?_; (with_reducible refine (slices_Contains_int_int.calls k _ _ l0 0 false _ ?side1 ?side2 A10.out).mono ?_); (case side1 => exact Pc_ (Kd.C_below HR0.out HB.out)); (case side2 => exact HC0.out); rintro e w' ⟨rfl, ⟨nd, rfl⟩⟩; refine ⟨_, rfl, ?_⟩))
          go_loopg [4, 22] k (fun kq v4 v22 w' => ∃ (x4_1 : Int) (x22_1 : Int), v4 = .int .i64 x4_1 ∧ v22 = .int .i64 x22_1 ∧ Aside0 (shape_Size.l0 kq x4_1 l0 (l0.length : Int) x22_1 = some (r1, r2)) ∧ Aside0 (kq ≤ k) ∧ Aside0 (Below w.heap.size w w'))
          case atStart => exact ⟨(1), (0), Rf_, Rf_, H', ⟨Nat.le_refl _⟩, ⟨Bl_⟩⟩
          case round =>
            clear H'
            try clear c1
            try clear c2
            try clear c2b0
            try clear c2b1
            try clear p2
            try clear c4
            try clear c7
            try clear c11
            try clear c13
            obtain ⟨x4_1, x22_1, rfl, rfl, HA, HK1, HB⟩ := hrel
            cases gk with
            | zero => exact absurd HA.out (by simp [shape_Size.l0])
            | succ k1 =>
              have H := HA.out
              clear HA
              simp only [shape_Size.l0] at H
              by_cases c16 : x22_1 < (l0.length : Int)
              · rw [if_pos c16] at H
                have c16b0 : decide (x22_1 < (l0.length : Int)) = true := decide_eq_true c16
                clear c16
                by_cases c17 : 0 ≤ x22_1
                · rw [if_pos c17] at H
                  have c17b0 : decide (0 ≤ x22_1) = true := decide_eq_true c17
                  clear c17
                  by_cases c18 : x22_1 < (l0.length : Int)
                  · rw [if_pos c18] at H
                    have c18b0 : decide (x22_1 < (l0.length : Int)) = true := decide_eq_true c18
                    clear c18
                    by_cases c19 : x4_1 = 0
                    · rw [if_pos c19] at H
                      exact absurd H (by simp)
                    · rw [if_neg c19] at H
                      have c19b0 : (x4_1 == 0) = false := beq_eq_false_iff_ne.mpr c19
                      have c19b1 : (x4_1 != 0) = true := bne_iff_ne.mpr c19
                      by_cases c20 : (rd l0 x22_1) > (wrap64 (Int.tdiv (4096 : Int) x4_1))
                      · rw [if_pos c20] at H
                        have c20b0 : decide ((wrap64 (Int.tdiv (4096 : Int) x4_1)) < (rd l0 x22_1)) = true := decide_eq_true c20
                        clear c20
                        simp only [Option.some.injEq, Prod.mk.injEq] at H
                        obtain ⟨rfl, rfl⟩ := H
                        have p105 : 0 ≤ (x22_1 : Int) := of_decide_eq_true As_
                        have q105 : x22_1 < (l0.length : Int) := of_decide_eq_true As_
                        obtain ⟨ad105, e105, hx105_0⟩ := Kd.at_int HR0.out x22_1 p105 q105
                        cases e105
                        replace hx105_0 := (HB.out.cell (World.block_lt_of_cell? w _ hx105_0)).trans hx105_0
                        replace p105 := eq_true p105
                        replace q105 := eq_true q105
                        go_wp2
                        go_ret2
                        exact ⟨Re_, Bl_⟩
                      · rw [if_neg c20] at H
                        have c20b0 : decide ((wrap64 (Int.tdiv (4096 : Int) x4_1)) < (rd l0 x22_1)) = false := decide_eq_false c20
                        clear c20
                        have H' := Aside0.mk H
                        clear H
                        have p105 : 0 ≤ (x22_1 : Int) := of_decide_eq_true As_
                        have q105 : x22_1 < (l0.length : Int) := of_decide_eq_true As_
                        obtain ⟨ad105, e105, hx105_0⟩ := Kd.at_int HR0.out x22_1 p105 q105
                        cases e105
                        replace hx105_0 := (HB.out.cell (World.block_lt_of_cell? w _ hx105_0)).trans hx105_0
                        replace p105 := eq_true p105
                        replace q105 := eq_true q105
                        go_wp2
                        go_roundg k1
                        case measure => have := HK1.out; omega
                        case rel => exact ⟨(wrap64 (x4_1 * (rd l0 x22_1))), (wrap64 (x22_1 + 1)), Rf_, Rf_, H', ⟨by have := HK1.out; omega⟩, ⟨Bl_⟩⟩
                  · rw [if_neg c18] at H
                    exact absurd H (by simp)
                · rw [if_neg c17] at H
                  exact absurd H (by simp)
              · rw [if_neg c16] at H
                have c16b0 : decide (x22_1 < (l0.length : Int)) = false := decide_eq_false c16
                clear c16
                simp only [Option.some.injEq, Prod.mk.injEq] at H
                obtain ⟨rfl, rfl⟩ := H
                go_wp2
                go_ret2
                exact ⟨Re_, Bl_⟩
/-! ### typed_Typed_May: function 19 -/
def typed_Typed_May.f (k : Nat) (a0_0 : Int) (l0_1 : List Int) (a0_2 : ByteArray) : Option (Bool) := (shape_Size.f k l0_1).bind fun bt102 => ((typed_known.f k a0_0).bind fun t104 => (if t104 = true then (if bt102.2 = 0 then (some ((a0_2.size : Int) == (wrap64 (Int.tdiv (wrap64 (bt102.1 * a0_0)) 8)))) else (some false)) else (some false)))
set_option maxHeartbeats 8000000 in
set_option maxRecDepth 100000 in
theorem typed_Typed_May.calls (k : Nat) (a0_0 : Int) (A0_1 : Option Addr) (c0_1 : Nat) (l0_1 : List Int) (a0_2 : ByteArray) (r : Bool) (w : World) (hr0_1 : Kd.C (Kd.int .i64) w A0_1 l0_1.length l0_1) (hc0_1 : l0_1.length ≤ c0_1) (h : typed_Typed_May.f k a0_0 l0_1 a0_2 = some r) :
    Calls Tryz.prog 19 #[.agg #[.int .i64 a0_0, .slice A0_1 l0_1.length c0_1, .string a0_2]] w fun e w' => e = .returned (.bool r) ∧ Below w.heap.size w w' := by
  have hu27 := Tryz.underlying27
  have HR0_1 := Aside0.mk hr0_1
  have HC0_1 := Aside0.mk hc0_1
  clear hr0_1 hc0_1
  have HB := Aside0.mk (Below.refl w.heap.size w)
  have H : ((shape_Size.f k l0_1).bind fun bt102 => ((typed_known.f k a0_0).bind fun t104 => (if t104 = true then (if bt102.2 = 0 then (some ((a0_2.size : Int) == (wrap64 (Int.tdiv (wrap64 (bt102.1 * a0_0)) 8)))) else (some false)) else (some false)))) = some r := h
  clear h
  obtain ⟨⟨t102, t103⟩, A2, H⟩ := bnd_ H
  try dsimp -simprocs only at H
  obtain ⟨t104, A3, H⟩ := bnd_ H
  try dsimp -simprocs only at H
  by_cases c4 : t104 = true
  · subst c4
    have H1 : (if t103 = 0 then (some ((a0_2.size : Int) == (wrap64 (Int.tdiv (wrap64 (t102 * a0_0)) 8)))) else (some false)) = some r := by rw [if_pos rfl] at H; exact H
    clear H
    have H := H1
    clear H1
    by_cases c5 : t103 = 0
    · rw [if_pos c5] at H
      have c5b0 : (t103 == 0) = true := beq_iff_eq.mpr c5
      have c5b1 : (t103 != 0) = false := bne_eq_false_iff_eq.mpr c5
      clear c5
      obtain rfl := Option.some.inj H
      go_enter Tryz.func19, Tryz.ntmps19
      go_wp2_with (first | ((with_reducible refine gate_dst (N := 1) rfl ?_); (try (refine gate_guard (by rfl) ?_; dsimp only)); refine bx_ 1 #[.int .i64 a0_0, .slice A0_1 l0_1.length c0_1, .string a0_2] 27 ?_; intro gb101 hg w6 hbox hb; have BK101 := Aside0.mk (hbox); have GW101 := (Bg_ hg : Aside0 (w.heap.size ≤ gb101)); have GE101 := (Bg_ hg : Aside0 (w.heap.size ≤ gb101)); replace HB := Bs_ hb; clear hb hbox hg; obtain ⟨hcz7_0, hcz7_1, hcz7_2⟩ := c3_ BK101; obtain ⟨hfz7_0, hfz7_1, hfz7_2⟩ := f3_ BK101) | ((with_reducible refine gate_callee (f := 78) rfl ?_); refine goesL_ (some 8) rfl rfl Tryz.func78 (by kernel_rfl) rfl #[.slice A0_1 l0_1.length c0_1] rfl Ga_ ?_; (with_reducible refine (shape_Size.calls k _ _ l0_1 t102 t103 _ ?side1 ?side2 A2.out).mono ?_); (case side1 => exact Pc_ (Kd.C_below HR0_1.out HB.out)); (case side2 => exact HC0_1.out); rintro e w8 ⟨rfl, hb⟩; refine ⟨_, rfl, ?_⟩; replace BK101 := kb_ BK101 hb; replace HB := Bs_ hb; (try clear hb); (try clear hb2); (try clear hk); (try clear hi); obtain ⟨hcz9_0, hcz9_1, hcz9_2⟩ := c3_ BK101; obtain ⟨hfz9_0, hfz9_1, hfz9_2⟩ := f3_ BK101) | ((with_reducible refine gate_callee (f := 70) rfl ?_); refine goesL_ (some 13) rfl rfl Tryz.func70 (by kernel_rfl) rfl #[.int .i64 a0_0] rfl Ga_ ?_; (with_reducible refine (typed_known.calls k a0_0 true _ A3.out).mono ?_); rintro e w10 ⟨rfl, hb⟩; refine ⟨_, rfl, ?_⟩; replace BK101 := kb_ BK101 hb; replace HB := Bs_ hb; (try clear hb); (try clear hb2); (try clear hk); (try clear hi); obtain ⟨hcz11_0, hcz11_1, hcz11_2⟩ := c3_ BK101; obtain ⟨hfz11_0, hfz11_1, hfz11_2⟩ := f3_ BK101))
      go_ret
      exact ⟨Re_, Bl_⟩
    · rw [if_neg c5] at H
      have c5b0 : (t103 == 0) = false := beq_eq_false_iff_ne.mpr c5
      have c5b1 : (t103 != 0) = true := bne_iff_ne.mpr c5
      obtain rfl := Option.some.inj H
      go_enter Tryz.func19, Tryz.ntmps19
      go_wp2_with (first | ((with_reducible refine gate_dst (N := 1) rfl ?_); (try (refine gate_guard (by rfl) ?_; dsimp only)); refine bx_ 1 #[.int .i64 a0_0, .slice A0_1 l0_1.length c0_1, .string a0_2] 27 ?_; intro gb101 hg w12 hbox hb; have BK101 := Aside0.mk (hbox); have GW101 := (Bg_ hg : Aside0 (w.heap.size ≤ gb101)); have GE101 := (Bg_ hg : Aside0 (w.heap.size ≤ gb101)); replace HB := Bs_ hb; clear hb hbox hg; obtain ⟨hcz13_0, hcz13_1, hcz13_2⟩ := c3_ BK101; obtain ⟨hfz13_0, hfz13_1, hfz13_2⟩ := f3_ BK101) | ((with_reducible refine gate_callee (f := 78) rfl ?_); refine goesL_ (some 8) rfl rfl Tryz.func78 (by kernel_rfl) rfl #[.slice A0_1 l0_1.length c0_1] rfl Ga_ ?_; (with_reducible refine (shape_Size.calls k _ _ l0_1 t102 t103 _ ?side1 ?side2 A2.out).mono ?_); (case side1 => exact Pc_ (Kd.C_below HR0_1.out HB.out)); (case side2 => exact HC0_1.out); rintro e w14 ⟨rfl, hb⟩; refine ⟨_, rfl, ?_⟩; replace BK101 := kb_ BK101 hb; replace HB := Bs_ hb; (try clear hb); (try clear hb2); (try clear hk); (try clear hi); obtain ⟨hcz15_0, hcz15_1, hcz15_2⟩ := c3_ BK101; obtain ⟨hfz15_0, hfz15_1, hfz15_2⟩ := f3_ BK101) | ((with_reducible refine gate_callee (f := 70) rfl ?_); refine goesL_ (some 13) rfl rfl Tryz.func70 (by kernel_rfl) rfl #[.int .i64 a0_0] rfl Ga_ ?_; (with_reducible refine (typed_known.calls k a0_0 true _ A3.out).mono ?_); rintro e w16 ⟨rfl, hb⟩; refine ⟨_, rfl, ?_⟩; replace BK101 := kb_ BK101 hb; replace HB := Bs_ hb; (try clear hb); (try clear hb2); (try clear hk); (try clear hi)))
      go_ret
      exact ⟨Re_, Bl_⟩
  · replace c4 := Bool.eq_false_iff.mpr c4
    subst c4
    have H1 : (some false) = some r := by rw [if_neg (show ¬ (false = true) by decide)] at H; exact H
    clear H
    have H := H1
    clear H1
    obtain rfl := Option.some.inj H
    go_enter Tryz.func19, Tryz.ntmps19
    go_wp2_with (first | ((with_reducible refine gate_dst (N := 1) rfl ?_); (try (refine gate_guard (by rfl) ?_; dsimp only)); refine bx_ 1 #[.int .i64 a0_0, .slice A0_1 l0_1.length c0_1, .string a0_2] 27 ?_; intro gb101 hg w17 hbox hb; have BK101 := Aside0.mk (hbox); have GW101 := (Bg_ hg : Aside0 (w.heap.size ≤ gb101)); have GE101 := (Bg_ hg : Aside0 (w.heap.size ≤ gb101)); replace HB := Bs_ hb; clear hb hbox hg; obtain ⟨hcz18_0, hcz18_1, hcz18_2⟩ := c3_ BK101; obtain ⟨hfz18_0, hfz18_1, hfz18_2⟩ := f3_ BK101) | ((with_reducible refine gate_callee (f := 78) rfl ?_); refine goesL_ (some 8) rfl rfl Tryz.func78 (by kernel_rfl) rfl #[.slice A0_1 l0_1.length c0_1] rfl Ga_ ?_; (with_reducible refine (shape_Size.calls k _ _ l0_1 t102 t103 _ ?side1 ?side2 A2.out).mono ?_); (case side1 => exact Pc_ (Kd.C_below HR0_1.out HB.out)); (case side2 => exact HC0_1.out); rintro e w19 ⟨rfl, hb⟩; refine ⟨_, rfl, ?_⟩; replace BK101 := kb_ BK101 hb; replace HB := Bs_ hb; (try clear hb); (try clear hb2); (try clear hk); (try clear hi); obtain ⟨hcz20_0, hcz20_1, hcz20_2⟩ := c3_ BK101; obtain ⟨hfz20_0, hfz20_1, hfz20_2⟩ := f3_ BK101) | ((with_reducible refine gate_callee (f := 70) rfl ?_); refine goesL_ (some 13) rfl rfl Tryz.func70 (by kernel_rfl) rfl #[.int .i64 a0_0] rfl Ga_ ?_; (with_reducible refine (typed_known.calls k a0_0 false _ A3.out).mono ?_); rintro e w21 ⟨rfl, hb⟩; refine ⟨_, rfl, ?_⟩; replace BK101 := kb_ BK101 hb; replace HB := Bs_ hb; (try clear hb); (try clear hb2); (try clear hk); (try clear hi)))
    go_ret
    exact ⟨Re_, Bl_⟩
/-! ### typed_Typed_Many: function 21 -/
def typed_Typed_Many.f (k : Nat) (a0_0 : Int) (l0_1 : List Int) (a0_2 : ByteArray) : Option (Int) := (typed_Typed_May.f k a0_0 l0_1 a0_2).bind fun t102 => (if t102 = true then (if a0_0 = 0 then (none) else (some (wrap64 (Int.tdiv (wrap64 ((a0_2.size : Int) * 8)) a0_0)))) else (some 0))
set_option maxHeartbeats 8000000 in
set_option maxRecDepth 100000 in
theorem typed_Typed_Many.calls (k : Nat) (a0_0 : Int) (A0_1 : Option Addr) (c0_1 : Nat) (l0_1 : List Int) (a0_2 : ByteArray) (r : Int) (w : World) (hr0_1 : Kd.C (Kd.int .i64) w A0_1 l0_1.length l0_1) (hc0_1 : l0_1.length ≤ c0_1) (h : typed_Typed_Many.f k a0_0 l0_1 a0_2 = some r) :
    Calls Tryz.prog 21 #[.agg #[.int .i64 a0_0, .slice A0_1 l0_1.length c0_1, .string a0_2]] w fun e w' => e = .returned (.int .i64 r) ∧ Below w.heap.size w w' := by
  have hu27 := Tryz.underlying27
  have HR0_1 := Aside0.mk hr0_1
  have HC0_1 := Aside0.mk hc0_1
  clear hr0_1 hc0_1
  have HB := Aside0.mk (Below.refl w.heap.size w)
  have H : ((typed_Typed_May.f k a0_0 l0_1 a0_2).bind fun t102 => (if t102 = true then (if a0_0 = 0 then (none) else (some (wrap64 (Int.tdiv (wrap64 ((a0_2.size : Int) * 8)) a0_0)))) else (some 0))) = some r := h
  clear h
  obtain ⟨t102, A2, H⟩ := bnd_ H
  try dsimp -simprocs only at H
  by_cases c3 : t102 = true
  · subst c3
    have H1 : (if a0_0 = 0 then (none) else (some (wrap64 (Int.tdiv (wrap64 ((a0_2.size : Int) * 8)) a0_0)))) = some r := by rw [if_pos rfl] at H; exact H
    clear H
    have H := H1
    clear H1
    by_cases c4 : a0_0 = 0
    · rw [if_pos c4] at H
      exact absurd H (by simp)
    · rw [if_neg c4] at H
      have c4b0 : (a0_0 == 0) = false := beq_eq_false_iff_ne.mpr c4
      have c4b1 : (a0_0 != 0) = true := bne_iff_ne.mpr c4
      obtain rfl := Option.some.inj H
      go_enter Tryz.func21, Tryz.ntmps21
      go_wp2_with (first | ((with_reducible refine gate_dst (N := 1) rfl ?_); refine bx_ 1 #[.int .i64 a0_0, .slice A0_1 l0_1.length c0_1, .string a0_2] 27 ?_; intro gb101 hg w5 hbox hb; have BK101 := Aside0.mk (hbox); have GW101 := (Bg_ hg : Aside0 (w.heap.size ≤ gb101)); have GE101 := (Bg_ hg : Aside0 (w.heap.size ≤ gb101)); replace HB := Bs_ hb; clear hb hbox hg; obtain ⟨hcz6_0, hcz6_1, hcz6_2⟩ := c3_ BK101; obtain ⟨hfz6_0, hfz6_1, hfz6_2⟩ := f3_ BK101) | ((with_reducible refine gate_callee (f := 19) rfl ?_); refine goesL_ (some 4) rfl rfl Tryz.func19 (by kernel_rfl) rfl #[.agg #[.int .i64 a0_0, .slice A0_1 l0_1.length c0_1, .string a0_2]] rfl Ga_ ?_; (with_reducible refine (typed_Typed_May.calls k a0_0 _ _ l0_1 a0_2 true _ ?side1 ?side2 A2.out).mono ?_); (case side1 => exact Pc_ (Kd.C_below HR0_1.out HB.out)); (case side2 => exact HC0_1.out); rintro e w7 ⟨rfl, hb⟩; refine ⟨_, rfl, ?_⟩; replace BK101 := kb_ BK101 hb; replace HB := Bs_ hb; (try clear hb); (try clear hb2); (try clear hk); (try clear hi); obtain ⟨hcz8_0, hcz8_1, hcz8_2⟩ := c3_ BK101; obtain ⟨hfz8_0, hfz8_1, hfz8_2⟩ := f3_ BK101))
      go_ret
      exact ⟨Re_, Bl_⟩
  · replace c3 := Bool.eq_false_iff.mpr c3
    subst c3
    have H1 : (some 0) = some r := by rw [if_neg (show ¬ (false = true) by decide)] at H; exact H
    clear H
    have H := H1
    clear H1
    obtain rfl := Option.some.inj H
    go_enter Tryz.func21, Tryz.ntmps21
    go_wp2_with (first | ((with_reducible refine gate_dst (N := 1) rfl ?_); refine bx_ 1 #[.int .i64 a0_0, .slice A0_1 l0_1.length c0_1, .string a0_2] 27 ?_; intro gb101 hg w9 hbox hb; have BK101 := Aside0.mk (hbox); have GW101 := (Bg_ hg : Aside0 (w.heap.size ≤ gb101)); have GE101 := (Bg_ hg : Aside0 (w.heap.size ≤ gb101)); replace HB := Bs_ hb; clear hb hbox hg; obtain ⟨hcz10_0, hcz10_1, hcz10_2⟩ := c3_ BK101; obtain ⟨hfz10_0, hfz10_1, hfz10_2⟩ := f3_ BK101) | ((with_reducible refine gate_callee (f := 19) rfl ?_); refine goesL_ (some 4) rfl rfl Tryz.func19 (by kernel_rfl) rfl #[.agg #[.int .i64 a0_0, .slice A0_1 l0_1.length c0_1, .string a0_2]] rfl Ga_ ?_; (with_reducible refine (typed_Typed_May.calls k a0_0 _ _ l0_1 a0_2 false _ ?side1 ?side2 A2.out).mono ?_); (case side1 => exact Pc_ (Kd.C_below HR0_1.out HB.out)); (case side2 => exact HC0_1.out); rintro e w11 ⟨rfl, hb⟩; refine ⟨_, rfl, ?_⟩; replace BK101 := kb_ BK101 hb; replace HB := Bs_ hb; (try clear hb); (try clear hb2); (try clear hk); (try clear hi)))
    go_ret
    exact ⟨Re_, Bl_⟩
/-! ### typed_get: function 64 -/
def typed_get.l0 : Nat → ByteArray → Int → Int → Int → Option (Int)
  | 0, _, _, _, _ => none
  | k + 1, x0, x3, x11, x12 => if x12 < x11 then (if 0 ≤ (wrap64 (x12 + 1)) then (if (wrap64 (x12 + 1)) < (x0.size : Int) then (typed_get.l0 k x0 (Go.bits .or .i64 (wrap64 (x3 * 256)) (wrap64 (bt x0 (wrap64 (x12 + 1))))) x11 (wrap64 (x12 + 1))) else (none)) else (none)) else (some x3)
def typed_get.f (k : Nat) (a0 : ByteArray) : Option (Int) := if 0 < (a0.size : Int) then (typed_get.l0 k a0 (wrap64 (IntKind.i8.wrap (bt a0 0))) (wrap64 ((a0.size : Int) - 1)) 0) else (none)
set_option maxHeartbeats 8000000 in
set_option maxRecDepth 100000 in
theorem typed_get.calls (k : Nat) (a0 : ByteArray) (r : Int) (w : World) (h : typed_get.f k a0 = some r) :
    Calls Tryz.prog 64 #[.string a0] w fun e w' => e = .returned (.int .i64 r) ∧ Drawn0 w w' := by
  have H : (if 0 < (a0.size : Int) then (typed_get.l0 k a0 (wrap64 (IntKind.i8.wrap (bt a0 0))) (wrap64 ((a0.size : Int) - 1)) 0) else (none)) = some r := h
  clear h
  by_cases c2 : 0 < (a0.size : Int)
  · rw [if_pos c2] at H
    have c2b0 : decide (0 < (a0.size : Int)) = true := decide_eq_true c2
    have c2b1 : decide (0 < a0.size) = true := decide_eq_true (by omega)
    clear c2
    have H' := Aside0.mk H
    clear H
    have p3 : 0 ≤ (0 : Int) := (by omega)
    have q3 : 0 < a0.size := (by have : (0 : Int) < (a0.size : Int) := of_decide_eq_true As_; omega)
    have hx3 : ∀ h : 0 < a0.size, ((a0[0]'h).toNat : Int) = bt a0 0 := bt_at a0 0
    clear p3
    have qi3 : (0 < (a0.size : Int)) = True := eq_true (of_decide_eq_true As_)
    replace q3 := eq_true q3
    go_enter Tryz.func64, Tryz.ntmps64
    go_wp2
    go_loopg [3, 12] k (fun kq v3 v12 w' => ∃ (x3_1 : Int) (x12_1 : Int), v3 = .int .i64 x3_1 ∧ v12 = .int .i64 x12_1 ∧ Aside0 (typed_get.l0 kq a0 x3_1 (wrap64 ((a0.size : Int) - 1)) x12_1 = some r) ∧ Aside0 (kq ≤ k) ∧ Drawn0 w w')
    case atStart => exact ⟨(wrap64 (IntKind.i8.wrap (bt a0 0))), (0), Rf_, Rf_, H', ⟨Nat.le_refl _⟩, Dw_⟩
    case round =>
      clear H'
      try clear c2
      try clear c2b0
      try clear c2b1
      try clear p2
      try clear p3
      try clear q3
      try clear hx3
      try clear qi3
      try clear p3
      try clear q3
      obtain ⟨x3_1, x12_1, rfl, rfl, HA, HK1, ⟨m1, rfl⟩⟩ := hrel
      cases gk with
      | zero => exact absurd HA.out (by simp [typed_get.l0])
      | succ k1 =>
        have H := HA.out
        clear HA
        simp only [typed_get.l0] at H
        by_cases c4 : x12_1 < (wrap64 ((a0.size : Int) - 1))
        · rw [if_pos c4] at H
          have c4b0 : decide (x12_1 < (wrap64 ((a0.size : Int) - 1))) = true := decide_eq_true c4
          clear c4
          obtain ⟨ji5, hji5⟩ : ∃ j_ : Int, (wrap64 (x12_1 + 1)) = j_ := ⟨_, rfl⟩
          replace H : (if 0 ≤ (ji5) then (if (ji5) < (a0.size : Int) then (typed_get.l0 k1 a0 (Go.bits .or .i64 (wrap64 (x3_1 * 256)) (wrap64 (bt a0 (ji5)))) (wrap64 ((a0.size : Int) - 1)) ji5) else (none)) else (none)) = some r := by first | (rw [hji5] at H; exact H) | (simp only [hji5] at H ⊢; exact H)
          have hji5w : (IntKind.i64.wrap (x12_1 + 1)) = ji5 := (i64_w _).trans hji5
          by_cases c6 : 0 ≤ (ji5)
          · rw [if_pos c6] at H
            have c6b0 : decide (0 ≤ (ji5)) = true := decide_eq_true c6
            clear c6
            by_cases c7 : (ji5) < (a0.size : Int)
            · rw [if_pos c7] at H
              have c7b0 : decide ((ji5) < (a0.size : Int)) = true := decide_eq_true c7
              clear c7
              have H' := Aside0.mk H
              clear H
              have p8 : 0 ≤ ((ji5) : Int) := of_decide_eq_true As_
              have q8 : (ji5) < (a0.size : Int) := of_decide_eq_true As_
              have hx8 := bt_at a0 (ji5)
              replace p8 := eq_true p8
              replace q8 := eq_true q8
              go_wp2
              go_roundg k1
              case measure => have := HK1.out; omega
              case rel => exact ⟨(Go.bits .or .i64 (wrap64 (x3_1 * 256)) (wrap64 (bt a0 (ji5)))), (ji5), (by first | rfl | (simp; done) | (simp only [← hji5] <;> (first | rfl | simp)) | (simp [*]; done)), (by first | rfl | (simp; done) | (simp only [← hji5] <;> (first | rfl | simp)) | (simp [*]; done)), H', ⟨by have := HK1.out; omega⟩, Dw_⟩
            · rw [if_neg c7] at H
              exact absurd H (by simp)
          · rw [if_neg c6] at H
            exact absurd H (by simp)
        · rw [if_neg c4] at H
          have c4b0 : decide (x12_1 < (wrap64 ((a0.size : Int) - 1))) = false := decide_eq_false c4
          clear c4
          obtain rfl := Option.some.inj H
          go_wp2
          go_ret
          exact ⟨Rf_, Dw_⟩
  · rw [if_neg c2] at H
    exact absurd H (by simp)
/-! ### typed_Typed_At: function 13 -/
def typed_Typed_At.f (k : Nat) (a0_0 : Int) (l0_1 : List Int) (a0_2 : ByteArray) (a1 : Int) : Option (Int × Bool) := if a1 < 0 then (some (0, false)) else ((typed_Typed_Many.f k a0_0 l0_1 a0_2).bind fun t102 => (if a1 ≥ t102 then (some (0, false)) else (if 0 ≤ (wrap64 (a1 * (wrap64 (Int.tdiv a0_0 8)))) then (if (wrap64 (a1 * (wrap64 (Int.tdiv a0_0 8)))) ≤ (wrap64 ((wrap64 (a1 + 1)) * (wrap64 (Int.tdiv a0_0 8)))) then (if (wrap64 ((wrap64 (a1 + 1)) * (wrap64 (Int.tdiv a0_0 8)))) ≤ (a0_2.size : Int) then ((typed_get.f k (a0_2.extract ((wrap64 (a1 * (wrap64 (Int.tdiv a0_0 8)))) : Int).toNat ((wrap64 ((wrap64 (a1 + 1)) * (wrap64 (Int.tdiv a0_0 8)))) : Int).toNat)).bind fun t103 => (some (t103, true))) else (none)) else (none)) else (none))))
set_option maxHeartbeats 8000000 in
set_option maxRecDepth 100000 in
theorem typed_Typed_At.calls (k : Nat) (a0_0 : Int) (A0_1 : Option Addr) (c0_1 : Nat) (l0_1 : List Int) (a0_2 : ByteArray) (a1 : Int) (r1 : Int) (r2 : Bool) (w : World) (hr0_1 : Kd.C (Kd.int .i64) w A0_1 l0_1.length l0_1) (hc0_1 : l0_1.length ≤ c0_1) (h : typed_Typed_At.f k a0_0 l0_1 a0_2 a1 = some (r1, r2)) :
    Calls Tryz.prog 13 #[.agg #[.int .i64 a0_0, .slice A0_1 l0_1.length c0_1, .string a0_2], .int .i64 a1] w fun e w' => e = .returned (.tuple #[.int .i64 r1, .bool r2]) ∧ Below w.heap.size w w' := by
  have hu27 := Tryz.underlying27
  have HR0_1 := Aside0.mk hr0_1
  have HC0_1 := Aside0.mk hc0_1
  clear hr0_1 hc0_1
  have HB := Aside0.mk (Below.refl w.heap.size w)
  have H : (if a1 < 0 then (some (0, false)) else ((typed_Typed_Many.f k a0_0 l0_1 a0_2).bind fun t102 => (if a1 ≥ t102 then (some (0, false)) else (if 0 ≤ (wrap64 (a1 * (wrap64 (Int.tdiv a0_0 8)))) then (if (wrap64 (a1 * (wrap64 (Int.tdiv a0_0 8)))) ≤ (wrap64 ((wrap64 (a1 + 1)) * (wrap64 (Int.tdiv a0_0 8)))) then (if (wrap64 ((wrap64 (a1 + 1)) * (wrap64 (Int.tdiv a0_0 8)))) ≤ (a0_2.size : Int) then ((typed_get.f k (a0_2.extract ((wrap64 (a1 * (wrap64 (Int.tdiv a0_0 8)))) : Int).toNat ((wrap64 ((wrap64 (a1 + 1)) * (wrap64 (Int.tdiv a0_0 8)))) : Int).toNat)).bind fun t103 => (some (t103, true))) else (none)) else (none)) else (none))))) = some (r1, r2) := h
  clear h
  by_cases c3 : a1 < 0
  · rw [if_pos c3] at H
    have c3b0 : decide (a1 < 0) = true := decide_eq_true c3
    clear c3
    simp only [Option.some.injEq, Prod.mk.injEq] at H
    obtain ⟨rfl, rfl⟩ := H
    go_enter Tryz.func13, Tryz.ntmps13
    go_wp2_with (first | ((with_reducible refine gate_dst (N := 2) rfl ?_); refine bx_ 2 #[.int .i64 a0_0, .slice A0_1 l0_1.length c0_1, .string a0_2] 27 ?_; intro gb101 hg w4 hbox hb; have BK101 := Aside0.mk (hbox); have GW101 := (Bg_ hg : Aside0 (w.heap.size ≤ gb101)); have GE101 := (Bg_ hg : Aside0 (w.heap.size ≤ gb101)); replace HB := Bs_ hb; clear hb hbox hg))
    go_ret2
    exact ⟨Re_, Bl_⟩
  · rw [if_neg c3] at H
    have c3b0 : decide (a1 < 0) = false := decide_eq_false c3
    clear c3
    obtain ⟨t102, A5, H⟩ := bnd_ H
    try dsimp -simprocs only at H
    by_cases c6 : a1 ≥ t102
    · rw [if_pos c6] at H
      have c6b0 : decide (t102 ≤ a1) = true := decide_eq_true c6
      clear c6
      simp only [Option.some.injEq, Prod.mk.injEq] at H
      obtain ⟨rfl, rfl⟩ := H
      go_enter Tryz.func13, Tryz.ntmps13
      go_wp2_with (first | ((with_reducible refine gate_dst (N := 2) rfl ?_); refine bx_ 2 #[.int .i64 a0_0, .slice A0_1 l0_1.length c0_1, .string a0_2] 27 ?_; intro gb101 hg w7 hbox hb; have BK101 := Aside0.mk (hbox); have GW101 := (Bg_ hg : Aside0 (w.heap.size ≤ gb101)); have GE101 := (Bg_ hg : Aside0 (w.heap.size ≤ gb101)); replace HB := Bs_ hb; clear hb hbox hg; obtain ⟨hcz8_0, hcz8_1, hcz8_2⟩ := c3_ BK101; obtain ⟨hfz8_0, hfz8_1, hfz8_2⟩ := f3_ BK101) | (go_at_call 21; (with_reducible refine (typed_Typed_Many.calls k a0_0 _ _ l0_1 a0_2 t102 _ ?side1 ?side2 A5.out).mono ?_); (case side1 => exact Pc_ (Kd.C_below HR0_1.out HB.out)); (case side2 => exact HC0_1.out); rintro e w9 ⟨rfl, hb⟩; replace BK101 := kb_ BK101 hb; replace HB := Bs_ hb; (try clear hb); (try clear hb2); (try clear hk); (try clear hi)))
      go_ret2
      exact ⟨Re_, Bl_⟩
    · rw [if_neg c6] at H
      have c6b0 : decide (t102 ≤ a1) = false := decide_eq_false c6
      clear c6
      obtain ⟨ji10, hji10⟩ : ∃ j_ : Int, (wrap64 (a1 * (wrap64 (Int.tdiv a0_0 8)))) = j_ := ⟨_, rfl⟩
      replace H : (if 0 ≤ (ji10) then (if (ji10) ≤ (wrap64 ((wrap64 (a1 + 1)) * (wrap64 (Int.tdiv a0_0 8)))) then (if (wrap64 ((wrap64 (a1 + 1)) * (wrap64 (Int.tdiv a0_0 8)))) ≤ (a0_2.size : Int) then ((typed_get.f k (a0_2.extract ((ji10) : Int).toNat ((wrap64 ((wrap64 (a1 + 1)) * (wrap64 (Int.tdiv a0_0 8)))) : Int).toNat)).bind fun t103 => (some (t103, true))) else (none)) else (none)) else (none)) = some (r1, r2) := by first | (rw [hji10] at H; exact H) | (simp only [hji10] at H ⊢; exact H)
      (try rw [hji10] at A5)
      have hji10w : (IntKind.i64.wrap (a1 * (wrap64 (Int.tdiv a0_0 8)))) = ji10 := (i64_w _).trans hji10
      by_cases c11 : 0 ≤ (ji10)
      · rw [if_pos c11] at H
        have c11b0 := eq_true c11
        have c11b1 : decide (0 ≤ (ji10)) = true := decide_eq_true c11
        clear c11
        by_cases c12 : (ji10) ≤ (wrap64 ((wrap64 (a1 + 1)) * (wrap64 (Int.tdiv a0_0 8))))
        · rw [if_pos c12] at H
          have c12b0 := eq_true c12
          have c12b1 : decide ((ji10) ≤ (wrap64 ((wrap64 (a1 + 1)) * (wrap64 (Int.tdiv a0_0 8))))) = true := decide_eq_true c12
          by_cases c13 : (wrap64 ((wrap64 (a1 + 1)) * (wrap64 (Int.tdiv a0_0 8)))) ≤ (a0_2.size : Int)
          · rw [if_pos c13] at H
            have c13b0 := eq_true c13
            have c13b1 : decide ((wrap64 ((wrap64 (a1 + 1)) * (wrap64 (Int.tdiv a0_0 8)))) ≤ (a0_2.size : Int)) = true := decide_eq_true c13
            obtain ⟨t103, A14, H⟩ := bnd_ H
            try dsimp -simprocs only at H
            simp only [Option.some.injEq, Prod.mk.injEq] at H
            obtain ⟨rfl, rfl⟩ := H
            go_enter Tryz.func13, Tryz.ntmps13
            go_wp2_with (first | ((with_reducible refine gate_dst (N := 2) rfl ?_); refine bx_ 2 #[.int .i64 a0_0, .slice A0_1 l0_1.length c0_1, .string a0_2] 27 ?_; intro gb101 hg w15 hbox hb; have BK101 := Aside0.mk (hbox); have GW101 := (Bg_ hg : Aside0 (w.heap.size ≤ gb101)); have GE101 := (Bg_ hg : Aside0 (w.heap.size ≤ gb101)); replace HB := Bs_ hb; clear hb hbox hg; obtain ⟨hcz16_0, hcz16_1, hcz16_2⟩ := c3_ BK101; obtain ⟨hfz16_0, hfz16_1, hfz16_2⟩ := f3_ BK101) | (go_at_call 21; (with_reducible refine (typed_Typed_Many.calls k a0_0 _ _ l0_1 a0_2 t102 _ ?side1 ?side2 A5.out).mono ?_); (case side1 => exact Pc_ (Kd.C_below HR0_1.out HB.out)); (case side2 => exact HC0_1.out); rintro e w17 ⟨rfl, hb⟩; replace BK101 := kb_ BK101 hb; replace HB := Bs_ hb; (try clear hb); (try clear hb2); (try clear hk); (try clear hi); obtain ⟨hcz18_0, hcz18_1, hcz18_2⟩ := c3_ BK101; obtain ⟨hfz18_0, hfz18_1, hfz18_2⟩ := f3_ BK101) | ((with_reducible refine gate_callee (f := 64) rfl ?_); refine goesL_ (some 28) rfl rfl Tryz.func64 (by kernel_rfl) rfl #[.string (a0_2.extract ((ji10) : Int).toNat ((wrap64 ((wrap64 (a1 + 1)) * (wrap64 (Int.tdiv a0_0 8)))) : Int).toNat)] rfl (by (try simp only [List.map_toArray, List.map_cons, List.map_nil]); first | done | (simp only [hji10]; rfl) | rfl | (simp only [List.length_drop, List.length_take]; rfl)) ?_; (with_reducible refine (typed_get.calls k (a0_2.extract ((ji10) : Int).toNat ((wrap64 ((wrap64 (a1 + 1)) * (wrap64 (Int.tdiv a0_0 8)))) : Int).toNat) t103 _ A14.out).mono ?_); rintro e w' ⟨rfl, ⟨nd, rfl⟩⟩; refine ⟨_, rfl, ?_⟩))
            go_ret2
            exact ⟨by first | rfl | (simp [errW_none, errW_some] <;> rfl) | (simp only [← hji10]; first | rfl | (simp [errW_none, errW_some] <;> rfl)) | (simp [*, errW_none, errW_some] <;> rfl), Bl_⟩
          · rw [if_neg c13] at H
            exact absurd H (by simp)
        · rw [if_neg c12] at H
          exact absurd H (by simp)
      · rw [if_neg c11] at H
        exact absurd H (by simp)
/-! ### stringslite_HasPrefix: function 213 -/
def stringslite_HasPrefix.f (a0 : ByteArray) (a1 : ByteArray) : Option (Bool) := if (a0.size : Int) ≥ (a1.size : Int) then (if 0 ≤ (a1.size : Int) then (if (a1.size : Int) ≤ (a0.size : Int) then (some ((a0.extract 0 ((a1.size : Int) : Int).toNat).toList == a1.toList)) else (none)) else (none)) else (some false)
set_option maxHeartbeats 8000000 in
set_option maxRecDepth 100000 in
theorem stringslite_HasPrefix.calls (a0 : ByteArray) (a1 : ByteArray) (r : Bool) (w : World) (h : stringslite_HasPrefix.f a0 a1 = some r) :
    Calls Tryz.prog 213 #[.string a0, .string a1] w fun e w' => e = .returned (.bool r) ∧ Drawn0 w w' := by
  have H : (if (a0.size : Int) ≥ (a1.size : Int) then (if 0 ≤ (a1.size : Int) then (if (a1.size : Int) ≤ (a0.size : Int) then (some ((a0.extract 0 ((a1.size : Int) : Int).toNat).toList == a1.toList)) else (none)) else (none)) else (some false)) = some r := h
  clear h
  by_cases c3 : (a0.size : Int) ≥ (a1.size : Int)
  · rw [if_pos c3] at H
    have c3b0 : decide ((a1.size : Int) ≤ (a0.size : Int)) = true := decide_eq_true c3
    have c3b1 : decide (a1.size ≤ a0.size) = true := decide_eq_true (Int.ofNat_le.mp c3)
    clear c3
    by_cases c4 : 0 ≤ (a1.size : Int)
    · rw [if_pos c4] at H
      have c4b0 := eq_true c4
      have c4b1 : decide (0 ≤ (a1.size : Int)) = true := decide_eq_true c4
      clear c4
      by_cases c5 : (a1.size : Int) ≤ (a0.size : Int)
      · rw [if_pos c5] at H
        have c5b0 := eq_true c5
        have c5b1 : decide ((a1.size : Int) ≤ (a0.size : Int)) = true := decide_eq_true c5
        clear c5
        obtain rfl := Option.some.inj H
        go_enter Tryz.func213, Tryz.ntmps213
        go_wp2
        go_ret
        exact ⟨Rf_, Dw_⟩
      · rw [if_neg c5] at H
        exact absurd H (by simp)
    · rw [if_neg c4] at H
      exact absurd H (by simp)
  · rw [if_neg c3] at H
    have c3b0 : decide ((a1.size : Int) ≤ (a0.size : Int)) = false := decide_eq_false c3
    have c3b1 : decide (a1.size ≤ a0.size) = false := decide_eq_false (fun h => c3 (Int.ofNat_le.mpr h))
    clear c3
    obtain rfl := Option.some.inj H
    go_enter Tryz.func213, Tryz.ntmps213
    go_wp2
    go_ret
    exact ⟨Rf_, Dw_⟩
/-! ### stringslite_TrimPrefix: function 194 -/
def stringslite_TrimPrefix.f (a0 : ByteArray) (a1 : ByteArray) : Option (ByteArray) := (stringslite_HasPrefix.f a0 a1).bind fun t101 => (if t101 = true then (if 0 ≤ (a1.size : Int) then (if (a1.size : Int) ≤ (a0.size : Int) then (some (a0.extract ((a1.size : Int) : Int).toNat a0.size)) else (none)) else (none)) else (some a0))
set_option maxHeartbeats 8000000 in
set_option maxRecDepth 100000 in
theorem stringslite_TrimPrefix.calls (a0 : ByteArray) (a1 : ByteArray) (r : ByteArray) (w : World) (h : stringslite_TrimPrefix.f a0 a1 = some r) :
    Calls Tryz.prog 194 #[.string a0, .string a1] w fun e w' => e = .returned (.string r) ∧ Drawn0 w w' := by
  have H : ((stringslite_HasPrefix.f a0 a1).bind fun t101 => (if t101 = true then (if 0 ≤ (a1.size : Int) then (if (a1.size : Int) ≤ (a0.size : Int) then (some (a0.extract ((a1.size : Int) : Int).toNat a0.size)) else (none)) else (none)) else (some a0))) = some r := h
  clear h
  obtain ⟨t101, A3, H⟩ := bnd_ H
  try dsimp -simprocs only at H
  by_cases c4 : t101 = true
  · subst c4
    have H1 : (if 0 ≤ (a1.size : Int) then (if (a1.size : Int) ≤ (a0.size : Int) then (some (a0.extract ((a1.size : Int) : Int).toNat a0.size)) else (none)) else (none)) = some r := by rw [if_pos rfl] at H; exact H
    clear H
    have H := H1
    clear H1
    by_cases c5 : 0 ≤ (a1.size : Int)
    · rw [if_pos c5] at H
      have c5b0 := eq_true c5
      have c5b1 : decide (0 ≤ (a1.size : Int)) = true := decide_eq_true c5
      clear c5
      by_cases c6 : (a1.size : Int) ≤ (a0.size : Int)
      · rw [if_pos c6] at H
        have c6b0 := eq_true c6
        have c6b1 : decide ((a1.size : Int) ≤ (a0.size : Int)) = true := decide_eq_true c6
        clear c6
        obtain rfl := Option.some.inj H
        go_enter Tryz.func194, Tryz.ntmps194
        go_wp2_with (first | ((with_reducible refine gate_callee (f := 213) rfl ?_); refine goesL_ (some 7) rfl rfl Tryz.func213 (by kernel_rfl) rfl #[.string a0, .string a1] rfl Ga_ ?_; (with_reducible refine (stringslite_HasPrefix.calls a0 a1 true _ A3.out).mono ?_); rintro e w' ⟨rfl, ⟨nd, rfl⟩⟩; refine ⟨_, rfl, ?_⟩))
        go_ret
        exact ⟨Rf_, Dw_⟩
      · rw [if_neg c6] at H
        exact absurd H (by simp)
    · rw [if_neg c5] at H
      exact absurd H (by simp)
  · replace c4 := Bool.eq_false_iff.mpr c4
    subst c4
    have H1 : (some a0) = some r := by rw [if_neg (show ¬ (false = true) by decide)] at H; exact H
    clear H
    have H := H1
    clear H1
    obtain rfl := Option.some.inj H
    go_enter Tryz.func194, Tryz.ntmps194
    go_wp2_with (first | ((with_reducible refine gate_callee (f := 213) rfl ?_); refine goesL_ (some 7) rfl rfl Tryz.func213 (by kernel_rfl) rfl #[.string a0, .string a1] rfl Ga_ ?_; (with_reducible refine (stringslite_HasPrefix.calls a0 a1 false _ A3.out).mono ?_); rintro e w' ⟨rfl, ⟨nd, rfl⟩⟩; refine ⟨_, rfl, ?_⟩))
    go_ret
    exact ⟨Rf_, Dw_⟩
/-! ### strings_TrimPrefix: function 164 -/
def strings_TrimPrefix.f (a0 : ByteArray) (a1 : ByteArray) : Option (ByteArray) := (stringslite_TrimPrefix.f a0 a1).bind fun t101 => (some t101)
set_option maxHeartbeats 8000000 in
set_option maxRecDepth 100000 in
theorem strings_TrimPrefix.calls (a0 : ByteArray) (a1 : ByteArray) (r : ByteArray) (w : World) (h : strings_TrimPrefix.f a0 a1 = some r) :
    Calls Tryz.prog 164 #[.string a0, .string a1] w fun e w' => e = .returned (.string r) ∧ Drawn0 w w' := by
  have H : ((stringslite_TrimPrefix.f a0 a1).bind fun t101 => (some t101)) = some r := h
  clear h
  obtain ⟨t101, A3, H⟩ := bnd_ H
  try dsimp -simprocs only at H
  obtain rfl := Option.some.inj H
  go_enter Tryz.func164, Tryz.ntmps164
  go_wp2_with (first | ((with_reducible refine gate_callee (f := 194) rfl ?_); refine goesL_ (some 7) rfl rfl Tryz.func194 (by kernel_rfl) rfl #[.string a0, .string a1] rfl Ga_ ?_; (with_reducible refine (stringslite_TrimPrefix.calls a0 a1 t101 _ A3.out).mono ?_); rintro e w' ⟨rfl, ⟨nd, rfl⟩⟩; refine ⟨_, rfl, ?_⟩))
  go_ret
  exact ⟨Rf_, Dw_⟩
/-! ### num_May_1: function 166 -/
def num_May_1.f (a0 : Int) : Option (Bool) := if a0 < 48 then (some true) else (some (decide (a0 > 57)))
set_option maxHeartbeats 8000000 in
set_option maxRecDepth 100000 in
theorem num_May_1.calls (a0 : Int) (r : Bool) (w : World) (h : num_May_1.f a0 = some r) :
    Calls Tryz.prog 166 #[.int .i32 a0] w fun e w' => e = .returned (.bool r) ∧ Drawn0 w w' := by
  have H : (if a0 < 48 then (some true) else (some (decide (a0 > 57)))) = some r := h
  clear h
  by_cases c2 : a0 < 48
  · rw [if_pos c2] at H
    have c2b0 : decide (a0 < 48) = true := decide_eq_true c2
    clear c2
    obtain rfl := Option.some.inj H
    go_enter Tryz.func166, Tryz.ntmps166
    go_wp2
    go_ret
    exact ⟨Rf_, Dw_⟩
  · rw [if_neg c2] at H
    have c2b0 : decide (a0 < 48) = false := decide_eq_false c2
    clear c2
    obtain rfl := Option.some.inj H
    go_enter Tryz.func166, Tryz.ntmps166
    go_wp2
    go_ret
    exact ⟨Rf_, Dw_⟩
/-! ### strings_ContainsFunc_digits: function 1005165 -/
def strings_ContainsFunc_digits.f (a0 : ByteArray) (_ : Value) : Option Bool := some (a0.data.toList.any noFig)
set_option maxHeartbeats 400000 in
theorem strings_ContainsFunc_digits.calls (a0 : ByteArray) (a1 : Value) (r : Bool) (w : World) (h : strings_ContainsFunc_digits.f a0 a1 = some r) :
    Calls Tryz.prog 165 #[.string a0, .func (.func 166) #[] #[]] w fun e w' => e = .returned (.bool r) ∧ Below w.heap.size w w' := by
  obtain rfl := Option.some.inj h
  refine (Tryz.strings_ContainsFunc 166 #[] (enters_of Tryz.func166 (by kernel_rfl) rfl) figP a0 w (predAt_of fun x W => ?_)).mono ?_
  · refine num_May_1.calls (x : Int) _ W ?_
    unfold num_May_1.f figP
    by_cases h1 : x < 48
    · rw [if_pos (by omega)]; simp [h1]
    · rw [if_neg (by omega)]; simp [h1]; omega
  · rintro e w' ⟨rfl, hb⟩
    exact ⟨by rw [idx_fig], hb⟩
/-! ### num_May: function 120 -/
def num_May.f (a0 : ByteArray) : Option (Bool) := (strings_TrimPrefix.f a0 (⟨#[45]⟩ : ByteArray)).bind fun t101 => (if (t101.size : Int) < 1 then (some false) else (if (t101.size : Int) > 100 then (some false) else (if 0 < (t101.size : Int) then (if (bt t101 0) = 48 then (if a0.toList = ([48] : List UInt8) then ((strings_ContainsFunc_digits.f t101 (.func (.func 166) #[] #[] : Value)).bind fun t102 => (some (!t102))) else (some false)) else ((strings_ContainsFunc_digits.f t101 (.func (.func 166) #[] #[] : Value)).bind fun t103 => (some (!t103)))) else (none))))
set_option maxHeartbeats 8000000 in
set_option maxRecDepth 100000 in
theorem num_May.calls (a0 : ByteArray) (r : Bool) (w : World) (h : num_May.f a0 = some r) :
    Calls Tryz.prog 120 #[.string a0] w fun e w' => e = .returned (.bool r) ∧ Below w.heap.size w w' := by
  have HB := Aside0.mk (Below.refl w.heap.size w)
  have H : ((strings_TrimPrefix.f a0 (⟨#[45]⟩ : ByteArray)).bind fun t101 => (if (t101.size : Int) < 1 then (some false) else (if (t101.size : Int) > 100 then (some false) else (if 0 < (t101.size : Int) then (if (bt t101 0) = 48 then (if a0.toList = ([48] : List UInt8) then ((strings_ContainsFunc_digits.f t101 (.func (.func 166) #[] #[] : Value)).bind fun t102 => (some (!t102))) else (some false)) else ((strings_ContainsFunc_digits.f t101 (.func (.func 166) #[] #[] : Value)).bind fun t103 => (some (!t103)))) else (none))))) = some r := h
  clear h
  obtain ⟨t101, A2, H⟩ := bnd_ H
  try dsimp -simprocs only at H
  by_cases c3 : (t101.size : Int) < 1
  · rw [if_pos c3] at H
    have c3b0 : decide ((t101.size : Int) < 1) = true := decide_eq_true c3
    have c3b1 : decide (t101.size < 1) = true := decide_eq_true (by omega)
    clear c3
    obtain rfl := Option.some.inj H
    go_enter Tryz.func120, Tryz.ntmps120
    go_wp2_with (first | ((with_reducible refine gate_callee (f := 164) rfl ?_); refine goesL_ (some 5) rfl rfl Tryz.func164 (by kernel_rfl) rfl #[.string a0, .string (⟨#[45]⟩ : ByteArray)] rfl Ga_ ?_; (with_reducible refine (strings_TrimPrefix.calls a0 (⟨#[45]⟩ : ByteArray) t101 _ A2.out).mono ?_); rintro e w' ⟨rfl, ⟨nd, rfl⟩⟩; refine ⟨_, rfl, ?_⟩))
    go_ret
    exact ⟨Re_, Bl_⟩
  · rw [if_neg c3] at H
    have c3b0 : decide ((t101.size : Int) < 1) = false := decide_eq_false c3
    have c3b1 : decide (t101.size < 1) = false := decide_eq_false (by omega)
    clear c3
    by_cases c4 : (t101.size : Int) > 100
    · rw [if_pos c4] at H
      have c4b0 : decide (100 < (t101.size : Int)) = true := decide_eq_true c4
      have c4b1 : decide (100 < t101.size) = true := decide_eq_true (by omega)
      clear c4
      obtain rfl := Option.some.inj H
      go_enter Tryz.func120, Tryz.ntmps120
      go_wp2_with (first | ((with_reducible refine gate_callee (f := 164) rfl ?_); refine goesL_ (some 5) rfl rfl Tryz.func164 (by kernel_rfl) rfl #[.string a0, .string (⟨#[45]⟩ : ByteArray)] rfl Ga_ ?_; (with_reducible refine (strings_TrimPrefix.calls a0 (⟨#[45]⟩ : ByteArray) t101 _ A2.out).mono ?_); rintro e w' ⟨rfl, ⟨nd, rfl⟩⟩; refine ⟨_, rfl, ?_⟩))
      go_ret
      exact ⟨Re_, Bl_⟩
    · rw [if_neg c4] at H
      have c4b0 : decide (100 < (t101.size : Int)) = false := decide_eq_false c4
      have c4b1 : decide (100 < t101.size) = false := decide_eq_false (by omega)
      clear c4
      by_cases c5 : 0 < (t101.size : Int)
      · rw [if_pos c5] at H
        have c5b0 : decide (0 < (t101.size : Int)) = true := decide_eq_true c5
        have c5b1 : decide (0 < t101.size) = true := decide_eq_true (by omega)
        clear c5
        by_cases c7 : (bt t101 0) = 48
        · rw [if_pos c7] at H
          have c7b0 : ((bt t101 0) == 48) = true := beq_iff_eq.mpr c7
          have c7b1 : ((bt t101 0) != 48) = false := bne_eq_false_iff_eq.mpr c7
          clear c7
          by_cases c8 : a0.toList = ([48] : List UInt8)
          · rw [if_pos c8] at H
            have c8b0 : (a0.toList == ([48] : List UInt8)) = true := beq_iff_eq.mpr c8
            have c8b1 : (a0.toList != ([48] : List UInt8)) = false := bne_eq_false_iff_eq.mpr c8
            clear c8
            obtain ⟨t102, A9, H⟩ := bnd_ H
            try dsimp -simprocs only at H
            obtain rfl := Option.some.inj H
            go_enter Tryz.func120, Tryz.ntmps120
            go_wp2_with (first | ((with_reducible refine gate_callee (f := 164) rfl ?_); refine goesL_ (some 5) rfl rfl Tryz.func164 (by kernel_rfl) rfl #[.string a0, .string (⟨#[45]⟩ : ByteArray)] rfl Ga_ ?_; (with_reducible refine (strings_TrimPrefix.calls a0 (⟨#[45]⟩ : ByteArray) t101 _ A2.out).mono ?_); rintro e w' ⟨rfl, ⟨nd, rfl⟩⟩; refine ⟨_, rfl, ?_⟩; have p6 : 0 ≤ (0 : Int) := (by omega); have q6 : 0 < t101.size := (by have : (0 : Int) < (t101.size : Int) := of_decide_eq_true As_; omega); have hx6 : ∀ h : 0 < t101.size, ((t101[0]'h).toNat : Int) = bt t101 0 := bt_at t101 0; clear p6; have qi6 : (0 < (t101.size : Int)) = True := eq_true (of_decide_eq_true As_); replace q6 := eq_true q6) | ((with_reducible refine gate_callee (f := 165) rfl ?_); refine goesL_ (some 24) rfl rfl Tryz.func165 (by kernel_rfl) rfl #[.string t101, (.func (.func 166) #[] #[] : Value)] rfl Ga_ ?_; (with_reducible refine (strings_ContainsFunc_digits.calls t101 (.func (.func 166) #[] #[] : Value) t102 _ A9.out).mono ?_); rintro e w10 ⟨rfl, hb⟩; refine ⟨_, rfl, ?_⟩; replace HB := Bs_ hb; (try clear hb); (try clear hb2); (try clear hk); (try clear hi)))
            go_ret
            exact ⟨Re_, Bl_⟩
          · rw [if_neg c8] at H
            have c8b0 : (a0.toList == ([48] : List UInt8)) = false := beq_eq_false_iff_ne.mpr c8
            have c8b1 : (a0.toList != ([48] : List UInt8)) = true := bne_iff_ne.mpr c8
            obtain rfl := Option.some.inj H
            go_enter Tryz.func120, Tryz.ntmps120
            go_wp2_with (first | ((with_reducible refine gate_callee (f := 164) rfl ?_); refine goesL_ (some 5) rfl rfl Tryz.func164 (by kernel_rfl) rfl #[.string a0, .string (⟨#[45]⟩ : ByteArray)] rfl Ga_ ?_; (with_reducible refine (strings_TrimPrefix.calls a0 (⟨#[45]⟩ : ByteArray) t101 _ A2.out).mono ?_); rintro e w' ⟨rfl, ⟨nd, rfl⟩⟩; refine ⟨_, rfl, ?_⟩; have p6 : 0 ≤ (0 : Int) := (by omega); have q6 : 0 < t101.size := (by have : (0 : Int) < (t101.size : Int) := of_decide_eq_true As_; omega); have hx6 : ∀ h : 0 < t101.size, ((t101[0]'h).toNat : Int) = bt t101 0 := bt_at t101 0; clear p6; have qi6 : (0 < (t101.size : Int)) = True := eq_true (of_decide_eq_true As_); replace q6 := eq_true q6))
            go_ret
            exact ⟨Re_, Bl_⟩
        · rw [if_neg c7] at H
          have c7b0 : ((bt t101 0) == 48) = false := beq_eq_false_iff_ne.mpr c7
          have c7b1 : ((bt t101 0) != 48) = true := bne_iff_ne.mpr c7
          obtain ⟨t103, A11, H⟩ := bnd_ H
          try dsimp -simprocs only at H
          obtain rfl := Option.some.inj H
          go_enter Tryz.func120, Tryz.ntmps120
          go_wp2_with (first | ((with_reducible refine gate_callee (f := 164) rfl ?_); refine goesL_ (some 5) rfl rfl Tryz.func164 (by kernel_rfl) rfl #[.string a0, .string (⟨#[45]⟩ : ByteArray)] rfl Ga_ ?_; (with_reducible refine (strings_TrimPrefix.calls a0 (⟨#[45]⟩ : ByteArray) t101 _ A2.out).mono ?_); rintro e w' ⟨rfl, ⟨nd, rfl⟩⟩; refine ⟨_, rfl, ?_⟩; have p6 : 0 ≤ (0 : Int) := (by omega); have q6 : 0 < t101.size := (by have : (0 : Int) < (t101.size : Int) := of_decide_eq_true As_; omega); have hx6 : ∀ h : 0 < t101.size, ((t101[0]'h).toNat : Int) = bt t101 0 := bt_at t101 0; clear p6; have qi6 : (0 < (t101.size : Int)) = True := eq_true (of_decide_eq_true As_); replace q6 := eq_true q6) | ((with_reducible refine gate_callee (f := 165) rfl ?_); refine goesL_ (some 24) rfl rfl Tryz.func165 (by kernel_rfl) rfl #[.string t101, (.func (.func 166) #[] #[] : Value)] rfl Ga_ ?_; (with_reducible refine (strings_ContainsFunc_digits.calls t101 (.func (.func 166) #[] #[] : Value) t103 _ A11.out).mono ?_); rintro e w12 ⟨rfl, hb⟩; refine ⟨_, rfl, ?_⟩; replace HB := Bs_ hb; (try clear hb); (try clear hb2); (try clear hk); (try clear hi)))
          go_ret
          exact ⟨Re_, Bl_⟩
      · rw [if_neg c5] at H
        exact absurd H (by simp)
/-! ### val_May_1: function 119 -/
def val_May_1.f (a0 : ByteArray) : Option (Bool) := (num_May.f a0).bind fun t101 => (some (!t101))
set_option maxHeartbeats 8000000 in
set_option maxRecDepth 100000 in
theorem val_May_1.calls (a0 : ByteArray) (r : Bool) (w : World) (h : val_May_1.f a0 = some r) :
    Calls Tryz.prog 119 #[.string a0] w fun e w' => e = .returned (.bool r) ∧ Below w.heap.size w w' := by
  have HB := Aside0.mk (Below.refl w.heap.size w)
  have H : ((num_May.f a0).bind fun t101 => (some (!t101))) = some r := h
  clear h
  obtain ⟨t101, A2, H⟩ := bnd_ H
  try dsimp -simprocs only at H
  obtain rfl := Option.some.inj H
  go_enter Tryz.func119, Tryz.ntmps119
  go_wp2_with (first | ((with_reducible refine gate_callee (f := 120) rfl ?_); refine goesL_ (some 4) rfl rfl Tryz.func120 (by kernel_rfl) rfl #[.string a0] rfl Ga_ ?_; (with_reducible refine (num_May.calls a0 t101 _ A2.out).mono ?_); rintro e w3 ⟨rfl, hb⟩; refine ⟨_, rfl, ?_⟩; replace HB := Bs_ hb; (try clear hb); (try clear hb2); (try clear hk); (try clear hi)))
  go_ret
  exact ⟨Re_, Bl_⟩
/-! ### slices_IndexFunc_string_string_at_val_May_1: function 1007163 -/
def slices_IndexFunc_string_string_at_val_May_1.l0 : Nat → List ByteArray → Int → Int → Option (Int)
  | 0, _, _, _ => none
  | k + 1, x0, x7, x8 => if x8 < x7 then (if 0 ≤ x8 then (if x8 < (x0.length : Int) then ((val_May_1.f (rdOf ByteArray.empty x0 x8)).bind fun t102 => (if t102 = true then (some x8) else (slices_IndexFunc_string_string_at_val_May_1.l0 k x0 x7 (wrap64 (x8 + 1))))) else (none)) else (none)) else (some (-1))
def slices_IndexFunc_string_string_at_val_May_1.f (k : Nat) (l0 : List ByteArray) (a1 : Value) : Option (Int) := slices_IndexFunc_string_string_at_val_May_1.l0 k l0 (l0.length : Int) 0
set_option maxHeartbeats 8000000 in
set_option maxRecDepth 100000 in
theorem slices_IndexFunc_string_string_at_val_May_1.calls (k : Nat) (A0 : Option Addr) (c0 : Nat) (l0 : List ByteArray) (a1 : Value) (r : Int) (w : World) (hr0 : Kd.C Kd.string w A0 l0.length l0) (hc0 : l0.length ≤ c0) (h : slices_IndexFunc_string_string_at_val_May_1.f k l0 a1 = some r) :
    Calls Tryz.prog 163 #[.slice A0 l0.length c0, (.func (.func 119) #[] #[])] w fun e w' => e = .returned (.int .i64 r) ∧ Below w.heap.size w w' := by
  have HR0 := Aside0.mk hr0
  have HC0 := Aside0.mk hc0
  clear hr0 hc0
  have HB := Aside0.mk (Below.refl w.heap.size w)
  have H : (slices_IndexFunc_string_string_at_val_May_1.l0 k l0 (l0.length : Int) 0) = some r := h
  clear h
  have H' := Aside0.mk H
  clear H
  go_enter Tryz.func163, Tryz.ntmps163
  go_wp2
  go_loopg [8] k (fun kq v8 w' => ∃ (x8_1 : Int), v8 = .int .i64 x8_1 ∧ Aside0 (slices_IndexFunc_string_string_at_val_May_1.l0 kq l0 (l0.length : Int) x8_1 = some r) ∧ Aside0 (kq ≤ k) ∧ Aside0 (Below w.heap.size w w'))
  case atStart => exact ⟨(0), Rf_, H', ⟨Nat.le_refl _⟩, ⟨Bl_⟩⟩
  case round =>
    clear H'
    try clear c1
    try clear p2
    obtain ⟨x8_1, rfl, HA, HK1, HB⟩ := hrel
    cases gk with
    | zero => exact absurd HA.out (by simp [slices_IndexFunc_string_string_at_val_May_1.l0])
    | succ k1 =>
      have H := HA.out
      clear HA
      simp only [slices_IndexFunc_string_string_at_val_May_1.l0] at H
      by_cases c3 : x8_1 < (l0.length : Int)
      · rw [if_pos c3] at H
        have c3b0 : decide (x8_1 < (l0.length : Int)) = true := decide_eq_true c3
        clear c3
        by_cases c4 : 0 ≤ x8_1
        · rw [if_pos c4] at H
          have c4b0 : decide (0 ≤ x8_1) = true := decide_eq_true c4
          clear c4
          by_cases c5 : x8_1 < (l0.length : Int)
          · rw [if_pos c5] at H
            have c5b0 : decide (x8_1 < (l0.length : Int)) = true := decide_eq_true c5
            clear c5
            obtain ⟨t102, A6, H⟩ := bnd_ H
            try dsimp -simprocs only at H
            by_cases c7 : t102 = true
            · subst c7
              have H1 : (some x8_1) = some r := by rw [if_pos rfl] at H; exact H
              clear H
              have H := H1
              clear H1
              obtain rfl := Option.some.inj H
              have p101 : 0 ≤ (x8_1 : Int) := of_decide_eq_true As_
              have q101 : x8_1 < (l0.length : Int) := of_decide_eq_true As_
              obtain ⟨ad101, e101, hx101_0⟩ := Kd.at_string HR0.out x8_1 p101 q101
              cases e101
              replace hx101_0 := (HB.out.cell (World.block_lt_of_cell? w _ hx101_0)).trans hx101_0
              replace p101 := eq_true p101
              replace q101 := eq_true q101
              go_wp2_with (first | (go_at_call 119; (with_reducible refine (val_May_1.calls (rdOf ByteArray.empty l0 x8_1) true _ A6.out).mono ?_); rintro e w8 ⟨rfl, hb⟩; replace HB := Bs_ hb; (try clear hb); (try clear hb2); (try clear hk); (try clear hi)))
              go_ret
              exact ⟨Re_, Bl_⟩
            · replace c7 := Bool.eq_false_iff.mpr c7
              subst c7
              have H1 : (slices_IndexFunc_string_string_at_val_May_1.l0 k1 l0 (l0.length : Int) (wrap64 (x8_1 + 1))) = some r := by rw [if_neg (show ¬ (false = true) by decide)] at H; exact H
              clear H
              have H := H1
              clear H1
              have H' := Aside0.mk H
              clear H
              have p101 : 0 ≤ (x8_1 : Int) := of_decide_eq_true As_
              have q101 : x8_1 < (l0.length : Int) := of_decide_eq_true As_
              obtain ⟨ad101, e101, hx101_0⟩ := Kd.at_string HR0.out x8_1 p101 q101
              cases e101
              replace hx101_0 := (HB.out.cell (World.block_lt_of_cell? w _ hx101_0)).trans hx101_0
              replace p101 := eq_true p101
              replace q101 := eq_true q101
              go_wp2_with (first | (go_at_call 119; (with_reducible refine (val_May_1.calls (rdOf ByteArray.empty l0 x8_1) false _ A6.out).mono ?_); rintro e w9 ⟨rfl, hb⟩; replace HB := Bs_ hb; (try clear hb); (try clear hb2); (try clear hk); (try clear hi)))
              go_roundg k1
              case measure => have := HK1.out; omega
              case rel => exact ⟨(wrap64 (x8_1 + 1)), Rf_, H', ⟨by have := HK1.out; omega⟩, ⟨Bl_⟩⟩
          · rw [if_neg c5] at H
            exact absurd H (by simp)
        · rw [if_neg c4] at H
          exact absurd H (by simp)
      · rw [if_neg c3] at H
        have c3b0 : decide (x8_1 < (l0.length : Int)) = false := decide_eq_false c3
        clear c3
        obtain rfl := Option.some.inj H
        go_wp2
        go_ret
        exact ⟨Re_, Bl_⟩
/-! ### slices_ContainsFunc_string_string_at_val_May_1: function 1006118 -/
def slices_ContainsFunc_string_string_at_val_May_1.f (k : Nat) (l0 : List ByteArray) (a1 : Value) : Option (Bool) := (slices_IndexFunc_string_string_at_val_May_1.f k l0 (.func (.func 119) #[] #[] : Value)).bind fun t101 => (some (decide (t101 ≥ 0)))
set_option maxHeartbeats 8000000 in
set_option maxRecDepth 100000 in
theorem slices_ContainsFunc_string_string_at_val_May_1.calls (k : Nat) (A0 : Option Addr) (c0 : Nat) (l0 : List ByteArray) (a1 : Value) (r : Bool) (w : World) (hr0 : Kd.C Kd.string w A0 l0.length l0) (hc0 : l0.length ≤ c0) (h : slices_ContainsFunc_string_string_at_val_May_1.f k l0 a1 = some r) :
    Calls Tryz.prog 118 #[.slice A0 l0.length c0, (.func (.func 119) #[] #[])] w fun e w' => e = .returned (.bool r) ∧ Below w.heap.size w w' := by
  have HR0 := Aside0.mk hr0
  have HC0 := Aside0.mk hc0
  clear hr0 hc0
  have HB := Aside0.mk (Below.refl w.heap.size w)
  have H : ((slices_IndexFunc_string_string_at_val_May_1.f k l0 (.func (.func 119) #[] #[] : Value)).bind fun t101 => (some (decide (t101 ≥ 0)))) = some r := h
  clear h
  obtain ⟨t101, A3, H⟩ := bnd_ H
  try dsimp -simprocs only at H
  obtain rfl := Option.some.inj H
  go_enter Tryz.func118, Tryz.ntmps118
  go_wp2_with (first | ((with_reducible refine gate_callee (f := 163) rfl ?_); refine goesL_ (some 7) rfl rfl Tryz.func163 (by kernel_rfl) rfl #[.slice A0 l0.length c0, (.func (.func 119) #[] #[] : Value)] rfl Ga_ ?_; (with_reducible refine (slices_IndexFunc_string_string_at_val_May_1.calls k _ _ l0 (.func (.func 119) #[] #[] : Value) t101 _ ?side1 ?side2 A3.out).mono ?_); (case side1 => repeat (first | exact HR0.out | (with_reducible refine Kd.C_alloc ?_ _) | (with_reducible refine Kd.C_drewN ?_ _) | (with_reducible refine Kd.C_drew ?_))); (case side2 => exact HC0.out); rintro e w4 ⟨rfl, hb⟩; refine ⟨_, rfl, ?_⟩; replace HB := Bs_ hb; (try clear hb); (try clear hb2); (try clear hk); (try clear hi)))
  go_ret
  exact ⟨Re_, Bl_⟩
/-! ### val_May: function 60 -/
def val_May.f (k : Nat) (l0_0 : List Int) (l0_1 : List ByteArray) : Option (Bool) := (shape_Size.f k l0_0).bind fun bt105 => (if bt105.2 = 0 then (if (l0_1.length : Int) = bt105.1 then ((slices_ContainsFunc_string_string_at_val_May_1.f k l0_1 (.func (.func 119) #[] #[] : Value)).bind fun t107 => (some (!t107))) else (some false)) else (some false))
set_option maxHeartbeats 8000000 in
set_option maxRecDepth 100000 in
theorem val_May.calls (k : Nat) (A0_0 : Option Addr) (c0_0 : Nat) (l0_0 : List Int) (A0_1 : Option Addr) (c0_1 : Nat) (l0_1 : List ByteArray) (r : Bool) (w : World) (hr0_0 : Kd.C (Kd.int .i64) w A0_0 l0_0.length l0_0) (hc0_0 : l0_0.length ≤ c0_0) (hr0_1 : Kd.C Kd.string w A0_1 l0_1.length l0_1) (hc0_1 : l0_1.length ≤ c0_1) (h : val_May.f k l0_0 l0_1 = some r) :
    Calls Tryz.prog 60 #[.agg #[.slice A0_0 l0_0.length c0_0, .slice A0_1 l0_1.length c0_1]] w fun e w' => e = .returned (.bool r) ∧ Below w.heap.size w w' := by
  have hu34 := Tryz.underlying34
  have HR0_0 := Aside0.mk hr0_0
  have HC0_0 := Aside0.mk hc0_0
  clear hr0_0 hc0_0
  have HR0_1 := Aside0.mk hr0_1
  have HC0_1 := Aside0.mk hc0_1
  clear hr0_1 hc0_1
  have HB := Aside0.mk (Below.refl w.heap.size w)
  have H : ((shape_Size.f k l0_0).bind fun bt105 => (if bt105.2 = 0 then (if (l0_1.length : Int) = bt105.1 then ((slices_ContainsFunc_string_string_at_val_May_1.f k l0_1 (.func (.func 119) #[] #[] : Value)).bind fun t107 => (some (!t107))) else (some false)) else (some false))) = some r := h
  clear h
  obtain ⟨⟨t105, t106⟩, A2, H⟩ := bnd_ H
  try dsimp -simprocs only at H
  by_cases c3 : t106 = 0
  · rw [if_pos c3] at H
    have c3b0 : (t106 == 0) = true := beq_iff_eq.mpr c3
    have c3b1 : (t106 != 0) = false := bne_eq_false_iff_eq.mpr c3
    clear c3
    by_cases c4 : (l0_1.length : Int) = t105
    · rw [if_pos c4] at H
      have c4b0 : ((l0_1.length : Int) == t105) = true := beq_iff_eq.mpr c4
      have c4b1 : ((l0_1.length : Int) != t105) = false := bne_eq_false_iff_eq.mpr c4
      clear c4
      obtain ⟨t107, A5, H⟩ := bnd_ H
      try dsimp -simprocs only at H
      obtain rfl := Option.some.inj H
      go_enter Tryz.func60, Tryz.ntmps60
      go_wp2_with (first | ((with_reducible refine gate_dst (N := 1) rfl ?_); (try (refine gate_guard (by rfl) ?_; dsimp only)); refine bx_ 1 #[.slice A0_0 l0_0.length c0_0, .slice A0_1 l0_1.length c0_1] 34 ?_; intro gb104 hg w6 hbox hb; have BK104 := Aside0.mk (hbox); have GW104 := (Bg_ hg : Aside0 (w.heap.size ≤ gb104)); have GE104 := (Bg_ hg : Aside0 (w.heap.size ≤ gb104)); replace HB := Bs_ hb; clear hb hbox hg; obtain ⟨hcz7_0, hcz7_1⟩ := c2_ BK104; obtain ⟨hfz7_0, hfz7_1⟩ := f2_ BK104) | ((with_reducible refine gate_callee (f := 78) rfl ?_); refine goesL_ (some 8) rfl rfl Tryz.func78 (by kernel_rfl) rfl #[.slice A0_0 l0_0.length c0_0] rfl Ga_ ?_; (with_reducible refine (shape_Size.calls k _ _ l0_0 t105 t106 _ ?side1 ?side2 A2.out).mono ?_); (case side1 => exact Pc_ (Kd.C_below HR0_0.out HB.out)); (case side2 => exact HC0_0.out); rintro e w8 ⟨rfl, hb⟩; refine ⟨_, rfl, ?_⟩; replace BK104 := kb_ BK104 hb; replace HB := Bs_ hb; (try clear hb); (try clear hb2); (try clear hk); (try clear hi); obtain ⟨hcz9_0, hcz9_1⟩ := c2_ BK104; obtain ⟨hfz9_0, hfz9_1⟩ := f2_ BK104) | (go_at_call 118; (with_reducible refine (slices_ContainsFunc_string_string_at_val_May_1.calls k _ _ l0_1 (.func (.func 119) #[] #[] : Value) t107 _ ?side1 ?side2 A5.out).mono ?_); (case side1 => exact Pc_ (Kd.C_below HR0_1.out HB.out)); (case side2 => exact HC0_1.out); rintro e w10 ⟨rfl, hb⟩; replace BK104 := kb_ BK104 hb; replace HB := Bs_ hb; (try clear hb); (try clear hb2); (try clear hk); (try clear hi)))
      go_ret
      exact ⟨Re_, Bl_⟩
    · rw [if_neg c4] at H
      have c4b0 : ((l0_1.length : Int) == t105) = false := beq_eq_false_iff_ne.mpr c4
      have c4b1 : ((l0_1.length : Int) != t105) = true := bne_iff_ne.mpr c4
      obtain rfl := Option.some.inj H
      go_enter Tryz.func60, Tryz.ntmps60
      go_wp2_with (first | ((with_reducible refine gate_dst (N := 1) rfl ?_); (try (refine gate_guard (by rfl) ?_; dsimp only)); refine bx_ 1 #[.slice A0_0 l0_0.length c0_0, .slice A0_1 l0_1.length c0_1] 34 ?_; intro gb104 hg w11 hbox hb; have BK104 := Aside0.mk (hbox); have GW104 := (Bg_ hg : Aside0 (w.heap.size ≤ gb104)); have GE104 := (Bg_ hg : Aside0 (w.heap.size ≤ gb104)); replace HB := Bs_ hb; clear hb hbox hg; obtain ⟨hcz12_0, hcz12_1⟩ := c2_ BK104; obtain ⟨hfz12_0, hfz12_1⟩ := f2_ BK104) | ((with_reducible refine gate_callee (f := 78) rfl ?_); refine goesL_ (some 8) rfl rfl Tryz.func78 (by kernel_rfl) rfl #[.slice A0_0 l0_0.length c0_0] rfl Ga_ ?_; (with_reducible refine (shape_Size.calls k _ _ l0_0 t105 t106 _ ?side1 ?side2 A2.out).mono ?_); (case side1 => exact Pc_ (Kd.C_below HR0_0.out HB.out)); (case side2 => exact HC0_0.out); rintro e w13 ⟨rfl, hb⟩; refine ⟨_, rfl, ?_⟩; replace BK104 := kb_ BK104 hb; replace HB := Bs_ hb; (try clear hb); (try clear hb2); (try clear hk); (try clear hi); obtain ⟨hcz14_0, hcz14_1⟩ := c2_ BK104; obtain ⟨hfz14_0, hfz14_1⟩ := f2_ BK104))
      go_ret
      exact ⟨Re_, Bl_⟩
  · rw [if_neg c3] at H
    have c3b0 : (t106 == 0) = false := beq_eq_false_iff_ne.mpr c3
    have c3b1 : (t106 != 0) = true := bne_iff_ne.mpr c3
    obtain rfl := Option.some.inj H
    go_enter Tryz.func60, Tryz.ntmps60
    go_wp2_with (first | ((with_reducible refine gate_dst (N := 1) rfl ?_); (try (refine gate_guard (by rfl) ?_; dsimp only)); refine bx_ 1 #[.slice A0_0 l0_0.length c0_0, .slice A0_1 l0_1.length c0_1] 34 ?_; intro gb104 hg w15 hbox hb; have BK104 := Aside0.mk (hbox); have GW104 := (Bg_ hg : Aside0 (w.heap.size ≤ gb104)); have GE104 := (Bg_ hg : Aside0 (w.heap.size ≤ gb104)); replace HB := Bs_ hb; clear hb hbox hg; obtain ⟨hcz16_0, hcz16_1⟩ := c2_ BK104; obtain ⟨hfz16_0, hfz16_1⟩ := f2_ BK104) | ((with_reducible refine gate_callee (f := 78) rfl ?_); refine goesL_ (some 8) rfl rfl Tryz.func78 (by kernel_rfl) rfl #[.slice A0_0 l0_0.length c0_0] rfl Ga_ ?_; (with_reducible refine (shape_Size.calls k _ _ l0_0 t105 t106 _ ?side1 ?side2 A2.out).mono ?_); (case side1 => exact Pc_ (Kd.C_below HR0_0.out HB.out)); (case side2 => exact HC0_0.out); rintro e w17 ⟨rfl, hb⟩; refine ⟨_, rfl, ?_⟩; replace BK104 := kb_ BK104 hb; replace HB := Bs_ hb; (try clear hb); (try clear hb2); (try clear hk); (try clear hi)))
    go_ret
    exact ⟨Re_, Bl_⟩
/-! ### slices_Clone_int_int: function 66 -/
def slices_Clone_int_int.f (l0 : List Int) : Option (List Int) := if l0.length ≤ 17592186044416 then some l0 else none
set_option maxHeartbeats 400000 in
theorem slices_Clone_int_int.calls (A0 : Option Addr) (c0 : Nat) (l0 : List Int) (r : List Int) (w : World) (hr0 : Kd.C (Kd.int .i64) w A0 l0.length l0) (hc0 : l0.length ≤ c0) (h : slices_Clone_int_int.f l0 = some r) :
    Calls Tryz.prog 66 #[.slice A0 l0.length c0] w fun e w' => ∃ v0_ : Value, e = .returned (v0_) ∧ Kd.R (Kd.int .i64) 3 w' w.heap.size (fun _ => True) v0_ r ∧ Below w.heap.size w w' := by
  unfold slices_Clone_int_int.f at h
  split at h
  case isFalse => cases h
  rename_i hb
  obtain rfl := Option.some.inj h
  rcases row_cases (enc := Value.int .i64) (h1 := fun _ => rfl) hr0 with ⟨rfl, rfl⟩ | ⟨a, rfl, rfl⟩ | ⟨b, off, rfl, h0, hc⟩
  · refine (Tryz.slices_Clone_int_nil _ _ _).mono ?_
    rintro e w' ⟨rfl, rfl⟩
    exact ⟨_, rfl, Kd.R_nil _ _ _ _ _, Below.refl _ _⟩
  · refine (Tryz.slices_Clone_int_zero a c0 w).mono ?_
    rintro e w' ⟨v, rfl, ho, _, hb⟩
    exact ⟨_, rfl, Kd.R_of_own (enc := Value.int .i64) (xs := []) (by simpa [encs] using ho) (fun _ _ => trivial), hb⟩
  · refine (Tryz.slices_Clone_int b off l0.length c0 l0 w (Nat.le_refl _) (by omega) (fun j hj => hc j 0 hj)).mono ?_
    rintro e w' ⟨v, rfl, ho, _, hb⟩
    rw [List.take_length] at ho
    exact ⟨_, rfl, Kd.R_of_own (enc := Value.int .i64) ho (fun _ _ => trivial), hb⟩
/-! ### typed_put: function 132 -/
def typed_put.l0 : Nat → Int → List Int → Int → Int → Option (List Int)
  | 0, _, _, _, _ => none
  | k + 1, x0, x5, x11, x12 => if x12 < x11 then (if 0 ≤ (wrap64 (8 * x12)) then (if 0 ≤ (wrap64 ((wrap64 ((x5.length : Int) - 1)) - x12)) then (if (wrap64 ((wrap64 ((x5.length : Int) - 1)) - x12)) < (x5.length : Int) then (typed_put.l0 k x0 (x5.set ((wrap64 ((wrap64 ((x5.length : Int) - 1)) - x12)) : Int).toNat ((shr .i64 x0 (wrap64 (8 * x12))) % 256)) x11 (wrap64 (x12 + 1))) else (none)) else (none)) else (none)) else (some x5)
def typed_put.f (k : Nat) (a0 : Int) (a1 : Int) : Option (List Int) := if 0 ≤ (wrap64 (Int.tdiv a1 8)) then (if (wrap64 (Int.tdiv a1 8) : Int).toNat ≤ 281474976710656 then ((some (List.replicate (wrap64 (Int.tdiv a1 8) : Int).toNat 0 : List Int)).bind fun y101 => (typed_put.l0 k a0 y101 (y101.length : Int) 0)) else (none)) else (none)
set_option maxHeartbeats 8000000 in
set_option maxRecDepth 100000 in
theorem typed_put.calls (k : Nat) (a0 : Int) (a1 : Int) (r : List Int) (w : World) (h : typed_put.f k a0 a1 = some r) :
    Calls Tryz.prog 132 #[.int .i64 a0, .int .i64 a1] w fun e w' => ∃ v0_ : Value, e = .returned (v0_) ∧ Kd.R (Kd.int .u8) 5 w' w.heap.size (fun _ => True) v0_ r ∧ Below w.heap.size w w' := by
  have HB := Aside0.mk (Below.refl w.heap.size w)
  have H : (if 0 ≤ (wrap64 (Int.tdiv a1 8)) then (if (wrap64 (Int.tdiv a1 8) : Int).toNat ≤ 281474976710656 then ((some (List.replicate (wrap64 (Int.tdiv a1 8) : Int).toNat 0 : List Int)).bind fun y101 => (typed_put.l0 k a0 y101 (y101.length : Int) 0)) else (none)) else (none)) = some r := h
  clear h
  obtain ⟨ji3, hji3⟩ : ∃ j_ : Int, (wrap64 (Int.tdiv a1 8)) = j_ := ⟨_, rfl⟩
  replace H : (if 0 ≤ (ji3) then (if (ji3 : Int).toNat ≤ 281474976710656 then ((some (List.replicate (ji3 : Int).toNat 0 : List Int)).bind fun y101 => (typed_put.l0 k a0 y101 (y101.length : Int) 0)) else (none)) else (none)) = some r := by first | (rw [hji3] at H; exact H) | (simp only [hji3] at H ⊢; exact H)
  have hji3w : (IntKind.i64.wrap (Int.tdiv a1 8)) = ji3 := (i64_w _).trans hji3
  by_cases c4 : 0 ≤ (ji3)
  · rw [if_pos c4] at H
    have c4b0 := eq_true c4
    have c4b1 : decide (0 ≤ (ji3)) = true := decide_eq_true c4
    clear c4
    by_cases c5 : (ji3 : Int).toNat ≤ 281474976710656
    · rw [if_pos c5] at H
      have c5b0 := eq_true c5
      have c5b1 : decide ((ji3 : Int).toNat ≤ 281474976710656) = true := decide_eq_true c5
      clear c5
      obtain ⟨y101, hy101⟩ : ∃ y_ : List Int, y_ = (List.replicate (ji3 : Int).toNat 0) := ⟨_, rfl⟩
      replace H : (typed_put.l0 k a0 y101 (y101.length : Int) 0) = some r := by first | (rw [hy101]; with_reducible exact H) | (have H2_ := (Option.bind_some _ _).symm.trans H; rw [hy101]; with_reducible exact H2_) | (have H2_ := (Option.bind_some _ _).symm.trans H; with_reducible exact H2_) | with_reducible exact H | (rw [hy101]; exact H) | exact H
      have Ny101 := Aside0.mk hy101
      clear hy101
      have H' := Aside0.mk H
      clear H
      go_enter Tryz.func132, Tryz.ntmps132
      go_wp2_with (first | ((with_reducible refine gate_dst (N := 9) rfl ?_); refine Kd.R_make (Kd.int .u8) _ 5 rfl (N := 9) rfl 55 _ _ rfl ji3 rfl rfl Tryz.underlying55 (.int .u8 0) 1 info5 rfl (by decide) (by omega) 0 (ok := fun _ => True) (okp := fun _ => True) rfl (fun _ hk => hk) trivial (of_decide_eq_true As_) (Nat.le_trans (Nat.mul_le_mul_right _ (of_decide_eq_true As_ : ji3.toNat ≤ 281474976710656)) (by omega)) (Below.refl _ _) (Nat.le_refl _) ?_; intro v102 w6 ho7 hb hg_ hnew_; clear hg_ hnew_; (first | rw [← Ny101.out] at ho7 | (simp only [Int.reduceToNat] at ho7; rw [← Ny101.out] at ho7)); have HO103 := Aside0.mk (Kd.R_lower ho7 Bz_); replace HB := Bs_ hb; clear hb ho7; obtain ⟨Ao8, co8, eo8⟩ := Kd.R_slice HO103.out; subst eo8))
      go_loopg [12] k (fun kq v12 w' => ∃ (x5_1 : List Int) (x12_1 : Int), v12 = .int .i64 x12_1 ∧ Aside0 (typed_put.l0 kq a0 x5_1 (y101.length : Int) x12_1 = some r) ∧ Aside0 (kq ≤ k) ∧ Aside0 (Kd.R (Kd.int .u8) 5 w' w.heap.size (fun _ => True) (.slice Ao8 y101.length co8) x5_1) ∧ Aside0 (Below w.heap.size w w'))
      case atStart => exact ⟨(y101), (0), Rf_, H', ⟨Nat.le_refl _⟩, ⟨by (with_reducible repeat (first | apply Kd.R_alloc | apply Kd.R_drewN | apply Kd.R_drew)); exact HO103.out⟩, ⟨Bl_⟩⟩
      case round =>
        clear H'
        try clear c1
        try clear p2
        try clear c4
        try clear c4b0
        try clear c4b1
        try clear c5
        try clear c5b0
        try clear c5b1
        try clear p6
        obtain ⟨x5_1, x12_1, rfl, HA, HK1, HO_5, HB⟩ := hrel
        have hl5_1 := (Kd.R_reads' HO_5.out).1
        rw [hl5_1] at HO_5
        (try simp only [hl5_1])
        cases gk with
        | zero => exact absurd HA.out (by simp [typed_put.l0])
        | succ k1 =>
          have H := HA.out
          clear HA
          simp only [typed_put.l0] at H
          by_cases c9 : x12_1 < (y101.length : Int)
          · rw [if_pos c9] at H
            have c9b0 : decide (x12_1 < (y101.length : Int)) = true := decide_eq_true c9
            (try simp only [hl5_1] at c9b0)
            clear c9
            obtain ⟨ji10, hji10⟩ : ∃ j_ : Int, (wrap64 (8 * x12_1)) = j_ := ⟨_, rfl⟩
            replace H : (if 0 ≤ (ji10) then (if 0 ≤ (wrap64 ((wrap64 ((x5_1.length : Int) - 1)) - x12_1)) then (if (wrap64 ((wrap64 ((x5_1.length : Int) - 1)) - x12_1)) < (x5_1.length : Int) then (typed_put.l0 k1 a0 (x5_1.set ((wrap64 ((wrap64 ((x5_1.length : Int) - 1)) - x12_1)) : Int).toNat ((shr .i64 a0 (ji10)) % 256)) (y101.length : Int) (wrap64 (x12_1 + 1))) else (none)) else (none)) else (none)) = some r := by first | (rw [hji10] at H; exact H) | (simp only [hji10] at H ⊢; exact H)
            have hji10w : (IntKind.i64.wrap (8 * x12_1)) = ji10 := (i64_w _).trans hji10
            by_cases c11 : 0 ≤ (ji10)
            · rw [if_pos c11] at H
              have c11b0 := eq_true c11
              have c11b1 : decide (0 ≤ (ji10)) = true := decide_eq_true c11
              clear c11
              obtain ⟨ji12, hji12⟩ : ∃ j_ : Int, (shr .i64 a0 (ji10)) = j_ := ⟨_, rfl⟩
              replace H : (if 0 ≤ (wrap64 ((wrap64 ((x5_1.length : Int) - 1)) - x12_1)) then (if (wrap64 ((wrap64 ((x5_1.length : Int) - 1)) - x12_1)) < (x5_1.length : Int) then (typed_put.l0 k1 a0 (x5_1.set ((wrap64 ((wrap64 ((x5_1.length : Int) - 1)) - x12_1)) : Int).toNat ((ji12) % 256)) (y101.length : Int) (wrap64 (x12_1 + 1))) else (none)) else (none)) = some r := by first | (rw [hji12] at H; exact H) | (simp only [hji12] at H ⊢; exact H)
              have hji12_ : (a0 / 2 ^ min (ji10).toNat 64) = ji12 := hji12
              have hji12z : (ji10) ≤ 64 → (a0 / 2 ^ (ji10).toNat) = ji12 := shr_small hji12
              obtain ⟨ji13, hji13⟩ : ∃ j_ : Int, (wrap64 ((wrap64 ((x5_1.length : Int) - 1)) - x12_1)) = j_ := ⟨_, rfl⟩
              replace H : (if 0 ≤ (ji13) then (if (ji13) < (x5_1.length : Int) then (typed_put.l0 k1 a0 (x5_1.set ((ji13) : Int).toNat ((ji12) % 256)) (y101.length : Int) (wrap64 (x12_1 + 1))) else (none)) else (none)) = some r := by first | (rw [hji13] at H; exact H) | (simp only [hji13] at H ⊢; exact H)
              have hji13w : (IntKind.i64.wrap ((wrap64 ((x5_1.length : Int) - 1)) - x12_1)) = ji13 := (i64_w _).trans hji13
              by_cases c14 : 0 ≤ (ji13)
              · rw [if_pos c14] at H
                have c14b0 : decide (0 ≤ (ji13)) = true := decide_eq_true c14
                (try simp only [hl5_1] at c14b0)
                clear c14
                by_cases c15 : (ji13) < (x5_1.length : Int)
                · rw [if_pos c15] at H
                  have c15b0 : decide ((ji13) < (x5_1.length : Int)) = true := decide_eq_true c15
                  (try simp only [hl5_1] at c15b0)
                  clear c15
                  obtain ⟨y104, hy104⟩ : ∃ y_ : List Int, y_ = (x5_1.set ((ji13) : Int).toNat ((ji12) % 256)) := ⟨_, rfl⟩
                  replace H : (typed_put.l0 k1 a0 y104 (y101.length : Int) (wrap64 (x12_1 + 1))) = some r := by first | (rw [hy104]; with_reducible exact H) | (have H2_ := (Option.bind_some _ _).symm.trans H; rw [hy104]; with_reducible exact H2_) | (have H2_ := (Option.bind_some _ _).symm.trans H; with_reducible exact H2_) | with_reducible exact H | (rw [hy104]; exact H) | exact H
                  have Ny104 := Aside0.mk hy104
                  clear hy104
                  have H' := Aside0.mk H
                  clear H
                  have p16 : 0 ≤ ((ji13) : Int) := of_decide_eq_true As_
                  have q16 : ((ji13) : Int) < ((x5_1.length : Int) : Int) := of_decide_eq_true As_
                  obtain ⟨go16, co16, eo16, gb16, gl16, cl16, HG16⟩ := Kd.R_form HO_5.out (by omega)
                  (first | cases eo16 | (injection eo16 with ea_ en_ ec_; (first | subst ea_ | (injection ea_ with ea_; subst ea_)); subst ec_; clear en_))
                  have GB16 := Aside0.mk gb16
                  have GG16 := Aside0.mk HG16
                  clear gb16 gl16 HG16
                  obtain ⟨hx16_0, hf16_0⟩ := Kd.R_celln 0 HO_5.out ((ji13) : Int) p16 q16
                  replace p16 := eq_true p16
                  replace q16 := eq_true q16
                  have HP17 := Kd.R_putg HO_5.out ((ji13) : Int) ((ji12) % 256)
                  go_wp2_with (first | ((with_reducible refine gate_store (t := 5) (p := 26) rfl ?_); refine store_event (t := 5) (p := 26) (v := ?vo_w18) (w1 := (wr.setCell ⟨go16, ((ji13) : Int).toNat, none⟩ (.int .u8 ((ji12) % 256)))) ?hg ?ho ?hn ?hr ?_; (case ho => rfl); (case hg => rfl); (case hn => rfl); (case hr => first | (go_simp; done) | (go_simp; rfl)); intro w18 hw; have hg : wr.grownBy w18 (some go16) := (by rw [hw]; exact HP17.2); have hp_ : Kd.R (Kd.int .u8) 5 w18 w.heap.size (fun _ => True) (.slice (some ⟨go16, 0, none⟩) x5_1.length co8) y104 := (by rw [hw, Ny104.out]; exact HP17.1); clear HP17; replace HO_5 := Aside0.mk (hp_); replace HB := Aside0.mk ((by rw [hw]; exact below_set (HB.out) GB16.out : Below w.heap.size w w18)); clear hg hw hp_))
                  (try simp only [← hl5_1])
                  go_roundg k1
                  case measure => have := HK1.out; omega
                  case rel => exact ⟨(y104), (wrap64 (x12_1 + 1)), Rf_, H', ⟨by have := HK1.out; omega⟩, ⟨by (try simp only [hl5_1]); (with_reducible repeat (first | apply Kd.R_alloc | apply Kd.R_drewN | apply Kd.R_drew)); exact HO_5.out⟩, ⟨Bl_⟩⟩
                · rw [if_neg c15] at H
                  exact absurd H (by simp)
              · rw [if_neg c14] at H
                exact absurd H (by simp)
            · rw [if_neg c11] at H
              exact absurd H (by simp)
          · rw [if_neg c9] at H
            have c9b0 : decide (x12_1 < (y101.length : Int)) = false := decide_eq_false c9
            (try simp only [hl5_1] at c9b0)
            clear c9
            obtain rfl := Option.some.inj H
            go_wp2
            go_ret
            exact ⟨_, by first | rfl | (simp [errW_none, errW_some] <;> rfl) | (simp only [← hji3]; first | rfl | (simp [errW_none, errW_some] <;> rfl)) | (simp [*, errW_none, errW_some] <;> rfl), by (with_reducible repeat (first | apply Kd.R_alloc | apply Kd.R_drewN | apply Kd.R_drew)); exact HO_5.out, Bl_⟩
    · rw [if_neg c5] at H
      exact absurd H (by simp)
  · rw [if_neg c4] at H
    exact absurd H (by simp)
/-! ### typed_lay: function 74 -/
def typed_lay.l0 : Nat → List Int → Int → List Int → List Int → Int → Int → Option (Int × List Int × ByteArray)
  | 0, _, _, _, _, _, _ => none
  | k + 1, x1, x2, x7, x10, x11, x12 => if x12 < x11 then (if 0 ≤ x12 then (if x12 < (x10.length : Int) then ((typed_put.f k (rd x10 x12) x2).bind fun t103 => (if x7.length + t103.length < 140737488355328 then (typed_lay.l0 k x1 x2 (x7 ++ t103) x10 x11 (wrap64 (x12 + 1))) else (none))) else (none)) else (none)) else ((slices_Clone_int_int.f x1).bind fun t109 => (some (x2, t109, strOfNums x7)))
def typed_lay.f (k : Nat) (l0 : List Int) (l1 : List Int) (a2 : Int) : Option (Int × List Int × ByteArray) := typed_lay.l0 k l1 a2 ([] : List Int) l0 (l0.length : Int) 0
set_option maxHeartbeats 8000000 in
set_option maxRecDepth 100000 in
theorem typed_lay.calls (k : Nat) (A0 : Option Addr) (c0 : Nat) (l0 : List Int) (A1 : Option Addr) (c1 : Nat) (l1 : List Int) (a2 : Int) (r1 : Int) (r2 : List Int) (r3 : ByteArray) (w : World) (hr0 : Kd.C (Kd.int .i64) w A0 l0.length l0) (hc0 : l0.length ≤ c0) (hr1 : Kd.C (Kd.int .i64) w A1 l1.length l1) (hc1 : l1.length ≤ c1) (h : typed_lay.f k l0 l1 a2 = some (r1, r2, r3)) :
    Calls Tryz.prog 74 #[.slice A0 l0.length c0, .slice A1 l1.length c1, .int .i64 a2] w fun e w' => ∃ v1_ : Value, e = .returned (.agg #[.int .i64 r1, v1_, .string r3]) ∧ Kd.R (Kd.int .i64) 3 w' w.heap.size (fun _ => True) v1_ r2 ∧ Below w.heap.size w w' := by
  have hu27 := Tryz.underlying27
  have HR0 := Aside0.mk hr0
  have HC0 := Aside0.mk hc0
  clear hr0 hc0
  have HR1 := Aside0.mk hr1
  have HC1 := Aside0.mk hc1
  clear hr1 hc1
  have HB := Aside0.mk (Below.refl w.heap.size w)
  have H : (typed_lay.l0 k l1 a2 ([] : List Int) l0 (l0.length : Int) 0) = some (r1, r2, r3) := h
  clear h
  have H' := Aside0.mk H
  clear H
  go_enter Tryz.func74, Tryz.ntmps74
  go_wp2_with (first | ((with_reducible refine gate_dst (N := 6) rfl ?_); refine bx_ 6 #[.int .i64 0, .slice none 0 0, .string (⟨#[]⟩ : ByteArray)] 27 ?_; intro gb101 hg w4 hbox hb; have BK101 := Aside0.mk (hbox); have GW101 := (Bg_ hg : Aside0 (w.heap.size ≤ gb101)); have GE101 := (Bg_ hg : Aside0 (w.heap.size ≤ gb101)); replace HB := Bs_ hb; clear hb hbox hg))
  go_loopg [7, 12] k (fun kq v7 v12 w' => ∃ (x7_1 : List Int) (x12_1 : Int), v12 = .int .i64 x12_1 ∧ Aside0 (typed_lay.l0 kq l1 a2 x7_1 l0 (l0.length : Int) x12_1 = some (r1, r2, r3)) ∧ Aside0 (kq ≤ k) ∧ Aside0 (Kd.R (Kd.int .u8) 5 w' w.heap.size (fun _ => True) v7 x7_1) ∧ Aside0 (w'.heap[gb101]? = some (.cells #[.int .i64 0, (.slice none 0 0), .string (⟨#[]⟩ : ByteArray)] 27 (0, 0))) ∧ Aside0 (Below w.heap.size w w'))
  case atStart => exact ⟨(([] : List Int)), (0), Rf_, H', ⟨Nat.le_refl _⟩, ⟨by first | exact Kd.R_nil _ _ _ _ _ | exact Kd.N_nil _ _ _ _ _ | exact Kd.V_nil _ _ _ _ _ | exact Kd.Q_nil _ _ _ _ _ | exact Kd.S_nil _ _ _ _ _⟩, ⟨by (with_reducible repeat (first | refine blk_drewN ?_ _ | refine blk_drew ?_ | refine blk_alloc ?_ _)); exact BK101.out⟩, ⟨Bl_⟩⟩
  case round =>
    clear H'
    try clear c1
    try clear p2
    obtain ⟨x7_1, x12_1, rfl, HA, HK1, HO_7, BK101, HB⟩ := hrel
    cases gk with
    | zero => exact absurd HA.out (by simp [typed_lay.l0])
    | succ k1 =>
      have H := HA.out
      clear HA
      simp only [typed_lay.l0] at H
      by_cases c5 : x12_1 < (l0.length : Int)
      · rw [if_pos c5] at H
        have c5b0 : decide (x12_1 < (l0.length : Int)) = true := decide_eq_true c5
        clear c5
        by_cases c6 : 0 ≤ x12_1
        · rw [if_pos c6] at H
          have c6b0 : decide (0 ≤ x12_1) = true := decide_eq_true c6
          clear c6
          by_cases c7 : x12_1 < (l0.length : Int)
          · rw [if_pos c7] at H
            have c7b0 : decide (x12_1 < (l0.length : Int)) = true := decide_eq_true c7
            clear c7
            obtain ⟨t103, A8, H⟩ := bnd_ H
            try dsimp -simprocs only at H
            by_cases c9 : x7_1.length + t103.length < 140737488355328
            · rw [if_pos c9] at H
              have LMc9 := Aside0.mk c9
              clear c9
              obtain ⟨y106, hy106⟩ : ∃ y_ : List Int, y_ = (x7_1 ++ t103) := ⟨_, rfl⟩
              replace H : (typed_lay.l0 k1 l1 a2 y106 l0 (l0.length : Int) (wrap64 (x12_1 + 1))) = some (r1, r2, r3) := by first | (rw [hy106]; with_reducible exact H) | (have H2_ := (Option.bind_some _ _).symm.trans H; rw [hy106]; with_reducible exact H2_) | (have H2_ := (Option.bind_some _ _).symm.trans H; with_reducible exact H2_) | with_reducible exact H | (rw [hy106]; exact H) | exact H
              have Ny106 := Aside0.mk hy106
              clear hy106
              have H' := Aside0.mk H
              clear H
              have p102 : 0 ≤ (x12_1 : Int) := of_decide_eq_true As_
              have q102 : x12_1 < (l0.length : Int) := of_decide_eq_true As_
              obtain ⟨ad102, e102, hx102_0⟩ := Kd.at_int HR0.out x12_1 p102 q102
              cases e102
              replace hx102_0 := (HB.out.cell (World.block_lt_of_cell? w _ hx102_0)).trans hx102_0
              replace p102 := eq_true p102
              replace q102 := eq_true q102
              go_wp2_with (first | ((with_reducible refine gate_callee (f := 132) rfl ?_); refine goesL_ (some 19) rfl rfl Tryz.func132 (by kernel_rfl) rfl #[.int .i64 (rd l0 x12_1), .int .i64 a2] rfl Ga_ ?_; (with_reducible refine (typed_put.calls k1 (rd l0 x12_1) a2 t103 _ A8.out).mono ?_); rintro e w10 ⟨v104, rfl, ho0, hb⟩; refine ⟨_, rfl, ?_⟩; have HO105 := Aside0.mk (Kd.R_lower (Kd.R_new' ho0 (Kd.R_lt (Pr_ HO_7.out))) Bz_); replace HO_7 := Aside0.mk (Kd.R_elder' (Pr_ HO_7.out) (Kd.R_base ho0) hb); replace BK101 := kb_ BK101 hb; replace HB := Bs_ hb; (try clear hb); (try clear hb2); (try clear hk); (try clear hi); (try clear ho0); obtain ⟨Ao12, co12, eo12⟩ := Kd.R_slice HO105.out; subst eo12) | ((with_reducible refine gate_builtin (b := .append) (xs := #[.tmp 16, .tmp 19]) rfl ?_); at_builtin; refine Kd.R_append_rows (Kd.int .u8) (w0 := w) w.heap.size rfl (.tmp 16) (.tmp 19) 55 5 (.int .u8 0) 1 rfl Tryz.underlying55 info5 rfl (by decide) (by omega) u7 x7_1 t103 _ _ _ (fun k_ => some k_ ≠ (.slice Ao12 t103.length co12 : Value).ownBlock) (fun _ => False) rfl rfl ?aO ?aR (fun _ _ h => h) (fun _ h => h.elim) ?aF ?aB ?aS ?aL ?_; (case aR => exact Pc_ ((Kd.R_reads' HO105.out).2.2)); (case aB => exact Bl_); (case aF => exact (fun k_ hk => Kd.fresh' (Kd.R_lt (Pr_ HO105.out)) k_ hk)); (case aO => exact (by (with_reducible repeat (first | apply Kd.R_alloc | apply Kd.R_drewN | apply Kd.R_drew)); exact Kd.R_mono HO_7.out (fun _ hk => hk.2))); (case aS => exact Bz_); (case aL => have := LMc9.out; omega); intro v107 w11 ho hb hg hat; rw [← Ny106.out] at ho; replace BK101 := kg_ BK101 hg (Kd.R_ne HO_7.out BK101.out (by decide)); replace HO105 := Aside0.mk (Kd.R_after (ok := (fun _ => True)) (Pr_ HO105.out) hg hat); replace HB := Aside0.mk (hb); have HO108 := Aside0.mk (ho); clear HO_7; clear ho hb hg hat))
              go_roundg k1
              case measure => have := HK1.out; omega
              case rel => exact ⟨(y106), (wrap64 (x12_1 + 1)), Rf_, H', ⟨by have := HK1.out; omega⟩, ⟨by (with_reducible repeat (first | apply Kd.R_alloc | apply Kd.R_drewN | apply Kd.R_drew)); exact Kd.R_mono HO108.out (fun _ hk => trivial)⟩, ⟨by (with_reducible repeat (first | refine blk_drewN ?_ _ | refine blk_drew ?_ | refine blk_alloc ?_ _)); exact BK101.out⟩, ⟨Bl_⟩⟩
            · rw [if_neg c9] at H
              exact absurd H (by simp)
          · rw [if_neg c7] at H
            exact absurd H (by simp)
        · rw [if_neg c6] at H
          exact absurd H (by simp)
      · rw [if_neg c5] at H
        have c5b0 : decide (x12_1 < (l0.length : Int)) = false := decide_eq_false c5
        clear c5
        obtain ⟨t109, A13, H⟩ := bnd_ H
        try dsimp -simprocs only at H
        simp only [Option.some.injEq, Prod.mk.injEq] at H
        obtain ⟨rfl, rfl, rfl⟩ := H
        try go_wp2
        replace HO_7 := Aside0.mk (Kd.R_drew HO_7.out)
        replace BK101 := Aside0.mk (blk_drew BK101.out)
        replace HB := Aside0.mk (below_drew1 HB.out)
        refine start_ (n := 7) (S := fun w' => True) (ds := []) #[false, false, false, false, false, false, false] (by kernel_rfl) rfl rfl trivial (fun hHeld => ?_)
        generalize wr.drew = w14 at HO_7 BK101 HB hHeld ⊢
        refine pk_ 0 (some 22) #[true, false, false, false, false, false, false] ?_
        refine pk_ 1 (some 23) #[true, true, false, false, false, false, false] ?_
        refine pk_ 3 (some 25) #[true, true, false, true, false, false, false] ?_
        refine join_ (σ := Value) 2 #[true, true, true, true, true, false, false] (fun s_ => [(24, s_), (26, .string (strOfNums x7_1))]) (fun s_ w' => (Kd.R (Kd.int .i64) 3 w' w.heap.size (fun _ => True) s_ t109) ∧ (Kd.R (Kd.int .u8) 5 w' w.heap.size (fun _ => True) u7 x7_1) ∧ (w'.heap[gb101]? = some (.cells #[.int .i64 0, .slice none 0 0, .string (⟨#[]⟩ : ByteArray)] 27 (0, 0))) ∧ (Below w.heap.size w w')) ?_ ?_
        rotate_left
        · intro hCont
          refine two_ (i := 2) (j := 4) (Ni := some 24) (Nj := some 26) #[true, true, true, true, false, false, false] #[true, true, false, true, true, false, false] rfl rfl rfl rfl (by kernel_rfl) (by decide) (by decide) (fun K hK => ?_) (fun K hK => ?_)
          · skip
            refine goes_ Tryz.func66 (by kernel_rfl) rfl #[.slice A1 l1.length c1] (by rfl) rfl rfl Ga_ ?_
            with_reducible refine (slices_Clone_int_int.calls _ _ l1 t109 _ ?side1 ?side2 A13.out).mono ?_
            (case side1 => exact Pc_ (Kd.C_below HR1.out HB.out))
            (case side2 => exact HC1.out)
            rintro e w15 ⟨v110, rfl, ho0, hb⟩
            refine ⟨_, rfl, ?_⟩
            replace HO_7 := Aside0.mk (Kd.R_below (Pr_ HO_7.out) hb)
            have HO111 := Aside0.mk (Kd.R_lower ho0 Bz_)
            replace BK101 := kb_ BK101 hb
            replace HB := Bs_ hb
            (try clear hb)
            (try clear hb2)
            (try clear hk)
            (try clear hi)
            (try clear ho0)
            obtain ⟨Ao17, co17, eo17⟩ := Kd.R_slice HO111.out
            (first | subst eo17 | (injection eo17 with f1_ f2_ f3_; have f4_ := f1_.symm; have f5_ := f3_.symm; clear f1_ f2_ f3_; subst f4_; subst f5_))
            refine hK.out _ _ trivial (fun hHeld => ?_)
            clear hK K
            refine norm_ (a' := ?_) ?_ ?_
            rotate_left
            · show Act.put _ (some 24) _ = _
              simp only [Act.put, List.setIfInBounds_toArray, List.set_cons_zero, List.set_cons_succ, i64_w, i32_w]
              rfl
            refine one_ (i := 4) (N := some 26) #[true, true, true, true, true, false, false] rfl rfl (by kernel_rfl) (by decide) (fun K hK => ?_)
            have hcv16 := own_string (P := Tryz.prog) Tryz.underlying55 Tryz.underlying5 Tryz.underlying9 (Kd.own_of_R HO_7.out)
            refine value_ (w1 := ?_) (v := ?_) (by rfl) rfl ?_ ?_
            rotate_left 2
            · go_simp
              constructor
              · rfl
              · rfl
            clear hcv16
            refine hK.out _ _ trivial (fun hHeld => ?_)
            clear hK K
            refine norm_ (a' := ?_) ?_ ?_
            rotate_left
            · show Act.put _ (some 26) _ = _
              simp only [Act.put, List.setIfInBounds_toArray, List.set_cons_zero, List.set_cons_succ, i64_w, i32_w]
              rfl
            exact norm_ (by simp only [putAll, Act.put, List.setIfInBounds_toArray, List.set_cons_zero, List.set_cons_succ]) (hCont (.slice Ao17 t109.length co17) _ ⟨(Pr_ HO111.out), (Pr_ HO_7.out), (Bk_ BK101.out), Bl_⟩)
          · skip
            have hcv15 := own_string (P := Tryz.prog) Tryz.underlying55 Tryz.underlying5 Tryz.underlying9 (Kd.own_of_R HO_7.out)
            refine value_ (w1 := ?_) (v := ?_) (by rfl) rfl ?_ ?_
            rotate_left 2
            · go_simp
              constructor
              · rfl
              · rfl
            clear hcv15
            refine hK.out _ _ trivial (fun hHeld => ?_)
            clear hK K
            refine norm_ (a' := ?_) ?_ ?_
            rotate_left
            · show Act.put _ (some 26) _ = _
              simp only [Act.put, List.setIfInBounds_toArray, List.set_cons_zero, List.set_cons_succ, i64_w, i32_w]
              rfl
            refine one_ (i := 2) (N := some 24) #[true, true, true, true, true, false, false] rfl rfl (by kernel_rfl) (by decide) (fun K hK => ?_)
            refine goes_ Tryz.func66 (by kernel_rfl) rfl #[.slice A1 l1.length c1] (by rfl) rfl rfl Ga_ ?_
            with_reducible refine (slices_Clone_int_int.calls _ _ l1 t109 _ ?side1 ?side2 A13.out).mono ?_
            (case side1 => exact Pc_ (Kd.C_below HR1.out HB.out))
            (case side2 => exact HC1.out)
            rintro e w16 ⟨v110, rfl, ho0, hb⟩
            refine ⟨_, rfl, ?_⟩
            replace HO_7 := Aside0.mk (Kd.R_below (Pr_ HO_7.out) hb)
            have HO111 := Aside0.mk (Kd.R_lower ho0 Bz_)
            replace BK101 := kb_ BK101 hb
            replace HB := Bs_ hb
            (try clear hb)
            (try clear hb2)
            (try clear hk)
            (try clear hi)
            (try clear ho0)
            obtain ⟨Ao17, co17, eo17⟩ := Kd.R_slice HO111.out
            (first | subst eo17 | (injection eo17 with f1_ f2_ f3_; have f4_ := f1_.symm; have f5_ := f3_.symm; clear f1_ f2_ f3_; subst f4_; subst f5_))
            refine hK.out _ _ trivial (fun hHeld => ?_)
            clear hK K
            refine norm_ (a' := ?_) ?_ ?_
            rotate_left
            · show Act.put _ (some 24) _ = _
              simp only [Act.put, List.setIfInBounds_toArray, List.set_cons_zero, List.set_cons_succ, i64_w, i32_w]
              rfl
            exact norm_ (by simp only [putAll, Act.put, List.setIfInBounds_toArray, List.set_cons_zero, List.set_cons_succ]) (hCont (.slice Ao17 t109.length co17) _ ⟨(Pr_ HO111.out), (Pr_ HO_7.out), (Bk_ BK101.out), Bl_⟩)
        rintro v110 w18 ⟨h0_, h1_, h2_, h3_⟩
        have n0_ : Aside0 (Kd.R (Kd.int .i64) 3 w18 w.heap.size (fun _ => True) v110 t109) := ⟨h0_⟩
        have n1_ : Aside0 (Kd.R (Kd.int .u8) 5 w18 w.heap.size (fun _ => True) u7 x7_1) := ⟨h1_⟩
        have n2_ : Aside0 (w18.heap[gb101]? = some (.cells #[.int .i64 0, .slice none 0 0, .string (⟨#[]⟩ : ByteArray)] 27 (0, 0))) := ⟨h2_⟩
        have n3_ : Aside0 (Below w.heap.size w w18) := ⟨h3_⟩
        clear HO_7
        clear BK101
        clear HB
        clear h0_ h1_ h2_ h3_
        have HO111 := n0_
        have HO_7 := n1_
        have BK101 := n2_
        have HB := n3_
        clear n0_ n1_ n2_ n3_
        have hHeld := trivial
        obtain ⟨Ao19, co19, eo19⟩ := Kd.R_slice HO111.out
        (first | subst eo19 | (injection eo19 with f1_ f2_ f3_; have f4_ := f1_.symm; have f5_ := f3_.symm; clear f1_ f2_ f3_; subst f4_; subst f5_))
        refine norm_ (a' := ?_) ?_ ?_
        rotate_left
        · simp only [putAll, Act.put, List.setIfInBounds_toArray, List.set_cons_zero, List.set_cons_succ]
          rfl
        refine pk_ 5 (some 27) #[true, true, true, true, true, true, false] ?_
        refine one_ (i := 6) (N := none) #[true, true, true, true, true, true, true] rfl rfl (by kernel_rfl) (by decide) (fun K hK => ?_)
        have hs20 : w18.cell? ⟨gb101, 0, none⟩ = some (.int .i64 0) := (blk_cell BK101.out 0).trans rfl
        have hfs20 := blk_frozen BK101.out 0
        have hs21 : w18.cell? ⟨gb101, 1, none⟩ = some (.slice none 0 0) := (blk_cell BK101.out 1).trans rfl
        have hfs21 := blk_frozen BK101.out 1
        have hs22 : w18.cell? ⟨gb101, 2, none⟩ = some (.string (⟨#[]⟩ : ByteArray)) := (blk_cell BK101.out 2).trans rfl
        have hfs22 := blk_frozen BK101.out 2
        refine skip_ (w1 := ?_) (by rfl) rfl ?_ ?_
        rotate_left
        · go_simp
          rfl
        refine hK.out _ _ trivial (fun hHeld => ?_)
        clear hK K
        refine done_ (by kernel_rfl) ?_
        try go_wp2
        refine bodyPost_ret (results_cell_row rfl _ _ gb101 27 #[.int .i64 a2, .slice Ao19 t109.length co19, .string (strOfNums x7_1)] (0, 0) _ rfl (by (with_reducible repeat (first | refine blk_drewN ?_ _ | refine blk_drew ?_ | refine blk_alloc ?_ _)); refine blk_put (cs := #[.int .i64 a2, .slice Ao19 t109.length co19, .string (⟨#[]⟩ : ByteArray)]) ?_ 2 _ rfl; (with_reducible repeat (first | refine blk_drewN ?_ _ | refine blk_drew ?_ | refine blk_alloc ?_ _)); refine blk_put (cs := #[.int .i64 a2, .slice none 0 0, .string (⟨#[]⟩ : ByteArray)]) ?_ 1 _ rfl; (with_reducible repeat (first | refine blk_drewN ?_ _ | refine blk_drew ?_ | refine blk_alloc ?_ _)); refine blk_put (cs := #[.int .i64 0, .slice none 0 0, .string (⟨#[]⟩ : ByteArray)]) ?_ 0 _ rfl; (with_reducible repeat (first | refine blk_drewN ?_ _ | refine blk_drew ?_ | refine blk_alloc ?_ _)); exact BK101.out) Tryz.underlying27 rfl (by kernel_rfl)) rfl ?_
        exact ⟨_, Re_, by (with_reducible repeat (first | apply Kd.R_alloc | apply Kd.R_drewN | apply Kd.R_drew)); exact Kd.R_mono (Kd.R_far (p := ⟨gb101, 2, none⟩) (Kd.R_far (p := ⟨gb101, 1, none⟩) (Kd.R_far (p := ⟨gb101, 0, none⟩) (Kd.R_types HO111.out BK101.out (by decide)) (fun _ hk => hk.2) (.int .i64 a2)) (fun _ hk => hk.2) (.slice Ao19 t109.length co19)) (fun _ hk => hk.2) (.string (strOfNums x7_1))) (fun _ hk => trivial), Bl_⟩
/-! ### num_Int: function 128 -/
def num_Int.f (a0 : ByteArray) : Option (Int × Bool) := if a0.size ≤ 281474976710656 then (num_May.f a0).bind fun m => if m = true then (match Lib.parseIntB 64 a0.data.toList with | .ok v => some (v, true) | .range => some (0, false) | _ => none) else some (0, false) else none
set_option maxHeartbeats 1000000 in
theorem num_Int.calls (a0 : ByteArray) (r1 : Int) (r2 : Bool) (w : World) (h : num_Int.f a0 = some (r1, r2)) (hG : Glob w) :
    Calls Tryz.prog 128 #[.string a0] w fun e w' => e = .returned (.tuple #[.int .i64 r1, .bool r2]) ∧ Below w.heap.size w w' := by
  unfold num_Int.f at h
  by_cases hs : a0.size ≤ 281474976710656
  case neg => rw [if_neg hs] at h; cases h
  rw [if_pos hs] at h
  obtain ⟨m, hm, h⟩ := Option.bind_eq_some_iff.mp h
  have HM := Aside0.mk hm
  clear hm
  cases m with
  | false =>
    rw [if_neg (by simp)] at h
    simp only [Option.some.injEq, Prod.mk.injEq] at h
    obtain ⟨rfl, rfl⟩ := h
    go_enter Tryz.func128, Tryz.ntmps128
    go_wp2_with (go_at_call 120; refine (num_May.calls a0 _ _ HM.out).mono ?_; rintro e w1 ⟨rfl, hb⟩)
    go_ret2
    exact ⟨rfl, hb⟩
  | true =>
    rw [if_pos rfl] at h
    cases hp : Lib.parseIntB 64 a0.data.toList
    case ok v =>
      rw [hp] at h
      simp only [Option.some.injEq, Prod.mk.injEq] at h
      obtain ⟨rfl, rfl⟩ := h
      have HP := Aside0.mk hp
      clear hp
      go_enter Tryz.func128, Tryz.ntmps128
      go_wp2_with (first | (go_at_call 120; refine (num_May.calls a0 _ _ HM.out).mono ?_; rintro e w1 ⟨rfl, hb⟩) | (go_at_call 175; refine (Tryz.strconv_ParseInt_10_at64_ok a0 (by omega) _ HP.out _).mono ?_; rintro e w2 ⟨rfl, hw2⟩))
      go_ret2
      refine ⟨rfl, ?_⟩
      rcases hw2 with rfl | ⟨t, rfl⟩
      · exact hb
      · exact bytes_below hb hb.size _ _
    case range =>
      rw [hp] at h
      simp only [Option.some.injEq, Prod.mk.injEq] at h
      obtain ⟨rfl, rfl⟩ := h
      have HP := Aside0.mk hp
      clear hp
      obtain ⟨_, tp, p, hv⟩ := hG
      have HV := Aside0.mk hv
      clear hv
      go_enter Tryz.func128, Tryz.ntmps128
      go_wp2_with (first | (go_at_call 120; refine (num_May.calls a0 _ _ HM.out).mono ?_; rintro e w1 ⟨rfl, hb⟩) | (go_at_call 175; refine (Tryz.strconv_ParseInt_10_at64_range_var a0 hs HP.out tp p _ (var_keeps hb HV.out)).mono ?_; rintro e w2 ⟨N, rfl, hN, hc, hb2⟩))
      go_ret2
      exact ⟨rfl, below_then hb hb.size hb2⟩
    · rw [hp] at h; cases h
/-! ### width_Fits: function 73 -/
def width_Fits.j0 : Nat → Int → Int → Int → Bool → Option (Bool)
  | 0, _, _, _, _ => none
  | k + 1, x0, x1, x6, x7 => if x7 = true then (some true) else (if x6 = 8 then (if 0 ≤ (wrap64 (x1 - 1)) then (if x0 ≥ (wrap64 (-(shl .i64 1 (wrap64 (x1 - 1))))) then (some (decide (x0 < (shl .i64 1 (wrap64 (x1 - 1)))))) else (some false)) else (none)) else (if x6 = 16 then (if 0 ≤ (wrap64 (x1 - 1)) then (if x0 ≥ (wrap64 (-(shl .i64 1 (wrap64 (x1 - 1))))) then (some (decide (x0 < (shl .i64 1 (wrap64 (x1 - 1)))))) else (some false)) else (none)) else (if x6 = 32 then (if 0 ≤ (wrap64 (x1 - 1)) then (if x0 ≥ (wrap64 (-(shl .i64 1 (wrap64 (x1 - 1))))) then (some (decide (x0 < (shl .i64 1 (wrap64 (x1 - 1)))))) else (some false)) else (none)) else (some false))))
def width_Fits.f (k : Nat) (a0 : Int) (a1 : Int) : Option (Bool) := if a1 = 64 then (width_Fits.j0 k a0 a1 a1 (a1 == 64)) else (width_Fits.j0 k a0 a1 a1 (a1 == 128))
set_option maxHeartbeats 8000000 in
set_option maxRecDepth 100000 in
theorem width_Fits.calls (k : Nat) (a0 : Int) (a1 : Int) (r : Bool) (w : World) (h : width_Fits.f k a0 a1 = some r) :
    Calls Tryz.prog 73 #[.int .i64 a0, .int .i64 a1] w fun e w' => e = .returned (.bool r) ∧ Drawn0 w w' := by
  have H : (if a1 = 64 then (width_Fits.j0 k a0 a1 a1 (a1 == 64)) else (width_Fits.j0 k a0 a1 a1 (a1 == 128))) = some r := h
  clear h
  have HC3 := Aside0.mk H
  clear H
  go_enter Tryz.func73, Tryz.ntmps73
  go_upto_if 7 with (fail)
  go_cut [7] (fun v7 wc => ∃ (kq : Nat) (x7_2 : Bool), v7 = .bool x7_2 ∧ Aside0 (width_Fits.j0 kq a0 a1 a1 x7_2 = some r) ∧ Aside0 (kq ≤ k) ∧ Drawn0 w wc)
  case first =>
    have H := HC3.out
    clear HC3
    by_cases c4 : a1 = 64
    · rw [if_pos c4] at H
      have c4b0 : (a1 == 64) = true := beq_iff_eq.mpr c4
      have c4b1 : (a1 != 64) = false := bne_eq_false_iff_eq.mpr c4
      clear c4
      (first | rw [c4b0] | (simp only [i64_w, i32_w]; rw [c4b0]) | skip)
      have H' := Aside0.mk H
      clear H
      go_wp2
      go_meet
      case rel => exact ⟨_, ((a1 == 64)), Rf_, H', ⟨by first | omega | exact Nat.le_refl _⟩, Dw_⟩
    · rw [if_neg c4] at H
      have c4b0 : (a1 == 64) = false := beq_eq_false_iff_ne.mpr c4
      have c4b1 : (a1 != 64) = true := bne_iff_ne.mpr c4
      (first | rw [c4b0] | (simp only [i64_w, i32_w]; rw [c4b0]) | skip)
      have H' := Aside0.mk H
      clear H
      go_wp2
      go_meet
      case rel => exact ⟨_, ((a1 == 128)), Rf_, H', ⟨by first | omega | exact Nat.le_refl _⟩, Dw_⟩
  case rest =>
    clear HC3
    try clear p2
    try clear c4
    try clear c4b0
    try clear c4b1
    obtain ⟨kq, x7_2, rfl, HA, HJ2, ⟨mc2, rfl⟩⟩ := hcut
    cases kq with
    | zero => exact absurd HA.out (by simp [width_Fits.j0])
    | succ kj2 =>
      have H := HA.out
      clear HA
      simp only [width_Fits.j0] at H
      by_cases c5 : x7_2 = true
      · subst c5
        have H1 : (some true) = some r := by rw [if_pos rfl] at H; exact H
        clear H
        have H := H1
        clear H1
        obtain rfl := Option.some.inj H
        go_wp2
        go_ret
        exact ⟨Rf_, Dw_⟩
      · replace c5 := Bool.eq_false_iff.mpr c5
        subst c5
        have H1 : (if a1 = 8 then (if 0 ≤ (wrap64 (a1 - 1)) then (if a0 ≥ (wrap64 (-(shl .i64 1 (wrap64 (a1 - 1))))) then (some (decide (a0 < (shl .i64 1 (wrap64 (a1 - 1)))))) else (some false)) else (none)) else (if a1 = 16 then (if 0 ≤ (wrap64 (a1 - 1)) then (if a0 ≥ (wrap64 (-(shl .i64 1 (wrap64 (a1 - 1))))) then (some (decide (a0 < (shl .i64 1 (wrap64 (a1 - 1)))))) else (some false)) else (none)) else (if a1 = 32 then (if 0 ≤ (wrap64 (a1 - 1)) then (if a0 ≥ (wrap64 (-(shl .i64 1 (wrap64 (a1 - 1))))) then (some (decide (a0 < (shl .i64 1 (wrap64 (a1 - 1)))))) else (some false)) else (none)) else (some false)))) = some r := by rw [if_neg (show ¬ (false = true) by decide)] at H; exact H
        clear H
        have H := H1
        clear H1
        by_cases c6 : a1 = 8
        · rw [if_pos c6] at H
          have c6b0 : (a1 == 8) = true := beq_iff_eq.mpr c6
          have c6b1 : (a1 != 8) = false := bne_eq_false_iff_eq.mpr c6
          clear c6
          obtain ⟨ji7, hji7⟩ : ∃ j_ : Int, (wrap64 (a1 - 1)) = j_ := ⟨_, rfl⟩
          replace H : (if 0 ≤ (ji7) then (if a0 ≥ (wrap64 (-(shl .i64 1 (ji7)))) then (some (decide (a0 < (shl .i64 1 (ji7))))) else (some false)) else (none)) = some r := by first | (rw [hji7] at H; exact H) | (simp only [hji7] at H ⊢; exact H)
          have hji7w : (IntKind.i64.wrap (a1 - 1)) = ji7 := (i64_w _).trans hji7
          by_cases c8 : 0 ≤ (ji7)
          · rw [if_pos c8] at H
            have c8b0 := eq_true c8
            have c8b1 : decide (0 ≤ (ji7)) = true := decide_eq_true c8
            clear c8
            obtain ⟨ji9, hji9⟩ : ∃ j_ : Int, (shl .i64 1 (ji7)) = j_ := ⟨_, rfl⟩
            replace H : (if a0 ≥ (wrap64 (-(ji9))) then (some (decide (a0 < (ji9)))) else (some false)) = some r := by first | (rw [hji9] at H; exact H) | (simp only [hji9] at H ⊢; exact H)
            have hji9_ : (IntKind.i64.wrap (1 * 2 ^ min (ji7).toNat 64)) = ji9 := hji9
            have hji9z : (ji7) ≤ 64 → (IntKind.i64.wrap (1 * 2 ^ (ji7).toNat)) = ji9 := shl_small hji9
            have hji9u : (IntKind.i64.wrap (2 ^ min (ji7).toNat 64)) = ji9 := by have h_ := hji9_; rw [Int.one_mul] at h_; exact h_
            have hji9v : (ji7) ≤ 64 → (IntKind.i64.wrap (2 ^ (ji7).toNat)) = ji9 := fun hle_ => by have h_ := hji9z hle_; rw [Int.one_mul] at h_; exact h_
            have hji9y : (wrap64 (1 * 2 ^ min (ji7).toNat 64)) = ji9 := (i64_w _).symm.trans hji9_
            have hji9x : (ji7) ≤ 64 → (wrap64 (1 * 2 ^ (ji7).toNat)) = ji9 := fun h_ => (i64_w _).symm.trans (hji9z h_)
            by_cases c10 : a0 ≥ (wrap64 (-(ji9)))
            · rw [if_pos c10] at H
              have c10b0 : decide ((wrap64 (-(ji9))) ≤ a0) = true := decide_eq_true c10
              clear c10
              obtain rfl := Option.some.inj H
              go_wp2
              go_ret
              exact ⟨by first | rfl | (simp; done) | (simp only [← hji7, ← hji9] <;> (first | rfl | simp)) | (simp [*]; done), Dw_⟩
            · rw [if_neg c10] at H
              have c10b0 : decide ((wrap64 (-(ji9))) ≤ a0) = false := decide_eq_false c10
              clear c10
              obtain rfl := Option.some.inj H
              go_wp2
              go_ret
              exact ⟨by first | rfl | (simp; done) | (simp only [← hji7, ← hji9] <;> (first | rfl | simp)) | (simp [*]; done), Dw_⟩
          · rw [if_neg c8] at H
            exact absurd H (by simp)
        · rw [if_neg c6] at H
          have c6b0 : (a1 == 8) = false := beq_eq_false_iff_ne.mpr c6
          have c6b1 : (a1 != 8) = true := bne_iff_ne.mpr c6
          by_cases c11 : a1 = 16
          · rw [if_pos c11] at H
            have c11b0 : (a1 == 16) = true := beq_iff_eq.mpr c11
            have c11b1 : (a1 != 16) = false := bne_eq_false_iff_eq.mpr c11
            clear c11
            obtain ⟨ji12, hji12⟩ : ∃ j_ : Int, (wrap64 (a1 - 1)) = j_ := ⟨_, rfl⟩
            replace H : (if 0 ≤ (ji12) then (if a0 ≥ (wrap64 (-(shl .i64 1 (ji12)))) then (some (decide (a0 < (shl .i64 1 (ji12))))) else (some false)) else (none)) = some r := by first | (rw [hji12] at H; exact H) | (simp only [hji12] at H ⊢; exact H)
            have hji12w : (IntKind.i64.wrap (a1 - 1)) = ji12 := (i64_w _).trans hji12
            by_cases c13 : 0 ≤ (ji12)
            · rw [if_pos c13] at H
              have c13b0 := eq_true c13
              have c13b1 : decide (0 ≤ (ji12)) = true := decide_eq_true c13
              clear c13
              obtain ⟨ji14, hji14⟩ : ∃ j_ : Int, (shl .i64 1 (ji12)) = j_ := ⟨_, rfl⟩
              replace H : (if a0 ≥ (wrap64 (-(ji14))) then (some (decide (a0 < (ji14)))) else (some false)) = some r := by first | (rw [hji14] at H; exact H) | (simp only [hji14] at H ⊢; exact H)
              have hji14_ : (IntKind.i64.wrap (1 * 2 ^ min (ji12).toNat 64)) = ji14 := hji14
              have hji14z : (ji12) ≤ 64 → (IntKind.i64.wrap (1 * 2 ^ (ji12).toNat)) = ji14 := shl_small hji14
              have hji14u : (IntKind.i64.wrap (2 ^ min (ji12).toNat 64)) = ji14 := by have h_ := hji14_; rw [Int.one_mul] at h_; exact h_
              have hji14v : (ji12) ≤ 64 → (IntKind.i64.wrap (2 ^ (ji12).toNat)) = ji14 := fun hle_ => by have h_ := hji14z hle_; rw [Int.one_mul] at h_; exact h_
              have hji14y : (wrap64 (1 * 2 ^ min (ji12).toNat 64)) = ji14 := (i64_w _).symm.trans hji14_
              have hji14x : (ji12) ≤ 64 → (wrap64 (1 * 2 ^ (ji12).toNat)) = ji14 := fun h_ => (i64_w _).symm.trans (hji14z h_)
              by_cases c15 : a0 ≥ (wrap64 (-(ji14)))
              · rw [if_pos c15] at H
                have c15b0 : decide ((wrap64 (-(ji14))) ≤ a0) = true := decide_eq_true c15
                clear c15
                obtain rfl := Option.some.inj H
                go_wp2
                go_ret
                exact ⟨by first | rfl | (simp; done) | (simp only [← hji12, ← hji14] <;> (first | rfl | simp)) | (simp [*]; done), Dw_⟩
              · rw [if_neg c15] at H
                have c15b0 : decide ((wrap64 (-(ji14))) ≤ a0) = false := decide_eq_false c15
                clear c15
                obtain rfl := Option.some.inj H
                go_wp2
                go_ret
                exact ⟨by first | rfl | (simp; done) | (simp only [← hji12, ← hji14] <;> (first | rfl | simp)) | (simp [*]; done), Dw_⟩
            · rw [if_neg c13] at H
              exact absurd H (by simp)
          · rw [if_neg c11] at H
            have c11b0 : (a1 == 16) = false := beq_eq_false_iff_ne.mpr c11
            have c11b1 : (a1 != 16) = true := bne_iff_ne.mpr c11
            by_cases c16 : a1 = 32
            · rw [if_pos c16] at H
              have c16b0 : (a1 == 32) = true := beq_iff_eq.mpr c16
              have c16b1 : (a1 != 32) = false := bne_eq_false_iff_eq.mpr c16
              clear c16
              obtain ⟨ji17, hji17⟩ : ∃ j_ : Int, (wrap64 (a1 - 1)) = j_ := ⟨_, rfl⟩
              replace H : (if 0 ≤ (ji17) then (if a0 ≥ (wrap64 (-(shl .i64 1 (ji17)))) then (some (decide (a0 < (shl .i64 1 (ji17))))) else (some false)) else (none)) = some r := by first | (rw [hji17] at H; exact H) | (simp only [hji17] at H ⊢; exact H)
              have hji17w : (IntKind.i64.wrap (a1 - 1)) = ji17 := (i64_w _).trans hji17
              by_cases c18 : 0 ≤ (ji17)
              · rw [if_pos c18] at H
                have c18b0 := eq_true c18
                have c18b1 : decide (0 ≤ (ji17)) = true := decide_eq_true c18
                clear c18
                obtain ⟨ji19, hji19⟩ : ∃ j_ : Int, (shl .i64 1 (ji17)) = j_ := ⟨_, rfl⟩
                replace H : (if a0 ≥ (wrap64 (-(ji19))) then (some (decide (a0 < (ji19)))) else (some false)) = some r := by first | (rw [hji19] at H; exact H) | (simp only [hji19] at H ⊢; exact H)
                have hji19_ : (IntKind.i64.wrap (1 * 2 ^ min (ji17).toNat 64)) = ji19 := hji19
                have hji19z : (ji17) ≤ 64 → (IntKind.i64.wrap (1 * 2 ^ (ji17).toNat)) = ji19 := shl_small hji19
                have hji19u : (IntKind.i64.wrap (2 ^ min (ji17).toNat 64)) = ji19 := by have h_ := hji19_; rw [Int.one_mul] at h_; exact h_
                have hji19v : (ji17) ≤ 64 → (IntKind.i64.wrap (2 ^ (ji17).toNat)) = ji19 := fun hle_ => by have h_ := hji19z hle_; rw [Int.one_mul] at h_; exact h_
                have hji19y : (wrap64 (1 * 2 ^ min (ji17).toNat 64)) = ji19 := (i64_w _).symm.trans hji19_
                have hji19x : (ji17) ≤ 64 → (wrap64 (1 * 2 ^ (ji17).toNat)) = ji19 := fun h_ => (i64_w _).symm.trans (hji19z h_)
                by_cases c20 : a0 ≥ (wrap64 (-(ji19)))
                · rw [if_pos c20] at H
                  have c20b0 : decide ((wrap64 (-(ji19))) ≤ a0) = true := decide_eq_true c20
                  clear c20
                  obtain rfl := Option.some.inj H
                  go_wp2
                  go_ret
                  exact ⟨by first | rfl | (simp; done) | (simp only [← hji17, ← hji19] <;> (first | rfl | simp)) | (simp [*]; done), Dw_⟩
                · rw [if_neg c20] at H
                  have c20b0 : decide ((wrap64 (-(ji19))) ≤ a0) = false := decide_eq_false c20
                  clear c20
                  obtain rfl := Option.some.inj H
                  go_wp2
                  go_ret
                  exact ⟨by first | rfl | (simp; done) | (simp only [← hji17, ← hji19] <;> (first | rfl | simp)) | (simp [*]; done), Dw_⟩
              · rw [if_neg c18] at H
                exact absurd H (by simp)
            · rw [if_neg c16] at H
              have c16b0 : (a1 == 32) = false := beq_eq_false_iff_ne.mpr c16
              have c16b1 : (a1 != 32) = true := bne_iff_ne.mpr c16
              obtain rfl := Option.some.inj H
              go_wp2
              go_ret
              exact ⟨Rf_, Dw_⟩
/-! ### width_Of: function 173 -/
/-- The least width of a number of 64 bits. -/
def widthOf (x : Int) : Int := if -128 ≤ x ∧ x < 128 then 8 else if -32768 ≤ x ∧ x < 32768 then 16 else if -2147483648 ≤ x ∧ x < 2147483648 then 32 else 64
def width_Of.f (a0 : ByteArray) : Option Int := (num_Int.f a0).bind fun p => some (if p.2 = true then widthOf p.1 else 128)
theorem fits_8 (x : Int) : width_Fits.f 2 x 8 = some (decide (-128 ≤ x ∧ x < 128)) := by
  have e : shl .i64 1 (wrap64 (8 - 1)) = 128 := by decide +kernel
  have e2 : wrap64 (-(128 : Int)) = -128 := by decide +kernel
  simp only [width_Fits.f, width_Fits.j0, e, e2]
  by_cases h1 : -128 ≤ x <;> by_cases h2 : x < 128 <;> simp [h1, h2, wrap64]
theorem fits_16 (x : Int) : width_Fits.f 2 x 16 = some (decide (-32768 ≤ x ∧ x < 32768)) := by
  have e : shl .i64 1 (wrap64 (16 - 1)) = 32768 := by decide +kernel
  have e2 : wrap64 (-(32768 : Int)) = -32768 := by decide +kernel
  simp only [width_Fits.f, width_Fits.j0, e, e2]
  by_cases h1 : -32768 ≤ x <;> by_cases h2 : x < 32768 <;> simp [h1, h2, wrap64]
theorem fits_32 (x : Int) : width_Fits.f 2 x 32 = some (decide (-2147483648 ≤ x ∧ x < 2147483648)) := by
  have e : shl .i64 1 (wrap64 (32 - 1)) = 2147483648 := by decide +kernel
  have e2 : wrap64 (-(2147483648 : Int)) = -2147483648 := by decide +kernel
  simp only [width_Fits.f, width_Fits.j0, e, e2]
  by_cases h1 : -2147483648 ≤ x <;> by_cases h2 : x < 2147483648 <;> simp [h1, h2, wrap64]
theorem fits_64 (x : Int) : width_Fits.f 2 x 64 = some true := by
  simp [width_Fits.f, width_Fits.j0]
abbrev widthsV : Value := .agg #[.int .i64 8, .int .i64 16, .int .i64 32, .int .i64 64, .int .i64 128]
theorem widths_calls (w : World) : Calls Tryz.prog 202 #[] w fun e w' => e = .returned widthsV ∧ Below w.heap.size w w' := by
  go_enter Tryz.func202, Tryz.ntmps202
  go_wp2
  exact bodyPost_ret (v := widthsV) (by simp [results, Tryz.results202, go_sem]) rfl ⟨rfl, (Below.refl _ _).alloc (Nat.le_refl _) _⟩
set_option maxHeartbeats 1000000 in
theorem width_Of.calls (a0 : ByteArray) (r : Int) (w : World) (h : width_Of.f a0 = some r) (hG : Glob w) :
    Calls Tryz.prog 173 #[.string a0] w fun e w' => e = .returned (.int .i64 r) ∧ Below w.heap.size w w' := by
  obtain ⟨⟨x, ok⟩, hi, h⟩ := Option.bind_eq_some_iff.mp h
  have HI := Aside0.mk hi
  clear hi
  obtain rfl := Option.some.inj h
  clear h
  have j0 : ∀ w, (Instr.index 202 widthsV (.int .i64 0)).run Tryz.prog w = .ok (.int .i64 8) w := fun _ => by kernel_rfl
  have j1 : ∀ w, (Instr.index 202 widthsV (.int .i64 1)).run Tryz.prog w = .ok (.int .i64 16) w := fun _ => by kernel_rfl
  have j2 : ∀ w, (Instr.index 202 widthsV (.int .i64 2)).run Tryz.prog w = .ok (.int .i64 32) w := fun _ => by kernel_rfl
  have j3 : ∀ w, (Instr.index 202 widthsV (.int .i64 3)).run Tryz.prog w = .ok (.int .i64 64) w := fun _ => by kernel_rfl
  cases ok with
  | false =>
    go_enter Tryz.func173, Tryz.ntmps173
    go_wp2_with (go_at_call 128; refine (num_Int.calls a0 _ _ _ HI.out hG).mono ?_; rintro e w1 ⟨rfl, hb⟩)
    go_ret
    exact ⟨by simp, hb⟩
  | true =>
    simp only [if_true]
    unfold widthOf
    have F8 := Aside0.mk (fits_8 x)
    have F16 := Aside0.mk (fits_16 x)
    have F32 := Aside0.mk (fits_32 x)
    have F64 := Aside0.mk (fits_64 x)
    by_cases h8 : -128 ≤ x ∧ x < 128
    · rw [if_pos h8]
      rw [decide_eq_true h8] at F8
      clear h8
      go_enter Tryz.func173, Tryz.ntmps173
      go_wp2_with (go_at_call 128; refine (num_Int.calls a0 _ _ _ HI.out hG).mono ?_; rintro e w1 ⟨rfl, hb⟩)
      refine (widths_calls _).mono ?_
      rintro e w2 ⟨rfl, hb2⟩
      go_wp2
      refine wp_loop_rounds 5 ?_
      rw [rounds_succ]
      go_wp2_with (go_at_call 73; refine (width_Fits.calls 2 x 8 _ _ F8.out).mono ?_; rintro e w3 ⟨rfl, ⟨nd, rfl⟩⟩)
      go_ret
      exact ⟨rfl, pw_below_drewN (below_then hb hb.size hb2) _⟩
    · rw [if_neg h8]
      rw [decide_eq_false h8] at F8
      clear h8
      by_cases h16 : -32768 ≤ x ∧ x < 32768
      · rw [if_pos h16]
        rw [decide_eq_true h16] at F16
        clear h16
        go_enter Tryz.func173, Tryz.ntmps173
        go_wp2_with (go_at_call 128; refine (num_Int.calls a0 _ _ _ HI.out hG).mono ?_; rintro e w1 ⟨rfl, hb⟩)
        refine (widths_calls _).mono ?_
        rintro e w2 ⟨rfl, hb2⟩
        go_wp2
        refine wp_loop_rounds 5 ?_
        rw [rounds_succ]
        go_wp2_with (go_at_call 73; refine (width_Fits.calls 2 x 8 _ _ F8.out).mono ?_; rintro e w3 ⟨rfl, ⟨nd, rfl⟩⟩)
        rw [rounds_succ]
        go_wp2_with (go_at_call 73; refine (width_Fits.calls 2 x 16 _ _ F16.out).mono ?_; rintro e w4 ⟨rfl, ⟨nd2, rfl⟩⟩)
        go_ret
        exact ⟨rfl, pw_below_drewN (below_then hb hb.size hb2) _⟩
      · rw [if_neg h16]
        rw [decide_eq_false h16] at F16
        clear h16
        by_cases h32 : -2147483648 ≤ x ∧ x < 2147483648
        · rw [if_pos h32]
          rw [decide_eq_true h32] at F32
          clear h32
          go_enter Tryz.func173, Tryz.ntmps173
          go_wp2_with (go_at_call 128; refine (num_Int.calls a0 _ _ _ HI.out hG).mono ?_; rintro e w1 ⟨rfl, hb⟩)
          refine (widths_calls _).mono ?_
          rintro e w2 ⟨rfl, hb2⟩
          go_wp2
          refine wp_loop_rounds 5 ?_
          rw [rounds_succ]
          go_wp2_with (go_at_call 73; refine (width_Fits.calls 2 x 8 _ _ F8.out).mono ?_; rintro e w3 ⟨rfl, ⟨nd, rfl⟩⟩)
          rw [rounds_succ]
          go_wp2_with (go_at_call 73; refine (width_Fits.calls 2 x 16 _ _ F16.out).mono ?_; rintro e w4 ⟨rfl, ⟨nd2, rfl⟩⟩)
          rw [rounds_succ]
          go_wp2_with (go_at_call 73; refine (width_Fits.calls 2 x 32 _ _ F32.out).mono ?_; rintro e w5 ⟨rfl, ⟨nd3, rfl⟩⟩)
          go_ret
          exact ⟨rfl, pw_below_drewN (below_then hb hb.size hb2) _⟩
        · rw [if_neg h32]
          rw [decide_eq_false h32] at F32
          clear h32
          go_enter Tryz.func173, Tryz.ntmps173
          go_wp2_with (go_at_call 128; refine (num_Int.calls a0 _ _ _ HI.out hG).mono ?_; rintro e w1 ⟨rfl, hb⟩)
          refine (widths_calls _).mono ?_
          rintro e w2 ⟨rfl, hb2⟩
          go_wp2
          refine wp_loop_rounds 5 ?_
          rw [rounds_succ]
          go_wp2_with (go_at_call 73; refine (width_Fits.calls 2 x 8 _ _ F8.out).mono ?_; rintro e w3 ⟨rfl, ⟨nd, rfl⟩⟩)
          rw [rounds_succ]
          go_wp2_with (go_at_call 73; refine (width_Fits.calls 2 x 16 _ _ F16.out).mono ?_; rintro e w4 ⟨rfl, ⟨nd2, rfl⟩⟩)
          rw [rounds_succ]
          go_wp2_with (go_at_call 73; refine (width_Fits.calls 2 x 32 _ _ F32.out).mono ?_; rintro e w5 ⟨rfl, ⟨nd3, rfl⟩⟩)
          rw [rounds_succ]
          go_wp2_with (go_at_call 73; refine (width_Fits.calls 2 x 64 _ _ F64.out).mono ?_; rintro e w6 ⟨rfl, ⟨nd4, rfl⟩⟩)
          go_ret
          exact ⟨rfl, pw_below_drewN (below_then hb hb.size hb2) _⟩
/-! ### slices_Max_int_int: function 203 -/
def slices_Max_int_int.f (l0 : List Int) : Option Int := if 0 < l0.length ∧ l0.length ≤ 9223372036854775807 then some (Lib.maxOf l0) else none
set_option maxHeartbeats 400000 in
theorem slices_Max_int_int.calls (A0 : Option Addr) (c0 : Nat) (l0 : List Int) (r : Int) (w : World) (hr0 : Kd.C (Kd.int .i64) w A0 l0.length l0) (hc0 : l0.length ≤ c0) (h : slices_Max_int_int.f l0 = some r) :
    Calls Tryz.prog 203 #[.slice A0 l0.length c0] w fun e w' => e = .returned (.int .i64 r) ∧ Below w.heap.size w w' := by
  unfold slices_Max_int_int.f at h
  split at h
  case isFalse => cases h
  rename_i hb
  obtain rfl := Option.some.inj h
  rcases row_cases (enc := Value.int .i64) (h1 := fun _ => rfl) hr0 with ⟨rfl, rfl⟩ | ⟨a, rfl, rfl⟩ | ⟨b, off, rfl, h0, hc⟩
  · simp at hb
  · simp at hb
  · refine (Tryz.slices_Max_int b off l0.length c0 l0 w hb.1 (Nat.le_refl _) hb.2 (fun j hj => hc j 0 hj)).mono ?_
    rintro e w' ⟨rfl, rfl⟩
    exact ⟨by rw [List.take_length], Below.refl _ _⟩
/-! ### width_Max: function 174 -/
def width_Max.f (l0 : List Int) : Option (Int) := if (l0.length : Int) = 0 then (some 8) else ((slices_Max_int_int.f l0).bind fun t101 => (some t101))
set_option maxHeartbeats 8000000 in
set_option maxRecDepth 100000 in
theorem width_Max.calls (A0 : Option Addr) (c0 : Nat) (l0 : List Int) (r : Int) (w : World) (hr0 : Kd.C (Kd.int .i64) w A0 l0.length l0) (hc0 : l0.length ≤ c0) (h : width_Max.f l0 = some r) :
    Calls Tryz.prog 174 #[.slice A0 l0.length c0] w fun e w' => e = .returned (.int .i64 r) ∧ Below w.heap.size w w' := by
  have HR0 := Aside0.mk hr0
  have HC0 := Aside0.mk hc0
  clear hr0 hc0
  have HB := Aside0.mk (Below.refl w.heap.size w)
  have H : (if (l0.length : Int) = 0 then (some 8) else ((slices_Max_int_int.f l0).bind fun t101 => (some t101))) = some r := h
  clear h
  by_cases c2 : (l0.length : Int) = 0
  · rw [if_pos c2] at H
    have c2b0 : ((l0.length : Int) == 0) = true := beq_iff_eq.mpr c2
    have c2b1 : ((l0.length : Int) != 0) = false := bne_eq_false_iff_eq.mpr c2
    clear c2
    obtain rfl := Option.some.inj H
    go_enter Tryz.func174, Tryz.ntmps174
    go_wp2
    go_ret
    exact ⟨Re_, Bl_⟩
  · rw [if_neg c2] at H
    have c2b0 : ((l0.length : Int) == 0) = false := beq_eq_false_iff_ne.mpr c2
    have c2b1 : ((l0.length : Int) != 0) = true := bne_iff_ne.mpr c2
    have c2b2 : ¬ (l0 = []) := fun h_ => c2 (by rw [h_]; rfl)
    obtain ⟨t101, A3, H⟩ := bnd_ H
    try dsimp -simprocs only at H
    obtain rfl := Option.some.inj H
    go_enter Tryz.func174, Tryz.ntmps174
    go_wp2_with (first | ((with_reducible refine gate_callee (f := 203) rfl ?_); refine goesL_ (some 7) rfl rfl Tryz.func203 (by kernel_rfl) rfl #[.slice A0 l0.length c0] rfl Ga_ ?_; (with_reducible refine (slices_Max_int_int.calls _ _ l0 t101 _ ?side1 ?side2 A3.out).mono ?_); (case side1 => repeat (first | exact HR0.out | (with_reducible refine Kd.C_alloc ?_ _) | (with_reducible refine Kd.C_drewN ?_ _) | (with_reducible refine Kd.C_drew ?_))); (case side2 => exact HC0.out); rintro e w4 ⟨rfl, hb⟩; refine ⟨_, rfl, ?_⟩; replace HB := Bs_ hb; (try clear hb); (try clear hb2); (try clear hk); (try clear hi)))
    go_ret
    exact ⟨Re_, Bl_⟩
/-! ### val_Width: function 127 -/
def val_Width.l0 : Nat → List Int → List ByteArray → Int → Int → Option (Int)
  | 0, _, _, _, _ => none
  | k + 1, x3, x7, x8, x9 => if x9 < x8 then (if 0 ≤ x9 then (if x9 < (x7.length : Int) then ((width_Of.f (rdOf ByteArray.empty x7 x9)).bind fun t103 => (if x3.length < 17592186044416 then (val_Width.l0 k (x3 ++ [t103]) x7 x8 (wrap64 (x9 + 1))) else (none))) else (none)) else (none)) else ((width_Max.f x3).bind fun t107 => (some t107))
def val_Width.f (k : Nat) (l0_0 : List Int) (l0_1 : List ByteArray) : Option (Int) := val_Width.l0 k ([] : List Int) l0_1 (l0_1.length : Int) 0
set_option maxHeartbeats 8000000 in
set_option maxRecDepth 100000 in
theorem val_Width.calls (k : Nat) (A0_0 : Option Addr) (c0_0 : Nat) (l0_0 : List Int) (A0_1 : Option Addr) (c0_1 : Nat) (l0_1 : List ByteArray) (r : Int) (w : World) (hr0_0 : Kd.C (Kd.int .i64) w A0_0 l0_0.length l0_0) (hc0_0 : l0_0.length ≤ c0_0) (hr0_1 : Kd.C Kd.string w A0_1 l0_1.length l0_1) (hc0_1 : l0_1.length ≤ c0_1) (h : val_Width.f k l0_0 l0_1 = some r) (hG : Glob w) :
    Calls Tryz.prog 127 #[.agg #[.slice A0_0 l0_0.length c0_0, .slice A0_1 l0_1.length c0_1]] w fun e w' => e = .returned (.int .i64 r) ∧ Below w.heap.size w w' := by
  have hu34 := Tryz.underlying34
  have HR0_0 := Aside0.mk hr0_0
  have HC0_0 := Aside0.mk hc0_0
  clear hr0_0 hc0_0
  have HR0_1 := Aside0.mk hr0_1
  have HC0_1 := Aside0.mk hc0_1
  clear hr0_1 hc0_1
  have HB := Aside0.mk (Below.refl w.heap.size w)
  have H : (val_Width.l0 k ([] : List Int) l0_1 (l0_1.length : Int) 0) = some r := h
  clear h
  have H' := Aside0.mk H
  clear H
  go_enter Tryz.func127, Tryz.ntmps127
  go_wp2_with (first | ((with_reducible refine gate_dst (N := 1) rfl ?_); refine bx_ 1 #[.slice A0_0 l0_0.length c0_0, .slice A0_1 l0_1.length c0_1] 34 ?_; intro gb101 hg w2 hbox hb; have BK101 := Aside0.mk (hbox); have GW101 := (Bg_ hg : Aside0 (w.heap.size ≤ gb101)); have GE101 := (Bg_ hg : Aside0 (w.heap.size ≤ gb101)); replace HB := Bs_ hb; clear hb hbox hg; obtain ⟨hcz3_0, hcz3_1⟩ := c2_ BK101; obtain ⟨hfz3_0, hfz3_1⟩ := f2_ BK101))
  go_loopg [3, 9] k (fun kq v3 v9 w' => ∃ (x3_1 : List Int) (x9_1 : Int), v9 = .int .i64 x9_1 ∧ Aside0 (val_Width.l0 kq x3_1 l0_1 (l0_1.length : Int) x9_1 = some r) ∧ Aside0 (kq ≤ k) ∧ Aside0 (Kd.R (Kd.int .i64) 3 w' w.heap.size (fun _ => True) v3 x3_1) ∧ Aside0 (w'.heap[gb101]? = some (.cells #[(.slice A0_0 l0_0.length c0_0), (.slice A0_1 l0_1.length c0_1)] 34 (0, 0))) ∧ Aside0 (Below w.heap.size w w'))
  case atStart => exact ⟨(([] : List Int)), (0), Rf_, H', ⟨Nat.le_refl _⟩, ⟨by first | exact Kd.R_nil _ _ _ _ _ | exact Kd.N_nil _ _ _ _ _ | exact Kd.V_nil _ _ _ _ _ | exact Kd.Q_nil _ _ _ _ _ | exact Kd.S_nil _ _ _ _ _⟩, ⟨by (with_reducible repeat (first | refine blk_drewN ?_ _ | refine blk_drew ?_ | refine blk_alloc ?_ _)); exact BK101.out⟩, ⟨Bl_⟩⟩
  case round =>
    clear H'
    try clear c1
    try clear p2
    try clear hcz3_0
    try clear hcz3_1
    try clear hfz3_0
    try clear hfz3_1
    obtain ⟨x3_1, x9_1, rfl, HA, HK1, HO_3, BK101, HB⟩ := hrel
    cases gk with
    | zero => exact absurd HA.out (by simp [val_Width.l0])
    | succ k1 =>
      have H := HA.out
      clear HA
      simp only [val_Width.l0] at H
      by_cases c4 : x9_1 < (l0_1.length : Int)
      · rw [if_pos c4] at H
        have c4b0 : decide (x9_1 < (l0_1.length : Int)) = true := decide_eq_true c4
        clear c4
        by_cases c5 : 0 ≤ x9_1
        · rw [if_pos c5] at H
          have c5b0 : decide (0 ≤ x9_1) = true := decide_eq_true c5
          clear c5
          by_cases c6 : x9_1 < (l0_1.length : Int)
          · rw [if_pos c6] at H
            have c6b0 : decide (x9_1 < (l0_1.length : Int)) = true := decide_eq_true c6
            clear c6
            obtain ⟨t103, A7, H⟩ := bnd_ H
            try dsimp -simprocs only at H
            by_cases c8 : x3_1.length < 17592186044416
            · rw [if_pos c8] at H
              have LMc8 := Aside0.mk c8
              clear c8
              obtain ⟨y104, hy104⟩ : ∃ y_ : List Int, y_ = (x3_1 ++ [t103]) := ⟨_, rfl⟩
              replace H : (val_Width.l0 k1 y104 l0_1 (l0_1.length : Int) (wrap64 (x9_1 + 1))) = some r := by first | (rw [hy104]; with_reducible exact H) | (have H2_ := (Option.bind_some _ _).symm.trans H; rw [hy104]; with_reducible exact H2_) | (have H2_ := (Option.bind_some _ _).symm.trans H; with_reducible exact H2_) | with_reducible exact H | (rw [hy104]; exact H) | exact H
              have Ny104 := Aside0.mk hy104
              clear hy104
              have H' := Aside0.mk H
              clear H
              have p102 : 0 ≤ (x9_1 : Int) := of_decide_eq_true As_
              have q102 : x9_1 < (l0_1.length : Int) := of_decide_eq_true As_
              obtain ⟨ad102, e102, hx102_0⟩ := Kd.at_string HR0_1.out x9_1 p102 q102
              cases e102
              replace hx102_0 := (HB.out.cell (World.block_lt_of_cell? w _ hx102_0)).trans hx102_0
              replace p102 := eq_true p102
              replace q102 := eq_true q102
              go_wp2_with (first | ((with_reducible refine gate_callee (f := 173) rfl ?_); refine goesL_ (some 15) rfl rfl Tryz.func173 (by kernel_rfl) rfl #[.string (rdOf ByteArray.empty l0_1 x9_1)] rfl Ga_ ?_; (with_reducible refine (width_Of.calls (rdOf ByteArray.empty l0_1 x9_1) t103 _ A7.out ?side1).mono ?_); (case side1 => first | exact hG | exact Glob.below hG Bl_); rintro e w9 ⟨rfl, hb⟩; refine ⟨_, rfl, ?_⟩; replace HO_3 := Aside0.mk (Kd.R_below (Pr_ HO_3.out) hb); replace BK101 := kb_ BK101 hb; replace HB := Bs_ hb; (try clear hb); (try clear hb2); (try clear hk); (try clear hi)) | ((with_reducible refine gate_builtin (b := .append) (xs := #[.tmp 13, .tmp 16]) rfl ?_); at_builtin; refine Kd.R_append (Kd.int .i64) (w0 := w) w.heap.size rfl (.tmp 13) (.tmp 16) 22 3 (.int .i64 0) 8 rfl Tryz.underlying22 info3 rfl (by decide) (by omega) u3 x3_1 t103 [.int .i64 t103] (fun _ => True) (fun _ => False) rfl rfl ?aP (fun _ hk => hk.elim) ?aF ?aO ?aB ?aS ?aL ?_; (case aP => exact rfl); (case aB => exact Bl_); (case aF => exact (fun _ _ => trivial)); (case aO => exact (Pr_ HO_3.out)); (case aS => exact Bz_); (case aL => have := LMc8.out; omega); intro v105 w10 ho hb hg hat; rw [← Ny104.out] at ho; replace BK101 := kg_ BK101 hg (Kd.R_ne HO_3.out BK101.out (by decide)); replace HB := Aside0.mk (hb); have HO106 := Aside0.mk (ho); clear HO_3; clear ho hb hg hat))
              go_roundg k1
              case measure => have := HK1.out; omega
              case rel => exact ⟨(y104), (wrap64 (x9_1 + 1)), Rf_, H', ⟨by have := HK1.out; omega⟩, ⟨by (with_reducible repeat (first | apply Kd.R_alloc | apply Kd.R_drewN | apply Kd.R_drew)); exact HO106.out⟩, ⟨by (with_reducible repeat (first | refine blk_drewN ?_ _ | refine blk_drew ?_ | refine blk_alloc ?_ _)); exact BK101.out⟩, ⟨Bl_⟩⟩
            · rw [if_neg c8] at H
              exact absurd H (by simp)
          · rw [if_neg c6] at H
            exact absurd H (by simp)
        · rw [if_neg c5] at H
          exact absurd H (by simp)
      · rw [if_neg c4] at H
        have c4b0 : decide (x9_1 < (l0_1.length : Int)) = false := decide_eq_false c4
        clear c4
        obtain ⟨t107, A11, H⟩ := bnd_ H
        try dsimp -simprocs only at H
        obtain rfl := Option.some.inj H
        obtain ⟨Ao12, co12, eo12⟩ := Kd.R_slice HO_3.out
        subst eo12
        go_wp2_with (first | ((with_reducible refine gate_callee (f := 174) rfl ?_); refine goesL_ (some 20) rfl rfl Tryz.func174 (by kernel_rfl) rfl #[.slice Ao12 x3_1.length co12] rfl Ga_ ?_; (with_reducible refine (width_Max.calls _ _ x3_1 t107 _ ?side1 ?side2 A11.out).mono ?_); (case side1 => exact Pc_ ((Kd.R_reads' HO_3.out).2.2)); (case side2 => exact (Kd.R_reads' HO_3.out).2.1); rintro e w13 ⟨rfl, hb⟩; refine ⟨_, rfl, ?_⟩; replace HO_3 := Aside0.mk (Kd.R_below (Pr_ HO_3.out) hb); replace BK101 := kb_ BK101 hb; replace HB := Bs_ hb; (try clear hb); (try clear hb2); (try clear hk); (try clear hi)))
        go_ret
        exact ⟨Re_, Bl_⟩

end Go.Proofs.YtlemmdfjcnhjkaaGreatDoor.P
