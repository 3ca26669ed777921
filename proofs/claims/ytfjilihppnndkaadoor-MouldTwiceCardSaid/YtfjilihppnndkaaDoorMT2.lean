-- Written by drive.py of this claim's own session, by way of the kit's print. Lean checks it.
import Derived.Test.YtfjilihppnndkaaDoorMT1
import Derived.RangeFuncNested
import Derived.RangeFuncBound
import Derived.RangeFuncCalls
import Derived.RangeFuncLeaves
import Derived.RangeFuncFrom
import Derived.Shelf.Abstract
import Derived.OwnWalkIn
import Derived.TacticsInMore
import Derived.LoopNIn
import Derived.LoopIn
import Derived.OrdersIn
namespace Go.Proofs.YtfjilihppnndkaaDoor.P
open Go.RowKit Go.Proofs.YtfjilihppnndkaaDoorW.PrintWords Go.Proofs.YtfjilihppnndkaaDoorW.PrintLast Go.Proofs.YtfjilihppnndkaaDoorW.PrintMore
attribute [local go_sem] max2_int min2_int max_two min_two max_three min_three max_four min_four   -- for this text's walks alone
set_option linter.unusedVariables false
set_option linter.unusedSimpArgs false

/-! ### slices_Index_int_int: function 99 -/
def slices_Index_int_int.l0 : Nat → List Int → Int → Int → Int → Option (Int)
  | 0, _, _, _, _ => none
  | k + 1, x0, x1, x7, x8 => if x8 < x7 then (if 0 ≤ x8 then (if x8 < (x0.length : Int) then (if x1 = (rd x0 x8) then (some x8) else (slices_Index_int_int.l0 k x0 x1 x7 (wrap64 (x8 + 1)))) else (none)) else (none)) else (some (-1))
def slices_Index_int_int.f (k : Nat) (l0 : List Int) (a1 : Int) : Option (Int) := slices_Index_int_int.l0 k l0 a1 (l0.length : Int) 0
set_option maxHeartbeats 8000000 in
set_option maxRecDepth 100000 in
theorem slices_Index_int_int.calls (k : Nat) (A0 : Option Addr) (c0 : Nat) (l0 : List Int) (a1 : Int) (r : Int) (w : World) (hr0 : Kd.C (Kd.int .i64) w A0 l0.length l0) (hc0 : l0.length ≤ c0) (h : slices_Index_int_int.f k l0 a1 = some r) :
    Calls Tryd.prog 99 #[.slice A0 l0.length c0, .int .i64 a1] w fun e w' => e = .returned (.int .i64 r) ∧ Drawn0 w w' := by
  have HR0 := Aside0.mk hr0
  have HC0 := Aside0.mk hc0
  clear hr0 hc0
  have H : (slices_Index_int_int.l0 k l0 a1 (l0.length : Int) 0) = some r := h
  clear h
  have H' := Aside0.mk H
  clear H
  go_enter Tryd.func99, Tryd.ntmps99
  go_wp2
  go_loopg [8] k (fun kq v8 w' => ∃ (x8_1 : Int), v8 = .int .i64 x8_1 ∧ Aside0 (slices_Index_int_int.l0 kq l0 a1 (l0.length : Int) x8_1 = some r) ∧ Aside0 (kq ≤ k) ∧ Drawn0 w w')
  case atStart => exact ⟨(0), Rf_, H', ⟨Nat.le_refl _⟩, Dw_⟩
  case round =>
    clear H'
    try clear p2
    obtain ⟨x8_1, rfl, HA, HK1, ⟨m1, rfl⟩⟩ := hrel
    cases gk with
    | zero => exact absurd HA.out (by simp [slices_Index_int_int.l0])
    | succ k1 =>
      have H := HA.out
      clear HA
      simp only [slices_Index_int_int.l0] at H
      by_cases c3 : x8_1 < (l0.length : Int)
      · rw [if_pos c3] at H
        have c3b0 : decide (x8_1 < (l0.length : Int)) = true := decide_eq_true c3
        clear c3
        by_cases c4 : 0 ≤ x8_1
        · rw [if_pos c4] at H
          have c4b0 : decide (0 ≤ x8_1) = true := decide_eq_true c4
          clear c4
          by_cases c5 : x8_1 < (l0.length : Int)
          · rw [if_pos c5] at H
            have c5b0 : decide (x8_1 < (l0.length : Int)) = true := decide_eq_true c5
            clear c5
            by_cases c6 : a1 = (rd l0 x8_1)
            · rw [if_pos c6] at H
              have c6b0 : (a1 == (rd l0 x8_1)) = true := beq_iff_eq.mpr c6
              have c6b1 : (a1 != (rd l0 x8_1)) = false := bne_eq_false_iff_eq.mpr c6
              clear c6
              obtain rfl := Option.some.inj H
              have p101 : 0 ≤ (x8_1 : Int) := of_decide_eq_true As_
              have q101 : x8_1 < (l0.length : Int) := of_decide_eq_true As_
              obtain ⟨ad101, e101, hx101_0⟩ := Kd.at_int HR0.out x8_1 p101 q101
              cases e101
              replace p101 := eq_true p101
              replace q101 := eq_true q101
              go_wp2
              go_ret
              exact ⟨Rf_, Dw_⟩
            · rw [if_neg c6] at H
              have c6b0 : (a1 == (rd l0 x8_1)) = false := beq_eq_false_iff_ne.mpr c6
              have c6b1 : (a1 != (rd l0 x8_1)) = true := bne_iff_ne.mpr c6
              have H' := Aside0.mk H
              clear H
              have p101 : 0 ≤ (x8_1 : Int) := of_decide_eq_true As_
              have q101 : x8_1 < (l0.length : Int) := of_decide_eq_true As_
              obtain ⟨ad101, e101, hx101_0⟩ := Kd.at_int HR0.out x8_1 p101 q101
              cases e101
              replace p101 := eq_true p101
              replace q101 := eq_true q101
              go_wp2
              go_roundg k1
              case measure => have := HK1.out; omega
              case rel => exact ⟨(wrap64 (x8_1 + 1)), Rf_, H', ⟨by have := HK1.out; omega⟩, Dw_⟩
          · rw [if_neg c5] at H
            exact absurd H (by simp)
        · rw [if_neg c4] at H
          exact absurd H (by simp)
      · rw [if_neg c3] at H
        have c3b0 : decide (x8_1 < (l0.length : Int)) = false := decide_eq_false c3
        clear c3
        obtain rfl := Option.some.inj H
        go_wp2
        go_ret
        exact ⟨Rf_, Dw_⟩
/-! ### slices_Contains_int_int: function 72 -/
def slices_Contains_int_int.f (k : Nat) (l0 : List Int) (a1 : Int) : Option (Bool) := (slices_Index_int_int.f k l0 a1).bind fun t101 => (some (decide (t101 ≥ 0)))
set_option maxHeartbeats 8000000 in
set_option maxRecDepth 100000 in
theorem slices_Contains_int_int.calls (k : Nat) (A0 : Option Addr) (c0 : Nat) (l0 : List Int) (a1 : Int) (r : Bool) (w : World) (hr0 : Kd.C (Kd.int .i64) w A0 l0.length l0) (hc0 : l0.length ≤ c0) (h : slices_Contains_int_int.f k l0 a1 = some r) :
    Calls Tryd.prog 72 #[.slice A0 l0.length c0, .int .i64 a1] w fun e w' => e = .returned (.bool r) ∧ Drawn0 w w' := by
  have HR0 := Aside0.mk hr0
  have HC0 := Aside0.mk hc0
  clear hr0 hc0
  have H : ((slices_Index_int_int.f k l0 a1).bind fun t101 => (some (decide (t101 ≥ 0)))) = some r := h
  clear h
  obtain ⟨t101, A3, H⟩ := bnd_ H
  try dsimp -simprocs only at H
  obtain rfl := Option.some.inj H
  go_enter Tryd.func72, Tryd.ntmps72
  go_wp2_with (first | ((with_reducible refine gate_callee (f := 99) rfl ?_); refine goesL_ (some 7) rfl rfl Tryd.func99 (by kernel_rfl) rfl #[.slice A0 l0.length c0, .int .i64 a1] rfl Ga_ ?_; (with_reducible refine (slices_Index_int_int.calls k _ _ l0 a1 t101 _ ?side1 ?side2 A3.out).mono ?_); (case side1 => repeat (first | exact HR0.out | (with_reducible refine Kd.C_alloc ?_ _) | (with_reducible refine Kd.C_drewN ?_ _) | (with_reducible refine Kd.C_drew ?_))); (case side2 => exact HC0.out); rintro e w' ⟨rfl, ⟨nd, rfl⟩⟩; refine ⟨_, rfl, ?_⟩))
  go_ret
  exact ⟨Rf_, Dw_⟩
/-! ### shape_Size_1: function 82 -/
def shape_Size_1.f (a0 : Int) : Option (Bool) := some (decide (a0 < 0))
set_option maxHeartbeats 8000000 in
set_option maxRecDepth 100000 in
theorem shape_Size_1.calls (a0 : Int) (r : Bool) (w : World) (h : shape_Size_1.f a0 = some r) :
    Calls Tryd.prog 82 #[.int .i64 a0] w fun e w' => e = .returned (.bool r) ∧ Drawn0 w w' := by
  have H : (some (decide (a0 < 0))) = some r := h
  clear h
  obtain rfl := Option.some.inj H
  go_enter Tryd.func82, Tryd.ntmps82
  go_wp2
  go_ret
  exact ⟨Rf_, Dw_⟩
/-! ### slices_IndexFunc_int_int_at_shape_Size_1: function 1002107 -/
def slices_IndexFunc_int_int_at_shape_Size_1.l0 : Nat → List Int → Int → Int → Option (Int)
  | 0, _, _, _ => none
  | k + 1, x0, x7, x8 => if x8 < x7 then (if 0 ≤ x8 then (if x8 < (x0.length : Int) then ((shape_Size_1.f (rd x0 x8)).bind fun t102 => (if t102 = true then (some x8) else (slices_IndexFunc_int_int_at_shape_Size_1.l0 k x0 x7 (wrap64 (x8 + 1))))) else (none)) else (none)) else (some (-1))
def slices_IndexFunc_int_int_at_shape_Size_1.f (k : Nat) (l0 : List Int) (a1 : Value) : Option (Int) := slices_IndexFunc_int_int_at_shape_Size_1.l0 k l0 (l0.length : Int) 0
set_option maxHeartbeats 8000000 in
set_option maxRecDepth 100000 in
theorem slices_IndexFunc_int_int_at_shape_Size_1.calls (k : Nat) (A0 : Option Addr) (c0 : Nat) (l0 : List Int) (a1 : Value) (r : Int) (w : World) (hr0 : Kd.C (Kd.int .i64) w A0 l0.length l0) (hc0 : l0.length ≤ c0) (h : slices_IndexFunc_int_int_at_shape_Size_1.f k l0 a1 = some r) :
    Calls Tryd.prog 107 #[.slice A0 l0.length c0, (.func (.func 82) #[] #[])] w fun e w' => e = .returned (.int .i64 r) ∧ Below w.heap.size w w' := by
  have HR0 := Aside0.mk hr0
  have HC0 := Aside0.mk hc0
  clear hr0 hc0
  have HB := Aside0.mk (Below.refl w.heap.size w)
  have H : (slices_IndexFunc_int_int_at_shape_Size_1.l0 k l0 (l0.length : Int) 0) = some r := h
  clear h
  have H' := Aside0.mk H
  clear H
  go_enter Tryd.func107, Tryd.ntmps107
  go_wp2
  go_loopg [8] k (fun kq v8 w' => ∃ (x8_1 : Int), v8 = .int .i64 x8_1 ∧ Aside0 (slices_IndexFunc_int_int_at_shape_Size_1.l0 kq l0 (l0.length : Int) x8_1 = some r) ∧ Aside0 (kq ≤ k) ∧ Aside0 (Below w.heap.size w w'))
  case atStart => exact ⟨(0), Rf_, H', ⟨Nat.le_refl _⟩, ⟨Bl_⟩⟩
  case round =>
    clear H'
    try clear c1
    try clear p2
    obtain ⟨x8_1, rfl, HA, HK1, HB⟩ := hrel
    cases gk with
    | zero => exact absurd HA.out (by simp [slices_IndexFunc_int_int_at_shape_Size_1.l0])
    | succ k1 =>
      have H := HA.out
      clear HA
      simp only [slices_IndexFunc_int_int_at_shape_Size_1.l0] at H
      by_cases c3 : x8_1 < (l0.length : Int)
      · rw [if_pos c3] at H
        have c3b0 : decide (x8_1 < (l0.length : Int)) = true := decide_eq_true c3
        clear c3
        by_cases c4 : 0 ≤ x8_1
        · rw [if_pos c4] at H
          have c4b0 : decide (0 ≤ x8_1) = true := decide_eq_true c4
          clear c4
          by_cases c5 : x8_1 < (l0.length : Int)
          · rw [if_pos c5] at H
            have c5b0 : decide (x8_1 < (l0.length : Int)) = true := decide_eq_true c5
            clear c5
            obtain ⟨t102, A6, H⟩ := bnd_ H
            try dsimp -simprocs only at H
            by_cases c7 : t102 = true
            · subst c7
              have H1 : (some x8_1) = some r := by rw [if_pos rfl] at H; exact H
              clear H
              have H := H1
              clear H1
              obtain rfl := Option.some.inj H
              have p101 : 0 ≤ (x8_1 : Int) := of_decide_eq_true As_
              have q101 : x8_1 < (l0.length : Int) := of_decide_eq_true As_
              obtain ⟨ad101, e101, hx101_0⟩ := Kd.at_int HR0.out x8_1 p101 q101
              cases e101
              replace hx101_0 := (HB.out.cell (World.block_lt_of_cell? w _ hx101_0)).trans hx101_0
              replace p101 := eq_true p101
              replace q101 := eq_true q101
              go_wp2_with (first | (go_at_call 82; (with_reducible refine (shape_Size_1.calls (rd l0 x8_1) true _ A6.out).mono ?_); rintro e w' ⟨rfl, ⟨nd, rfl⟩⟩))
              go_ret
              exact ⟨Re_, Bl_⟩
            · replace c7 := Bool.eq_false_iff.mpr c7
              subst c7
              have H1 : (slices_IndexFunc_int_int_at_shape_Size_1.l0 k1 l0 (l0.length : Int) (wrap64 (x8_1 + 1))) = some r := by rw [if_neg (show ¬ (false = true) by decide)] at H; exact H
              clear H
              have H := H1
              clear H1
              have H' := Aside0.mk H
              clear H
              have p101 : 0 ≤ (x8_1 : Int) := of_decide_eq_true As_
              have q101 : x8_1 < (l0.length : Int) := of_decide_eq_true As_
              obtain ⟨ad101, e101, hx101_0⟩ := Kd.at_int HR0.out x8_1 p101 q101
              cases e101
              replace hx101_0 := (HB.out.cell (World.block_lt_of_cell? w _ hx101_0)).trans hx101_0
              replace p101 := eq_true p101
              replace q101 := eq_true q101
              go_wp2_with (first | (go_at_call 82; (with_reducible refine (shape_Size_1.calls (rd l0 x8_1) false _ A6.out).mono ?_); rintro e w' ⟨rfl, ⟨nd, rfl⟩⟩))
              go_roundg k1
              case measure => have := HK1.out; omega
              case rel => exact ⟨(wrap64 (x8_1 + 1)), Rf_, H', ⟨by have := HK1.out; omega⟩, ⟨Bl_⟩⟩
          · rw [if_neg c5] at H
            exact absurd H (by simp)
        · rw [if_neg c4] at H
          exact absurd H (by simp)
      · rw [if_neg c3] at H
        have c3b0 : decide (x8_1 < (l0.length : Int)) = false := decide_eq_false c3
        clear c3
        obtain rfl := Option.some.inj H
        go_wp2
        go_ret
        exact ⟨Re_, Bl_⟩
/-! ### slices_ContainsFunc_int_int_at_shape_Size_1: function 1001081 -/
def slices_ContainsFunc_int_int_at_shape_Size_1.f (k : Nat) (l0 : List Int) (a1 : Value) : Option (Bool) := (slices_IndexFunc_int_int_at_shape_Size_1.f k l0 (.func (.func 82) #[] #[] : Value)).bind fun t101 => (some (decide (t101 ≥ 0)))
set_option maxHeartbeats 8000000 in
set_option maxRecDepth 100000 in
theorem slices_ContainsFunc_int_int_at_shape_Size_1.calls (k : Nat) (A0 : Option Addr) (c0 : Nat) (l0 : List Int) (a1 : Value) (r : Bool) (w : World) (hr0 : Kd.C (Kd.int .i64) w A0 l0.length l0) (hc0 : l0.length ≤ c0) (h : slices_ContainsFunc_int_int_at_shape_Size_1.f k l0 a1 = some r) :
    Calls Tryd.prog 81 #[.slice A0 l0.length c0, (.func (.func 82) #[] #[])] w fun e w' => e = .returned (.bool r) ∧ Below w.heap.size w w' := by
  have HR0 := Aside0.mk hr0
  have HC0 := Aside0.mk hc0
  clear hr0 hc0
  have HB := Aside0.mk (Below.refl w.heap.size w)
  have H : ((slices_IndexFunc_int_int_at_shape_Size_1.f k l0 (.func (.func 82) #[] #[] : Value)).bind fun t101 => (some (decide (t101 ≥ 0)))) = some r := h
  clear h
  obtain ⟨t101, A3, H⟩ := bnd_ H
  try dsimp -simprocs only at H
  obtain rfl := Option.some.inj H
  go_enter Tryd.func81, Tryd.ntmps81
  go_wp2_with (first | ((with_reducible refine gate_callee (f := 107) rfl ?_); refine goesL_ (some 7) rfl rfl Tryd.func107 (by kernel_rfl) rfl #[.slice A0 l0.length c0, (.func (.func 82) #[] #[] : Value)] rfl Ga_ ?_; (with_reducible refine (slices_IndexFunc_int_int_at_shape_Size_1.calls k _ _ l0 (.func (.func 82) #[] #[] : Value) t101 _ ?side1 ?side2 A3.out).mono ?_); (case side1 => repeat (first | exact HR0.out | (with_reducible refine Kd.C_alloc ?_ _) | (with_reducible refine Kd.C_drewN ?_ _) | (with_reducible refine Kd.C_drew ?_))); (case side2 => exact HC0.out); rintro e w4 ⟨rfl, hb⟩; refine ⟨_, rfl, ?_⟩; replace HB := Bs_ hb; (try clear hb); (try clear hb2); (try clear hk); (try clear hi)))
  go_ret
  exact ⟨Re_, Bl_⟩
/-! ### shape_Size_2: function 83 -/
def shape_Size_2.f (a0 : Int) : Option (Bool) := some (decide (a0 > 1099511627776))
set_option maxHeartbeats 8000000 in
set_option maxRecDepth 100000 in
theorem shape_Size_2.calls (a0 : Int) (r : Bool) (w : World) (h : shape_Size_2.f a0 = some r) :
    Calls Tryd.prog 83 #[.int .i64 a0] w fun e w' => e = .returned (.bool r) ∧ Drawn0 w w' := by
  have H : (some (decide (a0 > 1099511627776))) = some r := h
  clear h
  obtain rfl := Option.some.inj H
  go_enter Tryd.func83, Tryd.ntmps83
  go_wp2
  go_ret
  exact ⟨Rf_, Dw_⟩
/-! ### slices_IndexFunc_int_int_at_shape_Size_2: function 1004107 -/
def slices_IndexFunc_int_int_at_shape_Size_2.l0 : Nat → List Int → Int → Int → Option (Int)
  | 0, _, _, _ => none
  | k + 1, x0, x7, x8 => if x8 < x7 then (if 0 ≤ x8 then (if x8 < (x0.length : Int) then ((shape_Size_2.f (rd x0 x8)).bind fun t102 => (if t102 = true then (some x8) else (slices_IndexFunc_int_int_at_shape_Size_2.l0 k x0 x7 (wrap64 (x8 + 1))))) else (none)) else (none)) else (some (-1))
def slices_IndexFunc_int_int_at_shape_Size_2.f (k : Nat) (l0 : List Int) (a1 : Value) : Option (Int) := slices_IndexFunc_int_int_at_shape_Size_2.l0 k l0 (l0.length : Int) 0
set_option maxHeartbeats 8000000 in
set_option maxRecDepth 100000 in
theorem slices_IndexFunc_int_int_at_shape_Size_2.calls (k : Nat) (A0 : Option Addr) (c0 : Nat) (l0 : List Int) (a1 : Value) (r : Int) (w : World) (hr0 : Kd.C (Kd.int .i64) w A0 l0.length l0) (hc0 : l0.length ≤ c0) (h : slices_IndexFunc_int_int_at_shape_Size_2.f k l0 a1 = some r) :
    Calls Tryd.prog 107 #[.slice A0 l0.length c0, (.func (.func 83) #[] #[])] w fun e w' => e = .returned (.int .i64 r) ∧ Below w.heap.size w w' := by
  have HR0 := Aside0.mk hr0
  have HC0 := Aside0.mk hc0
  clear hr0 hc0
  have HB := Aside0.mk (Below.refl w.heap.size w)
  have H : (slices_IndexFunc_int_int_at_shape_Size_2.l0 k l0 (l0.length : Int) 0) = some r := h
  clear h
  have H' := Aside0.mk H
  clear H
  go_enter Tryd.func107, Tryd.ntmps107
  go_wp2
  go_loopg [8] k (fun kq v8 w' => ∃ (x8_1 : Int), v8 = .int .i64 x8_1 ∧ Aside0 (slices_IndexFunc_int_int_at_shape_Size_2.l0 kq l0 (l0.length : Int) x8_1 = some r) ∧ Aside0 (kq ≤ k) ∧ Aside0 (Below w.heap.size w w'))
  case atStart => exact ⟨(0), Rf_, H', ⟨Nat.le_refl _⟩, ⟨Bl_⟩⟩
  case round =>
    clear H'
    try clear c1
    try clear p2
    obtain ⟨x8_1, rfl, HA, HK1, HB⟩ := hrel
    cases gk with
    | zero => exact absurd HA.out (by simp [slices_IndexFunc_int_int_at_shape_Size_2.l0])
    | succ k1 =>
      have H := HA.out
      clear HA
      simp only [slices_IndexFunc_int_int_at_shape_Size_2.l0] at H
      by_cases c3 : x8_1 < (l0.length : Int)
      · rw [if_pos c3] at H
        have c3b0 : decide (x8_1 < (l0.length : Int)) = true := decide_eq_true c3
        clear c3
        by_cases c4 : 0 ≤ x8_1
        · rw [if_pos c4] at H
          have c4b0 : decide (0 ≤ x8_1) = true := decide_eq_true c4
          clear c4
          by_cases c5 : x8_1 < (l0.length : Int)
          · rw [if_pos c5] at H
            have c5b0 : decide (x8_1 < (l0.length : Int)) = true := decide_eq_true c5
            clear c5
            obtain ⟨t102, A6, H⟩ := bnd_ H
            try dsimp -simprocs only at H
            by_cases c7 : t102 = true
            · subst c7
              have H1 : (some x8_1) = some r := by rw [if_pos rfl] at H; exact H
              clear H
              have H := H1
              clear H1
              obtain rfl := Option.some.inj H
              have p101 : 0 ≤ (x8_1 : Int) := of_decide_eq_true As_
              have q101 : x8_1 < (l0.length : Int) := of_decide_eq_true As_
              obtain ⟨ad101, e101, hx101_0⟩ := Kd.at_int HR0.out x8_1 p101 q101
              cases e101
              replace hx101_0 := (HB.out.cell (World.block_lt_of_cell? w _ hx101_0)).trans hx101_0
              replace p101 := eq_true p101
              replace q101 := eq_true q101
              go_wp2_with (first | (go_at_call 83; (with_reducible refine (shape_Size_2.calls (rd l0 x8_1) true _ A6.out).mono ?_); rintro e w' ⟨rfl, ⟨nd, rfl⟩⟩))
              go_ret
              exact ⟨Re_, Bl_⟩
            · replace c7 := Bool.eq_false_iff.mpr c7
              subst c7
              have H1 : (slices_IndexFunc_int_int_at_shape_Size_2.l0 k1 l0 (l0.length : Int) (wrap64 (x8_1 + 1))) = some r := by rw [if_neg (show ¬ (false = true) by decide)] at H; exact H
              clear H
              have H := H1
              clear H1
              have H' := Aside0.mk H
              clear H
              have p101 : 0 ≤ (x8_1 : Int) := of_decide_eq_true As_
              have q101 : x8_1 < (l0.length : Int) := of_decide_eq_true As_
              obtain ⟨ad101, e101, hx101_0⟩ := Kd.at_int HR0.out x8_1 p101 q101
              cases e101
              replace hx101_0 := (HB.out.cell (World.block_lt_of_cell? w _ hx101_0)).trans hx101_0
              replace p101 := eq_true p101
              replace q101 := eq_true q101
              go_wp2_with (first | (go_at_call 83; (with_reducible refine (shape_Size_2.calls (rd l0 x8_1) false _ A6.out).mono ?_); rintro e w' ⟨rfl, ⟨nd, rfl⟩⟩))
              go_roundg k1
              case measure => have := HK1.out; omega
              case rel => exact ⟨(wrap64 (x8_1 + 1)), Rf_, H', ⟨by have := HK1.out; omega⟩, ⟨Bl_⟩⟩
          · rw [if_neg c5] at H
            exact absurd H (by simp)
        · rw [if_neg c4] at H
          exact absurd H (by simp)
      · rw [if_neg c3] at H
        have c3b0 : decide (x8_1 < (l0.length : Int)) = false := decide_eq_false c3
        clear c3
        obtain rfl := Option.some.inj H
        go_wp2
        go_ret
        exact ⟨Re_, Bl_⟩
/-! ### slices_ContainsFunc_int_int_at_shape_Size_2: function 1003081 -/
def slices_ContainsFunc_int_int_at_shape_Size_2.f (k : Nat) (l0 : List Int) (a1 : Value) : Option (Bool) := (slices_IndexFunc_int_int_at_shape_Size_2.f k l0 (.func (.func 83) #[] #[] : Value)).bind fun t101 => (some (decide (t101 ≥ 0)))
set_option maxHeartbeats 8000000 in
set_option maxRecDepth 100000 in
theorem slices_ContainsFunc_int_int_at_shape_Size_2.calls (k : Nat) (A0 : Option Addr) (c0 : Nat) (l0 : List Int) (a1 : Value) (r : Bool) (w : World) (hr0 : Kd.C (Kd.int .i64) w A0 l0.length l0) (hc0 : l0.length ≤ c0) (h : slices_ContainsFunc_int_int_at_shape_Size_2.f k l0 a1 = some r) :
    Calls Tryd.prog 81 #[.slice A0 l0.length c0, (.func (.func 83) #[] #[])] w fun e w' => e = .returned (.bool r) ∧ Below w.heap.size w w' := by
  have HR0 := Aside0.mk hr0
  have HC0 := Aside0.mk hc0
  clear hr0 hc0
  have HB := Aside0.mk (Below.refl w.heap.size w)
  have H : ((slices_IndexFunc_int_int_at_shape_Size_2.f k l0 (.func (.func 83) #[] #[] : Value)).bind fun t101 => (some (decide (t101 ≥ 0)))) = some r := h
  clear h
  obtain ⟨t101, A3, H⟩ := bnd_ H
  try dsimp -simprocs only at H
  obtain rfl := Option.some.inj H
  go_enter Tryd.func81, Tryd.ntmps81
  go_wp2_with (first | ((with_reducible refine gate_callee (f := 107) rfl ?_); refine goesL_ (some 7) rfl rfl Tryd.func107 (by kernel_rfl) rfl #[.slice A0 l0.length c0, (.func (.func 83) #[] #[] : Value)] rfl Ga_ ?_; (with_reducible refine (slices_IndexFunc_int_int_at_shape_Size_2.calls k _ _ l0 (.func (.func 83) #[] #[] : Value) t101 _ ?side1 ?side2 A3.out).mono ?_); (case side1 => repeat (first | exact HR0.out | (with_reducible refine Kd.C_alloc ?_ _) | (with_reducible refine Kd.C_drewN ?_ _) | (with_reducible refine Kd.C_drew ?_))); (case side2 => exact HC0.out); rintro e w4 ⟨rfl, hb⟩; refine ⟨_, rfl, ?_⟩; replace HB := Bs_ hb; (try clear hb); (try clear hb2); (try clear hk); (try clear hi)))
  go_ret
  exact ⟨Re_, Bl_⟩
/-! ### shape_Size: function 47 -/
def shape_Size.l0 : Nat → Int → List Int → Int → Int → Option (Int × Int)
  | 0, _, _, _, _ => none
  | k + 1, x4, x20, x21, x22 => if x22 < x21 then (if 0 ≤ x22 then (if x22 < (x20.length : Int) then (if x4 = 0 then (none) else (if (rd x20 x22) > (wrap64 (Int.tdiv (4096 : Int) x4)) then (some (0, 8)) else (shape_Size.l0 k (wrap64 (x4 * (rd x20 x22))) x20 x21 (wrap64 (x22 + 1))))) else (none)) else (none)) else (some (x4, 0))
def shape_Size.f (k : Nat) (l0 : List Int) : Option (Int × Int) := if (l0.length : Int) > 3 then (some (0, 3)) else ((slices_ContainsFunc_int_int_at_shape_Size_1.f k l0 (.func (.func 82) #[] #[] : Value)).bind fun t102 => (if t102 = true then (some (0, 5)) else ((slices_ContainsFunc_int_int_at_shape_Size_2.f k l0 (.func (.func 83) #[] #[] : Value)).bind fun t103 => (if t103 = true then (some (0, 8)) else ((slices_Contains_int_int.f k l0 0).bind fun t104 => (if t104 = true then (some (0, 0)) else (shape_Size.l0 k 1 l0 (l0.length : Int) 0)))))))
set_option maxHeartbeats 8000000 in
set_option maxRecDepth 100000 in
theorem shape_Size.calls (k : Nat) (A0 : Option Addr) (c0 : Nat) (l0 : List Int) (r1 : Int) (r2 : Int) (w : World) (hr0 : Kd.C (Kd.int .i64) w A0 l0.length l0) (hc0 : l0.length ≤ c0) (h : shape_Size.f k l0 = some (r1, r2)) :
    Calls Tryd.prog 47 #[.slice A0 l0.length c0] w fun e w' => e = .returned (.tuple #[.int .i64 r1, .int .i64 r2]) ∧ Below w.heap.size w w' := by
  have HR0 := Aside0.mk hr0
  have HC0 := Aside0.mk hc0
  clear hr0 hc0
  have HB := Aside0.mk (Below.refl w.heap.size w)
  have H : (if (l0.length : Int) > 3 then (some (0, 3)) else ((slices_ContainsFunc_int_int_at_shape_Size_1.f k l0 (.func (.func 82) #[] #[] : Value)).bind fun t102 => (if t102 = true then (some (0, 5)) else ((slices_ContainsFunc_int_int_at_shape_Size_2.f k l0 (.func (.func 83) #[] #[] : Value)).bind fun t103 => (if t103 = true then (some (0, 8)) else ((slices_Contains_int_int.f k l0 0).bind fun t104 => (if t104 = true then (some (0, 0)) else (shape_Size.l0 k 1 l0 (l0.length : Int) 0)))))))) = some (r1, r2) := h
  clear h
  by_cases c2 : (l0.length : Int) > 3
  · rw [if_pos c2] at H
    have c2b0 : decide (3 < (l0.length : Int)) = true := decide_eq_true c2
    have c2b1 : decide (3 < l0.length) = true := decide_eq_true (by omega)
    clear c2
    simp only [Option.some.injEq, Prod.mk.injEq] at H
    obtain ⟨rfl, rfl⟩ := H
    go_enter Tryd.func47, Tryd.ntmps47
    go_wp2
    go_ret2
    exact ⟨Re_, Bl_⟩
  · rw [if_neg c2] at H
    have c2b0 : decide (3 < (l0.length : Int)) = false := decide_eq_false c2
    have c2b1 : decide (3 < l0.length) = false := decide_eq_false (by omega)
    clear c2
    obtain ⟨t102, A3, H⟩ := bnd_ H
    try dsimp -simprocs only at H
    by_cases c4 : t102 = true
    · subst c4
      have H1 : (some (0, 5)) = some (r1, r2) := by rw [if_pos rfl] at H; exact H
      clear H
      have H := H1
      clear H1
      simp only [Option.some.injEq, Prod.mk.injEq] at H
      obtain ⟨rfl, rfl⟩ := H
      go_enter Tryd.func47, Tryd.ntmps47
      go_wp2_with (first | ((with_reducible refine gate_callee (f := 81) rfl ?_); refine goesL_ (some 13) rfl rfl Tryd.func81 (by kernel_rfl) rfl #[.slice A0 l0.length c0, (.func (.func 82) #[] #[] : Value)] rfl Ga_ ?_; (with_reducible refine (slices_ContainsFunc_int_int_at_shape_Size_1.calls k _ _ l0 (.func (.func 82) #[] #[] : Value) true _ ?side1 ?side2 A3.out).mono ?_); (case side1 => repeat (first | exact HR0.out | (with_reducible refine Kd.C_alloc ?_ _) | (with_reducible refine Kd.C_drewN ?_ _) | (with_reducible refine Kd.C_drew ?_))); (case side2 => exact HC0.out); rintro e w5 ⟨rfl, hb⟩; refine ⟨_, rfl, ?_⟩; replace HB := Bs_ hb; (try clear hb); (try clear hb2); (try clear hk); (try clear hi)))
      go_ret2
      exact ⟨Re_, Bl_⟩
    · replace c4 := Bool.eq_false_iff.mpr c4
      subst c4
      have H1 : ((slices_ContainsFunc_int_int_at_shape_Size_2.f k l0 (.func (.func 83) #[] #[] : Value)).bind fun t103 => (if t103 = true then (some (0, 8)) else ((slices_Contains_int_int.f k l0 0).bind fun t104 => (if t104 = true then (some (0, 0)) else (shape_Size.l0 k 1 l0 (l0.length : Int) 0))))) = some (r1, r2) := by rw [if_neg (show ¬ (false = true) by decide)] at H; exact H
      clear H
      have H := H1
      clear H1
      obtain ⟨t103, A6, H⟩ := bnd_ H
      try dsimp -simprocs only at H
      by_cases c7 : t103 = true
      · subst c7
        have H1 : (some (0, 8)) = some (r1, r2) := by rw [if_pos rfl] at H; exact H
        clear H
        have H := H1
        clear H1
        simp only [Option.some.injEq, Prod.mk.injEq] at H
        obtain ⟨rfl, rfl⟩ := H
        go_enter Tryd.func47, Tryd.ntmps47
        go_wp2_with (first | ((with_reducible refine gate_callee (f := 81) rfl ?_); refine goesL_ (some 13) rfl rfl Tryd.func81 (by kernel_rfl) rfl #[.slice A0 l0.length c0, (.func (.func 82) #[] #[] : Value)] rfl Ga_ ?_; (with_reducible refine (slices_ContainsFunc_int_int_at_shape_Size_1.calls k _ _ l0 (.func (.func 82) #[] #[] : Value) false _ ?side1 ?side2 A3.out).mono ?_); (case side1 => repeat (first | exact HR0.out | (with_reducible refine Kd.C_alloc ?_ _) | (with_reducible refine Kd.C_drewN ?_ _) | (with_reducible refine Kd.C_drew ?_))); (case side2 => exact HC0.out); rintro e w8 ⟨rfl, hb⟩; refine ⟨_, rfl, ?_⟩; replace HB := Bs_ hb; (try clear hb); (try clear hb2); (try clear hk); (try clear hi)) | ((with_reducible refine gate_callee (f := 81) rfl ?_); refine goesL_ (some 16) rfl rfl Tryd.func81 (by kernel_rfl) rfl #[.slice A0 l0.length c0, (.func (.func 83) #[] #[] : Value)] rfl Ga_ ?_; (with_reducible refine (slices_ContainsFunc_int_int_at_shape_Size_2.calls k _ _ l0 (.func (.func 83) #[] #[] : Value) true _ ?side1 ?side2 A6.out).mono ?_); (case side1 => exact Pc_ (Kd.C_below HR0.out HB.out)); (case side2 => exact HC0.out); rintro e w9 ⟨rfl, hb⟩; refine ⟨_, rfl, ?_⟩; replace HB := Bs_ hb; (try clear hb); (try clear hb2); (try clear hk); (try clear hi)))
        go_ret2
        exact ⟨Re_, Bl_⟩
      · replace c7 := Bool.eq_false_iff.mpr c7
        subst c7
        have H1 : ((slices_Contains_int_int.f k l0 0).bind fun t104 => (if t104 = true then (some (0, 0)) else (shape_Size.l0 k 1 l0 (l0.length : Int) 0))) = some (r1, r2) := by rw [if_neg (show ¬ (false = true) by decide)] at H; exact H
        clear H
        have H := H1
        clear H1
        obtain ⟨t104, A10, H⟩ := bnd_ H
        try dsimp -simprocs only at H
        by_cases c11 : t104 = true
        · subst c11
          have H1 : (some (0, 0)) = some (r1, r2) := by rw [if_pos rfl] at H; exact H
          clear H
          have H := H1
          clear H1
          simp only [Option.some.injEq, Prod.mk.injEq] at H
          obtain ⟨rfl, rfl⟩ := H
          go_enter Tryd.func47, Tryd.ntmps47
          go_wp2_with (first | ((with_reducible refine gate_callee (f := 81) rfl ?_); refine goesL_ (some 13) rfl rfl Tryd.func81 (by kernel_rfl) rfl #[.slice A0 l0.length c0, (.func (.func 82) #[] #[] : Value)] rfl Ga_ ?_; (with_reducible refine (slices_ContainsFunc_int_int_at_shape_Size_1.calls k _ _ l0 (.func (.func 82) #[] #[] : Value) false _ ?side1 ?side2 A3.out).mono ?_); (case side1 => repeat (first | exact HR0.out | (with_reducible refine Kd.C_alloc ?_ _) | (with_reducible refine Kd.C_drewN ?_ _) | (with_reducible refine Kd.C_drew ?_))); (case side2 => exact HC0.out); rintro e w12 ⟨rfl, hb⟩; refine ⟨_, rfl, ?_⟩; replace HB := Bs_ hb; (try clear hb); (try clear hb2); (try clear hk); (try clear hi)) | ((with_reducible refine gate_callee (f := 81) rfl ?_); refine goesL_ (some 16) rfl rfl Tryd.func81 (by kernel_rfl) rfl #[.slice A0 l0.length c0, (.func (.func 83) #[] #[] : Value)] rfl Ga_ ?_; (with_reducible refine (slices_ContainsFunc_int_int_at_shape_Size_2.calls k _ _ l0 (.func (.func 83) #[] #[] : Value) false _ ?side1 ?side2 A6.out).mono ?_); (case side1 => exact Pc_ (Kd.C_below HR0.out HB.out)); (case side2 => exact HC0.out); rintro e w13 ⟨rfl, hb⟩; refine ⟨_, rfl, ?_⟩; replace HB := Bs_ hb; (try clear hb); (try clear hb2); (try clear hk); (try clear hi)) | ((with_reducible refine gate_callee (f := 72) rfl ?_); refine goesL_ (some 19) rfl rfl Tryd.func72 (by kernel_rfl) rfl #[.slice A0 l0.length c0, .int .i64 0] rfl Ga_ ?_; (with_reducible refine (slices_Contains_int_int.calls k _ _ l0 0 true _ ?side1 ?side2 A10.out).mono ?_); (case side1 => exact Pc_ (Kd.C_below HR0.out HB.out)); (case side2 => exact HC0.out); rintro e w' ⟨rfl, ⟨nd, rfl⟩⟩; refine ⟨_, rfl, ?_⟩))
          go_ret2
          exact ⟨Re_, Bl_⟩
        · replace c11 := Bool.eq_false_iff.mpr c11
          subst c11
          have H1 : (shape_Size.l0 k 1 l0 (l0.length : Int) 0) = some (r1, r2) := by rw [if_neg (show ¬ (false = true) by decide)] at H; exact H
          clear H
          have H := H1
          clear H1
          have H' := Aside0.mk H
          clear H
          go_enter Tryd.func47, Tryd.ntmps47
          go_wp2_with (first | ((with_reducible refine gate_callee (f := 81) rfl ?_); refine goesL_ (some 13) rfl rfl Tryd.func81 (by kernel_rfl) rfl #[.slice A0 l0.length c0, (.func (.func 82) #[] #[] : Value)] rfl Ga_ ?_; (with_reducible refine (slices_ContainsFunc_int_int_at_shape_Size_1.calls k _ _ l0 (.func (.func 82) #[] #[] : Value) false _ ?side1 ?side2 A3.out).mono ?_); (case side1 => repeat (first | exact HR0.out | (with_reducible refine Kd.C_alloc ?_ _) | (with_reducible refine Kd.C_drewN ?_ _) | (with_reducible refine Kd.C_drew ?_))); (case side2 => exact HC0.out); rintro e w14 ⟨rfl, hb⟩; refine ⟨_, rfl, ?_⟩; replace HB := Bs_ hb; (try clear hb); (try clear hb2); (try clear hk); (try clear hi)) | ((with_reducible refine gate_callee (f := 81) rfl ?_); refine goesL_ (some 16) rfl rfl Tryd.func81 (by kernel_rfl) rfl #[.slice A0 l0.length c0, (.func (.func 83) #[] #[] : Value)] rfl Ga_ ?_; (with_reducible refine (slices_ContainsFunc_int_int_at_shape_Size_2.calls k _ _ l0 (.func (.func 83) #[] #[] : Value) false _ ?side1 ?side2 A6.out).mono ?_); (case side1 => exact Pc_ (Kd.C_below HR0.out HB.out)); (case side2 => exact HC0.out); rintro e w15 ⟨rfl, hb⟩; refine ⟨_, rfl, ?_⟩; replace HB := Bs_ hb; (try clear hb); (try clear hb2); (try clear hk); (try clear hi)) | ((with_reducible refine gate_callee (f := 72) rfl ?_); refine goesL_ (some 19) rfl rfl Tryd.func72 (by kernel_rfl) rfl #[.slice A0 l0.length c0, .int .i64 0] rfl Ga_ ?_; (with_reducible refine (slices_Contains_int_int.calls k _ _ l0 0 false _ ?side1 ?side2 A10.out).mono ?_); (case side1 => exact Pc_ (Kd.C_below HR0.out HB.out)); (case side2 => exact HC0.out); rintro e w' ⟨rfl, ⟨nd, rfl⟩⟩; refine ⟨_, rfl, ?_⟩))
          go_loopg [4, 22] k (fun kq v4 v22 w' => ∃ (x4_1 : Int) (x22_1 : Int), v4 = .int .i64 x4_1 ∧ v22 = .int .i64 x22_1 ∧ Aside0 (shape_Size.l0 kq x4_1 l0 (l0.length : Int) x22_1 = some (r1, r2)) ∧ Aside0 (kq ≤ k) ∧ Aside0 (Below w.heap.size w w'))
          case atStart => exact ⟨(1), (0), Rf_, Rf_, H', ⟨Nat.le_refl _⟩, ⟨Bl_⟩⟩
          case round =>
            clear H'
            try clear c1
            try clear c2
            try clear c2b0
            try clear c2b1
            try clear p2
            try clear c4
            try clear c7
            try clear c8
            try clear c11
            obtain ⟨x4_1, x22_1, rfl, rfl, HA, HK1, HB⟩ := hrel
            cases gk with
            | zero => exact absurd HA.out (by simp [shape_Size.l0])
            | succ k1 =>
              have H := HA.out
              clear HA
              simp only [shape_Size.l0] at H
              by_cases c16 : x22_1 < (l0.length : Int)
              · rw [if_pos c16] at H
                have c16b0 : decide (x22_1 < (l0.length : Int)) = true := decide_eq_true c16
                clear c16
                by_cases c17 : 0 ≤ x22_1
                · rw [if_pos c17] at H
                  have c17b0 : decide (0 ≤ x22_1) = true := decide_eq_true c17
                  clear c17
                  by_cases c18 : x22_1 < (l0.length : Int)
                  · rw [if_pos c18] at H
                    have c18b0 : decide (x22_1 < (l0.length : Int)) = true := decide_eq_true c18
                    clear c18
                    by_cases c19 : x4_1 = 0
                    · rw [if_pos c19] at H
                      exact absurd H (by simp)
                    · rw [if_neg c19] at H
                      have c19b0 : (x4_1 == 0) = false := beq_eq_false_iff_ne.mpr c19
                      have c19b1 : (x4_1 != 0) = true := bne_iff_ne.mpr c19
                      by_cases c20 : (rd l0 x22_1) > (wrap64 (Int.tdiv (4096 : Int) x4_1))
                      · rw [if_pos c20] at H
                        have c20b0 : decide ((wrap64 (Int.tdiv (4096 : Int) x4_1)) < (rd l0 x22_1)) = true := decide_eq_true c20
                        clear c20
                        simp only [Option.some.injEq, Prod.mk.injEq] at H
                        obtain ⟨rfl, rfl⟩ := H
                        have p105 : 0 ≤ (x22_1 : Int) := of_decide_eq_true As_
                        have q105 : x22_1 < (l0.length : Int) := of_decide_eq_true As_
                        obtain ⟨ad105, e105, hx105_0⟩ := Kd.at_int HR0.out x22_1 p105 q105
                        cases e105
                        replace hx105_0 := (HB.out.cell (World.block_lt_of_cell? w _ hx105_0)).trans hx105_0
                        replace p105 := eq_true p105
                        replace q105 := eq_true q105
                        go_wp2
                        go_ret2
                        exact ⟨Re_, Bl_⟩
                      · rw [if_neg c20] at H
                        have c20b0 : decide ((wrap64 (Int.tdiv (4096 : Int) x4_1)) < (rd l0 x22_1)) = false := decide_eq_false c20
                        clear c20
                        have H' := Aside0.mk H
                        clear H
                        have p105 : 0 ≤ (x22_1 : Int) := of_decide_eq_true As_
                        have q105 : x22_1 < (l0.length : Int) := of_decide_eq_true As_
                        obtain ⟨ad105, e105, hx105_0⟩ := Kd.at_int HR0.out x22_1 p105 q105
                        cases e105
                        replace hx105_0 := (HB.out.cell (World.block_lt_of_cell? w _ hx105_0)).trans hx105_0
                        replace p105 := eq_true p105
                        replace q105 := eq_true q105
                        go_wp2
                        go_roundg k1
                        case measure => have := HK1.out; omega
                        case rel => exact ⟨(wrap64 (x4_1 * (rd l0 x22_1))), (wrap64 (x22_1 + 1)), Rf_, Rf_, H', ⟨by have := HK1.out; omega⟩, ⟨Bl_⟩⟩
                  · rw [if_neg c18] at H
                    exact absurd H (by simp)
                · rw [if_neg c17] at H
                  exact absurd H (by simp)
              · rw [if_neg c16] at H
                have c16b0 : decide (x22_1 < (l0.length : Int)) = false := decide_eq_false c16
                clear c16
                simp only [Option.some.injEq, Prod.mk.injEq] at H
                obtain ⟨rfl, rfl⟩ := H
                go_wp2
                go_ret2
                exact ⟨Re_, Bl_⟩
/-! ### stringslite_HasPrefix: function 133 -/
def stringslite_HasPrefix.f (a0 : ByteArray) (a1 : ByteArray) : Option (Bool) := if (a0.size : Int) ≥ (a1.size : Int) then (if 0 ≤ (a1.size : Int) then (if (a1.size : Int) ≤ (a0.size : Int) then (some ((a0.extract 0 ((a1.size : Int) : Int).toNat).toList == a1.toList)) else (none)) else (none)) else (some false)
set_option maxHeartbeats 8000000 in
set_option maxRecDepth 100000 in
theorem stringslite_HasPrefix.calls (a0 : ByteArray) (a1 : ByteArray) (r : Bool) (w : World) (h : stringslite_HasPrefix.f a0 a1 = some r) :
    Calls Tryd.prog 133 #[.string a0, .string a1] w fun e w' => e = .returned (.bool r) ∧ Drawn0 w w' := by
  have H : (if (a0.size : Int) ≥ (a1.size : Int) then (if 0 ≤ (a1.size : Int) then (if (a1.size : Int) ≤ (a0.size : Int) then (some ((a0.extract 0 ((a1.size : Int) : Int).toNat).toList == a1.toList)) else (none)) else (none)) else (some false)) = some r := h
  clear h
  by_cases c3 : (a0.size : Int) ≥ (a1.size : Int)
  · rw [if_pos c3] at H
    have c3b0 : decide ((a1.size : Int) ≤ (a0.size : Int)) = true := decide_eq_true c3
    have c3b1 : decide (a1.size ≤ a0.size) = true := decide_eq_true (Int.ofNat_le.mp c3)
    clear c3
    by_cases c4 : 0 ≤ (a1.size : Int)
    · rw [if_pos c4] at H
      have c4b0 := eq_true c4
      have c4b1 : decide (0 ≤ (a1.size : Int)) = true := decide_eq_true c4
      clear c4
      by_cases c5 : (a1.size : Int) ≤ (a0.size : Int)
      · rw [if_pos c5] at H
        have c5b0 := eq_true c5
        have c5b1 : decide ((a1.size : Int) ≤ (a0.size : Int)) = true := decide_eq_true c5
        clear c5
        obtain rfl := Option.some.inj H
        go_enter Tryd.func133, Tryd.ntmps133
        go_wp2
        go_ret
        exact ⟨Rf_, Dw_⟩
      · rw [if_neg c5] at H
        exact absurd H (by simp)
    · rw [if_neg c4] at H
      exact absurd H (by simp)
  · rw [if_neg c3] at H
    have c3b0 : decide ((a1.size : Int) ≤ (a0.size : Int)) = false := decide_eq_false c3
    have c3b1 : decide (a1.size ≤ a0.size) = false := decide_eq_false (fun h => c3 (Int.ofNat_le.mpr h))
    clear c3
    obtain rfl := Option.some.inj H
    go_enter Tryd.func133, Tryd.ntmps133
    go_wp2
    go_ret
    exact ⟨Rf_, Dw_⟩
/-! ### stringslite_TrimPrefix: function 113 -/
def stringslite_TrimPrefix.f (a0 : ByteArray) (a1 : ByteArray) : Option (ByteArray) := (stringslite_HasPrefix.f a0 a1).bind fun t101 => (if t101 = true then (if 0 ≤ (a1.size : Int) then (if (a1.size : Int) ≤ (a0.size : Int) then (some (a0.extract ((a1.size : Int) : Int).toNat a0.size)) else (none)) else (none)) else (some a0))
set_option maxHeartbeats 8000000 in
set_option maxRecDepth 100000 in
theorem stringslite_TrimPrefix.calls (a0 : ByteArray) (a1 : ByteArray) (r : ByteArray) (w : World) (h : stringslite_TrimPrefix.f a0 a1 = some r) :
    Calls Tryd.prog 113 #[.string a0, .string a1] w fun e w' => e = .returned (.string r) ∧ Drawn0 w w' := by
  have H : ((stringslite_HasPrefix.f a0 a1).bind fun t101 => (if t101 = true then (if 0 ≤ (a1.size : Int) then (if (a1.size : Int) ≤ (a0.size : Int) then (some (a0.extract ((a1.size : Int) : Int).toNat a0.size)) else (none)) else (none)) else (some a0))) = some r := h
  clear h
  obtain ⟨t101, A3, H⟩ := bnd_ H
  try dsimp -simprocs only at H
  by_cases c4 : t101 = true
  · subst c4
    have H1 : (if 0 ≤ (a1.size : Int) then (if (a1.size : Int) ≤ (a0.size : Int) then (some (a0.extract ((a1.size : Int) : Int).toNat a0.size)) else (none)) else (none)) = some r := by rw [if_pos rfl] at H; exact H
    clear H
    have H := H1
    clear H1
    by_cases c5 : 0 ≤ (a1.size : Int)
    · rw [if_pos c5] at H
      have c5b0 := eq_true c5
      have c5b1 : decide (0 ≤ (a1.size : Int)) = true := decide_eq_true c5
      clear c5
      by_cases c6 : (a1.size : Int) ≤ (a0.size : Int)
      · rw [if_pos c6] at H
        have c6b0 := eq_true c6
        have c6b1 : decide ((a1.size : Int) ≤ (a0.size : Int)) = true := decide_eq_true c6
        clear c6
        obtain rfl := Option.some.inj H
        go_enter Tryd.func113, Tryd.ntmps113
        go_wp2_with (first | ((with_reducible refine gate_callee (f := 133) rfl ?_); refine goesL_ (some 7) rfl rfl Tryd.func133 (by kernel_rfl) rfl #[.string a0, .string a1] rfl Ga_ ?_; (with_reducible refine (stringslite_HasPrefix.calls a0 a1 true _ A3.out).mono ?_); rintro e w' ⟨rfl, ⟨nd, rfl⟩⟩; refine ⟨_, rfl, ?_⟩))
        go_ret
        exact ⟨Rf_, Dw_⟩
      · rw [if_neg c6] at H
        exact absurd H (by simp)
    · rw [if_neg c5] at H
      exact absurd H (by simp)
  · replace c4 := Bool.eq_false_iff.mpr c4
    subst c4
    have H1 : (some a0) = some r := by rw [if_neg (show ¬ (false = true) by decide)] at H; exact H
    clear H
    have H := H1
    clear H1
    obtain rfl := Option.some.inj H
    go_enter Tryd.func113, Tryd.ntmps113
    go_wp2_with (first | ((with_reducible refine gate_callee (f := 133) rfl ?_); refine goesL_ (some 7) rfl rfl Tryd.func133 (by kernel_rfl) rfl #[.string a0, .string a1] rfl Ga_ ?_; (with_reducible refine (stringslite_HasPrefix.calls a0 a1 false _ A3.out).mono ?_); rintro e w' ⟨rfl, ⟨nd, rfl⟩⟩; refine ⟨_, rfl, ?_⟩))
    go_ret
    exact ⟨Rf_, Dw_⟩
/-! ### strings_TrimPrefix: function 91 -/
def strings_TrimPrefix.f (a0 : ByteArray) (a1 : ByteArray) : Option (ByteArray) := (stringslite_TrimPrefix.f a0 a1).bind fun t101 => (some t101)
set_option maxHeartbeats 8000000 in
set_option maxRecDepth 100000 in
theorem strings_TrimPrefix.calls (a0 : ByteArray) (a1 : ByteArray) (r : ByteArray) (w : World) (h : strings_TrimPrefix.f a0 a1 = some r) :
    Calls Tryd.prog 91 #[.string a0, .string a1] w fun e w' => e = .returned (.string r) ∧ Drawn0 w w' := by
  have H : ((stringslite_TrimPrefix.f a0 a1).bind fun t101 => (some t101)) = some r := h
  clear h
  obtain ⟨t101, A3, H⟩ := bnd_ H
  try dsimp -simprocs only at H
  obtain rfl := Option.some.inj H
  go_enter Tryd.func91, Tryd.ntmps91
  go_wp2_with (first | ((with_reducible refine gate_callee (f := 113) rfl ?_); refine goesL_ (some 7) rfl rfl Tryd.func113 (by kernel_rfl) rfl #[.string a0, .string a1] rfl Ga_ ?_; (with_reducible refine (stringslite_TrimPrefix.calls a0 a1 t101 _ A3.out).mono ?_); rintro e w' ⟨rfl, ⟨nd, rfl⟩⟩; refine ⟨_, rfl, ?_⟩))
  go_ret
  exact ⟨Rf_, Dw_⟩
/-! ### num_May_1: function 93 -/
def num_May_1.f (a0 : Int) : Option (Bool) := if a0 < 48 then (some true) else (some (decide (a0 > 57)))
set_option maxHeartbeats 8000000 in
set_option maxRecDepth 100000 in
theorem num_May_1.calls (a0 : Int) (r : Bool) (w : World) (h : num_May_1.f a0 = some r) :
    Calls Tryd.prog 93 #[.int .i32 a0] w fun e w' => e = .returned (.bool r) ∧ Drawn0 w w' := by
  have H : (if a0 < 48 then (some true) else (some (decide (a0 > 57)))) = some r := h
  clear h
  by_cases c2 : a0 < 48
  · rw [if_pos c2] at H
    have c2b0 : decide (a0 < 48) = true := decide_eq_true c2
    clear c2
    obtain rfl := Option.some.inj H
    go_enter Tryd.func93, Tryd.ntmps93
    go_wp2
    go_ret
    exact ⟨Rf_, Dw_⟩
  · rw [if_neg c2] at H
    have c2b0 : decide (a0 < 48) = false := decide_eq_false c2
    clear c2
    obtain rfl := Option.some.inj H
    go_enter Tryd.func93, Tryd.ntmps93
    go_wp2
    go_ret
    exact ⟨Rf_, Dw_⟩
/-! ### strings_ContainsFunc_digits: function 1005092 -/
def strings_ContainsFunc_digits.f (a0 : ByteArray) (_ : Value) : Option Bool := some (a0.data.toList.any noFig)
set_option maxHeartbeats 400000 in
theorem strings_ContainsFunc_digits.calls (a0 : ByteArray) (a1 : Value) (r : Bool) (w : World) (h : strings_ContainsFunc_digits.f a0 a1 = some r) :
    Calls Tryd.prog 92 #[.string a0, .func (.func 93) #[] #[]] w fun e w' => e = .returned (.bool r) ∧ Below w.heap.size w w' := by
  obtain rfl := Option.some.inj h
  refine (Tryd.strings_ContainsFunc 93 #[] (enters_of Tryd.func93 (by kernel_rfl) rfl) figP a0 w (predAt_of fun x W => ?_)).mono ?_
  · refine num_May_1.calls (x : Int) _ W ?_
    unfold num_May_1.f figP
    by_cases h1 : x < 48
    · rw [if_pos (by omega)]; simp [h1]
    · rw [if_neg (by omega)]; simp [h1]; omega
  · rintro e w' ⟨rfl, hb⟩
    exact ⟨by rw [idx_fig], hb⟩
/-! ### num_May: function 60 -/
def num_May.f (a0 : ByteArray) : Option (Bool) := (strings_TrimPrefix.f a0 (⟨#[45]⟩ : ByteArray)).bind fun t101 => (if (t101.size : Int) < 1 then (some false) else (if (t101.size : Int) > 100 then (some false) else (if 0 < (t101.size : Int) then (if (bt t101 0) = 48 then (if a0.toList = ([48] : List UInt8) then ((strings_ContainsFunc_digits.f t101 (.func (.func 93) #[] #[] : Value)).bind fun t102 => (some (!t102))) else (some false)) else ((strings_ContainsFunc_digits.f t101 (.func (.func 93) #[] #[] : Value)).bind fun t103 => (some (!t103)))) else (none))))
set_option maxHeartbeats 8000000 in
set_option maxRecDepth 100000 in
theorem num_May.calls (a0 : ByteArray) (r : Bool) (w : World) (h : num_May.f a0 = some r) :
    Calls Tryd.prog 60 #[.string a0] w fun e w' => e = .returned (.bool r) ∧ Below w.heap.size w w' := by
  have HB := Aside0.mk (Below.refl w.heap.size w)
  have H : ((strings_TrimPrefix.f a0 (⟨#[45]⟩ : ByteArray)).bind fun t101 => (if (t101.size : Int) < 1 then (some false) else (if (t101.size : Int) > 100 then (some false) else (if 0 < (t101.size : Int) then (if (bt t101 0) = 48 then (if a0.toList = ([48] : List UInt8) then ((strings_ContainsFunc_digits.f t101 (.func (.func 93) #[] #[] : Value)).bind fun t102 => (some (!t102))) else (some false)) else ((strings_ContainsFunc_digits.f t101 (.func (.func 93) #[] #[] : Value)).bind fun t103 => (some (!t103)))) else (none))))) = some r := h
  clear h
  obtain ⟨t101, A2, H⟩ := bnd_ H
  try dsimp -simprocs only at H
  by_cases c3 : (t101.size : Int) < 1
  · rw [if_pos c3] at H
    have c3b0 : decide ((t101.size : Int) < 1) = true := decide_eq_true c3
    have c3b1 : decide (t101.size < 1) = true := decide_eq_true (by omega)
    clear c3
    obtain rfl := Option.some.inj H
    go_enter Tryd.func60, Tryd.ntmps60
    go_wp2_with (first | ((with_reducible refine gate_callee (f := 91) rfl ?_); refine goesL_ (some 5) rfl rfl Tryd.func91 (by kernel_rfl) rfl #[.string a0, .string (⟨#[45]⟩ : ByteArray)] rfl Ga_ ?_; (with_reducible refine (strings_TrimPrefix.calls a0 (⟨#[45]⟩ : ByteArray) t101 _ A2.out).mono ?_); rintro e w' ⟨rfl, ⟨nd, rfl⟩⟩; refine ⟨_, rfl, ?_⟩))
    go_ret
    exact ⟨Re_, Bl_⟩
  · rw [if_neg c3] at H
    have c3b0 : decide ((t101.size : Int) < 1) = false := decide_eq_false c3
    have c3b1 : decide (t101.size < 1) = false := decide_eq_false (by omega)
    clear c3
    by_cases c4 : (t101.size : Int) > 100
    · rw [if_pos c4] at H
      have c4b0 : decide (100 < (t101.size : Int)) = true := decide_eq_true c4
      have c4b1 : decide (100 < t101.size) = true := decide_eq_true (by omega)
      clear c4
      obtain rfl := Option.some.inj H
      go_enter Tryd.func60, Tryd.ntmps60
      go_wp2_with (first | ((with_reducible refine gate_callee (f := 91) rfl ?_); refine goesL_ (some 5) rfl rfl Tryd.func91 (by kernel_rfl) rfl #[.string a0, .string (⟨#[45]⟩ : ByteArray)] rfl Ga_ ?_; (with_reducible refine (strings_TrimPrefix.calls a0 (⟨#[45]⟩ : ByteArray) t101 _ A2.out).mono ?_); rintro e w' ⟨rfl, ⟨nd, rfl⟩⟩; refine ⟨_, rfl, ?_⟩))
      go_ret
      exact ⟨Re_, Bl_⟩
    · rw [if_neg c4] at H
      have c4b0 : decide (100 < (t101.size : Int)) = false := decide_eq_false c4
      have c4b1 : decide (100 < t101.size) = false := decide_eq_false (by omega)
      clear c4
      by_cases c5 : 0 < (t101.size : Int)
      · rw [if_pos c5] at H
        have c5b0 : decide (0 < (t101.size : Int)) = true := decide_eq_true c5
        have c5b1 : decide (0 < t101.size) = true := decide_eq_true (by omega)
        clear c5
        by_cases c7 : (bt t101 0) = 48
        · rw [if_pos c7] at H
          have c7b0 : ((bt t101 0) == 48) = true := beq_iff_eq.mpr c7
          have c7b1 : ((bt t101 0) != 48) = false := bne_eq_false_iff_eq.mpr c7
          clear c7
          by_cases c8 : a0.toList = ([48] : List UInt8)
          · rw [if_pos c8] at H
            have c8b0 : (a0.toList == ([48] : List UInt8)) = true := beq_iff_eq.mpr c8
            have c8b1 : (a0.toList != ([48] : List UInt8)) = false := bne_eq_false_iff_eq.mpr c8
            clear c8
            obtain ⟨t102, A9, H⟩ := bnd_ H
            try dsimp -simprocs only at H
            obtain rfl := Option.some.inj H
            go_enter Tryd.func60, Tryd.ntmps60
            go_wp2_with (first | ((with_reducible refine gate_callee (f := 91) rfl ?_); refine goesL_ (some 5) rfl rfl Tryd.func91 (by kernel_rfl) rfl #[.string a0, .string (⟨#[45]⟩ : ByteArray)] rfl Ga_ ?_; (with_reducible refine (strings_TrimPrefix.calls a0 (⟨#[45]⟩ : ByteArray) t101 _ A2.out).mono ?_); rintro e w' ⟨rfl, ⟨nd, rfl⟩⟩; refine ⟨_, rfl, ?_⟩; have p6 : 0 ≤ (0 : Int) := (by omega); have q6 : 0 < t101.size := (by have : (0 : Int) < (t101.size : Int) := of_decide_eq_true As_; omega); have hx6 : ∀ h : 0 < t101.size, ((t101[0]'h).toNat : Int) = bt t101 0 := bt_at t101 0; clear p6; have qi6 : (0 < (t101.size : Int)) = True := eq_true (of_decide_eq_true As_); replace q6 := eq_true q6) | ((with_reducible refine gate_callee (f := 92) rfl ?_); refine goesL_ (some 24) rfl rfl Tryd.func92 (by kernel_rfl) rfl #[.string t101, (.func (.func 93) #[] #[] : Value)] rfl Ga_ ?_; (with_reducible refine (strings_ContainsFunc_digits.calls t101 (.func (.func 93) #[] #[] : Value) t102 _ A9.out).mono ?_); rintro e w10 ⟨rfl, hb⟩; refine ⟨_, rfl, ?_⟩; replace HB := Bs_ hb; (try clear hb); (try clear hb2); (try clear hk); (try clear hi)))
            go_ret
            exact ⟨Re_, Bl_⟩
          · rw [if_neg c8] at H
            have c8b0 : (a0.toList == ([48] : List UInt8)) = false := beq_eq_false_iff_ne.mpr c8
            have c8b1 : (a0.toList != ([48] : List UInt8)) = true := bne_iff_ne.mpr c8
            obtain rfl := Option.some.inj H
            go_enter Tryd.func60, Tryd.ntmps60
            go_wp2_with (first | ((with_reducible refine gate_callee (f := 91) rfl ?_); refine goesL_ (some 5) rfl rfl Tryd.func91 (by kernel_rfl) rfl #[.string a0, .string (⟨#[45]⟩ : ByteArray)] rfl Ga_ ?_; (with_reducible refine (strings_TrimPrefix.calls a0 (⟨#[45]⟩ : ByteArray) t101 _ A2.out).mono ?_); rintro e w' ⟨rfl, ⟨nd, rfl⟩⟩; refine ⟨_, rfl, ?_⟩; have p6 : 0 ≤ (0 : Int) := (by omega); have q6 : 0 < t101.size := (by have : (0 : Int) < (t101.size : Int) := of_decide_eq_true As_; omega); have hx6 : ∀ h : 0 < t101.size, ((t101[0]'h).toNat : Int) = bt t101 0 := bt_at t101 0; clear p6; have qi6 : (0 < (t101.size : Int)) = True := eq_true (of_decide_eq_true As_); replace q6 := eq_true q6))
            go_ret
            exact ⟨Re_, Bl_⟩
        · rw [if_neg c7] at H
          have c7b0 : ((bt t101 0) == 48) = false := beq_eq_false_iff_ne.mpr c7
          have c7b1 : ((bt t101 0) != 48) = true := bne_iff_ne.mpr c7
          obtain ⟨t103, A11, H⟩ := bnd_ H
          try dsimp -simprocs only at H
          obtain rfl := Option.some.inj H
          go_enter Tryd.func60, Tryd.ntmps60
          go_wp2_with (first | ((with_reducible refine gate_callee (f := 91) rfl ?_); refine goesL_ (some 5) rfl rfl Tryd.func91 (by kernel_rfl) rfl #[.string a0, .string (⟨#[45]⟩ : ByteArray)] rfl Ga_ ?_; (with_reducible refine (strings_TrimPrefix.calls a0 (⟨#[45]⟩ : ByteArray) t101 _ A2.out).mono ?_); rintro e w' ⟨rfl, ⟨nd, rfl⟩⟩; refine ⟨_, rfl, ?_⟩; have p6 : 0 ≤ (0 : Int) := (by omega); have q6 : 0 < t101.size := (by have : (0 : Int) < (t101.size : Int) := of_decide_eq_true As_; omega); have hx6 : ∀ h : 0 < t101.size, ((t101[0]'h).toNat : Int) = bt t101 0 := bt_at t101 0; clear p6; have qi6 : (0 < (t101.size : Int)) = True := eq_true (of_decide_eq_true As_); replace q6 := eq_true q6) | ((with_reducible refine gate_callee (f := 92) rfl ?_); refine goesL_ (some 24) rfl rfl Tryd.func92 (by kernel_rfl) rfl #[.string t101, (.func (.func 93) #[] #[] : Value)] rfl Ga_ ?_; (with_reducible refine (strings_ContainsFunc_digits.calls t101 (.func (.func 93) #[] #[] : Value) t103 _ A11.out).mono ?_); rintro e w12 ⟨rfl, hb⟩; refine ⟨_, rfl, ?_⟩; replace HB := Bs_ hb; (try clear hb); (try clear hb2); (try clear hk); (try clear hi)))
          go_ret
          exact ⟨Re_, Bl_⟩
      · rw [if_neg c5] at H
        exact absurd H (by simp)
/-! ### val_May_1: function 59 -/
def val_May_1.f (a0 : ByteArray) : Option (Bool) := (num_May.f a0).bind fun t101 => (some (!t101))
set_option maxHeartbeats 8000000 in
set_option maxRecDepth 100000 in
theorem val_May_1.calls (a0 : ByteArray) (r : Bool) (w : World) (h : val_May_1.f a0 = some r) :
    Calls Tryd.prog 59 #[.string a0] w fun e w' => e = .returned (.bool r) ∧ Below w.heap.size w w' := by
  have HB := Aside0.mk (Below.refl w.heap.size w)
  have H : ((num_May.f a0).bind fun t101 => (some (!t101))) = some r := h
  clear h
  obtain ⟨t101, A2, H⟩ := bnd_ H
  try dsimp -simprocs only at H
  obtain rfl := Option.some.inj H
  go_enter Tryd.func59, Tryd.ntmps59
  go_wp2_with (first | ((with_reducible refine gate_callee (f := 60) rfl ?_); refine goesL_ (some 4) rfl rfl Tryd.func60 (by kernel_rfl) rfl #[.string a0] rfl Ga_ ?_; (with_reducible refine (num_May.calls a0 t101 _ A2.out).mono ?_); rintro e w3 ⟨rfl, hb⟩; refine ⟨_, rfl, ?_⟩; replace HB := Bs_ hb; (try clear hb); (try clear hb2); (try clear hk); (try clear hi)))
  go_ret
  exact ⟨Re_, Bl_⟩
/-! ### slices_IndexFunc_string_string_at_val_May_1: function 1007090 -/
def slices_IndexFunc_string_string_at_val_May_1.l0 : Nat → List ByteArray → Int → Int → Option (Int)
  | 0, _, _, _ => none
  | k + 1, x0, x7, x8 => if x8 < x7 then (if 0 ≤ x8 then (if x8 < (x0.length : Int) then ((val_May_1.f (rdOf ByteArray.empty x0 x8)).bind fun t102 => (if t102 = true then (some x8) else (slices_IndexFunc_string_string_at_val_May_1.l0 k x0 x7 (wrap64 (x8 + 1))))) else (none)) else (none)) else (some (-1))
def slices_IndexFunc_string_string_at_val_May_1.f (k : Nat) (l0 : List ByteArray) (a1 : Value) : Option (Int) := slices_IndexFunc_string_string_at_val_May_1.l0 k l0 (l0.length : Int) 0
set_option maxHeartbeats 8000000 in
set_option maxRecDepth 100000 in
theorem slices_IndexFunc_string_string_at_val_May_1.calls (k : Nat) (A0 : Option Addr) (c0 : Nat) (l0 : List ByteArray) (a1 : Value) (r : Int) (w : World) (hr0 : Kd.C Kd.string w A0 l0.length l0) (hc0 : l0.length ≤ c0) (h : slices_IndexFunc_string_string_at_val_May_1.f k l0 a1 = some r) :
    Calls Tryd.prog 90 #[.slice A0 l0.length c0, (.func (.func 59) #[] #[])] w fun e w' => e = .returned (.int .i64 r) ∧ Below w.heap.size w w' := by
  have HR0 := Aside0.mk hr0
  have HC0 := Aside0.mk hc0
  clear hr0 hc0
  have HB := Aside0.mk (Below.refl w.heap.size w)
  have H : (slices_IndexFunc_string_string_at_val_May_1.l0 k l0 (l0.length : Int) 0) = some r := h
  clear h
  have H' := Aside0.mk H
  clear H
  go_enter Tryd.func90, Tryd.ntmps90
  go_wp2
  go_loopg [8] k (fun kq v8 w' => ∃ (x8_1 : Int), v8 = .int .i64 x8_1 ∧ Aside0 (slices_IndexFunc_string_string_at_val_May_1.l0 kq l0 (l0.length : Int) x8_1 = some r) ∧ Aside0 (kq ≤ k) ∧ Aside0 (Below w.heap.size w w'))
  case atStart => exact ⟨(0), Rf_, H', ⟨Nat.le_refl _⟩, ⟨Bl_⟩⟩
  case round =>
    clear H'
    try clear c1
    try clear p2
    obtain ⟨x8_1, rfl, HA, HK1, HB⟩ := hrel
    cases gk with
    | zero => exact absurd HA.out (by simp [slices_IndexFunc_string_string_at_val_May_1.l0])
    | succ k1 =>
      have H := HA.out
      clear HA
      simp only [slices_IndexFunc_string_string_at_val_May_1.l0] at H
      by_cases c3 : x8_1 < (l0.length : Int)
      · rw [if_pos c3] at H
        have c3b0 : decide (x8_1 < (l0.length : Int)) = true := decide_eq_true c3
        clear c3
        by_cases c4 : 0 ≤ x8_1
        · rw [if_pos c4] at H
          have c4b0 : decide (0 ≤ x8_1) = true := decide_eq_true c4
          clear c4
          by_cases c5 : x8_1 < (l0.length : Int)
          · rw [if_pos c5] at H
            have c5b0 : decide (x8_1 < (l0.length : Int)) = true := decide_eq_true c5
            clear c5
            obtain ⟨t102, A6, H⟩ := bnd_ H
            try dsimp -simprocs only at H
            by_cases c7 : t102 = true
            · subst c7
              have H1 : (some x8_1) = some r := by rw [if_pos rfl] at H; exact H
              clear H
              have H := H1
              clear H1
              obtain rfl := Option.some.inj H
              have p101 : 0 ≤ (x8_1 : Int) := of_decide_eq_true As_
              have q101 : x8_1 < (l0.length : Int) := of_decide_eq_true As_
              obtain ⟨ad101, e101, hx101_0⟩ := Kd.at_string HR0.out x8_1 p101 q101
              cases e101
              replace hx101_0 := (HB.out.cell (World.block_lt_of_cell? w _ hx101_0)).trans hx101_0
              replace p101 := eq_true p101
              replace q101 := eq_true q101
              go_wp2_with (first | (go_at_call 59; (with_reducible refine (val_May_1.calls (rdOf ByteArray.empty l0 x8_1) true _ A6.out).mono ?_); rintro e w8 ⟨rfl, hb⟩; replace HB := Bs_ hb; (try clear hb); (try clear hb2); (try clear hk); (try clear hi)))
              go_ret
              exact ⟨Re_, Bl_⟩
            · replace c7 := Bool.eq_false_iff.mpr c7
              subst c7
              have H1 : (slices_IndexFunc_string_string_at_val_May_1.l0 k1 l0 (l0.length : Int) (wrap64 (x8_1 + 1))) = some r := by rw [if_neg (show ¬ (false = true) by decide)] at H; exact H
              clear H
              have H := H1
              clear H1
              have H' := Aside0.mk H
              clear H
              have p101 : 0 ≤ (x8_1 : Int) := of_decide_eq_true As_
              have q101 : x8_1 < (l0.length : Int) := of_decide_eq_true As_
              obtain ⟨ad101, e101, hx101_0⟩ := Kd.at_string HR0.out x8_1 p101 q101
              cases e101
              replace hx101_0 := (HB.out.cell (World.block_lt_of_cell? w _ hx101_0)).trans hx101_0
              replace p101 := eq_true p101
              replace q101 := eq_true q101
              go_wp2_with (first | (go_at_call 59; (with_reducible refine (val_May_1.calls (rdOf ByteArray.empty l0 x8_1) false _ A6.out).mono ?_); rintro e w9 ⟨rfl, hb⟩; replace HB := Bs_ hb; (try clear hb); (try clear hb2); (try clear hk); (try clear hi)))
              go_roundg k1
              case measure => have := HK1.out; omega
              case rel => exact ⟨(wrap64 (x8_1 + 1)), Rf_, H', ⟨by have := HK1.out; omega⟩, ⟨Bl_⟩⟩
          · rw [if_neg c5] at H
            exact absurd H (by simp)
        · rw [if_neg c4] at H
          exact absurd H (by simp)
      · rw [if_neg c3] at H
        have c3b0 : decide (x8_1 < (l0.length : Int)) = false := decide_eq_false c3
        clear c3
        obtain rfl := Option.some.inj H
        go_wp2
        go_ret
        exact ⟨Re_, Bl_⟩
/-! ### slices_ContainsFunc_string_string_at_val_May_1: function 1006058 -/
def slices_ContainsFunc_string_string_at_val_May_1.f (k : Nat) (l0 : List ByteArray) (a1 : Value) : Option (Bool) := (slices_IndexFunc_string_string_at_val_May_1.f k l0 (.func (.func 59) #[] #[] : Value)).bind fun t101 => (some (decide (t101 ≥ 0)))
set_option maxHeartbeats 8000000 in
set_option maxRecDepth 100000 in
theorem slices_ContainsFunc_string_string_at_val_May_1.calls (k : Nat) (A0 : Option Addr) (c0 : Nat) (l0 : List ByteArray) (a1 : Value) (r : Bool) (w : World) (hr0 : Kd.C Kd.string w A0 l0.length l0) (hc0 : l0.length ≤ c0) (h : slices_ContainsFunc_string_string_at_val_May_1.f k l0 a1 = some r) :
    Calls Tryd.prog 58 #[.slice A0 l0.length c0, (.func (.func 59) #[] #[])] w fun e w' => e = .returned (.bool r) ∧ Below w.heap.size w w' := by
  have HR0 := Aside0.mk hr0
  have HC0 := Aside0.mk hc0
  clear hr0 hc0
  have HB := Aside0.mk (Below.refl w.heap.size w)
  have H : ((slices_IndexFunc_string_string_at_val_May_1.f k l0 (.func (.func 59) #[] #[] : Value)).bind fun t101 => (some (decide (t101 ≥ 0)))) = some r := h
  clear h
  obtain ⟨t101, A3, H⟩ := bnd_ H
  try dsimp -simprocs only at H
  obtain rfl := Option.some.inj H
  go_enter Tryd.func58, Tryd.ntmps58
  go_wp2_with (first | ((with_reducible refine gate_callee (f := 90) rfl ?_); refine goesL_ (some 7) rfl rfl Tryd.func90 (by kernel_rfl) rfl #[.slice A0 l0.length c0, (.func (.func 59) #[] #[] : Value)] rfl Ga_ ?_; (with_reducible refine (slices_IndexFunc_string_string_at_val_May_1.calls k _ _ l0 (.func (.func 59) #[] #[] : Value) t101 _ ?side1 ?side2 A3.out).mono ?_); (case side1 => repeat (first | exact HR0.out | (with_reducible refine Kd.C_alloc ?_ _) | (with_reducible refine Kd.C_drewN ?_ _) | (with_reducible refine Kd.C_drew ?_))); (case side2 => exact HC0.out); rintro e w4 ⟨rfl, hb⟩; refine ⟨_, rfl, ?_⟩; replace HB := Bs_ hb; (try clear hb); (try clear hb2); (try clear hk); (try clear hi)))
  go_ret
  exact ⟨Re_, Bl_⟩
/-! ### val_May: function 26 -/
def val_May.f (k : Nat) (l0_0 : List Int) (l0_1 : List ByteArray) : Option (Bool) := (shape_Size.f k l0_0).bind fun bt105 => (if bt105.2 = 0 then (if (l0_1.length : Int) = bt105.1 then ((slices_ContainsFunc_string_string_at_val_May_1.f k l0_1 (.func (.func 59) #[] #[] : Value)).bind fun t107 => (some (!t107))) else (some false)) else (some false))
set_option maxHeartbeats 8000000 in
set_option maxRecDepth 100000 in
theorem val_May.calls (k : Nat) (A0_0 : Option Addr) (c0_0 : Nat) (l0_0 : List Int) (A0_1 : Option Addr) (c0_1 : Nat) (l0_1 : List ByteArray) (r : Bool) (w : World) (hr0_0 : Kd.C (Kd.int .i64) w A0_0 l0_0.length l0_0) (hc0_0 : l0_0.length ≤ c0_0) (hr0_1 : Kd.C Kd.string w A0_1 l0_1.length l0_1) (hc0_1 : l0_1.length ≤ c0_1) (h : val_May.f k l0_0 l0_1 = some r) :
    Calls Tryd.prog 26 #[.agg #[.slice A0_0 l0_0.length c0_0, .slice A0_1 l0_1.length c0_1]] w fun e w' => e = .returned (.bool r) ∧ Below w.heap.size w w' := by
  have hu25 := Tryd.underlying25
  have HR0_0 := Aside0.mk hr0_0
  have HC0_0 := Aside0.mk hc0_0
  clear hr0_0 hc0_0
  have HR0_1 := Aside0.mk hr0_1
  have HC0_1 := Aside0.mk hc0_1
  clear hr0_1 hc0_1
  have HB := Aside0.mk (Below.refl w.heap.size w)
  have H : ((shape_Size.f k l0_0).bind fun bt105 => (if bt105.2 = 0 then (if (l0_1.length : Int) = bt105.1 then ((slices_ContainsFunc_string_string_at_val_May_1.f k l0_1 (.func (.func 59) #[] #[] : Value)).bind fun t107 => (some (!t107))) else (some false)) else (some false))) = some r := h
  clear h
  obtain ⟨⟨t105, t106⟩, A2, H⟩ := bnd_ H
  try dsimp -simprocs only at H
  by_cases c3 : t106 = 0
  · rw [if_pos c3] at H
    have c3b0 : (t106 == 0) = true := beq_iff_eq.mpr c3
    have c3b1 : (t106 != 0) = false := bne_eq_false_iff_eq.mpr c3
    clear c3
    by_cases c4 : (l0_1.length : Int) = t105
    · rw [if_pos c4] at H
      have c4b0 : ((l0_1.length : Int) == t105) = true := beq_iff_eq.mpr c4
      have c4b1 : ((l0_1.length : Int) != t105) = false := bne_eq_false_iff_eq.mpr c4
      clear c4
      obtain ⟨t107, A5, H⟩ := bnd_ H
      try dsimp -simprocs only at H
      obtain rfl := Option.some.inj H
      go_enter Tryd.func26, Tryd.ntmps26
      go_wp2_with (first | ((with_reducible refine gate_dst (N := 1) rfl ?_); (try (refine gate_guard (by rfl) ?_; dsimp only)); refine bx_ 1 #[.slice A0_0 l0_0.length c0_0, .slice A0_1 l0_1.length c0_1] 25 ?_; intro gb104 hg w6 hbox hb; have BK104 := Aside0.mk (hbox); have GW104 := (Bg_ hg : Aside0 (w.heap.size ≤ gb104)); have GE104 := (Bg_ hg : Aside0 (w.heap.size ≤ gb104)); replace HB := Bs_ hb; clear hb hbox hg; obtain ⟨hcz7_0, hcz7_1⟩ := c2_ BK104; obtain ⟨hfz7_0, hfz7_1⟩ := f2_ BK104) | ((with_reducible refine gate_callee (f := 47) rfl ?_); refine goesL_ (some 8) rfl rfl Tryd.func47 (by kernel_rfl) rfl #[.slice A0_0 l0_0.length c0_0] rfl Ga_ ?_; (with_reducible refine (shape_Size.calls k _ _ l0_0 t105 t106 _ ?side1 ?side2 A2.out).mono ?_); (case side1 => exact Pc_ (Kd.C_below HR0_0.out HB.out)); (case side2 => exact HC0_0.out); rintro e w8 ⟨rfl, hb⟩; refine ⟨_, rfl, ?_⟩; replace BK104 := kb_ BK104 hb; replace HB := Bs_ hb; (try clear hb); (try clear hb2); (try clear hk); (try clear hi); obtain ⟨hcz9_0, hcz9_1⟩ := c2_ BK104; obtain ⟨hfz9_0, hfz9_1⟩ := f2_ BK104) | (go_at_call 58; (with_reducible refine (slices_ContainsFunc_string_string_at_val_May_1.calls k _ _ l0_1 (.func (.func 59) #[] #[] : Value) t107 _ ?side1 ?side2 A5.out).mono ?_); (case side1 => exact Pc_ (Kd.C_below HR0_1.out HB.out)); (case side2 => exact HC0_1.out); rintro e w10 ⟨rfl, hb⟩; replace BK104 := kb_ BK104 hb; replace HB := Bs_ hb; (try clear hb); (try clear hb2); (try clear hk); (try clear hi)))
      go_ret
      exact ⟨Re_, Bl_⟩
    · rw [if_neg c4] at H
      have c4b0 : ((l0_1.length : Int) == t105) = false := beq_eq_false_iff_ne.mpr c4
      have c4b1 : ((l0_1.length : Int) != t105) = true := bne_iff_ne.mpr c4
      obtain rfl := Option.some.inj H
      go_enter Tryd.func26, Tryd.ntmps26
      go_wp2_with (first | ((with_reducible refine gate_dst (N := 1) rfl ?_); (try (refine gate_guard (by rfl) ?_; dsimp only)); refine bx_ 1 #[.slice A0_0 l0_0.length c0_0, .slice A0_1 l0_1.length c0_1] 25 ?_; intro gb104 hg w11 hbox hb; have BK104 := Aside0.mk (hbox); have GW104 := (Bg_ hg : Aside0 (w.heap.size ≤ gb104)); have GE104 := (Bg_ hg : Aside0 (w.heap.size ≤ gb104)); replace HB := Bs_ hb; clear hb hbox hg; obtain ⟨hcz12_0, hcz12_1⟩ := c2_ BK104; obtain ⟨hfz12_0, hfz12_1⟩ := f2_ BK104) | ((with_reducible refine gate_callee (f := 47) rfl ?_); refine goesL_ (some 8) rfl rfl Tryd.func47 (by kernel_rfl) rfl #[.slice A0_0 l0_0.length c0_0] rfl Ga_ ?_; (with_reducible refine (shape_Size.calls k _ _ l0_0 t105 t106 _ ?side1 ?side2 A2.out).mono ?_); (case side1 => exact Pc_ (Kd.C_below HR0_0.out HB.out)); (case side2 => exact HC0_0.out); rintro e w13 ⟨rfl, hb⟩; refine ⟨_, rfl, ?_⟩; replace BK104 := kb_ BK104 hb; replace HB := Bs_ hb; (try clear hb); (try clear hb2); (try clear hk); (try clear hi); obtain ⟨hcz14_0, hcz14_1⟩ := c2_ BK104; obtain ⟨hfz14_0, hfz14_1⟩ := f2_ BK104))
      go_ret
      exact ⟨Re_, Bl_⟩
  · rw [if_neg c3] at H
    have c3b0 : (t106 == 0) = false := beq_eq_false_iff_ne.mpr c3
    have c3b1 : (t106 != 0) = true := bne_iff_ne.mpr c3
    obtain rfl := Option.some.inj H
    go_enter Tryd.func26, Tryd.ntmps26
    go_wp2_with (first | ((with_reducible refine gate_dst (N := 1) rfl ?_); (try (refine gate_guard (by rfl) ?_; dsimp only)); refine bx_ 1 #[.slice A0_0 l0_0.length c0_0, .slice A0_1 l0_1.length c0_1] 25 ?_; intro gb104 hg w15 hbox hb; have BK104 := Aside0.mk (hbox); have GW104 := (Bg_ hg : Aside0 (w.heap.size ≤ gb104)); have GE104 := (Bg_ hg : Aside0 (w.heap.size ≤ gb104)); replace HB := Bs_ hb; clear hb hbox hg; obtain ⟨hcz16_0, hcz16_1⟩ := c2_ BK104; obtain ⟨hfz16_0, hfz16_1⟩ := f2_ BK104) | ((with_reducible refine gate_callee (f := 47) rfl ?_); refine goesL_ (some 8) rfl rfl Tryd.func47 (by kernel_rfl) rfl #[.slice A0_0 l0_0.length c0_0] rfl Ga_ ?_; (with_reducible refine (shape_Size.calls k _ _ l0_0 t105 t106 _ ?side1 ?side2 A2.out).mono ?_); (case side1 => exact Pc_ (Kd.C_below HR0_0.out HB.out)); (case side2 => exact HC0_0.out); rintro e w17 ⟨rfl, hb⟩; refine ⟨_, rfl, ?_⟩; replace BK104 := kb_ BK104 hb; replace HB := Bs_ hb; (try clear hb); (try clear hb2); (try clear hk); (try clear hi)))
    go_ret
    exact ⟨Re_, Bl_⟩
/-! ### reredosref04_Few: function 10 -/
mutual
def reredosref04_Few.l0 : Nat → Int → List Int → List ByteArray → Option (Bool)
  | 0, _, _, _ => none
  | k + 1, x3, x102000, x102001 => if x3 < (x102001.length : Int) then (reredosref04_Few.j1 k x3 (decide (x3 < 301)) x102000 x102001) else (reredosref04_Few.j1 k x3 false x102000 x102001)
def reredosref04_Few.j1 : Nat → Int → Bool → List Int → List ByteArray → Option (Bool)
  | 0, _, _, _, _ => none
  | k + 1, x3, x12, x102000, x102001 => if x12 = true then (if 0 ≤ x3 then (if x3 < (x102001.length : Int) then (if ((rdOf ByteArray.empty x102001 x3).size : Int) > 120 then (some false) else (reredosref04_Few.l0 k (wrap64 (x3 + 1)) x102000 x102001)) else (none)) else (none)) else (if (x102001.length : Int) ≤ 300 then (some (decide ((x102000.length : Int) ≤ 20))) else (some false))
end
def reredosref04_Few.f (k : Nat) (l0_0 : List Int) (l0_1 : List ByteArray) : Option (Bool) := reredosref04_Few.l0 k 0 l0_0 l0_1
set_option maxHeartbeats 8000000 in
set_option maxRecDepth 100000 in
theorem reredosref04_Few.calls (k : Nat) (A0_0 : Option Addr) (c0_0 : Nat) (l0_0 : List Int) (A0_1 : Option Addr) (c0_1 : Nat) (l0_1 : List ByteArray) (r : Bool) (w : World) (hr0_0 : Kd.C (Kd.int .i64) w A0_0 l0_0.length l0_0) (hc0_0 : l0_0.length ≤ c0_0) (hr0_1 : Kd.C Kd.string w A0_1 l0_1.length l0_1) (hc0_1 : l0_1.length ≤ c0_1) (h : reredosref04_Few.f k l0_0 l0_1 = some r) :
    Calls Tryd.prog 10 #[.agg #[.slice A0_0 l0_0.length c0_0, .slice A0_1 l0_1.length c0_1]] w fun e w' => e = .returned (.bool r) ∧ Below w.heap.size w w' := by
  have hu25 := Tryd.underlying25
  have HR0_0 := Aside0.mk hr0_0
  have HC0_0 := Aside0.mk hc0_0
  clear hr0_0 hc0_0
  have HR0_1 := Aside0.mk hr0_1
  have HC0_1 := Aside0.mk hc0_1
  clear hr0_1 hc0_1
  have HB := Aside0.mk (Below.refl w.heap.size w)
  have H : (reredosref04_Few.l0 k 0 l0_0 l0_1) = some r := h
  clear h
  have H' := Aside0.mk H
  clear H
  go_enter Tryd.func10, Tryd.ntmps10
  go_wp2_with (first | ((with_reducible refine gate_dst (N := 1) rfl ?_); (try (refine gate_guard (by rfl) ?_; dsimp only)); refine bx_ 1 #[.slice A0_0 l0_0.length c0_0, .slice A0_1 l0_1.length c0_1] 25 ?_; intro gb101 hg w2 hbox hb; have BK101 := Aside0.mk (hbox); have GW101 := (Bg_ hg : Aside0 (w.heap.size ≤ gb101)); have GE101 := (Bg_ hg : Aside0 (w.heap.size ≤ gb101)); replace HB := Bs_ hb; clear hb hbox hg))
  go_loopg [3] k (fun kq v3 w' => ∃ (x3_1 : Int), v3 = .int .i64 x3_1 ∧ Aside0 (reredosref04_Few.l0 kq x3_1 l0_0 l0_1 = some r) ∧ Aside0 (kq ≤ k) ∧ Aside0 (w'.heap[gb101]? = some (.cells #[(.slice A0_0 l0_0.length c0_0), (.slice A0_1 l0_1.length c0_1)] 25 (0, 0))) ∧ Aside0 (Below w.heap.size w w'))
  case atStart => exact ⟨(0), Rf_, H', ⟨Nat.le_refl _⟩, ⟨by (with_reducible repeat (first | refine blk_drewN ?_ _ | refine blk_drew ?_ | refine blk_alloc ?_ _)); exact BK101.out⟩, ⟨Bl_⟩⟩
  case round =>
    clear H'
    try clear c1
    try clear p2
    obtain ⟨x3_1, rfl, HA, HK1, BK101, HB⟩ := hrel
    cases gk with
    | zero => exact absurd HA.out (by simp [reredosref04_Few.l0])
    | succ k1 =>
      have H := HA.out
      clear HA
      simp only [reredosref04_Few.l0] at H
      have HC3 := Aside0.mk H
      clear H
      go_upto_region 2 with (fail)
      go_cut [12] (fun v12 wc => ∃ (kq : Nat) (x12_2 : Bool), v12 = .bool x12_2 ∧ Aside0 (reredosref04_Few.j1 kq x3_1 x12_2 l0_0 l0_1 = some r) ∧ Aside0 (kq ≤ k1) ∧ Aside0 (wc.heap[gb101]? = some (.cells #[(.slice A0_0 l0_0.length c0_0), (.slice A0_1 l0_1.length c0_1)] 25 (0, 0))) ∧ Aside0 (Below w.heap.size w wc))
      case first =>
        have H := HC3.out
        clear HC3
        by_cases c4 : x3_1 < (l0_1.length : Int)
        · rw [if_pos c4] at H
          have c4b0 : decide (x3_1 < (l0_1.length : Int)) = true := decide_eq_true c4
          clear c4
          (first | rw [c4b0] | (simp only [i64_w, i32_w]; rw [c4b0]) | skip)
          have H' := Aside0.mk H
          clear H
          obtain ⟨hcz5_0, hcz5_1⟩ := c2_ BK101
          obtain ⟨hfz5_0, hfz5_1⟩ := f2_ BK101
          go_wp2
          go_meet
          case rel => exact ⟨_, (decide (x3_1 < 301)), Rf_, H', ⟨by have := HK1.out; first | omega | exact Nat.le_refl _⟩, ⟨by (with_reducible repeat (first | refine blk_drewN ?_ _ | refine blk_drew ?_ | refine blk_alloc ?_ _)); exact BK101.out⟩, ⟨Bl_⟩⟩
        · rw [if_neg c4] at H
          have c4b0 : decide (x3_1 < (l0_1.length : Int)) = false := decide_eq_false c4
          clear c4
          (first | rw [c4b0] | (simp only [i64_w, i32_w]; rw [c4b0]) | skip)
          have H' := Aside0.mk H
          clear H
          obtain ⟨hcz6_0, hcz6_1⟩ := c2_ BK101
          obtain ⟨hfz6_0, hfz6_1⟩ := f2_ BK101
          go_wp2
          go_meet
          case rel => exact ⟨_, (false), Rf_, H', ⟨by have := HK1.out; first | omega | exact Nat.le_refl _⟩, ⟨by (with_reducible repeat (first | refine blk_drewN ?_ _ | refine blk_drew ?_ | refine blk_alloc ?_ _)); exact BK101.out⟩, ⟨Bl_⟩⟩
      case rest =>
        clear HC3
        try clear c1
        try clear p2
        try clear c4
        try clear c4b0
        try clear hcz5_0
        try clear hcz5_1
        try clear hcz6_0
        try clear hcz6_1
        try clear hfz5_0
        try clear hfz5_1
        try clear hfz6_0
        try clear hfz6_1
        try clear p2
        obtain ⟨kq, x12_2, rfl, HA, HJ2, BK101, HB⟩ := hcut
        cases kq with
        | zero => exact absurd HA.out (by simp [reredosref04_Few.j1])
        | succ kj2 =>
          have H := HA.out
          clear HA
          simp only [reredosref04_Few.j1] at H
          by_cases c7 : x12_2 = true
          · subst c7
            have H1 : (if 0 ≤ x3_1 then (if x3_1 < (l0_1.length : Int) then (if ((rdOf ByteArray.empty l0_1 x3_1).size : Int) > 120 then (some false) else (reredosref04_Few.l0 kj2 (wrap64 (x3_1 + 1)) l0_0 l0_1)) else (none)) else (none)) = some r := by rw [if_pos rfl] at H; exact H
            clear H
            have H := H1
            clear H1
            by_cases c8 : 0 ≤ x3_1
            · rw [if_pos c8] at H
              have c8b0 : decide (0 ≤ x3_1) = true := decide_eq_true c8
              clear c8
              by_cases c9 : x3_1 < (l0_1.length : Int)
              · rw [if_pos c9] at H
                have c9b0 : decide (x3_1 < (l0_1.length : Int)) = true := decide_eq_true c9
                clear c9
                by_cases c10 : ((rdOf ByteArray.empty l0_1 x3_1).size : Int) > 120
                · rw [if_pos c10] at H
                  have c10b0 : decide (120 < ((rdOf ByteArray.empty l0_1 x3_1).size : Int)) = true := decide_eq_true c10
                  have c10b1 : decide (120 < (rdOf ByteArray.empty l0_1 x3_1).size) = true := decide_eq_true (by omega)
                  clear c10
                  obtain rfl := Option.some.inj H
                  obtain ⟨hcz11_0, hcz11_1⟩ := c2_ BK101
                  obtain ⟨hfz11_0, hfz11_1⟩ := f2_ BK101
                  have p102 : 0 ≤ (x3_1 : Int) := of_decide_eq_true As_
                  have q102 : x3_1 < (l0_1.length : Int) := of_decide_eq_true As_
                  obtain ⟨ad102, e102, hx102_0⟩ := Kd.at_string HR0_1.out x3_1 p102 q102
                  cases e102
                  replace hx102_0 := (HB.out.cell (World.block_lt_of_cell? w _ hx102_0)).trans hx102_0
                  replace p102 := eq_true p102
                  replace q102 := eq_true q102
                  go_wp2
                  go_ret
                  exact ⟨Re_, Bl_⟩
                · rw [if_neg c10] at H
                  have c10b0 : decide (120 < ((rdOf ByteArray.empty l0_1 x3_1).size : Int)) = false := decide_eq_false c10
                  have c10b1 : decide (120 < (rdOf ByteArray.empty l0_1 x3_1).size) = false := decide_eq_false (by omega)
                  clear c10
                  have H' := Aside0.mk H
                  clear H
                  obtain ⟨hcz12_0, hcz12_1⟩ := c2_ BK101
                  obtain ⟨hfz12_0, hfz12_1⟩ := f2_ BK101
                  have p102 : 0 ≤ (x3_1 : Int) := of_decide_eq_true As_
                  have q102 : x3_1 < (l0_1.length : Int) := of_decide_eq_true As_
                  obtain ⟨ad102, e102, hx102_0⟩ := Kd.at_string HR0_1.out x3_1 p102 q102
                  cases e102
                  replace hx102_0 := (HB.out.cell (World.block_lt_of_cell? w _ hx102_0)).trans hx102_0
                  replace p102 := eq_true p102
                  replace q102 := eq_true q102
                  go_wp2
                  go_roundg kj2
                  case measure => have := HK1.out; have := HJ2.out; omega
                  case rel => exact ⟨(wrap64 (x3_1 + 1)), Rf_, H', ⟨by have := HK1.out; have := HJ2.out; omega⟩, ⟨by (with_reducible repeat (first | refine blk_drewN ?_ _ | refine blk_drew ?_ | refine blk_alloc ?_ _)); exact BK101.out⟩, ⟨Bl_⟩⟩
              · rw [if_neg c9] at H
                exact absurd H (by simp)
            · rw [if_neg c8] at H
              exact absurd H (by simp)
          · replace c7 := Bool.eq_false_iff.mpr c7
            subst c7
            have H1 : (if (l0_1.length : Int) ≤ 300 then (some (decide ((l0_0.length : Int) ≤ 20))) else (some false)) = some r := by rw [if_neg (show ¬ (false = true) by decide)] at H; exact H
            clear H
            have H := H1
            clear H1
            by_cases c13 : (l0_1.length : Int) ≤ 300
            · rw [if_pos c13] at H
              have c13b0 : decide ((l0_1.length : Int) ≤ 300) = true := decide_eq_true c13
              have c13b1 : decide (l0_1.length ≤ 300) = true := decide_eq_true (by omega)
              clear c13
              obtain rfl := Option.some.inj H
              obtain ⟨hcz14_0, hcz14_1⟩ := c2_ BK101
              obtain ⟨hfz14_0, hfz14_1⟩ := f2_ BK101
              go_wp2
              go_ret
              exact ⟨Re_, Bl_⟩
            · rw [if_neg c13] at H
              have c13b0 : decide ((l0_1.length : Int) ≤ 300) = false := decide_eq_false c13
              have c13b1 : decide (l0_1.length ≤ 300) = false := decide_eq_false (by omega)
              clear c13
              obtain rfl := Option.some.inj H
              obtain ⟨hcz15_0, hcz15_1⟩ := c2_ BK101
              obtain ⟨hfz15_0, hfz15_1⟩ := f2_ BK101
              go_wp2
              go_ret
              exact ⟨Re_, Bl_⟩
/-! ### slices_Equal_int_int: function 88 -/
def slices_Equal_int_int.l0 : Nat → List Int → List Int → Int → Int → Option (Bool)
  | 0, _, _, _, _ => none
  | k + 1, x0, x1, x12, x13 => if x13 < x12 then (if 0 ≤ x13 then (if x13 < (x0.length : Int) then (if x13 < (x1.length : Int) then (if (rd x0 x13) = (rd x1 x13) then (slices_Equal_int_int.l0 k x0 x1 x12 (wrap64 (x13 + 1))) else (some false)) else (none)) else (none)) else (none)) else (some true)
def slices_Equal_int_int.f (k : Nat) (l0 : List Int) (l1 : List Int) : Option (Bool) := if (l0.length : Int) = (l1.length : Int) then (slices_Equal_int_int.l0 k l0 l1 (l0.length : Int) 0) else (some false)
set_option maxHeartbeats 8000000 in
set_option maxRecDepth 100000 in
theorem slices_Equal_int_int.calls (k : Nat) (A0 : Option Addr) (c0 : Nat) (l0 : List Int) (A1 : Option Addr) (c1 : Nat) (l1 : List Int) (r : Bool) (w : World) (hr0 : Kd.C (Kd.int .i64) w A0 l0.length l0) (hc0 : l0.length ≤ c0) (hr1 : Kd.C (Kd.int .i64) w A1 l1.length l1) (hc1 : l1.length ≤ c1) (h : slices_Equal_int_int.f k l0 l1 = some r) :
    Calls Tryd.prog 88 #[.slice A0 l0.length c0, .slice A1 l1.length c1] w fun e w' => e = .returned (.bool r) ∧ Drawn0 w w' := by
  have HR0 := Aside0.mk hr0
  have HC0 := Aside0.mk hc0
  clear hr0 hc0
  have HR1 := Aside0.mk hr1
  have HC1 := Aside0.mk hc1
  clear hr1 hc1
  have H : (if (l0.length : Int) = (l1.length : Int) then (slices_Equal_int_int.l0 k l0 l1 (l0.length : Int) 0) else (some false)) = some r := h
  clear h
  by_cases c3 : (l0.length : Int) = (l1.length : Int)
  · rw [if_pos c3] at H
    have c3b0 : ((l0.length : Int) == (l1.length : Int)) = true := beq_iff_eq.mpr c3
    have c3b1 : ((l0.length : Int) != (l1.length : Int)) = false := bne_eq_false_iff_eq.mpr c3
    have c3b2 : (l0.length == l1.length) = true := by first | simpa using c3 | (simp at c3 ⊢; omega)
    clear c3
    have H' := Aside0.mk H
    clear H
    go_enter Tryd.func88, Tryd.ntmps88
    go_wp2
    repeat (go_quiet (fail); try go_wp2)
    go_loopg [13] k (fun kq v13 w' => ∃ (x13_1 : Int), v13 = .int .i64 x13_1 ∧ Aside0 (slices_Equal_int_int.l0 kq l0 l1 (l0.length : Int) x13_1 = some r) ∧ Aside0 (kq ≤ k) ∧ Drawn0 w w')
    case atStart => exact ⟨(0), Rf_, H', ⟨Nat.le_refl _⟩, Dw_⟩
    case round =>
      clear H'
      try clear c1
      try clear p2
      try clear c3
      try clear c3b0
      try clear c3b1
      try clear c3b2
      obtain ⟨x13_1, rfl, HA, HK1, ⟨m1, rfl⟩⟩ := hrel
      cases gk with
      | zero => exact absurd HA.out (by simp [slices_Equal_int_int.l0])
      | succ k1 =>
        have H := HA.out
        clear HA
        simp only [slices_Equal_int_int.l0] at H
        by_cases c4 : x13_1 < (l0.length : Int)
        · rw [if_pos c4] at H
          have c4b0 : decide (x13_1 < (l0.length : Int)) = true := decide_eq_true c4
          clear c4
          by_cases c5 : 0 ≤ x13_1
          · rw [if_pos c5] at H
            have c5b0 : decide (0 ≤ x13_1) = true := decide_eq_true c5
            clear c5
            by_cases c6 : x13_1 < (l0.length : Int)
            · rw [if_pos c6] at H
              have c6b0 : decide (x13_1 < (l0.length : Int)) = true := decide_eq_true c6
              clear c6
              by_cases c7 : x13_1 < (l1.length : Int)
              · rw [if_pos c7] at H
                have c7b0 : decide (x13_1 < (l1.length : Int)) = true := decide_eq_true c7
                clear c7
                by_cases c8 : (rd l0 x13_1) = (rd l1 x13_1)
                · rw [if_pos c8] at H
                  have c8b0 : ((rd l0 x13_1) == (rd l1 x13_1)) = true := beq_iff_eq.mpr c8
                  have c8b1 : ((rd l0 x13_1) != (rd l1 x13_1)) = false := bne_eq_false_iff_eq.mpr c8
                  clear c8
                  have H' := Aside0.mk H
                  clear H
                  have p101 : 0 ≤ (x13_1 : Int) := of_decide_eq_true As_
                  have q101 : x13_1 < (l0.length : Int) := of_decide_eq_true As_
                  obtain ⟨ad101, e101, hx101_0⟩ := Kd.at_int HR0.out x13_1 p101 q101
                  cases e101
                  replace p101 := eq_true p101
                  replace q101 := eq_true q101
                  have p102 : 0 ≤ (x13_1 : Int) := of_decide_eq_true As_
                  have q102 : x13_1 < (l1.length : Int) := of_decide_eq_true As_
                  obtain ⟨ad102, e102, hx102_0⟩ := Kd.at_int HR1.out x13_1 p102 q102
                  cases e102
                  replace p102 := eq_true p102
                  replace q102 := eq_true q102
                  go_wp2
                  repeat (go_quiet (fail); try go_wp2)
                  go_roundg k1
                  case measure => have := HK1.out; omega
                  case rel => exact ⟨(wrap64 (x13_1 + 1)), Rf_, H', ⟨by have := HK1.out; omega⟩, Dw_⟩
                · rw [if_neg c8] at H
                  have c8b0 : ((rd l0 x13_1) == (rd l1 x13_1)) = false := beq_eq_false_iff_ne.mpr c8
                  have c8b1 : ((rd l0 x13_1) != (rd l1 x13_1)) = true := bne_iff_ne.mpr c8
                  obtain rfl := Option.some.inj H
                  have p101 : 0 ≤ (x13_1 : Int) := of_decide_eq_true As_
                  have q101 : x13_1 < (l0.length : Int) := of_decide_eq_true As_
                  obtain ⟨ad101, e101, hx101_0⟩ := Kd.at_int HR0.out x13_1 p101 q101
                  cases e101
                  replace p101 := eq_true p101
                  replace q101 := eq_true q101
                  have p102 : 0 ≤ (x13_1 : Int) := of_decide_eq_true As_
                  have q102 : x13_1 < (l1.length : Int) := of_decide_eq_true As_
                  obtain ⟨ad102, e102, hx102_0⟩ := Kd.at_int HR1.out x13_1 p102 q102
                  cases e102
                  replace p102 := eq_true p102
                  replace q102 := eq_true q102
                  go_wp2
                  repeat (go_quiet (fail); try go_wp2)
                  go_ret
                  exact ⟨Rf_, Dw_⟩
              · rw [if_neg c7] at H
                exact absurd H (by simp)
            · rw [if_neg c6] at H
              exact absurd H (by simp)
          · rw [if_neg c5] at H
            exact absurd H (by simp)
        · rw [if_neg c4] at H
          have c4b0 : decide (x13_1 < (l0.length : Int)) = false := decide_eq_false c4
          clear c4
          obtain rfl := Option.some.inj H
          go_wp2
          repeat (go_quiet (fail); try go_wp2)
          go_ret
          exact ⟨Rf_, Dw_⟩
  · rw [if_neg c3] at H
    have c3b0 : ((l0.length : Int) == (l1.length : Int)) = false := beq_eq_false_iff_ne.mpr c3
    have c3b1 : ((l0.length : Int) != (l1.length : Int)) = true := bne_iff_ne.mpr c3
    have c3b2 : (l0.length == l1.length) = false := by first | simpa using c3 | (simp at c3 ⊢; omega)
    obtain rfl := Option.some.inj H
    go_enter Tryd.func88, Tryd.ntmps88
    go_wp2
    repeat (go_quiet (fail); try go_wp2)
    go_ret
    exact ⟨Rf_, Dw_⟩
/-! ### shape_Same: function 53 -/
def shape_Same.f (k : Nat) (l0 : List Int) (l1 : List Int) : Option (Bool) := (slices_Equal_int_int.f k l0 l1).bind fun t101 => (some t101)
set_option maxHeartbeats 8000000 in
set_option maxRecDepth 100000 in
theorem shape_Same.calls (k : Nat) (A0 : Option Addr) (c0 : Nat) (l0 : List Int) (A1 : Option Addr) (c1 : Nat) (l1 : List Int) (r : Bool) (w : World) (hr0 : Kd.C (Kd.int .i64) w A0 l0.length l0) (hc0 : l0.length ≤ c0) (hr1 : Kd.C (Kd.int .i64) w A1 l1.length l1) (hc1 : l1.length ≤ c1) (h : shape_Same.f k l0 l1 = some r) :
    Calls Tryd.prog 53 #[.slice A0 l0.length c0, .slice A1 l1.length c1] w fun e w' => e = .returned (.bool r) ∧ Drawn0 w w' := by
  have HR0 := Aside0.mk hr0
  have HC0 := Aside0.mk hc0
  clear hr0 hc0
  have HR1 := Aside0.mk hr1
  have HC1 := Aside0.mk hc1
  clear hr1 hc1
  have H : ((slices_Equal_int_int.f k l0 l1).bind fun t101 => (some t101)) = some r := h
  clear h
  obtain ⟨t101, A3, H⟩ := bnd_ H
  try dsimp -simprocs only at H
  obtain rfl := Option.some.inj H
  go_enter Tryd.func53, Tryd.ntmps53
  go_wp2_with (first | ((with_reducible refine gate_callee (f := 88) rfl ?_); refine goesL_ (some 7) rfl rfl Tryd.func88 (by kernel_rfl) rfl #[.slice A0 l0.length c0, .slice A1 l1.length c1] rfl Ga_ ?_; (with_reducible refine (slices_Equal_int_int.calls k _ _ l0 _ _ l1 t101 _ ?side1 ?side2 ?side3 ?side4 A3.out).mono ?_); (case side1 => repeat (first | exact HR0.out | (with_reducible refine Kd.C_alloc ?_ _) | (with_reducible refine Kd.C_drewN ?_ _) | (with_reducible refine Kd.C_drew ?_))); (case side2 => exact HC0.out); (case side3 => repeat (first | exact HR1.out | (with_reducible refine Kd.C_alloc ?_ _) | (with_reducible refine Kd.C_drewN ?_ _) | (with_reducible refine Kd.C_drew ?_))); (case side4 => exact HC1.out); rintro e w' ⟨rfl, ⟨nd, rfl⟩⟩; refine ⟨_, rfl, ?_⟩))
  go_ret
  exact ⟨Rf_, Dw_⟩
/-! ### slices_Equal_string_string: function 54 -/
def slices_Equal_string_string.l0 : Nat → List ByteArray → List ByteArray → Int → Int → Option (Bool)
  | 0, _, _, _, _ => none
  | k + 1, x0, x1, x12, x13 => if x13 < x12 then (if 0 ≤ x13 then (if x13 < (x0.length : Int) then (if x13 < (x1.length : Int) then (if (rdOf ByteArray.empty x0 x13).toList = (rdOf ByteArray.empty x1 x13).toList then (slices_Equal_string_string.l0 k x0 x1 x12 (wrap64 (x13 + 1))) else (some false)) else (none)) else (none)) else (none)) else (some true)
def slices_Equal_string_string.f (k : Nat) (l0 : List ByteArray) (l1 : List ByteArray) : Option (Bool) := if (l0.length : Int) = (l1.length : Int) then (slices_Equal_string_string.l0 k l0 l1 (l0.length : Int) 0) else (some false)
set_option maxHeartbeats 8000000 in
set_option maxRecDepth 100000 in
theorem slices_Equal_string_string.calls (k : Nat) (A0 : Option Addr) (c0 : Nat) (l0 : List ByteArray) (A1 : Option Addr) (c1 : Nat) (l1 : List ByteArray) (r : Bool) (w : World) (hr0 : Kd.C Kd.string w A0 l0.length l0) (hc0 : l0.length ≤ c0) (hr1 : Kd.C Kd.string w A1 l1.length l1) (hc1 : l1.length ≤ c1) (h : slices_Equal_string_string.f k l0 l1 = some r) :
    Calls Tryd.prog 54 #[.slice A0 l0.length c0, .slice A1 l1.length c1] w fun e w' => e = .returned (.bool r) ∧ Drawn0 w w' := by
  have HR0 := Aside0.mk hr0
  have HC0 := Aside0.mk hc0
  clear hr0 hc0
  have HR1 := Aside0.mk hr1
  have HC1 := Aside0.mk hc1
  clear hr1 hc1
  have H : (if (l0.length : Int) = (l1.length : Int) then (slices_Equal_string_string.l0 k l0 l1 (l0.length : Int) 0) else (some false)) = some r := h
  clear h
  by_cases c3 : (l0.length : Int) = (l1.length : Int)
  · rw [if_pos c3] at H
    have c3b0 : ((l0.length : Int) == (l1.length : Int)) = true := beq_iff_eq.mpr c3
    have c3b1 : ((l0.length : Int) != (l1.length : Int)) = false := bne_eq_false_iff_eq.mpr c3
    have c3b2 : (l0.length == l1.length) = true := by first | simpa using c3 | (simp at c3 ⊢; omega)
    clear c3
    have H' := Aside0.mk H
    clear H
    go_enter Tryd.func54, Tryd.ntmps54
    go_wp2
    repeat (go_quiet (fail); try go_wp2)
    go_loopg [13] k (fun kq v13 w' => ∃ (x13_1 : Int), v13 = .int .i64 x13_1 ∧ Aside0 (slices_Equal_string_string.l0 kq l0 l1 (l0.length : Int) x13_1 = some r) ∧ Aside0 (kq ≤ k) ∧ Drawn0 w w')
    case atStart => exact ⟨(0), Rf_, H', ⟨Nat.le_refl _⟩, Dw_⟩
    case round =>
      clear H'
      try clear c1
      try clear p2
      try clear c3
      try clear c3b0
      try clear c3b1
      try clear c3b2
      obtain ⟨x13_1, rfl, HA, HK1, ⟨m1, rfl⟩⟩ := hrel
      cases gk with
      | zero => exact absurd HA.out (by simp [slices_Equal_string_string.l0])
      | succ k1 =>
        have H := HA.out
        clear HA
        simp only [slices_Equal_string_string.l0] at H
        by_cases c4 : x13_1 < (l0.length : Int)
        · rw [if_pos c4] at H
          have c4b0 : decide (x13_1 < (l0.length : Int)) = true := decide_eq_true c4
          clear c4
          by_cases c5 : 0 ≤ x13_1
          · rw [if_pos c5] at H
            have c5b0 : decide (0 ≤ x13_1) = true := decide_eq_true c5
            clear c5
            by_cases c6 : x13_1 < (l0.length : Int)
            · rw [if_pos c6] at H
              have c6b0 : decide (x13_1 < (l0.length : Int)) = true := decide_eq_true c6
              clear c6
              by_cases c7 : x13_1 < (l1.length : Int)
              · rw [if_pos c7] at H
                have c7b0 : decide (x13_1 < (l1.length : Int)) = true := decide_eq_true c7
                clear c7
                by_cases c8 : (rdOf ByteArray.empty l0 x13_1).toList = (rdOf ByteArray.empty l1 x13_1).toList
                · rw [if_pos c8] at H
                  have c8b0 : ((rdOf ByteArray.empty l0 x13_1).toList == (rdOf ByteArray.empty l1 x13_1).toList) = true := beq_iff_eq.mpr c8
                  have c8b1 : ((rdOf ByteArray.empty l0 x13_1).toList != (rdOf ByteArray.empty l1 x13_1).toList) = false := bne_eq_false_iff_eq.mpr c8
                  clear c8
                  have H' := Aside0.mk H
                  clear H
                  have p101 : 0 ≤ (x13_1 : Int) := of_decide_eq_true As_
                  have q101 : x13_1 < (l0.length : Int) := of_decide_eq_true As_
                  obtain ⟨ad101, e101, hx101_0⟩ := Kd.at_string HR0.out x13_1 p101 q101
                  cases e101
                  replace p101 := eq_true p101
                  replace q101 := eq_true q101
                  have p102 : 0 ≤ (x13_1 : Int) := of_decide_eq_true As_
                  have q102 : x13_1 < (l1.length : Int) := of_decide_eq_true As_
                  obtain ⟨ad102, e102, hx102_0⟩ := Kd.at_string HR1.out x13_1 p102 q102
                  cases e102
                  replace p102 := eq_true p102
                  replace q102 := eq_true q102
                  go_wp2
                  repeat (go_quiet (fail); try go_wp2)
                  go_roundg k1
                  case measure => have := HK1.out; omega
                  case rel => exact ⟨(wrap64 (x13_1 + 1)), Rf_, H', ⟨by have := HK1.out; omega⟩, Dw_⟩
                · rw [if_neg c8] at H
                  have c8b0 : ((rdOf ByteArray.empty l0 x13_1).toList == (rdOf ByteArray.empty l1 x13_1).toList) = false := beq_eq_false_iff_ne.mpr c8
                  have c8b1 : ((rdOf ByteArray.empty l0 x13_1).toList != (rdOf ByteArray.empty l1 x13_1).toList) = true := bne_iff_ne.mpr c8
                  obtain rfl := Option.some.inj H
                  have p101 : 0 ≤ (x13_1 : Int) := of_decide_eq_true As_
                  have q101 : x13_1 < (l0.length : Int) := of_decide_eq_true As_
                  obtain ⟨ad101, e101, hx101_0⟩ := Kd.at_string HR0.out x13_1 p101 q101
                  cases e101
                  replace p101 := eq_true p101
                  replace q101 := eq_true q101
                  have p102 : 0 ≤ (x13_1 : Int) := of_decide_eq_true As_
                  have q102 : x13_1 < (l1.length : Int) := of_decide_eq_true As_
                  obtain ⟨ad102, e102, hx102_0⟩ := Kd.at_string HR1.out x13_1 p102 q102
                  cases e102
                  replace p102 := eq_true p102
                  replace q102 := eq_true q102
                  go_wp2
                  repeat (go_quiet (fail); try go_wp2)
                  go_ret
                  exact ⟨Rf_, Dw_⟩
              · rw [if_neg c7] at H
                exact absurd H (by simp)
            · rw [if_neg c6] at H
              exact absurd H (by simp)
          · rw [if_neg c5] at H
            exact absurd H (by simp)
        · rw [if_neg c4] at H
          have c4b0 : decide (x13_1 < (l0.length : Int)) = false := decide_eq_false c4
          clear c4
          obtain rfl := Option.some.inj H
          go_wp2
          repeat (go_quiet (fail); try go_wp2)
          go_ret
          exact ⟨Rf_, Dw_⟩
  · rw [if_neg c3] at H
    have c3b0 : ((l0.length : Int) == (l1.length : Int)) = false := beq_eq_false_iff_ne.mpr c3
    have c3b1 : ((l0.length : Int) != (l1.length : Int)) = true := bne_iff_ne.mpr c3
    have c3b2 : (l0.length == l1.length) = false := by first | simpa using c3 | (simp at c3 ⊢; omega)
    obtain rfl := Option.some.inj H
    go_enter Tryd.func54, Tryd.ntmps54
    go_wp2
    repeat (go_quiet (fail); try go_wp2)
    go_ret
    exact ⟨Rf_, Dw_⟩
/-! ### val_Same: function 24 -/
def val_Same.f (k : Nat) (l0_0 : List Int) (l0_1 : List ByteArray) (l1_0 : List Int) (l1_1 : List ByteArray) : Option (Bool) := (shape_Same.f k l0_0 l1_0).bind fun t103 => (if t103 = true then ((slices_Equal_string_string.f k l0_1 l1_1).bind fun t104 => (some t104)) else (some false))
set_option maxHeartbeats 8000000 in
set_option maxRecDepth 100000 in
theorem val_Same.calls (k : Nat) (A0_0 : Option Addr) (c0_0 : Nat) (l0_0 : List Int) (A0_1 : Option Addr) (c0_1 : Nat) (l0_1 : List ByteArray) (A1_0 : Option Addr) (c1_0 : Nat) (l1_0 : List Int) (A1_1 : Option Addr) (c1_1 : Nat) (l1_1 : List ByteArray) (r : Bool) (w : World) (hr0_0 : Kd.C (Kd.int .i64) w A0_0 l0_0.length l0_0) (hc0_0 : l0_0.length ≤ c0_0) (hr0_1 : Kd.C Kd.string w A0_1 l0_1.length l0_1) (hc0_1 : l0_1.length ≤ c0_1) (hr1_0 : Kd.C (Kd.int .i64) w A1_0 l1_0.length l1_0) (hc1_0 : l1_0.length ≤ c1_0) (hr1_1 : Kd.C Kd.string w A1_1 l1_1.length l1_1) (hc1_1 : l1_1.length ≤ c1_1) (h : val_Same.f k l0_0 l0_1 l1_0 l1_1 = some r) :
    Calls Tryd.prog 24 #[.agg #[.slice A0_0 l0_0.length c0_0, .slice A0_1 l0_1.length c0_1], .agg #[.slice A1_0 l1_0.length c1_0, .slice A1_1 l1_1.length c1_1]] w fun e w' => e = .returned (.bool r) ∧ Below w.heap.size w w' := by
  have hu25 := Tryd.underlying25
  have HR0_0 := Aside0.mk hr0_0
  have HC0_0 := Aside0.mk hc0_0
  clear hr0_0 hc0_0
  have HR0_1 := Aside0.mk hr0_1
  have HC0_1 := Aside0.mk hc0_1
  clear hr0_1 hc0_1
  have HR1_0 := Aside0.mk hr1_0
  have HC1_0 := Aside0.mk hc1_0
  clear hr1_0 hc1_0
  have HR1_1 := Aside0.mk hr1_1
  have HC1_1 := Aside0.mk hc1_1
  clear hr1_1 hc1_1
  have HB := Aside0.mk (Below.refl w.heap.size w)
  have H : ((shape_Same.f k l0_0 l1_0).bind fun t103 => (if t103 = true then ((slices_Equal_string_string.f k l0_1 l1_1).bind fun t104 => (some t104)) else (some false))) = some r := h
  clear h
  obtain ⟨t103, A3, H⟩ := bnd_ H
  try dsimp -simprocs only at H
  by_cases c4 : t103 = true
  · subst c4
    have H1 : ((slices_Equal_string_string.f k l0_1 l1_1).bind fun t104 => (some t104)) = some r := by rw [if_pos rfl] at H; exact H
    clear H
    have H := H1
    clear H1
    obtain ⟨t104, A5, H⟩ := bnd_ H
    try dsimp -simprocs only at H
    obtain rfl := Option.some.inj H
    go_enter Tryd.func24, Tryd.ntmps24
    go_wp2_with (first | ((with_reducible refine gate_dst (N := 2) rfl ?_); refine bx_ 2 #[.slice A0_0 l0_0.length c0_0, .slice A0_1 l0_1.length c0_1] 25 ?_; intro gb101 hg w6 hbox hb; have BK101 := Aside0.mk (hbox); have GW101 := (Bg_ hg : Aside0 (w.heap.size ≤ gb101)); have GE101 := (Bg_ hg : Aside0 (w.heap.size ≤ gb101)); replace HB := Bs_ hb; clear hb hbox hg) | ((with_reducible refine gate_dst (N := 3) rfl ?_); refine bx_ 3 #[.slice A1_0 l1_0.length c1_0, .slice A1_1 l1_1.length c1_1] 25 ?_; intro gb102 hg w7 hbox hb; have BK102 := Aside0.mk (hbox); have GW102 := (Bg_ hg : Aside0 (w.heap.size ≤ gb102)); have GE102 := (Bg_ hg : Aside0 (w.heap.size ≤ gb102)); replace HB := Bs_ hb; have NB101_102 := nl_ hg BK101; have NB102_101 := ng_ hg BK101; replace BK101 := kb_ BK101 hb; clear hb hbox hg; have hnb8 := NB101_102.out; have hnc8 := NB102_101.out; obtain ⟨hcz9_0, hcz9_1⟩ := c2_ BK101; obtain ⟨hfz9_0, hfz9_1⟩ := f2_ BK101; obtain ⟨hcz10_0, hcz10_1⟩ := c2_ BK102; obtain ⟨hfz10_0, hfz10_1⟩ := f2_ BK102) | ((with_reducible refine gate_callee (f := 53) rfl ?_); refine goesL_ (some 9) rfl rfl Tryd.func53 (by kernel_rfl) rfl #[.slice A0_0 l0_0.length c0_0, .slice A1_0 l1_0.length c1_0] rfl Ga_ ?_; (with_reducible refine (shape_Same.calls k _ _ l0_0 _ _ l1_0 true _ ?side1 ?side2 ?side3 ?side4 A3.out).mono ?_); (case side1 => exact Pc_ (Kd.C_below HR0_0.out HB.out)); (case side2 => exact HC0_0.out); (case side3 => exact Pc_ (Kd.C_below HR1_0.out HB.out)); (case side4 => exact HC1_0.out); rintro e w' ⟨rfl, ⟨nd, rfl⟩⟩; refine ⟨_, rfl, ?_⟩) | (go_at_call 54; (with_reducible refine (slices_Equal_string_string.calls k _ _ l0_1 _ _ l1_1 t104 _ ?side1 ?side2 ?side3 ?side4 A5.out).mono ?_); (case side1 => exact Pc_ (Kd.C_below HR0_1.out Bl_)); (case side2 => exact HC0_1.out); (case side3 => exact Pc_ (Kd.C_below HR1_1.out Bl_)); (case side4 => exact HC1_1.out); rintro e w' ⟨rfl, ⟨nd, rfl⟩⟩))
    go_ret
    exact ⟨Re_, Bl_⟩
  · replace c4 := Bool.eq_false_iff.mpr c4
    subst c4
    have H1 : (some false) = some r := by rw [if_neg (show ¬ (false = true) by decide)] at H; exact H
    clear H
    have H := H1
    clear H1
    obtain rfl := Option.some.inj H
    go_enter Tryd.func24, Tryd.ntmps24
    go_wp2_with (first | ((with_reducible refine gate_dst (N := 2) rfl ?_); refine bx_ 2 #[.slice A0_0 l0_0.length c0_0, .slice A0_1 l0_1.length c0_1] 25 ?_; intro gb101 hg w11 hbox hb; have BK101 := Aside0.mk (hbox); have GW101 := (Bg_ hg : Aside0 (w.heap.size ≤ gb101)); have GE101 := (Bg_ hg : Aside0 (w.heap.size ≤ gb101)); replace HB := Bs_ hb; clear hb hbox hg) | ((with_reducible refine gate_dst (N := 3) rfl ?_); refine bx_ 3 #[.slice A1_0 l1_0.length c1_0, .slice A1_1 l1_1.length c1_1] 25 ?_; intro gb102 hg w12 hbox hb; have BK102 := Aside0.mk (hbox); have GW102 := (Bg_ hg : Aside0 (w.heap.size ≤ gb102)); have GE102 := (Bg_ hg : Aside0 (w.heap.size ≤ gb102)); replace HB := Bs_ hb; have NB101_102 := nl_ hg BK101; have NB102_101 := ng_ hg BK101; replace BK101 := kb_ BK101 hb; clear hb hbox hg; have hnb13 := NB101_102.out; have hnc13 := NB102_101.out; obtain ⟨hcz14_0, hcz14_1⟩ := c2_ BK101; obtain ⟨hfz14_0, hfz14_1⟩ := f2_ BK101; obtain ⟨hcz15_0, hcz15_1⟩ := c2_ BK102; obtain ⟨hfz15_0, hfz15_1⟩ := f2_ BK102) | ((with_reducible refine gate_callee (f := 53) rfl ?_); refine goesL_ (some 9) rfl rfl Tryd.func53 (by kernel_rfl) rfl #[.slice A0_0 l0_0.length c0_0, .slice A1_0 l1_0.length c1_0] rfl Ga_ ?_; (with_reducible refine (shape_Same.calls k _ _ l0_0 _ _ l1_0 false _ ?side1 ?side2 ?side3 ?side4 A3.out).mono ?_); (case side1 => exact Pc_ (Kd.C_below HR0_0.out HB.out)); (case side2 => exact HC0_0.out); (case side3 => exact Pc_ (Kd.C_below HR1_0.out HB.out)); (case side4 => exact HC1_0.out); rintro e w' ⟨rfl, ⟨nd, rfl⟩⟩; refine ⟨_, rfl, ?_⟩))
    go_ret
    exact ⟨Re_, Bl_⟩
/-! ### slices_Clone_int_int: function 55 -/
def slices_Clone_int_int.f (l0 : List Int) : Option (List Int) := if l0.length ≤ 17592186044416 then some l0 else none
set_option maxHeartbeats 400000 in
theorem slices_Clone_int_int.calls (A0 : Option Addr) (c0 : Nat) (l0 : List Int) (r : List Int) (w : World) (hr0 : Kd.C (Kd.int .i64) w A0 l0.length l0) (hc0 : l0.length ≤ c0) (h : slices_Clone_int_int.f l0 = some r) :
    Calls Tryd.prog 55 #[.slice A0 l0.length c0] w fun e w' => ∃ v0_ : Value, e = .returned (v0_) ∧ Kd.R (Kd.int .i64) 3 w' w.heap.size (fun _ => True) v0_ r ∧ Below w.heap.size w w' := by
  unfold slices_Clone_int_int.f at h
  split at h
  case isFalse => cases h
  rename_i hb
  obtain rfl := Option.some.inj h
  rcases row_cases (enc := Value.int .i64) (h1 := fun _ => rfl) hr0 with ⟨rfl, rfl⟩ | ⟨a, rfl, rfl⟩ | ⟨b, off, rfl, h0, hc⟩
  · refine (Tryd.slices_Clone_int_nil _ _ _).mono ?_
    rintro e w' ⟨rfl, rfl⟩
    exact ⟨_, rfl, Kd.R_nil _ _ _ _ _, Below.refl _ _⟩
  · refine (Tryd.slices_Clone_int_zero a c0 w).mono ?_
    rintro e w' ⟨v, rfl, ho, _, hb⟩
    exact ⟨_, rfl, Kd.R_of_own (enc := Value.int .i64) (xs := []) (by simpa [encs] using ho) (fun _ _ => trivial), hb⟩
  · refine (Tryd.slices_Clone_int b off l0.length c0 l0 w (Nat.le_refl _) (by omega) (fun j hj => hc j 0 hj)).mono ?_
    rintro e w' ⟨v, rfl, ho, _, hb⟩
    rw [List.take_length] at ho
    exact ⟨_, rfl, Kd.R_of_own (enc := Value.int .i64) ho (fun _ _ => trivial), hb⟩
/-! ### mould_fine_1: function 85 -/
def mould_fine_1.f (k : Nat) (l0_0 : List Int) (l0_1 : List ByteArray) : Option (Bool) := (val_May.f k l0_0 l0_1).bind fun t102 => (some (!t102))
set_option maxHeartbeats 8000000 in
set_option maxRecDepth 100000 in
theorem mould_fine_1.calls (k : Nat) (A0_0 : Option Addr) (c0_0 : Nat) (l0_0 : List Int) (A0_1 : Option Addr) (c0_1 : Nat) (l0_1 : List ByteArray) (r : Bool) (w : World) (hr0_0 : Kd.C (Kd.int .i64) w A0_0 l0_0.length l0_0) (hc0_0 : l0_0.length ≤ c0_0) (hr0_1 : Kd.C Kd.string w A0_1 l0_1.length l0_1) (hc0_1 : l0_1.length ≤ c0_1) (h : mould_fine_1.f k l0_0 l0_1 = some r) :
    Calls Tryd.prog 85 #[.agg #[.slice A0_0 l0_0.length c0_0, .slice A0_1 l0_1.length c0_1]] w fun e w' => e = .returned (.bool r) ∧ Below w.heap.size w w' := by
  have hu25 := Tryd.underlying25
  have HR0_0 := Aside0.mk hr0_0
  have HC0_0 := Aside0.mk hc0_0
  clear hr0_0 hc0_0
  have HR0_1 := Aside0.mk hr0_1
  have HC0_1 := Aside0.mk hc0_1
  clear hr0_1 hc0_1
  have HB := Aside0.mk (Below.refl w.heap.size w)
  have H : ((val_May.f k l0_0 l0_1).bind fun t102 => (some (!t102))) = some r := h
  clear h
  obtain ⟨t102, A2, H⟩ := bnd_ H
  try dsimp -simprocs only at H
  obtain rfl := Option.some.inj H
  go_enter Tryd.func85, Tryd.ntmps85
  go_wp2_with (first | ((with_reducible refine gate_dst (N := 1) rfl ?_); refine bx_ 1 #[.slice A0_0 l0_0.length c0_0, .slice A0_1 l0_1.length c0_1] 25 ?_; intro gb101 hg w3 hbox hb; have BK101 := Aside0.mk (hbox); have GW101 := (Bg_ hg : Aside0 (w.heap.size ≤ gb101)); have GE101 := (Bg_ hg : Aside0 (w.heap.size ≤ gb101)); replace HB := Bs_ hb; clear hb hbox hg; obtain ⟨hcz4_0, hcz4_1⟩ := c2_ BK101; obtain ⟨hfz4_0, hfz4_1⟩ := f2_ BK101) | ((with_reducible refine gate_callee (f := 26) rfl ?_); refine goesL_ (some 4) rfl rfl Tryd.func26 (by kernel_rfl) rfl #[.agg #[.slice A0_0 l0_0.length c0_0, .slice A0_1 l0_1.length c0_1]] rfl Ga_ ?_; (with_reducible refine (val_May.calls k _ _ l0_0 _ _ l0_1 t102 _ ?side1 ?side2 ?side3 ?side4 A2.out).mono ?_); (case side1 => exact Pc_ (Kd.C_below HR0_0.out HB.out)); (case side2 => exact HC0_0.out); (case side3 => exact Pc_ (Kd.C_below HR0_1.out HB.out)); (case side4 => exact HC0_1.out); rintro e w5 ⟨rfl, hb⟩; refine ⟨_, rfl, ?_⟩; replace BK101 := kb_ BK101 hb; replace HB := Bs_ hb; (try clear hb); (try clear hb2); (try clear hk); (try clear hi)))
  go_ret
  exact ⟨Re_, Bl_⟩
/-! ### slices_IndexFunc_api_Val_api_Val_at_mould_fine_1: function 1009108 -/
def slices_IndexFunc_api_Val_api_Val_at_mould_fine_1.l0 : Nat → List (S25) → Int → Int → Option (Int)
  | 0, _, _, _ => none
  | k + 1, x0, x7, x8 => if x8 < x7 then (if 0 ≤ x8 then (if x8 < (x0.length : Int) then ((mould_fine_1.f k ((rd_T25 x0 x8).f0) ((rd_T25 x0 x8).f1)).bind fun t102 => (if t102 = true then (some x8) else (slices_IndexFunc_api_Val_api_Val_at_mould_fine_1.l0 k x0 x7 (wrap64 (x8 + 1))))) else (none)) else (none)) else (some (-1))
def slices_IndexFunc_api_Val_api_Val_at_mould_fine_1.f (k : Nat) (l0 : List (S25)) (a1 : Value) : Option (Int) := slices_IndexFunc_api_Val_api_Val_at_mould_fine_1.l0 k l0 (l0.length : Int) 0
set_option maxHeartbeats 8000000 in
set_option maxRecDepth 100000 in
theorem slices_IndexFunc_api_Val_api_Val_at_mould_fine_1.calls (k : Nat) (A0 : Option Addr) (c0 : Nat) (l0 : List (S25)) (a1 : Value) (r : Int) (w : World) (hr0 : Kd.C k25 w A0 l0.length l0) (hc0 : l0.length ≤ c0) (h : slices_IndexFunc_api_Val_api_Val_at_mould_fine_1.f k l0 a1 = some r) :
    Calls Tryd.prog 108 #[.slice A0 l0.length c0, (.func (.func 85) #[] #[])] w fun e w' => e = .returned (.int .i64 r) ∧ Below w.heap.size w w' := by
  have hu25 := Tryd.underlying25
  have HR0 := Aside0.mk hr0
  have HC0 := Aside0.mk hc0
  clear hr0 hc0
  have HB := Aside0.mk (Below.refl w.heap.size w)
  have H : (slices_IndexFunc_api_Val_api_Val_at_mould_fine_1.l0 k l0 (l0.length : Int) 0) = some r := h
  clear h
  have H' := Aside0.mk H
  clear H
  go_enter Tryd.func108, Tryd.ntmps108
  go_wp2
  go_loopg [8] k (fun kq v8 w' => ∃ (x8_1 : Int), v8 = .int .i64 x8_1 ∧ Aside0 (slices_IndexFunc_api_Val_api_Val_at_mould_fine_1.l0 kq l0 (l0.length : Int) x8_1 = some r) ∧ Aside0 (kq ≤ k) ∧ Aside0 (Below w.heap.size w w'))
  case atStart => exact ⟨(0), Rf_, H', ⟨Nat.le_refl _⟩, ⟨Bl_⟩⟩
  case round =>
    clear H'
    try clear c1
    try clear p2
    obtain ⟨x8_1, rfl, HA, HK1, HB⟩ := hrel
    cases gk with
    | zero => exact absurd HA.out (by simp [slices_IndexFunc_api_Val_api_Val_at_mould_fine_1.l0])
    | succ k1 =>
      have H := HA.out
      clear HA
      simp only [slices_IndexFunc_api_Val_api_Val_at_mould_fine_1.l0] at H
      by_cases c3 : x8_1 < (l0.length : Int)
      · rw [if_pos c3] at H
        have c3b0 : decide (x8_1 < (l0.length : Int)) = true := decide_eq_true c3
        clear c3
        by_cases c4 : 0 ≤ x8_1
        · rw [if_pos c4] at H
          have c4b0 : decide (0 ≤ x8_1) = true := decide_eq_true c4
          clear c4
          by_cases c5 : x8_1 < (l0.length : Int)
          · rw [if_pos c5] at H
            have c5b0 : decide (x8_1 < (l0.length : Int)) = true := decide_eq_true c5
            clear c5
            obtain ⟨t102, A6, H⟩ := bnd_ H
            try dsimp -simprocs only at H
            by_cases c7 : t102 = true
            · subst c7
              have H1 : (some x8_1) = some r := by rw [if_pos rfl] at H; exact H
              clear H
              have H := H1
              clear H1
              obtain rfl := Option.some.inj H
              have p101 : 0 ≤ (x8_1 : Int) := of_decide_eq_true As_
              have q101 : x8_1 < (l0.length : Int) := of_decide_eq_true As_
              obtain ⟨ad101, A101_0, c101_0, A101_1, c101_1, e101, hx101_0, hx101_1, hl101_0, hi101_0, hl101_1, hi101_1⟩ := at_T25 HR0.out x8_1 p101 q101
              cases e101
              replace hx101_0 := (HB.out.cell (World.block_lt_of_cell? w _ hx101_0)).trans hx101_0
              replace hx101_1 := (HB.out.cell (World.block_lt_of_cell? w _ hx101_1)).trans hx101_1
              have HR101_0 := Aside0.mk hi101_0
              have HC101_0 := Aside0.mk hl101_0
              clear hi101_0 hl101_0
              have HR101_1 := Aside0.mk hi101_1
              have HC101_1 := Aside0.mk hl101_1
              clear hi101_1 hl101_1
              replace p101 := eq_true p101
              replace q101 := eq_true q101
              go_wp2_with (first | (go_at_call 85; (with_reducible refine (mould_fine_1.calls k1 _ _ ((rd_T25 l0 x8_1).f0) _ _ ((rd_T25 l0 x8_1).f1) true _ ?side1 ?side2 ?side3 ?side4 A6.out).mono ?_); (case side1 => exact Pc_ (Kd.C_below HR101_0.out HB.out)); (case side2 => exact HC101_0.out); (case side3 => exact Pc_ (Kd.C_below HR101_1.out HB.out)); (case side4 => exact HC101_1.out); rintro e w8 ⟨rfl, hb⟩; replace HB := Bs_ hb; (try clear hb); (try clear hb2); (try clear hk); (try clear hi)))
              go_ret
              exact ⟨Re_, Bl_⟩
            · replace c7 := Bool.eq_false_iff.mpr c7
              subst c7
              have H1 : (slices_IndexFunc_api_Val_api_Val_at_mould_fine_1.l0 k1 l0 (l0.length : Int) (wrap64 (x8_1 + 1))) = some r := by rw [if_neg (show ¬ (false = true) by decide)] at H; exact H
              clear H
              have H := H1
              clear H1
              have H' := Aside0.mk H
              clear H
              have p101 : 0 ≤ (x8_1 : Int) := of_decide_eq_true As_
              have q101 : x8_1 < (l0.length : Int) := of_decide_eq_true As_
              obtain ⟨ad101, A101_0, c101_0, A101_1, c101_1, e101, hx101_0, hx101_1, hl101_0, hi101_0, hl101_1, hi101_1⟩ := at_T25 HR0.out x8_1 p101 q101
              cases e101
              replace hx101_0 := (HB.out.cell (World.block_lt_of_cell? w _ hx101_0)).trans hx101_0
              replace hx101_1 := (HB.out.cell (World.block_lt_of_cell? w _ hx101_1)).trans hx101_1
              have HR101_0 := Aside0.mk hi101_0
              have HC101_0 := Aside0.mk hl101_0
              clear hi101_0 hl101_0
              have HR101_1 := Aside0.mk hi101_1
              have HC101_1 := Aside0.mk hl101_1
              clear hi101_1 hl101_1
              replace p101 := eq_true p101
              replace q101 := eq_true q101
              go_wp2_with (first | (go_at_call 85; (with_reducible refine (mould_fine_1.calls k1 _ _ ((rd_T25 l0 x8_1).f0) _ _ ((rd_T25 l0 x8_1).f1) false _ ?side1 ?side2 ?side3 ?side4 A6.out).mono ?_); (case side1 => exact Pc_ (Kd.C_below HR101_0.out HB.out)); (case side2 => exact HC101_0.out); (case side3 => exact Pc_ (Kd.C_below HR101_1.out HB.out)); (case side4 => exact HC101_1.out); rintro e w9 ⟨rfl, hb⟩; replace HB := Bs_ hb; (try clear hb); (try clear hb2); (try clear hk); (try clear hi)))
              go_roundg k1
              case measure => have := HK1.out; omega
              case rel => exact ⟨(wrap64 (x8_1 + 1)), Rf_, H', ⟨by have := HK1.out; omega⟩, ⟨Bl_⟩⟩
          · rw [if_neg c5] at H
            exact absurd H (by simp)
        · rw [if_neg c4] at H
          exact absurd H (by simp)
      · rw [if_neg c3] at H
        have c3b0 : decide (x8_1 < (l0.length : Int)) = false := decide_eq_false c3
        clear c3
        obtain rfl := Option.some.inj H
        go_wp2
        go_ret
        exact ⟨Re_, Bl_⟩
/-! ### slices_ContainsFunc_api_Val_api_Val_at_mould_fine_1: function 1008084 -/
def slices_ContainsFunc_api_Val_api_Val_at_mould_fine_1.f (k : Nat) (l0 : List (S25)) (a1 : Value) : Option (Bool) := (slices_IndexFunc_api_Val_api_Val_at_mould_fine_1.f k l0 (.func (.func 85) #[] #[] : Value)).bind fun t101 => (some (decide (t101 ≥ 0)))
set_option maxHeartbeats 8000000 in
set_option maxRecDepth 100000 in
theorem slices_ContainsFunc_api_Val_api_Val_at_mould_fine_1.calls (k : Nat) (A0 : Option Addr) (c0 : Nat) (l0 : List (S25)) (a1 : Value) (r : Bool) (w : World) (hr0 : Kd.C k25 w A0 l0.length l0) (hc0 : l0.length ≤ c0) (h : slices_ContainsFunc_api_Val_api_Val_at_mould_fine_1.f k l0 a1 = some r) :
    Calls Tryd.prog 84 #[.slice A0 l0.length c0, (.func (.func 85) #[] #[])] w fun e w' => e = .returned (.bool r) ∧ Below w.heap.size w w' := by
  have HR0 := Aside0.mk hr0
  have HC0 := Aside0.mk hc0
  clear hr0 hc0
  have HB := Aside0.mk (Below.refl w.heap.size w)
  have H : ((slices_IndexFunc_api_Val_api_Val_at_mould_fine_1.f k l0 (.func (.func 85) #[] #[] : Value)).bind fun t101 => (some (decide (t101 ≥ 0)))) = some r := h
  clear h
  obtain ⟨t101, A3, H⟩ := bnd_ H
  try dsimp -simprocs only at H
  obtain rfl := Option.some.inj H
  go_enter Tryd.func84, Tryd.ntmps84
  go_wp2_with (first | ((with_reducible refine gate_callee (f := 108) rfl ?_); refine goesL_ (some 7) rfl rfl Tryd.func108 (by kernel_rfl) rfl #[.slice A0 l0.length c0, (.func (.func 85) #[] #[] : Value)] rfl Ga_ ?_; (with_reducible refine (slices_IndexFunc_api_Val_api_Val_at_mould_fine_1.calls k _ _ l0 (.func (.func 85) #[] #[] : Value) t101 _ ?side1 ?side2 A3.out).mono ?_); (case side1 => repeat (first | exact HR0.out | (with_reducible refine Kd.C_alloc ?_ _) | (with_reducible refine Kd.C_drewN ?_ _) | (with_reducible refine Kd.C_drew ?_))); (case side2 => exact HC0.out); rintro e w4 ⟨rfl, hb⟩; refine ⟨_, rfl, ?_⟩; replace HB := Bs_ hb; (try clear hb); (try clear hb2); (try clear hk); (try clear hi)))
  go_ret
  exact ⟨Re_, Bl_⟩
/-! ### mould_fine: function 50 -/
def mould_fine.f (k : Nat) (l0 : List (S25)) : Option (Bool) := (slices_ContainsFunc_api_Val_api_Val_at_mould_fine_1.f k l0 (.func (.func 85) #[] #[] : Value)).bind fun t101 => (some (!t101))
set_option maxHeartbeats 8000000 in
set_option maxRecDepth 100000 in
theorem mould_fine.calls (k : Nat) (A0 : Option Addr) (c0 : Nat) (l0 : List (S25)) (r : Bool) (w : World) (hr0 : Kd.C k25 w A0 l0.length l0) (hc0 : l0.length ≤ c0) (h : mould_fine.f k l0 = some r) :
    Calls Tryd.prog 50 #[.slice A0 l0.length c0] w fun e w' => e = .returned (.bool r) ∧ Below w.heap.size w w' := by
  have HR0 := Aside0.mk hr0
  have HC0 := Aside0.mk hc0
  clear hr0 hc0
  have HB := Aside0.mk (Below.refl w.heap.size w)
  have H : ((slices_ContainsFunc_api_Val_api_Val_at_mould_fine_1.f k l0 (.func (.func 85) #[] #[] : Value)).bind fun t101 => (some (!t101))) = some r := h
  clear h
  obtain ⟨t101, A2, H⟩ := bnd_ H
  try dsimp -simprocs only at H
  obtain rfl := Option.some.inj H
  go_enter Tryd.func50, Tryd.ntmps50
  go_wp2_with (first | ((with_reducible refine gate_callee (f := 84) rfl ?_); refine goesL_ (some 4) rfl rfl Tryd.func84 (by kernel_rfl) rfl #[.slice A0 l0.length c0, (.func (.func 85) #[] #[] : Value)] rfl Ga_ ?_; (with_reducible refine (slices_ContainsFunc_api_Val_api_Val_at_mould_fine_1.calls k _ _ l0 (.func (.func 85) #[] #[] : Value) t101 _ ?side1 ?side2 A2.out).mono ?_); (case side1 => repeat (first | exact HR0.out | (with_reducible refine Kd.C_alloc ?_ _) | (with_reducible refine Kd.C_drewN ?_ _) | (with_reducible refine Kd.C_drew ?_))); (case side2 => exact HC0.out); rintro e w3 ⟨rfl, hb⟩; refine ⟨_, rfl, ?_⟩; replace HB := Bs_ hb; (try clear hb); (try clear hb2); (try clear hk); (try clear hi)))
  go_ret
  exact ⟨Re_, Bl_⟩
/-! ### slices_Reverse_int_int: function 61 -/
def slices_Reverse_int_int.l0 : Nat → List Int → Int → Int → Option (List Int)
  | 0, _, _, _ => none
  | k + 1, x0, x2, x3 => if x2 < x3 then (if 0 ≤ x3 then (if x3 < (x0.length : Int) then (if 0 ≤ x2 then (if x2 < (x0.length : Int) then (slices_Reverse_int_int.l0 k ((x0.set (x2 : Int).toNat (rd x0 x3)).set (x3 : Int).toNat (rd x0 x2)) (wrap64 (x2 + 1)) (wrap64 (x3 - 1))) else (none)) else (none)) else (none)) else (none)) else (some x0)
def slices_Reverse_int_int.f (k : Nat) (l0 : List Int) : Option (List Int) := slices_Reverse_int_int.l0 k l0 0 (wrap64 ((l0.length : Int) - 1))
def slices_Reverse_int_int.T3 : Bool × List (List Nat × List Nat) := (true, [([], []), ([], []), ([], []), ([], []), ([], []), ([], []), ([4, 5], [4, 5]), ([6], [6]), ([], []), ([], []), ([8, 9], [8, 9]), ([10], [10]), ([0, 1, 0, 1, 4, 5, 6, 7, 11], [0, 1]), ([12, 7, 0, 1, 4, 5, 6, 7, 11], [7, 12]), ([2, 3, 0, 1, 2, 3, 4, 5, 6, 7, 8, 9, 10, 11, 12, 13], [2, 3]), ([14, 11, 13, 0, 1, 2, 3, 4, 5, 6, 7, 8, 9, 10, 11, 12, 13], [11, 14])])
def slices_Reverse_int_int.B3 : List Nat := [0, 0, 0, 0, 0, 0, 48, 112, 0, 0, 768, 1792, 4083, 8179, 16383, 32767]
theorem slices_Reverse_int_int.tab3 : rtab .any (opsOf Tryd.f61 3) = slices_Reverse_int_int.T3 := by kernel_rfl
theorem slices_Reverse_int_int.bits3 : waitsOk slices_Reverse_int_int.T3.2 slices_Reverse_int_int.B3 = true := by kernel_rfl
set_option maxHeartbeats 8000000 in
set_option maxRecDepth 100000 in
theorem slices_Reverse_int_int.calls (k : Nat) (P0_ : Nat → Prop) (u9000_ : Value) (l0 : List Int) (r : List Int) (w0 w : World) (hB : Below w0.heap.size w0 w) (ho0 : Kd.R (Kd.int .i64) 3 w w0.heap.size P0_ u9000_ l0) (h : slices_Reverse_int_int.f k l0 = some r) :
    Calls Tryd.prog 61 #[u9000_] w fun e w' => e = .returned (.tuple #[]) ∧ Kd.R (Kd.int .i64) 3 w' w0.heap.size (fun k_ => (P0_ k_ ∨ w.heap.size ≤ k_)) u9000_ r ∧ Below w0.heap.size w0 w' ∧ Kept w w' (fun k_ => P0_ k_) := by
  have HO0 := Aside0.mk (show Kd.R (Kd.int .i64) 3 w w0.heap.size (fun k_ => (P0_ k_ ∨ w.heap.size ≤ k_)) u9000_ l0 from Kd.R_mono ho0 (fun k_ hk => (.inl hk)))
  have HK := Aside0.mk (Kept.refl w (fun k_ => P0_ k_))
  have HW0 := Aside0.mk hB.size
  have HB := Aside0.mk hB
  clear hB
  have H : (slices_Reverse_int_int.l0 k l0 0 (wrap64 ((l0.length : Int) - 1))) = some r := h
  clear h
  have H' := Aside0.mk H
  clear H
  obtain ⟨Ao2, co2, eo2⟩ := Kd.R_slice HO0.out
  subst eo2
  go_enter Tryd.func61, Tryd.ntmps61
  go_wp2
  go_loopg [2, 3] k (fun kq v2 v3 w' => ∃ (x0_1 : List Int) (x2_1 : Int) (x3_1 : Int), v2 = .int .i64 x2_1 ∧ v3 = .int .i64 x3_1 ∧ Aside0 (slices_Reverse_int_int.l0 kq x0_1 x2_1 x3_1 = some r) ∧ Aside0 (kq ≤ k) ∧ Aside0 (Kd.R (Kd.int .i64) 3 w' w0.heap.size (fun k_ => (P0_ k_ ∨ w.heap.size ≤ k_)) (.slice Ao2 l0.length co2) x0_1) ∧ Aside0 (Kept w w' (fun k_ => P0_ k_)) ∧ Aside0 (Below w0.heap.size w0 w'))
  case atStart => exact ⟨(l0), (0), (wrap64 ((l0.length : Int) - 1)), Rf_, Rf_, H', ⟨Nat.le_refl _⟩, ⟨by (with_reducible repeat (first | apply Kd.R_alloc | apply Kd.R_drewN | apply Kd.R_drew)); exact HO0.out⟩, ⟨by repeat (first | (with_reducible first | exact HK.out | apply Kept.alloc | apply Kept.drewN | apply Kept.drew) | exact HK.out)⟩, ⟨Bl_⟩⟩
  case round =>
    clear H'
    try clear p2
    obtain ⟨x0_1, x2_1, x3_1, rfl, rfl, HA, HK1, HO_0, HK, HB⟩ := hrel
    have hl0_1 := (Kd.R_reads' HO_0.out).1
    rw [hl0_1] at HO_0
    (try simp only [hl0_1])
    cases gk with
    | zero => exact absurd HA.out (by simp [slices_Reverse_int_int.l0])
    | succ k1 =>
      have H := HA.out
      clear HA
      simp only [slices_Reverse_int_int.l0] at H
      by_cases c3 : x2_1 < x3_1
      · rw [if_pos c3] at H
        have c3b0 : decide (x2_1 < x3_1) = true := decide_eq_true c3
        (try simp only [hl0_1] at c3b0)
        clear c3
        by_cases c4 : 0 ≤ x3_1
        · rw [if_pos c4] at H
          have c4b0 : decide (0 ≤ x3_1) = true := decide_eq_true c4
          (try simp only [hl0_1] at c4b0)
          clear c4
          by_cases c5 : x3_1 < (x0_1.length : Int)
          · rw [if_pos c5] at H
            have c5b0 : decide (x3_1 < (x0_1.length : Int)) = true := decide_eq_true c5
            (try simp only [hl0_1] at c5b0)
            clear c5
            by_cases c6 : 0 ≤ x2_1
            · rw [if_pos c6] at H
              have c6b0 : decide (0 ≤ x2_1) = true := decide_eq_true c6
              (try simp only [hl0_1] at c6b0)
              clear c6
              by_cases c7 : x2_1 < (x0_1.length : Int)
              · rw [if_pos c7] at H
                have c7b0 : decide (x2_1 < (x0_1.length : Int)) = true := decide_eq_true c7
                (try simp only [hl0_1] at c7b0)
                clear c7
                obtain ⟨y103, hy103⟩ : ∃ y_ : List Int, y_ = (x0_1.set (x2_1 : Int).toNat (rd x0_1 x3_1)) := ⟨_, rfl⟩
                replace H : (slices_Reverse_int_int.l0 k1 (y103.set (x3_1 : Int).toNat (rd x0_1 x2_1)) (wrap64 (x2_1 + 1)) (wrap64 (x3_1 - 1))) = some r := by first | (rw [hy103]; with_reducible exact H) | (have H2_ := (Option.bind_some _ _).symm.trans H; rw [hy103]; with_reducible exact H2_) | (have H2_ := (Option.bind_some _ _).symm.trans H; with_reducible exact H2_) | with_reducible exact H | (rw [hy103]; exact H) | exact H
                have Ny103 := Aside0.mk hy103
                clear hy103
                obtain ⟨y104, hy104⟩ : ∃ y_ : List Int, y_ = (y103.set (x3_1 : Int).toNat (rd x0_1 x2_1)) := ⟨_, rfl⟩
                replace H : (slices_Reverse_int_int.l0 k1 y104 (wrap64 (x2_1 + 1)) (wrap64 (x3_1 - 1))) = some r := by first | (rw [hy104]; with_reducible exact H) | (have H2_ := (Option.bind_some _ _).symm.trans H; rw [hy104]; with_reducible exact H2_) | (have H2_ := (Option.bind_some _ _).symm.trans H; with_reducible exact H2_) | with_reducible exact H | (rw [hy104]; exact H) | exact H
                have Ny104 := Aside0.mk hy104
                clear hy104
                have H' := Aside0.mk H
                clear H
                try go_wp2
                replace HO_0 := Aside0.mk (Kd.R_drew HO_0.out)
                replace HK := Aside0.mk (Kept.drew HK.out)
                replace HB := Aside0.mk (below_drew1 HB.out)
                have p101 : 0 ≤ (x3_1 : Int) := of_decide_eq_true As_
                have q101 : x3_1 < (x0_1.length : Int) := of_decide_eq_true As_
                obtain ⟨ad101, e101, hx101_0⟩ := Kd.at_int (Kd.R_reads' HO_0.out).2.2 x3_1 p101 q101
                cases e101
                replace p101 := eq_true p101
                replace q101 := eq_true q101
                have p102 : 0 ≤ (x2_1 : Int) := of_decide_eq_true As_
                have q102 : x2_1 < (x0_1.length : Int) := of_decide_eq_true As_
                obtain ⟨ad102, e102, hx102_0⟩ := Kd.at_int (Kd.R_reads' HO_0.out).2.2 x2_1 p102 q102
                obtain rfl : ad101 = ad102 := (by injection e102)
                replace p102 := eq_true p102
                replace q102 := eq_true q102
                have p8 : 0 ≤ (x2_1 : Int) := of_decide_eq_true As_
                have q8 : (x2_1 : Int) < ((x0_1.length : Int) : Int) := of_decide_eq_true As_
                obtain ⟨go8, co8, eo8, gb8, gl8, cl8, HG8⟩ := Kd.R_form HO_0.out (by omega)
                (first | cases eo8 | (injection eo8 with ea_ en_ ec_; (first | subst ea_ | (injection ea_ with ea_; subst ea_)); subst ec_; clear en_))
                have GB8 := Aside0.mk gb8
                have GG8 := Aside0.mk HG8
                clear gb8 gl8 HG8
                have HMgo8 := Aside0.mk (show (P0_ go8 ∨ w.heap.size ≤ go8) from (HO_0.out.1 _ rfl))
                (first | simp only [add_plain] at hx101_0 | skip)
                (first | simp only [add_plain] at hx102_0 | skip)
                obtain ⟨hx8_0, hf8_0⟩ := Kd.R_celln 0 HO_0.out (x2_1 : Int) p8 q8
                replace p8 := eq_true p8
                replace q8 := eq_true q8
                have HP11 := Kd.R_putn HO_0.out (x2_1 : Int) (rd x0_1 x3_1)
                rw [← Ny103.out] at HP11
                have HQ11 := Aside0.mk HP11
                clear HP11
                have p9 : 0 ≤ (x3_1 : Int) := of_decide_eq_true As_
                have q9 : (x3_1 : Int) < ((x0_1.length : Int) : Int) := of_decide_eq_true As_
                obtain ⟨hx9_0, hf9_0⟩ := Kd.R_celln 0 HQ11.out (x3_1 : Int) p9 q9
                replace p9 := eq_true p9
                replace q9 := eq_true q9
                have HP12 := Kd.R_putn HQ11.out (x3_1 : Int) (rd x0_1 x2_1)
                rw [← Ny104.out] at HP12
                have HQ12 := Aside0.mk HP12
                clear HP12
                refine start_ (n := 16) (S := fun w' => w'.cell? ⟨go8, (x3_1).toNat, none⟩ = some (.int .i64 (rd x0_1 x3_1)) ∧ w'.cell? ⟨go8, (x2_1).toNat, none⟩ = some (.int .i64 (rd x0_1 x2_1))) (ds := [13, 15]) #[false, false, false, false, false, false, false, false, false, false, false, false, false, false, false, false] (by kernel_rfl) rfl rfl ⟨hx101_0, hx102_0⟩ (fun hHeld => ?_); refine with_tabW slices_Reverse_int_int.tab3 slices_Reverse_int_int.bits3 (fun HT_ HW_ => ?_)
                generalize wr.drew = w10 at HO_0 HK HB GG8 HQ11 HQ12 hf8_0 hf9_0 hx101_0 hx102_0 hx8_0 hx9_0 hHeld ⊢
                refine pu_ 0 (some 14) HT_ #[true, false, false, false, false, false, false, false, false, false, false, false, false, false, false, false] ?_
                refine pu_ 1 (some 15) HT_ #[true, true, false, false, false, false, false, false, false, false, false, false, false, false, false, false] ?_
                refine pu_ 2 (some 16) HT_ #[true, true, true, false, false, false, false, false, false, false, false, false, false, false, false, false] ?_
                refine pu_ 3 (some 17) HT_ #[true, true, true, true, false, false, false, false, false, false, false, false, false, false, false, false] ?_
                refine pu_ 4 (some 18) HT_ #[true, true, true, true, true, false, false, false, false, false, false, false, false, false, false, false] ?_
                refine pu_ 5 (some 19) HT_ #[true, true, true, true, true, true, false, false, false, false, false, false, false, false, false, false] ?_
                refine pu_ 6 (some 20) HT_ #[true, true, true, true, true, true, true, false, false, false, false, false, false, false, false, false] ?_
                refine pu_ 8 (some 22) HT_ #[true, true, true, true, true, true, true, false, true, false, false, false, false, false, false, false] ?_
                refine pu_ 9 (some 23) HT_ #[true, true, true, true, true, true, true, false, true, true, false, false, false, false, false, false] ?_
                refine pu_ 10 (some 24) HT_ #[true, true, true, true, true, true, true, false, true, true, true, false, false, false, false, false] ?_
                refine take_ (i := 7) (N := some 21) (v := ?_) (a' := ?_) #[true, true, true, true, true, true, true, true, true, true, true, false, false, false, false, false] rfl rfl (take_ofW HT_.out HW_.out (by kernel_rfl)) (fun _ _ _ h => h) (Or.inl ⟨by rfl, ?_⟩) hHeld ?_ ?_
                rotate_left
                · rintro w' ⟨s0, s1⟩
                  go_simp
                  with_reducible rfl
                rotate_left
                · simp only [Act.put, List.setIfInBounds_toArray, List.set_cons_zero, List.set_cons_succ, i64_w, i32_w]
                  rfl
                refine take_ (i := 11) (N := some 25) (v := ?_) (a' := ?_) #[true, true, true, true, true, true, true, true, true, true, true, true, false, false, false, false] rfl rfl (take_ofW HT_.out HW_.out (by kernel_rfl)) (fun _ _ _ h => h) (Or.inl ⟨by rfl, ?_⟩) hHeld ?_ ?_
                rotate_left
                · rintro w' ⟨s0, s1⟩
                  go_simp
                  with_reducible rfl
                rotate_left
                · simp only [Act.put, List.setIfInBounds_toArray, List.set_cons_zero, List.set_cons_succ, i64_w, i32_w]
                  rfl
                refine pu_ 12 (some 26) HT_ #[true, true, true, true, true, true, true, true, true, true, true, true, true, false, false, false] ?_
                refine last_ (i := 13) (N := none) #[true, true, true, true, true, true, true, true, true, true, true, true, true, true, false, false] rfl rfl (one_of HT_.out (by kernel_rfl)) (by decide) (fun K hK => ?_)
                refine skip_ (w1 := ?_) (by rfl) rfl ?_ ?_
                rotate_left
                · go_simp
                  rfl
                refine hK.out _ _ ?_
                clear hK K
                refine pu_ 14 (some 27) HT_ #[true, true, true, true, true, true, true, true, true, true, true, true, true, true, true, false] ?_
                refine last_ (i := 15) (N := none) #[true, true, true, true, true, true, true, true, true, true, true, true, true, true, true, true] rfl rfl (one_of HT_.out (by kernel_rfl)) (by decide) (fun K hK => ?_)
                refine skip_ (w1 := ?_) (by rfl) rfl ?_ ?_
                rotate_left
                · go_simp
                  rfl
                refine hK.out _ _ ?_
                clear hK K
                refine done_ (done_of HT_.out (by kernel_rfl)) ?_
                try go_wp2
                (try simp only [← hl0_1])
                go_roundg k1
                case measure => have := HK1.out; omega
                case rel => exact ⟨(y104), (wrap64 (x2_1 + 1)), (wrap64 (x3_1 - 1)), Rf_, Rf_, H', ⟨by have := HK1.out; omega⟩, ⟨by (try simp only [hl0_1]); (with_reducible repeat (first | apply Kd.R_alloc | apply Kd.R_drewN | apply Kd.R_drew)); exact HQ12.out⟩, ⟨by repeat (first | (with_reducible first | exact HK.out | apply Kept.alloc | apply Kept.drewN | apply Kept.drew | refine Kept.setCell ?_ HMgo8.out _ | refine Kept.setCell ?_ HMgo8.out _) | exact HK.out)⟩, ⟨by repeat (first | (with_reducible first | exact HB.out | apply below_alloc | apply pw_below_drewN | apply below_drew1 | refine below_set ?_ GB8.out | refine below_set ?_ GB8.out) | exact HB.out)⟩⟩
              · rw [if_neg c7] at H
                exact absurd H (by simp)
            · rw [if_neg c6] at H
              exact absurd H (by simp)
          · rw [if_neg c5] at H
            exact absurd H (by simp)
        · rw [if_neg c4] at H
          exact absurd H (by simp)
      · rw [if_neg c3] at H
        have c3b0 : decide (x2_1 < x3_1) = false := decide_eq_false c3
        (try simp only [hl0_1] at c3b0)
        clear c3
        obtain rfl := Option.some.inj H
        go_wp2
        first | go_end0 | ((try simp only [Exit.inBlock, Exit.then]); refine bodyPost_ret (results_none rfl _ _ _) rfl ?_)
        exact ⟨Re_, (by first | exact (Pr_ HO_0.out) | (simp only [hl0_1]; exact (Pr_ HO_0.out))), Bl_, by repeat (first | (with_reducible first | exact HK.out | apply Kept.alloc | apply Kept.drewN | apply Kept.drew) | exact HK.out)⟩
/-! ### shape_Place: function 62 -/
section Place_
open Go.Shelf
attribute [local go_sem] Oper.semAt_some
/-! ### A region that draws its order, in a round of a loop over an iterator: as anywhere else -/
section
variable {P : Program} {ops : Array Oper} {Q : Exit → Act → World → Prop} {md : Region.Mode}
theorem opIn_of_op (l n : Nat) {o : Oper} {a : Act} {w : World} {K : Act → World → Prop} (hd : ∀ c, o.op ≠ .defer c) (h : o.wp P a w K Q) : o.wpIn (Fence.wide.inRound l) n P a w K Q := by
  refine ⟨fun _ _ => trivial, ?_⟩
  rw [show (Fence.wide.inRound l).round = some l from rfl, Oper.semAt_eq _ _ _ hd]
  unfold Oper.wp at h
  revert h
  generalize (execOp a.eval o).run P w = r
  intro h
  cases r with
  | ok x w' =>
    cases x with
    | enter f args =>
      have h' : CallsIn Fence.wide (n - 1) P f args w' _ := callsIn_wide.2 h
      exact ⟨fun e => (by cases e), CallsIn.inRound l h'⟩
    | row r args =>
      exact ⟨fun e => (by cases e), fun c cs _ => let ⟨v, w2, r, s⟩ := h c cs; ⟨v, w2, r, stepsIn_wide.2 s⟩⟩
    | value v => exact h
    | skip => exact h
    | defer d => exact h
    | _ => exact h.elim
  | halt x w' => cases x <;> exact h
theorem anyIn_of_any (l n : Nat) (hd : ∀ (i : Nat) (o : Oper) c, ops[i]? = some o → o.op ≠ .defer c) (hQ : ¬ LetsOut Q) : ∀ (fuel : Nat) (listed : Array Bool) (a : Act) (w : World), wpAny P md ops Q fuel listed a w → wpAnyIn (Fence.wide.inRound l) n P md ops Q fuel listed a w
  | 0, _, _, _, h => h
  | fuel + 1, listed, a, w, h => by
    refine ⟨h.1, fun i hi => ?_⟩
    have h2 := h.2 i hi
    unfold wpOp at h2
    unfold wpOpIn
    split
    · rename_i hn
      rw [hn] at h2
      exact anyIn_of_any l n hd hQ fuel _ _ _ h2
    · rename_i o ho
      rw [ho] at h2
      simp only at h2
      split
      · rename_i hw
        rw [if_pos hw] at h2
        rcases h2 with h2 | h2
        · exact Oper.wpIn_mono (fun a w => anyIn_of_any l n hd hQ fuel _ a w) (opIn_of_op l n (fun c => hd i o c ho) h2)
        · exact absurd h2.2 hQ
      · rename_i hw
        rw [if_neg hw] at h2
        exact ⟨fun _ _ => trivial, anyIn_of_any l n hd hQ fuel _ _ _ h2⟩
theorem startIn_ {S : World → Prop} {ds : List Nat} {id m lp n : Nat} {a : Act} {w : World} (l : Array Bool) (hm : P.follows .mixedOrders = true) (hn : ops.size = m) (hl : Array.replicate m false = l) (hd : ∀ (i : Nat) (o : Oper) c, ops[i]? = some o → o.op ≠ .defer c) (hQ : ¬ LetsOut Q) (hS : S w.drew)
    (h : S w.drew → wpAnyLast P .any ops Q S ds m l a w.drew) : (Code.region id ops true).wpIn (Fence.wide.inRound lp) n P Q a w := by
  subst hn
  subst hl
  exact wpIn_region_any hm (anyIn_of_any lp n hd hQ _ _ _ _ (wpAny_of_last _ _ _ _ (h hS)))
end

def noDefer (ops : Array Oper) : Bool := ops.all fun o => match o.op with | .defer _ => false | _ => true
theorem nodef_of {ops : Array Oper} (h : noDefer ops = true) : ∀ (i : Nat) (o : Oper) c, ops[i]? = some o → o.op ≠ .defer c := by
  intro i o c hi e
  have hm := Array.mem_of_getElem? hi
  have := Array.all_eq_true_iff_forall_mem.1 h o hm
  rw [e] at this
  cases this

/-- What has come when d rounds are over: the places from behind. -/
def cameB (len : Nat) : Nat → List (Fin len)
  | 0 => []
  | d + 1 => if h : d < len then cameB len d ++ [⟨len - 1 - d, by omega⟩] else cameB len d
theorem cameB_succ {len d : Nat} (h : d < len) : cameB len (d + 1) = cameB len d ++ [⟨len - 1 - d, by omega⟩] := by simp [cameB, h]
theorem cameB_length {len : Nat} : ∀ d, d ≤ len → (cameB len d).length = d
  | 0, _ => rfl
  | d + 1, h => by rw [cameB_succ (by omega), List.length_append, cameB_length d (by omega)]; rfl
/-- What a round keeps: what lay below n₀, and the iterator's own box. -/
def KpB (n₀ Bs : Nat) (W W' : World) : Prop := Below n₀ W W' ∧ W'.cell? ⟨Bs, 0, none⟩ = W.cell? ⟨Bs, 0, none⟩
abbrev backEnc (zs : List Int) (len : Nat) (x : Fin len) : Array Value := #[.int .i64 (x.1 : Int), .int .i64 (zs[x.1]?.getD 0)]

set_option maxRecDepth 100000 in
set_option maxHeartbeats 2000000 in
/-- slices.Backward's closure, for every loop body that keeps what lay below n₀. -/
theorem back1_in (F : Fence) (n : Nat) (h7 : F.fn 115) (hro : F.round = none) (hn : 1 ≤ n) (l Bs n₀ b off len cap : Nat) (zs : List Int) (hreach : len * 8 ≤ 140737488351232) (hb : b < n₀) (J Jx : List (Fin len) → World → Prop)
    (hY : ∀ pre x W, J pre W → pre.length < len → YieldAt F (n - 1) Tryd.prog l (backEnc zs len x) W fun e W' =>
      (e = .returned (.bool true) ∧ J (pre ++ [x]) W' ∧ KpB n₀ Bs W W') ∨ (e = .returned (.bool false) ∧ Jx (pre ++ [x]) W'))
    (W : World) (hBs : W.cell? ⟨Bs, 0, none⟩ = some (.slice (some ⟨b, off, none⟩) len cap)) (hc : ∀ j, j < len → W.cell? ⟨b, off + j, none⟩ = some (.int .i64 (zs[j]?.getD 0))) (h0 : J [] W) :
    CallsIn F n Tryd.prog 115 #[.func (.yield l) #[] #[], .pointer (some ⟨Bs, 0, none⟩)] W fun e W' => (∃ v, e = .returned v) ∧
      ((∃ ys, ys = cameB len len ∧ J ys W') ∨ (∃ pre, True ∧ Jx pre W')) := by
  refine callsIn_of_wp Tryd.func115 rfl h7 ?_ hro
  simp only [Tryd.ntmps115, List.size_toArray, List.length_cons, List.length_nil, Nat.reduceAdd, Nat.reduceSub, Array.replicate_succ, Array.replicate_zero, List.push_toArray, List.append_toArray, List.nil_append, List.cons_append]
  gi_wp2
  gi_loopw [3] (fun i wr => ∃ d m : Nat, d + m = len ∧ i = .int .i64 ((m : Int) - 1) ∧ J (cameB len d) wr ∧ KpB n₀ Bs W wr)
    (fun i _ => (intOf i + 1).toNat)
  case atStart => exact ⟨0, len, by omega, by first | rfl | simp, h0, Below.refl _ _, rfl⟩
  case round =>
    obtain ⟨d, m, hdm, rfl, hJs, hnx, hny⟩ := hrel
    have hBs' := hny.trans hBs
    cases m with
    | zero =>
      have e0 : (((0 : Nat) : Int) - 1) = (-1 : Int) := by decide
      rw [e0]
      gi_wp2
      go_end0
      obtain rfl : d = len := by omega
      exact ⟨⟨_, rfl⟩, .inl ⟨_, rfl, hJs⟩⟩
    | succ m =>
      have hm : (((m + 1 : Nat) : Int) - 1) = (m : Int) := by omega
      rw [hm]
      have hcx : wr.cell? ⟨b, off + m, none⟩ = some (.int .i64 (zs[m]?.getD 0)) := (hnx.cell (p := ⟨b, off + m, none⟩) hb).trans (hc m (by omega))
      obtain ⟨fn, tmps, assign, body, hy, hR⟩ := hY _ ⟨m, by omega⟩ wr hJs (by rw [cameB_length _ (by omega)]; omega)
      dsimp only [backEnc] at hy
      have hlt : m < len := by omega
      gi_wp2
      refine hR.mono ?_
      rintro e W3 (⟨rfl, hJ3, hk3⟩ | ⟨rfl, hJx3⟩)
      · gi_wp2
        go_roundw
        case rel =>
          refine ⟨d + 1, m, by omega, rfl, ?_, hnx.trans hk3.1, hk3.2.trans hny⟩
          rw [cameB_succ (by omega)]
          have : (⟨len - 1 - d, by omega⟩ : Fin len) = ⟨m, by omega⟩ := by apply Fin.ext; show len - 1 - d = m; omega
          rw [this]
          exact hJ3
        case measure => simp [intOf]
      · gi_wp2
        refine bodyPost_ret (results_none rfl _ _ _) rfl ?_
        exact ⟨⟨_, rfl⟩, .inr ⟨_, trivial, hJx3⟩⟩
set_option maxRecDepth 100000 in
set_option maxHeartbeats 1000000 in
theorem back1_empty (F : Fence) (n : Nat) (h7 : F.fn 115) (hro : F.round = none) (l Bs cap : Nat) (A : Option Addr) (J : List (Fin 0) → World → Prop) (W : World) (hBs : W.cell? ⟨Bs, 0, none⟩ = some (.slice A 0 cap)) (h0 : J [] W) :
    CallsIn F n Tryd.prog 115 #[.func (.yield l) #[] #[], .pointer (some ⟨Bs, 0, none⟩)] W fun e W' => (∃ v, e = .returned v) ∧ J [] W' := by
  refine callsIn_of_wp Tryd.func115 rfl h7 ?_ hro
  simp only [Tryd.ntmps115, List.size_toArray, List.length_cons, List.length_nil, Nat.reduceAdd, Nat.reduceSub, Array.replicate_succ, Array.replicate_zero, List.push_toArray, List.append_toArray, List.nil_append, List.cons_append]
  gi_wp2
  gi_loopw [3] (fun i wr => i = .int .i64 (-1) ∧ J [] wr) (fun _ _ => 0)
  case atStart => exact ⟨by first | rfl | simp, h0⟩
  case round =>
    obtain ⟨rfl, hJs⟩ := hrel
    gi_wp2
    go_end0
    exact ⟨⟨_, rfl⟩, hJs⟩
set_option maxHeartbeats 1000000 in
theorem backward_calls (A : Option Addr) (len cap : Nat) (w : World) :
    Calls Tryd.prog 94 #[.slice A len cap] w fun e w' => e = .returned (.func (.func 115) #[] #[.pointer (some ⟨w.heap.size, 0, none⟩)]) ∧ w' = w.alloc (.cells #[.slice A len cap] 22) := by
  go_enter Tryd.func94, Tryd.ntmps94
  go_wp2
  go_ret
  exact ⟨rfl, rfl⟩
/-- A row of whole numbers: nil or empty, or in a block below n₀. -/
def RowAt (n₀ : Nat) (W : World) (A : Option Addr) (zs : List Int) : Prop := zs = [] ∨ ∃ b off, A = some ⟨b, off, none⟩ ∧ b < n₀ ∧ ∀ j, j < zs.length → W.cell? ⟨b, off + j, none⟩ = some (.int .i64 (zs[j]?.getD 0))
theorem RowAt.below {n₀ : Nat} {W W' : World} {A : Option Addr} {zs : List Int} (hb : Below n₀ W W') : RowAt n₀ W A zs → RowAt n₀ W' A zs
  | .inl e => .inl e
  | .inr ⟨b, off, e, h, hc⟩ => .inr ⟨b, off, e, h, fun j hj => (hb.cell (p := ⟨b, off + j, none⟩) h).trans (hc j hj)⟩
theorem back_stops (F : Fence) (n : Nat) (h7 : F.fn 115) (hro : F.round = none) (hn : 1 ≤ n) (Bs n₀ cap : Nat) (A : Option Addr) (zs : List Int) (hreach : zs.length * 8 ≤ 140737488351232) (w : World) (hBs : Bs < w.heap.size) (hn₀ : n₀ ≤ w.heap.size)
    (hc : w.cell? ⟨Bs, 0, none⟩ = some (.slice A zs.length cap)) (hI : RowAt n₀ w A zs) :
    SeqStopsK F n Tryd.prog 115 #[.pointer (some ⟨Bs, 0, none⟩)] (backEnc zs zs.length) (KpB n₀ Bs) (fun ys => ys = cameB zs.length zs.length) (fun _ => True) zs.length w := fun l J Jx W hW _ _ hY h0 => by
  have hc' := (hW.cell (p := ⟨Bs, 0, none⟩) hBs).trans hc
  rcases hI.below (hW.mono hn₀) with rfl | ⟨b, off, rfl, hb, hcs⟩
  · exact (back1_empty F n h7 hro l Bs cap A J W hc' h0).mono fun e W' ⟨he, hj⟩ => ⟨he, .inl ⟨_, rfl, hj⟩⟩
  · exact back1_in F n h7 hro hn l Bs n₀ b off zs.length cap zs hreach hb J Jx hY W hc' hcs h0

/-! ### Place -/
def placeStep (s : List Int) (st : List Int × Int) (i : Nat) : List Int × Int := (st.1.set i (st.2 % (s[i]?.getD 0)), st.2 / (s[i]?.getD 0))
/-- The places and what is left when d rounds are over. -/
def placeSt (s : List Int) (off : Int) : Nat → List Int × Int
  | 0 => (List.replicate s.length 0, off)
  | d + 1 => placeStep s (placeSt s off d) (s.length - 1 - d)
theorem came_fold (s : List Int) (off : Int) : ∀ d, d ≤ s.length → (cameB s.length d).foldl (fun st i => placeStep s st i.1) (List.replicate s.length 0, off) = placeSt s off d
  | 0, _ => rfl
  | d + 1, h => by rw [cameB_succ (by omega), List.foldl_append, came_fold s off d (by omega)]; rfl
theorem place_pre (s : List Int) (off : Int) (h0 : 0 ≤ off) (hp : ∀ n ∈ s, 1 ≤ n) (pre : List (Fin s.length)) : (pre.foldl (fun st i => placeStep s st i.1) (List.replicate s.length 0, off)).1.length = s.length ∧ 0 ≤ (pre.foldl (fun st i => placeStep s st i.1) (List.replicate s.length 0, off)).2 ∧ (pre.foldl (fun st i => placeStep s st i.1) (List.replicate s.length 0, off)).2 ≤ off := by
  have H : ∀ (pre : List (Fin s.length)) (st : List Int × Int), st.1.length = s.length → 0 ≤ st.2 → st.2 ≤ off → (pre.foldl (fun st i => placeStep s st i.1) st).1.length = s.length ∧ 0 ≤ (pre.foldl (fun st i => placeStep s st i.1) st).2 ∧ (pre.foldl (fun st i => placeStep s st i.1) st).2 ≤ off := by
    intro pre
    induction pre with
    | nil => exact fun st h1 h2 h3 => ⟨h1, h2, h3⟩
    | cons x pre ih =>
      intro st h1 h2 h3
      rw [List.foldl_cons]
      have hn : 1 ≤ s[x.1]?.getD 0 := by simpa using hp _ (List.getElem_mem x.2)
      exact ih _ (by simp [placeStep, h1]) (Int.ediv_nonneg h2 (by omega)) (Int.le_trans (Int.ediv_le_self _ h2) h3)
  exact H pre _ (by simp) h0 (Int.le_refl _)
def shape_Place.f (k : Nat) (l0 : List Int) (a1 : Int) : Option (List Int × Bool) :=
  (shape_Size.f k l0).bind fun t => if t.2 = 0 ∧ 0 ≤ a1 ∧ a1 < t.1 then (if l0.length * 8 ≤ 140737488351232 ∧ a1 ≤ 9223372036854775807 ∧ (l0.all fun n => decide (1 ≤ n)) = true then some ((placeSt l0 a1 l0.length).1, true) else none) else some ([], false)
set_option maxRecDepth 100000 in
set_option maxHeartbeats 2000000 in
theorem place_no (k : Nat) (A0 : Option Addr) (c0 : Nat) (l0 : List Int) (a1 : Int) (t1 t2 : Int) (w : World) (hr0 : Kd.C (Kd.int .i64) w A0 l0.length l0) (hc0 : l0.length ≤ c0) (ht : shape_Size.f k l0 = some (t1, t2)) (h : ¬ (t2 = 0 ∧ 0 ≤ a1 ∧ a1 < t1)) :
    Calls Tryd.prog 62 #[.slice A0 l0.length c0, .int .i64 a1] w fun e w' => e = .returned (.tuple #[.slice none 0 0, .bool false]) ∧ Below w.heap.size w w' := by
  go_enter Tryd.func62, Tryd.ntmps62
  go_wp2_with fail
  obtain ⟨W0, hW0⟩ : ∃ W0, w.alloc (.cells #[.int .i64 a1] 3) = W0 := ⟨_, rfl⟩
  have hb0 : Below w.heap.size w W0 := by subst hW0; exact below_alloc (Below.refl _ _) _
  have HA : Aside0 (W0.heap[w.heap.size]? = some (.cells #[.int .i64 a1] 3 (0, 0))) := ⟨by subst hW0; simpa using heap_alloc_new w _⟩
  rw [hW0]
  clear hW0
  refine (shape_Size.calls k A0 c0 l0 t1 t2 W0 (Kd.C_below hr0 hb0) hc0 ht).mono ?_
  rintro e W1 ⟨rfl, hb1⟩
  have hb01 := below_then hb0 hb0.size hb1
  have c0 := c1_ (kp HA hb1)
  clear HA ht
  by_cases h2 : t2 = 0
  · subst h2
    by_cases h3 : a1 < 0
    · have g3 : decide (a1 < 0) = true := decide_eq_true h3
      clear h
      go_wp2
      go_ret2
      exact ⟨rfl, hb01⟩
    · have h4 : t1 ≤ a1 := by omega
      have g3 : decide (a1 < 0) = false := decide_eq_false h3
      have g4 : decide (t1 ≤ a1) = true := decide_eq_true h4
      clear h
      go_wp2
      go_ret2
      exact ⟨rfl, hb01⟩
  · have g2 : (t2 == 0) = false := beq_eq_false_iff_ne.mpr h2
    have g3 : (t2 != 0) = true := bne_iff_ne.mpr h2
    clear h h2
    go_wp2
    go_ret2
    exact ⟨rfl, hb01⟩
theorem made_ints (n : Nat) : madeCells (Value.int .i64 0).cells (n * 1) = (List.replicate n (Value.int .i64 0)).toArray := by
  apply Array.ext'
  simp only [madeCells, Value.cells, Nat.mul_one]
  apply List.ext_getElem
  · simp
  · intro i h1 h2
    simp [Nat.mod_one]
theorem make_ints (n : Nat) (hn : n * 8 ≤ 140737488351232) (w : World) : (Instr.makeSlice 22 (.int .i64 (n : Int)) (.int .i64 (n : Int))).run Tryd.prog w = .ok (.slice (some ⟨w.heap.size, 0, none⟩) n n) (w.alloc (.cells (List.replicate n (Value.int .i64 0)).toArray 3)) := by
  obtain ⟨i0, hi, hz0, hz1, hz2⟩ := info_parts (show (Tryd.prog.info? 3).map (fun i => (i.zero, i.size, i.bytes)) = some (some (.int .i64 0), 1, 8) by kernel_rfl)
  have h := run_make (P := Tryd.prog) w 22 3 i0 (.int .i64 0) Tryd.underlying22 hi hz0 .i64 .i64 (n : Int) (n : Int) (by omega) (Int.le_refl _) (by rw [hz2]; omega) (by omega)
  rw [hz1] at h
  simp only [Int.toNat_natCast] at h
  rw [h, made_ints]
set_option maxRecDepth 100000 in
set_option maxHeartbeats 4000000 in
theorem place_yes (k : Nat) (A0 : Option Addr) (c0 : Nat) (l0 : List Int) (a1 : Int) (t1 : Int) (w : World) (hr0 : Kd.C (Kd.int .i64) w A0 l0.length l0) (hc0 : l0.length ≤ c0) (ht : shape_Size.f k l0 = some (t1, 0)) (h0 : 0 ≤ a1) (h1 : a1 < t1) (h2 : a1 ≤ 9223372036854775807) (hl : l0.length * 8 ≤ 140737488351232) (hp : ∀ n ∈ l0, 1 ≤ n) :
    Calls Tryd.prog 62 #[.slice A0 l0.length c0, .int .i64 a1] w fun e w' => ∃ v1_ : Value, e = .returned (.tuple #[v1_, .bool true]) ∧ Kd.R (Kd.int .i64) 3 w' w.heap.size (fun _ => True) v1_ (placeSt l0 a1 l0.length).1 ∧ Below w.heap.size w w' := by
  refine (callsIn_wide (n := 3)).1 ?_
  refine callsIn_of_wp_marks Tryd.func62 rfl trivial ?_ rfl
  simp only [Tryd.ntmps62, List.size_toArray, List.length_cons, List.length_nil, Nat.reduceAdd, Nat.reduceSub, Array.replicate_succ, Array.replicate_zero, List.push_toArray, List.append_toArray, List.nil_append, List.cons_append]
  gi_wp2
  obtain ⟨W0, hW0⟩ : ∃ W0, w.alloc (.cells #[.int .i64 a1] 3) = W0 := ⟨_, rfl⟩
  have hb0 : Below w.heap.size w W0 := by subst hW0; exact below_alloc (Below.refl _ _) _
  have HA : Aside0 (W0.heap[w.heap.size]? = some (.cells #[.int .i64 a1] 3 (0, 0))) := ⟨by subst hW0; simpa using heap_alloc_new w _⟩
  have hs0 : W0.heap.size = w.heap.size + 1 := by subst hW0; simp
  rw [hW0]
  clear hW0
  refine ⟨trivial, (callsIn_wide.2 (shape_Size.calls k A0 c0 l0 t1 0 W0 (Kd.C_below hr0 hb0) hc0 ht)).mono ?_⟩
  rintro e W1 ⟨rfl, hb1⟩
  have hb01 := below_then hb0 hb0.size hb1
  have HA1 := kp HA hb1
  have hx0 := c1_ HA1
  clear HA ht
  have g3 : decide (a1 < 0) = false := decide_eq_false (by omega)
  have g4 : decide (t1 ≤ a1) = false := decide_eq_false (by omega)
  have hmk := make_ints l0.length (by omega) W1
  gi_wp2
  refine ⟨trivial, (callsIn_wide.2 (backward_calls A0 l0.length c0 _)).mono ?_⟩
  rintro e W2 ⟨rfl, hW2⟩
  obtain ⟨WL, hWL⟩ : ∃ WL, W2 = WL := ⟨_, rfl⟩
  have hbL : Below W1.heap.size W1 WL := by rw [← hWL, hW2]; exact below_alloc (below_alloc (below_alloc (Below.refl _ _) _) _) _
  have hsz : WL.heap.size = W1.heap.size + 3 := by rw [← hWL, hW2]; simp
  have HR : Aside0 (WL.heap[W1.heap.size]? = some (.cells (Array.replicate l0.length (.int .i64 0)) 3 (0, 0))) := ⟨by rw [← hWL, hW2]; exact blk_alloc (blk_alloc (by simpa using heap_alloc_new W1 _) _) _⟩
  have HT : Aside0 (WL.heap[W1.heap.size + 1]? = some (.cells #[.slice (some ⟨W1.heap.size, 0, none⟩) l0.length l0.length] 22 (0, 0))) := ⟨by rw [← hWL, hW2]; exact blk_alloc (by simpa using heap_alloc_new (W1.alloc _) _) _⟩
  have HS : Aside0 (WL.heap[W1.heap.size + 2]? = some (.cells #[.slice A0 l0.length c0] 22 (0, 0))) := ⟨by rw [← hWL, hW2]; simpa using heap_alloc_new ((W1.alloc _).alloc _) _⟩
  have HO := kp HA1 hbL
  have hbw := below_then hb01 hb01.size hbL
  subst hWL
  have hsz2 : ((W1.alloc (Obj.cells (Array.replicate l0.length (Value.int IntKind.i64 0)) 3)).alloc (Obj.cells #[Value.slice (some { block := W1.heap.size, off := 0 }) l0.length l0.length] 22)).heap.size = W1.heap.size + 2 := by simp
  rw [hsz2]
  clear hsz2 hW2 hx0 hmk HA1
  gi_wp2
  have hB0 : RowAt w.heap.size W2 A0 l0 := by
    refine RowAt.below (W := w) (below_then hb01 hb01.size hbL) ?_
    rcases row_cases (enc := Value.int .i64) (h1 := fun _ => rfl) hr0 with ⟨_, h⟩ | ⟨_, _, h⟩ | ⟨b, off, h, hpos, hc⟩
    · exact .inl h
    · exact .inl h
    · exact .inr ⟨b, off, h, World.block_lt_of_cell? w ⟨b, off + 0, none⟩ (hc 0 0 hpos), fun j hj => by have := hc j 0 hj; simpa [List.getD_eq_getElem?_getD] using this⟩
  refine wpIn_rangeFunc_ownF rfl (by omega) (gf := 115) (lb := #[.pointer (some ⟨W1.heap.size + 2, 0, none⟩)]) rfl trivial (enters_of Tryd.func115 (by kernel_rfl) rfl)
    (back_stops Fence.wide 2 trivial rfl (by omega) (W1.heap.size + 2) w.heap.size c0 A0 l0 hl W2 (by omega) hbw.size ((blk_cell HS.out 0).trans rfl) hB0)
    (fun {A B C} h k => ⟨h.1.trans k.1, k.2.trans h.2⟩)
    (fun W l o o' hl h h1 h2 => ⟨belowK_b hbw.size W l o o' hl h h1 h2, (belowK_b (n₀ := W1.heap.size + 3) (w := W2) (by omega) W l o o' hl h h1 h2).cell (p := ⟨W1.heap.size + 2, 0, none⟩) (by show W1.heap.size + 2 < W1.heap.size + 3; omega)⟩)
    (Below.refl _ _) (fun _ => rfl)
    (fun pre W => (W.heap[w.heap.size]? = some (.cells #[.int .i64 ((pre.foldl (fun st i => placeStep l0 st i.1) (List.replicate l0.length 0, a1)).2)] 3 (0, 0)) ∧
      W.heap[W1.heap.size]? = some (.cells (((pre.foldl (fun st i => placeStep l0 st i.1) (List.replicate l0.length 0, a1)).1).map (Value.int .i64)).toArray 3 (0, 0)) ∧
      W.heap[W1.heap.size + 1]? = some (.cells #[.slice (some ⟨W1.heap.size, 0, none⟩) l0.length l0.length] 22 (0, 0))) ∧ Below w.heap.size w W)
    (fun _ _ _ => False)
    ?own (fun _ _ _ _ _ hs _ _ => hs)
    ?start
    (fun x => { tmps := #[Value.slice A0 l0.length c0, Value.int IntKind.i64 a1, undef, Value.pointer (some { block := w.heap.size, off := 0 }), Value.slice none 0 0, Value.bool false, Value.int IntKind.i64 t1, Value.int IntKind.i64 0, Value.pointer (some { block := W1.heap.size + 1, off := 0 }), .int .i64 (x.1 : Int), .int .i64 (l0[x.1]'x.2), Value.tuple #[Value.int IntKind.i64 t1, Value.int IntKind.i64 0], Value.slice A0 l0.length c0, Value.tuple #[Value.int IntKind.i64 t1, Value.int IntKind.i64 0], Value.int IntKind.i64 t1, Value.int IntKind.i64 0, Value.int IntKind.i64 0, Value.bool false, Value.bool false, Value.int IntKind.i64 a1, Value.bool false, Value.bool false, Value.bool false, Value.int IntKind.i64 a1, Value.int IntKind.i64 t1, Value.bool false, Value.bool false, Value.slice A0 l0.length c0, Value.int IntKind.i64 l0.length, Value.slice (some { block := W1.heap.size, off := 0 }) l0.length l0.length, Value.slice A0 l0.length c0, Value.func (Fn.func 115) #[] #[Value.pointer (some { block := W1.heap.size + 2, off := 0 })], .int .i64 (x.1 : Int), .int .i64 (l0[x.1]'x.2), undef, undef, undef, undef, undef, undef, undef, undef, undef, undef], defers := [] }) ?assign ?body ?done ?stop
  case own =>
    refine OwnFrom.and (Own.from (fun s A B row hs hg hr => ?_) _) (ownFrom_below (Nat.le_refl _) hbw.size)
    have hk : ∀ {g : Nat} {cs : Array Value} {t : TypeId}, A.heap[g]? = some (.cells cs t (0, 0)) → B.heap[g]? = some (.cells cs t (0, 0)) := fun {g cs t} h => (hg.block g (blk_lt h) (fun e => by
      obtain ⟨ob, ho, hc⟩ := hr g e.symm
      rw [h] at ho
      cases ho
      simp [Obj.isCells] at hc)).trans h
    exact ⟨hk hs.1, hk hs.2.1, hk hs.2.2⟩
  case start => exact ⟨⟨HO.out, by simpa using HR.out, HT.out⟩, hbw⟩
  case assign =>
    intro l x W K hK
    gi_wp2
    exact hK
  case body =>
    rintro l pre x W ⟨⟨hO, hR, hT⟩, hB⟩ hlen
    have hst := place_pre l0 a1 h0 hp pre
    generalize hg : pre.foldl (fun st i => placeStep l0 st i.1) (List.replicate l0.length 0, a1) = st at hst hO hR
    obtain ⟨xs, o⟩ := st
    obtain ⟨hxl, ho0, ho1⟩ := hst
    simp only at hO hR hxl ho0 ho1
    obtain ⟨i, hi⟩ := x
    have hn1 : 1 ≤ l0[i] := hp _ (List.getElem_mem hi)
    have hz : (l0[i] == 0) = false := beq_eq_false_iff_ne.mpr (by omega)
    have cO := c1_ ⟨hO⟩
    have cT := c1_ ⟨hT⟩
    have cR : W.cell? ⟨W1.heap.size, i, none⟩ = some (.int .i64 (xs[i]'(by omega))) := (blk_cell hR i).trans (by simp [show i < xs.length by omega])
    have fO := blk_frozen hO 0
    have fR := blk_frozen hR i
    have hol : o ≤ 9223372036854775807 := by omega
    generalize hnv : l0[i] = n at hn1 hz ⊢
    have hz' : ¬ (n = 0) := by omega
    have htm : Int.tmod o n = o % n := Int.tmod_eq_emod_of_nonneg ho0
    have hdv : IntKind.i64.wrap (Int.tdiv o n) = o / n := by
      rw [Int.tdiv_eq_ediv_of_nonneg ho0, IntKind.wrap_i64]
      have h1 := Int.ediv_nonneg ho0 (show 0 ≤ n by omega)
      have h2 := Int.ediv_le_self n ho0
      omega
    have HG := Aside0.mk hg
    have HNV := Aside0.mk hnv
    have HO := Aside0.mk hO
    have HR := Aside0.mk hR
    have HT := Aside0.mk hT
    clear hg hO hR hT hnv
    have hlt1 : w.heap.size < W1.heap.size := by have := hb1.size; have := hs0; omega
    have hne1 : ¬ (w.heap.size = W1.heap.size) := by omega
    have hne2 : ¬ (W1.heap.size = w.heap.size) := by omega
    gi_wp2
    refine startIn_ (m := 11) (S := fun w' => w'.cell? ⟨W1.heap.size + 1, 0, none⟩ = some (.slice (some ⟨W1.heap.size, 0, none⟩) l0.length l0.length) ∧ w'.cell? ⟨w.heap.size, 0, none⟩ = some (.int .i64 o)) (ds := [10]) #[false, false, false, false, false, false, false, false, false, false, false] (by kernel_rfl) rfl rfl ?nodefer ?noleave ⟨cT, cO⟩ (fun hHeld => ?_)
    case nodefer => exact nodef_of (by kernel_rfl)
    case noleave => exact fun ⟨_, _, h⟩ => h
    refine pk_ 1 (some 35) #[false, true, false, false, false, false, false, false, false, false, false] ?_
    refine pk_ 3 (some 37) #[false, true, false, true, false, false, false, false, false, false, false] ?_
    refine pk_ 6 (some 40) #[false, true, false, true, false, false, true, false, false, false, false] ?_
    refine take_ (i := 0) (N := some 34) (v := ?_) (a' := ?_) #[true, true, false, true, false, false, true, false, false, false, false] rfl rfl (by kernel_rfl) (fun _ _ _ h => h) (Or.inl ⟨by rfl, ?_⟩) hHeld ?_ ?_
    rotate_left
    · rintro w' ⟨s0, s1⟩
      go_simp
      with_reducible rfl
    rotate_left
    · simp only [Act.put, List.setIfInBounds_toArray, List.set_cons_zero, List.set_cons_succ, i64_w, i32_w]
      rfl
    refine take_ (i := 2) (N := some 36) (v := ?_) (a' := ?_) #[true, true, true, true, false, false, true, false, false, false, false] rfl rfl (by kernel_rfl) (fun _ _ _ h => h) (Or.inl ⟨by rfl, ?_⟩) hHeld ?_ ?_
    rotate_left
    · rintro w' ⟨s0, s1⟩
      go_simp
      with_reducible rfl
    rotate_left
    · simp only [Act.put, List.setIfInBounds_toArray, List.set_cons_zero, List.set_cons_succ, i64_w, i32_w]
      rfl
    refine take_ (i := 5) (N := some 39) (v := ?_) (a' := ?_) #[true, true, true, true, false, true, true, false, false, false, false] rfl rfl (by kernel_rfl) (fun _ _ _ h => h) (Or.inl ⟨by rfl, ?_⟩) hHeld ?_ ?_
    rotate_left
    · rintro w' ⟨s0, s1⟩
      go_simp
      with_reducible rfl
    rotate_left
    · simp only [Act.put, List.setIfInBounds_toArray, List.set_cons_zero, List.set_cons_succ, i64_w, i32_w]
      rfl
    refine pk_ 4 (some 38) #[true, true, true, true, true, true, true, false, false, false, false] ?_
    refine pk_ 7 (some 41) #[true, true, true, true, true, true, true, true, false, false, false] ?_
    refine pk_ 8 (some 42) #[true, true, true, true, true, true, true, true, true, false, false] ?_
    refine one_ (i := 9) (N := none) #[true, true, true, true, true, true, true, true, true, true, false] rfl rfl (by kernel_rfl) (by decide) (fun K hK => ?_)
    refine skip_ (w1 := ?_) (by rfl) rfl ?_ ?_
    rotate_left
    · go_simp
      rfl
    refine hK.out _ _ ⟨(cell_far (p := ⟨W1.heap.size, i, none⟩) (show W1.heap.size + 1 ≠ W1.heap.size by omega) _).trans cT, (cell_far (p := ⟨W1.heap.size, i, none⟩) hne1 _).trans cO⟩ (fun hHeld => ?_)
    clear hK K
    refine last_ (i := 10) (N := none) #[true, true, true, true, true, true, true, true, true, true, true] rfl rfl (by kernel_rfl) (by decide) (fun K hK => ?_)
    refine skip_ (w1 := ?_) (by rfl) rfl ?_ ?_
    rotate_left
    · go_simp
      rfl
    refine hK.out _ _ ?_
    clear hK K
    refine done_ (by kernel_rfl) ?_
    have hstep : placeStep l0 (xs, o) i = (xs.set i (o % n), o / n) := by
      unfold placeStep
      rw [show l0[i]?.getD 0 = n by rw [← HNV.out]; simp [hi]]
    have hb2 : Below w.heap.size W (((W.setCell ⟨W1.heap.size, i, none⟩ (.int .i64 (o % n))).setCell ⟨w.heap.size, 0, none⟩ (.int .i64 (o / n))).drew) := (((Below.refl _ W).setCell (p := ⟨W1.heap.size, i, none⟩) (Nat.le_of_lt hlt1) _).setCell (p := ⟨w.heap.size, 0, none⟩) (Nat.le_refl _) _).drew
    refine ⟨((KeepsOthers.setCell W _ _).trans (KeepsOthers.setCell _ _ _)).trans (KeepsOthers.drew _), ⟨hb2, ?_⟩, ⟨?_, ?_, ?_⟩, hB.trans hb2⟩
    · exact (cell_far (p := ⟨w.heap.size, 0, none⟩) (show W1.heap.size + 2 ≠ w.heap.size by omega) _).trans (cell_far (p := ⟨W1.heap.size, i, none⟩) (show W1.heap.size + 2 ≠ W1.heap.size by omega) _)
    · rw [List.foldl_append, HG.out]
      simp only [List.foldl_cons, List.foldl_nil, hstep]
      exact blk_put (cs := #[.int .i64 o]) (blk_far HO.out (p := ⟨W1.heap.size, i, none⟩) hne1 _) 0 _ rfl
    · rw [List.foldl_append, HG.out]
      simp only [List.foldl_cons, List.foldl_nil, hstep]
      exact blk_far (blk_put HR.out i _ (by simp [List.map_set])) (p := ⟨w.heap.size, 0, none⟩) hne2 _
    · exact blk_far (blk_far HT.out (p := ⟨W1.heap.size, i, none⟩) (show W1.heap.size + 1 ≠ W1.heap.size by omega) _) (p := ⟨w.heap.size, 0, none⟩) (show W1.heap.size + 1 ≠ w.heap.size by omega) _
  case done =>
    rintro D ys W hD rfl ⟨⟨hO, hR, hT⟩, hB⟩ hK
    rw [came_fold l0 a1 l0.length (Nat.le_refl _)] at hR
    have hst := place_pre l0 a1 h0 hp (cameB l0.length l0.length)
    rw [came_fold l0 a1 l0.length (Nat.le_refl _)] at hst
    have hxl := hst.1
    have cT := c1_ ⟨hT⟩
    have HR := Aside0.mk hR
    clear hst hO hR hT
    gi_wp2
    refine ⟨by simp, .inl ⟨_, _, rfl, run_takeDeferred hK, ?_⟩⟩
    have hDR : W1.heap.size ≠ D := fun e => by
      have := HR.out
      rw [e, hK] at this
      cases this
    have hR' := ((grownBy_putObj' W D (.deferred none)).block W1.heap.size (blk_lt HR.out) (fun e => hDR (Option.some.inj e))).trans HR.out
    refine ⟨.tuple #[.slice (some ⟨W1.heap.size, 0, none⟩) l0.length l0.length, .bool true], by simp [results, Tryd.results62, go_sem], _, rfl, ?_, hB.trans (belowK_b (w := w) (Nat.le_refl _) W D _ _ (by have := hbw.size; omega) hK rfl rfl)⟩
    refine Kd.R_of_own (enc := Value.int .i64) ?_ (fun _ _ => trivial)
    rw [hxl]
    refine ⟨by simp [encs, hxl], .inr ⟨W1.heap.size, l0.length, _, rfl, hb01.size, hR', Nat.le_refl _, by unfold maxLen; omega, by simp [hxl], ?_⟩⟩
    simp only [Nat.mul_one, encs]
    rw [List.take_of_length_le (by simp [hxl])]
  case stop =>
    rintro D c pre W _ _ h _
    exact h.elim
theorem shape_Place.calls (k : Nat) (A0 : Option Addr) (c0 : Nat) (l0 : List Int) (a1 : Int) (r1 : List Int) (r2 : Bool) (w : World) (hr0 : Kd.C (Kd.int .i64) w A0 l0.length l0) (hc0 : l0.length ≤ c0) (h : shape_Place.f k l0 a1 = some (r1, r2)) :
    Calls Tryd.prog 62 #[.slice A0 l0.length c0, .int .i64 a1] w fun e w' => ∃ v1_ : Value, e = .returned (.tuple #[v1_, .bool r2]) ∧ Kd.R (Kd.int .i64) 3 w' w.heap.size (fun _ => True) v1_ r1 ∧ Below w.heap.size w w' := by
  obtain ⟨⟨t1, t2⟩, ht, h⟩ := Option.bind_eq_some_iff.mp h
  by_cases hc : t2 = 0 ∧ 0 ≤ a1 ∧ a1 < t1
  · rw [if_pos hc] at h
    obtain ⟨rfl, h0, h1⟩ := hc
    split at h
    case isFalse => cases h
    rename_i hg
    simp only [Option.some.injEq, Prod.mk.injEq] at h
    obtain ⟨rfl, rfl⟩ := h
    exact place_yes k A0 c0 l0 a1 t1 w hr0 hc0 ht h0 h1 hg.2.1 hg.1 (fun n hn => of_decide_eq_true (List.all_eq_true.1 hg.2.2 n hn))
  · rw [if_neg hc] at h
    simp only [Option.some.injEq, Prod.mk.injEq] at h
    obtain ⟨rfl, rfl⟩ := h
    refine (place_no k A0 c0 l0 a1 t1 t2 w hr0 hc0 ht hc).mono ?_
    rintro e w' ⟨rfl, hb⟩
    exact ⟨_, rfl, Kd.R_nil _ _ _ _ _, hb⟩
end Place_
/-! ### shape_May: function 95 -/
def shape_May.f (k : Nat) (l0 : List Int) : Option (Bool) := (shape_Size.f k l0).bind fun bt101 => (some (bt101.2 == 0))
set_option maxHeartbeats 8000000 in
set_option maxRecDepth 100000 in
theorem shape_May.calls (k : Nat) (A0 : Option Addr) (c0 : Nat) (l0 : List Int) (r : Bool) (w : World) (hr0 : Kd.C (Kd.int .i64) w A0 l0.length l0) (hc0 : l0.length ≤ c0) (h : shape_May.f k l0 = some r) :
    Calls Tryd.prog 95 #[.slice A0 l0.length c0] w fun e w' => e = .returned (.bool r) ∧ Below w.heap.size w w' := by
  have HR0 := Aside0.mk hr0
  have HC0 := Aside0.mk hc0
  clear hr0 hc0
  have HB := Aside0.mk (Below.refl w.heap.size w)
  have H : ((shape_Size.f k l0).bind fun bt101 => (some (bt101.2 == 0))) = some r := h
  clear h
  obtain ⟨⟨t101, t102⟩, A2, H⟩ := bnd_ H
  try dsimp -simprocs only at H
  obtain rfl := Option.some.inj H
  go_enter Tryd.func95, Tryd.ntmps95
  go_wp2_with (first | ((with_reducible refine gate_callee (f := 47) rfl ?_); refine goesL_ (some 7) rfl rfl Tryd.func47 (by kernel_rfl) rfl #[.slice A0 l0.length c0] rfl Ga_ ?_; (with_reducible refine (shape_Size.calls k _ _ l0 t101 t102 _ ?side1 ?side2 A2.out).mono ?_); (case side1 => repeat (first | exact HR0.out | (with_reducible refine Kd.C_alloc ?_ _) | (with_reducible refine Kd.C_drewN ?_ _) | (with_reducible refine Kd.C_drew ?_))); (case side2 => exact HC0.out); rintro e w3 ⟨rfl, hb⟩; refine ⟨_, rfl, ?_⟩; replace HB := Bs_ hb; (try clear hb); (try clear hb2); (try clear hk); (try clear hi)))
  go_ret
  exact ⟨Re_, Bl_⟩
/-! ### shape_Offset: function 63 -/
mutual
def shape_Offset.j0 : Nat → List Int → List Int → Bool → Option (Int × Bool)
  | 0, _, _, _ => none
  | k + 1, x0, x1, x19 => if x19 = true then (some (0, false)) else (shape_Offset.l0 k x1 0 true x0 (x0.length : Int) 0)
def shape_Offset.l0 : Nat → List Int → Int → Bool → List Int → Int → Int → Option (Int × Bool)
  | 0, _, _, _, _, _, _ => none
  | k + 1, x1, x6, x7, x20, x21, x22 => if x22 < x21 then (if 0 ≤ x22 then (if x22 < (x20.length : Int) then (if x22 < (x1.length : Int) then (if (rd x1 x22) < 0 then (some (0, false)) else (if (rd x1 x22) ≥ (rd x20 x22) then (some (0, false)) else (shape_Offset.l0 k x1 (wrap64 ((wrap64 (x6 * (rd x20 x22))) + (rd x1 x22))) x7 x20 x21 (wrap64 (x22 + 1))))) else (none)) else (none)) else (none)) else (if x7 = true then (some (x6, true)) else (some (0, false)))
end
def shape_Offset.f (k : Nat) (l0 : List Int) (l1 : List Int) : Option (Int × Bool) := (shape_May.f k l0).bind fun t101 => (if t101 = true then (shape_Offset.j0 k l0 l1 ((l1.length : Int) != (l0.length : Int))) else (shape_Offset.j0 k l0 l1 true))
set_option maxHeartbeats 8000000 in
set_option maxRecDepth 100000 in
theorem shape_Offset.calls (k : Nat) (A0 : Option Addr) (c0 : Nat) (l0 : List Int) (A1 : Option Addr) (c1 : Nat) (l1 : List Int) (r1 : Int) (r2 : Bool) (w : World) (hr0 : Kd.C (Kd.int .i64) w A0 l0.length l0) (hc0 : l0.length ≤ c0) (hr1 : Kd.C (Kd.int .i64) w A1 l1.length l1) (hc1 : l1.length ≤ c1) (h : shape_Offset.f k l0 l1 = some (r1, r2)) :
    Calls Tryd.prog 63 #[.slice A0 l0.length c0, .slice A1 l1.length c1] w fun e w' => e = .returned (.tuple #[.int .i64 r1, .bool r2]) ∧ Below w.heap.size w w' := by
  have HR0 := Aside0.mk hr0
  have HC0 := Aside0.mk hc0
  clear hr0 hc0
  have HR1 := Aside0.mk hr1
  have HC1 := Aside0.mk hc1
  clear hr1 hc1
  have HB := Aside0.mk (Below.refl w.heap.size w)
  have H : ((shape_May.f k l0).bind fun t101 => (if t101 = true then (shape_Offset.j0 k l0 l1 ((l1.length : Int) != (l0.length : Int))) else (shape_Offset.j0 k l0 l1 true))) = some (r1, r2) := h
  clear h
  have HC3 := Aside0.mk H
  clear H
  go_enter Tryd.func63, Tryd.ntmps63
  go_wp2
  go_step3
  go_upto_region 1 with (fail)
  go_cut [19] (fun v19 wc => ∃ (kq : Nat) (x19_2 : Bool), v19 = .bool x19_2 ∧ Aside0 (shape_Offset.j0 kq l0 l1 x19_2 = some (r1, r2)) ∧ Aside0 (kq ≤ k) ∧ Aside0 (Below w.heap.size w wc))
  case first =>
    have H := HC3.out
    clear HC3
    obtain ⟨t101, A4, H⟩ := bnd_ H
    try dsimp -simprocs only at H
    by_cases c5 : t101 = true
    · subst c5
      have H1 : (shape_Offset.j0 k l0 l1 ((l1.length : Int) != (l0.length : Int))) = some (r1, r2) := by rw [if_pos rfl] at H; exact H
      clear H
      have H := H1
      clear H1
      have H' := Aside0.mk H
      clear H
      go_wp2_with (first | ((with_reducible refine gate_callee (f := 95) rfl ?_); refine goesL_ (some 11) rfl rfl Tryd.func95 (by kernel_rfl) rfl #[.slice A0 l0.length c0] rfl Ga_ ?_; (with_reducible refine (shape_May.calls k _ _ l0 true _ ?side1 ?side2 A4.out).mono ?_); (case side1 => exact Pc_ (Kd.C_below HR0.out HB.out)); (case side2 => exact HC0.out); rintro e w6 ⟨rfl, hb⟩; refine ⟨_, rfl, ?_⟩; replace HB := Bs_ hb; (try clear hb); (try clear hb2); (try clear hk); (try clear hi)))
      go_meet
      case rel => exact ⟨_, (((l1.length : Int) != (l0.length : Int))), Rf_, H', ⟨by first | omega | exact Nat.le_refl _⟩, ⟨Bl_⟩⟩
    · replace c5 := Bool.eq_false_iff.mpr c5
      subst c5
      have H1 : (shape_Offset.j0 k l0 l1 true) = some (r1, r2) := by rw [if_neg (show ¬ (false = true) by decide)] at H; exact H
      clear H
      have H := H1
      clear H1
      have H' := Aside0.mk H
      clear H
      go_wp2_with (first | ((with_reducible refine gate_callee (f := 95) rfl ?_); refine goesL_ (some 11) rfl rfl Tryd.func95 (by kernel_rfl) rfl #[.slice A0 l0.length c0] rfl Ga_ ?_; (with_reducible refine (shape_May.calls k _ _ l0 false _ ?side1 ?side2 A4.out).mono ?_); (case side1 => exact Pc_ (Kd.C_below HR0.out HB.out)); (case side2 => exact HC0.out); rintro e w7 ⟨rfl, hb⟩; refine ⟨_, rfl, ?_⟩; replace HB := Bs_ hb; (try clear hb); (try clear hb2); (try clear hk); (try clear hi)))
      go_meet
      case rel => exact ⟨_, (true), Rf_, H', ⟨by first | omega | exact Nat.le_refl _⟩, ⟨Bl_⟩⟩
  case rest =>
    clear HC3
    try clear c1
    try clear p2
    try clear c5
    try clear c6
    obtain ⟨kq, x19_2, rfl, HA, HJ2, HB⟩ := hcut
    cases kq with
    | zero => exact absurd HA.out (by simp [shape_Offset.j0])
    | succ kj2 =>
      have H := HA.out
      clear HA
      simp only [shape_Offset.j0] at H
      by_cases c8 : x19_2 = true
      · subst c8
        have H1 : (some (0, false)) = some (r1, r2) := by rw [if_pos rfl] at H; exact H
        clear H
        have H := H1
        clear H1
        simp only [Option.some.injEq, Prod.mk.injEq] at H
        obtain ⟨rfl, rfl⟩ := H
        go_wp2
        (try rw [Exit.noGoto_ret])
        go_ret2
        exact ⟨Re_, Bl_⟩
      · replace c8 := Bool.eq_false_iff.mpr c8
        subst c8
        have H1 : (shape_Offset.l0 kj2 l1 0 true l0 (l0.length : Int) 0) = some (r1, r2) := by rw [if_neg (show ¬ (false = true) by decide)] at H; exact H
        clear H
        have H := H1
        clear H1
        have H' := Aside0.mk H
        clear H
        go_wp2
        (try (go_step3; go_wp2))
        go_loopg [6, 7, 22] kj2 (fun kq v6 v7 v22 w' => ∃ (x6_2 : Int) (x7_2 : Bool) (x22_2 : Int), v6 = .int .i64 x6_2 ∧ v7 = .bool x7_2 ∧ v22 = .int .i64 x22_2 ∧ Aside0 (shape_Offset.l0 kq l1 x6_2 x7_2 l0 (l0.length : Int) x22_2 = some (r1, r2)) ∧ Aside0 (kq ≤ kj2) ∧ Aside0 (Below w.heap.size w w'))
        case atStart => exact ⟨(0), (true), (0), Rf_, Rf_, Rf_, H', ⟨Nat.le_refl _⟩, ⟨Bl_⟩⟩
        case round =>
          clear H'
          try clear c1
          try clear p2
          try clear c5
          try clear c6
          try clear c8
          try clear p2
          obtain ⟨x6_2, x7_2, x22_2, rfl, rfl, rfl, HA, HK2, HB⟩ := hrel
          cases gk with
          | zero => exact absurd HA.out (by simp [shape_Offset.l0])
          | succ k2 =>
            have H := HA.out
            clear HA
            simp only [shape_Offset.l0] at H
            by_cases c9 : x22_2 < (l0.length : Int)
            · rw [if_pos c9] at H
              have c9b0 : decide (x22_2 < (l0.length : Int)) = true := decide_eq_true c9
              clear c9
              by_cases c10 : 0 ≤ x22_2
              · rw [if_pos c10] at H
                have c10b0 : decide (0 ≤ x22_2) = true := decide_eq_true c10
                clear c10
                by_cases c11 : x22_2 < (l0.length : Int)
                · rw [if_pos c11] at H
                  have c11b0 : decide (x22_2 < (l0.length : Int)) = true := decide_eq_true c11
                  clear c11
                  by_cases c12 : x22_2 < (l1.length : Int)
                  · rw [if_pos c12] at H
                    have c12b0 : decide (x22_2 < (l1.length : Int)) = true := decide_eq_true c12
                    clear c12
                    by_cases c13 : (rd l1 x22_2) < 0
                    · rw [if_pos c13] at H
                      have c13b0 : decide ((rd l1 x22_2) < 0) = true := decide_eq_true c13
                      clear c13
                      simp only [Option.some.injEq, Prod.mk.injEq] at H
                      obtain ⟨rfl, rfl⟩ := H
                      have p102 : 0 ≤ (x22_2 : Int) := of_decide_eq_true As_
                      have q102 : x22_2 < (l0.length : Int) := of_decide_eq_true As_
                      obtain ⟨ad102, e102, hx102_0⟩ := Kd.at_int HR0.out x22_2 p102 q102
                      cases e102
                      replace hx102_0 := (HB.out.cell (World.block_lt_of_cell? w _ hx102_0)).trans hx102_0
                      replace p102 := eq_true p102
                      replace q102 := eq_true q102
                      have p103 : 0 ≤ (x22_2 : Int) := of_decide_eq_true As_
                      have q103 : x22_2 < (l1.length : Int) := of_decide_eq_true As_
                      obtain ⟨ad103, e103, hx103_0⟩ := Kd.at_int HR1.out x22_2 p103 q103
                      cases e103
                      replace hx103_0 := (HB.out.cell (World.block_lt_of_cell? w _ hx103_0)).trans hx103_0
                      replace p103 := eq_true p103
                      replace q103 := eq_true q103
                      go_wp2
                      (try rw [Exit.noGoto_ret])
                      go_ret2
                      exact ⟨Re_, Bl_⟩
                    · rw [if_neg c13] at H
                      have c13b0 : decide ((rd l1 x22_2) < 0) = false := decide_eq_false c13
                      clear c13
                      by_cases c14 : (rd l1 x22_2) ≥ (rd l0 x22_2)
                      · rw [if_pos c14] at H
                        have c14b0 : decide ((rd l0 x22_2) ≤ (rd l1 x22_2)) = true := decide_eq_true c14
                        clear c14
                        simp only [Option.some.injEq, Prod.mk.injEq] at H
                        obtain ⟨rfl, rfl⟩ := H
                        have p102 : 0 ≤ (x22_2 : Int) := of_decide_eq_true As_
                        have q102 : x22_2 < (l0.length : Int) := of_decide_eq_true As_
                        obtain ⟨ad102, e102, hx102_0⟩ := Kd.at_int HR0.out x22_2 p102 q102
                        cases e102
                        replace hx102_0 := (HB.out.cell (World.block_lt_of_cell? w _ hx102_0)).trans hx102_0
                        replace p102 := eq_true p102
                        replace q102 := eq_true q102
                        have p103 : 0 ≤ (x22_2 : Int) := of_decide_eq_true As_
                        have q103 : x22_2 < (l1.length : Int) := of_decide_eq_true As_
                        obtain ⟨ad103, e103, hx103_0⟩ := Kd.at_int HR1.out x22_2 p103 q103
                        cases e103
                        replace hx103_0 := (HB.out.cell (World.block_lt_of_cell? w _ hx103_0)).trans hx103_0
                        replace p103 := eq_true p103
                        replace q103 := eq_true q103
                        have p104 : 0 ≤ (x22_2 : Int) := of_decide_eq_true As_
                        have q104 : x22_2 < (l1.length : Int) := of_decide_eq_true As_
                        obtain ⟨ad104, e104, hx104_0⟩ := Kd.at_int HR1.out x22_2 p104 q104
                        obtain rfl : ad103 = ad104 := (by injection e104)
                        replace hx104_0 := (HB.out.cell (World.block_lt_of_cell? w _ hx104_0)).trans hx104_0
                        replace p104 := eq_true p104
                        replace q104 := eq_true q104
                        go_wp2
                        (try rw [Exit.noGoto_ret])
                        go_ret2
                        exact ⟨Re_, Bl_⟩
                      · rw [if_neg c14] at H
                        have c14b0 : decide ((rd l0 x22_2) ≤ (rd l1 x22_2)) = false := decide_eq_false c14
                        clear c14
                        have H' := Aside0.mk H
                        clear H
                        have p102 : 0 ≤ (x22_2 : Int) := of_decide_eq_true As_
                        have q102 : x22_2 < (l0.length : Int) := of_decide_eq_true As_
                        obtain ⟨ad102, e102, hx102_0⟩ := Kd.at_int HR0.out x22_2 p102 q102
                        cases e102
                        replace hx102_0 := (HB.out.cell (World.block_lt_of_cell? w _ hx102_0)).trans hx102_0
                        replace p102 := eq_true p102
                        replace q102 := eq_true q102
                        have p103 : 0 ≤ (x22_2 : Int) := of_decide_eq_true As_
                        have q103 : x22_2 < (l1.length : Int) := of_decide_eq_true As_
                        obtain ⟨ad103, e103, hx103_0⟩ := Kd.at_int HR1.out x22_2 p103 q103
                        cases e103
                        replace hx103_0 := (HB.out.cell (World.block_lt_of_cell? w _ hx103_0)).trans hx103_0
                        replace p103 := eq_true p103
                        replace q103 := eq_true q103
                        have p104 : 0 ≤ (x22_2 : Int) := of_decide_eq_true As_
                        have q104 : x22_2 < (l1.length : Int) := of_decide_eq_true As_
                        obtain ⟨ad104, e104, hx104_0⟩ := Kd.at_int HR1.out x22_2 p104 q104
                        obtain rfl : ad103 = ad104 := (by injection e104)
                        replace hx104_0 := (HB.out.cell (World.block_lt_of_cell? w _ hx104_0)).trans hx104_0
                        replace p104 := eq_true p104
                        replace q104 := eq_true q104
                        have p105 : 0 ≤ (x22_2 : Int) := of_decide_eq_true As_
                        have q105 : x22_2 < (l1.length : Int) := of_decide_eq_true As_
                        obtain ⟨ad105, e105, hx105_0⟩ := Kd.at_int HR1.out x22_2 p105 q105
                        obtain rfl : ad103 = ad105 := (by injection e105)
                        replace hx105_0 := (HB.out.cell (World.block_lt_of_cell? w _ hx105_0)).trans hx105_0
                        replace p105 := eq_true p105
                        replace q105 := eq_true q105
                        go_wp2
                        go_roundg k2
                        case measure => have := HJ2.out; have := HK2.out; omega
                        case rel => exact ⟨(wrap64 ((wrap64 (x6_2 * (rd l0 x22_2))) + (rd l1 x22_2))), (x7_2), (wrap64 (x22_2 + 1)), Rf_, Rf_, Rf_, H', ⟨by have := HJ2.out; have := HK2.out; omega⟩, ⟨Bl_⟩⟩
                  · rw [if_neg c12] at H
                    exact absurd H (by simp)
                · rw [if_neg c11] at H
                  exact absurd H (by simp)
              · rw [if_neg c10] at H
                exact absurd H (by simp)
            · rw [if_neg c9] at H
              have c9b0 : decide (x22_2 < (l0.length : Int)) = false := decide_eq_false c9
              clear c9
              by_cases c15 : x7_2 = true
              · subst c15
                have H1 : (some (x6_2, true)) = some (r1, r2) := by rw [if_pos rfl] at H; exact H
                clear H
                have H := H1
                clear H1
                simp only [Option.some.injEq, Prod.mk.injEq] at H
                obtain ⟨rfl, rfl⟩ := H
                go_wp2
                (try rw [Exit.noGoto_ret])
                go_ret2
                exact ⟨Re_, Bl_⟩
              · replace c15 := Bool.eq_false_iff.mpr c15
                subst c15
                have H1 : (some (0, false)) = some (r1, r2) := by rw [if_neg (show ¬ (false = true) by decide)] at H; exact H
                clear H
                have H := H1
                clear H1
                simp only [Option.some.injEq, Prod.mk.injEq] at H
                obtain ⟨rfl, rfl⟩ := H
                go_wp2
                (try rw [Exit.noGoto_ret])
                go_ret2
                exact ⟨Re_, Bl_⟩

end Go.Proofs.YtfjilihppnndkaaDoor.P
