-- Written by drive.py of this claim's own session, by way of the kit's print. Lean checks it.
import Derived.Test.YtfjilihppnndkaaDoorMI1
import Derived.Test.YtfjilihppnndkaaDoorMI2
import Derived.RangeFuncNested
import Derived.RangeFuncBound
import Derived.RangeFuncCalls
import Derived.RangeFuncLeaves
import Derived.RangeFuncFrom
import Derived.Shelf.Abstract
import Derived.OwnWalkIn
import Derived.TacticsInMore
import Derived.LoopNIn
import Derived.LoopIn
import Derived.OrdersIn
namespace Go.Proofs.YtfjilihppnndkaaDoor.P
open Go.RowKit Go.Proofs.YtfjilihppnndkaaDoorW.PrintWords Go.Proofs.YtfjilihppnndkaaDoorW.PrintLast Go.Proofs.YtfjilihppnndkaaDoorW.PrintMore
attribute [local go_sem] max2_int min2_int max_two min_two max_three min_three max_four min_four   -- for this text's walks alone
set_option linter.unusedVariables false
set_option linter.unusedSimpArgs false

/-! ### shape_Same: function 53 -/
def shape_Same.f (k : Nat) (l0 : List Int) (l1 : List Int) : Option (Bool) := (slices_Equal_int_int.f k l0 l1).bind fun t101 => (some t101)
set_option maxHeartbeats 8000000 in
set_option maxRecDepth 100000 in
theorem shape_Same.calls (k : Nat) (A0 : Option Addr) (c0 : Nat) (l0 : List Int) (A1 : Option Addr) (c1 : Nat) (l1 : List Int) (r : Bool) (w : World) (hr0 : Kd.C (Kd.int .i64) w A0 l0.length l0) (hc0 : l0.length ≤ c0) (hr1 : Kd.C (Kd.int .i64) w A1 l1.length l1) (hc1 : l1.length ≤ c1) (h : shape_Same.f k l0 l1 = some r) :
    Calls Tryd.prog 53 #[.slice A0 l0.length c0, .slice A1 l1.length c1] w fun e w' => e = .returned (.bool r) ∧ Drawn0 w w' := by
  have HR0 := Aside0.mk hr0
  have HC0 := Aside0.mk hc0
  clear hr0 hc0
  have HR1 := Aside0.mk hr1
  have HC1 := Aside0.mk hc1
  clear hr1 hc1
  have H : ((slices_Equal_int_int.f k l0 l1).bind fun t101 => (some t101)) = some r := h
  clear h
  obtain ⟨t101, A3, H⟩ := bnd_ H
  try dsimp -simprocs only at H
  obtain rfl := Option.some.inj H
  go_enter Tryd.func53, Tryd.ntmps53
  go_wp2_with (first | ((with_reducible refine gate_callee (f := 88) rfl ?_); refine goesL_ (some 7) rfl rfl Tryd.func88 (by kernel_rfl) rfl #[.slice A0 l0.length c0, .slice A1 l1.length c1] rfl Ga_ ?_; (with_reducible refine (slices_Equal_int_int.calls k _ _ l0 _ _ l1 t101 _ ?side1 ?side2 ?side3 ?side4 A3.out).mono ?_); (case side1 => repeat (first | exact HR0.out | (with_reducible refine Kd.C_alloc ?_ _) | (with_reducible refine Kd.C_drewN ?_ _) | (with_reducible refine Kd.C_drew ?_))); (case side2 => exact HC0.out); (case side3 => repeat (first | exact HR1.out | (with_reducible refine Kd.C_alloc ?_ _) | (with_reducible refine Kd.C_drewN ?_ _) | (with_reducible refine Kd.C_drew ?_))); (case side4 => exact HC1.out); rintro e w' ⟨rfl, ⟨nd, rfl⟩⟩; refine ⟨_, rfl, ?_⟩))
  go_ret
  exact ⟨Rf_, Dw_⟩
/-! ### slices_Equal_string_string: function 54 -/
def slices_Equal_string_string.l0 : Nat → List ByteArray → List ByteArray → Int → Int → Option (Bool)
  | 0, _, _, _, _ => none
  | k + 1, x0, x1, x12, x13 => if x13 < x12 then (if 0 ≤ x13 then (if x13 < (x0.length : Int) then (if x13 < (x1.length : Int) then (if (rdOf ByteArray.empty x0 x13).toList = (rdOf ByteArray.empty x1 x13).toList then (slices_Equal_string_string.l0 k x0 x1 x12 (wrap64 (x13 + 1))) else (some false)) else (none)) else (none)) else (none)) else (some true)
def slices_Equal_string_string.f (k : Nat) (l0 : List ByteArray) (l1 : List ByteArray) : Option (Bool) := if (l0.length : Int) = (l1.length : Int) then (slices_Equal_string_string.l0 k l0 l1 (l0.length : Int) 0) else (some false)
set_option maxHeartbeats 8000000 in
set_option maxRecDepth 100000 in
theorem slices_Equal_string_string.calls (k : Nat) (A0 : Option Addr) (c0 : Nat) (l0 : List ByteArray) (A1 : Option Addr) (c1 : Nat) (l1 : List ByteArray) (r : Bool) (w : World) (hr0 : Kd.C Kd.string w A0 l0.length l0) (hc0 : l0.length ≤ c0) (hr1 : Kd.C Kd.string w A1 l1.length l1) (hc1 : l1.length ≤ c1) (h : slices_Equal_string_string.f k l0 l1 = some r) :
    Calls Tryd.prog 54 #[.slice A0 l0.length c0, .slice A1 l1.length c1] w fun e w' => e = .returned (.bool r) ∧ Drawn0 w w' := by
  have HR0 := Aside0.mk hr0
  have HC0 := Aside0.mk hc0
  clear hr0 hc0
  have HR1 := Aside0.mk hr1
  have HC1 := Aside0.mk hc1
  clear hr1 hc1
  have H : (if (l0.length : Int) = (l1.length : Int) then (slices_Equal_string_string.l0 k l0 l1 (l0.length : Int) 0) else (some false)) = some r := h
  clear h
  by_cases c3 : (l0.length : Int) = (l1.length : Int)
  · rw [if_pos c3] at H
    have c3b0 : ((l0.length : Int) == (l1.length : Int)) = true := beq_iff_eq.mpr c3
    have c3b1 : ((l0.length : Int) != (l1.length : Int)) = false := bne_eq_false_iff_eq.mpr c3
    have c3b2 : (l0.length == l1.length) = true := by first | simpa using c3 | (simp at c3 ⊢; omega)
    clear c3
    have H' := Aside0.mk H
    clear H
    go_enter Tryd.func54, Tryd.ntmps54
    go_wp2
    repeat (go_quiet (fail); try go_wp2)
    go_loopg [13] k (fun kq v13 w' => ∃ (x13_1 : Int), v13 = .int .i64 x13_1 ∧ Aside0 (slices_Equal_string_string.l0 kq l0 l1 (l0.length : Int) x13_1 = some r) ∧ Aside0 (kq ≤ k) ∧ Drawn0 w w')
    case atStart => exact ⟨(0), Rf_, H', ⟨Nat.le_refl _⟩, Dw_⟩
    case round =>
      clear H'
      try clear c1
      try clear p2
      try clear c3
      try clear c3b0
      try clear c3b1
      try clear c3b2
      obtain ⟨x13_1, rfl, HA, HK1, ⟨m1, rfl⟩⟩ := hrel
      cases gk with
      | zero => exact absurd HA.out (by simp [slices_Equal_string_string.l0])
      | succ k1 =>
        have H := HA.out
        clear HA
        simp only [slices_Equal_string_string.l0] at H
        by_cases c4 : x13_1 < (l0.length : Int)
        · rw [if_pos c4] at H
          have c4b0 : decide (x13_1 < (l0.length : Int)) = true := decide_eq_true c4
          clear c4
          by_cases c5 : 0 ≤ x13_1
          · rw [if_pos c5] at H
            have c5b0 : decide (0 ≤ x13_1) = true := decide_eq_true c5
            clear c5
            by_cases c6 : x13_1 < (l0.length : Int)
            · rw [if_pos c6] at H
              have c6b0 : decide (x13_1 < (l0.length : Int)) = true := decide_eq_true c6
              clear c6
              by_cases c7 : x13_1 < (l1.length : Int)
              · rw [if_pos c7] at H
                have c7b0 : decide (x13_1 < (l1.length : Int)) = true := decide_eq_true c7
                clear c7
                by_cases c8 : (rdOf ByteArray.empty l0 x13_1).toList = (rdOf ByteArray.empty l1 x13_1).toList
                · rw [if_pos c8] at H
                  have c8b0 : ((rdOf ByteArray.empty l0 x13_1).toList == (rdOf ByteArray.empty l1 x13_1).toList) = true := beq_iff_eq.mpr c8
                  have c8b1 : ((rdOf ByteArray.empty l0 x13_1).toList != (rdOf ByteArray.empty l1 x13_1).toList) = false := bne_eq_false_iff_eq.mpr c8
                  clear c8
                  have H' := Aside0.mk H
                  clear H
                  have p101 : 0 ≤ (x13_1 : Int) := of_decide_eq_true As_
                  have q101 : x13_1 < (l0.length : Int) := of_decide_eq_true As_
                  obtain ⟨ad101, e101, hx101_0⟩ := Kd.at_string HR0.out x13_1 p101 q101
                  cases e101
                  replace p101 := eq_true p101
                  replace q101 := eq_true q101
                  have p102 : 0 ≤ (x13_1 : Int) := of_decide_eq_true As_
                  have q102 : x13_1 < (l1.length : Int) := of_decide_eq_true As_
                  obtain ⟨ad102, e102, hx102_0⟩ := Kd.at_string HR1.out x13_1 p102 q102
                  cases e102
                  replace p102 := eq_true p102
                  replace q102 := eq_true q102
                  go_wp2
                  repeat (go_quiet (fail); try go_wp2)
                  go_roundg k1
                  case measure => have := HK1.out; omega
                  case rel => exact ⟨(wrap64 (x13_1 + 1)), Rf_, H', ⟨by have := HK1.out; omega⟩, Dw_⟩
                · rw [if_neg c8] at H
                  have c8b0 : ((rdOf ByteArray.empty l0 x13_1).toList == (rdOf ByteArray.empty l1 x13_1).toList) = false := beq_eq_false_iff_ne.mpr c8
                  have c8b1 : ((rdOf ByteArray.empty l0 x13_1).toList != (rdOf ByteArray.empty l1 x13_1).toList) = true := bne_iff_ne.mpr c8
                  obtain rfl := Option.some.inj H
                  have p101 : 0 ≤ (x13_1 : Int) := of_decide_eq_true As_
                  have q101 : x13_1 < (l0.length : Int) := of_decide_eq_true As_
                  obtain ⟨ad101, e101, hx101_0⟩ := Kd.at_string HR0.out x13_1 p101 q101
                  cases e101
                  replace p101 := eq_true p101
                  replace q101 := eq_true q101
                  have p102 : 0 ≤ (x13_1 : Int) := of_decide_eq_true As_
                  have q102 : x13_1 < (l1.length : Int) := of_decide_eq_true As_
                  obtain ⟨ad102, e102, hx102_0⟩ := Kd.at_string HR1.out x13_1 p102 q102
                  cases e102
                  replace p102 := eq_true p102
                  replace q102 := eq_true q102
                  go_wp2
                  repeat (go_quiet (fail); try go_wp2)
                  go_ret
                  exact ⟨Rf_, Dw_⟩
              · rw [if_neg c7] at H
                exact absurd H (by simp)
            · rw [if_neg c6] at H
              exact absurd H (by simp)
          · rw [if_neg c5] at H
            exact absurd H (by simp)
        · rw [if_neg c4] at H
          have c4b0 : decide (x13_1 < (l0.length : Int)) = false := decide_eq_false c4
          clear c4
          obtain rfl := Option.some.inj H
          go_wp2
          repeat (go_quiet (fail); try go_wp2)
          go_ret
          exact ⟨Rf_, Dw_⟩
  · rw [if_neg c3] at H
    have c3b0 : ((l0.length : Int) == (l1.length : Int)) = false := beq_eq_false_iff_ne.mpr c3
    have c3b1 : ((l0.length : Int) != (l1.length : Int)) = true := bne_iff_ne.mpr c3
    have c3b2 : (l0.length == l1.length) = false := by first | simpa using c3 | (simp at c3 ⊢; omega)
    obtain rfl := Option.some.inj H
    go_enter Tryd.func54, Tryd.ntmps54
    go_wp2
    repeat (go_quiet (fail); try go_wp2)
    go_ret
    exact ⟨Rf_, Dw_⟩
/-! ### val_Same: function 24 -/
def val_Same.f (k : Nat) (l0_0 : List Int) (l0_1 : List ByteArray) (l1_0 : List Int) (l1_1 : List ByteArray) : Option (Bool) := (shape_Same.f k l0_0 l1_0).bind fun t103 => (if t103 = true then ((slices_Equal_string_string.f k l0_1 l1_1).bind fun t104 => (some t104)) else (some false))
set_option maxHeartbeats 8000000 in
set_option maxRecDepth 100000 in
theorem val_Same.calls (k : Nat) (A0_0 : Option Addr) (c0_0 : Nat) (l0_0 : List Int) (A0_1 : Option Addr) (c0_1 : Nat) (l0_1 : List ByteArray) (A1_0 : Option Addr) (c1_0 : Nat) (l1_0 : List Int) (A1_1 : Option Addr) (c1_1 : Nat) (l1_1 : List ByteArray) (r : Bool) (w : World) (hr0_0 : Kd.C (Kd.int .i64) w A0_0 l0_0.length l0_0) (hc0_0 : l0_0.length ≤ c0_0) (hr0_1 : Kd.C Kd.string w A0_1 l0_1.length l0_1) (hc0_1 : l0_1.length ≤ c0_1) (hr1_0 : Kd.C (Kd.int .i64) w A1_0 l1_0.length l1_0) (hc1_0 : l1_0.length ≤ c1_0) (hr1_1 : Kd.C Kd.string w A1_1 l1_1.length l1_1) (hc1_1 : l1_1.length ≤ c1_1) (h : val_Same.f k l0_0 l0_1 l1_0 l1_1 = some r) :
    Calls Tryd.prog 24 #[.agg #[.slice A0_0 l0_0.length c0_0, .slice A0_1 l0_1.length c0_1], .agg #[.slice A1_0 l1_0.length c1_0, .slice A1_1 l1_1.length c1_1]] w fun e w' => e = .returned (.bool r) ∧ Below w.heap.size w w' := by
  have hu25 := Tryd.underlying25
  have HR0_0 := Aside0.mk hr0_0
  have HC0_0 := Aside0.mk hc0_0
  clear hr0_0 hc0_0
  have HR0_1 := Aside0.mk hr0_1
  have HC0_1 := Aside0.mk hc0_1
  clear hr0_1 hc0_1
  have HR1_0 := Aside0.mk hr1_0
  have HC1_0 := Aside0.mk hc1_0
  clear hr1_0 hc1_0
  have HR1_1 := Aside0.mk hr1_1
  have HC1_1 := Aside0.mk hc1_1
  clear hr1_1 hc1_1
  have HB := Aside0.mk (Below.refl w.heap.size w)
  have H : ((shape_Same.f k l0_0 l1_0).bind fun t103 => (if t103 = true then ((slices_Equal_string_string.f k l0_1 l1_1).bind fun t104 => (some t104)) else (some false))) = some r := h
  clear h
  obtain ⟨t103, A3, H⟩ := bnd_ H
  try dsimp -simprocs only at H
  by_cases c4 : t103 = true
  · subst c4
    have H1 : ((slices_Equal_string_string.f k l0_1 l1_1).bind fun t104 => (some t104)) = some r := by rw [if_pos rfl] at H; exact H
    clear H
    have H := H1
    clear H1
    obtain ⟨t104, A5, H⟩ := bnd_ H
    try dsimp -simprocs only at H
    obtain rfl := Option.some.inj H
    go_enter Tryd.func24, Tryd.ntmps24
    go_wp2_with (first | ((with_reducible refine gate_dst (N := 2) rfl ?_); refine bx_ 2 #[.slice A0_0 l0_0.length c0_0, .slice A0_1 l0_1.length c0_1] 25 ?_; intro gb101 hg w6 hbox hb; have BK101 := Aside0.mk (hbox); have GW101 := (Bg_ hg : Aside0 (w.heap.size ≤ gb101)); have GE101 := (Bg_ hg : Aside0 (w.heap.size ≤ gb101)); replace HB := Bs_ hb; clear hb hbox hg) | ((with_reducible refine gate_dst (N := 3) rfl ?_); refine bx_ 3 #[.slice A1_0 l1_0.length c1_0, .slice A1_1 l1_1.length c1_1] 25 ?_; intro gb102 hg w7 hbox hb; have BK102 := Aside0.mk (hbox); have GW102 := (Bg_ hg : Aside0 (w.heap.size ≤ gb102)); have GE102 := (Bg_ hg : Aside0 (w.heap.size ≤ gb102)); replace HB := Bs_ hb; have NB101_102 := nl_ hg BK101; have NB102_101 := ng_ hg BK101; replace BK101 := kb_ BK101 hb; clear hb hbox hg; have hnb8 := NB101_102.out; have hnc8 := NB102_101.out; obtain ⟨hcz9_0, hcz9_1⟩ := c2_ BK101; obtain ⟨hfz9_0, hfz9_1⟩ := f2_ BK101; obtain ⟨hcz10_0, hcz10_1⟩ := c2_ BK102; obtain ⟨hfz10_0, hfz10_1⟩ := f2_ BK102) | ((with_reducible refine gate_callee (f := 53) rfl ?_); refine goesL_ (some 9) rfl rfl Tryd.func53 (by kernel_rfl) rfl #[.slice A0_0 l0_0.length c0_0, .slice A1_0 l1_0.length c1_0] rfl Ga_ ?_; (with_reducible refine (shape_Same.calls k _ _ l0_0 _ _ l1_0 true _ ?side1 ?side2 ?side3 ?side4 A3.out).mono ?_); (case side1 => exact Pc_ (Kd.C_below HR0_0.out HB.out)); (case side2 => exact HC0_0.out); (case side3 => exact Pc_ (Kd.C_below HR1_0.out HB.out)); (case side4 => exact HC1_0.out); rintro e w' ⟨rfl, ⟨nd, rfl⟩⟩; refine ⟨_, rfl, ?_⟩) | (go_at_call 54; (with_reducible refine (slices_Equal_string_string.calls k _ _ l0_1 _ _ l1_1 t104 _ ?side1 ?side2 ?side3 ?side4 A5.out).mono ?_); (case side1 => exact Pc_ (Kd.C_below HR0_1.out Bl_)); (case side2 => exact HC0_1.out); (case side3 => exact Pc_ (Kd.C_below HR1_1.out Bl_)); (case side4 => exact HC1_1.out); rintro e w' ⟨rfl, ⟨nd, rfl⟩⟩))
    go_ret
    exact ⟨Re_, Bl_⟩
  · replace c4 := Bool.eq_false_iff.mpr c4
    subst c4
    have H1 : (some false) = some r := by rw [if_neg (show ¬ (false = true) by decide)] at H; exact H
    clear H
    have H := H1
    clear H1
    obtain rfl := Option.some.inj H
    go_enter Tryd.func24, Tryd.ntmps24
    go_wp2_with (first | ((with_reducible refine gate_dst (N := 2) rfl ?_); refine bx_ 2 #[.slice A0_0 l0_0.length c0_0, .slice A0_1 l0_1.length c0_1] 25 ?_; intro gb101 hg w11 hbox hb; have BK101 := Aside0.mk (hbox); have GW101 := (Bg_ hg : Aside0 (w.heap.size ≤ gb101)); have GE101 := (Bg_ hg : Aside0 (w.heap.size ≤ gb101)); replace HB := Bs_ hb; clear hb hbox hg) | ((with_reducible refine gate_dst (N := 3) rfl ?_); refine bx_ 3 #[.slice A1_0 l1_0.length c1_0, .slice A1_1 l1_1.length c1_1] 25 ?_; intro gb102 hg w12 hbox hb; have BK102 := Aside0.mk (hbox); have GW102 := (Bg_ hg : Aside0 (w.heap.size ≤ gb102)); have GE102 := (Bg_ hg : Aside0 (w.heap.size ≤ gb102)); replace HB := Bs_ hb; have NB101_102 := nl_ hg BK101; have NB102_101 := ng_ hg BK101; replace BK101 := kb_ BK101 hb; clear hb hbox hg; have hnb13 := NB101_102.out; have hnc13 := NB102_101.out; obtain ⟨hcz14_0, hcz14_1⟩ := c2_ BK101; obtain ⟨hfz14_0, hfz14_1⟩ := f2_ BK101; obtain ⟨hcz15_0, hcz15_1⟩ := c2_ BK102; obtain ⟨hfz15_0, hfz15_1⟩ := f2_ BK102) | ((with_reducible refine gate_callee (f := 53) rfl ?_); refine goesL_ (some 9) rfl rfl Tryd.func53 (by kernel_rfl) rfl #[.slice A0_0 l0_0.length c0_0, .slice A1_0 l1_0.length c1_0] rfl Ga_ ?_; (with_reducible refine (shape_Same.calls k _ _ l0_0 _ _ l1_0 false _ ?side1 ?side2 ?side3 ?side4 A3.out).mono ?_); (case side1 => exact Pc_ (Kd.C_below HR0_0.out HB.out)); (case side2 => exact HC0_0.out); (case side3 => exact Pc_ (Kd.C_below HR1_0.out HB.out)); (case side4 => exact HC1_0.out); rintro e w' ⟨rfl, ⟨nd, rfl⟩⟩; refine ⟨_, rfl, ?_⟩))
    go_ret
    exact ⟨Re_, Bl_⟩
/-! ### slices_Clone_int_int: function 55 -/
def slices_Clone_int_int.f (l0 : List Int) : Option (List Int) := if l0.length ≤ 17592186044416 then some l0 else none
set_option maxHeartbeats 400000 in
theorem slices_Clone_int_int.calls (A0 : Option Addr) (c0 : Nat) (l0 : List Int) (r : List Int) (w : World) (hr0 : Kd.C (Kd.int .i64) w A0 l0.length l0) (hc0 : l0.length ≤ c0) (h : slices_Clone_int_int.f l0 = some r) :
    Calls Tryd.prog 55 #[.slice A0 l0.length c0] w fun e w' => ∃ v0_ : Value, e = .returned (v0_) ∧ Kd.R (Kd.int .i64) 3 w' w.heap.size (fun _ => True) v0_ r ∧ Below w.heap.size w w' := by
  unfold slices_Clone_int_int.f at h
  split at h
  case isFalse => cases h
  rename_i hb
  obtain rfl := Option.some.inj h
  rcases row_cases (enc := Value.int .i64) (h1 := fun _ => rfl) hr0 with ⟨rfl, rfl⟩ | ⟨a, rfl, rfl⟩ | ⟨b, off, rfl, h0, hc⟩
  · refine (Tryd.slices_Clone_int_nil _ _ _).mono ?_
    rintro e w' ⟨rfl, rfl⟩
    exact ⟨_, rfl, Kd.R_nil _ _ _ _ _, Below.refl _ _⟩
  · refine (Tryd.slices_Clone_int_zero a c0 w).mono ?_
    rintro e w' ⟨v, rfl, ho, _, hb⟩
    exact ⟨_, rfl, Kd.R_of_own (enc := Value.int .i64) (xs := []) (by simpa [encs] using ho) (fun _ _ => trivial), hb⟩
  · refine (Tryd.slices_Clone_int b off l0.length c0 l0 w (Nat.le_refl _) (by omega) (fun j hj => hc j 0 hj)).mono ?_
    rintro e w' ⟨v, rfl, ho, _, hb⟩
    rw [List.take_length] at ho
    exact ⟨_, rfl, Kd.R_of_own (enc := Value.int .i64) ho (fun _ _ => trivial), hb⟩
/-! ### slices_Reverse_int_int: function 61 -/
def slices_Reverse_int_int.l0 : Nat → List Int → Int → Int → Option (List Int)
  | 0, _, _, _ => none
  | k + 1, x0, x2, x3 => if x2 < x3 then (if 0 ≤ x3 then (if x3 < (x0.length : Int) then (if 0 ≤ x2 then (if x2 < (x0.length : Int) then (slices_Reverse_int_int.l0 k ((x0.set (x2 : Int).toNat (rd x0 x3)).set (x3 : Int).toNat (rd x0 x2)) (wrap64 (x2 + 1)) (wrap64 (x3 - 1))) else (none)) else (none)) else (none)) else (none)) else (some x0)
def slices_Reverse_int_int.f (k : Nat) (l0 : List Int) : Option (List Int) := slices_Reverse_int_int.l0 k l0 0 (wrap64 ((l0.length : Int) - 1))
def slices_Reverse_int_int.T3 : Bool × List (List Nat × List Nat) := (true, [([], []), ([], []), ([], []), ([], []), ([], []), ([], []), ([4, 5], [4, 5]), ([6], [6]), ([], []), ([], []), ([8, 9], [8, 9]), ([10], [10]), ([0, 1, 0, 1, 4, 5, 6, 7, 11], [0, 1]), ([12, 7, 0, 1, 4, 5, 6, 7, 11], [7, 12]), ([2, 3, 0, 1, 2, 3, 4, 5, 6, 7, 8, 9, 10, 11, 12, 13], [2, 3]), ([14, 11, 13, 0, 1, 2, 3, 4, 5, 6, 7, 8, 9, 10, 11, 12, 13], [11, 14])])
def slices_Reverse_int_int.B3 : List Nat := [0, 0, 0, 0, 0, 0, 48, 112, 0, 0, 768, 1792, 4083, 8179, 16383, 32767]
theorem slices_Reverse_int_int.tab3 : rtab .any (opsOf Tryd.f61 3) = slices_Reverse_int_int.T3 := by kernel_rfl
theorem slices_Reverse_int_int.bits3 : waitsOk slices_Reverse_int_int.T3.2 slices_Reverse_int_int.B3 = true := by kernel_rfl
set_option maxHeartbeats 8000000 in
set_option maxRecDepth 100000 in
theorem slices_Reverse_int_int.calls (k : Nat) (P0_ : Nat → Prop) (u9000_ : Value) (l0 : List Int) (r : List Int) (w0 w : World) (hB : Below w0.heap.size w0 w) (ho0 : Kd.R (Kd.int .i64) 3 w w0.heap.size P0_ u9000_ l0) (h : slices_Reverse_int_int.f k l0 = some r) :
    Calls Tryd.prog 61 #[u9000_] w fun e w' => e = .returned (.tuple #[]) ∧ Kd.R (Kd.int .i64) 3 w' w0.heap.size (fun k_ => (P0_ k_ ∨ w.heap.size ≤ k_)) u9000_ r ∧ Below w0.heap.size w0 w' ∧ Kept w w' (fun k_ => P0_ k_) := by
  have HO0 := Aside0.mk (show Kd.R (Kd.int .i64) 3 w w0.heap.size (fun k_ => (P0_ k_ ∨ w.heap.size ≤ k_)) u9000_ l0 from Kd.R_mono ho0 (fun k_ hk => (.inl hk)))
  have HK := Aside0.mk (Kept.refl w (fun k_ => P0_ k_))
  have HW0 := Aside0.mk hB.size
  have HB := Aside0.mk hB
  clear hB
  have H : (slices_Reverse_int_int.l0 k l0 0 (wrap64 ((l0.length : Int) - 1))) = some r := h
  clear h
  have H' := Aside0.mk H
  clear H
  obtain ⟨Ao2, co2, eo2⟩ := Kd.R_slice HO0.out
  subst eo2
  go_enter Tryd.func61, Tryd.ntmps61
  go_wp2
  go_loopg [2, 3] k (fun kq v2 v3 w' => ∃ (x0_1 : List Int) (x2_1 : Int) (x3_1 : Int), v2 = .int .i64 x2_1 ∧ v3 = .int .i64 x3_1 ∧ Aside0 (slices_Reverse_int_int.l0 kq x0_1 x2_1 x3_1 = some r) ∧ Aside0 (kq ≤ k) ∧ Aside0 (Kd.R (Kd.int .i64) 3 w' w0.heap.size (fun k_ => (P0_ k_ ∨ w.heap.size ≤ k_)) (.slice Ao2 l0.length co2) x0_1) ∧ Aside0 (Kept w w' (fun k_ => P0_ k_)) ∧ Aside0 (Below w0.heap.size w0 w'))
  case atStart => exact ⟨(l0), (0), (wrap64 ((l0.length : Int) - 1)), Rf_, Rf_, H', ⟨Nat.le_refl _⟩, ⟨by (with_reducible repeat (first | apply Kd.R_alloc | apply Kd.R_drewN | apply Kd.R_drew)); exact HO0.out⟩, ⟨by repeat (first | (with_reducible first | exact HK.out | apply Kept.alloc | apply Kept.drewN | apply Kept.drew) | exact HK.out)⟩, ⟨Bl_⟩⟩
  case round =>
    clear H'
    try clear p2
    obtain ⟨x0_1, x2_1, x3_1, rfl, rfl, HA, HK1, HO_0, HK, HB⟩ := hrel
    have hl0_1 := (Kd.R_reads' HO_0.out).1
    rw [hl0_1] at HO_0
    (try simp only [hl0_1])
    cases gk with
    | zero => exact absurd HA.out (by simp [slices_Reverse_int_int.l0])
    | succ k1 =>
      have H := HA.out
      clear HA
      simp only [slices_Reverse_int_int.l0] at H
      by_cases c3 : x2_1 < x3_1
      · rw [if_pos c3] at H
        have c3b0 : decide (x2_1 < x3_1) = true := decide_eq_true c3
        (try simp only [hl0_1] at c3b0)
        clear c3
        by_cases c4 : 0 ≤ x3_1
        · rw [if_pos c4] at H
          have c4b0 : decide (0 ≤ x3_1) = true := decide_eq_true c4
          (try simp only [hl0_1] at c4b0)
          clear c4
          by_cases c5 : x3_1 < (x0_1.length : Int)
          · rw [if_pos c5] at H
            have c5b0 : decide (x3_1 < (x0_1.length : Int)) = true := decide_eq_true c5
            (try simp only [hl0_1] at c5b0)
            clear c5
            by_cases c6 : 0 ≤ x2_1
            · rw [if_pos c6] at H
              have c6b0 : decide (0 ≤ x2_1) = true := decide_eq_true c6
              (try simp only [hl0_1] at c6b0)
              clear c6
              by_cases c7 : x2_1 < (x0_1.length : Int)
              · rw [if_pos c7] at H
                have c7b0 : decide (x2_1 < (x0_1.length : Int)) = true := decide_eq_true c7
                (try simp only [hl0_1] at c7b0)
                clear c7
                obtain ⟨y103, hy103⟩ : ∃ y_ : List Int, y_ = (x0_1.set (x2_1 : Int).toNat (rd x0_1 x3_1)) := ⟨_, rfl⟩
                replace H : (slices_Reverse_int_int.l0 k1 (y103.set (x3_1 : Int).toNat (rd x0_1 x2_1)) (wrap64 (x2_1 + 1)) (wrap64 (x3_1 - 1))) = some r := by first | (rw [hy103]; with_reducible exact H) | (have H2_ := (Option.bind_some _ _).symm.trans H; rw [hy103]; with_reducible exact H2_) | (have H2_ := (Option.bind_some _ _).symm.trans H; with_reducible exact H2_) | with_reducible exact H | (rw [hy103]; exact H) | exact H
                have Ny103 := Aside0.mk hy103
                clear hy103
                obtain ⟨y104, hy104⟩ : ∃ y_ : List Int, y_ = (y103.set (x3_1 : Int).toNat (rd x0_1 x2_1)) := ⟨_, rfl⟩
                replace H : (slices_Reverse_int_int.l0 k1 y104 (wrap64 (x2_1 + 1)) (wrap64 (x3_1 - 1))) = some r := by first | (rw [hy104]; with_reducible exact H) | (have H2_ := (Option.bind_some _ _).symm.trans H; rw [hy104]; with_reducible exact H2_) | (have H2_ := (Option.bind_some _ _).symm.trans H; with_reducible exact H2_) | with_reducible exact H | (rw [hy104]; exact H) | exact H
                have Ny104 := Aside0.mk hy104
                clear hy104
                have H' := Aside0.mk H
                clear H
                try go_wp2
                replace HO_0 := Aside0.mk (Kd.R_drew HO_0.out)
                replace HK := Aside0.mk (Kept.drew HK.out)
                replace HB := Aside0.mk (below_drew1 HB.out)
                have p101 : 0 ≤ (x3_1 : Int) := of_decide_eq_true As_
                have q101 : x3_1 < (x0_1.length : Int) := of_decide_eq_true As_
                obtain ⟨ad101, e101, hx101_0⟩ := Kd.at_int (Kd.R_reads' HO_0.out).2.2 x3_1 p101 q101
                cases e101
                replace p101 := eq_true p101
                replace q101 := eq_true q101
                have p102 : 0 ≤ (x2_1 : Int) := of_decide_eq_true As_
                have q102 : x2_1 < (x0_1.length : Int) := of_decide_eq_true As_
                obtain ⟨ad102, e102, hx102_0⟩ := Kd.at_int (Kd.R_reads' HO_0.out).2.2 x2_1 p102 q102
                obtain rfl : ad101 = ad102 := (by injection e102)
                replace p102 := eq_true p102
                replace q102 := eq_true q102
                have p8 : 0 ≤ (x2_1 : Int) := of_decide_eq_true As_
                have q8 : (x2_1 : Int) < ((x0_1.length : Int) : Int) := of_decide_eq_true As_
                obtain ⟨go8, co8, eo8, gb8, gl8, cl8, HG8⟩ := Kd.R_form HO_0.out (by omega)
                (first | cases eo8 | (injection eo8 with ea_ en_ ec_; (first | subst ea_ | (injection ea_ with ea_; subst ea_)); subst ec_; clear en_))
                have GB8 := Aside0.mk gb8
                have GG8 := Aside0.mk HG8
                clear gb8 gl8 HG8
                have HMgo8 := Aside0.mk (show (P0_ go8 ∨ w.heap.size ≤ go8) from (HO_0.out.1 _ rfl))
                (first | simp only [add_plain] at hx101_0 | skip)
                (first | simp only [add_plain] at hx102_0 | skip)
                obtain ⟨hx8_0, hf8_0⟩ := Kd.R_celln 0 HO_0.out (x2_1 : Int) p8 q8
                replace p8 := eq_true p8
                replace q8 := eq_true q8
                have HP11 := Kd.R_putn HO_0.out (x2_1 : Int) (rd x0_1 x3_1)
                rw [← Ny103.out] at HP11
                have HQ11 := Aside0.mk HP11
                clear HP11
                have p9 : 0 ≤ (x3_1 : Int) := of_decide_eq_true As_
                have q9 : (x3_1 : Int) < ((x0_1.length : Int) : Int) := of_decide_eq_true As_
                obtain ⟨hx9_0, hf9_0⟩ := Kd.R_celln 0 HQ11.out (x3_1 : Int) p9 q9
                replace p9 := eq_true p9
                replace q9 := eq_true q9
                have HP12 := Kd.R_putn HQ11.out (x3_1 : Int) (rd x0_1 x2_1)
                rw [← Ny104.out] at HP12
                have HQ12 := Aside0.mk HP12
                clear HP12
                refine start_ (n := 16) (S := fun w' => w'.cell? ⟨go8, (x3_1).toNat, none⟩ = some (.int .i64 (rd x0_1 x3_1)) ∧ w'.cell? ⟨go8, (x2_1).toNat, none⟩ = some (.int .i64 (rd x0_1 x2_1))) (ds := [13, 15]) #[false, false, false, false, false, false, false, false, false, false, false, false, false, false, false, false] (by kernel_rfl) rfl rfl ⟨hx101_0, hx102_0⟩ (fun hHeld => ?_); refine with_tabW slices_Reverse_int_int.tab3 slices_Reverse_int_int.bits3 (fun HT_ HW_ => ?_)
                generalize wr.drew = w10 at HO_0 HK HB GG8 HQ11 HQ12 hf8_0 hf9_0 hx101_0 hx102_0 hx8_0 hx9_0 hHeld ⊢
                refine pu_ 0 (some 14) HT_ #[true, false, false, false, false, false, false, false, false, false, false, false, false, false, false, false] ?_
                refine pu_ 1 (some 15) HT_ #[true, true, false, false, false, false, false, false, false, false, false, false, false, false, false, false] ?_
                refine pu_ 2 (some 16) HT_ #[true, true, true, false, false, false, false, false, false, false, false, false, false, false, false, false] ?_
                refine pu_ 3 (some 17) HT_ #[true, true, true, true, false, false, false, false, false, false, false, false, false, false, false, false] ?_
                refine pu_ 4 (some 18) HT_ #[true, true, true, true, true, false, false, false, false, false, false, false, false, false, false, false] ?_
                refine pu_ 5 (some 19) HT_ #[true, true, true, true, true, true, false, false, false, false, false, false, false, false, false, false] ?_
                refine pu_ 6 (some 20) HT_ #[true, true, true, true, true, true, true, false, false, false, false, false, false, false, false, false] ?_
                refine pu_ 8 (some 22) HT_ #[true, true, true, true, true, true, true, false, true, false, false, false, false, false, false, false] ?_
                refine pu_ 9 (some 23) HT_ #[true, true, true, true, true, true, true, false, true, true, false, false, false, false, false, false] ?_
                refine pu_ 10 (some 24) HT_ #[true, true, true, true, true, true, true, false, true, true, true, false, false, false, false, false] ?_
                refine take_ (i := 7) (N := some 21) (v := ?_) (a' := ?_) #[true, true, true, true, true, true, true, true, true, true, true, false, false, false, false, false] rfl rfl (take_ofW HT_.out HW_.out (by kernel_rfl)) (fun _ _ _ h => h) (Or.inl ⟨by rfl, ?_⟩) hHeld ?_ ?_
                rotate_left
                · rintro w' ⟨s0, s1⟩
                  go_simp
                  with_reducible rfl
                rotate_left
                · simp only [Act.put, List.setIfInBounds_toArray, List.set_cons_zero, List.set_cons_succ, i64_w, i32_w]
                  rfl
                refine take_ (i := 11) (N := some 25) (v := ?_) (a' := ?_) #[true, true, true, true, true, true, true, true, true, true, true, true, false, false, false, false] rfl rfl (take_ofW HT_.out HW_.out (by kernel_rfl)) (fun _ _ _ h => h) (Or.inl ⟨by rfl, ?_⟩) hHeld ?_ ?_
                rotate_left
                · rintro w' ⟨s0, s1⟩
                  go_simp
                  with_reducible rfl
                rotate_left
                · simp only [Act.put, List.setIfInBounds_toArray, List.set_cons_zero, List.set_cons_succ, i64_w, i32_w]
                  rfl
                refine pu_ 12 (some 26) HT_ #[true, true, true, true, true, true, true, true, true, true, true, true, true, false, false, false] ?_
                refine last_ (i := 13) (N := none) #[true, true, true, true, true, true, true, true, true, true, true, true, true, true, false, false] rfl rfl (one_of HT_.out (by kernel_rfl)) (by decide) (fun K hK => ?_)
                refine skip_ (w1 := ?_) (by rfl) rfl ?_ ?_
                rotate_left
                · go_simp
                  rfl
                refine hK.out _ _ ?_
                clear hK K
                refine pu_ 14 (some 27) HT_ #[true, true, true, true, true, true, true, true, true, true, true, true, true, true, true, false] ?_
                refine last_ (i := 15) (N := none) #[true, true, true, true, true, true, true, true, true, true, true, true, true, true, true, true] rfl rfl (one_of HT_.out (by kernel_rfl)) (by decide) (fun K hK => ?_)
                refine skip_ (w1 := ?_) (by rfl) rfl ?_ ?_
                rotate_left
                · go_simp
                  rfl
                refine hK.out _ _ ?_
                clear hK K
                refine done_ (done_of HT_.out (by kernel_rfl)) ?_
                try go_wp2
                (try simp only [← hl0_1])
                go_roundg k1
                case measure => have := HK1.out; omega
                case rel => exact ⟨(y104), (wrap64 (x2_1 + 1)), (wrap64 (x3_1 - 1)), Rf_, Rf_, H', ⟨by have := HK1.out; omega⟩, ⟨by (try simp only [hl0_1]); (with_reducible repeat (first | apply Kd.R_alloc | apply Kd.R_drewN | apply Kd.R_drew)); exact HQ12.out⟩, ⟨by repeat (first | (with_reducible first | exact HK.out | apply Kept.alloc | apply Kept.drewN | apply Kept.drew | refine Kept.setCell ?_ HMgo8.out _ | refine Kept.setCell ?_ HMgo8.out _) | exact HK.out)⟩, ⟨by repeat (first | (with_reducible first | exact HB.out | apply below_alloc | apply pw_below_drewN | apply below_drew1 | refine below_set ?_ GB8.out | refine below_set ?_ GB8.out) | exact HB.out)⟩⟩
              · rw [if_neg c7] at H
                exact absurd H (by simp)
            · rw [if_neg c6] at H
              exact absurd H (by simp)
          · rw [if_neg c5] at H
            exact absurd H (by simp)
        · rw [if_neg c4] at H
          exact absurd H (by simp)
      · rw [if_neg c3] at H
        have c3b0 : decide (x2_1 < x3_1) = false := decide_eq_false c3
        (try simp only [hl0_1] at c3b0)
        clear c3
        obtain rfl := Option.some.inj H
        go_wp2
        first | go_end0 | ((try simp only [Exit.inBlock, Exit.then]); refine bodyPost_ret (results_none rfl _ _ _) rfl ?_)
        exact ⟨Re_, (by first | exact (Pr_ HO_0.out) | (simp only [hl0_1]; exact (Pr_ HO_0.out))), Bl_, by repeat (first | (with_reducible first | exact HK.out | apply Kept.alloc | apply Kept.drewN | apply Kept.drew) | exact HK.out)⟩
/-! ### shape_Place: function 62 -/
section Place_
open Go.Shelf
attribute [local go_sem] Oper.semAt_some
/-! ### A region that draws its order, in a round of a loop over an iterator: as anywhere else -/
section
variable {P : Program} {ops : Array Oper} {Q : Exit → Act → World → Prop} {md : Region.Mode}
theorem opIn_of_op (l n : Nat) {o : Oper} {a : Act} {w : World} {K : Act → World → Prop} (hd : ∀ c, o.op ≠ .defer c) (h : o.wp P a w K Q) : o.wpIn (Fence.wide.inRound l) n P a w K Q := by
  refine ⟨fun _ _ => trivial, ?_⟩
  rw [show (Fence.wide.inRound l).round = some l from rfl, Oper.semAt_eq _ _ _ hd]
  unfold Oper.wp at h
  revert h
  generalize (execOp a.eval o).run P w = r
  intro h
  cases r with
  | ok x w' =>
    cases x with
    | enter f args =>
      have h' : CallsIn Fence.wide (n - 1) P f args w' _ := callsIn_wide.2 h
      exact ⟨fun e => (by cases e), CallsIn.inRound l h'⟩
    | row r args =>
      exact ⟨fun e => (by cases e), fun c cs _ => let ⟨v, w2, r, s⟩ := h c cs; ⟨v, w2, r, stepsIn_wide.2 s⟩⟩
    | value v => exact h
    | skip => exact h
    | defer d => exact h
    | _ => exact h.elim
  | halt x w' => cases x <;> exact h
theorem anyIn_of_any (l n : Nat) (hd : ∀ (i : Nat) (o : Oper) c, ops[i]? = some o → o.op ≠ .defer c) (hQ : ¬ LetsOut Q) : ∀ (fuel : Nat) (listed : Array Bool) (a : Act) (w : World), wpAny P md ops Q fuel listed a w → wpAnyIn (Fence.wide.inRound l) n P md ops Q fuel listed a w
  | 0, _, _, _, h => h
  | fuel + 1, listed, a, w, h => by
    refine ⟨h.1, fun i hi => ?_⟩
    have h2 := h.2 i hi
    unfold wpOp at h2
    unfold wpOpIn
    split
    · rename_i hn
      rw [hn] at h2
      exact anyIn_of_any l n hd hQ fuel _ _ _ h2
    · rename_i o ho
      rw [ho] at h2
      simp only at h2
      split
      · rename_i hw
        rw [if_pos hw] at h2
        rcases h2 with h2 | h2
        · exact Oper.wpIn_mono (fun a w => anyIn_of_any l n hd hQ fuel _ a w) (opIn_of_op l n (fun c => hd i o c ho) h2)
        · exact absurd h2.2 hQ
      · rename_i hw
        rw [if_neg hw] at h2
        exact ⟨fun _ _ => trivial, anyIn_of_any l n hd hQ fuel _ _ _ h2⟩
theorem startIn_ {S : World → Prop} {ds : List Nat} {id m lp n : Nat} {a : Act} {w : World} (l : Array Bool) (hm : P.follows .mixedOrders = true) (hn : ops.size = m) (hl : Array.replicate m false = l) (hd : ∀ (i : Nat) (o : Oper) c, ops[i]? = some o → o.op ≠ .defer c) (hQ : ¬ LetsOut Q) (hS : S w.drew)
    (h : S w.drew → wpAnyLast P .any ops Q S ds m l a w.drew) : (Code.region id ops true).wpIn (Fence.wide.inRound lp) n P Q a w := by
  subst hn
  subst hl
  exact wpIn_region_any hm (anyIn_of_any lp n hd hQ _ _ _ _ (wpAny_of_last _ _ _ _ (h hS)))
end

def noDefer (ops : Array Oper) : Bool := ops.all fun o => match o.op with | .defer _ => false | _ => true
theorem nodef_of {ops : Array Oper} (h : noDefer ops = true) : ∀ (i : Nat) (o : Oper) c, ops[i]? = some o → o.op ≠ .defer c := by
  intro i o c hi e
  have hm := Array.mem_of_getElem? hi
  have := Array.all_eq_true_iff_forall_mem.1 h o hm
  rw [e] at this
  cases this

/-- What has come when d rounds are over: the places from behind. -/
def cameB (len : Nat) : Nat → List (Fin len)
  | 0 => []
  | d + 1 => if h : d < len then cameB len d ++ [⟨len - 1 - d, by omega⟩] else cameB len d
theorem cameB_succ {len d : Nat} (h : d < len) : cameB len (d + 1) = cameB len d ++ [⟨len - 1 - d, by omega⟩] := by simp [cameB, h]
theorem cameB_length {len : Nat} : ∀ d, d ≤ len → (cameB len d).length = d
  | 0, _ => rfl
  | d + 1, h => by rw [cameB_succ (by omega), List.length_append, cameB_length d (by omega)]; rfl
/-- What a round keeps: what lay below n₀, and the iterator's own box. -/
def KpB (n₀ Bs : Nat) (W W' : World) : Prop := Below n₀ W W' ∧ W'.cell? ⟨Bs, 0, none⟩ = W.cell? ⟨Bs, 0, none⟩
abbrev backEnc (zs : List Int) (len : Nat) (x : Fin len) : Array Value := #[.int .i64 (x.1 : Int), .int .i64 (zs[x.1]?.getD 0)]

set_option maxRecDepth 100000 in
set_option maxHeartbeats 2000000 in
/-- slices.Backward's closure, for every loop body that keeps what lay below n₀. -/
theorem back1_in (F : Fence) (n : Nat) (h7 : F.fn 115) (hro : F.round = none) (hn : 1 ≤ n) (l Bs n₀ b off len cap : Nat) (zs : List Int) (hreach : len * 8 ≤ 140737488351232) (hb : b < n₀) (J Jx : List (Fin len) → World → Prop)
    (hY : ∀ pre x W, J pre W → pre.length < len → YieldAt F (n - 1) Tryd.prog l (backEnc zs len x) W fun e W' =>
      (e = .returned (.bool true) ∧ J (pre ++ [x]) W' ∧ KpB n₀ Bs W W') ∨ (e = .returned (.bool false) ∧ Jx (pre ++ [x]) W'))
    (W : World) (hBs : W.cell? ⟨Bs, 0, none⟩ = some (.slice (some ⟨b, off, none⟩) len cap)) (hc : ∀ j, j < len → W.cell? ⟨b, off + j, none⟩ = some (.int .i64 (zs[j]?.getD 0))) (h0 : J [] W) :
    CallsIn F n Tryd.prog 115 #[.func (.yield l) #[] #[], .pointer (some ⟨Bs, 0, none⟩)] W fun e W' => (∃ v, e = .returned v) ∧
      ((∃ ys, ys = cameB len len ∧ J ys W') ∨ (∃ pre, True ∧ Jx pre W')) := by
  refine callsIn_of_wp Tryd.func115 rfl h7 ?_ hro
  simp only [Tryd.ntmps115, List.size_toArray, List.length_cons, List.length_nil, Nat.reduceAdd, Nat.reduceSub, Array.replicate_succ, Array.replicate_zero, List.push_toArray, List.append_toArray, List.nil_append, List.cons_append]
  gi_wp2
  gi_loopw [3] (fun i wr => ∃ d m : Nat, d + m = len ∧ i = .int .i64 ((m : Int) - 1) ∧ J (cameB len d) wr ∧ KpB n₀ Bs W wr)
    (fun i _ => (intOf i + 1).toNat)
  case atStart => exact ⟨0, len, by omega, by first | rfl | simp, h0, Below.refl _ _, rfl⟩
  case round =>
    obtain ⟨d, m, hdm, rfl, hJs, hnx, hny⟩ := hrel
    have hBs' := hny.trans hBs
    cases m with
    | zero =>
      have e0 : (((0 : Nat) : Int) - 1) = (-1 : Int) := by decide
      rw [e0]
      gi_wp2
      go_end0
      obtain rfl : d = len := by omega
      exact ⟨⟨_, rfl⟩, .inl ⟨_, rfl, hJs⟩⟩
    | succ m =>
      have hm : (((m + 1 : Nat) : Int) - 1) = (m : Int) := by omega
      rw [hm]
      have hcx : wr.cell? ⟨b, off + m, none⟩ = some (.int .i64 (zs[m]?.getD 0)) := (hnx.cell (p := ⟨b, off + m, none⟩) hb).trans (hc m (by omega))
      obtain ⟨fn, tmps, assign, body, hy, hR⟩ := hY _ ⟨m, by omega⟩ wr hJs (by rw [cameB_length _ (by omega)]; omega)
      dsimp only [backEnc] at hy
      have hlt : m < len := by omega
      gi_wp2
      refine hR.mono ?_
      rintro e W3 (⟨rfl, hJ3, hk3⟩ | ⟨rfl, hJx3⟩)
      · gi_wp2
        go_roundw
        case rel =>
          refine ⟨d + 1, m, by omega, rfl, ?_, hnx.trans hk3.1, hk3.2.trans hny⟩
          rw [cameB_succ (by omega)]
          have : (⟨len - 1 - d, by omega⟩ : Fin len) = ⟨m, by omega⟩ := by apply Fin.ext; show len - 1 - d = m; omega
          rw [this]
          exact hJ3
        case measure => simp [intOf]
      · gi_wp2
        refine bodyPost_ret (results_none rfl _ _ _) rfl ?_
        exact ⟨⟨_, rfl⟩, .inr ⟨_, trivial, hJx3⟩⟩
set_option maxRecDepth 100000 in
set_option maxHeartbeats 1000000 in
theorem back1_empty (F : Fence) (n : Nat) (h7 : F.fn 115) (hro : F.round = none) (l Bs cap : Nat) (A : Option Addr) (J : List (Fin 0) → World → Prop) (W : World) (hBs : W.cell? ⟨Bs, 0, none⟩ = some (.slice A 0 cap)) (h0 : J [] W) :
    CallsIn F n Tryd.prog 115 #[.func (.yield l) #[] #[], .pointer (some ⟨Bs, 0, none⟩)] W fun e W' => (∃ v, e = .returned v) ∧ J [] W' := by
  refine callsIn_of_wp Tryd.func115 rfl h7 ?_ hro
  simp only [Tryd.ntmps115, List.size_toArray, List.length_cons, List.length_nil, Nat.reduceAdd, Nat.reduceSub, Array.replicate_succ, Array.replicate_zero, List.push_toArray, List.append_toArray, List.nil_append, List.cons_append]
  gi_wp2
  gi_loopw [3] (fun i wr => i = .int .i64 (-1) ∧ J [] wr) (fun _ _ => 0)
  case atStart => exact ⟨by first | rfl | simp, h0⟩
  case round =>
    obtain ⟨rfl, hJs⟩ := hrel
    gi_wp2
    go_end0
    exact ⟨⟨_, rfl⟩, hJs⟩
set_option maxHeartbeats 1000000 in
theorem backward_calls (A : Option Addr) (len cap : Nat) (w : World) :
    Calls Tryd.prog 94 #[.slice A len cap] w fun e w' => e = .returned (.func (.func 115) #[] #[.pointer (some ⟨w.heap.size, 0, none⟩)]) ∧ w' = w.alloc (.cells #[.slice A len cap] 22) := by
  go_enter Tryd.func94, Tryd.ntmps94
  go_wp2
  go_ret
  exact ⟨rfl, rfl⟩
/-- A row of whole numbers: nil or empty, or in a block below n₀. -/
def RowAt (n₀ : Nat) (W : World) (A : Option Addr) (zs : List Int) : Prop := zs = [] ∨ ∃ b off, A = some ⟨b, off, none⟩ ∧ b < n₀ ∧ ∀ j, j < zs.length → W.cell? ⟨b, off + j, none⟩ = some (.int .i64 (zs[j]?.getD 0))
theorem RowAt.below {n₀ : Nat} {W W' : World} {A : Option Addr} {zs : List Int} (hb : Below n₀ W W') : RowAt n₀ W A zs → RowAt n₀ W' A zs
  | .inl e => .inl e
  | .inr ⟨b, off, e, h, hc⟩ => .inr ⟨b, off, e, h, fun j hj => (hb.cell (p := ⟨b, off + j, none⟩) h).trans (hc j hj)⟩
theorem back_stops (F : Fence) (n : Nat) (h7 : F.fn 115) (hro : F.round = none) (hn : 1 ≤ n) (Bs n₀ cap : Nat) (A : Option Addr) (zs : List Int) (hreach : zs.length * 8 ≤ 140737488351232) (w : World) (hBs : Bs < w.heap.size) (hn₀ : n₀ ≤ w.heap.size)
    (hc : w.cell? ⟨Bs, 0, none⟩ = some (.slice A zs.length cap)) (hI : RowAt n₀ w A zs) :
    SeqStopsK F n Tryd.prog 115 #[.pointer (some ⟨Bs, 0, none⟩)] (backEnc zs zs.length) (KpB n₀ Bs) (fun ys => ys = cameB zs.length zs.length) (fun _ => True) zs.length w := fun l J Jx W hW _ _ hY h0 => by
  have hc' := (hW.cell (p := ⟨Bs, 0, none⟩) hBs).trans hc
  rcases hI.below (hW.mono hn₀) with rfl | ⟨b, off, rfl, hb, hcs⟩
  · exact (back1_empty F n h7 hro l Bs cap A J W hc' h0).mono fun e W' ⟨he, hj⟩ => ⟨he, .inl ⟨_, rfl, hj⟩⟩
  · exact back1_in F n h7 hro hn l Bs n₀ b off zs.length cap zs hreach hb J Jx hY W hc' hcs h0

/-! ### Place -/
def placeStep (s : List Int) (st : List Int × Int) (i : Nat) : List Int × Int := (st.1.set i (st.2 % (s[i]?.getD 0)), st.2 / (s[i]?.getD 0))
/-- The places and what is left when d rounds are over. -/
def placeSt (s : List Int) (off : Int) : Nat → List Int × Int
  | 0 => (List.replicate s.length 0, off)
  | d + 1 => placeStep s (placeSt s off d) (s.length - 1 - d)
theorem came_fold (s : List Int) (off : Int) : ∀ d, d ≤ s.length → (cameB s.length d).foldl (fun st i => placeStep s st i.1) (List.replicate s.length 0, off) = placeSt s off d
  | 0, _ => rfl
  | d + 1, h => by rw [cameB_succ (by omega), List.foldl_append, came_fold s off d (by omega)]; rfl
theorem place_pre (s : List Int) (off : Int) (h0 : 0 ≤ off) (hp : ∀ n ∈ s, 1 ≤ n) (pre : List (Fin s.length)) : (pre.foldl (fun st i => placeStep s st i.1) (List.replicate s.length 0, off)).1.length = s.length ∧ 0 ≤ (pre.foldl (fun st i => placeStep s st i.1) (List.replicate s.length 0, off)).2 ∧ (pre.foldl (fun st i => placeStep s st i.1) (List.replicate s.length 0, off)).2 ≤ off := by
  have H : ∀ (pre : List (Fin s.length)) (st : List Int × Int), st.1.length = s.length → 0 ≤ st.2 → st.2 ≤ off → (pre.foldl (fun st i => placeStep s st i.1) st).1.length = s.length ∧ 0 ≤ (pre.foldl (fun st i => placeStep s st i.1) st).2 ∧ (pre.foldl (fun st i => placeStep s st i.1) st).2 ≤ off := by
    intro pre
    induction pre with
    | nil => exact fun st h1 h2 h3 => ⟨h1, h2, h3⟩
    | cons x pre ih =>
      intro st h1 h2 h3
      rw [List.foldl_cons]
      have hn : 1 ≤ s[x.1]?.getD 0 := by simpa using hp _ (List.getElem_mem x.2)
      exact ih _ (by simp [placeStep, h1]) (Int.ediv_nonneg h2 (by omega)) (Int.le_trans (Int.ediv_le_self _ h2) h3)
  exact H pre _ (by simp) h0 (Int.le_refl _)
def shape_Place.f (k : Nat) (l0 : List Int) (a1 : Int) : Option (List Int × Bool) :=
  (shape_Size.f k l0).bind fun t => if t.2 = 0 ∧ 0 ≤ a1 ∧ a1 < t.1 then (if l0.length * 8 ≤ 140737488351232 ∧ a1 ≤ 9223372036854775807 ∧ (l0.all fun n => decide (1 ≤ n)) = true then some ((placeSt l0 a1 l0.length).1, true) else none) else some ([], false)
set_option maxRecDepth 100000 in
set_option maxHeartbeats 2000000 in
theorem place_no (k : Nat) (A0 : Option Addr) (c0 : Nat) (l0 : List Int) (a1 : Int) (t1 t2 : Int) (w : World) (hr0 : Kd.C (Kd.int .i64) w A0 l0.length l0) (hc0 : l0.length ≤ c0) (ht : shape_Size.f k l0 = some (t1, t2)) (h : ¬ (t2 = 0 ∧ 0 ≤ a1 ∧ a1 < t1)) :
    Calls Tryd.prog 62 #[.slice A0 l0.length c0, .int .i64 a1] w fun e w' => e = .returned (.tuple #[.slice none 0 0, .bool false]) ∧ Below w.heap.size w w' := by
  go_enter Tryd.func62, Tryd.ntmps62
  go_wp2_with fail
  obtain ⟨W0, hW0⟩ : ∃ W0, w.alloc (.cells #[.int .i64 a1] 3) = W0 := ⟨_, rfl⟩
  have hb0 : Below w.heap.size w W0 := by subst hW0; exact below_alloc (Below.refl _ _) _
  have HA : Aside0 (W0.heap[w.heap.size]? = some (.cells #[.int .i64 a1] 3 (0, 0))) := ⟨by subst hW0; simpa using heap_alloc_new w _⟩
  rw [hW0]
  clear hW0
  refine (shape_Size.calls k A0 c0 l0 t1 t2 W0 (Kd.C_below hr0 hb0) hc0 ht).mono ?_
  rintro e W1 ⟨rfl, hb1⟩
  have hb01 := below_then hb0 hb0.size hb1
  have c0 := c1_ (kp HA hb1)
  clear HA ht
  by_cases h2 : t2 = 0
  · subst h2
    by_cases h3 : a1 < 0
    · have g3 : decide (a1 < 0) = true := decide_eq_true h3
      clear h
      go_wp2
      go_ret2
      exact ⟨rfl, hb01⟩
    · have h4 : t1 ≤ a1 := by omega
      have g3 : decide (a1 < 0) = false := decide_eq_false h3
      have g4 : decide (t1 ≤ a1) = true := decide_eq_true h4
      clear h
      go_wp2
      go_ret2
      exact ⟨rfl, hb01⟩
  · have g2 : (t2 == 0) = false := beq_eq_false_iff_ne.mpr h2
    have g3 : (t2 != 0) = true := bne_iff_ne.mpr h2
    clear h h2
    go_wp2
    go_ret2
    exact ⟨rfl, hb01⟩
theorem made_ints (n : Nat) : madeCells (Value.int .i64 0).cells (n * 1) = (List.replicate n (Value.int .i64 0)).toArray := by
  apply Array.ext'
  simp only [madeCells, Value.cells, Nat.mul_one]
  apply List.ext_getElem
  · simp
  · intro i h1 h2
    simp [Nat.mod_one]
theorem make_ints (n : Nat) (hn : n * 8 ≤ 140737488351232) (w : World) : (Instr.makeSlice 22 (.int .i64 (n : Int)) (.int .i64 (n : Int))).run Tryd.prog w = .ok (.slice (some ⟨w.heap.size, 0, none⟩) n n) (w.alloc (.cells (List.replicate n (Value.int .i64 0)).toArray 3)) := by
  obtain ⟨i0, hi, hz0, hz1, hz2⟩ := info_parts (show (Tryd.prog.info? 3).map (fun i => (i.zero, i.size, i.bytes)) = some (some (.int .i64 0), 1, 8) by kernel_rfl)
  have h := run_make (P := Tryd.prog) w 22 3 i0 (.int .i64 0) Tryd.underlying22 hi hz0 .i64 .i64 (n : Int) (n : Int) (by omega) (Int.le_refl _) (by rw [hz2]; omega) (by omega)
  rw [hz1] at h
  simp only [Int.toNat_natCast] at h
  rw [h, made_ints]
set_option maxRecDepth 100000 in
set_option maxHeartbeats 4000000 in
theorem place_yes (k : Nat) (A0 : Option Addr) (c0 : Nat) (l0 : List Int) (a1 : Int) (t1 : Int) (w : World) (hr0 : Kd.C (Kd.int .i64) w A0 l0.length l0) (hc0 : l0.length ≤ c0) (ht : shape_Size.f k l0 = some (t1, 0)) (h0 : 0 ≤ a1) (h1 : a1 < t1) (h2 : a1 ≤ 9223372036854775807) (hl : l0.length * 8 ≤ 140737488351232) (hp : ∀ n ∈ l0, 1 ≤ n) :
    Calls Tryd.prog 62 #[.slice A0 l0.length c0, .int .i64 a1] w fun e w' => ∃ v1_ : Value, e = .returned (.tuple #[v1_, .bool true]) ∧ Kd.R (Kd.int .i64) 3 w' w.heap.size (fun _ => True) v1_ (placeSt l0 a1 l0.length).1 ∧ Below w.heap.size w w' := by
  refine (callsIn_wide (n := 3)).1 ?_
  refine callsIn_of_wp_marks Tryd.func62 rfl trivial ?_ rfl
  simp only [Tryd.ntmps62, List.size_toArray, List.length_cons, List.length_nil, Nat.reduceAdd, Nat.reduceSub, Array.replicate_succ, Array.replicate_zero, List.push_toArray, List.append_toArray, List.nil_append, List.cons_append]
  gi_wp2
  obtain ⟨W0, hW0⟩ : ∃ W0, w.alloc (.cells #[.int .i64 a1] 3) = W0 := ⟨_, rfl⟩
  have hb0 : Below w.heap.size w W0 := by subst hW0; exact below_alloc (Below.refl _ _) _
  have HA : Aside0 (W0.heap[w.heap.size]? = some (.cells #[.int .i64 a1] 3 (0, 0))) := ⟨by subst hW0; simpa using heap_alloc_new w _⟩
  have hs0 : W0.heap.size = w.heap.size + 1 := by subst hW0; simp
  rw [hW0]
  clear hW0
  refine ⟨trivial, (callsIn_wide.2 (shape_Size.calls k A0 c0 l0 t1 0 W0 (Kd.C_below hr0 hb0) hc0 ht)).mono ?_⟩
  rintro e W1 ⟨rfl, hb1⟩
  have hb01 := below_then hb0 hb0.size hb1
  have HA1 := kp HA hb1
  have hx0 := c1_ HA1
  clear HA ht
  have g3 : decide (a1 < 0) = false := decide_eq_false (by omega)
  have g4 : decide (t1 ≤ a1) = false := decide_eq_false (by omega)
  have hmk := make_ints l0.length (by omega) W1
  gi_wp2
  refine ⟨trivial, (callsIn_wide.2 (backward_calls A0 l0.length c0 _)).mono ?_⟩
  rintro e W2 ⟨rfl, hW2⟩
  obtain ⟨WL, hWL⟩ : ∃ WL, W2 = WL := ⟨_, rfl⟩
  have hbL : Below W1.heap.size W1 WL := by rw [← hWL, hW2]; exact below_alloc (below_alloc (below_alloc (Below.refl _ _) _) _) _
  have hsz : WL.heap.size = W1.heap.size + 3 := by rw [← hWL, hW2]; simp
  have HR : Aside0 (WL.heap[W1.heap.size]? = some (.cells (Array.replicate l0.length (.int .i64 0)) 3 (0, 0))) := ⟨by rw [← hWL, hW2]; exact blk_alloc (blk_alloc (by simpa using heap_alloc_new W1 _) _) _⟩
  have HT : Aside0 (WL.heap[W1.heap.size + 1]? = some (.cells #[.slice (some ⟨W1.heap.size, 0, none⟩) l0.length l0.length] 22 (0, 0))) := ⟨by rw [← hWL, hW2]; exact blk_alloc (by simpa using heap_alloc_new (W1.alloc _) _) _⟩
  have HS : Aside0 (WL.heap[W1.heap.size + 2]? = some (.cells #[.slice A0 l0.length c0] 22 (0, 0))) := ⟨by rw [← hWL, hW2]; simpa using heap_alloc_new ((W1.alloc _).alloc _) _⟩
  have HO := kp HA1 hbL
  have hbw := below_then hb01 hb01.size hbL
  subst hWL
  have hsz2 : ((W1.alloc (Obj.cells (Array.replicate l0.length (Value.int IntKind.i64 0)) 3)).alloc (Obj.cells #[Value.slice (some { block := W1.heap.size, off := 0 }) l0.length l0.length] 22)).heap.size = W1.heap.size + 2 := by simp
  rw [hsz2]
  clear hsz2 hW2 hx0 hmk HA1
  gi_wp2
  have hB0 : RowAt w.heap.size W2 A0 l0 := by
    refine RowAt.below (W := w) (below_then hb01 hb01.size hbL) ?_
    rcases row_cases (enc := Value.int .i64) (h1 := fun _ => rfl) hr0 with ⟨_, h⟩ | ⟨_, _, h⟩ | ⟨b, off, h, hpos, hc⟩
    · exact .inl h
    · exact .inl h
    · exact .inr ⟨b, off, h, World.block_lt_of_cell? w ⟨b, off + 0, none⟩ (hc 0 0 hpos), fun j hj => by have := hc j 0 hj; simpa [List.getD_eq_getElem?_getD] using this⟩
  refine wpIn_rangeFunc_ownF rfl (by omega) (gf := 115) (lb := #[.pointer (some ⟨W1.heap.size + 2, 0, none⟩)]) rfl trivial (enters_of Tryd.func115 (by kernel_rfl) rfl)
    (back_stops Fence.wide 2 trivial rfl (by omega) (W1.heap.size + 2) w.heap.size c0 A0 l0 hl W2 (by omega) hbw.size ((blk_cell HS.out 0).trans rfl) hB0)
    (fun {A B C} h k => ⟨h.1.trans k.1, k.2.trans h.2⟩)
    (fun W l o o' hl h h1 h2 => ⟨belowK_b hbw.size W l o o' hl h h1 h2, (belowK_b (n₀ := W1.heap.size + 3) (w := W2) (by omega) W l o o' hl h h1 h2).cell (p := ⟨W1.heap.size + 2, 0, none⟩) (by show W1.heap.size + 2 < W1.heap.size + 3; omega)⟩)
    (Below.refl _ _) (fun _ => rfl)
    (fun pre W => (W.heap[w.heap.size]? = some (.cells #[.int .i64 ((pre.foldl (fun st i => placeStep l0 st i.1) (List.replicate l0.length 0, a1)).2)] 3 (0, 0)) ∧
      W.heap[W1.heap.size]? = some (.cells (((pre.foldl (fun st i => placeStep l0 st i.1) (List.replicate l0.length 0, a1)).1).map (Value.int .i64)).toArray 3 (0, 0)) ∧
      W.heap[W1.heap.size + 1]? = some (.cells #[.slice (some ⟨W1.heap.size, 0, none⟩) l0.length l0.length] 22 (0, 0))) ∧ Below w.heap.size w W)
    (fun _ _ _ => False)
    ?own (fun _ _ _ _ _ hs _ _ => hs)
    ?start
    (fun x => { tmps := #[Value.slice A0 l0.length c0, Value.int IntKind.i64 a1, undef, Value.pointer (some { block := w.heap.size, off := 0 }), Value.slice none 0 0, Value.bool false, Value.int IntKind.i64 t1, Value.int IntKind.i64 0, Value.pointer (some { block := W1.heap.size + 1, off := 0 }), .int .i64 (x.1 : Int), .int .i64 (l0[x.1]'x.2), Value.tuple #[Value.int IntKind.i64 t1, Value.int IntKind.i64 0], Value.slice A0 l0.length c0, Value.tuple #[Value.int IntKind.i64 t1, Value.int IntKind.i64 0], Value.int IntKind.i64 t1, Value.int IntKind.i64 0, Value.int IntKind.i64 0, Value.bool false, Value.bool false, Value.int IntKind.i64 a1, Value.bool false, Value.bool false, Value.bool false, Value.int IntKind.i64 a1, Value.int IntKind.i64 t1, Value.bool false, Value.bool false, Value.slice A0 l0.length c0, Value.int IntKind.i64 l0.length, Value.slice (some { block := W1.heap.size, off := 0 }) l0.length l0.length, Value.slice A0 l0.length c0, Value.func (Fn.func 115) #[] #[Value.pointer (some { block := W1.heap.size + 2, off := 0 })], .int .i64 (x.1 : Int), .int .i64 (l0[x.1]'x.2), undef, undef, undef, undef, undef, undef, undef, undef, undef, undef], defers := [] }) ?assign ?body ?done ?stop
  case own =>
    refine OwnFrom.and (Own.from (fun s A B row hs hg hr => ?_) _) (ownFrom_below (Nat.le_refl _) hbw.size)
    have hk : ∀ {g : Nat} {cs : Array Value} {t : TypeId}, A.heap[g]? = some (.cells cs t (0, 0)) → B.heap[g]? = some (.cells cs t (0, 0)) := fun {g cs t} h => (hg.block g (blk_lt h) (fun e => by
      obtain ⟨ob, ho, hc⟩ := hr g e.symm
      rw [h] at ho
      cases ho
      simp [Obj.isCells] at hc)).trans h
    exact ⟨hk hs.1, hk hs.2.1, hk hs.2.2⟩
  case start => exact ⟨⟨HO.out, by simpa using HR.out, HT.out⟩, hbw⟩
  case assign =>
    intro l x W K hK
    gi_wp2
    exact hK
  case body =>
    rintro l pre x W ⟨⟨hO, hR, hT⟩, hB⟩ hlen
    have hst := place_pre l0 a1 h0 hp pre
    generalize hg : pre.foldl (fun st i => placeStep l0 st i.1) (List.replicate l0.length 0, a1) = st at hst hO hR
    obtain ⟨xs, o⟩ := st
    obtain ⟨hxl, ho0, ho1⟩ := hst
    simp only at hO hR hxl ho0 ho1
    obtain ⟨i, hi⟩ := x
    have hn1 : 1 ≤ l0[i] := hp _ (List.getElem_mem hi)
    have hz : (l0[i] == 0) = false := beq_eq_false_iff_ne.mpr (by omega)
    have cO := c1_ ⟨hO⟩
    have cT := c1_ ⟨hT⟩
    have cR : W.cell? ⟨W1.heap.size, i, none⟩ = some (.int .i64 (xs[i]'(by omega))) := (blk_cell hR i).trans (by simp [show i < xs.length by omega])
    have fO := blk_frozen hO 0
    have fR := blk_frozen hR i
    have hol : o ≤ 9223372036854775807 := by omega
    generalize hnv : l0[i] = n at hn1 hz ⊢
    have hz' : ¬ (n = 0) := by omega
    have htm : Int.tmod o n = o % n := Int.tmod_eq_emod_of_nonneg ho0
    have hdv : IntKind.i64.wrap (Int.tdiv o n) = o / n := by
      rw [Int.tdiv_eq_ediv_of_nonneg ho0, IntKind.wrap_i64]
      have h1 := Int.ediv_nonneg ho0 (show 0 ≤ n by omega)
      have h2 := Int.ediv_le_self n ho0
      omega
    have HG := Aside0.mk hg
    have HNV := Aside0.mk hnv
    have HO := Aside0.mk hO
    have HR := Aside0.mk hR
    have HT := Aside0.mk hT
    clear hg hO hR hT hnv
    have hlt1 : w.heap.size < W1.heap.size := by have := hb1.size; have := hs0; omega
    have hne1 : ¬ (w.heap.size = W1.heap.size) := by omega
    have hne2 : ¬ (W1.heap.size = w.heap.size) := by omega
    gi_wp2
    refine startIn_ (m := 11) (S := fun w' => w'.cell? ⟨W1.heap.size + 1, 0, none⟩ = some (.slice (some ⟨W1.heap.size, 0, none⟩) l0.length l0.length) ∧ w'.cell? ⟨w.heap.size, 0, none⟩ = some (.int .i64 o)) (ds := [10]) #[false, false, false, false, false, false, false, false, false, false, false] (by kernel_rfl) rfl rfl ?nodefer ?noleave ⟨cT, cO⟩ (fun hHeld => ?_)
    case nodefer => exact nodef_of (by kernel_rfl)
    case noleave => exact fun ⟨_, _, h⟩ => h
    refine pk_ 1 (some 35) #[false, true, false, false, false, false, false, false, false, false, false] ?_
    refine pk_ 3 (some 37) #[false, true, false, true, false, false, false, false, false, false, false] ?_
    refine pk_ 6 (some 40) #[false, true, false, true, false, false, true, false, false, false, false] ?_
    refine take_ (i := 0) (N := some 34) (v := ?_) (a' := ?_) #[true, true, false, true, false, false, true, false, false, false, false] rfl rfl (by kernel_rfl) (fun _ _ _ h => h) (Or.inl ⟨by rfl, ?_⟩) hHeld ?_ ?_
    rotate_left
    · rintro w' ⟨s0, s1⟩
      go_simp
      with_reducible rfl
    rotate_left
    · simp only [Act.put, List.setIfInBounds_toArray, List.set_cons_zero, List.set_cons_succ, i64_w, i32_w]
      rfl
    refine take_ (i := 2) (N := some 36) (v := ?_) (a' := ?_) #[true, true, true, true, false, false, true, false, false, false, false] rfl rfl (by kernel_rfl) (fun _ _ _ h => h) (Or.inl ⟨by rfl, ?_⟩) hHeld ?_ ?_
    rotate_left
    · rintro w' ⟨s0, s1⟩
      go_simp
      with_reducible rfl
    rotate_left
    · simp only [Act.put, List.setIfInBounds_toArray, List.set_cons_zero, List.set_cons_succ, i64_w, i32_w]
      rfl
    refine take_ (i := 5) (N := some 39) (v := ?_) (a' := ?_) #[true, true, true, true, false, true, true, false, false, false, false] rfl rfl (by kernel_rfl) (fun _ _ _ h => h) (Or.inl ⟨by rfl, ?_⟩) hHeld ?_ ?_
    rotate_left
    · rintro w' ⟨s0, s1⟩
      go_simp
      with_reducible rfl
    rotate_left
    · simp only [Act.put, List.setIfInBounds_toArray, List.set_cons_zero, List.set_cons_succ, i64_w, i32_w]
      rfl
    refine pk_ 4 (some 38) #[true, true, true, true, true, true, true, false, false, false, false] ?_
    refine pk_ 7 (some 41) #[true, true, true, true, true, true, true, true, false, false, false] ?_
    refine pk_ 8 (some 42) #[true, true, true, true, true, true, true, true, true, false, false] ?_
    refine one_ (i := 9) (N := none) #[true, true, true, true, true, true, true, true, true, true, false] rfl rfl (by kernel_rfl) (by decide) (fun K hK => ?_)
    refine skip_ (w1 := ?_) (by rfl) rfl ?_ ?_
    rotate_left
    · go_simp
      rfl
    refine hK.out _ _ ⟨(cell_far (p := ⟨W1.heap.size, i, none⟩) (show W1.heap.size + 1 ≠ W1.heap.size by omega) _).trans cT, (cell_far (p := ⟨W1.heap.size, i, none⟩) hne1 _).trans cO⟩ (fun hHeld => ?_)
    clear hK K
    refine last_ (i := 10) (N := none) #[true, true, true, true, true, true, true, true, true, true, true] rfl rfl (by kernel_rfl) (by decide) (fun K hK => ?_)
    refine skip_ (w1 := ?_) (by rfl) rfl ?_ ?_
    rotate_left
    · go_simp
      rfl
    refine hK.out _ _ ?_
    clear hK K
    refine done_ (by kernel_rfl) ?_
    have hstep : placeStep l0 (xs, o) i = (xs.set i (o % n), o / n) := by
      unfold placeStep
      rw [show l0[i]?.getD 0 = n by rw [← HNV.out]; simp [hi]]
    have hb2 : Below w.heap.size W (((W.setCell ⟨W1.heap.size, i, none⟩ (.int .i64 (o % n))).setCell ⟨w.heap.size, 0, none⟩ (.int .i64 (o / n))).drew) := (((Below.refl _ W).setCell (p := ⟨W1.heap.size, i, none⟩) (Nat.le_of_lt hlt1) _).setCell (p := ⟨w.heap.size, 0, none⟩) (Nat.le_refl _) _).drew
    refine ⟨((KeepsOthers.setCell W _ _).trans (KeepsOthers.setCell _ _ _)).trans (KeepsOthers.drew _), ⟨hb2, ?_⟩, ⟨?_, ?_, ?_⟩, hB.trans hb2⟩
    · exact (cell_far (p := ⟨w.heap.size, 0, none⟩) (show W1.heap.size + 2 ≠ w.heap.size by omega) _).trans (cell_far (p := ⟨W1.heap.size, i, none⟩) (show W1.heap.size + 2 ≠ W1.heap.size by omega) _)
    · rw [List.foldl_append, HG.out]
      simp only [List.foldl_cons, List.foldl_nil, hstep]
      exact blk_put (cs := #[.int .i64 o]) (blk_far HO.out (p := ⟨W1.heap.size, i, none⟩) hne1 _) 0 _ rfl
    · rw [List.foldl_append, HG.out]
      simp only [List.foldl_cons, List.foldl_nil, hstep]
      exact blk_far (blk_put HR.out i _ (by simp [List.map_set])) (p := ⟨w.heap.size, 0, none⟩) hne2 _
    · exact blk_far (blk_far HT.out (p := ⟨W1.heap.size, i, none⟩) (show W1.heap.size + 1 ≠ W1.heap.size by omega) _) (p := ⟨w.heap.size, 0, none⟩) (show W1.heap.size + 1 ≠ w.heap.size by omega) _
  case done =>
    rintro D ys W hD rfl ⟨⟨hO, hR, hT⟩, hB⟩ hK
    rw [came_fold l0 a1 l0.length (Nat.le_refl _)] at hR
    have hst := place_pre l0 a1 h0 hp (cameB l0.length l0.length)
    rw [came_fold l0 a1 l0.length (Nat.le_refl _)] at hst
    have hxl := hst.1
    have cT := c1_ ⟨hT⟩
    have HR := Aside0.mk hR
    clear hst hO hR hT
    gi_wp2
    refine ⟨by simp, .inl ⟨_, _, rfl, run_takeDeferred hK, ?_⟩⟩
    have hDR : W1.heap.size ≠ D := fun e => by
      have := HR.out
      rw [e, hK] at this
      cases this
    have hR' := ((grownBy_putObj' W D (.deferred none)).block W1.heap.size (blk_lt HR.out) (fun e => hDR (Option.some.inj e))).trans HR.out
    refine ⟨.tuple #[.slice (some ⟨W1.heap.size, 0, none⟩) l0.length l0.length, .bool true], by simp [results, Tryd.results62, go_sem], _, rfl, ?_, hB.trans (belowK_b (w := w) (Nat.le_refl _) W D _ _ (by have := hbw.size; omega) hK rfl rfl)⟩
    refine Kd.R_of_own (enc := Value.int .i64) ?_ (fun _ _ => trivial)
    rw [hxl]
    refine ⟨by simp [encs, hxl], .inr ⟨W1.heap.size, l0.length, _, rfl, hb01.size, hR', Nat.le_refl _, by unfold maxLen; omega, by simp [hxl], ?_⟩⟩
    simp only [Nat.mul_one, encs]
    rw [List.take_of_length_le (by simp [hxl])]
  case stop =>
    rintro D c pre W _ _ h _
    exact h.elim
theorem shape_Place.calls (k : Nat) (A0 : Option Addr) (c0 : Nat) (l0 : List Int) (a1 : Int) (r1 : List Int) (r2 : Bool) (w : World) (hr0 : Kd.C (Kd.int .i64) w A0 l0.length l0) (hc0 : l0.length ≤ c0) (h : shape_Place.f k l0 a1 = some (r1, r2)) :
    Calls Tryd.prog 62 #[.slice A0 l0.length c0, .int .i64 a1] w fun e w' => ∃ v1_ : Value, e = .returned (.tuple #[v1_, .bool r2]) ∧ Kd.R (Kd.int .i64) 3 w' w.heap.size (fun _ => True) v1_ r1 ∧ Below w.heap.size w w' := by
  obtain ⟨⟨t1, t2⟩, ht, h⟩ := Option.bind_eq_some_iff.mp h
  by_cases hc : t2 = 0 ∧ 0 ≤ a1 ∧ a1 < t1
  · rw [if_pos hc] at h
    obtain ⟨rfl, h0, h1⟩ := hc
    split at h
    case isFalse => cases h
    rename_i hg
    simp only [Option.some.injEq, Prod.mk.injEq] at h
    obtain ⟨rfl, rfl⟩ := h
    exact place_yes k A0 c0 l0 a1 t1 w hr0 hc0 ht h0 h1 hg.2.1 hg.1 (fun n hn => of_decide_eq_true (List.all_eq_true.1 hg.2.2 n hn))
  · rw [if_neg hc] at h
    simp only [Option.some.injEq, Prod.mk.injEq] at h
    obtain ⟨rfl, rfl⟩ := h
    refine (place_no k A0 c0 l0 a1 t1 t2 w hr0 hc0 ht hc).mono ?_
    rintro e w' ⟨rfl, hb⟩
    exact ⟨_, rfl, Kd.R_nil _ _ _ _ _, hb⟩
end Place_
/-! ### shape_May: function 95 -/
def shape_May.f (k : Nat) (l0 : List Int) : Option (Bool) := (shape_Size.f k l0).bind fun bt101 => (some (bt101.2 == 0))
set_option maxHeartbeats 8000000 in
set_option maxRecDepth 100000 in
theorem shape_May.calls (k : Nat) (A0 : Option Addr) (c0 : Nat) (l0 : List Int) (r : Bool) (w : World) (hr0 : Kd.C (Kd.int .i64) w A0 l0.length l0) (hc0 : l0.length ≤ c0) (h : shape_May.f k l0 = some r) :
    Calls Tryd.prog 95 #[.slice A0 l0.length c0] w fun e w' => e = .returned (.bool r) ∧ Below w.heap.size w w' := by
  have HR0 := Aside0.mk hr0
  have HC0 := Aside0.mk hc0
  clear hr0 hc0
  have HB := Aside0.mk (Below.refl w.heap.size w)
  have H : ((shape_Size.f k l0).bind fun bt101 => (some (bt101.2 == 0))) = some r := h
  clear h
  obtain ⟨⟨t101, t102⟩, A2, H⟩ := bnd_ H
  try dsimp -simprocs only at H
  obtain rfl := Option.some.inj H
  go_enter Tryd.func95, Tryd.ntmps95
  go_wp2_with (first | ((with_reducible refine gate_callee (f := 47) rfl ?_); refine goesL_ (some 7) rfl rfl Tryd.func47 (by kernel_rfl) rfl #[.slice A0 l0.length c0] rfl Ga_ ?_; (with_reducible refine (shape_Size.calls k _ _ l0 t101 t102 _ ?side1 ?side2 A2.out).mono ?_); (case side1 => repeat (first | exact HR0.out | (with_reducible refine Kd.C_alloc ?_ _) | (with_reducible refine Kd.C_drewN ?_ _) | (with_reducible refine Kd.C_drew ?_))); (case side2 => exact HC0.out); rintro e w3 ⟨rfl, hb⟩; refine ⟨_, rfl, ?_⟩; replace HB := Bs_ hb; (try clear hb); (try clear hb2); (try clear hk); (try clear hi)))
  go_ret
  exact ⟨Re_, Bl_⟩
/-! ### shape_Offset: function 63 -/
mutual
def shape_Offset.j0 : Nat → List Int → List Int → Bool → Option (Int × Bool)
  | 0, _, _, _ => none
  | k + 1, x0, x1, x19 => if x19 = true then (some (0, false)) else (shape_Offset.l0 k x1 0 true x0 (x0.length : Int) 0)
def shape_Offset.l0 : Nat → List Int → Int → Bool → List Int → Int → Int → Option (Int × Bool)
  | 0, _, _, _, _, _, _ => none
  | k + 1, x1, x6, x7, x20, x21, x22 => if x22 < x21 then (if 0 ≤ x22 then (if x22 < (x20.length : Int) then (if x22 < (x1.length : Int) then (if (rd x1 x22) < 0 then (some (0, false)) else (if (rd x1 x22) ≥ (rd x20 x22) then (some (0, false)) else (shape_Offset.l0 k x1 (wrap64 ((wrap64 (x6 * (rd x20 x22))) + (rd x1 x22))) x7 x20 x21 (wrap64 (x22 + 1))))) else (none)) else (none)) else (none)) else (if x7 = true then (some (x6, true)) else (some (0, false)))
end
def shape_Offset.f (k : Nat) (l0 : List Int) (l1 : List Int) : Option (Int × Bool) := (shape_May.f k l0).bind fun t101 => (if t101 = true then (shape_Offset.j0 k l0 l1 ((l1.length : Int) != (l0.length : Int))) else (shape_Offset.j0 k l0 l1 true))
set_option maxHeartbeats 8000000 in
set_option maxRecDepth 100000 in
theorem shape_Offset.calls (k : Nat) (A0 : Option Addr) (c0 : Nat) (l0 : List Int) (A1 : Option Addr) (c1 : Nat) (l1 : List Int) (r1 : Int) (r2 : Bool) (w : World) (hr0 : Kd.C (Kd.int .i64) w A0 l0.length l0) (hc0 : l0.length ≤ c0) (hr1 : Kd.C (Kd.int .i64) w A1 l1.length l1) (hc1 : l1.length ≤ c1) (h : shape_Offset.f k l0 l1 = some (r1, r2)) :
    Calls Tryd.prog 63 #[.slice A0 l0.length c0, .slice A1 l1.length c1] w fun e w' => e = .returned (.tuple #[.int .i64 r1, .bool r2]) ∧ Below w.heap.size w w' := by
  have HR0 := Aside0.mk hr0
  have HC0 := Aside0.mk hc0
  clear hr0 hc0
  have HR1 := Aside0.mk hr1
  have HC1 := Aside0.mk hc1
  clear hr1 hc1
  have HB := Aside0.mk (Below.refl w.heap.size w)
  have H : ((shape_May.f k l0).bind fun t101 => (if t101 = true then (shape_Offset.j0 k l0 l1 ((l1.length : Int) != (l0.length : Int))) else (shape_Offset.j0 k l0 l1 true))) = some (r1, r2) := h
  clear h
  have HC3 := Aside0.mk H
  clear H
  go_enter Tryd.func63, Tryd.ntmps63
  go_wp2
  go_step3
  go_upto_region 1 with (fail)
  go_cut [19] (fun v19 wc => ∃ (kq : Nat) (x19_2 : Bool), v19 = .bool x19_2 ∧ Aside0 (shape_Offset.j0 kq l0 l1 x19_2 = some (r1, r2)) ∧ Aside0 (kq ≤ k) ∧ Aside0 (Below w.heap.size w wc))
  case first =>
    have H := HC3.out
    clear HC3
    obtain ⟨t101, A4, H⟩ := bnd_ H
    try dsimp -simprocs only at H
    by_cases c5 : t101 = true
    · subst c5
      have H1 : (shape_Offset.j0 k l0 l1 ((l1.length : Int) != (l0.length : Int))) = some (r1, r2) := by rw [if_pos rfl] at H; exact H
      clear H
      have H := H1
      clear H1
      have H' := Aside0.mk H
      clear H
      go_wp2_with (first | ((with_reducible refine gate_callee (f := 95) rfl ?_); refine goesL_ (some 11) rfl rfl Tryd.func95 (by kernel_rfl) rfl #[.slice A0 l0.length c0] rfl Ga_ ?_; (with_reducible refine (shape_May.calls k _ _ l0 true _ ?side1 ?side2 A4.out).mono ?_); (case side1 => exact Pc_ (Kd.C_below HR0.out HB.out)); (case side2 => exact HC0.out); rintro e w6 ⟨rfl, hb⟩; refine ⟨_, rfl, ?_⟩; replace HB := Bs_ hb; (try clear hb); (try clear hb2); (try clear hk); (try clear hi)))
      go_meet
      case rel => exact ⟨_, (((l1.length : Int) != (l0.length : Int))), Rf_, H', ⟨by first | omega | exact Nat.le_refl _⟩, ⟨Bl_⟩⟩
    · replace c5 := Bool.eq_false_iff.mpr c5
      subst c5
      have H1 : (shape_Offset.j0 k l0 l1 true) = some (r1, r2) := by rw [if_neg (show ¬ (false = true) by decide)] at H; exact H
      clear H
      have H := H1
      clear H1
      have H' := Aside0.mk H
      clear H
      go_wp2_with (first | ((with_reducible refine gate_callee (f := 95) rfl ?_); refine goesL_ (some 11) rfl rfl Tryd.func95 (by kernel_rfl) rfl #[.slice A0 l0.length c0] rfl Ga_ ?_; (with_reducible refine (shape_May.calls k _ _ l0 false _ ?side1 ?side2 A4.out).mono ?_); (case side1 => exact Pc_ (Kd.C_below HR0.out HB.out)); (case side2 => exact HC0.out); rintro e w7 ⟨rfl, hb⟩; refine ⟨_, rfl, ?_⟩; replace HB := Bs_ hb; (try clear hb); (try clear hb2); (try clear hk); (try clear hi)))
      go_meet
      case rel => exact ⟨_, (true), Rf_, H', ⟨by first | omega | exact Nat.le_refl _⟩, ⟨Bl_⟩⟩
  case rest =>
    clear HC3
    try clear c1
    try clear p2
    try clear c5
    try clear c6
    obtain ⟨kq, x19_2, rfl, HA, HJ2, HB⟩ := hcut
    cases kq with
    | zero => exact absurd HA.out (by simp [shape_Offset.j0])
    | succ kj2 =>
      have H := HA.out
      clear HA
      simp only [shape_Offset.j0] at H
      by_cases c8 : x19_2 = true
      · subst c8
        have H1 : (some (0, false)) = some (r1, r2) := by rw [if_pos rfl] at H; exact H
        clear H
        have H := H1
        clear H1
        simp only [Option.some.injEq, Prod.mk.injEq] at H
        obtain ⟨rfl, rfl⟩ := H
        go_wp2
        (try rw [Exit.noGoto_ret])
        go_ret2
        exact ⟨Re_, Bl_⟩
      · replace c8 := Bool.eq_false_iff.mpr c8
        subst c8
        have H1 : (shape_Offset.l0 kj2 l1 0 true l0 (l0.length : Int) 0) = some (r1, r2) := by rw [if_neg (show ¬ (false = true) by decide)] at H; exact H
        clear H
        have H := H1
        clear H1
        have H' := Aside0.mk H
        clear H
        go_wp2
        (try (go_step3; go_wp2))
        go_loopg [6, 7, 22] kj2 (fun kq v6 v7 v22 w' => ∃ (x6_2 : Int) (x7_2 : Bool) (x22_2 : Int), v6 = .int .i64 x6_2 ∧ v7 = .bool x7_2 ∧ v22 = .int .i64 x22_2 ∧ Aside0 (shape_Offset.l0 kq l1 x6_2 x7_2 l0 (l0.length : Int) x22_2 = some (r1, r2)) ∧ Aside0 (kq ≤ kj2) ∧ Aside0 (Below w.heap.size w w'))
        case atStart => exact ⟨(0), (true), (0), Rf_, Rf_, Rf_, H', ⟨Nat.le_refl _⟩, ⟨Bl_⟩⟩
        case round =>
          clear H'
          try clear c1
          try clear p2
          try clear c5
          try clear c6
          try clear c8
          try clear p2
          obtain ⟨x6_2, x7_2, x22_2, rfl, rfl, rfl, HA, HK2, HB⟩ := hrel
          cases gk with
          | zero => exact absurd HA.out (by simp [shape_Offset.l0])
          | succ k2 =>
            have H := HA.out
            clear HA
            simp only [shape_Offset.l0] at H
            by_cases c9 : x22_2 < (l0.length : Int)
            · rw [if_pos c9] at H
              have c9b0 : decide (x22_2 < (l0.length : Int)) = true := decide_eq_true c9
              clear c9
              by_cases c10 : 0 ≤ x22_2
              · rw [if_pos c10] at H
                have c10b0 : decide (0 ≤ x22_2) = true := decide_eq_true c10
                clear c10
                by_cases c11 : x22_2 < (l0.length : Int)
                · rw [if_pos c11] at H
                  have c11b0 : decide (x22_2 < (l0.length : Int)) = true := decide_eq_true c11
                  clear c11
                  by_cases c12 : x22_2 < (l1.length : Int)
                  · rw [if_pos c12] at H
                    have c12b0 : decide (x22_2 < (l1.length : Int)) = true := decide_eq_true c12
                    clear c12
                    by_cases c13 : (rd l1 x22_2) < 0
                    · rw [if_pos c13] at H
                      have c13b0 : decide ((rd l1 x22_2) < 0) = true := decide_eq_true c13
                      clear c13
                      simp only [Option.some.injEq, Prod.mk.injEq] at H
                      obtain ⟨rfl, rfl⟩ := H
                      have p102 : 0 ≤ (x22_2 : Int) := of_decide_eq_true As_
                      have q102 : x22_2 < (l0.length : Int) := of_decide_eq_true As_
                      obtain ⟨ad102, e102, hx102_0⟩ := Kd.at_int HR0.out x22_2 p102 q102
                      cases e102
                      replace hx102_0 := (HB.out.cell (World.block_lt_of_cell? w _ hx102_0)).trans hx102_0
                      replace p102 := eq_true p102
                      replace q102 := eq_true q102
                      have p103 : 0 ≤ (x22_2 : Int) := of_decide_eq_true As_
                      have q103 : x22_2 < (l1.length : Int) := of_decide_eq_true As_
                      obtain ⟨ad103, e103, hx103_0⟩ := Kd.at_int HR1.out x22_2 p103 q103
                      cases e103
                      replace hx103_0 := (HB.out.cell (World.block_lt_of_cell? w _ hx103_0)).trans hx103_0
                      replace p103 := eq_true p103
                      replace q103 := eq_true q103
                      go_wp2
                      (try rw [Exit.noGoto_ret])
                      go_ret2
                      exact ⟨Re_, Bl_⟩
                    · rw [if_neg c13] at H
                      have c13b0 : decide ((rd l1 x22_2) < 0) = false := decide_eq_false c13
                      clear c13
                      by_cases c14 : (rd l1 x22_2) ≥ (rd l0 x22_2)
                      · rw [if_pos c14] at H
                        have c14b0 : decide ((rd l0 x22_2) ≤ (rd l1 x22_2)) = true := decide_eq_true c14
                        clear c14
                        simp only [Option.some.injEq, Prod.mk.injEq] at H
                        obtain ⟨rfl, rfl⟩ := H
                        have p102 : 0 ≤ (x22_2 : Int) := of_decide_eq_true As_
                        have q102 : x22_2 < (l0.length : Int) := of_decide_eq_true As_
                        obtain ⟨ad102, e102, hx102_0⟩ := Kd.at_int HR0.out x22_2 p102 q102
                        cases e102
                        replace hx102_0 := (HB.out.cell (World.block_lt_of_cell? w _ hx102_0)).trans hx102_0
                        replace p102 := eq_true p102
                        replace q102 := eq_true q102
                        have p103 : 0 ≤ (x22_2 : Int) := of_decide_eq_true As_
                        have q103 : x22_2 < (l1.length : Int) := of_decide_eq_true As_
                        obtain ⟨ad103, e103, hx103_0⟩ := Kd.at_int HR1.out x22_2 p103 q103
                        cases e103
                        replace hx103_0 := (HB.out.cell (World.block_lt_of_cell? w _ hx103_0)).trans hx103_0
                        replace p103 := eq_true p103
                        replace q103 := eq_true q103
                        have p104 : 0 ≤ (x22_2 : Int) := of_decide_eq_true As_
                        have q104 : x22_2 < (l1.length : Int) := of_decide_eq_true As_
                        obtain ⟨ad104, e104, hx104_0⟩ := Kd.at_int HR1.out x22_2 p104 q104
                        obtain rfl : ad103 = ad104 := (by injection e104)
                        replace hx104_0 := (HB.out.cell (World.block_lt_of_cell? w _ hx104_0)).trans hx104_0
                        replace p104 := eq_true p104
                        replace q104 := eq_true q104
                        go_wp2
                        (try rw [Exit.noGoto_ret])
                        go_ret2
                        exact ⟨Re_, Bl_⟩
                      · rw [if_neg c14] at H
                        have c14b0 : decide ((rd l0 x22_2) ≤ (rd l1 x22_2)) = false := decide_eq_false c14
                        clear c14
                        have H' := Aside0.mk H
                        clear H
                        have p102 : 0 ≤ (x22_2 : Int) := of_decide_eq_true As_
                        have q102 : x22_2 < (l0.length : Int) := of_decide_eq_true As_
                        obtain ⟨ad102, e102, hx102_0⟩ := Kd.at_int HR0.out x22_2 p102 q102
                        cases e102
                        replace hx102_0 := (HB.out.cell (World.block_lt_of_cell? w _ hx102_0)).trans hx102_0
                        replace p102 := eq_true p102
                        replace q102 := eq_true q102
                        have p103 : 0 ≤ (x22_2 : Int) := of_decide_eq_true As_
                        have q103 : x22_2 < (l1.length : Int) := of_decide_eq_true As_
                        obtain ⟨ad103, e103, hx103_0⟩ := Kd.at_int HR1.out x22_2 p103 q103
                        cases e103
                        replace hx103_0 := (HB.out.cell (World.block_lt_of_cell? w _ hx103_0)).trans hx103_0
                        replace p103 := eq_true p103
                        replace q103 := eq_true q103
                        have p104 : 0 ≤ (x22_2 : Int) := of_decide_eq_true As_
                        have q104 : x22_2 < (l1.length : Int) := of_decide_eq_true As_
                        obtain ⟨ad104, e104, hx104_0⟩ := Kd.at_int HR1.out x22_2 p104 q104
                        obtain rfl : ad103 = ad104 := (by injection e104)
                        replace hx104_0 := (HB.out.cell (World.block_lt_of_cell? w _ hx104_0)).trans hx104_0
                        replace p104 := eq_true p104
                        replace q104 := eq_true q104
                        have p105 : 0 ≤ (x22_2 : Int) := of_decide_eq_true As_
                        have q105 : x22_2 < (l1.length : Int) := of_decide_eq_true As_
                        obtain ⟨ad105, e105, hx105_0⟩ := Kd.at_int HR1.out x22_2 p105 q105
                        obtain rfl : ad103 = ad105 := (by injection e105)
                        replace hx105_0 := (HB.out.cell (World.block_lt_of_cell? w _ hx105_0)).trans hx105_0
                        replace p105 := eq_true p105
                        replace q105 := eq_true q105
                        go_wp2
                        go_roundg k2
                        case measure => have := HJ2.out; have := HK2.out; omega
                        case rel => exact ⟨(wrap64 ((wrap64 (x6_2 * (rd l0 x22_2))) + (rd l1 x22_2))), (x7_2), (wrap64 (x22_2 + 1)), Rf_, Rf_, Rf_, H', ⟨by have := HJ2.out; have := HK2.out; omega⟩, ⟨Bl_⟩⟩
                  · rw [if_neg c12] at H
                    exact absurd H (by simp)
                · rw [if_neg c11] at H
                  exact absurd H (by simp)
              · rw [if_neg c10] at H
                exact absurd H (by simp)
            · rw [if_neg c9] at H
              have c9b0 : decide (x22_2 < (l0.length : Int)) = false := decide_eq_false c9
              clear c9
              by_cases c15 : x7_2 = true
              · subst c15
                have H1 : (some (x6_2, true)) = some (r1, r2) := by rw [if_pos rfl] at H; exact H
                clear H
                have H := H1
                clear H1
                simp only [Option.some.injEq, Prod.mk.injEq] at H
                obtain ⟨rfl, rfl⟩ := H
                go_wp2
                (try rw [Exit.noGoto_ret])
                go_ret2
                exact ⟨Re_, Bl_⟩
              · replace c15 := Bool.eq_false_iff.mpr c15
                subst c15
                have H1 : (some (0, false)) = some (r1, r2) := by rw [if_neg (show ¬ (false = true) by decide)] at H; exact H
                clear H
                have H := H1
                clear H1
                simp only [Option.some.injEq, Prod.mk.injEq] at H
                obtain ⟨rfl, rfl⟩ := H
                go_wp2
                (try rw [Exit.noGoto_ret])
                go_ret2
                exact ⟨Re_, Bl_⟩
/-! ### mould_Flip: function 27 -/
def mould_Flip.l0 : Nat → Int → Int → List Int → List ByteArray → List Int → List ByteArray → Option (List Int × List ByteArray × Int)
  | 0, _, _, _, _, _, _ => none
  | k + 1, x24, x25, x102000, x102001, x111000, x111001 => if x25 < x24 then ((shape_Place.f k x111000 x25).bind fun bt112 => ((slices_Reverse_int_int.f k bt112.1).bind fun t116 => ((shape_Offset.f k x102000 t116).bind fun bt117 => (if 0 ≤ bt117.1 then (if bt117.1 < (x102001.length : Int) then (if x111001.length < 8796093022208 then (mould_Flip.l0 k x24 (wrap64 (x25 + 1)) x102000 x102001 x111000 (x111001 ++ [rdOf ByteArray.empty x102001 bt117.1])) else (none)) else (none)) else (none))))) else (some (x111000, x111001, 0))
def mould_Flip.f (k : Nat) (l0_0 : List Int) (l0_1 : List ByteArray) : Option (List Int × List ByteArray × Int) := (mould_fine.f k (([(⟨l0_0, l0_1⟩ : S25)] : List (S25)))).bind fun t106 => (if t106 = true then ((slices_Clone_int_int.f l0_0).bind fun t107 => ((slices_Reverse_int_int.f k t107).bind fun t111 => (mould_Flip.l0 k (l0_1.length : Int) 0 l0_0 l0_1 t111 ([] : List ByteArray)))) else (some (([] : List Int), ([] : List ByteArray), 1)))
def mould_Flip.T11 : Bool × List (List Nat × List Nat) := (true, [([], []), ([0], [0]), ([], []), ([2], [2]), ([], []), ([3, 4], [3, 4]), ([5], [5]), ([6], [6]), ([1, 7], [1, 7]), ([0, 1, 2, 3, 4, 5, 6, 7, 8], []), ([9, 8, 8, 0, 1, 2, 3, 4, 5, 6, 7, 8], [8, 9])])
def mould_Flip.B11 : List Nat := [0, 1, 0, 4, 0, 28, 60, 124, 255, 511, 1023]
theorem mould_Flip.tab11 : rtab .any (opsOf Tryd.f27 11) = mould_Flip.T11 := by kernel_rfl
theorem mould_Flip.bits11 : waitsOk mould_Flip.T11.2 mould_Flip.B11 = true := by kernel_rfl
set_option maxHeartbeats 8000000 in
set_option maxRecDepth 100000 in
theorem mould_Flip.calls (k : Nat) (P0_0_ : Nat → Prop) (A0_0 : Option Addr) (c0_0 : Nat) (l0_0 : List Int) (P0_1_ : Nat → Prop) (A0_1 : Option Addr) (c0_1 : Nat) (l0_1 : List ByteArray) (r1 : List Int) (r2 : List ByteArray) (r3 : Int) (w : World) (hs0_0 : Kd.V (Kd.int .i64) 3 w w.heap.size (fun k_ => P0_0_ k_) (.slice A0_0 l0_0.length c0_0) l0_0) (hs0_1 : Kd.V Kd.string 9 w w.heap.size (fun k_ => P0_1_ k_) (.slice A0_1 l0_1.length c0_1) l0_1) (h : mould_Flip.f k l0_0 l0_1 = some (r1, r2, r3)) :
    Calls Tryd.prog 27 #[.agg #[.slice A0_0 l0_0.length c0_0, .slice A0_1 l0_1.length c0_1]] w fun e w' => ∃ v0_ v1_ : Value, e = .returned (.tuple #[.agg #[v0_, v1_], .int .i64 r3]) ∧ Kd.R (Kd.int .i64) 3 w' w.heap.size (fun k_ => (w.heap.size ≤ k_)) v0_ r1 ∧ Kd.R Kd.string 9 w' w.heap.size (fun k_ => (w.heap.size ≤ k_)) v1_ r2 ∧ Below w.heap.size w w' := by
  have hu25 := Tryd.underlying25
  have HO0_0 := Aside0.mk (show Kd.V (Kd.int .i64) 3 w w.heap.size (fun k_ => ((P0_0_ k_ ∨ P0_1_ k_) ∨ w.heap.size ≤ k_)) (.slice A0_0 l0_0.length c0_0) l0_0 from Kd.V_mono hs0_0 (fun k_ hk => .inl (.inl hk)))
  have HO0_1 := Aside0.mk (show Kd.V Kd.string 9 w w.heap.size (fun k_ => ((P0_0_ k_ ∨ P0_1_ k_) ∨ w.heap.size ≤ k_)) (.slice A0_1 l0_1.length c0_1) l0_1 from Kd.V_mono hs0_1 (fun k_ hk => .inl (.inr hk)))
  have HB := Aside0.mk (Below.refl w.heap.size w)
  have H : ((mould_fine.f k (([(⟨l0_0, l0_1⟩ : S25)] : List (S25)))).bind fun t106 => (if t106 = true then ((slices_Clone_int_int.f l0_0).bind fun t107 => ((slices_Reverse_int_int.f k t107).bind fun t111 => (mould_Flip.l0 k (l0_1.length : Int) 0 l0_0 l0_1 t111 ([] : List ByteArray)))) else (some (([] : List Int), ([] : List ByteArray), 1)))) = some (r1, r2, r3) := h
  clear h
  obtain ⟨y103, hy103⟩ : ∃ y_ : List (S25), y_ = (([(⟨l0_0, l0_1⟩ : S25)] : List (S25))) := ⟨_, rfl⟩
  replace H : ((mould_fine.f k y103).bind fun t106 => (if t106 = true then ((slices_Clone_int_int.f l0_0).bind fun t107 => ((slices_Reverse_int_int.f k t107).bind fun t111 => (mould_Flip.l0 k (l0_1.length : Int) 0 l0_0 l0_1 t111 ([] : List ByteArray)))) else (some (([] : List Int), ([] : List ByteArray), 1)))) = some (r1, r2, r3) := by first | (rw [hy103]; with_reducible exact H) | (have H2_ := (Option.bind_some _ _).symm.trans H; rw [hy103]; with_reducible exact H2_) | (have H2_ := (Option.bind_some _ _).symm.trans H; with_reducible exact H2_) | with_reducible exact H | (rw [hy103]; exact H) | exact H
  have Ny103 := Aside0.mk hy103
  clear hy103
  obtain ⟨t106, A2, H⟩ := bnd_ H
  try dsimp -simprocs only at H
  by_cases c3 : t106 = true
  · subst c3
    have H1 : ((slices_Clone_int_int.f l0_0).bind fun t107 => ((slices_Reverse_int_int.f k t107).bind fun t111 => (mould_Flip.l0 k (l0_1.length : Int) 0 l0_0 l0_1 t111 ([] : List ByteArray)))) = some (r1, r2, r3) := by rw [if_pos rfl] at H; exact H
    clear H
    have H := H1
    clear H1
    obtain ⟨t107, A4, H⟩ := bnd_ H
    try dsimp -simprocs only at H
    obtain ⟨t111, A5, H⟩ := bnd_ H
    try dsimp -simprocs only at H
    have H' := Aside0.mk H
    clear H
    go_enter Tryd.func27, Tryd.ntmps27
    go_wp2_with (first | ((with_reducible refine gate_dst (N := 1) rfl ?_); refine bx_ 1 #[.slice A0_0 l0_0.length c0_0, .slice A0_1 l0_1.length c0_1] 25 ?_; intro gb101 hg w6 hbox hb; replace HO0_0 := Aside0.mk (Kd.V_below (Kd.V_elderB (Pv_ HO0_0.out) gb101 (Nat.le_of_eq hg.symm)) hb); replace HO0_1 := Aside0.mk (Kd.V_below (Kd.V_elderB (Pv_ HO0_1.out) gb101 (Nat.le_of_eq hg.symm)) hb); have BK101 := Aside0.mk (hbox); have GW101 := (Bg_ hg : Aside0 (w.heap.size ≤ gb101)); have GE101 := (Bg_ hg : Aside0 (w.heap.size ≤ gb101)); replace HB := Bs_ hb; clear hb hbox hg) | ((with_reducible refine gate_dst (N := 2) rfl ?_); refine bx_ 2 #[.slice none 0 0, .slice none 0 0] 25 ?_; intro gb102 hg w7 hbox hb; replace HO0_0 := Aside0.mk (Kd.V_below (Kd.V_elderB (Pv_ HO0_0.out) gb102 (Nat.le_of_eq hg.symm)) hb); replace HO0_1 := Aside0.mk (Kd.V_below (Kd.V_elderB (Pv_ HO0_1.out) gb102 (Nat.le_of_eq hg.symm)) hb); have BK102 := Aside0.mk (hbox); have GW102 := (Bg_ hg : Aside0 (w.heap.size ≤ gb102)); have GE102 := (Bg_ hg : Aside0 (w.heap.size ≤ gb102)); replace HB := Bs_ hb; have NB101_102 := nl_ hg BK101; have NB102_101 := ng_ hg BK101; replace BK101 := kb_ BK101 hb; clear hb hbox hg; have hnb8 := NB101_102.out; have hnc8 := NB102_101.out; obtain ⟨hcz9_0, hcz9_1⟩ := c2_ BK101; obtain ⟨hfz9_0, hfz9_1⟩ := f2_ BK101) | ((with_reducible refine gate_dst (N := 11) rfl ?_); refine Kd.N_lit k25 _ 25 ?hg (N' := 11) ?hd (xs := ([(⟨l0_0, l0_1⟩ : S25)] : List (S25))) (inner := [.slice A0_0 l0_0.length c0_0, .slice A0_1 l0_1.length c0_1]) (ok := (fun k_ => ((P0_0_ k_ ∨ P0_1_ k_) ∨ w.heap.size ≤ k_) ∧ k_ ≠ gb101 ∧ k_ ≠ gb102)) (okp := (fun k_ => ((P0_0_ k_ ∨ P0_1_ k_) ∨ w.heap.size ≤ k_) ∧ k_ ≠ gb101 ∧ k_ ≠ gb102)) ?hr ?hp (fun _ hk => hk) ((show ∀ k_, w7.heap.size ≤ k_ → (fun k_ => ((P0_0_ k_ ∨ P0_1_ k_) ∨ w.heap.size ≤ k_) ∧ k_ ≠ gb101 ∧ k_ ≠ gb102) k_ from fun k_ hk => ⟨(.inr (Nat.le_trans Bz_ hk)), Kd.freshB (g := gb101) (o := .cells #[.slice A0_0 l0_0.length c0_0, .slice A0_1 l0_1.length c0_1] 25 (0, 0)) (Bk_ BK101.out) k_ hk, Kd.freshB (g := gb102) (o := .cells #[.slice none 0 0, .slice none 0 0] 25 (0, 0)) (Bk_ BK102.out) k_ hk⟩) _ (Nat.le_refl _)) (Below.refl _ _) (Nat.le_refl _) (by simp) ?_; (case hd => rfl); (case hg => rfl); (case hr => first | (go_simp; done) | (go_simp; rfl)); (case hp => exact (Reps.c2 (show Kd.FK k25 _ _ (⟨l0_0, l0_1⟩ : S25) [.slice A0_0 l0_0.length c0_0, .slice A0_1 l0_1.length c0_1] from (k25_mkF _ _ (⟨l0_0, l0_1⟩ : S25) (Kd.V_reads' (Kd.V_mono (ok' := (fun k_ => ((P0_0_ k_ ∨ P0_1_ k_) ∨ w.heap.size ≤ k_) ∧ k_ ≠ gb101 ∧ k_ ≠ gb102)) (HO0_0.out) (fun k_ hk => ⟨hk.1.1, ⟨hk.1.2, hk.2⟩⟩))).2.1 (Kd.V_F (Kd.V_mono (ok' := (fun k_ => ((P0_0_ k_ ∨ P0_1_ k_) ∨ w.heap.size ≤ k_) ∧ k_ ≠ gb101 ∧ k_ ≠ gb102)) (HO0_0.out) (fun k_ hk => ⟨hk.1.1, ⟨hk.1.2, hk.2⟩⟩))) (Kd.V_reads' (Kd.V_mono (ok' := (fun k_ => ((P0_0_ k_ ∨ P0_1_ k_) ∨ w.heap.size ≤ k_) ∧ k_ ≠ gb101 ∧ k_ ≠ gb102)) (HO0_1.out) (fun k_ hk => ⟨hk.1.1, ⟨hk.1.2, hk.2⟩⟩))).2.1 (Kd.V_F (Kd.V_mono (ok' := (fun k_ => ((P0_0_ k_ ∨ P0_1_ k_) ∨ w.heap.size ≤ k_) ∧ k_ ≠ gb101 ∧ k_ ≠ gb102)) (HO0_1.out) (fun k_ hk => ⟨hk.1.1, ⟨hk.1.2, hk.2⟩⟩))))) (Reps.none _ _))); intro v104 w10 ho11 hb hg_ hnew_; clear hg_ hnew_; (first | rw [← Ny103.out] at ho11 | (simp only [Int.reduceToNat] at ho11; rw [← Ny103.out] at ho11)); replace HO0_0 := Aside0.mk (Kd.V_elder' (Pv_ HO0_0.out) (Kd.N_base ho11) hb); replace HO0_1 := Aside0.mk (Kd.V_elder' (Pv_ HO0_1.out) (Kd.N_base ho11) hb); have HO105 := Aside0.mk (Kd.N_lower ho11 Bz_); replace BK101 := kb_ BK101 hb; replace BK102 := kb_ BK102 hb; replace HB := Bs_ hb; clear hb ho11; obtain ⟨Ao12, co12, eo12⟩ := Kd.N_slice HO105.out; subst eo12) | ((with_reducible refine gate_callee (f := 50) rfl ?_); refine goesL_ (some 12) rfl rfl Tryd.func50 (by kernel_rfl) rfl #[.slice Ao12 y103.length co12] rfl Ga_ ?_; (with_reducible refine (mould_fine.calls k _ _ y103 true _ ?side1 ?side2 A2.out).mono ?_); (case side1 => exact Pc_ ((Kd.N_reads' HO105.out).2.2)); (case side2 => exact (Kd.N_reads' HO105.out).2.1); rintro e w13 ⟨rfl, hb⟩; refine ⟨_, rfl, ?_⟩; replace HO0_0 := Aside0.mk (Kd.V_below (Pv_ HO0_0.out) hb); replace HO0_1 := Aside0.mk (Kd.V_below (Pv_ HO0_1.out) hb); replace HO105 := Aside0.mk (Kd.N_below (by (with_reducible repeat (first | apply Kd.N_alloc | apply Kd.N_drewN | apply Kd.N_drew)); exact HO105.out) hb); replace BK101 := kb_ BK101 hb; replace BK102 := kb_ BK102 hb; replace HB := Bs_ hb; (try clear hb); (try clear hb2); (try clear hk); (try clear hi); obtain ⟨hcz14_0, hcz14_1⟩ := c2_ BK101; obtain ⟨hfz14_0, hfz14_1⟩ := f2_ BK101) | ((with_reducible refine gate_callee (f := 55) rfl ?_); refine goesL_ (some 17) rfl rfl Tryd.func55 (by kernel_rfl) rfl #[.slice A0_0 l0_0.length c0_0] rfl Ga_ ?_; (with_reducible refine (slices_Clone_int_int.calls _ _ l0_0 t107 _ ?side1 ?side2 A4.out).mono ?_); (case side1 => exact Pc_ ((Kd.V_reads' HO0_0.out).2.2)); (case side2 => exact (Kd.V_reads' HO0_0.out).2.1); rintro e w15 ⟨v108, rfl, ho0, hb⟩; refine ⟨_, rfl, ?_⟩; replace HO0_0 := Aside0.mk (Kd.V_elder' (Pv_ HO0_0.out) (Kd.R_base ho0) hb); replace HO0_1 := Aside0.mk (Kd.V_elder' (Pv_ HO0_1.out) (Kd.R_base ho0) hb); replace HO105 := Aside0.mk (Kd.N_elder' (by (with_reducible repeat (first | apply Kd.N_alloc | apply Kd.N_drewN | apply Kd.N_drew)); exact HO105.out) (Kd.R_base ho0) hb); have HO109 := Aside0.mk (Kd.R_lower (Kd.R_newM (M := fun k_ => (w.heap.size ≤ k_)) ho0 Bz_ (fun k_ h_ => h_)) Bz_); replace BK101 := kb_ BK101 hb; replace BK102 := kb_ BK102 hb; replace HB := Bs_ hb; (try clear hb); (try clear hb2); (try clear hk); (try clear hi); (try clear ho0); obtain ⟨Ao16, co16, eo16⟩ := Kd.R_slice HO109.out; subst eo16) | ((with_reducible refine gate_dst (N := 4) rfl ?_); refine bx_ 4 #[.slice none 0 0, .slice none 0 0] 25 ?_; intro gb110 hg w17 hbox hb; replace HO0_0 := Aside0.mk (Kd.V_below (Kd.V_elderB (Pv_ HO0_0.out) gb110 (Nat.le_of_eq hg.symm)) hb); replace HO0_1 := Aside0.mk (Kd.V_below (Kd.V_elderB (Pv_ HO0_1.out) gb110 (Nat.le_of_eq hg.symm)) hb); replace HO105 := Aside0.mk (Kd.N_below (Kd.N_elderB (by (with_reducible repeat (first | apply Kd.N_alloc | apply Kd.N_drewN | apply Kd.N_drew)); exact HO105.out) gb110 (Nat.le_of_eq hg.symm)) hb); replace HO109 := Aside0.mk (Kd.R_below (Pr_ HO109.out) hb); have BK110 := Aside0.mk (hbox); have GW110 := (Bg_ hg : Aside0 (w.heap.size ≤ gb110)); have GE110 := (Bg_ hg : Aside0 (w.heap.size ≤ gb110)); replace HB := Bs_ hb; have NB101_110 := nl_ hg BK101; have NB110_101 := ng_ hg BK101; replace BK101 := kb_ BK101 hb; have NB102_110 := nl_ hg BK102; have NB110_102 := ng_ hg BK102; replace BK102 := kb_ BK102 hb; clear hb hbox hg; have hnb18 := NB110_101.out; have hnc18 := NB101_110.out; have hnb19 := NB110_102.out; have hnc19 := NB102_110.out; obtain ⟨hcz20_0, hcz20_1⟩ := c2_ BK110; obtain ⟨hfz20_0, hfz20_1⟩ := f2_ BK110) | ((with_reducible refine gate_store (t := 25) (p := 4) rfl ?_); refine store_event (t := 25) (p := 4) (v := ?vo_w21) (w1 := ((w17.setCell ⟨gb110, 0, none⟩ (.slice Ao16 t107.length co16)).setCell ⟨gb110, 1, none⟩ (.slice none 0 0))) ?hg ?ho ?hn ?hr ?_; (case ho => rfl); (case hg => rfl); (case hn => rfl); (case hr => first | (go_simp; done) | (go_simp; rfl)); intro w21 hw; have n0_ : Aside0 (Kd.V (Kd.int .i64) 3 w21 w.heap.size (fun k_ => ((P0_0_ k_ ∨ P0_1_ k_) ∨ w.heap.size ≤ k_) ∧ some k_ ≠ (.slice Ao12 y103.length co12 : Value).ownBlock ∧ some k_ ≠ (.slice Ao16 t107.length co16 : Value).ownBlock ∧ k_ ≠ gb101 ∧ k_ ≠ gb102 ∧ k_ ≠ gb110) (.slice A0_0 l0_0.length c0_0) l0_0) := ⟨(by rw [hw]; exact (by (with_reducible repeat (first | apply Kd.V_alloc | apply Kd.V_drewN | apply Kd.V_drew)); exact Kd.V_mono (Kd.V_far (p := ⟨gb110, 1, none⟩) (Kd.V_far (p := ⟨gb110, 0, none⟩) (Kd.V_mono HO0_0.out (fun k_ hk => (⟨hk, hk.2⟩ : _ ∧ k_ ≠ gb110))) (fun _ hk => hk.2) (.slice Ao16 t107.length co16)) (fun _ hk => hk.2) (.slice none 0 0)) (fun _ hk => ⟨hk.1.1.1.1.1.1, ⟨hk.1.1.1.2, ⟨hk.1.1.2, ⟨hk.1.1.1.1.1.2, ⟨hk.1.1.1.1.2, hk.1.2⟩⟩⟩⟩⟩)))⟩; have n1_ : Aside0 (Kd.V Kd.string 9 w21 w.heap.size (fun k_ => ((P0_0_ k_ ∨ P0_1_ k_) ∨ w.heap.size ≤ k_) ∧ some k_ ≠ (.slice Ao12 y103.length co12 : Value).ownBlock ∧ some k_ ≠ (.slice Ao16 t107.length co16 : Value).ownBlock ∧ k_ ≠ gb101 ∧ k_ ≠ gb102 ∧ k_ ≠ gb110) (.slice A0_1 l0_1.length c0_1) l0_1) := ⟨(by rw [hw]; exact (by (with_reducible repeat (first | apply Kd.V_alloc | apply Kd.V_drewN | apply Kd.V_drew)); exact Kd.V_mono (Kd.V_far (p := ⟨gb110, 1, none⟩) (Kd.V_far (p := ⟨gb110, 0, none⟩) (Kd.V_mono HO0_1.out (fun k_ hk => (⟨hk, hk.2⟩ : _ ∧ k_ ≠ gb110))) (fun _ hk => hk.2) (.slice Ao16 t107.length co16)) (fun _ hk => hk.2) (.slice none 0 0)) (fun _ hk => ⟨hk.1.1.1.1.1.1, ⟨hk.1.1.1.2, ⟨hk.1.1.2, ⟨hk.1.1.1.1.1.2, ⟨hk.1.1.1.1.2, hk.1.2⟩⟩⟩⟩⟩)))⟩; have n2_ : Aside0 (Kd.N k25 25 w21 w.heap.size (fun k_ => ((P0_0_ k_ ∨ P0_1_ k_) ∨ w.heap.size ≤ k_) ∧ some k_ ≠ (.slice Ao16 t107.length co16 : Value).ownBlock ∧ k_ ≠ gb101 ∧ k_ ≠ gb102 ∧ k_ ≠ gb110) (.slice Ao12 y103.length co12) y103) := ⟨(by rw [hw]; exact (by (with_reducible repeat (first | apply Kd.N_alloc | apply Kd.N_drewN | apply Kd.N_drew)); exact Kd.N_mono (Kd.N_far (p := ⟨gb110, 1, none⟩) (Kd.N_far (p := ⟨gb110, 0, none⟩) (Kd.N_mono HO105.out (fun k_ hk => (⟨hk, hk.2⟩ : _ ∧ k_ ≠ gb110))) (fun _ hk => hk.2) (.slice Ao16 t107.length co16)) (fun _ hk => hk.2) (.slice none 0 0)) (fun _ hk => ⟨hk.1.1.1.1, ⟨hk.1.1.2, ⟨hk.1.1.1.2.1, ⟨hk.1.1.1.2.2, hk.1.2⟩⟩⟩⟩)))⟩; have n3_ : Aside0 (Kd.R (Kd.int .i64) 3 w21 w.heap.size (fun k_ => (w.heap.size ≤ k_)) (.slice Ao16 t107.length co16) t107) := ⟨(by rw [hw]; exact (by (with_reducible repeat (first | apply Kd.R_alloc | apply Kd.R_drewN | apply Kd.R_drew)); exact Kd.R_mono (Kd.R_far (p := ⟨gb110, 1, none⟩) (Kd.R_far (p := ⟨gb110, 0, none⟩) (Kd.R_types HO109.out BK110.out (by decide)) (fun _ hk => hk.2) (.slice Ao16 t107.length co16)) (fun _ hk => hk.2) (.slice none 0 0)) (fun _ hk => hk.1.1)))⟩; have n4_ : Aside0 (w21.heap[gb101]? = some (.cells #[.slice A0_0 l0_0.length c0_0, .slice A0_1 l0_1.length c0_1] 25 (0, 0))) := ⟨(by rw [hw]; exact (by (with_reducible repeat (first | refine blk_drewN ?_ _ | refine blk_drew ?_ | refine blk_alloc ?_ _)); refine blk_far ?_ NB101_110.out _; (with_reducible repeat (first | refine blk_drewN ?_ _ | refine blk_drew ?_ | refine blk_alloc ?_ _)); refine blk_far ?_ NB101_110.out _; (with_reducible repeat (first | refine blk_drewN ?_ _ | refine blk_drew ?_ | refine blk_alloc ?_ _)); exact BK101.out))⟩; have n5_ : Aside0 (w21.heap[gb102]? = some (.cells #[.slice none 0 0, .slice none 0 0] 25 (0, 0))) := ⟨(by rw [hw]; exact (by (with_reducible repeat (first | refine blk_drewN ?_ _ | refine blk_drew ?_ | refine blk_alloc ?_ _)); refine blk_far ?_ NB102_110.out _; (with_reducible repeat (first | refine blk_drewN ?_ _ | refine blk_drew ?_ | refine blk_alloc ?_ _)); refine blk_far ?_ NB102_110.out _; (with_reducible repeat (first | refine blk_drewN ?_ _ | refine blk_drew ?_ | refine blk_alloc ?_ _)); exact BK102.out))⟩; have n6_ : Aside0 (w21.heap[gb110]? = some (.cells #[.slice Ao16 t107.length co16, .slice none 0 0] 25 (0, 0))) := ⟨(by rw [hw]; exact (by (with_reducible repeat (first | refine blk_drewN ?_ _ | refine blk_drew ?_ | refine blk_alloc ?_ _)); refine blk_put (cs := #[.slice Ao16 t107.length co16, .slice none 0 0]) ?_ 1 _ rfl; (with_reducible repeat (first | refine blk_drewN ?_ _ | refine blk_drew ?_ | refine blk_alloc ?_ _)); refine blk_put (cs := #[.slice none 0 0, .slice none 0 0]) ?_ 0 _ rfl; (with_reducible repeat (first | refine blk_drewN ?_ _ | refine blk_drew ?_ | refine blk_alloc ?_ _)); exact BK110.out))⟩; have n7_ : Aside0 (Below w.heap.size w w21) := ⟨(by rw [hw]; exact Bl_)⟩; clear hw; clear HO0_0; clear HO0_1; clear HO105; clear HO109; clear BK101; clear BK102; clear BK110; clear HB; have HO0_0 := n0_; have HO0_1 := n1_; have HO105 := n2_; have HO109 := n3_; have BK101 := n4_; have BK102 := n5_; have BK110 := n6_; have HB := n7_; clear n0_ n1_ n2_ n3_ n4_ n5_ n6_ n7_; obtain ⟨hcz22_0, hcz22_1⟩ := c2_ BK110; obtain ⟨hfz22_0, hfz22_1⟩ := f2_ BK110) | ((with_reducible refine gate_callee (f := 61) rfl ?_); refine goesL_ (some 21) rfl rfl Tryd.func61 (by kernel_rfl) rfl #[.slice Ao16 t107.length co16] rfl Ga_ ?_; (with_reducible refine (slices_Reverse_int_int.calls k (fun k_ => some k_ = (.slice Ao16 t107.length co16 : Value).ownBlock) (.slice Ao16 t107.length co16) t107 t111 w _ ?side1 ?side2 A5.out).mono ?_); (case side1 => repeat (first | (with_reducible first | exact HB.out | apply below_alloc | apply pw_below_drewN | apply below_drew1 | refine below_set ?_ GE101.out | refine below_set ?_ GE102.out | refine below_set ?_ GE110.out) | exact HB.out)); (case side2 => exact Kd.R_tight rfl HO109.out); rintro e w23 ⟨rfl, hy0, hb, hkp⟩; refine ⟨_, rfl, ?_⟩; replace HO0_0 := Aside0.mk (Kd.V_mono (ok' := fun k_ => ((P0_0_ k_ ∨ P0_1_ k_) ∨ w.heap.size ≤ k_) ∧ some k_ ≠ (.slice Ao12 y103.length co12 : Value).ownBlock ∧ some k_ ≠ (.slice Ao16 t107.length co16 : Value).ownBlock ∧ k_ ≠ gb101 ∧ k_ ≠ gb102 ∧ k_ ≠ gb110) (Kd.V_keptB (HO0_0.out) hkp (fun k_ hk_ hs_ => (hk_.2.2.1) hs_)) (fun k_ hk_ => ⟨hk_.1.1, hk_.1.2.1, hk_.1.2.2.1, hk_.1.2.2.2.1, hk_.1.2.2.2.2.1, hk_.1.2.2.2.2.2⟩)); replace HO0_1 := Aside0.mk (Kd.V_mono (ok' := fun k_ => ((P0_0_ k_ ∨ P0_1_ k_) ∨ w.heap.size ≤ k_) ∧ some k_ ≠ (.slice Ao12 y103.length co12 : Value).ownBlock ∧ some k_ ≠ (.slice Ao16 t107.length co16 : Value).ownBlock ∧ k_ ≠ gb101 ∧ k_ ≠ gb102 ∧ k_ ≠ gb110) (Kd.V_keptB (HO0_1.out) hkp (fun k_ hk_ hs_ => (hk_.2.2.1) hs_)) (fun k_ hk_ => ⟨hk_.1.1, hk_.1.2.1, hk_.1.2.2.1, hk_.1.2.2.2.1, hk_.1.2.2.2.2.1, hk_.1.2.2.2.2.2⟩)); replace BK101 := Aside0.mk (blk_kept (Bk_ BK101.out) hkp (fun hs_ => (fun e_ => (Kd.R_ne HO109.out BK101.out (by decide)) e_) hs_)); replace BK102 := Aside0.mk (blk_kept (Bk_ BK102.out) hkp (fun hs_ => (fun e_ => (Kd.R_ne HO109.out BK102.out (by decide)) e_) hs_)); replace HO105 := Aside0.mk (Kd.N_mono (ok' := fun k_ => ((P0_0_ k_ ∨ P0_1_ k_) ∨ w.heap.size ≤ k_) ∧ some k_ ≠ (.slice Ao16 t107.length co16 : Value).ownBlock ∧ k_ ≠ gb101 ∧ k_ ≠ gb102 ∧ k_ ≠ gb110) (Kd.N_keptB (HO105.out) hkp (fun k_ hk_ hs_ => (hk_.2.1) hs_)) (fun k_ hk_ => ⟨hk_.1.1, hk_.1.2.1, hk_.1.2.2.1, hk_.1.2.2.2.1, hk_.1.2.2.2.2⟩)); replace BK110 := Aside0.mk (blk_kept (Bk_ BK110.out) hkp (fun hs_ => (fun e_ => (Kd.R_ne HO109.out BK110.out (by decide)) e_) hs_)); replace HO109 := Aside0.mk (Kd.R_reok rfl hy0 (fun k_ e_ => HO109.out.1 k_ e_)); replace HB := Aside0.mk (hb); (try clear hb); (try clear hkp); (try clear hy0); obtain ⟨hcz24_0, hcz24_1⟩ := c2_ BK101; obtain ⟨hfz24_0, hfz24_1⟩ := f2_ BK101))
    go_loopg [25] k (fun kq v25 w' => ∃ (x25_1 : Int) (x102000_1 : List Int) (x111000_1 : List Int) (x111001_1 : List ByteArray) (u102000 : Value) (u111000 : Value) (u111001 : Value), v25 = .int .i64 x25_1 ∧ Aside0 (mould_Flip.l0 kq (l0_1.length : Int) x25_1 x102000_1 l0_1 x111000_1 x111001_1 = some (r1, r2, r3)) ∧ Aside0 (kq ≤ k) ∧ Aside0 (Kd.V (Kd.int .i64) 3 w' w.heap.size (fun k_ => ((P0_0_ k_ ∨ P0_1_ k_) ∨ w.heap.size ≤ k_) ∧ some k_ ≠ (u111000 : Value).ownBlock ∧ some k_ ≠ (u111001 : Value).ownBlock ∧ k_ ≠ gb101 ∧ k_ ≠ gb102 ∧ k_ ≠ gb110) u102000 x102000_1) ∧ Aside0 (Kd.V Kd.string 9 w' w.heap.size (fun k_ => ((P0_0_ k_ ∨ P0_1_ k_) ∨ w.heap.size ≤ k_) ∧ some k_ ≠ (u111000 : Value).ownBlock ∧ some k_ ≠ (u111001 : Value).ownBlock ∧ k_ ≠ gb101 ∧ k_ ≠ gb102 ∧ k_ ≠ gb110) (.slice A0_1 l0_1.length c0_1) l0_1) ∧ Aside0 (Kd.R (Kd.int .i64) 3 w' w.heap.size (fun k_ => (w.heap.size ≤ k_)) u111000 x111000_1) ∧ Aside0 (Kd.R Kd.string 9 w' w.heap.size (fun k_ => (w.heap.size ≤ k_)) u111001 x111001_1) ∧ Aside0 (w'.heap[gb101]? = some (.cells #[u102000, (.slice A0_1 l0_1.length c0_1)] 25 (0, 0))) ∧ Aside0 (w'.heap[gb102]? = some (.cells #[(.slice none 0 0), (.slice none 0 0)] 25 (0, 0))) ∧ Aside0 (w'.heap[gb110]? = some (.cells #[u111000, u111001] 25 (0, 0))) ∧ Aside0 (Below w.heap.size w w'))
    case atStart => exact ⟨(0), (l0_0), (t111), (([] : List ByteArray)), (.slice A0_0 l0_0.length c0_0), (.slice Ao16 t107.length co16), (.slice none 0 0), Rf_, H', ⟨Nat.le_refl _⟩, ⟨by (with_reducible repeat (first | apply Kd.V_alloc | apply Kd.V_drewN | apply Kd.V_drew)); exact Kd.V_mono HO0_0.out (fun _ hk => ⟨hk.1, ⟨hk.2.2.1, ⟨(by simp [Value.ownBlock]), ⟨hk.2.2.2.1, ⟨hk.2.2.2.2.1, hk.2.2.2.2.2⟩⟩⟩⟩⟩)⟩, ⟨by (with_reducible repeat (first | apply Kd.V_alloc | apply Kd.V_drewN | apply Kd.V_drew)); exact Kd.V_mono HO0_1.out (fun _ hk => ⟨hk.1, ⟨hk.2.2.1, ⟨(by simp [Value.ownBlock]), ⟨hk.2.2.2.1, ⟨hk.2.2.2.2.1, hk.2.2.2.2.2⟩⟩⟩⟩⟩)⟩, ⟨by (with_reducible repeat (first | apply Kd.R_alloc | apply Kd.R_drewN | apply Kd.R_drew)); exact HO109.out⟩, ⟨by first | exact Kd.R_nil _ _ _ _ _ | exact Kd.N_nil _ _ _ _ _ | exact Kd.V_nil _ _ _ _ _ | exact Kd.Q_nil _ _ _ _ _ | exact Kd.S_nil _ _ _ _ _⟩, ⟨by (with_reducible repeat (first | refine blk_drewN ?_ _ | refine blk_drew ?_ | refine blk_alloc ?_ _)); exact BK101.out⟩, ⟨by (with_reducible repeat (first | refine blk_drewN ?_ _ | refine blk_drew ?_ | refine blk_alloc ?_ _)); exact BK102.out⟩, ⟨by (with_reducible repeat (first | refine blk_drewN ?_ _ | refine blk_drew ?_ | refine blk_alloc ?_ _)); exact BK110.out⟩, ⟨Bl_⟩⟩
    case round =>
      clear H'
      try clear c1
      try clear c2
      try clear p2
      try clear c3
      try clear c5
      try clear c6
      try clear c8
      try clear c18
      try clear c19
      try clear hcz14_0
      try clear hcz14_1
      try clear hcz20_0
      try clear hcz20_1
      try clear hcz22_0
      try clear hcz22_1
      try clear hcz24_0
      try clear hcz24_1
      try clear hcz9_0
      try clear hcz9_1
      try clear hfz14_0
      try clear hfz14_1
      try clear hfz20_0
      try clear hfz20_1
      try clear hfz22_0
      try clear hfz22_1
      try clear hfz24_0
      try clear hfz24_1
      try clear hfz9_0
      try clear hfz9_1
      obtain ⟨x25_1, x102000_1, x111000_1, x111001_1, u102000, u111000, u111001, rfl, HA, HK1, HO_102000, HO_102001, HO_111000, HO_111001, BK101, BK102, BK110, HB⟩ := hrel
      cases gk with
      | zero => exact absurd HA.out (by simp [mould_Flip.l0])
      | succ k1 =>
        have H := HA.out
        clear HA
        simp only [mould_Flip.l0] at H
        by_cases c25 : x25_1 < (l0_1.length : Int)
        · rw [if_pos c25] at H
          have c25b0 : decide (x25_1 < (l0_1.length : Int)) = true := decide_eq_true c25
          clear c25
          obtain ⟨⟨t112, t113⟩, A26, H⟩ := bnd_ H
          try dsimp -simprocs only at H
          obtain ⟨t116, A27, H⟩ := bnd_ H
          try dsimp -simprocs only at H
          obtain ⟨⟨t117, t118⟩, A28, H⟩ := bnd_ H
          try dsimp -simprocs only at H
          by_cases c29 : 0 ≤ t117
          · rw [if_pos c29] at H
            have c29b0 : decide (0 ≤ t117) = true := decide_eq_true c29
            clear c29
            by_cases c30 : t117 < (l0_1.length : Int)
            · rw [if_pos c30] at H
              have c30b0 : decide (t117 < (l0_1.length : Int)) = true := decide_eq_true c30
              clear c30
              by_cases c31 : x111001_1.length < 8796093022208
              · rw [if_pos c31] at H
                have LMc31 := Aside0.mk c31
                clear c31
                obtain ⟨y120, hy120⟩ : ∃ y_ : List ByteArray, y_ = (x111001_1 ++ [rdOf ByteArray.empty l0_1 t117]) := ⟨_, rfl⟩
                replace H : (mould_Flip.l0 k1 (l0_1.length : Int) (wrap64 (x25_1 + 1)) x102000_1 l0_1 x111000_1 y120) = some (r1, r2, r3) := by first | (rw [hy120]; with_reducible exact H) | (have H2_ := (Option.bind_some _ _).symm.trans H; rw [hy120]; with_reducible exact H2_) | (have H2_ := (Option.bind_some _ _).symm.trans H; with_reducible exact H2_) | with_reducible exact H | (rw [hy120]; exact H) | exact H
                have Ny120 := Aside0.mk hy120
                clear hy120
                have H' := Aside0.mk H
                clear H
                have hnb32 := NB110_101.out
                have hnc32 := NB101_110.out
                have hnb33 := NB110_102.out
                have hnc33 := NB102_110.out
                obtain ⟨hcz34_0, hcz34_1⟩ := c2_ BK110
                obtain ⟨hfz34_0, hfz34_1⟩ := f2_ BK110
                obtain ⟨Ao35, co35, eo35⟩ := Kd.R_slice HO_111000.out
                subst eo35
                try go_wp2_with (first | ((with_reducible refine gate_callee (f := 62) rfl ?_); refine goesL_ (some 32) rfl rfl Tryd.func62 (by kernel_rfl) rfl #[.slice Ao35 x111000_1.length co35, .int .i64 x25_1] rfl Ga_ ?_; (with_reducible refine (shape_Place.calls k1 _ _ x111000_1 x25_1 t112 t113 _ ?side1 ?side2 A26.out).mono ?_); (case side1 => exact Pc_ ((Kd.R_reads' HO_111000.out).2.2)); (case side2 => exact (Kd.R_reads' HO_111000.out).2.1); rintro e w36 ⟨v114, rfl, ho0, hb⟩; refine ⟨_, rfl, ?_⟩; replace HO_102000 := Aside0.mk (Kd.V_elder' (Pv_ HO_102000.out) (Kd.R_base ho0) hb); replace HO_102001 := Aside0.mk (Kd.V_elder' (Pv_ HO_102001.out) (Kd.R_base ho0) hb); replace HO_111001 := Aside0.mk (Kd.R_below (Pr_ HO_111001.out) hb); have HO115 := Aside0.mk (Kd.R_lower (Kd.R_new' (Kd.R_newM (M := fun k_ => (w.heap.size ≤ k_)) ho0 Bz_ (fun k_ h_ => h_)) (Kd.R_lt (Pr_ HO_111000.out))) Bz_); replace HO_111000 := Aside0.mk (Kd.R_elder' (Pr_ HO_111000.out) (Kd.R_base ho0) hb); replace BK101 := kb_ BK101 hb; replace BK102 := kb_ BK102 hb; replace BK110 := kb_ BK110 hb; replace HB := Bs_ hb; (try clear hb); (try clear hb2); (try clear hk); (try clear hi); (try clear ho0); obtain ⟨Ao37, co37, eo37⟩ := Kd.R_slice HO115.out; subst eo37) | ((with_reducible refine gate_callee (f := 61) rfl ?_); refine goesL_ (some 36) rfl rfl Tryd.func61 (by kernel_rfl) rfl #[.slice Ao37 t112.length co37] rfl Ga_ ?_; (with_reducible refine (slices_Reverse_int_int.calls k1 (fun k_ => some k_ = (.slice Ao37 t112.length co37 : Value).ownBlock) (.slice Ao37 t112.length co37) t112 t116 w _ ?side1 ?side2 A27.out).mono ?_); (case side1 => repeat (first | (with_reducible first | exact HB.out | apply below_alloc | apply pw_below_drewN | apply below_drew1 | refine below_set ?_ GE101.out | refine below_set ?_ GE102.out | refine below_set ?_ GE110.out) | exact HB.out)); (case side2 => exact Kd.R_tight rfl HO115.out); rintro e w38 ⟨rfl, hy0, hb, hkp⟩; refine ⟨_, rfl, ?_⟩; replace HO_102000 := Aside0.mk (Kd.V_mono (ok' := fun k_ => ((P0_0_ k_ ∨ P0_1_ k_) ∨ w.heap.size ≤ k_) ∧ some k_ ≠ (.slice Ao35 x111000_1.length co35 : Value).ownBlock ∧ some k_ ≠ (u111001 : Value).ownBlock ∧ some k_ ≠ (.slice Ao37 t112.length co37 : Value).ownBlock ∧ k_ ≠ gb101 ∧ k_ ≠ gb102 ∧ k_ ≠ gb110) (Kd.V_keptB (HO_102000.out) hkp (fun k_ hk_ hs_ => (hk_.2) hs_)) (fun k_ hk_ => ⟨hk_.1.1.1, hk_.1.1.2.1, hk_.1.1.2.2.1, hk_.1.2, hk_.1.1.2.2.2.1, hk_.1.1.2.2.2.2.1, hk_.1.1.2.2.2.2.2⟩)); replace HO_102001 := Aside0.mk (Kd.V_mono (ok' := fun k_ => ((P0_0_ k_ ∨ P0_1_ k_) ∨ w.heap.size ≤ k_) ∧ some k_ ≠ (.slice Ao35 x111000_1.length co35 : Value).ownBlock ∧ some k_ ≠ (u111001 : Value).ownBlock ∧ some k_ ≠ (.slice Ao37 t112.length co37 : Value).ownBlock ∧ k_ ≠ gb101 ∧ k_ ≠ gb102 ∧ k_ ≠ gb110) (Kd.V_keptB (HO_102001.out) hkp (fun k_ hk_ hs_ => (hk_.2) hs_)) (fun k_ hk_ => ⟨hk_.1.1.1, hk_.1.1.2.1, hk_.1.1.2.2.1, hk_.1.2, hk_.1.1.2.2.2.1, hk_.1.1.2.2.2.2.1, hk_.1.1.2.2.2.2.2⟩)); replace HO_111000 := Aside0.mk (Kd.R_mono (ok' := fun k_ => (w.heap.size ≤ k_) ∧ some k_ ≠ (.slice Ao37 t112.length co37 : Value).ownBlock) (Kd.R_keptB (HO_111000.out) hkp (fun k_ hk_ hs_ => (hk_.2) hs_)) (fun k_ hk_ => ⟨hk_.1.1, hk_.1.2⟩)); replace HO_111001 := Aside0.mk (Kd.R_mono (ok' := fun k_ => (w.heap.size ≤ k_)) (Kd.R_keptB ((Kd.R_apart' HO_111001.out (Kd.R_typed HO115.out) (by decide))) hkp (fun k_ hk_ hs_ => (hk_.2) hs_)) (fun k_ hk_ => hk_.1.1)); replace BK101 := Aside0.mk (blk_kept (Bk_ BK101.out) hkp (fun hs_ => (fun e_ => (Kd.R_ne HO115.out BK101.out (by decide)) e_) hs_)); replace BK102 := Aside0.mk (blk_kept (Bk_ BK102.out) hkp (fun hs_ => (fun e_ => (Kd.R_ne HO115.out BK102.out (by decide)) e_) hs_)); replace BK110 := Aside0.mk (blk_kept (Bk_ BK110.out) hkp (fun hs_ => (fun e_ => (Kd.R_ne HO115.out BK110.out (by decide)) e_) hs_)); replace HO115 := Aside0.mk (Kd.R_reok rfl hy0 (fun k_ e_ => HO115.out.1 k_ e_)); replace HB := Aside0.mk (hb); (try clear hb); (try clear hkp); (try clear hy0); have hnb39 := NB101_102.out; have hnc39 := NB102_101.out; obtain ⟨hcz40_0, hcz40_1⟩ := c2_ BK101; obtain ⟨hfz40_0, hfz40_1⟩ := f2_ BK101; obtain ⟨Ao41, co41, eo41⟩ := Kd.V_slice HO_102000.out; subst eo41) | ((with_reducible refine gate_callee (f := 63) rfl ?_); refine goesL_ (some 41) rfl rfl Tryd.func63 (by kernel_rfl) rfl #[.slice Ao41 x102000_1.length co41, .slice Ao37 t116.length co37] rfl (by (try simp only [List.map_toArray, List.map_cons, List.map_nil]); first | done | (rw [show t116.length = t112.length from (Kd.R_reads' HO115.out).1.symm] <;> rfl) | rfl | (simp only [List.length_drop, List.length_take]; rfl)) ?_; (with_reducible refine (shape_Offset.calls k1 _ _ x102000_1 _ _ t116 t117 t118 _ ?side1 ?side2 ?side3 ?side4 A28.out).mono ?_); (case side1 => exact Pc_ ((Kd.V_reads' HO_102000.out).2.2)); (case side2 => exact (Kd.V_reads' HO_102000.out).2.1); (case side3 => exact Pc_ ((Kd.R_reads' HO115.out).2.2)); (case side4 => rw [show t116.length = t112.length from (Kd.R_reads' HO115.out).1.symm]; exact (Kd.R_reads' HO115.out).2.1); rintro e w42 ⟨rfl, hb⟩; refine ⟨_, rfl, ?_⟩; replace HO_102000 := Aside0.mk (Kd.V_below (Pv_ HO_102000.out) hb); replace HO_102001 := Aside0.mk (Kd.V_below (Pv_ HO_102001.out) hb); replace HO_111000 := Aside0.mk (Kd.R_below (Pr_ HO_111000.out) hb); replace HO_111001 := Aside0.mk (Kd.R_below (Pr_ HO_111001.out) hb); replace HO115 := Aside0.mk (Kd.R_below (Pr_ HO115.out) hb); replace BK101 := kb_ BK101 hb; replace BK102 := kb_ BK102 hb; replace BK110 := kb_ BK110 hb; replace HB := Bs_ hb; (try clear hb); (try clear hb2); (try clear hk); (try clear hi)))
                replace HO_102000 := Aside0.mk (Kd.V_drew HO_102000.out)
                replace HO_102001 := Aside0.mk (Kd.V_drew HO_102001.out)
                replace HO_111000 := Aside0.mk (Kd.R_drew HO_111000.out)
                replace HO_111001 := Aside0.mk (Kd.R_drew HO_111001.out)
                replace HO115 := Aside0.mk (Kd.R_drew HO115.out)
                replace BK101 := Aside0.mk (blk_drew BK101.out)
                replace BK102 := Aside0.mk (blk_drew BK102.out)
                replace BK110 := Aside0.mk (blk_drew BK110.out)
                replace HB := Aside0.mk (below_drew1 HB.out)
                have p119 : 0 ≤ (t117 : Int) := of_decide_eq_true As_
                have q119 : t117 < (l0_1.length : Int) := of_decide_eq_true As_
                obtain ⟨ad119, e119, hx119_0⟩ := Kd.at_string (Kd.V_reads' HO_102001.out).2.2 t117 p119 q119
                cases e119
                replace p119 := eq_true p119
                replace q119 := eq_true q119
                refine start_ (n := 11) (S := fun w' => w'.cell? ⟨gb110, 0, none⟩ = some (.slice Ao35 x111000_1.length co35) ∧ w'.cell? ⟨gb110, 1, none⟩ = some (u111001) ∧ w'.cell? ⟨gb101, 0, none⟩ = some (.slice Ao41 x102000_1.length co41) ∧ w'.cell? ⟨gb101, 1, none⟩ = some (.slice (some ad119) l0_1.length c0_1) ∧ w'.cell? (ad119.add (t117).toNat) = some (.string (rdOf ByteArray.empty l0_1 t117))) (ds := [8, 10]) #[false, false, false, false, false, false, false, false, false, false, false] (by kernel_rfl) rfl rfl ⟨(blk_cell BK110.out 0).trans rfl, (blk_cell BK110.out 1).trans rfl, (blk_cell BK101.out 0).trans rfl, (blk_cell BK101.out 1).trans rfl, hx119_0⟩ (fun hHeld => ?_); refine with_tabW mould_Flip.tab11 mould_Flip.bits11 (fun HT_ HW_ => ?_)
                generalize w42.drew = w43 at HO_102000 HO_102001 HO_111000 HO_111001 HO115 BK101 BK102 BK110 HB hx119_0 hHeld ⊢
                refine pu_ 0 (some 44) HT_ #[true, false, false, false, false, false, false, false, false, false, false] ?_
                refine pu_ 2 (some 46) HT_ #[true, false, true, false, false, false, false, false, false, false, false] ?_
                refine pu_ 4 (some 48) HT_ #[true, false, true, false, true, false, false, false, false, false, false] ?_
                refine take_ (i := 1) (N := some 45) (v := ?_) (a' := ?_) #[true, true, true, false, true, false, false, false, false, false, false] rfl rfl (take_ofW HT_.out HW_.out (by kernel_rfl)) (fun _ _ _ h => h) (Or.inl ⟨by rfl, ?_⟩) hHeld ?_ ?_
                rotate_left
                · rintro w' ⟨s0, s1, s2, s3, s4⟩
                  go_simp
                  with_reducible rfl
                rotate_left
                · simp only [Act.put, List.setIfInBounds_toArray, List.set_cons_zero, List.set_cons_succ, i64_w, i32_w]
                  rfl
                refine take_ (i := 3) (N := some 47) (v := ?_) (a' := ?_) #[true, true, true, true, true, false, false, false, false, false, false] rfl rfl (take_ofW HT_.out HW_.out (by kernel_rfl)) (fun _ _ _ h => h) (Or.inl ⟨by rfl, ?_⟩) hHeld ?_ ?_
                rotate_left
                · rintro w' ⟨s0, s1, s2, s3, s4⟩
                  go_simp
                  with_reducible rfl
                rotate_left
                · simp only [Act.put, List.setIfInBounds_toArray, List.set_cons_zero, List.set_cons_succ, i64_w, i32_w]
                  rfl
                refine pu_ 5 (some 49) HT_ #[true, true, true, true, true, true, false, false, false, false, false] ?_
                refine take_ (i := 6) (N := some 50) (v := ?_) (a' := ?_) #[true, true, true, true, true, true, true, false, false, false, false] rfl rfl (take_ofW HT_.out HW_.out (by kernel_rfl)) (fun _ _ _ h => h) (Or.inl ⟨by rfl, ?_⟩) hHeld ?_ ?_
                rotate_left
                · rintro w' ⟨s0, s1, s2, s3, s4⟩
                  go_simp
                  with_reducible rfl
                rotate_left
                · simp only [Act.put, List.setIfInBounds_toArray, List.set_cons_zero, List.set_cons_succ, i64_w, i32_w]
                  rfl
                refine one_ (i := 7) (N := some 51) #[true, true, true, true, true, true, true, true, false, false, false] rfl rfl (one_of HT_.out (by kernel_rfl)) (by decide) (fun K hK => ?_)
                refine value_ (w1 := ?_) (v := ?_) (by rfl) rfl ?_ ?_
                rotate_left 2
                · go_simp
                  constructor
                  · rfl
                  · rfl
                refine hK.out _ _ ⟨(blk_cell (blk_alloc BK110.out _) 0).trans rfl, (blk_cell (blk_alloc BK110.out _) 1).trans rfl, (blk_cell (blk_alloc BK101.out _) 0).trans rfl, (blk_cell (blk_alloc BK101.out _) 1).trans rfl, (World.cell?_alloc_lt _ _ _ (World.block_lt_of_cell? _ _ (hHeld.2.2.2.2))).trans (hHeld.2.2.2.2)⟩ (fun hHeld => ?_)
                clear hK K
                refine norm_ (a' := ?_) ?_ ?_
                rotate_left
                · show Act.put _ (some 51) _ = _
                  simp only [Act.put, List.setIfInBounds_toArray, List.set_cons_zero, List.set_cons_succ, i64_w, i32_w]
                  rfl
                refine last_ (i := 8) (N := some 52) #[true, true, true, true, true, true, true, true, true, false, false] rfl rfl (one_of HT_.out (by kernel_rfl)) (by decide) (fun K hK => ?_)
                refine Kd.R_append_step Kd.string (w0 := w) w.heap.size (by rfl) (.tmp 45) (.tmp 51) 23 9 (.string ⟨#[]⟩) 16 rfl Tryd.underlying23 info9 rfl (by decide) (by omega) u111001 x111001_1 (rdOf ByteArray.empty l0_1 t117) [.string (rdOf ByteArray.empty l0_1 t117)] (fun k_ => (w.heap.size ≤ k_)) (fun _ => False) rfl rfl ?aP (fun _ hk => hk.elim) ?aF ?aO ?aB ?aS ?aL ?_
                (case aP => exact rfl)
                (case aB => exact Bl_)
                (case aF => exact (fun k_ hk => (Nat.le_trans Bz_ hk)))
                (case aO => exact (Pr_ HO_111001.out))
                (case aS => exact Bz_)
                (case aL => have := LMc31.out; omega)
                intro v121 w44 ho hb hg hat
                rw [← Ny120.out] at ho
                replace HO_102000 := Aside0.mk (Kd.V_afterv (ok := (fun k_ => ((P0_0_ k_ ∨ P0_1_ k_) ∨ w.heap.size ≤ k_) ∧ some k_ ≠ (.slice Ao35 x111000_1.length co35 : Value).ownBlock ∧ some k_ ≠ (.slice Ao37 t112.length co37 : Value).ownBlock ∧ k_ ≠ gb101 ∧ k_ ≠ gb102 ∧ k_ ≠ gb110)) (by (with_reducible repeat (first | apply Kd.V_alloc | apply Kd.V_drewN | apply Kd.V_drew)); exact Kd.V_mono HO_102000.out (fun _ hk => ⟨⟨hk.1, ⟨hk.2.1, ⟨hk.2.2.2.1, ⟨hk.2.2.2.2.1, ⟨hk.2.2.2.2.2.1, hk.2.2.2.2.2.2⟩⟩⟩⟩⟩, hk.2.2.1⟩)) hg hat)
                replace HO_102001 := Aside0.mk (Kd.V_afterv (ok := (fun k_ => ((P0_0_ k_ ∨ P0_1_ k_) ∨ w.heap.size ≤ k_) ∧ some k_ ≠ (.slice Ao35 x111000_1.length co35 : Value).ownBlock ∧ some k_ ≠ (.slice Ao37 t112.length co37 : Value).ownBlock ∧ k_ ≠ gb101 ∧ k_ ≠ gb102 ∧ k_ ≠ gb110)) (by (with_reducible repeat (first | apply Kd.V_alloc | apply Kd.V_drewN | apply Kd.V_drew)); exact Kd.V_mono HO_102001.out (fun _ hk => ⟨⟨hk.1, ⟨hk.2.1, ⟨hk.2.2.2.1, ⟨hk.2.2.2.2.1, ⟨hk.2.2.2.2.2.1, hk.2.2.2.2.2.2⟩⟩⟩⟩⟩, hk.2.2.1⟩)) hg hat)
                replace HO_111000 := Aside0.mk (Kd.R_over' (Pr_ HO_111000.out) (Kd.R_typed (Pr_ HO_111001.out)) (by decide) hg)
                replace BK101 := kg_ BK101 hg (Kd.R_ne HO_111001.out BK101.out (by decide))
                replace BK102 := kg_ BK102 hg (Kd.R_ne HO_111001.out BK102.out (by decide))
                replace BK110 := kg_ BK110 hg (Kd.R_ne HO_111001.out BK110.out (by decide))
                replace HO115 := Aside0.mk (Kd.R_over' (Pr_ HO115.out) (Kd.R_typed (Pr_ HO_111001.out)) (by decide) hg)
                replace HB := Aside0.mk (hb)
                have HO122 := Aside0.mk (ho)
                clear HO_111001
                clear ho hb hg hat
                obtain ⟨Ao45, co45, eo45⟩ := Kd.R_slice HO122.out
                (first | subst eo45 | (injection eo45 with f1_ f2_ f3_; have f4_ := f1_.symm; have f5_ := f3_.symm; clear f1_ f2_ f3_; subst f4_; subst f5_))
                refine hK.out _ _ ?_
                clear hK K
                refine norm_ (a' := ?_) ?_ ?_
                rotate_left
                · show Act.put _ (some 52) _ = _
                  simp only [Act.put, List.setIfInBounds_toArray, List.set_cons_zero, List.set_cons_succ, i64_w, i32_w]
                  rfl
                refine pu_ 9 (some 53) HT_ #[true, true, true, true, true, true, true, true, true, true, false] ?_
                refine last_ (i := 10) (N := none) #[true, true, true, true, true, true, true, true, true, true, true] rfl rfl (one_of HT_.out (by kernel_rfl)) (by decide) (fun K hK => ?_)
                have hs46 : w44.cell? ⟨gb110, 1, none⟩ = some (u111001) := (blk_cell BK110.out 1).trans rfl
                have hfs46 := blk_frozen BK110.out 1
                have hns46_0 := NB101_110.out
                have hns46_1 := NB102_110.out
                have hms46_0 := NB110_101.out
                have hms46_1 := NB110_102.out
                refine skip_ (w1 := ?_) (by rfl) rfl ?_ ?_
                rotate_left
                · go_simp
                  rfl
                refine hK.out _ _ ?_
                clear hK K
                refine done_ (done_of HT_.out (by kernel_rfl)) ?_
                try go_wp2
                go_roundg k1
                case measure => have := HK1.out; omega
                case rel => exact ⟨(wrap64 (x25_1 + 1)), (x102000_1), (x111000_1), (y120), (.slice Ao41 x102000_1.length co41), (.slice Ao35 x111000_1.length co35), (.slice Ao45 y120.length co45), Rf_, H', ⟨by have := HK1.out; omega⟩, ⟨by (with_reducible repeat (first | apply Kd.V_alloc | apply Kd.V_drewN | apply Kd.V_drew)); exact Kd.V_mono (Kd.V_far (p := ⟨gb110, 1, none⟩) (Kd.V_mono HO_102000.out (fun k_ hk => (⟨hk, hk.1.2.2.2.2.2⟩ : _ ∧ k_ ≠ gb110))) (fun _ hk => hk.2) (.slice Ao45 y120.length co45)) (fun _ hk => ⟨hk.1.1.1, ⟨hk.1.1.2.1, ⟨hk.1.2, ⟨hk.1.1.2.2.2.1, ⟨hk.1.1.2.2.2.2.1, hk.1.1.2.2.2.2.2⟩⟩⟩⟩⟩)⟩, ⟨by (with_reducible repeat (first | apply Kd.V_alloc | apply Kd.V_drewN | apply Kd.V_drew)); exact Kd.V_mono (Kd.V_far (p := ⟨gb110, 1, none⟩) (Kd.V_mono HO_102001.out (fun k_ hk => (⟨hk, hk.1.2.2.2.2.2⟩ : _ ∧ k_ ≠ gb110))) (fun _ hk => hk.2) (.slice Ao45 y120.length co45)) (fun _ hk => ⟨hk.1.1.1, ⟨hk.1.1.2.1, ⟨hk.1.2, ⟨hk.1.1.2.2.2.1, ⟨hk.1.1.2.2.2.2.1, hk.1.1.2.2.2.2.2⟩⟩⟩⟩⟩)⟩, ⟨by (with_reducible repeat (first | apply Kd.R_alloc | apply Kd.R_drewN | apply Kd.R_drew)); exact Kd.R_mono (Kd.R_far (p := ⟨gb110, 1, none⟩) (Kd.R_types HO_111000.out BK110.out (by decide)) (fun _ hk => hk.2) (.slice Ao45 y120.length co45)) (fun _ hk => hk.1.1)⟩, ⟨by (with_reducible repeat (first | apply Kd.R_alloc | apply Kd.R_drewN | apply Kd.R_drew)); exact Kd.R_mono (Kd.R_far (p := ⟨gb110, 1, none⟩) (Kd.R_types HO122.out BK110.out (by decide)) (fun _ hk => hk.2) (.slice Ao45 y120.length co45)) (fun _ hk => hk.1)⟩, ⟨by (with_reducible repeat (first | refine blk_drewN ?_ _ | refine blk_drew ?_ | refine blk_alloc ?_ _)); refine blk_far ?_ NB101_110.out _; (with_reducible repeat (first | refine blk_drewN ?_ _ | refine blk_drew ?_ | refine blk_alloc ?_ _)); exact BK101.out⟩, ⟨by (with_reducible repeat (first | refine blk_drewN ?_ _ | refine blk_drew ?_ | refine blk_alloc ?_ _)); refine blk_far ?_ NB102_110.out _; (with_reducible repeat (first | refine blk_drewN ?_ _ | refine blk_drew ?_ | refine blk_alloc ?_ _)); exact BK102.out⟩, ⟨by (with_reducible repeat (first | refine blk_drewN ?_ _ | refine blk_drew ?_ | refine blk_alloc ?_ _)); refine blk_put (cs := #[.slice Ao35 x111000_1.length co35, u111001]) ?_ 1 _ rfl; (with_reducible repeat (first | refine blk_drewN ?_ _ | refine blk_drew ?_ | refine blk_alloc ?_ _)); exact BK110.out⟩, ⟨Bl_⟩⟩
              · rw [if_neg c31] at H
                exact absurd H (by simp)
            · rw [if_neg c30] at H
              exact absurd H (by simp)
          · rw [if_neg c29] at H
            exact absurd H (by simp)
        · rw [if_neg c25] at H
          have c25b0 : decide (x25_1 < (l0_1.length : Int)) = false := decide_eq_false c25
          clear c25
          simp only [Option.some.injEq, Prod.mk.injEq] at H
          obtain ⟨rfl, rfl, rfl⟩ := H
          have hnb47 := NB110_101.out
          have hnc47 := NB101_110.out
          have hnb48 := NB110_102.out
          have hnc48 := NB102_110.out
          obtain ⟨hcz49_0, hcz49_1⟩ := c2_ BK110
          obtain ⟨hfz49_0, hfz49_1⟩ := f2_ BK110
          obtain ⟨Ao50, co50, eo50⟩ := Kd.R_slice HO_111000.out
          subst eo50
          have hnb51 := NB102_101.out
          have hnc51 := NB101_102.out
          obtain ⟨hcz52_0, hcz52_1⟩ := c2_ BK102
          obtain ⟨hfz52_0, hfz52_1⟩ := f2_ BK102
          obtain ⟨Ao53, co53, eo53⟩ := Kd.R_slice HO_111001.out
          subst eo53
          go_wp2
          refine bodyPost_ret (results_ct rfl _ _ gb102 25 #[.slice Ao50 x111000_1.length co50, .slice Ao53 x111001_1.length co53] (0, 0) _ rfl (by (with_reducible repeat (first | refine blk_drewN ?_ _ | refine blk_drew ?_ | refine blk_alloc ?_ _)); refine blk_put (cs := #[.slice Ao50 x111000_1.length co50, .slice none 0 0]) ?_ 1 _ rfl; (with_reducible repeat (first | refine blk_drewN ?_ _ | refine blk_drew ?_ | refine blk_alloc ?_ _)); refine blk_put (cs := #[.slice none 0 0, .slice none 0 0]) ?_ 0 _ rfl; (with_reducible repeat (first | refine blk_drewN ?_ _ | refine blk_drew ?_ | refine blk_alloc ?_ _)); exact BK102.out) Tryd.underlying25 rfl (by kernel_rfl)) rfl ?_
          exact ⟨_, _, Re_, by (with_reducible repeat (first | apply Kd.R_alloc | apply Kd.R_drewN | apply Kd.R_drew)); exact Kd.R_mono (Kd.R_far (p := ⟨gb102, 1, none⟩) (Kd.R_far (p := ⟨gb102, 0, none⟩) (Kd.R_types HO_111000.out BK102.out (by decide)) (fun _ hk => hk.2) (.slice Ao50 x111000_1.length co50)) (fun _ hk => hk.2) (.slice Ao53 x111001_1.length co53)) (fun _ hk => hk.1), by (with_reducible repeat (first | apply Kd.R_alloc | apply Kd.R_drewN | apply Kd.R_drew)); exact Kd.R_mono (Kd.R_far (p := ⟨gb102, 1, none⟩) (Kd.R_far (p := ⟨gb102, 0, none⟩) (Kd.R_types HO_111001.out BK102.out (by decide)) (fun _ hk => hk.2) (.slice Ao50 x111000_1.length co50)) (fun _ hk => hk.2) (.slice Ao53 x111001_1.length co53)) (fun _ hk => hk.1), Bl_⟩
  · replace c3 := Bool.eq_false_iff.mpr c3
    subst c3
    have H1 : (some (([] : List Int), ([] : List ByteArray), 1)) = some (r1, r2, r3) := by rw [if_neg (show ¬ (false = true) by decide)] at H; exact H
    clear H
    have H := H1
    clear H1
    simp only [Option.some.injEq, Prod.mk.injEq] at H
    obtain ⟨rfl, rfl, rfl⟩ := H
    go_enter Tryd.func27, Tryd.ntmps27
    go_wp2_with (first | ((with_reducible refine gate_dst (N := 1) rfl ?_); refine bx_ 1 #[.slice A0_0 l0_0.length c0_0, .slice A0_1 l0_1.length c0_1] 25 ?_; intro gb101 hg w54 hbox hb; replace HO0_0 := Aside0.mk (Kd.V_below (Kd.V_elderB (Pv_ HO0_0.out) gb101 (Nat.le_of_eq hg.symm)) hb); replace HO0_1 := Aside0.mk (Kd.V_below (Kd.V_elderB (Pv_ HO0_1.out) gb101 (Nat.le_of_eq hg.symm)) hb); have BK101 := Aside0.mk (hbox); have GW101 := (Bg_ hg : Aside0 (w.heap.size ≤ gb101)); have GE101 := (Bg_ hg : Aside0 (w.heap.size ≤ gb101)); replace HB := Bs_ hb; clear hb hbox hg) | ((with_reducible refine gate_dst (N := 2) rfl ?_); refine bx_ 2 #[.slice none 0 0, .slice none 0 0] 25 ?_; intro gb102 hg w55 hbox hb; replace HO0_0 := Aside0.mk (Kd.V_below (Kd.V_elderB (Pv_ HO0_0.out) gb102 (Nat.le_of_eq hg.symm)) hb); replace HO0_1 := Aside0.mk (Kd.V_below (Kd.V_elderB (Pv_ HO0_1.out) gb102 (Nat.le_of_eq hg.symm)) hb); have BK102 := Aside0.mk (hbox); have GW102 := (Bg_ hg : Aside0 (w.heap.size ≤ gb102)); have GE102 := (Bg_ hg : Aside0 (w.heap.size ≤ gb102)); replace HB := Bs_ hb; have NB101_102 := nl_ hg BK101; have NB102_101 := ng_ hg BK101; replace BK101 := kb_ BK101 hb; clear hb hbox hg; have hnb56 := NB101_102.out; have hnc56 := NB102_101.out; obtain ⟨hcz57_0, hcz57_1⟩ := c2_ BK101; obtain ⟨hfz57_0, hfz57_1⟩ := f2_ BK101) | ((with_reducible refine gate_dst (N := 11) rfl ?_); refine Kd.N_lit k25 _ 25 ?hg (N' := 11) ?hd (xs := ([(⟨l0_0, l0_1⟩ : S25)] : List (S25))) (inner := [.slice A0_0 l0_0.length c0_0, .slice A0_1 l0_1.length c0_1]) (ok := (fun k_ => ((P0_0_ k_ ∨ P0_1_ k_) ∨ w.heap.size ≤ k_) ∧ k_ ≠ gb101 ∧ k_ ≠ gb102)) (okp := (fun k_ => ((P0_0_ k_ ∨ P0_1_ k_) ∨ w.heap.size ≤ k_) ∧ k_ ≠ gb101 ∧ k_ ≠ gb102)) ?hr ?hp (fun _ hk => hk) ((show ∀ k_, w55.heap.size ≤ k_ → (fun k_ => ((P0_0_ k_ ∨ P0_1_ k_) ∨ w.heap.size ≤ k_) ∧ k_ ≠ gb101 ∧ k_ ≠ gb102) k_ from fun k_ hk => ⟨(.inr (Nat.le_trans Bz_ hk)), Kd.freshB (g := gb101) (o := .cells #[.slice A0_0 l0_0.length c0_0, .slice A0_1 l0_1.length c0_1] 25 (0, 0)) (Bk_ BK101.out) k_ hk, Kd.freshB (g := gb102) (o := .cells #[.slice none 0 0, .slice none 0 0] 25 (0, 0)) (Bk_ BK102.out) k_ hk⟩) _ (Nat.le_refl _)) (Below.refl _ _) (Nat.le_refl _) (by simp) ?_; (case hd => rfl); (case hg => rfl); (case hr => first | (go_simp; done) | (go_simp; rfl)); (case hp => exact (Reps.c2 (show Kd.FK k25 _ _ (⟨l0_0, l0_1⟩ : S25) [.slice A0_0 l0_0.length c0_0, .slice A0_1 l0_1.length c0_1] from (k25_mkF _ _ (⟨l0_0, l0_1⟩ : S25) (Kd.V_reads' (Kd.V_mono (ok' := (fun k_ => ((P0_0_ k_ ∨ P0_1_ k_) ∨ w.heap.size ≤ k_) ∧ k_ ≠ gb101 ∧ k_ ≠ gb102)) (HO0_0.out) (fun k_ hk => ⟨hk.1.1, ⟨hk.1.2, hk.2⟩⟩))).2.1 (Kd.V_F (Kd.V_mono (ok' := (fun k_ => ((P0_0_ k_ ∨ P0_1_ k_) ∨ w.heap.size ≤ k_) ∧ k_ ≠ gb101 ∧ k_ ≠ gb102)) (HO0_0.out) (fun k_ hk => ⟨hk.1.1, ⟨hk.1.2, hk.2⟩⟩))) (Kd.V_reads' (Kd.V_mono (ok' := (fun k_ => ((P0_0_ k_ ∨ P0_1_ k_) ∨ w.heap.size ≤ k_) ∧ k_ ≠ gb101 ∧ k_ ≠ gb102)) (HO0_1.out) (fun k_ hk => ⟨hk.1.1, ⟨hk.1.2, hk.2⟩⟩))).2.1 (Kd.V_F (Kd.V_mono (ok' := (fun k_ => ((P0_0_ k_ ∨ P0_1_ k_) ∨ w.heap.size ≤ k_) ∧ k_ ≠ gb101 ∧ k_ ≠ gb102)) (HO0_1.out) (fun k_ hk => ⟨hk.1.1, ⟨hk.1.2, hk.2⟩⟩))))) (Reps.none _ _))); intro v104 w58 ho59 hb hg_ hnew_; clear hg_ hnew_; (first | rw [← Ny103.out] at ho59 | (simp only [Int.reduceToNat] at ho59; rw [← Ny103.out] at ho59)); replace HO0_0 := Aside0.mk (Kd.V_elder' (Pv_ HO0_0.out) (Kd.N_base ho59) hb); replace HO0_1 := Aside0.mk (Kd.V_elder' (Pv_ HO0_1.out) (Kd.N_base ho59) hb); have HO105 := Aside0.mk (Kd.N_lower ho59 Bz_); replace BK101 := kb_ BK101 hb; replace BK102 := kb_ BK102 hb; replace HB := Bs_ hb; clear hb ho59; obtain ⟨Ao60, co60, eo60⟩ := Kd.N_slice HO105.out; subst eo60) | ((with_reducible refine gate_callee (f := 50) rfl ?_); refine goesL_ (some 12) rfl rfl Tryd.func50 (by kernel_rfl) rfl #[.slice Ao60 y103.length co60] rfl Ga_ ?_; (with_reducible refine (mould_fine.calls k _ _ y103 false _ ?side1 ?side2 A2.out).mono ?_); (case side1 => exact Pc_ ((Kd.N_reads' HO105.out).2.2)); (case side2 => exact (Kd.N_reads' HO105.out).2.1); rintro e w61 ⟨rfl, hb⟩; refine ⟨_, rfl, ?_⟩; replace HO0_0 := Aside0.mk (Kd.V_below (Pv_ HO0_0.out) hb); replace HO0_1 := Aside0.mk (Kd.V_below (Pv_ HO0_1.out) hb); replace HO105 := Aside0.mk (Kd.N_below (by (with_reducible repeat (first | apply Kd.N_alloc | apply Kd.N_drewN | apply Kd.N_drew)); exact HO105.out) hb); replace BK101 := kb_ BK101 hb; replace BK102 := kb_ BK102 hb; replace HB := Bs_ hb; (try clear hb); (try clear hb2); (try clear hk); (try clear hi); obtain ⟨hcz62_0, hcz62_1⟩ := c2_ BK102; obtain ⟨hfz62_0, hfz62_1⟩ := f2_ BK102))
    refine bodyPost_ret (results_ct rfl _ _ gb102 25 #[.slice none 0 0, .slice none 0 0] (0, 0) _ rfl (by (with_reducible repeat (first | refine blk_drewN ?_ _ | refine blk_drew ?_ | refine blk_alloc ?_ _)); refine blk_put (cs := #[.slice none 0 0, .slice none 0 0]) ?_ 1 _ rfl; (with_reducible repeat (first | refine blk_drewN ?_ _ | refine blk_drew ?_ | refine blk_alloc ?_ _)); refine blk_put (cs := #[.slice none 0 0, .slice none 0 0]) ?_ 0 _ rfl; (with_reducible repeat (first | refine blk_drewN ?_ _ | refine blk_drew ?_ | refine blk_alloc ?_ _)); exact BK102.out) Tryd.underlying25 rfl (by kernel_rfl)) rfl ?_
    exact ⟨_, _, Re_, by first | exact Kd.R_nil _ _ _ _ _ | exact Kd.N_nil _ _ _ _ _ | exact Kd.V_nil _ _ _ _ _ | exact Kd.Q_nil _ _ _ _ _ | exact Kd.S_nil _ _ _ _ _, by first | exact Kd.R_nil _ _ _ _ _ | exact Kd.N_nil _ _ _ _ _ | exact Kd.V_nil _ _ _ _ _ | exact Kd.Q_nil _ _ _ _ _ | exact Kd.S_nil _ _ _ _ _, Bl_⟩
/-! ### val_All: function 65 -/
def val_All.l0 : Nat → List Int → List ByteArray → Int → Int → Option (List Int × Int)
  | 0, _, _, _, _ => none
  | k + 1, x4, x10, x11, x12 => if x12 < x11 then (if 0 ≤ x12 then (if x12 < (x10.length : Int) then ((val_one.f (rdOf ByteArray.empty x10 x12)).bind fun bt103 => (if bt103.2 = 0 then (if x4.length < 17592186044416 then (val_All.l0 k (x4 ++ [bt103.1]) x10 x11 (wrap64 (x12 + 1))) else (none)) else (some (([] : List Int), bt103.2)))) else (none)) else (none)) else (some (x4, 0))
def val_All.f (k : Nat) (l0_0 : List Int) (l0_1 : List ByteArray) : Option (List Int × Int) := val_All.l0 k ([] : List Int) l0_1 (l0_1.length : Int) 0
set_option maxHeartbeats 8000000 in
set_option maxRecDepth 100000 in
theorem val_All.calls (k : Nat) (A0_0 : Option Addr) (c0_0 : Nat) (l0_0 : List Int) (A0_1 : Option Addr) (c0_1 : Nat) (l0_1 : List ByteArray) (r1 : List Int) (r2 : Int) (w : World) (hr0_0 : Kd.C (Kd.int .i64) w A0_0 l0_0.length l0_0) (hc0_0 : l0_0.length ≤ c0_0) (hr0_1 : Kd.C Kd.string w A0_1 l0_1.length l0_1) (hc0_1 : l0_1.length ≤ c0_1) (h : val_All.f k l0_0 l0_1 = some (r1, r2)) (hG : Glob w) :
    Calls Tryd.prog 65 #[.agg #[.slice A0_0 l0_0.length c0_0, .slice A0_1 l0_1.length c0_1]] w fun e w' => ∃ v0_ : Value, e = .returned (.tuple #[v0_, .int .i64 r2]) ∧ Kd.R (Kd.int .i64) 3 w' w.heap.size (fun _ => True) v0_ r1 ∧ Below w.heap.size w w' := by
  have hu25 := Tryd.underlying25
  have HR0_0 := Aside0.mk hr0_0
  have HC0_0 := Aside0.mk hc0_0
  clear hr0_0 hc0_0
  have HR0_1 := Aside0.mk hr0_1
  have HC0_1 := Aside0.mk hc0_1
  clear hr0_1 hc0_1
  have HB := Aside0.mk (Below.refl w.heap.size w)
  have H : (val_All.l0 k ([] : List Int) l0_1 (l0_1.length : Int) 0) = some (r1, r2) := h
  clear h
  have H' := Aside0.mk H
  clear H
  go_enter Tryd.func65, Tryd.ntmps65
  go_wp2_with (first | ((with_reducible refine gate_dst (N := 1) rfl ?_); refine bx_ 1 #[.slice A0_0 l0_0.length c0_0, .slice A0_1 l0_1.length c0_1] 25 ?_; intro gb101 hg w2 hbox hb; have BK101 := Aside0.mk (hbox); have GW101 := (Bg_ hg : Aside0 (w.heap.size ≤ gb101)); have GE101 := (Bg_ hg : Aside0 (w.heap.size ≤ gb101)); replace HB := Bs_ hb; clear hb hbox hg; obtain ⟨hcz3_0, hcz3_1⟩ := c2_ BK101; obtain ⟨hfz3_0, hfz3_1⟩ := f2_ BK101))
  go_loopg [4, 12] k (fun kq v4 v12 w' => ∃ (x4_1 : List Int) (x12_1 : Int), v12 = .int .i64 x12_1 ∧ Aside0 (val_All.l0 kq x4_1 l0_1 (l0_1.length : Int) x12_1 = some (r1, r2)) ∧ Aside0 (kq ≤ k) ∧ Aside0 (Kd.R (Kd.int .i64) 3 w' w.heap.size (fun _ => True) v4 x4_1) ∧ Aside0 (w'.heap[gb101]? = some (.cells #[(.slice A0_0 l0_0.length c0_0), (.slice A0_1 l0_1.length c0_1)] 25 (0, 0))) ∧ Aside0 (Below w.heap.size w w'))
  case atStart => exact ⟨(([] : List Int)), (0), Rf_, H', ⟨Nat.le_refl _⟩, ⟨by first | exact Kd.R_nil _ _ _ _ _ | exact Kd.N_nil _ _ _ _ _ | exact Kd.V_nil _ _ _ _ _ | exact Kd.Q_nil _ _ _ _ _ | exact Kd.S_nil _ _ _ _ _⟩, ⟨by (with_reducible repeat (first | refine blk_drewN ?_ _ | refine blk_drew ?_ | refine blk_alloc ?_ _)); exact BK101.out⟩, ⟨Bl_⟩⟩
  case round =>
    clear H'
    try clear p2
    try clear hcz3_0
    try clear hcz3_1
    try clear hfz3_0
    try clear hfz3_1
    obtain ⟨x4_1, x12_1, rfl, HA, HK1, HO_4, BK101, HB⟩ := hrel
    cases gk with
    | zero => exact absurd HA.out (by simp [val_All.l0])
    | succ k1 =>
      have H := HA.out
      clear HA
      simp only [val_All.l0] at H
      by_cases c4 : x12_1 < (l0_1.length : Int)
      · rw [if_pos c4] at H
        have c4b0 : decide (x12_1 < (l0_1.length : Int)) = true := decide_eq_true c4
        clear c4
        by_cases c5 : 0 ≤ x12_1
        · rw [if_pos c5] at H
          have c5b0 : decide (0 ≤ x12_1) = true := decide_eq_true c5
          clear c5
          by_cases c6 : x12_1 < (l0_1.length : Int)
          · rw [if_pos c6] at H
            have c6b0 : decide (x12_1 < (l0_1.length : Int)) = true := decide_eq_true c6
            clear c6
            obtain ⟨⟨t103, t104⟩, A7, H⟩ := bnd_ H
            try dsimp -simprocs only at H
            by_cases c8 : t104 = 0
            · rw [if_pos c8] at H
              have c8b0 : (t104 == 0) = true := beq_iff_eq.mpr c8
              have c8b1 : (t104 != 0) = false := bne_eq_false_iff_eq.mpr c8
              clear c8
              by_cases c9 : x4_1.length < 17592186044416
              · rw [if_pos c9] at H
                have LMc9 := Aside0.mk c9
                clear c9
                obtain ⟨y105, hy105⟩ : ∃ y_ : List Int, y_ = (x4_1 ++ [t103]) := ⟨_, rfl⟩
                replace H : (val_All.l0 k1 y105 l0_1 (l0_1.length : Int) (wrap64 (x12_1 + 1))) = some (r1, r2) := by first | (rw [hy105]; with_reducible exact H) | (have H2_ := (Option.bind_some _ _).symm.trans H; rw [hy105]; with_reducible exact H2_) | (have H2_ := (Option.bind_some _ _).symm.trans H; with_reducible exact H2_) | with_reducible exact H | (rw [hy105]; exact H) | exact H
                have Ny105 := Aside0.mk hy105
                clear hy105
                have H' := Aside0.mk H
                clear H
                have p102 : 0 ≤ (x12_1 : Int) := of_decide_eq_true As_
                have q102 : x12_1 < (l0_1.length : Int) := of_decide_eq_true As_
                obtain ⟨ad102, e102, hx102_0⟩ := Kd.at_string HR0_1.out x12_1 p102 q102
                cases e102
                replace hx102_0 := (HB.out.cell (World.block_lt_of_cell? w _ hx102_0)).trans hx102_0
                replace p102 := eq_true p102
                replace q102 := eq_true q102
                go_wp2_with (first | ((with_reducible refine gate_callee (f := 86) rfl ?_); refine goesL_ (some 18) rfl rfl Tryd.func86 (by kernel_rfl) rfl #[.string (rdOf ByteArray.empty l0_1 x12_1)] rfl Ga_ ?_; (with_reducible refine (val_one.calls (rdOf ByteArray.empty l0_1 x12_1) t103 t104 _ A7.out ?side1).mono ?_); (case side1 => first | exact hG | exact Glob.below hG Bl_); rintro e w10 ⟨rfl, hb⟩; refine ⟨_, rfl, ?_⟩; replace HO_4 := Aside0.mk (Kd.R_below (Pr_ HO_4.out) hb); replace BK101 := kb_ BK101 hb; replace HB := Bs_ hb; (try clear hb); (try clear hb2); (try clear hk); (try clear hi)) | ((with_reducible refine gate_builtin (b := .append) (xs := #[.tmp 24, .tmp 26]) rfl ?_); at_builtin; refine Kd.R_append (Kd.int .i64) (w0 := w) w.heap.size rfl (.tmp 24) (.tmp 26) 22 3 (.int .i64 0) 8 rfl Tryd.underlying22 info3 rfl (by decide) (by omega) u4 x4_1 t103 [.int .i64 t103] (fun _ => True) (fun _ => False) rfl rfl ?aP (fun _ hk => hk.elim) ?aF ?aO ?aB ?aS ?aL ?_; (case aP => exact rfl); (case aB => exact Bl_); (case aF => exact (fun _ _ => trivial)); (case aO => exact (Pr_ HO_4.out)); (case aS => exact Bz_); (case aL => have := LMc9.out; omega); intro v106 w11 ho hb hg hat; rw [← Ny105.out] at ho; replace BK101 := kg_ BK101 hg (Kd.R_ne HO_4.out BK101.out (by decide)); replace HB := Aside0.mk (hb); have HO107 := Aside0.mk (ho); clear HO_4; clear ho hb hg hat))
                go_roundg k1
                case measure => have := HK1.out; omega
                case rel => exact ⟨(y105), (wrap64 (x12_1 + 1)), Rf_, H', ⟨by have := HK1.out; omega⟩, ⟨by (with_reducible repeat (first | apply Kd.R_alloc | apply Kd.R_drewN | apply Kd.R_drew)); exact HO107.out⟩, ⟨by (with_reducible repeat (first | refine blk_drewN ?_ _ | refine blk_drew ?_ | refine blk_alloc ?_ _)); exact BK101.out⟩, ⟨Bl_⟩⟩
              · rw [if_neg c9] at H
                exact absurd H (by simp)
            · rw [if_neg c8] at H
              have c8b0 : (t104 == 0) = false := beq_eq_false_iff_ne.mpr c8
              have c8b1 : (t104 != 0) = true := bne_iff_ne.mpr c8
              simp only [Option.some.injEq, Prod.mk.injEq] at H
              obtain ⟨rfl, rfl⟩ := H
              have p102 : 0 ≤ (x12_1 : Int) := of_decide_eq_true As_
              have q102 : x12_1 < (l0_1.length : Int) := of_decide_eq_true As_
              obtain ⟨ad102, e102, hx102_0⟩ := Kd.at_string HR0_1.out x12_1 p102 q102
              cases e102
              replace hx102_0 := (HB.out.cell (World.block_lt_of_cell? w _ hx102_0)).trans hx102_0
              replace p102 := eq_true p102
              replace q102 := eq_true q102
              go_wp2_with (first | ((with_reducible refine gate_callee (f := 86) rfl ?_); refine goesL_ (some 18) rfl rfl Tryd.func86 (by kernel_rfl) rfl #[.string (rdOf ByteArray.empty l0_1 x12_1)] rfl Ga_ ?_; (with_reducible refine (val_one.calls (rdOf ByteArray.empty l0_1 x12_1) t103 t104 _ A7.out ?side1).mono ?_); (case side1 => first | exact hG | exact Glob.below hG Bl_); rintro e w12 ⟨rfl, hb⟩; refine ⟨_, rfl, ?_⟩; replace HO_4 := Aside0.mk (Kd.R_below (Pr_ HO_4.out) hb); replace BK101 := kb_ BK101 hb; replace HB := Bs_ hb; (try clear hb); (try clear hb2); (try clear hk); (try clear hi)))
              go_ret2
              exact ⟨_, Re_, by first | exact Kd.R_nil _ _ _ _ _ | exact Kd.N_nil _ _ _ _ _ | exact Kd.V_nil _ _ _ _ _ | exact Kd.Q_nil _ _ _ _ _ | exact Kd.S_nil _ _ _ _ _, Bl_⟩
          · rw [if_neg c6] at H
            exact absurd H (by simp)
        · rw [if_neg c5] at H
          exact absurd H (by simp)
      · rw [if_neg c4] at H
        have c4b0 : decide (x12_1 < (l0_1.length : Int)) = false := decide_eq_false c4
        clear c4
        simp only [Option.some.injEq, Prod.mk.injEq] at H
        obtain ⟨rfl, rfl⟩ := H
        go_wp2
        go_ret2
        exact ⟨_, Re_, by (with_reducible repeat (first | apply Kd.R_alloc | apply Kd.R_drewN | apply Kd.R_drew)); exact HO_4.out, Bl_⟩

end Go.Proofs.YtfjilihppnndkaaDoor.P
