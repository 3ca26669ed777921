-- Written by drive.py of this claim's own session, by way of the kit's print. Lean checks it.
import Derived.Test.YtfjilihppnndkaaDoorTN1
import Derived.Test.YtfjilihppnndkaaDoorTN4
namespace Go.Proofs.YtfjilihppnndkaaDoor.P
open Go.RowKit Go.Proofs.YtfjilihppnndkaaDoorW.PrintWords Go.Proofs.YtfjilihppnndkaaDoorW.PrintLast Go.Proofs.YtfjilihppnndkaaDoorW.PrintMore
attribute [local go_sem] max2_int min2_int max_two min_two max_three min_three max_four min_four   -- for this text's walks alone
set_option linter.unusedVariables false
set_option linter.unusedSimpArgs false

/-! ### reredosref01_size: function 104 -/
def reredosref01_size.f (a0 : ByteArray) : Option (ByteArray) := (reredosref01_low.f a0).bind fun t198 => (if t198 = true then (if 1 ≤ (a0.size : Int) then (some (a0.extract 1 a0.size)) else (none)) else (some a0))
set_option maxHeartbeats 8000000 in
set_option maxRecDepth 100000 in
theorem reredosref01_size.calls (a0 : ByteArray) (r : ByteArray) (w : World) (h : reredosref01_size.f a0 = some r) :
    Calls Tryd.prog 104 #[.string a0] w fun e w' => e = .returned (.string r) ∧ Drawn0 w w' := by
  have H : ((reredosref01_low.f a0).bind fun t198 => (if t198 = true then (if 1 ≤ (a0.size : Int) then (some (a0.extract 1 a0.size)) else (none)) else (some a0))) = some r := h
  clear h
  obtain ⟨t198, A2, H⟩ := bnd_ H
  try dsimp -simprocs only at H
  by_cases c3 : t198 = true
  · subst c3
    have H1 : (if 1 ≤ (a0.size : Int) then (some (a0.extract 1 a0.size)) else (none)) = some r := by rw [if_pos rfl] at H; exact H
    clear H
    have H := H1
    clear H1
    by_cases c4 : 1 ≤ (a0.size : Int)
    · rw [if_pos c4] at H
      have c4b0 := eq_true c4
      have c4b1 : decide (1 ≤ (a0.size : Int)) = true := decide_eq_true c4
      clear c4
      obtain rfl := Option.some.inj H
      go_enter Tryd.func104, Tryd.ntmps104
      go_wp2_with (first | ((with_reducible refine gate_callee (f := 105) rfl ?_); refine goesL_ (some 4) rfl rfl Tryd.func105 (by kernel_rfl) rfl #[.string a0] rfl Ga_ ?_; (with_reducible refine (reredosref01_low.calls a0 true _ A2.out).mono ?_); rintro e w' ⟨rfl, ⟨nd, rfl⟩⟩; refine ⟨_, rfl, ?_⟩))
      go_ret
      exact ⟨Rf_, Dw_⟩
    · rw [if_neg c4] at H
      exact absurd H (by simp)
  · replace c3 := Bool.eq_false_iff.mpr c3
    subst c3
    have H1 : (some a0) = some r := by rw [if_neg (show ¬ (false = true) by decide)] at H; exact H
    clear H
    have H := H1
    clear H1
    obtain rfl := Option.some.inj H
    go_enter Tryd.func104, Tryd.ntmps104
    go_wp2_with (first | ((with_reducible refine gate_callee (f := 105) rfl ?_); refine goesL_ (some 4) rfl rfl Tryd.func105 (by kernel_rfl) rfl #[.string a0] rfl Ga_ ?_; (with_reducible refine (reredosref01_low.calls a0 false _ A2.out).mono ?_); rintro e w' ⟨rfl, ⟨nd, rfl⟩⟩; refine ⟨_, rfl, ?_⟩))
    go_ret
    exact ⟨Rf_, Dw_⟩
/-! ### reredosref01_bare: function 148 -/
def reredosref01_bare.l0 : Nat → ByteArray → Option (ByteArray)
  | 0, _ => none
  | k + 1, x0 => if (x0.size : Int) > 1 then (if 0 < (x0.size : Int) then (if (bt x0 0) = 48 then (if 1 ≤ (x0.size : Int) then (reredosref01_bare.l0 k (x0.extract 1 x0.size)) else (none)) else (if x0.toList = ([] : List UInt8) then (some (⟨#[48]⟩ : ByteArray)) else (some x0))) else (none)) else (if x0.toList = ([] : List UInt8) then (some (⟨#[48]⟩ : ByteArray)) else (some x0))
def reredosref01_bare.f (k : Nat) (a0 : ByteArray) : Option (ByteArray) := reredosref01_bare.l0 k a0
set_option maxHeartbeats 8000000 in
set_option maxRecDepth 100000 in
theorem reredosref01_bare.calls (k : Nat) (a0 : ByteArray) (r : ByteArray) (w : World) (h : reredosref01_bare.f k a0 = some r) :
    Calls Tryd.prog 148 #[.string a0] w fun e w' => e = .returned (.string r) ∧ Drawn0 w w' := by
  have H : (reredosref01_bare.l0 k a0) = some r := h
  clear h
  have H' := Aside0.mk H
  clear H
  go_enter Tryd.func148, Tryd.ntmps148
  go_wp2
  go_loopg [0] k (fun kq v0 w' => ∃ (x0_1 : ByteArray), v0 = .string x0_1 ∧ Aside0 (reredosref01_bare.l0 kq x0_1 = some r) ∧ Aside0 (kq ≤ k) ∧ Drawn0 w w')
  case atStart => exact ⟨(a0), Rf_, H', ⟨Nat.le_refl _⟩, Dw_⟩
  case round =>
    clear H'
    try clear c1
    obtain ⟨x0_1, rfl, HA, HK1, ⟨m1, rfl⟩⟩ := hrel
    cases gk with
    | zero => exact absurd HA.out (by simp [reredosref01_bare.l0])
    | succ k1 =>
      have H := HA.out
      clear HA
      simp only [reredosref01_bare.l0] at H
      by_cases c2 : (x0_1.size : Int) > 1
      · rw [if_pos c2] at H
        have c2b0 : decide (1 < (x0_1.size : Int)) = true := decide_eq_true c2
        have c2b1 : decide (1 < x0_1.size) = true := decide_eq_true (by omega)
        clear c2
        by_cases c3 : 0 < (x0_1.size : Int)
        · rw [if_pos c3] at H
          have c3b0 : decide (0 < (x0_1.size : Int)) = true := decide_eq_true c3
          have c3b1 : decide (0 < x0_1.size) = true := decide_eq_true (by omega)
          clear c3
          by_cases c5 : (bt x0_1 0) = 48
          · rw [if_pos c5] at H
            have c5b0 : ((bt x0_1 0) == 48) = true := beq_iff_eq.mpr c5
            have c5b1 : ((bt x0_1 0) != 48) = false := bne_eq_false_iff_eq.mpr c5
            clear c5
            by_cases c6 : 1 ≤ (x0_1.size : Int)
            · rw [if_pos c6] at H
              have c6b0 := eq_true c6
              have c6b1 : decide (1 ≤ (x0_1.size : Int)) = true := decide_eq_true c6
              clear c6
              have H' := Aside0.mk H
              clear H
              have p4 : 0 ≤ (0 : Int) := (by omega)
              have q4 : 0 < x0_1.size := (by have : (0 : Int) < (x0_1.size : Int) := of_decide_eq_true As_; omega)
              have hx4 : ∀ h : 0 < x0_1.size, ((x0_1[0]'h).toNat : Int) = bt x0_1 0 := bt_at x0_1 0
              clear p4
              have qi4 : (0 < (x0_1.size : Int)) = True := eq_true (of_decide_eq_true As_)
              replace q4 := eq_true q4
              go_wp2
              go_roundg k1
              case measure => have := HK1.out; omega
              case rel => exact ⟨(x0_1.extract 1 x0_1.size), Rf_, H', ⟨by have := HK1.out; omega⟩, Dw_⟩
            · rw [if_neg c6] at H
              exact absurd H (by simp)
          · rw [if_neg c5] at H
            have c5b0 : ((bt x0_1 0) == 48) = false := beq_eq_false_iff_ne.mpr c5
            have c5b1 : ((bt x0_1 0) != 48) = true := bne_iff_ne.mpr c5
            by_cases c7 : x0_1.toList = ([] : List UInt8)
            · rw [if_pos c7] at H
              have c7b0 : (x0_1.toList == ([] : List UInt8)) = true := beq_iff_eq.mpr c7
              have c7b1 : (x0_1.toList != ([] : List UInt8)) = false := bne_eq_false_iff_eq.mpr c7
              clear c7
              obtain rfl := Option.some.inj H
              have p4 : 0 ≤ (0 : Int) := (by omega)
              have q4 : 0 < x0_1.size := (by have : (0 : Int) < (x0_1.size : Int) := of_decide_eq_true As_; omega)
              have hx4 : ∀ h : 0 < x0_1.size, ((x0_1[0]'h).toNat : Int) = bt x0_1 0 := bt_at x0_1 0
              clear p4
              have qi4 : (0 < (x0_1.size : Int)) = True := eq_true (of_decide_eq_true As_)
              replace q4 := eq_true q4
              go_wp2
              go_ret
              exact ⟨Rf_, Dw_⟩
            · rw [if_neg c7] at H
              have c7b0 : (x0_1.toList == ([] : List UInt8)) = false := beq_eq_false_iff_ne.mpr c7
              have c7b1 : (x0_1.toList != ([] : List UInt8)) = true := bne_iff_ne.mpr c7
              obtain rfl := Option.some.inj H
              have p4 : 0 ≤ (0 : Int) := (by omega)
              have q4 : 0 < x0_1.size := (by have : (0 : Int) < (x0_1.size : Int) := of_decide_eq_true As_; omega)
              have hx4 : ∀ h : 0 < x0_1.size, ((x0_1[0]'h).toNat : Int) = bt x0_1 0 := bt_at x0_1 0
              clear p4
              have qi4 : (0 < (x0_1.size : Int)) = True := eq_true (of_decide_eq_true As_)
              replace q4 := eq_true q4
              go_wp2
              go_ret
              exact ⟨Rf_, Dw_⟩
        · rw [if_neg c3] at H
          exact absurd H (by simp)
      · rw [if_neg c2] at H
        have c2b0 : decide (1 < (x0_1.size : Int)) = false := decide_eq_false c2
        have c2b1 : decide (1 < x0_1.size) = false := decide_eq_false (by omega)
        clear c2
        by_cases c8 : x0_1.toList = ([] : List UInt8)
        · rw [if_pos c8] at H
          have c8b0 : (x0_1.toList == ([] : List UInt8)) = true := beq_iff_eq.mpr c8
          have c8b1 : (x0_1.toList != ([] : List UInt8)) = false := bne_eq_false_iff_eq.mpr c8
          clear c8
          obtain rfl := Option.some.inj H
          go_wp2
          go_ret
          exact ⟨Rf_, Dw_⟩
        · rw [if_neg c8] at H
          have c8b0 : (x0_1.toList == ([] : List UInt8)) = false := beq_eq_false_iff_ne.mpr c8
          have c8b1 : (x0_1.toList != ([] : List UInt8)) = true := bne_iff_ne.mpr c8
          obtain rfl := Option.some.inj H
          go_wp2
          go_ret
          exact ⟨Rf_, Dw_⟩
/-! ### reredosref01_signed: function 141 -/
def reredosref01_signed.j0 : Nat → ByteArray → Bool → Option (ByteArray)
  | 0, _, _ => none
  | k + 1, x0, x10 => if x10 = true then ((reredosref01_bare.f k x0).bind fun t200 => (if 1 + t200.size ≤ 9223372036854775807 then (some ((⟨#[45]⟩ : ByteArray) ++ t200)) else (none))) else ((reredosref01_bare.f k x0).bind fun t201 => (some t201))
def reredosref01_signed.f (k : Nat) (a0 : ByteArray) (a1 : Bool) : Option (ByteArray) := if a1 = true then ((reredosref01_bare.f k a0).bind fun t199 => (reredosref01_signed.j0 k a0 (t199.toList != ([48] : List UInt8)))) else (reredosref01_signed.j0 k a0 false)
set_option maxHeartbeats 8000000 in
set_option maxRecDepth 100000 in
theorem reredosref01_signed.calls (k : Nat) (a0 : ByteArray) (a1 : Bool) (r : ByteArray) (w : World) (h : reredosref01_signed.f k a0 a1 = some r) :
    Calls Tryd.prog 141 #[.string a0, .bool a1] w fun e w' => e = .returned (.string r) ∧ Drawn0 w w' := by
  have H : (if a1 = true then ((reredosref01_bare.f k a0).bind fun t199 => (reredosref01_signed.j0 k a0 (t199.toList != ([48] : List UInt8)))) else (reredosref01_signed.j0 k a0 false)) = some r := h
  clear h
  have HC3 := Aside0.mk H
  clear H
  go_enter Tryd.func141, Tryd.ntmps141
  go_upto_region 1 with (fail)
  go_cut [10] (fun v10 wc => ∃ (kq : Nat) (x10_2 : Bool), v10 = .bool x10_2 ∧ Aside0 (reredosref01_signed.j0 kq a0 x10_2 = some r) ∧ Aside0 (kq ≤ k) ∧ Drawn0 w wc)
  case first =>
    have H := HC3.out
    clear HC3
    by_cases c4 : a1 = true
    · subst c4
      have H1 : ((reredosref01_bare.f k a0).bind fun t199 => (reredosref01_signed.j0 k a0 (t199.toList != ([48] : List UInt8)))) = some r := by rw [if_pos rfl] at H; exact H
      clear H
      have H := H1
      clear H1
      obtain ⟨t199, A5, H⟩ := bnd_ H
      try dsimp -simprocs only at H
      have H' := Aside0.mk H
      clear H
      go_wp2_with (first | (go_at_call 148; (with_reducible refine (reredosref01_bare.calls k a0 t199 _ A5.out).mono ?_); rintro e w' ⟨rfl, ⟨nd, rfl⟩⟩))
      go_meet
      case rel => exact ⟨_, ((t199.toList != ([48] : List UInt8))), Rf_, H', ⟨by first | omega | exact Nat.le_refl _⟩, Dw_⟩
    · replace c4 := Bool.eq_false_iff.mpr c4
      subst c4
      have H1 : (reredosref01_signed.j0 k a0 false) = some r := by rw [if_neg (show ¬ (false = true) by decide)] at H; exact H
      clear H
      have H := H1
      clear H1
      have H' := Aside0.mk H
      clear H
      go_wp2
      go_meet
      case rel => exact ⟨_, (false), Rf_, H', ⟨by first | omega | exact Nat.le_refl _⟩, Dw_⟩
  case rest =>
    clear HC3
    try clear c1
    try clear p2
    try clear c4
    obtain ⟨kq, x10_2, rfl, HA, HJ2, ⟨mc2, rfl⟩⟩ := hcut
    cases kq with
    | zero => exact absurd HA.out (by simp [reredosref01_signed.j0])
    | succ kj2 =>
      have H := HA.out
      clear HA
      simp only [reredosref01_signed.j0] at H
      by_cases c6 : x10_2 = true
      · subst c6
        have H1 : ((reredosref01_bare.f kj2 a0).bind fun t200 => (if 1 + t200.size ≤ 9223372036854775807 then (some ((⟨#[45]⟩ : ByteArray) ++ t200)) else (none))) = some r := by rw [if_pos rfl] at H; exact H
        clear H
        have H := H1
        clear H1
        obtain ⟨t200, A7, H⟩ := bnd_ H
        try dsimp -simprocs only at H
        by_cases c8 : 1 + t200.size ≤ 9223372036854775807
        · rw [if_pos c8] at H
          have c8b0 := eq_true c8
          have c8b1 : decide (1 + t200.size ≤ 9223372036854775807) = true := decide_eq_true c8
          try have c8b2 : (9223372036854775807 < 1 + t200.size) = False := eq_false (Nat.not_lt.2 c8)
          obtain rfl := Option.some.inj H
          go_wp2_with (first | ((with_reducible refine gate_callee (f := 148) rfl ?_); refine goesL_ (some 12) rfl rfl Tryd.func148 (by kernel_rfl) rfl #[.string a0] rfl Ga_ ?_; (with_reducible refine (reredosref01_bare.calls kj2 a0 t200 _ A7.out).mono ?_); rintro e w' ⟨rfl, ⟨nd, rfl⟩⟩; refine ⟨_, rfl, ?_⟩))
          go_ret
          exact ⟨Rf_, Dw_⟩
        · rw [if_neg c8] at H
          exact absurd H (by simp)
      · replace c6 := Bool.eq_false_iff.mpr c6
        subst c6
        have H1 : ((reredosref01_bare.f kj2 a0).bind fun t201 => (some t201)) = some r := by rw [if_neg (show ¬ (false = true) by decide)] at H; exact H
        clear H
        have H := H1
        clear H1
        obtain ⟨t201, A9, H⟩ := bnd_ H
        try dsimp -simprocs only at H
        obtain rfl := Option.some.inj H
        go_wp2_with (first | ((with_reducible refine gate_callee (f := 148) rfl ?_); refine goesL_ (some 15) rfl rfl Tryd.func148 (by kernel_rfl) rfl #[.string a0] rfl Ga_ ?_; (with_reducible refine (reredosref01_bare.calls kj2 a0 t201 _ A9.out).mono ?_); rintro e w' ⟨rfl, ⟨nd, rfl⟩⟩; refine ⟨_, rfl, ?_⟩))
        go_ret
        exact ⟨Rf_, Dw_⟩
/-! ### reredosref01_bounded: function 125 -/
def reredosref01_bounded.f (k : Nat) (a0 : ByteArray) : Option (ByteArray) := (reredosref01_size.f a0).bind fun t202 => (if (t202.size : Int) > 100 then ((reredosref01_low.f a0).bind fun t203 => ((reredosref01_signed.f k (⟨#[49]⟩ : ByteArray) t203).bind fun t204 => (some t204))) else (some a0))
set_option maxHeartbeats 8000000 in
set_option maxRecDepth 100000 in
theorem reredosref01_bounded.calls (k : Nat) (a0 : ByteArray) (r : ByteArray) (w : World) (h : reredosref01_bounded.f k a0 = some r) :
    Calls Tryd.prog 125 #[.string a0] w fun e w' => e = .returned (.string r) ∧ Drawn0 w w' := by
  have H : ((reredosref01_size.f a0).bind fun t202 => (if (t202.size : Int) > 100 then ((reredosref01_low.f a0).bind fun t203 => ((reredosref01_signed.f k (⟨#[49]⟩ : ByteArray) t203).bind fun t204 => (some t204))) else (some a0))) = some r := h
  clear h
  obtain ⟨t202, A2, H⟩ := bnd_ H
  try dsimp -simprocs only at H
  by_cases c3 : (t202.size : Int) > 100
  · rw [if_pos c3] at H
    have c3b0 : decide (100 < (t202.size : Int)) = true := decide_eq_true c3
    have c3b1 : decide (100 < t202.size) = true := decide_eq_true (by omega)
    clear c3
    obtain ⟨t203, A4, H⟩ := bnd_ H
    try dsimp -simprocs only at H
    obtain ⟨t204, A5, H⟩ := bnd_ H
    try dsimp -simprocs only at H
    obtain rfl := Option.some.inj H
    go_enter Tryd.func125, Tryd.ntmps125
    go_wp2_with (first | ((with_reducible refine gate_callee (f := 104) rfl ?_); refine goesL_ (some 4) rfl rfl Tryd.func104 (by kernel_rfl) rfl #[.string a0] rfl Ga_ ?_; (with_reducible refine (reredosref01_size.calls a0 t202 _ A2.out).mono ?_); rintro e w' ⟨rfl, ⟨nd, rfl⟩⟩; refine ⟨_, rfl, ?_⟩) | ((with_reducible refine gate_callee (f := 105) rfl ?_); refine goesL_ (some 8) rfl rfl Tryd.func105 (by kernel_rfl) rfl #[.string a0] rfl Ga_ ?_; (with_reducible refine (reredosref01_low.calls a0 t203 _ A4.out).mono ?_); rintro e w' ⟨rfl, ⟨nd, rfl⟩⟩; refine ⟨_, rfl, ?_⟩) | ((with_reducible refine gate_callee (f := 141) rfl ?_); refine goesL_ (some 9) rfl rfl Tryd.func141 (by kernel_rfl) rfl #[.string (⟨#[49]⟩ : ByteArray), .bool t203] rfl Ga_ ?_; (with_reducible refine (reredosref01_signed.calls k (⟨#[49]⟩ : ByteArray) t203 t204 _ A5.out).mono ?_); rintro e w' ⟨rfl, ⟨nd, rfl⟩⟩; refine ⟨_, rfl, ?_⟩))
    go_ret
    exact ⟨Rf_, Dw_⟩
  · rw [if_neg c3] at H
    have c3b0 : decide (100 < (t202.size : Int)) = false := decide_eq_false c3
    have c3b1 : decide (100 < t202.size) = false := decide_eq_false (by omega)
    clear c3
    obtain rfl := Option.some.inj H
    go_enter Tryd.func125, Tryd.ntmps125
    go_wp2_with (first | ((with_reducible refine gate_callee (f := 104) rfl ?_); refine goesL_ (some 4) rfl rfl Tryd.func104 (by kernel_rfl) rfl #[.string a0] rfl Ga_ ?_; (with_reducible refine (reredosref01_size.calls a0 t202 _ A2.out).mono ?_); rintro e w' ⟨rfl, ⟨nd, rfl⟩⟩; refine ⟨_, rfl, ?_⟩))
    go_ret
    exact ⟨Rf_, Dw_⟩
/-! ### reredosref01_digit: function 149 -/
def reredosref01_digit.f (a0 : ByteArray) (a1 : Int) : Option (Int) := if a1 ≥ (a0.size : Int) then (some 0) else (if 0 ≤ (wrap64 ((wrap64 ((a0.size : Int) - 1)) - a1)) then (if (wrap64 ((wrap64 ((a0.size : Int) - 1)) - a1)) < (a0.size : Int) then (some (((bt a0 (wrap64 ((wrap64 ((a0.size : Int) - 1)) - a1))) - 48) % 256)) else (none)) else (none))
set_option maxHeartbeats 8000000 in
set_option maxRecDepth 100000 in
theorem reredosref01_digit.calls (a0 : ByteArray) (a1 : Int) (r : Int) (w : World) (h : reredosref01_digit.f a0 a1 = some r) :
    Calls Tryd.prog 149 #[.string a0, .int .i64 a1] w fun e w' => e = .returned (.int .i64 r) ∧ Drawn0 w w' := by
  have H : (if a1 ≥ (a0.size : Int) then (some 0) else (if 0 ≤ (wrap64 ((wrap64 ((a0.size : Int) - 1)) - a1)) then (if (wrap64 ((wrap64 ((a0.size : Int) - 1)) - a1)) < (a0.size : Int) then (some (((bt a0 (wrap64 ((wrap64 ((a0.size : Int) - 1)) - a1))) - 48) % 256)) else (none)) else (none))) = some r := h
  clear h
  by_cases c3 : a1 ≥ (a0.size : Int)
  · rw [if_pos c3] at H
    have c3b0 : decide ((a0.size : Int) ≤ a1) = true := decide_eq_true c3
    clear c3
    obtain rfl := Option.some.inj H
    go_enter Tryd.func149, Tryd.ntmps149
    go_wp2
    go_ret
    exact ⟨Rf_, Dw_⟩
  · rw [if_neg c3] at H
    have c3b0 : decide ((a0.size : Int) ≤ a1) = false := decide_eq_false c3
    clear c3
    obtain ⟨ji4, hji4⟩ : ∃ j_ : Int, (wrap64 ((wrap64 ((a0.size : Int) - 1)) - a1)) = j_ := ⟨_, rfl⟩
    replace H : (if 0 ≤ (ji4) then (if (ji4) < (a0.size : Int) then (some (((bt a0 (ji4)) - 48) % 256)) else (none)) else (none)) = some r := by first | (rw [hji4] at H; exact H) | (simp only [hji4] at H ⊢; exact H)
    have hji4w : (IntKind.i64.wrap ((wrap64 ((a0.size : Int) - 1)) - a1)) = ji4 := (i64_w _).trans hji4
    by_cases c5 : 0 ≤ (ji4)
    · rw [if_pos c5] at H
      have c5b0 : decide (0 ≤ (ji4)) = true := decide_eq_true c5
      clear c5
      by_cases c6 : (ji4) < (a0.size : Int)
      · rw [if_pos c6] at H
        have c6b0 : decide ((ji4) < (a0.size : Int)) = true := decide_eq_true c6
        clear c6
        obtain rfl := Option.some.inj H
        have p7 : 0 ≤ ((ji4) : Int) := of_decide_eq_true As_
        have q7 : (ji4) < (a0.size : Int) := of_decide_eq_true As_
        have hx7 := bt_at a0 (ji4)
        replace p7 := eq_true p7
        replace q7 := eq_true q7
        go_enter Tryd.func149, Tryd.ntmps149
        go_wp2
        go_ret
        exact ⟨by first | rfl | (simp; done) | (simp only [← hji4] <;> (first | rfl | simp)) | (simp [*]; done), Dw_⟩
      · rw [if_neg c6] at H
        exact absurd H (by simp)
    · rw [if_neg c5] at H
      exact absurd H (by simp)
/-! ### reredosref01_plus: function 142 -/
def reredosref01_plus.l0 : Nat → ByteArray → ByteArray → ByteArray → Int → Int → Option (ByteArray)
  | 0, _, _, _, _, _ => none
  | k + 1, x0, x1, x5, x6, x7 => if x7 ≤ (mx (x0.size : Int) (x1.size : Int)) then ((reredosref01_digit.f x0 x7).bind fun t205 => ((reredosref01_digit.f x1 x7).bind fun t206 => ((some (([(wrap64 (48 + (Int.tmod (wrap64 ((wrap64 (t205 + t206)) + x6)) 10))) % 256] : List Int) : List Int)).bind fun y207 => (if (strOfNums y207).size + x5.size ≤ 9223372036854775807 then (reredosref01_plus.l0 k x0 x1 ((strOfNums y207) ++ x5) (wrap64 (Int.tdiv (wrap64 ((wrap64 (t205 + t206)) + x6)) 10)) (wrap64 (x7 + 1))) else (none))))) else ((reredosref01_bare.f k x5).bind fun t210 => (some t210))
def reredosref01_plus.f (k : Nat) (a0 : ByteArray) (a1 : ByteArray) : Option (ByteArray) := reredosref01_plus.l0 k a0 a1 (⟨#[]⟩ : ByteArray) 0 0
set_option maxHeartbeats 8000000 in
set_option maxRecDepth 100000 in
theorem reredosref01_plus.calls (k : Nat) (a0 : ByteArray) (a1 : ByteArray) (r : ByteArray) (w : World) (h : reredosref01_plus.f k a0 a1 = some r) :
    Calls Tryd.prog 142 #[.string a0, .string a1] w fun e w' => e = .returned (.string r) ∧ Below w.heap.size w w' := by
  have HB := Aside0.mk (Below.refl w.heap.size w)
  have H : (reredosref01_plus.l0 k a0 a1 (⟨#[]⟩ : ByteArray) 0 0) = some r := h
  clear h
  have H' := Aside0.mk H
  clear H
  go_enter Tryd.func142, Tryd.ntmps142
  go_wp2
  go_loopg [5, 6, 7] k (fun kq v5 v6 v7 w' => ∃ (x5_1 : ByteArray) (x6_1 : Int) (x7_1 : Int), v5 = .string x5_1 ∧ v6 = .int .i64 x6_1 ∧ v7 = .int .i64 x7_1 ∧ Aside0 (reredosref01_plus.l0 kq a0 a1 x5_1 x6_1 x7_1 = some r) ∧ Aside0 (kq ≤ k) ∧ Aside0 (Below w.heap.size w w'))
  case atStart => exact ⟨((⟨#[]⟩ : ByteArray)), (0), (0), Rf_, Rf_, Rf_, H', ⟨Nat.le_refl _⟩, ⟨Bl_⟩⟩
  case round =>
    clear H'
    try clear c1
    try clear p2
    obtain ⟨x5_1, x6_1, x7_1, rfl, rfl, rfl, HA, HK1, HB⟩ := hrel
    cases gk with
    | zero => exact absurd HA.out (by simp [reredosref01_plus.l0])
    | succ k1 =>
      have H := HA.out
      clear HA
      simp only [reredosref01_plus.l0] at H
      obtain ⟨ji3, hji3⟩ : ∃ j_ : Int, (mx (a0.size : Int) (a1.size : Int)) = j_ := ⟨_, rfl⟩
      replace H : (if x7_1 ≤ (ji3) then ((reredosref01_digit.f a0 x7_1).bind fun t205 => ((reredosref01_digit.f a1 x7_1).bind fun t206 => ((some (([(wrap64 (48 + (Int.tmod (wrap64 ((wrap64 (t205 + t206)) + x6_1)) 10))) % 256] : List Int) : List Int)).bind fun y207 => (if (strOfNums y207).size + x5_1.size ≤ 9223372036854775807 then (reredosref01_plus.l0 k1 a0 a1 ((strOfNums y207) ++ x5_1) (wrap64 (Int.tdiv (wrap64 ((wrap64 (t205 + t206)) + x6_1)) 10)) (wrap64 (x7_1 + 1))) else (none))))) else ((reredosref01_bare.f k1 x5_1).bind fun t210 => (some t210))) = some r := by first | (rw [hji3] at H; exact H) | (simp only [hji3] at H ⊢; exact H)
      have hji3_ : (if (a0.size : Int) < (a1.size : Int) then (a1.size : Int) else (a0.size : Int)) = ji3 := hji3
      have hji3n_ : (if a0.size < a1.size then (a1.size : Int) else (a0.size : Int)) = ji3 := by rw [← hji3_]; simp only [Int.ofNat_lt]
      by_cases c4 : x7_1 ≤ (ji3)
      · rw [if_pos c4] at H
        have c4b0 : decide (x7_1 ≤ (ji3)) = true := decide_eq_true c4
        clear c4
        obtain ⟨t205, A5, H⟩ := bnd_ H
        try dsimp -simprocs only at H
        obtain ⟨t206, A6, H⟩ := bnd_ H
        try dsimp -simprocs only at H
        obtain ⟨y207, hy207⟩ : ∃ y_ : List Int, y_ = (([(wrap64 (48 + (Int.tmod (wrap64 ((wrap64 (t205 + t206)) + x6_1)) 10))) % 256] : List Int)) := ⟨_, rfl⟩
        replace H : (if (strOfNums y207).size + x5_1.size ≤ 9223372036854775807 then (reredosref01_plus.l0 k1 a0 a1 ((strOfNums y207) ++ x5_1) (wrap64 (Int.tdiv (wrap64 ((wrap64 (t205 + t206)) + x6_1)) 10)) (wrap64 (x7_1 + 1))) else (none)) = some r := by first | (rw [hy207]; with_reducible exact H) | (have H2_ := (Option.bind_some _ _).symm.trans H; rw [hy207]; with_reducible exact H2_) | (have H2_ := (Option.bind_some _ _).symm.trans H; with_reducible exact H2_) | with_reducible exact H | (rw [hy207]; exact H) | exact H
        have Ny207 := Aside0.mk hy207
        clear hy207
        by_cases c7 : (strOfNums y207).size + x5_1.size ≤ 9223372036854775807
        · rw [if_pos c7] at H
          have c7b0 := eq_true c7
          have c7b1 : decide ((strOfNums y207).size + x5_1.size ≤ 9223372036854775807) = true := decide_eq_true c7
          try have c7b2 : (9223372036854775807 < (strOfNums y207).size + x5_1.size) = False := eq_false (Nat.not_lt.2 c7)
          have H' := Aside0.mk H
          clear H
          go_wp2_with (first | ((with_reducible refine gate_callee (f := 149) rfl ?_); refine goesL_ (some 20) rfl rfl Tryd.func149 (by kernel_rfl) rfl #[.string a0, .int .i64 x7_1] rfl Ga_ ?_; (with_reducible refine (reredosref01_digit.calls a0 x7_1 t205 _ A5.out).mono ?_); rintro e w' ⟨rfl, ⟨nd, rfl⟩⟩; refine ⟨_, rfl, ?_⟩) | ((with_reducible refine gate_callee (f := 149) rfl ?_); refine goesL_ (some 23) rfl rfl Tryd.func149 (by kernel_rfl) rfl #[.string a1, .int .i64 x7_1] rfl Ga_ ?_; (with_reducible refine (reredosref01_digit.calls a1 x7_1 t206 _ A6.out).mono ?_); rintro e w' ⟨rfl, ⟨nd, rfl⟩⟩; refine ⟨_, rfl, ?_⟩) | ((with_reducible refine gate_dst (N := 31) rfl ?_); refine Kd.R_lit (Kd.int .u8) _ 5 ?hg (N := 31) ?hd (xs := ([(wrap64 (48 + (Int.tmod (wrap64 ((wrap64 (t205 + t206)) + x6_1)) 10))) % 256] : List Int)) (inner := [.int .u8 ((wrap64 (48 + (Int.tmod (wrap64 ((wrap64 (t205 + t206)) + x6_1)) 10))) % 256)]) (ok := fun _ => True) (okp := fun _ => True) ?hr ?hp (fun _ hk => hk) trivial (Below.refl _ _) (Nat.le_refl _) (by simp) ?_; (case hd => rfl); (case hg => rfl); (case hr => first | (go_simp; done) | (go_simp; rfl)); (case hp => exact (Reps.one (show Kd.M (Kd.int .u8) _ _ _ ((wrap64 (48 + (Int.tmod (wrap64 ((wrap64 (t205 + t206)) + x6_1)) 10))) % 256) [.int .u8 ((wrap64 (48 + (Int.tmod (wrap64 ((wrap64 (t205 + t206)) + x6_1)) 10))) % 256)] from rfl) (Reps.none _ _))); intro v208 w8 ho9 hb hg_ hnew_; clear hg_ hnew_; (first | rw [← Ny207.out] at ho9 | (simp only [Int.reduceToNat] at ho9; rw [← Ny207.out] at ho9)); have HO209 := Aside0.mk (Kd.R_lower ho9 Bz_); replace HB := Bs_ hb; clear hb ho9; have hcv10 := own_string (P := Tryd.prog) Tryd.underlying100 Tryd.underlying5 Tryd.underlying9 (Kd.own_of_R HO209.out)))
          go_roundg k1
          case measure => have := HK1.out; omega
          case rel => exact ⟨((strOfNums y207) ++ x5_1), (wrap64 (Int.tdiv (wrap64 ((wrap64 (t205 + t206)) + x6_1)) 10)), (wrap64 (x7_1 + 1)), Rf_, Rf_, Rf_, H', ⟨by have := HK1.out; omega⟩, ⟨Bl_⟩⟩
        · rw [if_neg c7] at H
          exact absurd H (by simp)
      · rw [if_neg c4] at H
        have c4b0 : decide (x7_1 ≤ (ji3)) = false := decide_eq_false c4
        clear c4
        obtain ⟨t210, A11, H⟩ := bnd_ H
        try dsimp -simprocs only at H
        obtain rfl := Option.some.inj H
        go_wp2_with (first | ((with_reducible refine gate_callee (f := 148) rfl ?_); refine goesL_ (some 38) rfl rfl Tryd.func148 (by kernel_rfl) rfl #[.string x5_1] rfl Ga_ ?_; (with_reducible refine (reredosref01_bare.calls k1 x5_1 t210 _ A11.out).mono ?_); rintro e w' ⟨rfl, ⟨nd, rfl⟩⟩; refine ⟨_, rfl, ?_⟩))
        go_ret
        exact ⟨by first | rfl | (simp [errW_none, errW_some] <;> rfl) | (simp only [← hji3]; first | rfl | (simp [errW_none, errW_some] <;> rfl)) | (simp [*, errW_none, errW_some] <;> rfl), Bl_⟩
/-! ### reredosref01_more: function 143 -/
def reredosref01_more.l0 : Nat → ByteArray → ByteArray → Int → Option (Int)
  | 0, _, _, _ => none
  | k + 1, x0, x1, x5 => if x5 < (x0.size : Int) then (if 0 ≤ x5 then (if x5 < (x1.size : Int) then (if (bt x0 x5) < (bt x1 x5) then (some (-1)) else (if (bt x0 x5) > (bt x1 x5) then (some 1) else (reredosref01_more.l0 k x0 x1 (wrap64 (x5 + 1))))) else (none)) else (none)) else (some 0)
def reredosref01_more.f (k : Nat) (a0 : ByteArray) (a1 : ByteArray) : Option (Int) := if (a0.size : Int) = (a1.size : Int) then (reredosref01_more.l0 k a0 a1 0) else (if (a0.size : Int) < (a1.size : Int) then (some (-1)) else (some 1))
set_option maxHeartbeats 8000000 in
set_option maxRecDepth 100000 in
theorem reredosref01_more.calls (k : Nat) (a0 : ByteArray) (a1 : ByteArray) (r : Int) (w : World) (h : reredosref01_more.f k a0 a1 = some r) :
    Calls Tryd.prog 143 #[.string a0, .string a1] w fun e w' => e = .returned (.int .i64 r) ∧ Drawn0 w w' := by
  have H : (if (a0.size : Int) = (a1.size : Int) then (reredosref01_more.l0 k a0 a1 0) else (if (a0.size : Int) < (a1.size : Int) then (some (-1)) else (some 1))) = some r := h
  clear h
  by_cases c3 : (a0.size : Int) = (a1.size : Int)
  · rw [if_pos c3] at H
    have c3b0 : ((a0.size : Int) == (a1.size : Int)) = true := beq_iff_eq.mpr c3
    have c3b1 : ((a0.size : Int) != (a1.size : Int)) = false := bne_eq_false_iff_eq.mpr c3
    have c3b2 : (a0.size == a1.size) = true := by first | simpa using c3 | (simp at c3 ⊢; omega)
    clear c3
    have H' := Aside0.mk H
    clear H
    go_enter Tryd.func143, Tryd.ntmps143
    go_wp2
    repeat (go_quiet (fail); try go_wp2)
    go_loopg [5] k (fun kq v5 w' => ∃ (x5_1 : Int), v5 = .int .i64 x5_1 ∧ Aside0 (reredosref01_more.l0 kq a0 a1 x5_1 = some r) ∧ Aside0 (kq ≤ k) ∧ Drawn0 w w')
    case atStart => exact ⟨(0), Rf_, H', ⟨Nat.le_refl _⟩, Dw_⟩
    case round =>
      clear H'
      try clear c1
      try clear p2
      try clear c3
      try clear c3b0
      try clear c3b1
      try clear c3b2
      obtain ⟨x5_1, rfl, HA, HK1, ⟨m1, rfl⟩⟩ := hrel
      cases gk with
      | zero => exact absurd HA.out (by simp [reredosref01_more.l0])
      | succ k1 =>
        have H := HA.out
        clear HA
        simp only [reredosref01_more.l0] at H
        by_cases c4 : x5_1 < (a0.size : Int)
        · rw [if_pos c4] at H
          have c4b0 : decide (x5_1 < (a0.size : Int)) = true := decide_eq_true c4
          clear c4
          by_cases c5 : 0 ≤ x5_1
          · rw [if_pos c5] at H
            have c5b0 : decide (0 ≤ x5_1) = true := decide_eq_true c5
            clear c5
            by_cases c7 : x5_1 < (a1.size : Int)
            · rw [if_pos c7] at H
              have c7b0 : decide (x5_1 < (a1.size : Int)) = true := decide_eq_true c7
              clear c7
              by_cases c9 : (bt a0 x5_1) < (bt a1 x5_1)
              · rw [if_pos c9] at H
                have c9b0 : decide ((bt a0 x5_1) < (bt a1 x5_1)) = true := decide_eq_true c9
                clear c9
                obtain rfl := Option.some.inj H
                have p6 : 0 ≤ (x5_1 : Int) := of_decide_eq_true As_
                have q6 : x5_1 < (a0.size : Int) := of_decide_eq_true As_
                have hx6 := bt_at a0 x5_1
                replace p6 := eq_true p6
                replace q6 := eq_true q6
                have p8 : 0 ≤ (x5_1 : Int) := of_decide_eq_true As_
                have q8 : x5_1 < (a1.size : Int) := of_decide_eq_true As_
                have hx8 := bt_at a1 x5_1
                replace p8 := eq_true p8
                replace q8 := eq_true q8
                go_wp2
                repeat (go_quiet (fail); try go_wp2)
                go_ret
                exact ⟨Rf_, Dw_⟩
              · rw [if_neg c9] at H
                have c9b0 : decide ((bt a0 x5_1) < (bt a1 x5_1)) = false := decide_eq_false c9
                clear c9
                by_cases c12 : (bt a0 x5_1) > (bt a1 x5_1)
                · rw [if_pos c12] at H
                  have c12b0 : decide ((bt a1 x5_1) < (bt a0 x5_1)) = true := decide_eq_true c12
                  clear c12
                  obtain rfl := Option.some.inj H
                  have p6 : 0 ≤ (x5_1 : Int) := of_decide_eq_true As_
                  have q6 : x5_1 < (a0.size : Int) := of_decide_eq_true As_
                  have hx6 := bt_at a0 x5_1
                  replace p6 := eq_true p6
                  replace q6 := eq_true q6
                  have p8 : 0 ≤ (x5_1 : Int) := of_decide_eq_true As_
                  have q8 : x5_1 < (a1.size : Int) := of_decide_eq_true As_
                  have hx8 := bt_at a1 x5_1
                  replace p8 := eq_true p8
                  replace q8 := eq_true q8
                  have p10 : 0 ≤ (x5_1 : Int) := of_decide_eq_true As_
                  have q10 : x5_1 < (a0.size : Int) := of_decide_eq_true As_
                  have hx10 := bt_at a0 x5_1
                  replace p10 := eq_true p10
                  replace q10 := eq_true q10
                  have p11 : 0 ≤ (x5_1 : Int) := of_decide_eq_true As_
                  have q11 : x5_1 < (a1.size : Int) := of_decide_eq_true As_
                  have hx11 := bt_at a1 x5_1
                  replace p11 := eq_true p11
                  replace q11 := eq_true q11
                  go_wp2
                  repeat (go_quiet (fail); try go_wp2)
                  go_ret
                  exact ⟨Rf_, Dw_⟩
                · rw [if_neg c12] at H
                  have c12b0 : decide ((bt a1 x5_1) < (bt a0 x5_1)) = false := decide_eq_false c12
                  clear c12
                  have H' := Aside0.mk H
                  clear H
                  have p6 : 0 ≤ (x5_1 : Int) := of_decide_eq_true As_
                  have q6 : x5_1 < (a0.size : Int) := of_decide_eq_true As_
                  have hx6 := bt_at a0 x5_1
                  replace p6 := eq_true p6
                  replace q6 := eq_true q6
                  have p8 : 0 ≤ (x5_1 : Int) := of_decide_eq_true As_
                  have q8 : x5_1 < (a1.size : Int) := of_decide_eq_true As_
                  have hx8 := bt_at a1 x5_1
                  replace p8 := eq_true p8
                  replace q8 := eq_true q8
                  have p10 : 0 ≤ (x5_1 : Int) := of_decide_eq_true As_
                  have q10 : x5_1 < (a0.size : Int) := of_decide_eq_true As_
                  have hx10 := bt_at a0 x5_1
                  replace p10 := eq_true p10
                  replace q10 := eq_true q10
                  have p11 : 0 ≤ (x5_1 : Int) := of_decide_eq_true As_
                  have q11 : x5_1 < (a1.size : Int) := of_decide_eq_true As_
                  have hx11 := bt_at a1 x5_1
                  replace p11 := eq_true p11
                  replace q11 := eq_true q11
                  go_wp2
                  repeat (go_quiet (fail); try go_wp2)
                  go_roundg k1
                  case measure => have := HK1.out; omega
                  case rel => exact ⟨(wrap64 (x5_1 + 1)), Rf_, H', ⟨by have := HK1.out; omega⟩, Dw_⟩
            · rw [if_neg c7] at H
              exact absurd H (by simp)
          · rw [if_neg c5] at H
            exact absurd H (by simp)
        · rw [if_neg c4] at H
          have c4b0 : decide (x5_1 < (a0.size : Int)) = false := decide_eq_false c4
          clear c4
          obtain rfl := Option.some.inj H
          go_wp2
          repeat (go_quiet (fail); try go_wp2)
          go_ret
          exact ⟨Rf_, Dw_⟩
  · rw [if_neg c3] at H
    have c3b0 : ((a0.size : Int) == (a1.size : Int)) = false := beq_eq_false_iff_ne.mpr c3
    have c3b1 : ((a0.size : Int) != (a1.size : Int)) = true := bne_iff_ne.mpr c3
    have c3b2 : (a0.size == a1.size) = false := by first | simpa using c3 | (simp at c3 ⊢; omega)
    by_cases c13 : (a0.size : Int) < (a1.size : Int)
    · rw [if_pos c13] at H
      have c13b0 : decide ((a0.size : Int) < (a1.size : Int)) = true := decide_eq_true c13
      have c13b1 : decide (a0.size < a1.size) = true := decide_eq_true (Int.ofNat_lt.mp c13)
      clear c13
      obtain rfl := Option.some.inj H
      go_enter Tryd.func143, Tryd.ntmps143
      go_wp2
      repeat (go_quiet (fail); try go_wp2)
      go_ret
      exact ⟨Rf_, Dw_⟩
    · rw [if_neg c13] at H
      have c13b0 : decide ((a0.size : Int) < (a1.size : Int)) = false := decide_eq_false c13
      have c13b1 : decide (a0.size < a1.size) = false := decide_eq_false (fun h => c13 (Int.ofNat_lt.mpr h))
      clear c13
      obtain rfl := Option.some.inj H
      go_enter Tryd.func143, Tryd.ntmps143
      go_wp2
      repeat (go_quiet (fail); try go_wp2)
      go_ret
      exact ⟨Rf_, Dw_⟩
/-! ### reredosref01_minus: function 144 -/
def reredosref01_minus.l0 : Nat → ByteArray → ByteArray → ByteArray → Int → Int → Option (ByteArray)
  | 0, _, _, _, _, _ => none
  | k + 1, x0, x1, x5, x6, x7 => if x7 < (x0.size : Int) then ((reredosref01_digit.f x0 x7).bind fun t212 => ((reredosref01_digit.f x1 x7).bind fun t213 => (if (wrap64 ((wrap64 (t212 - t213)) - x6)) < 0 then ((some (([(wrap64 (48 + (wrap64 ((wrap64 ((wrap64 (t212 - t213)) - x6)) + 10)))) % 256] : List Int) : List Int)).bind fun y214 => (if (strOfNums y214).size + x5.size ≤ 9223372036854775807 then (reredosref01_minus.l0 k x0 x1 ((strOfNums y214) ++ x5) 1 (wrap64 (x7 + 1))) else (none))) else ((some (([(wrap64 (48 + (wrap64 ((wrap64 (t212 - t213)) - x6)))) % 256] : List Int) : List Int)).bind fun y217 => (if (strOfNums y217).size + x5.size ≤ 9223372036854775807 then (reredosref01_minus.l0 k x0 x1 ((strOfNums y217) ++ x5) 0 (wrap64 (x7 + 1))) else (none)))))) else ((reredosref01_bare.f k x5).bind fun t211 => (some t211))
def reredosref01_minus.f (k : Nat) (a0 : ByteArray) (a1 : ByteArray) : Option (ByteArray) := reredosref01_minus.l0 k a0 a1 (⟨#[]⟩ : ByteArray) 0 0
set_option maxHeartbeats 8000000 in
set_option maxRecDepth 100000 in
theorem reredosref01_minus.calls (k : Nat) (a0 : ByteArray) (a1 : ByteArray) (r : ByteArray) (w : World) (h : reredosref01_minus.f k a0 a1 = some r) :
    Calls Tryd.prog 144 #[.string a0, .string a1] w fun e w' => e = .returned (.string r) ∧ Below w.heap.size w w' := by
  have HB := Aside0.mk (Below.refl w.heap.size w)
  have H : (reredosref01_minus.l0 k a0 a1 (⟨#[]⟩ : ByteArray) 0 0) = some r := h
  clear h
  have H' := Aside0.mk H
  clear H
  go_enter Tryd.func144, Tryd.ntmps144
  go_wp2
  go_loopg [5, 6, 7] k (fun kq v5 v6 v7 w' => ∃ (x5_1 : ByteArray) (x6_1 : Int) (x7_1 : Int), v5 = .string x5_1 ∧ v6 = .int .i64 x6_1 ∧ v7 = .int .i64 x7_1 ∧ Aside0 (reredosref01_minus.l0 kq a0 a1 x5_1 x6_1 x7_1 = some r) ∧ Aside0 (kq ≤ k) ∧ Aside0 (Below w.heap.size w w'))
  case atStart => exact ⟨((⟨#[]⟩ : ByteArray)), (0), (0), Rf_, Rf_, Rf_, H', ⟨Nat.le_refl _⟩, ⟨Bl_⟩⟩
  case round =>
    clear H'
    try clear c1
    try clear p2
    obtain ⟨x5_1, x6_1, x7_1, rfl, rfl, rfl, HA, HK1, HB⟩ := hrel
    cases gk with
    | zero => exact absurd HA.out (by simp [reredosref01_minus.l0])
    | succ k1 =>
      have H := HA.out
      clear HA
      simp only [reredosref01_minus.l0] at H
      by_cases c3 : x7_1 < (a0.size : Int)
      · rw [if_pos c3] at H
        have c3b0 : decide (x7_1 < (a0.size : Int)) = true := decide_eq_true c3
        clear c3
        obtain ⟨t212, A4, H⟩ := bnd_ H
        try dsimp -simprocs only at H
        obtain ⟨t213, A5, H⟩ := bnd_ H
        try dsimp -simprocs only at H
        by_cases c6 : (wrap64 ((wrap64 (t212 - t213)) - x6_1)) < 0
        · rw [if_pos c6] at H
          have c6b0 : decide ((wrap64 ((wrap64 (t212 - t213)) - x6_1)) < 0) = true := decide_eq_true c6
          clear c6
          obtain ⟨y214, hy214⟩ : ∃ y_ : List Int, y_ = (([(wrap64 (48 + (wrap64 ((wrap64 ((wrap64 (t212 - t213)) - x6_1)) + 10)))) % 256] : List Int)) := ⟨_, rfl⟩
          replace H : (if (strOfNums y214).size + x5_1.size ≤ 9223372036854775807 then (reredosref01_minus.l0 k1 a0 a1 ((strOfNums y214) ++ x5_1) 1 (wrap64 (x7_1 + 1))) else (none)) = some r := by first | (rw [hy214]; with_reducible exact H) | (have H2_ := (Option.bind_some _ _).symm.trans H; rw [hy214]; with_reducible exact H2_) | (have H2_ := (Option.bind_some _ _).symm.trans H; with_reducible exact H2_) | with_reducible exact H | (rw [hy214]; exact H) | exact H
          have Ny214 := Aside0.mk hy214
          clear hy214
          by_cases c7 : (strOfNums y214).size + x5_1.size ≤ 9223372036854775807
          · rw [if_pos c7] at H
            have c7b0 := eq_true c7
            have c7b1 : decide ((strOfNums y214).size + x5_1.size ≤ 9223372036854775807) = true := decide_eq_true c7
            try have c7b2 : (9223372036854775807 < (strOfNums y214).size + x5_1.size) = False := eq_false (Nat.not_lt.2 c7)
            have H' := Aside0.mk H
            clear H
            go_wp2_with (first | ((with_reducible refine gate_callee (f := 149) rfl ?_); refine goesL_ (some 17) rfl rfl Tryd.func149 (by kernel_rfl) rfl #[.string a0, .int .i64 x7_1] rfl Ga_ ?_; (with_reducible refine (reredosref01_digit.calls a0 x7_1 t212 _ A4.out).mono ?_); rintro e w' ⟨rfl, ⟨nd, rfl⟩⟩; refine ⟨_, rfl, ?_⟩) | ((with_reducible refine gate_callee (f := 149) rfl ?_); refine goesL_ (some 20) rfl rfl Tryd.func149 (by kernel_rfl) rfl #[.string a1, .int .i64 x7_1] rfl Ga_ ?_; (with_reducible refine (reredosref01_digit.calls a1 x7_1 t213 _ A5.out).mono ?_); rintro e w' ⟨rfl, ⟨nd, rfl⟩⟩; refine ⟨_, rfl, ?_⟩) | ((with_reducible refine gate_dst (N := 31) rfl ?_); refine Kd.R_lit (Kd.int .u8) _ 5 ?hg (N := 31) ?hd (xs := ([(wrap64 (48 + (wrap64 ((wrap64 ((wrap64 (t212 - t213)) - x6_1)) + 10)))) % 256] : List Int)) (inner := [.int .u8 ((wrap64 (48 + (wrap64 ((wrap64 ((wrap64 (t212 - t213)) - x6_1)) + 10)))) % 256)]) (ok := fun _ => True) (okp := fun _ => True) ?hr ?hp (fun _ hk => hk) trivial (Below.refl _ _) (Nat.le_refl _) (by simp) ?_; (case hd => rfl); (case hg => rfl); (case hr => first | (go_simp; done) | (go_simp; rfl)); (case hp => exact (Reps.one (show Kd.M (Kd.int .u8) _ _ _ ((wrap64 (48 + (wrap64 ((wrap64 ((wrap64 (t212 - t213)) - x6_1)) + 10)))) % 256) [.int .u8 ((wrap64 (48 + (wrap64 ((wrap64 ((wrap64 (t212 - t213)) - x6_1)) + 10)))) % 256)] from rfl) (Reps.none _ _))); intro v215 w8 ho9 hb hg_ hnew_; clear hg_ hnew_; (first | rw [← Ny214.out] at ho9 | (simp only [Int.reduceToNat] at ho9; rw [← Ny214.out] at ho9)); have HO216 := Aside0.mk (Kd.R_lower ho9 Bz_); replace HB := Bs_ hb; clear hb ho9; have hcv10 := own_string (P := Tryd.prog) Tryd.underlying100 Tryd.underlying5 Tryd.underlying9 (Kd.own_of_R HO216.out)))
            go_roundg k1
            case measure => have := HK1.out; omega
            case rel => exact ⟨((strOfNums y214) ++ x5_1), (1), (wrap64 (x7_1 + 1)), Rf_, Rf_, Rf_, H', ⟨by have := HK1.out; omega⟩, ⟨Bl_⟩⟩
          · rw [if_neg c7] at H
            exact absurd H (by simp)
        · rw [if_neg c6] at H
          have c6b0 : decide ((wrap64 ((wrap64 (t212 - t213)) - x6_1)) < 0) = false := decide_eq_false c6
          clear c6
          obtain ⟨y217, hy217⟩ : ∃ y_ : List Int, y_ = (([(wrap64 (48 + (wrap64 ((wrap64 (t212 - t213)) - x6_1)))) % 256] : List Int)) := ⟨_, rfl⟩
          replace H : (if (strOfNums y217).size + x5_1.size ≤ 9223372036854775807 then (reredosref01_minus.l0 k1 a0 a1 ((strOfNums y217) ++ x5_1) 0 (wrap64 (x7_1 + 1))) else (none)) = some r := by first | (rw [hy217]; with_reducible exact H) | (have H2_ := (Option.bind_some _ _).symm.trans H; rw [hy217]; with_reducible exact H2_) | (have H2_ := (Option.bind_some _ _).symm.trans H; with_reducible exact H2_) | with_reducible exact H | (rw [hy217]; exact H) | exact H
          have Ny217 := Aside0.mk hy217
          clear hy217
          by_cases c11 : (strOfNums y217).size + x5_1.size ≤ 9223372036854775807
          · rw [if_pos c11] at H
            have c11b0 := eq_true c11
            have c11b1 : decide ((strOfNums y217).size + x5_1.size ≤ 9223372036854775807) = true := decide_eq_true c11
            try have c11b2 : (9223372036854775807 < (strOfNums y217).size + x5_1.size) = False := eq_false (Nat.not_lt.2 c11)
            have H' := Aside0.mk H
            clear H
            go_wp2_with (first | ((with_reducible refine gate_callee (f := 149) rfl ?_); refine goesL_ (some 17) rfl rfl Tryd.func149 (by kernel_rfl) rfl #[.string a0, .int .i64 x7_1] rfl Ga_ ?_; (with_reducible refine (reredosref01_digit.calls a0 x7_1 t212 _ A4.out).mono ?_); rintro e w' ⟨rfl, ⟨nd, rfl⟩⟩; refine ⟨_, rfl, ?_⟩) | ((with_reducible refine gate_callee (f := 149) rfl ?_); refine goesL_ (some 20) rfl rfl Tryd.func149 (by kernel_rfl) rfl #[.string a1, .int .i64 x7_1] rfl Ga_ ?_; (with_reducible refine (reredosref01_digit.calls a1 x7_1 t213 _ A5.out).mono ?_); rintro e w' ⟨rfl, ⟨nd, rfl⟩⟩; refine ⟨_, rfl, ?_⟩) | ((with_reducible refine gate_dst (N := 31) rfl ?_); refine Kd.R_lit (Kd.int .u8) _ 5 ?hg (N := 31) ?hd (xs := ([(wrap64 (48 + (wrap64 ((wrap64 (t212 - t213)) - x6_1)))) % 256] : List Int)) (inner := [.int .u8 ((wrap64 (48 + (wrap64 ((wrap64 (t212 - t213)) - x6_1)))) % 256)]) (ok := fun _ => True) (okp := fun _ => True) ?hr ?hp (fun _ hk => hk) trivial (Below.refl _ _) (Nat.le_refl _) (by simp) ?_; (case hd => rfl); (case hg => rfl); (case hr => first | (go_simp; done) | (go_simp; rfl)); (case hp => exact (Reps.one (show Kd.M (Kd.int .u8) _ _ _ ((wrap64 (48 + (wrap64 ((wrap64 (t212 - t213)) - x6_1)))) % 256) [.int .u8 ((wrap64 (48 + (wrap64 ((wrap64 (t212 - t213)) - x6_1)))) % 256)] from rfl) (Reps.none _ _))); intro v218 w12 ho13 hb hg_ hnew_; clear hg_ hnew_; (first | rw [← Ny217.out] at ho13 | (simp only [Int.reduceToNat] at ho13; rw [← Ny217.out] at ho13)); have HO219 := Aside0.mk (Kd.R_lower ho13 Bz_); replace HB := Bs_ hb; clear hb ho13; have hcv14 := own_string (P := Tryd.prog) Tryd.underlying100 Tryd.underlying5 Tryd.underlying9 (Kd.own_of_R HO219.out)))
            go_roundg k1
            case measure => have := HK1.out; omega
            case rel => exact ⟨((strOfNums y217) ++ x5_1), (0), (wrap64 (x7_1 + 1)), Rf_, Rf_, Rf_, H', ⟨by have := HK1.out; omega⟩, ⟨Bl_⟩⟩
          · rw [if_neg c11] at H
            exact absurd H (by simp)
      · rw [if_neg c3] at H
        have c3b0 : decide (x7_1 < (a0.size : Int)) = false := decide_eq_false c3
        clear c3
        obtain ⟨t211, A15, H⟩ := bnd_ H
        try dsimp -simprocs only at H
        obtain rfl := Option.some.inj H
        go_wp2_with (first | ((with_reducible refine gate_callee (f := 148) rfl ?_); refine goesL_ (some 36) rfl rfl Tryd.func148 (by kernel_rfl) rfl #[.string x5_1] rfl Ga_ ?_; (with_reducible refine (reredosref01_bare.calls k1 x5_1 t211 _ A15.out).mono ?_); rintro e w' ⟨rfl, ⟨nd, rfl⟩⟩; refine ⟨_, rfl, ?_⟩))
        go_ret
        exact ⟨Re_, Bl_⟩
/-! ### reredosref01_sum: function 126 -/
def reredosref01_sum.f (k : Nat) (a0 : ByteArray) (a1 : ByteArray) : Option (ByteArray) := (reredosref01_low.f a0).bind fun t220 => ((reredosref01_low.f a1).bind fun t221 => (if (t220 == t221) = true then ((reredosref01_size.f a0).bind fun t222 => ((reredosref01_size.f a1).bind fun t223 => ((reredosref01_plus.f k t222 t223).bind fun t224 => ((reredosref01_low.f a0).bind fun t225 => ((reredosref01_signed.f k t224 t225).bind fun t226 => (some t226)))))) else ((reredosref01_size.f a0).bind fun t227 => ((reredosref01_size.f a1).bind fun t228 => ((reredosref01_more.f k t227 t228).bind fun t229 => (if t229 ≥ 0 then ((reredosref01_size.f a0).bind fun t230 => ((reredosref01_size.f a1).bind fun t231 => ((reredosref01_minus.f k t230 t231).bind fun t232 => ((reredosref01_low.f a0).bind fun t233 => ((reredosref01_signed.f k t232 t233).bind fun t234 => (some t234)))))) else ((reredosref01_size.f a1).bind fun t235 => ((reredosref01_size.f a0).bind fun t236 => ((reredosref01_minus.f k t235 t236).bind fun t237 => ((reredosref01_low.f a1).bind fun t238 => ((reredosref01_signed.f k t237 t238).bind fun t239 => (some t239))))))))))))
set_option maxHeartbeats 8000000 in
set_option maxRecDepth 100000 in
theorem reredosref01_sum.calls (k : Nat) (a0 : ByteArray) (a1 : ByteArray) (r : ByteArray) (w : World) (h : reredosref01_sum.f k a0 a1 = some r) :
    Calls Tryd.prog 126 #[.string a0, .string a1] w fun e w' => e = .returned (.string r) ∧ Below w.heap.size w w' := by
  have HB := Aside0.mk (Below.refl w.heap.size w)
  have H : ((reredosref01_low.f a0).bind fun t220 => ((reredosref01_low.f a1).bind fun t221 => (if (t220 == t221) = true then ((reredosref01_size.f a0).bind fun t222 => ((reredosref01_size.f a1).bind fun t223 => ((reredosref01_plus.f k t222 t223).bind fun t224 => ((reredosref01_low.f a0).bind fun t225 => ((reredosref01_signed.f k t224 t225).bind fun t226 => (some t226)))))) else ((reredosref01_size.f a0).bind fun t227 => ((reredosref01_size.f a1).bind fun t228 => ((reredosref01_more.f k t227 t228).bind fun t229 => (if t229 ≥ 0 then ((reredosref01_size.f a0).bind fun t230 => ((reredosref01_size.f a1).bind fun t231 => ((reredosref01_minus.f k t230 t231).bind fun t232 => ((reredosref01_low.f a0).bind fun t233 => ((reredosref01_signed.f k t232 t233).bind fun t234 => (some t234)))))) else ((reredosref01_size.f a1).bind fun t235 => ((reredosref01_size.f a0).bind fun t236 => ((reredosref01_minus.f k t235 t236).bind fun t237 => ((reredosref01_low.f a1).bind fun t238 => ((reredosref01_signed.f k t237 t238).bind fun t239 => (some t239))))))))))))) = some r := h
  clear h
  obtain ⟨t220, A3, H⟩ := bnd_ H
  try dsimp -simprocs only at H
  obtain ⟨t221, A4, H⟩ := bnd_ H
  try dsimp -simprocs only at H
  by_cases c5 : (t220 == t221) = true
  · rw [if_pos c5] at H
    have c5b0 : (t220 == t221) = true := c5
    (try (have c5b1 : decide (t220 = t221) = true := by simpa using c5))
    (try (have c5b2 : (t220 == t221) = true := by simpa using c5))
    clear c5
    obtain ⟨t222, A6, H⟩ := bnd_ H
    try dsimp -simprocs only at H
    obtain ⟨t223, A7, H⟩ := bnd_ H
    try dsimp -simprocs only at H
    obtain ⟨t224, A8, H⟩ := bnd_ H
    try dsimp -simprocs only at H
    obtain ⟨t225, A9, H⟩ := bnd_ H
    try dsimp -simprocs only at H
    obtain ⟨t226, A10, H⟩ := bnd_ H
    try dsimp -simprocs only at H
    obtain rfl := Option.some.inj H
    go_enter Tryd.func126, Tryd.ntmps126
    go_wp2_with (first | ((with_reducible refine gate_callee (f := 105) rfl ?_); refine goesL_ (some 6) rfl rfl Tryd.func105 (by kernel_rfl) rfl #[.string a0] rfl Ga_ ?_; (with_reducible refine (reredosref01_low.calls a0 t220 _ A3.out).mono ?_); rintro e w' ⟨rfl, ⟨nd, rfl⟩⟩; refine ⟨_, rfl, ?_⟩) | ((with_reducible refine gate_callee (f := 105) rfl ?_); refine goesL_ (some 8) rfl rfl Tryd.func105 (by kernel_rfl) rfl #[.string a1] rfl Ga_ ?_; (with_reducible refine (reredosref01_low.calls a1 t221 _ A4.out).mono ?_); rintro e w' ⟨rfl, ⟨nd, rfl⟩⟩; refine ⟨_, rfl, ?_⟩) | ((with_reducible refine gate_callee (f := 104) rfl ?_); refine goesL_ (some 11) rfl rfl Tryd.func104 (by kernel_rfl) rfl #[.string a0] rfl Ga_ ?_; (with_reducible refine (reredosref01_size.calls a0 t222 _ A6.out).mono ?_); rintro e w' ⟨rfl, ⟨nd, rfl⟩⟩; refine ⟨_, rfl, ?_⟩) | ((with_reducible refine gate_callee (f := 104) rfl ?_); refine goesL_ (some 13) rfl rfl Tryd.func104 (by kernel_rfl) rfl #[.string a1] rfl Ga_ ?_; (with_reducible refine (reredosref01_size.calls a1 t223 _ A7.out).mono ?_); rintro e w' ⟨rfl, ⟨nd, rfl⟩⟩; refine ⟨_, rfl, ?_⟩) | ((with_reducible refine gate_callee (f := 142) rfl ?_); refine goesL_ (some 14) rfl rfl Tryd.func142 (by kernel_rfl) rfl #[.string t222, .string t223] rfl Ga_ ?_; (with_reducible refine (reredosref01_plus.calls k t222 t223 t224 _ A8.out).mono ?_); rintro e w11 ⟨rfl, hb⟩; refine ⟨_, rfl, ?_⟩; replace HB := Bs_ hb; (try clear hb); (try clear hb2); (try clear hk); (try clear hi)) | ((with_reducible refine gate_callee (f := 105) rfl ?_); refine goesL_ (some 16) rfl rfl Tryd.func105 (by kernel_rfl) rfl #[.string a0] rfl Ga_ ?_; (with_reducible refine (reredosref01_low.calls a0 t225 _ A9.out).mono ?_); rintro e w' ⟨rfl, ⟨nd, rfl⟩⟩; refine ⟨_, rfl, ?_⟩) | ((with_reducible refine gate_callee (f := 141) rfl ?_); refine goesL_ (some 17) rfl rfl Tryd.func141 (by kernel_rfl) rfl #[.string t224, .bool t225] rfl Ga_ ?_; (with_reducible refine (reredosref01_signed.calls k t224 t225 t226 _ A10.out).mono ?_); rintro e w' ⟨rfl, ⟨nd, rfl⟩⟩; refine ⟨_, rfl, ?_⟩))
    go_ret
    exact ⟨Re_, Bl_⟩
  · rw [if_neg c5] at H
    have c5b0 : (t220 == t221) = false := by simpa using c5
    (try (have c5b1 : decide (t220 = t221) = false := by simpa using c5))
    (try (have c5b2 : (t220 == t221) = false := by simpa using c5))
    (try (have c5b3 : ¬ (t220 = t221) := by simpa using c5))
    clear c5
    obtain ⟨t227, A12, H⟩ := bnd_ H
    try dsimp -simprocs only at H
    obtain ⟨t228, A13, H⟩ := bnd_ H
    try dsimp -simprocs only at H
    obtain ⟨t229, A14, H⟩ := bnd_ H
    try dsimp -simprocs only at H
    by_cases c15 : t229 ≥ 0
    · rw [if_pos c15] at H
      have c15b0 : decide (0 ≤ t229) = true := decide_eq_true c15
      clear c15
      obtain ⟨t230, A16, H⟩ := bnd_ H
      try dsimp -simprocs only at H
      obtain ⟨t231, A17, H⟩ := bnd_ H
      try dsimp -simprocs only at H
      obtain ⟨t232, A18, H⟩ := bnd_ H
      try dsimp -simprocs only at H
      obtain ⟨t233, A19, H⟩ := bnd_ H
      try dsimp -simprocs only at H
      obtain ⟨t234, A20, H⟩ := bnd_ H
      try dsimp -simprocs only at H
      obtain rfl := Option.some.inj H
      go_enter Tryd.func126, Tryd.ntmps126
      go_wp2_with (first | ((with_reducible refine gate_callee (f := 105) rfl ?_); refine goesL_ (some 6) rfl rfl Tryd.func105 (by kernel_rfl) rfl #[.string a0] rfl Ga_ ?_; (with_reducible refine (reredosref01_low.calls a0 t220 _ A3.out).mono ?_); rintro e w' ⟨rfl, ⟨nd, rfl⟩⟩; refine ⟨_, rfl, ?_⟩) | ((with_reducible refine gate_callee (f := 105) rfl ?_); refine goesL_ (some 8) rfl rfl Tryd.func105 (by kernel_rfl) rfl #[.string a1] rfl Ga_ ?_; (with_reducible refine (reredosref01_low.calls a1 t221 _ A4.out).mono ?_); rintro e w' ⟨rfl, ⟨nd, rfl⟩⟩; refine ⟨_, rfl, ?_⟩) | ((with_reducible refine gate_callee (f := 104) rfl ?_); refine goesL_ (some 19) rfl rfl Tryd.func104 (by kernel_rfl) rfl #[.string a0] rfl Ga_ ?_; (with_reducible refine (reredosref01_size.calls a0 t227 _ A12.out).mono ?_); rintro e w' ⟨rfl, ⟨nd, rfl⟩⟩; refine ⟨_, rfl, ?_⟩) | ((with_reducible refine gate_callee (f := 104) rfl ?_); refine goesL_ (some 21) rfl rfl Tryd.func104 (by kernel_rfl) rfl #[.string a1] rfl Ga_ ?_; (with_reducible refine (reredosref01_size.calls a1 t228 _ A13.out).mono ?_); rintro e w' ⟨rfl, ⟨nd, rfl⟩⟩; refine ⟨_, rfl, ?_⟩) | ((with_reducible refine gate_callee (f := 143) rfl ?_); refine goesL_ (some 22) rfl rfl Tryd.func143 (by kernel_rfl) rfl #[.string t227, .string t228] rfl Ga_ ?_; (with_reducible refine (reredosref01_more.calls k t227 t228 t229 _ A14.out).mono ?_); rintro e w' ⟨rfl, ⟨nd, rfl⟩⟩; refine ⟨_, rfl, ?_⟩) | ((with_reducible refine gate_callee (f := 104) rfl ?_); refine goesL_ (some 25) rfl rfl Tryd.func104 (by kernel_rfl) rfl #[.string a0] rfl Ga_ ?_; (with_reducible refine (reredosref01_size.calls a0 t230 _ A16.out).mono ?_); rintro e w' ⟨rfl, ⟨nd, rfl⟩⟩; refine ⟨_, rfl, ?_⟩) | ((with_reducible refine gate_callee (f := 104) rfl ?_); refine goesL_ (some 27) rfl rfl Tryd.func104 (by kernel_rfl) rfl #[.string a1] rfl Ga_ ?_; (with_reducible refine (reredosref01_size.calls a1 t231 _ A17.out).mono ?_); rintro e w' ⟨rfl, ⟨nd, rfl⟩⟩; refine ⟨_, rfl, ?_⟩) | ((with_reducible refine gate_callee (f := 144) rfl ?_); refine goesL_ (some 28) rfl rfl Tryd.func144 (by kernel_rfl) rfl #[.string t230, .string t231] rfl Ga_ ?_; (with_reducible refine (reredosref01_minus.calls k t230 t231 t232 _ A18.out).mono ?_); rintro e w21 ⟨rfl, hb⟩; refine ⟨_, rfl, ?_⟩; replace HB := Bs_ hb; (try clear hb); (try clear hb2); (try clear hk); (try clear hi)) | ((with_reducible refine gate_callee (f := 105) rfl ?_); refine goesL_ (some 30) rfl rfl Tryd.func105 (by kernel_rfl) rfl #[.string a0] rfl Ga_ ?_; (with_reducible refine (reredosref01_low.calls a0 t233 _ A19.out).mono ?_); rintro e w' ⟨rfl, ⟨nd, rfl⟩⟩; refine ⟨_, rfl, ?_⟩) | ((with_reducible refine gate_callee (f := 141) rfl ?_); refine goesL_ (some 31) rfl rfl Tryd.func141 (by kernel_rfl) rfl #[.string t232, .bool t233] rfl Ga_ ?_; (with_reducible refine (reredosref01_signed.calls k t232 t233 t234 _ A20.out).mono ?_); rintro e w' ⟨rfl, ⟨nd, rfl⟩⟩; refine ⟨_, rfl, ?_⟩))
      go_ret
      exact ⟨Re_, Bl_⟩
    · rw [if_neg c15] at H
      have c15b0 : decide (0 ≤ t229) = false := decide_eq_false c15
      clear c15
      obtain ⟨t235, A22, H⟩ := bnd_ H
      try dsimp -simprocs only at H
      obtain ⟨t236, A23, H⟩ := bnd_ H
      try dsimp -simprocs only at H
      obtain ⟨t237, A24, H⟩ := bnd_ H
      try dsimp -simprocs only at H
      obtain ⟨t238, A25, H⟩ := bnd_ H
      try dsimp -simprocs only at H
      obtain ⟨t239, A26, H⟩ := bnd_ H
      try dsimp -simprocs only at H
      obtain rfl := Option.some.inj H
      go_enter Tryd.func126, Tryd.ntmps126
      go_wp2_with (first | ((with_reducible refine gate_callee (f := 105) rfl ?_); refine goesL_ (some 6) rfl rfl Tryd.func105 (by kernel_rfl) rfl #[.string a0] rfl Ga_ ?_; (with_reducible refine (reredosref01_low.calls a0 t220 _ A3.out).mono ?_); rintro e w' ⟨rfl, ⟨nd, rfl⟩⟩; refine ⟨_, rfl, ?_⟩) | ((with_reducible refine gate_callee (f := 105) rfl ?_); refine goesL_ (some 8) rfl rfl Tryd.func105 (by kernel_rfl) rfl #[.string a1] rfl Ga_ ?_; (with_reducible refine (reredosref01_low.calls a1 t221 _ A4.out).mono ?_); rintro e w' ⟨rfl, ⟨nd, rfl⟩⟩; refine ⟨_, rfl, ?_⟩) | ((with_reducible refine gate_callee (f := 104) rfl ?_); refine goesL_ (some 19) rfl rfl Tryd.func104 (by kernel_rfl) rfl #[.string a0] rfl Ga_ ?_; (with_reducible refine (reredosref01_size.calls a0 t227 _ A12.out).mono ?_); rintro e w' ⟨rfl, ⟨nd, rfl⟩⟩; refine ⟨_, rfl, ?_⟩) | ((with_reducible refine gate_callee (f := 104) rfl ?_); refine goesL_ (some 21) rfl rfl Tryd.func104 (by kernel_rfl) rfl #[.string a1] rfl Ga_ ?_; (with_reducible refine (reredosref01_size.calls a1 t228 _ A13.out).mono ?_); rintro e w' ⟨rfl, ⟨nd, rfl⟩⟩; refine ⟨_, rfl, ?_⟩) | ((with_reducible refine gate_callee (f := 143) rfl ?_); refine goesL_ (some 22) rfl rfl Tryd.func143 (by kernel_rfl) rfl #[.string t227, .string t228] rfl Ga_ ?_; (with_reducible refine (reredosref01_more.calls k t227 t228 t229 _ A14.out).mono ?_); rintro e w' ⟨rfl, ⟨nd, rfl⟩⟩; refine ⟨_, rfl, ?_⟩) | ((with_reducible refine gate_callee (f := 104) rfl ?_); refine goesL_ (some 33) rfl rfl Tryd.func104 (by kernel_rfl) rfl #[.string a1] rfl Ga_ ?_; (with_reducible refine (reredosref01_size.calls a1 t235 _ A22.out).mono ?_); rintro e w' ⟨rfl, ⟨nd, rfl⟩⟩; refine ⟨_, rfl, ?_⟩) | ((with_reducible refine gate_callee (f := 104) rfl ?_); refine goesL_ (some 35) rfl rfl Tryd.func104 (by kernel_rfl) rfl #[.string a0] rfl Ga_ ?_; (with_reducible refine (reredosref01_size.calls a0 t236 _ A23.out).mono ?_); rintro e w' ⟨rfl, ⟨nd, rfl⟩⟩; refine ⟨_, rfl, ?_⟩) | ((with_reducible refine gate_callee (f := 144) rfl ?_); refine goesL_ (some 36) rfl rfl Tryd.func144 (by kernel_rfl) rfl #[.string t235, .string t236] rfl Ga_ ?_; (with_reducible refine (reredosref01_minus.calls k t235 t236 t237 _ A24.out).mono ?_); rintro e w27 ⟨rfl, hb⟩; refine ⟨_, rfl, ?_⟩; replace HB := Bs_ hb; (try clear hb); (try clear hb2); (try clear hk); (try clear hi)) | ((with_reducible refine gate_callee (f := 105) rfl ?_); refine goesL_ (some 38) rfl rfl Tryd.func105 (by kernel_rfl) rfl #[.string a1] rfl Ga_ ?_; (with_reducible refine (reredosref01_low.calls a1 t238 _ A25.out).mono ?_); rintro e w' ⟨rfl, ⟨nd, rfl⟩⟩; refine ⟨_, rfl, ?_⟩) | ((with_reducible refine gate_callee (f := 141) rfl ?_); refine goesL_ (some 39) rfl rfl Tryd.func141 (by kernel_rfl) rfl #[.string t237, .bool t238] rfl Ga_ ?_; (with_reducible refine (reredosref01_signed.calls k t237 t238 t239 _ A26.out).mono ?_); rintro e w' ⟨rfl, ⟨nd, rfl⟩⟩; refine ⟨_, rfl, ?_⟩))
      go_ret
      exact ⟨Re_, Bl_⟩
/-! ### reredosref01_turned: function 127 -/
def reredosref01_turned.f (k : Nat) (a0 : ByteArray) : Option (ByteArray) := (reredosref01_size.f a0).bind fun t240 => ((reredosref01_low.f a0).bind fun t241 => ((reredosref01_signed.f k t240 (!t241)).bind fun t242 => (some t242)))
set_option maxHeartbeats 8000000 in
set_option maxRecDepth 100000 in
theorem reredosref01_turned.calls (k : Nat) (a0 : ByteArray) (r : ByteArray) (w : World) (h : reredosref01_turned.f k a0 = some r) :
    Calls Tryd.prog 127 #[.string a0] w fun e w' => e = .returned (.string r) ∧ Drawn0 w w' := by
  have H : ((reredosref01_size.f a0).bind fun t240 => ((reredosref01_low.f a0).bind fun t241 => ((reredosref01_signed.f k t240 (!t241)).bind fun t242 => (some t242)))) = some r := h
  clear h
  obtain ⟨t240, A2, H⟩ := bnd_ H
  try dsimp -simprocs only at H
  obtain ⟨t241, A3, H⟩ := bnd_ H
  try dsimp -simprocs only at H
  obtain ⟨t242, A4, H⟩ := bnd_ H
  try dsimp -simprocs only at H
  obtain rfl := Option.some.inj H
  go_enter Tryd.func127, Tryd.ntmps127
  go_wp2_with (first | ((with_reducible refine gate_callee (f := 104) rfl ?_); refine goesL_ (some 4) rfl rfl Tryd.func104 (by kernel_rfl) rfl #[.string a0] rfl Ga_ ?_; (with_reducible refine (reredosref01_size.calls a0 t240 _ A2.out).mono ?_); rintro e w' ⟨rfl, ⟨nd, rfl⟩⟩; refine ⟨_, rfl, ?_⟩) | ((with_reducible refine gate_callee (f := 105) rfl ?_); refine goesL_ (some 6) rfl rfl Tryd.func105 (by kernel_rfl) rfl #[.string a0] rfl Ga_ ?_; (with_reducible refine (reredosref01_low.calls a0 t241 _ A3.out).mono ?_); rintro e w' ⟨rfl, ⟨nd, rfl⟩⟩; refine ⟨_, rfl, ?_⟩) | ((with_reducible refine gate_callee (f := 141) rfl ?_); refine goesL_ (some 8) rfl rfl Tryd.func141 (by kernel_rfl) rfl #[.string t240, .bool (!t241)] rfl Ga_ ?_; (with_reducible refine (reredosref01_signed.calls k t240 (!t241) t242 _ A4.out).mono ?_); rintro e w' ⟨rfl, ⟨nd, rfl⟩⟩; refine ⟨_, rfl, ?_⟩))
  go_ret
  exact ⟨Rf_, Dw_⟩
/-! ### reredosref01_Cmp: function 103 -/
def reredosref01_Cmp.j0 : Nat → ByteArray → ByteArray → Bool → Option (Int)
  | 0, _, _, _ => none
  | k + 1, x0, x1, x12 => if x12 = true then (some 0) else ((reredosref01_turned.f k x1).bind fun t245 => ((reredosref01_sum.f k x0 t245).bind fun t246 => ((reredosref01_bounded.f k t246).bind fun t247 => ((reredosref01_Sign.f k t247).bind fun t248 => (some t248)))))
def reredosref01_Cmp.f (k : Nat) (a0 : ByteArray) (a1 : ByteArray) : Option (Int) := (reredosref01_May.f k a0).bind fun t243 => (if t243 = true then ((reredosref01_May.f k a1).bind fun t244 => (reredosref01_Cmp.j0 k a0 a1 (!t244))) else (reredosref01_Cmp.j0 k a0 a1 true))
set_option maxHeartbeats 8000000 in
set_option maxRecDepth 100000 in
theorem reredosref01_Cmp.calls (k : Nat) (a0 : ByteArray) (a1 : ByteArray) (r : Int) (w : World) (h : reredosref01_Cmp.f k a0 a1 = some r) :
    Calls Tryd.prog 103 #[.string a0, .string a1] w fun e w' => e = .returned (.int .i64 r) ∧ Below w.heap.size w w' := by
  have HB := Aside0.mk (Below.refl w.heap.size w)
  have H : ((reredosref01_May.f k a0).bind fun t243 => (if t243 = true then ((reredosref01_May.f k a1).bind fun t244 => (reredosref01_Cmp.j0 k a0 a1 (!t244))) else (reredosref01_Cmp.j0 k a0 a1 true))) = some r := h
  clear h
  have HC3 := Aside0.mk H
  clear H
  go_enter Tryd.func103, Tryd.ntmps103
  go_upto_region 1 with (fail)
  go_cut [12] (fun v12 wc => ∃ (kq : Nat) (x12_2 : Bool), v12 = .bool x12_2 ∧ Aside0 (reredosref01_Cmp.j0 kq a0 a1 x12_2 = some r) ∧ Aside0 (kq ≤ k) ∧ Aside0 (Below w.heap.size w wc))
  case first =>
    have H := HC3.out
    clear HC3
    obtain ⟨t243, A4, H⟩ := bnd_ H
    try dsimp -simprocs only at H
    by_cases c5 : t243 = true
    · subst c5
      have H1 : ((reredosref01_May.f k a1).bind fun t244 => (reredosref01_Cmp.j0 k a0 a1 (!t244))) = some r := by rw [if_pos rfl] at H; exact H
      clear H
      have H := H1
      clear H1
      obtain ⟨t244, A6, H⟩ := bnd_ H
      try dsimp -simprocs only at H
      have H' := Aside0.mk H
      clear H
      go_wp2_with (first | ((with_reducible refine gate_callee (f := 76) rfl ?_); refine goesL_ (some 6) rfl rfl Tryd.func76 (by kernel_rfl) rfl #[.string a0] rfl Ga_ ?_; (with_reducible refine (reredosref01_May.calls k a0 true _ A4.out).mono ?_); rintro e w' ⟨rfl, ⟨nd, rfl⟩⟩; refine ⟨_, rfl, ?_⟩) | (go_at_call 76; (with_reducible refine (reredosref01_May.calls k a1 t244 _ A6.out).mono ?_); rintro e w' ⟨rfl, ⟨nd, rfl⟩⟩))
      go_meet
      case rel => exact ⟨_, (!t244), Rf_, H', ⟨by first | omega | exact Nat.le_refl _⟩, ⟨Bl_⟩⟩
    · replace c5 := Bool.eq_false_iff.mpr c5
      subst c5
      have H1 : (reredosref01_Cmp.j0 k a0 a1 true) = some r := by rw [if_neg (show ¬ (false = true) by decide)] at H; exact H
      clear H
      have H := H1
      clear H1
      have H' := Aside0.mk H
      clear H
      go_wp2_with (first | ((with_reducible refine gate_callee (f := 76) rfl ?_); refine goesL_ (some 6) rfl rfl Tryd.func76 (by kernel_rfl) rfl #[.string a0] rfl Ga_ ?_; (with_reducible refine (reredosref01_May.calls k a0 false _ A4.out).mono ?_); rintro e w' ⟨rfl, ⟨nd, rfl⟩⟩; refine ⟨_, rfl, ?_⟩))
      go_meet
      case rel => exact ⟨_, (true), Rf_, H', ⟨by first | omega | exact Nat.le_refl _⟩, ⟨Bl_⟩⟩
  case rest =>
    clear HC3
    try clear c1
    try clear p2
    try clear c5
    obtain ⟨kq, x12_2, rfl, HA, HJ2, HB⟩ := hcut
    cases kq with
    | zero => exact absurd HA.out (by simp [reredosref01_Cmp.j0])
    | succ kj2 =>
      have H := HA.out
      clear HA
      simp only [reredosref01_Cmp.j0] at H
      by_cases c7 : x12_2 = true
      · subst c7
        have H1 : (some 0) = some r := by rw [if_pos rfl] at H; exact H
        clear H
        have H := H1
        clear H1
        obtain rfl := Option.some.inj H
        go_wp2
        go_ret
        exact ⟨Re_, Bl_⟩
      · replace c7 := Bool.eq_false_iff.mpr c7
        subst c7
        have H1 : ((reredosref01_turned.f kj2 a1).bind fun t245 => ((reredosref01_sum.f kj2 a0 t245).bind fun t246 => ((reredosref01_bounded.f kj2 t246).bind fun t247 => ((reredosref01_Sign.f kj2 t247).bind fun t248 => (some t248))))) = some r := by rw [if_neg (show ¬ (false = true) by decide)] at H; exact H
        clear H
        have H := H1
        clear H1
        obtain ⟨t245, A8, H⟩ := bnd_ H
        try dsimp -simprocs only at H
        obtain ⟨t246, A9, H⟩ := bnd_ H
        try dsimp -simprocs only at H
        obtain ⟨t247, A10, H⟩ := bnd_ H
        try dsimp -simprocs only at H
        obtain ⟨t248, A11, H⟩ := bnd_ H
        try dsimp -simprocs only at H
        obtain rfl := Option.some.inj H
        go_wp2_with (first | ((with_reducible refine gate_callee (f := 127) rfl ?_); refine goesL_ (some 15) rfl rfl Tryd.func127 (by kernel_rfl) rfl #[.string a1] rfl Ga_ ?_; (with_reducible refine (reredosref01_turned.calls kj2 a1 t245 _ A8.out).mono ?_); rintro e w' ⟨rfl, ⟨nd, rfl⟩⟩; refine ⟨_, rfl, ?_⟩) | ((with_reducible refine gate_callee (f := 126) rfl ?_); refine goesL_ (some 16) rfl rfl Tryd.func126 (by kernel_rfl) rfl #[.string a0, .string t245] rfl Ga_ ?_; (with_reducible refine (reredosref01_sum.calls kj2 a0 t245 t246 _ A9.out).mono ?_); rintro e w12 ⟨rfl, hb⟩; refine ⟨_, rfl, ?_⟩; replace HB := Bs_ hb; (try clear hb); (try clear hb2); (try clear hk); (try clear hi)) | ((with_reducible refine gate_callee (f := 125) rfl ?_); refine goesL_ (some 17) rfl rfl Tryd.func125 (by kernel_rfl) rfl #[.string t246] rfl Ga_ ?_; (with_reducible refine (reredosref01_bounded.calls kj2 t246 t247 _ A10.out).mono ?_); rintro e w' ⟨rfl, ⟨nd, rfl⟩⟩; refine ⟨_, rfl, ?_⟩) | ((with_reducible refine gate_callee (f := 124) rfl ?_); refine goesL_ (some 18) rfl rfl Tryd.func124 (by kernel_rfl) rfl #[.string t247] rfl Ga_ ?_; (with_reducible refine (reredosref01_Sign.calls kj2 t247 t248 _ A11.out).mono ?_); rintro e w' ⟨rfl, ⟨nd, rfl⟩⟩; refine ⟨_, rfl, ?_⟩))
        go_ret
        exact ⟨Re_, Bl_⟩
/-! ### reredosref02_bound: function 121 -/
def reredosref02_bound.f (a0 : Int) : Option (ByteArray) := if a0 = 8 then (some (⟨#[49, 50, 55]⟩ : ByteArray)) else (if a0 = 16 then (some (⟨#[51, 50, 55, 54, 55]⟩ : ByteArray)) else (if a0 = 32 then (some (⟨#[50, 49, 52, 55, 52, 56, 51, 54, 52, 55]⟩ : ByteArray)) else (if a0 = 64 then (some (⟨#[57, 50, 50, 51, 51, 55, 50, 48, 51, 54, 56, 53, 52, 55, 55, 53, 56, 48, 55]⟩ : ByteArray)) else (some (⟨#[]⟩ : ByteArray)))))
set_option maxHeartbeats 8000000 in
set_option maxRecDepth 100000 in
theorem reredosref02_bound.calls (a0 : Int) (r : ByteArray) (w : World) (h : reredosref02_bound.f a0 = some r) :
    Calls Tryd.prog 121 #[.int .i64 a0] w fun e w' => e = .returned (.string r) ∧ Drawn0 w w' := by
  have H : (if a0 = 8 then (some (⟨#[49, 50, 55]⟩ : ByteArray)) else (if a0 = 16 then (some (⟨#[51, 50, 55, 54, 55]⟩ : ByteArray)) else (if a0 = 32 then (some (⟨#[50, 49, 52, 55, 52, 56, 51, 54, 52, 55]⟩ : ByteArray)) else (if a0 = 64 then (some (⟨#[57, 50, 50, 51, 51, 55, 50, 48, 51, 54, 56, 53, 52, 55, 55, 53, 56, 48, 55]⟩ : ByteArray)) else (some (⟨#[]⟩ : ByteArray)))))) = some r := h
  clear h
  by_cases c2 : a0 = 8
  · rw [if_pos c2] at H
    have c2b0 : (a0 == 8) = true := beq_iff_eq.mpr c2
    have c2b1 : (a0 != 8) = false := bne_eq_false_iff_eq.mpr c2
    clear c2
    obtain rfl := Option.some.inj H
    go_enter Tryd.func121, Tryd.ntmps121
    go_wp2
    go_ret
    exact ⟨Rf_, Dw_⟩
  · rw [if_neg c2] at H
    have c2b0 : (a0 == 8) = false := beq_eq_false_iff_ne.mpr c2
    have c2b1 : (a0 != 8) = true := bne_iff_ne.mpr c2
    by_cases c3 : a0 = 16
    · rw [if_pos c3] at H
      have c3b0 : (a0 == 16) = true := beq_iff_eq.mpr c3
      have c3b1 : (a0 != 16) = false := bne_eq_false_iff_eq.mpr c3
      clear c3
      obtain rfl := Option.some.inj H
      go_enter Tryd.func121, Tryd.ntmps121
      go_wp2
      go_ret
      exact ⟨Rf_, Dw_⟩
    · rw [if_neg c3] at H
      have c3b0 : (a0 == 16) = false := beq_eq_false_iff_ne.mpr c3
      have c3b1 : (a0 != 16) = true := bne_iff_ne.mpr c3
      by_cases c4 : a0 = 32
      · rw [if_pos c4] at H
        have c4b0 : (a0 == 32) = true := beq_iff_eq.mpr c4
        have c4b1 : (a0 != 32) = false := bne_eq_false_iff_eq.mpr c4
        clear c4
        obtain rfl := Option.some.inj H
        go_enter Tryd.func121, Tryd.ntmps121
        go_wp2
        go_ret
        exact ⟨Rf_, Dw_⟩
      · rw [if_neg c4] at H
        have c4b0 : (a0 == 32) = false := beq_eq_false_iff_ne.mpr c4
        have c4b1 : (a0 != 32) = true := bne_iff_ne.mpr c4
        by_cases c5 : a0 = 64
        · rw [if_pos c5] at H
          have c5b0 : (a0 == 64) = true := beq_iff_eq.mpr c5
          have c5b1 : (a0 != 64) = false := bne_eq_false_iff_eq.mpr c5
          clear c5
          obtain rfl := Option.some.inj H
          go_enter Tryd.func121, Tryd.ntmps121
          go_wp2
          go_ret
          exact ⟨Rf_, Dw_⟩
        · rw [if_neg c5] at H
          have c5b0 : (a0 == 64) = false := beq_eq_false_iff_ne.mpr c5
          have c5b1 : (a0 != 64) = true := bne_iff_ne.mpr c5
          obtain rfl := Option.some.inj H
          go_enter Tryd.func121, Tryd.ntmps121
          go_wp2
          go_ret
          exact ⟨Rf_, Dw_⟩
/-! ### reredosref01_told: function 140 -/
def reredosref01_told.f (a0 : ByteArray) : Option (ByteArray × Int) := (reredosref01_size.f a0).bind fun t249 => (if (t249.size : Int) > 100 then (some ((⟨#[]⟩ : ByteArray), 8)) else (some (a0, 0)))
set_option maxHeartbeats 8000000 in
set_option maxRecDepth 100000 in
theorem reredosref01_told.calls (a0 : ByteArray) (r1 : ByteArray) (r2 : Int) (w : World) (h : reredosref01_told.f a0 = some (r1, r2)) :
    Calls Tryd.prog 140 #[.string a0] w fun e w' => e = .returned (.tuple #[.string r1, .int .i64 r2]) ∧ Drawn0 w w' := by
  have H : ((reredosref01_size.f a0).bind fun t249 => (if (t249.size : Int) > 100 then (some ((⟨#[]⟩ : ByteArray), 8)) else (some (a0, 0)))) = some (r1, r2) := h
  clear h
  obtain ⟨t249, A2, H⟩ := bnd_ H
  try dsimp -simprocs only at H
  by_cases c3 : (t249.size : Int) > 100
  · rw [if_pos c3] at H
    have c3b0 : decide (100 < (t249.size : Int)) = true := decide_eq_true c3
    have c3b1 : decide (100 < t249.size) = true := decide_eq_true (by omega)
    clear c3
    simp only [Option.some.injEq, Prod.mk.injEq] at H
    obtain ⟨rfl, rfl⟩ := H
    go_enter Tryd.func140, Tryd.ntmps140
    go_wp2_with (first | ((with_reducible refine gate_callee (f := 104) rfl ?_); refine goesL_ (some 5) rfl rfl Tryd.func104 (by kernel_rfl) rfl #[.string a0] rfl Ga_ ?_; (with_reducible refine (reredosref01_size.calls a0 t249 _ A2.out).mono ?_); rintro e w' ⟨rfl, ⟨nd, rfl⟩⟩; refine ⟨_, rfl, ?_⟩))
    go_ret2
    exact ⟨Rf_, Dw_⟩
  · rw [if_neg c3] at H
    have c3b0 : decide (100 < (t249.size : Int)) = false := decide_eq_false c3
    have c3b1 : decide (100 < t249.size) = false := decide_eq_false (by omega)
    clear c3
    simp only [Option.some.injEq, Prod.mk.injEq] at H
    obtain ⟨rfl, rfl⟩ := H
    go_enter Tryd.func140, Tryd.ntmps140
    go_wp2_with (first | ((with_reducible refine gate_callee (f := 104) rfl ?_); refine goesL_ (some 5) rfl rfl Tryd.func104 (by kernel_rfl) rfl #[.string a0] rfl Ga_ ?_; (with_reducible refine (reredosref01_size.calls a0 t249 _ A2.out).mono ?_); rintro e w' ⟨rfl, ⟨nd, rfl⟩⟩; refine ⟨_, rfl, ?_⟩))
    go_ret2
    exact ⟨Rf_, Dw_⟩
/-! ### reredosref01_Sub: function 122 -/
def reredosref01_Sub.j0 : Nat → ByteArray → ByteArray → Bool → Option (ByteArray × Int)
  | 0, _, _, _ => none
  | k + 1, x0, x1, x13 => if x13 = true then (some ((⟨#[]⟩ : ByteArray), 1)) else ((reredosref01_turned.f k x1).bind fun t252 => ((reredosref01_sum.f k x0 t252).bind fun t253 => ((reredosref01_told.f t253).bind fun bt254 => (some (bt254.1, bt254.2)))))
def reredosref01_Sub.f (k : Nat) (a0 : ByteArray) (a1 : ByteArray) : Option (ByteArray × Int) := (reredosref01_May.f k a0).bind fun t250 => (if t250 = true then ((reredosref01_May.f k a1).bind fun t251 => (reredosref01_Sub.j0 k a0 a1 (!t251))) else (reredosref01_Sub.j0 k a0 a1 true))
set_option maxHeartbeats 8000000 in
set_option maxRecDepth 100000 in
theorem reredosref01_Sub.calls (k : Nat) (a0 : ByteArray) (a1 : ByteArray) (r1 : ByteArray) (r2 : Int) (w : World) (h : reredosref01_Sub.f k a0 a1 = some (r1, r2)) :
    Calls Tryd.prog 122 #[.string a0, .string a1] w fun e w' => e = .returned (.tuple #[.string r1, .int .i64 r2]) ∧ Below w.heap.size w w' := by
  have HB := Aside0.mk (Below.refl w.heap.size w)
  have H : ((reredosref01_May.f k a0).bind fun t250 => (if t250 = true then ((reredosref01_May.f k a1).bind fun t251 => (reredosref01_Sub.j0 k a0 a1 (!t251))) else (reredosref01_Sub.j0 k a0 a1 true))) = some (r1, r2) := h
  clear h
  have HC3 := Aside0.mk H
  clear H
  go_enter Tryd.func122, Tryd.ntmps122
  go_upto_region 1 with (fail)
  go_cut [13] (fun v13 wc => ∃ (kq : Nat) (x13_2 : Bool), v13 = .bool x13_2 ∧ Aside0 (reredosref01_Sub.j0 kq a0 a1 x13_2 = some (r1, r2)) ∧ Aside0 (kq ≤ k) ∧ Aside0 (Below w.heap.size w wc))
  case first =>
    have H := HC3.out
    clear HC3
    obtain ⟨t250, A4, H⟩ := bnd_ H
    try dsimp -simprocs only at H
    by_cases c5 : t250 = true
    · subst c5
      have H1 : ((reredosref01_May.f k a1).bind fun t251 => (reredosref01_Sub.j0 k a0 a1 (!t251))) = some (r1, r2) := by rw [if_pos rfl] at H; exact H
      clear H
      have H := H1
      clear H1
      obtain ⟨t251, A6, H⟩ := bnd_ H
      try dsimp -simprocs only at H
      have H' := Aside0.mk H
      clear H
      go_wp2_with (first | ((with_reducible refine gate_callee (f := 76) rfl ?_); refine goesL_ (some 7) rfl rfl Tryd.func76 (by kernel_rfl) rfl #[.string a0] rfl Ga_ ?_; (with_reducible refine (reredosref01_May.calls k a0 true _ A4.out).mono ?_); rintro e w' ⟨rfl, ⟨nd, rfl⟩⟩; refine ⟨_, rfl, ?_⟩) | (go_at_call 76; (with_reducible refine (reredosref01_May.calls k a1 t251 _ A6.out).mono ?_); rintro e w' ⟨rfl, ⟨nd, rfl⟩⟩))
      go_meet
      case rel => exact ⟨_, (!t251), Rf_, H', ⟨by first | omega | exact Nat.le_refl _⟩, ⟨Bl_⟩⟩
    · replace c5 := Bool.eq_false_iff.mpr c5
      subst c5
      have H1 : (reredosref01_Sub.j0 k a0 a1 true) = some (r1, r2) := by rw [if_neg (show ¬ (false = true) by decide)] at H; exact H
      clear H
      have H := H1
      clear H1
      have H' := Aside0.mk H
      clear H
      go_wp2_with (first | ((with_reducible refine gate_callee (f := 76) rfl ?_); refine goesL_ (some 7) rfl rfl Tryd.func76 (by kernel_rfl) rfl #[.string a0] rfl Ga_ ?_; (with_reducible refine (reredosref01_May.calls k a0 false _ A4.out).mono ?_); rintro e w' ⟨rfl, ⟨nd, rfl⟩⟩; refine ⟨_, rfl, ?_⟩))
      go_meet
      case rel => exact ⟨_, (true), Rf_, H', ⟨by first | omega | exact Nat.le_refl _⟩, ⟨Bl_⟩⟩
  case rest =>
    clear HC3
    try clear c1
    try clear p2
    try clear c5
    obtain ⟨kq, x13_2, rfl, HA, HJ2, HB⟩ := hcut
    cases kq with
    | zero => exact absurd HA.out (by simp [reredosref01_Sub.j0])
    | succ kj2 =>
      have H := HA.out
      clear HA
      simp only [reredosref01_Sub.j0] at H
      by_cases c7 : x13_2 = true
      · subst c7
        have H1 : (some ((⟨#[]⟩ : ByteArray), 1)) = some (r1, r2) := by rw [if_pos rfl] at H; exact H
        clear H
        have H := H1
        clear H1
        simp only [Option.some.injEq, Prod.mk.injEq] at H
        obtain ⟨rfl, rfl⟩ := H
        go_wp2
        go_ret2
        exact ⟨Re_, Bl_⟩
      · replace c7 := Bool.eq_false_iff.mpr c7
        subst c7
        have H1 : ((reredosref01_turned.f kj2 a1).bind fun t252 => ((reredosref01_sum.f kj2 a0 t252).bind fun t253 => ((reredosref01_told.f t253).bind fun bt254 => (some (bt254.1, bt254.2))))) = some (r1, r2) := by rw [if_neg (show ¬ (false = true) by decide)] at H; exact H
        clear H
        have H := H1
        clear H1
        obtain ⟨t252, A8, H⟩ := bnd_ H
        try dsimp -simprocs only at H
        obtain ⟨t253, A9, H⟩ := bnd_ H
        try dsimp -simprocs only at H
        obtain ⟨⟨t254, t255⟩, A10, H⟩ := bnd_ H
        try dsimp -simprocs only at H
        simp only [Option.some.injEq, Prod.mk.injEq] at H
        obtain ⟨rfl, rfl⟩ := H
        go_wp2_with (first | ((with_reducible refine gate_callee (f := 127) rfl ?_); refine goesL_ (some 16) rfl rfl Tryd.func127 (by kernel_rfl) rfl #[.string a1] rfl Ga_ ?_; (with_reducible refine (reredosref01_turned.calls kj2 a1 t252 _ A8.out).mono ?_); rintro e w' ⟨rfl, ⟨nd, rfl⟩⟩; refine ⟨_, rfl, ?_⟩) | ((with_reducible refine gate_callee (f := 126) rfl ?_); refine goesL_ (some 17) rfl rfl Tryd.func126 (by kernel_rfl) rfl #[.string a0, .string t252] rfl Ga_ ?_; (with_reducible refine (reredosref01_sum.calls kj2 a0 t252 t253 _ A9.out).mono ?_); rintro e w11 ⟨rfl, hb⟩; refine ⟨_, rfl, ?_⟩; replace HB := Bs_ hb; (try clear hb); (try clear hb2); (try clear hk); (try clear hi)) | ((with_reducible refine gate_callee (f := 140) rfl ?_); refine goesL_ (some 18) rfl rfl Tryd.func140 (by kernel_rfl) rfl #[.string t253] rfl Ga_ ?_; (with_reducible refine (reredosref01_told.calls t253 t254 t255 _ A10.out).mono ?_); rintro e w' ⟨rfl, ⟨nd, rfl⟩⟩; refine ⟨_, rfl, ?_⟩))
        go_ret2
        exact ⟨Re_, Bl_⟩
/-! ### reredosref01_Neg: function 123 -/
def reredosref01_Neg.f (k : Nat) (a0 : ByteArray) : Option (ByteArray) := (reredosref01_May.f k a0).bind fun t256 => (if t256 = true then ((reredosref01_turned.f k a0).bind fun t257 => (some t257)) else (some (⟨#[]⟩ : ByteArray)))
set_option maxHeartbeats 8000000 in
set_option maxRecDepth 100000 in
theorem reredosref01_Neg.calls (k : Nat) (a0 : ByteArray) (r : ByteArray) (w : World) (h : reredosref01_Neg.f k a0 = some r) :
    Calls Tryd.prog 123 #[.string a0] w fun e w' => e = .returned (.string r) ∧ Drawn0 w w' := by
  have H : ((reredosref01_May.f k a0).bind fun t256 => (if t256 = true then ((reredosref01_turned.f k a0).bind fun t257 => (some t257)) else (some (⟨#[]⟩ : ByteArray)))) = some r := h
  clear h
  obtain ⟨t256, A2, H⟩ := bnd_ H
  try dsimp -simprocs only at H
  by_cases c3 : t256 = true
  · subst c3
    have H1 : ((reredosref01_turned.f k a0).bind fun t257 => (some t257)) = some r := by rw [if_pos rfl] at H; exact H
    clear H
    have H := H1
    clear H1
    obtain ⟨t257, A4, H⟩ := bnd_ H
    try dsimp -simprocs only at H
    obtain rfl := Option.some.inj H
    go_enter Tryd.func123, Tryd.ntmps123
    go_wp2_with (first | ((with_reducible refine gate_callee (f := 76) rfl ?_); refine goesL_ (some 4) rfl rfl Tryd.func76 (by kernel_rfl) rfl #[.string a0] rfl Ga_ ?_; (with_reducible refine (reredosref01_May.calls k a0 true _ A2.out).mono ?_); rintro e w' ⟨rfl, ⟨nd, rfl⟩⟩; refine ⟨_, rfl, ?_⟩) | ((with_reducible refine gate_callee (f := 127) rfl ?_); refine goesL_ (some 7) rfl rfl Tryd.func127 (by kernel_rfl) rfl #[.string a0] rfl Ga_ ?_; (with_reducible refine (reredosref01_turned.calls k a0 t257 _ A4.out).mono ?_); rintro e w' ⟨rfl, ⟨nd, rfl⟩⟩; refine ⟨_, rfl, ?_⟩))
    go_ret
    exact ⟨Rf_, Dw_⟩
  · replace c3 := Bool.eq_false_iff.mpr c3
    subst c3
    have H1 : (some (⟨#[]⟩ : ByteArray)) = some r := by rw [if_neg (show ¬ (false = true) by decide)] at H; exact H
    clear H
    have H := H1
    clear H1
    obtain rfl := Option.some.inj H
    go_enter Tryd.func123, Tryd.ntmps123
    go_wp2_with (first | ((with_reducible refine gate_callee (f := 76) rfl ?_); refine goesL_ (some 4) rfl rfl Tryd.func76 (by kernel_rfl) rfl #[.string a0] rfl Ga_ ?_; (with_reducible refine (reredosref01_May.calls k a0 false _ A2.out).mono ?_); rintro e w' ⟨rfl, ⟨nd, rfl⟩⟩; refine ⟨_, rfl, ?_⟩))
    go_ret
    exact ⟨Rf_, Dw_⟩
/-! ### reredosref02_In: function 102 -/
def reredosref02_In.f (k : Nat) (a0 : ByteArray) (a1 : Int) : Option (Bool) := (reredosref02_bound.f a1).bind fun t258 => (if t258.toList = ([] : List UInt8) then (some (a1 == 128)) else ((reredosref01_Neg.f k t258).bind fun t259 => ((reredosref01_Sub.f k t259 (⟨#[49]⟩ : ByteArray)).bind fun bt260 => ((reredosref01_Cmp.f k a0 t258).bind fun t262 => (if t262 ≤ 0 then ((reredosref01_Cmp.f k a0 bt260.1).bind fun t263 => (some (decide (t263 ≥ 0)))) else (some false))))))
set_option maxHeartbeats 8000000 in
set_option maxRecDepth 100000 in
theorem reredosref02_In.calls (k : Nat) (a0 : ByteArray) (a1 : Int) (r : Bool) (w : World) (h : reredosref02_In.f k a0 a1 = some r) :
    Calls Tryd.prog 102 #[.string a0, .int .i64 a1] w fun e w' => e = .returned (.bool r) ∧ Below w.heap.size w w' := by
  have HB := Aside0.mk (Below.refl w.heap.size w)
  have H : ((reredosref02_bound.f a1).bind fun t258 => (if t258.toList = ([] : List UInt8) then (some (a1 == 128)) else ((reredosref01_Neg.f k t258).bind fun t259 => ((reredosref01_Sub.f k t259 (⟨#[49]⟩ : ByteArray)).bind fun bt260 => ((reredosref01_Cmp.f k a0 t258).bind fun t262 => (if t262 ≤ 0 then ((reredosref01_Cmp.f k a0 bt260.1).bind fun t263 => (some (decide (t263 ≥ 0)))) else (some false))))))) = some r := h
  clear h
  obtain ⟨t258, A3, H⟩ := bnd_ H
  try dsimp -simprocs only at H
  by_cases c4 : t258.toList = ([] : List UInt8)
  · rw [if_pos c4] at H
    have c4b0 : (t258.toList == ([] : List UInt8)) = true := beq_iff_eq.mpr c4
    have c4b1 : (t258.toList != ([] : List UInt8)) = false := bne_eq_false_iff_eq.mpr c4
    clear c4
    obtain rfl := Option.some.inj H
    go_enter Tryd.func102, Tryd.ntmps102
    go_wp2_with (first | ((with_reducible refine gate_callee (f := 121) rfl ?_); refine goesL_ (some 9) rfl rfl Tryd.func121 (by kernel_rfl) rfl #[.int .i64 a1] rfl Ga_ ?_; (with_reducible refine (reredosref02_bound.calls a1 t258 _ A3.out).mono ?_); rintro e w' ⟨rfl, ⟨nd, rfl⟩⟩; refine ⟨_, rfl, ?_⟩))
    go_ret
    exact ⟨Re_, Bl_⟩
  · rw [if_neg c4] at H
    have c4b0 : (t258.toList == ([] : List UInt8)) = false := beq_eq_false_iff_ne.mpr c4
    have c4b1 : (t258.toList != ([] : List UInt8)) = true := bne_iff_ne.mpr c4
    obtain ⟨t259, A5, H⟩ := bnd_ H
    try dsimp -simprocs only at H
    obtain ⟨⟨t260, t261⟩, A6, H⟩ := bnd_ H
    try dsimp -simprocs only at H
    obtain ⟨t262, A7, H⟩ := bnd_ H
    try dsimp -simprocs only at H
    by_cases c8 : t262 ≤ 0
    · rw [if_pos c8] at H
      have c8b0 : decide (t262 ≤ 0) = true := decide_eq_true c8
      clear c8
      obtain ⟨t263, A9, H⟩ := bnd_ H
      try dsimp -simprocs only at H
      obtain rfl := Option.some.inj H
      go_enter Tryd.func102, Tryd.ntmps102
      go_wp2_with (first | ((with_reducible refine gate_callee (f := 121) rfl ?_); refine goesL_ (some 9) rfl rfl Tryd.func121 (by kernel_rfl) rfl #[.int .i64 a1] rfl Ga_ ?_; (with_reducible refine (reredosref02_bound.calls a1 t258 _ A3.out).mono ?_); rintro e w' ⟨rfl, ⟨nd, rfl⟩⟩; refine ⟨_, rfl, ?_⟩) | ((with_reducible refine gate_callee (f := 123) rfl ?_); refine goesL_ (some 16) rfl rfl Tryd.func123 (by kernel_rfl) rfl #[.string t258] rfl Ga_ ?_; (with_reducible refine (reredosref01_Neg.calls k t258 t259 _ A5.out).mono ?_); rintro e w' ⟨rfl, ⟨nd, rfl⟩⟩; refine ⟨_, rfl, ?_⟩) | ((with_reducible refine gate_callee (f := 122) rfl ?_); refine goesL_ (some 17) rfl rfl Tryd.func122 (by kernel_rfl) rfl #[.string t259, .string (⟨#[49]⟩ : ByteArray)] rfl Ga_ ?_; (with_reducible refine (reredosref01_Sub.calls k t259 (⟨#[49]⟩ : ByteArray) t260 t261 _ A6.out).mono ?_); rintro e w10 ⟨rfl, hb⟩; refine ⟨_, rfl, ?_⟩; replace HB := Bs_ hb; (try clear hb); (try clear hb2); (try clear hk); (try clear hi)) | ((with_reducible refine gate_callee (f := 103) rfl ?_); refine goesL_ (some 22) rfl rfl Tryd.func103 (by kernel_rfl) rfl #[.string a0, .string t258] rfl Ga_ ?_; (with_reducible refine (reredosref01_Cmp.calls k a0 t258 t262 _ A7.out).mono ?_); rintro e w11 ⟨rfl, hb⟩; refine ⟨_, rfl, ?_⟩; replace HB := Bs_ hb; (try clear hb); (try clear hb2); (try clear hk); (try clear hi)) | (go_at_call 103; (with_reducible refine (reredosref01_Cmp.calls k a0 t260 t263 _ A9.out).mono ?_); rintro e w12 ⟨rfl, hb⟩; replace HB := Bs_ hb; (try clear hb); (try clear hb2); (try clear hk); (try clear hi)))
      go_ret
      exact ⟨Re_, Bl_⟩
    · rw [if_neg c8] at H
      have c8b0 : decide (t262 ≤ 0) = false := decide_eq_false c8
      clear c8
      obtain rfl := Option.some.inj H
      go_enter Tryd.func102, Tryd.ntmps102
      go_wp2_with (first | ((with_reducible refine gate_callee (f := 121) rfl ?_); refine goesL_ (some 9) rfl rfl Tryd.func121 (by kernel_rfl) rfl #[.int .i64 a1] rfl Ga_ ?_; (with_reducible refine (reredosref02_bound.calls a1 t258 _ A3.out).mono ?_); rintro e w' ⟨rfl, ⟨nd, rfl⟩⟩; refine ⟨_, rfl, ?_⟩) | ((with_reducible refine gate_callee (f := 123) rfl ?_); refine goesL_ (some 16) rfl rfl Tryd.func123 (by kernel_rfl) rfl #[.string t258] rfl Ga_ ?_; (with_reducible refine (reredosref01_Neg.calls k t258 t259 _ A5.out).mono ?_); rintro e w' ⟨rfl, ⟨nd, rfl⟩⟩; refine ⟨_, rfl, ?_⟩) | ((with_reducible refine gate_callee (f := 122) rfl ?_); refine goesL_ (some 17) rfl rfl Tryd.func122 (by kernel_rfl) rfl #[.string t259, .string (⟨#[49]⟩ : ByteArray)] rfl Ga_ ?_; (with_reducible refine (reredosref01_Sub.calls k t259 (⟨#[49]⟩ : ByteArray) t260 t261 _ A6.out).mono ?_); rintro e w13 ⟨rfl, hb⟩; refine ⟨_, rfl, ?_⟩; replace HB := Bs_ hb; (try clear hb); (try clear hb2); (try clear hk); (try clear hi)) | ((with_reducible refine gate_callee (f := 103) rfl ?_); refine goesL_ (some 22) rfl rfl Tryd.func103 (by kernel_rfl) rfl #[.string a0, .string t258] rfl Ga_ ?_; (with_reducible refine (reredosref01_Cmp.calls k a0 t258 t262 _ A7.out).mono ?_); rintro e w14 ⟨rfl, hb⟩; refine ⟨_, rfl, ?_⟩; replace HB := Bs_ hb; (try clear hb); (try clear hb2); (try clear hk); (try clear hi)))
      go_ret
      exact ⟨Re_, Bl_⟩
/-! ### reredosref02_Of: function 77 -/
def reredosref02_Of.l0 : Nat → ByteArray → List Int → Int → Option (Int)
  | 0, _, _, _ => none
  | k + 1, x0, x3, x4 => if x4 < (x3.length : Int) then ((reredosref01_May.f k x0).bind fun t267 => (if t267 = true then (if 0 ≤ x4 then ((reredosref02_In.f k x0 (rd x3 x4)).bind fun t269 => (if t269 = true then (some (rd x3 x4)) else (reredosref02_Of.l0 k x0 x3 (wrap64 (x4 + 1))))) else (none)) else (reredosref02_Of.l0 k x0 x3 (wrap64 (x4 + 1))))) else (some 128)
def reredosref02_Of.f (k : Nat) (a0 : ByteArray) : Option (Int) := reredosref02_Of.l0 k a0 (([8, 16, 32, 64] : List Int)) 0
set_option maxHeartbeats 8000000 in
set_option maxRecDepth 100000 in
theorem reredosref02_Of.calls (k : Nat) (a0 : ByteArray) (r : Int) (w : World) (h : reredosref02_Of.f k a0 = some r) :
    Calls Tryd.prog 77 #[.string a0] w fun e w' => e = .returned (.int .i64 r) ∧ Below w.heap.size w w' := by
  have HB := Aside0.mk (Below.refl w.heap.size w)
  have H : (reredosref02_Of.l0 k a0 (([8, 16, 32, 64] : List Int)) 0) = some r := h
  clear h
  obtain ⟨y264, hy264⟩ : ∃ y_ : List Int, y_ = (([8, 16, 32, 64] : List Int)) := ⟨_, rfl⟩
  replace H : (reredosref02_Of.l0 k a0 y264 0) = some r := by first | (rw [hy264]; with_reducible exact H) | (have H2_ := (Option.bind_some _ _).symm.trans H; rw [hy264]; with_reducible exact H2_) | (have H2_ := (Option.bind_some _ _).symm.trans H; with_reducible exact H2_) | with_reducible exact H | (rw [hy264]; exact H) | exact H
  have Ny264 := Aside0.mk hy264
  clear hy264
  have H' := Aside0.mk H
  clear H
  go_enter Tryd.func77, Tryd.ntmps77
  go_wp2_with (first | ((with_reducible refine gate_dst (N := 5) rfl ?_); refine Kd.R_lit (Kd.int .i64) _ 3 ?hg (N := 5) ?hd (xs := ([8, 16, 32, 64] : List Int)) (inner := [.int .i64 8, .int .i64 16, .int .i64 32, .int .i64 64]) (ok := fun _ => True) (okp := fun _ => True) ?hr ?hp (fun _ hk => hk) trivial (Below.refl _ _) (Nat.le_refl _) (by simp) ?_; (case hd => rfl); (case hg => rfl); (case hr => first | (go_simp; done) | (go_simp; rfl)); (case hp => exact (Reps.one (show Kd.M (Kd.int .i64) _ _ _ 8 [.int .i64 8] from rfl) (Reps.one (show Kd.M (Kd.int .i64) _ _ _ 16 [.int .i64 16] from rfl) (Reps.one (show Kd.M (Kd.int .i64) _ _ _ 32 [.int .i64 32] from rfl) (Reps.one (show Kd.M (Kd.int .i64) _ _ _ 64 [.int .i64 64] from rfl) (Reps.none _ _)))))); intro v265 w2 ho3 hb hg_ hnew_; clear hg_ hnew_; (first | rw [← Ny264.out] at ho3 | (simp only [Int.reduceToNat] at ho3; rw [← Ny264.out] at ho3)); have HO266 := Aside0.mk (Kd.R_lower ho3 Bz_); replace HB := Bs_ hb; clear hb ho3))
  go_loopg [4] k (fun kq v4 w' => ∃ (x4_1 : Int), v4 = .int .i64 x4_1 ∧ Aside0 (reredosref02_Of.l0 kq a0 y264 x4_1 = some r) ∧ Aside0 (kq ≤ k) ∧ Aside0 (Kd.R (Kd.int .i64) 3 w' w.heap.size (fun _ => True) v265 y264) ∧ Aside0 (Below w.heap.size w w'))
  case atStart => exact ⟨(0), Rf_, H', ⟨Nat.le_refl _⟩, ⟨by (with_reducible repeat (first | apply Kd.R_alloc | apply Kd.R_drewN | apply Kd.R_drew)); exact HO266.out⟩, ⟨Bl_⟩⟩
  case round =>
    clear H'
    try clear p2
    obtain ⟨x4_1, rfl, HA, HK1, HO_3, HB⟩ := hrel
    cases gk with
    | zero => exact absurd HA.out (by simp [reredosref02_Of.l0])
    | succ k1 =>
      have H := HA.out
      clear HA
      simp only [reredosref02_Of.l0] at H
      by_cases c4 : x4_1 < (y264.length : Int)
      · rw [if_pos c4] at H
        have c4b0 : decide (x4_1 < (y264.length : Int)) = true := decide_eq_true c4
        clear c4
        obtain ⟨t267, A5, H⟩ := bnd_ H
        try dsimp -simprocs only at H
        by_cases c6 : t267 = true
        · subst c6
          have H1 : (if 0 ≤ x4_1 then ((reredosref02_In.f k1 a0 (rd y264 x4_1)).bind fun t269 => (if t269 = true then (some (rd y264 x4_1)) else (reredosref02_Of.l0 k1 a0 y264 (wrap64 (x4_1 + 1))))) else (none)) = some r := by rw [if_pos rfl] at H; exact H
          clear H
          have H := H1
          clear H1
          by_cases c7 : 0 ≤ x4_1
          · rw [if_pos c7] at H
            have c7b0 : decide (0 ≤ x4_1) = true := decide_eq_true c7
            clear c7
            obtain ⟨t269, A8, H⟩ := bnd_ H
            try dsimp -simprocs only at H
            by_cases c9 : t269 = true
            · subst c9
              have H1 : (some (rd y264 x4_1)) = some r := by rw [if_pos rfl] at H; exact H
              clear H
              have H := H1
              clear H1
              obtain rfl := Option.some.inj H
              obtain ⟨Ao10, co10, eo10⟩ := Kd.R_slice HO_3.out
              subst eo10
              go_wp2_with (first | ((with_reducible refine gate_callee (f := 76) rfl ?_); refine goesL_ (some 13) rfl rfl Tryd.func76 (by kernel_rfl) rfl #[.string a0] rfl Ga_ ?_; (with_reducible refine (reredosref01_May.calls k1 a0 true _ A5.out).mono ?_); rintro e w' ⟨rfl, ⟨nd, rfl⟩⟩; refine ⟨_, rfl, ?_⟩; have p268 : 0 ≤ (x4_1 : Int) := of_decide_eq_true As_; have q268 : x4_1 < (y264.length : Int) := of_decide_eq_true As_; obtain ⟨ad268, e268, hx268_0⟩ := Kd.at_int (Kd.R_reads' HO_3.out).2.2 x4_1 p268 q268; cases e268; replace p268 := eq_true p268; replace q268 := eq_true q268) | (go_at_call 102; (with_reducible refine (reredosref02_In.calls k1 a0 (rd y264 x4_1) true _ A8.out).mono ?_); rintro e w11 ⟨rfl, hb⟩; replace HO_3 := Aside0.mk (Kd.R_below (Pr_ HO_3.out) hb); replace HB := Bs_ hb; (try clear hb); (try clear hb2); (try clear hk); (try clear hi); have p270 : 0 ≤ (x4_1 : Int) := of_decide_eq_true As_; have q270 : x4_1 < (y264.length : Int) := of_decide_eq_true As_; obtain ⟨ad270, e270, hx270_0⟩ := Kd.at_int (Kd.R_reads' HO_3.out).2.2 x4_1 p270 q270; obtain rfl : ad268 = ad270 := (by injection e270); replace p270 := eq_true p270; replace q270 := eq_true q270))
              go_ret
              exact ⟨Re_, Bl_⟩
            · replace c9 := Bool.eq_false_iff.mpr c9
              subst c9
              have H1 : (reredosref02_Of.l0 k1 a0 y264 (wrap64 (x4_1 + 1))) = some r := by rw [if_neg (show ¬ (false = true) by decide)] at H; exact H
              clear H
              have H := H1
              clear H1
              have H' := Aside0.mk H
              clear H
              obtain ⟨Ao12, co12, eo12⟩ := Kd.R_slice HO_3.out
              subst eo12
              go_wp2_with (first | ((with_reducible refine gate_callee (f := 76) rfl ?_); refine goesL_ (some 13) rfl rfl Tryd.func76 (by kernel_rfl) rfl #[.string a0] rfl Ga_ ?_; (with_reducible refine (reredosref01_May.calls k1 a0 true _ A5.out).mono ?_); rintro e w' ⟨rfl, ⟨nd, rfl⟩⟩; refine ⟨_, rfl, ?_⟩; have p268 : 0 ≤ (x4_1 : Int) := of_decide_eq_true As_; have q268 : x4_1 < (y264.length : Int) := of_decide_eq_true As_; obtain ⟨ad268, e268, hx268_0⟩ := Kd.at_int (Kd.R_reads' HO_3.out).2.2 x4_1 p268 q268; cases e268; replace p268 := eq_true p268; replace q268 := eq_true q268) | (go_at_call 102; (with_reducible refine (reredosref02_In.calls k1 a0 (rd y264 x4_1) false _ A8.out).mono ?_); rintro e w13 ⟨rfl, hb⟩; replace HO_3 := Aside0.mk (Kd.R_below (Pr_ HO_3.out) hb); replace HB := Bs_ hb; (try clear hb); (try clear hb2); (try clear hk); (try clear hi)))
              go_roundg k1
              case measure => have := HK1.out; omega
              case rel => exact ⟨(wrap64 (x4_1 + 1)), Rf_, H', ⟨by have := HK1.out; omega⟩, ⟨by (with_reducible repeat (first | apply Kd.R_alloc | apply Kd.R_drewN | apply Kd.R_drew)); exact HO_3.out⟩, ⟨Bl_⟩⟩
          · rw [if_neg c7] at H
            exact absurd H (by simp)
        · replace c6 := Bool.eq_false_iff.mpr c6
          subst c6
          have H1 : (reredosref02_Of.l0 k1 a0 y264 (wrap64 (x4_1 + 1))) = some r := by rw [if_neg (show ¬ (false = true) by decide)] at H; exact H
          clear H
          have H := H1
          clear H1
          have H' := Aside0.mk H
          clear H
          obtain ⟨Ao14, co14, eo14⟩ := Kd.R_slice HO_3.out
          subst eo14
          go_wp2_with (first | ((with_reducible refine gate_callee (f := 76) rfl ?_); refine goesL_ (some 13) rfl rfl Tryd.func76 (by kernel_rfl) rfl #[.string a0] rfl Ga_ ?_; (with_reducible refine (reredosref01_May.calls k1 a0 false _ A5.out).mono ?_); rintro e w' ⟨rfl, ⟨nd, rfl⟩⟩; refine ⟨_, rfl, ?_⟩))
          go_roundg k1
          case measure => have := HK1.out; omega
          case rel => exact ⟨(wrap64 (x4_1 + 1)), Rf_, H', ⟨by have := HK1.out; omega⟩, ⟨by (with_reducible repeat (first | apply Kd.R_alloc | apply Kd.R_drewN | apply Kd.R_drew)); exact HO_3.out⟩, ⟨Bl_⟩⟩
      · rw [if_neg c4] at H
        have c4b0 : decide (x4_1 < (y264.length : Int)) = false := decide_eq_false c4
        clear c4
        obtain rfl := Option.some.inj H
        obtain ⟨Ao15, co15, eo15⟩ := Kd.R_slice HO_3.out
        subst eo15
        go_wp2
        go_ret
        exact ⟨Re_, Bl_⟩
/-! ### reredosref04_Width: function 40 -/
def reredosref04_Width.l0 : Nat → Int → Int → List Int → List ByteArray → Option (Int)
  | 0, _, _, _, _ => none
  | k + 1, x3, x4, x272000, x272001 => if x4 < (x272001.length : Int) then (if 0 ≤ x4 then ((reredosref02_Of.f k (rdOf ByteArray.empty x272001 x4)).bind fun t273 => (reredosref04_Width.l0 k (mx x3 t273) (wrap64 (x4 + 1)) x272000 x272001)) else (none)) else (some x3)
def reredosref04_Width.f (k : Nat) (l0_0 : List Int) (l0_1 : List ByteArray) : Option (Int) := reredosref04_Width.l0 k 8 0 l0_0 l0_1
set_option maxHeartbeats 8000000 in
set_option maxRecDepth 100000 in
theorem reredosref04_Width.calls (k : Nat) (A0_0 : Option Addr) (c0_0 : Nat) (l0_0 : List Int) (A0_1 : Option Addr) (c0_1 : Nat) (l0_1 : List ByteArray) (r : Int) (w : World) (hr0_0 : Kd.C (Kd.int .i64) w A0_0 l0_0.length l0_0) (hc0_0 : l0_0.length ≤ c0_0) (hr0_1 : Kd.C Kd.string w A0_1 l0_1.length l0_1) (hc0_1 : l0_1.length ≤ c0_1) (h : reredosref04_Width.f k l0_0 l0_1 = some r) :
    Calls Tryd.prog 40 #[.agg #[.slice A0_0 l0_0.length c0_0, .slice A0_1 l0_1.length c0_1]] w fun e w' => e = .returned (.int .i64 r) ∧ Below w.heap.size w w' := by
  have hu25 := Tryd.underlying25
  have HR0_0 := Aside0.mk hr0_0
  have HC0_0 := Aside0.mk hc0_0
  clear hr0_0 hc0_0
  have HR0_1 := Aside0.mk hr0_1
  have HC0_1 := Aside0.mk hc0_1
  clear hr0_1 hc0_1
  have HB := Aside0.mk (Below.refl w.heap.size w)
  have H : (reredosref04_Width.l0 k 8 0 l0_0 l0_1) = some r := h
  clear h
  have H' := Aside0.mk H
  clear H
  go_enter Tryd.func40, Tryd.ntmps40
  go_wp2_with (first | ((with_reducible refine gate_dst (N := 1) rfl ?_); refine bx_ 1 #[.slice A0_0 l0_0.length c0_0, .slice A0_1 l0_1.length c0_1] 25 ?_; intro gb271 hg w2 hbox hb; have BK271 := Aside0.mk (hbox); have GW271 := (Bg_ hg : Aside0 (w.heap.size ≤ gb271)); have GE271 := (Bg_ hg : Aside0 (w.heap.size ≤ gb271)); replace HB := Bs_ hb; clear hb hbox hg))
  go_loopg [3, 4] k (fun kq v3 v4 w' => ∃ (x3_1 : Int) (x4_1 : Int), v3 = .int .i64 x3_1 ∧ v4 = .int .i64 x4_1 ∧ Aside0 (reredosref04_Width.l0 kq x3_1 x4_1 l0_0 l0_1 = some r) ∧ Aside0 (kq ≤ k) ∧ Aside0 (w'.heap[gb271]? = some (.cells #[(.slice A0_0 l0_0.length c0_0), (.slice A0_1 l0_1.length c0_1)] 25 (0, 0))) ∧ Aside0 (Below w.heap.size w w'))
  case atStart => exact ⟨(8), (0), Rf_, Rf_, H', ⟨Nat.le_refl _⟩, ⟨by (with_reducible repeat (first | refine blk_drewN ?_ _ | refine blk_drew ?_ | refine blk_alloc ?_ _)); exact BK271.out⟩, ⟨Bl_⟩⟩
  case round =>
    clear H'
    try clear p2
    obtain ⟨x3_1, x4_1, rfl, rfl, HA, HK1, BK271, HB⟩ := hrel
    cases gk with
    | zero => exact absurd HA.out (by simp [reredosref04_Width.l0])
    | succ k1 =>
      have H := HA.out
      clear HA
      simp only [reredosref04_Width.l0] at H
      by_cases c3 : x4_1 < (l0_1.length : Int)
      · rw [if_pos c3] at H
        have c3b0 : decide (x4_1 < (l0_1.length : Int)) = true := decide_eq_true c3
        clear c3
        by_cases c4 : 0 ≤ x4_1
        · rw [if_pos c4] at H
          have c4b0 : decide (0 ≤ x4_1) = true := decide_eq_true c4
          clear c4
          obtain ⟨t273, A5, H⟩ := bnd_ H
          try dsimp -simprocs only at H
          obtain ⟨ji6, hji6⟩ : ∃ j_ : Int, (mx x3_1 t273) = j_ := ⟨_, rfl⟩
          replace H : (reredosref04_Width.l0 k1 ji6 (wrap64 (x4_1 + 1)) l0_0 l0_1) = some r := by first | (rw [hji6] at H; exact H) | (simp only [hji6] at H ⊢; exact H)
          (try rw [hji6] at A5)
          have hji6_ : (if x3_1 < t273 then t273 else x3_1) = ji6 := hji6
          have H' := Aside0.mk H
          clear H
          obtain ⟨hcz7_0, hcz7_1⟩ := c2_ BK271
          obtain ⟨hfz7_0, hfz7_1⟩ := f2_ BK271
          have p272 : 0 ≤ (x4_1 : Int) := of_decide_eq_true As_
          have q272 : x4_1 < (l0_1.length : Int) := of_decide_eq_true As_
          obtain ⟨ad272, e272, hx272_0⟩ := Kd.at_string HR0_1.out x4_1 p272 q272
          cases e272
          replace hx272_0 := (HB.out.cell (World.block_lt_of_cell? w _ hx272_0)).trans hx272_0
          replace p272 := eq_true p272
          replace q272 := eq_true q272
          go_wp2_with (first | ((with_reducible refine gate_callee (f := 77) rfl ?_); refine goesL_ (some 18) rfl rfl Tryd.func77 (by kernel_rfl) rfl #[.string (rdOf ByteArray.empty l0_1 x4_1)] rfl Ga_ ?_; (with_reducible refine (reredosref02_Of.calls k1 (rdOf ByteArray.empty l0_1 x4_1) t273 _ A5.out).mono ?_); rintro e w8 ⟨rfl, hb⟩; refine ⟨_, rfl, ?_⟩; replace BK271 := kb_ BK271 hb; replace HB := Bs_ hb; (try clear hb); (try clear hb2); (try clear hk); (try clear hi)))
          go_roundg k1
          case measure => have := HK1.out; omega
          case rel => exact ⟨(ji6), (wrap64 (x4_1 + 1)), (by first | rfl | (simp; done) | (simp only [← hji6] <;> (first | rfl | simp)) | (simp [*]; done)), Rf_, H', ⟨by have := HK1.out; omega⟩, ⟨by (with_reducible repeat (first | refine blk_drewN ?_ _ | refine blk_drew ?_ | refine blk_alloc ?_ _)); exact BK271.out⟩, ⟨Bl_⟩⟩
        · rw [if_neg c4] at H
          exact absurd H (by simp)
      · rw [if_neg c3] at H
        have c3b0 : decide (x4_1 < (l0_1.length : Int)) = false := decide_eq_false c3
        clear c3
        obtain rfl := Option.some.inj H
        obtain ⟨hcz9_0, hcz9_1⟩ := c2_ BK271
        obtain ⟨hfz9_0, hfz9_1⟩ := f2_ BK271
        go_wp2
        go_ret
        exact ⟨Re_, Bl_⟩
/-! ### reredosref05_floor: function 106 -/
def reredosref05_floor.f (a0 : Int) : Option (Int) := if a0 < 0 then (if (Int.tmod a0 256) = 0 then (some (wrap64 (Int.tdiv a0 256))) else (some (wrap64 ((wrap64 (Int.tdiv a0 256)) - 1)))) else (some (wrap64 (Int.tdiv a0 256)))
set_option maxHeartbeats 8000000 in
set_option maxRecDepth 100000 in
theorem reredosref05_floor.calls (a0 : Int) (r : Int) (w : World) (h : reredosref05_floor.f a0 = some r) :
    Calls Tryd.prog 106 #[.int .i64 a0] w fun e w' => e = .returned (.int .i64 r) ∧ Drawn0 w w' := by
  have H : (if a0 < 0 then (if (Int.tmod a0 256) = 0 then (some (wrap64 (Int.tdiv a0 256))) else (some (wrap64 ((wrap64 (Int.tdiv a0 256)) - 1)))) else (some (wrap64 (Int.tdiv a0 256)))) = some r := h
  clear h
  by_cases c2 : a0 < 0
  · rw [if_pos c2] at H
    have c2b0 : decide (a0 < 0) = true := decide_eq_true c2
    clear c2
    by_cases c3 : (Int.tmod a0 256) = 0
    · rw [if_pos c3] at H
      have c3b0 : ((Int.tmod a0 256) == 0) = true := beq_iff_eq.mpr c3
      have c3b1 : ((Int.tmod a0 256) != 0) = false := bne_eq_false_iff_eq.mpr c3
      clear c3
      obtain rfl := Option.some.inj H
      go_enter Tryd.func106, Tryd.ntmps106
      go_wp2
      go_ret
      exact ⟨Rf_, Dw_⟩
    · rw [if_neg c3] at H
      have c3b0 : ((Int.tmod a0 256) == 0) = false := beq_eq_false_iff_ne.mpr c3
      have c3b1 : ((Int.tmod a0 256) != 0) = true := bne_iff_ne.mpr c3
      obtain rfl := Option.some.inj H
      go_enter Tryd.func106, Tryd.ntmps106
      go_wp2
      go_ret
      exact ⟨Rf_, Dw_⟩
  · rw [if_neg c2] at H
    have c2b0 : decide (a0 < 0) = false := decide_eq_false c2
    clear c2
    obtain rfl := Option.some.inj H
    go_enter Tryd.func106, Tryd.ntmps106
    go_wp2
    go_ret
    exact ⟨Rf_, Dw_⟩
/-! ### reredosref05_put: function 79 -/
def reredosref05_put.l0 : Nat → Int → Int → ByteArray → Int → Option (ByteArray)
  | 0, _, _, _, _ => none
  | k + 1, x0, x1, x5, x6 => if x6 < x1 then (if (Int.tmod x0 256) < 0 then ((some (([(wrap64 ((Int.tmod x0 256) + 256)) % 256] : List Int) : List Int)).bind fun y280 => (if (strOfNums y280).size + x5.size ≤ 9223372036854775807 then ((reredosref05_floor.f x0).bind fun t283 => (reredosref05_put.l0 k t283 x1 ((strOfNums y280) ++ x5) (wrap64 (x6 + 1)))) else (none))) else ((some (([(Int.tmod x0 256) % 256] : List Int) : List Int)).bind fun y284 => (if (strOfNums y284).size + x5.size ≤ 9223372036854775807 then ((reredosref05_floor.f x0).bind fun t287 => (reredosref05_put.l0 k t287 x1 ((strOfNums y284) ++ x5) (wrap64 (x6 + 1)))) else (none)))) else (some x5)
def reredosref05_put.f (k : Nat) (a0 : Int) (a1 : Int) : Option (ByteArray) := reredosref05_put.l0 k a0 a1 (⟨#[]⟩ : ByteArray) 0
set_option maxHeartbeats 8000000 in
set_option maxRecDepth 100000 in
theorem reredosref05_put.calls (k : Nat) (a0 : Int) (a1 : Int) (r : ByteArray) (w : World) (h : reredosref05_put.f k a0 a1 = some r) :
    Calls Tryd.prog 79 #[.int .i64 a0, .int .i64 a1] w fun e w' => e = .returned (.string r) ∧ Below w.heap.size w w' := by
  have HB := Aside0.mk (Below.refl w.heap.size w)
  have H : (reredosref05_put.l0 k a0 a1 (⟨#[]⟩ : ByteArray) 0) = some r := h
  clear h
  have H' := Aside0.mk H
  clear H
  go_enter Tryd.func79, Tryd.ntmps79
  go_wp2
  go_loopg [0, 5, 6] k (fun kq v0 v5 v6 w' => ∃ (x0_1 : Int) (x5_1 : ByteArray) (x6_1 : Int), v0 = .int .i64 x0_1 ∧ v5 = .string x5_1 ∧ v6 = .int .i64 x6_1 ∧ Aside0 (reredosref05_put.l0 kq x0_1 a1 x5_1 x6_1 = some r) ∧ Aside0 (kq ≤ k) ∧ Aside0 (Below w.heap.size w w'))
  case atStart => exact ⟨(a0), ((⟨#[]⟩ : ByteArray)), (0), Rf_, Rf_, Rf_, H', ⟨Nat.le_refl _⟩, ⟨Bl_⟩⟩
  case round =>
    clear H'
    try clear p2
    obtain ⟨x0_1, x5_1, x6_1, rfl, rfl, rfl, HA, HK1, HB⟩ := hrel
    cases gk with
    | zero => exact absurd HA.out (by simp [reredosref05_put.l0])
    | succ k1 =>
      have H := HA.out
      clear HA
      simp only [reredosref05_put.l0] at H
      by_cases c3 : x6_1 < a1
      · rw [if_pos c3] at H
        have c3b0 : decide (x6_1 < a1) = true := decide_eq_true c3
        clear c3
        by_cases c4 : (Int.tmod x0_1 256) < 0
        · rw [if_pos c4] at H
          have c4b0 : decide ((Int.tmod x0_1 256) < 0) = true := decide_eq_true c4
          clear c4
          obtain ⟨y280, hy280⟩ : ∃ y_ : List Int, y_ = (([(wrap64 ((Int.tmod x0_1 256) + 256)) % 256] : List Int)) := ⟨_, rfl⟩
          replace H : (if (strOfNums y280).size + x5_1.size ≤ 9223372036854775807 then ((reredosref05_floor.f x0_1).bind fun t283 => (reredosref05_put.l0 k1 t283 a1 ((strOfNums y280) ++ x5_1) (wrap64 (x6_1 + 1)))) else (none)) = some r := by first | (rw [hy280]; with_reducible exact H) | (have H2_ := (Option.bind_some _ _).symm.trans H; rw [hy280]; with_reducible exact H2_) | (have H2_ := (Option.bind_some _ _).symm.trans H; with_reducible exact H2_) | with_reducible exact H | (rw [hy280]; exact H) | exact H
          have Ny280 := Aside0.mk hy280
          clear hy280
          by_cases c5 : (strOfNums y280).size + x5_1.size ≤ 9223372036854775807
          · rw [if_pos c5] at H
            have c5b0 := eq_true c5
            have c5b1 : decide ((strOfNums y280).size + x5_1.size ≤ 9223372036854775807) = true := decide_eq_true c5
            try have c5b2 : (9223372036854775807 < (strOfNums y280).size + x5_1.size) = False := eq_false (Nat.not_lt.2 c5)
            obtain ⟨t283, A6, H⟩ := bnd_ H
            try dsimp -simprocs only at H
            have H' := Aside0.mk H
            clear H
            go_wp2_with (first | ((with_reducible refine gate_dst (N := 21) rfl ?_); refine Kd.R_lit (Kd.int .u8) _ 5 ?hg (N := 21) ?hd (xs := ([(wrap64 ((Int.tmod x0_1 256) + 256)) % 256] : List Int)) (inner := [.int .u8 ((wrap64 ((Int.tmod x0_1 256) + 256)) % 256)]) (ok := fun _ => True) (okp := fun _ => True) ?hr ?hp (fun _ hk => hk) trivial (Below.refl _ _) (Nat.le_refl _) (by simp) ?_; (case hd => rfl); (case hg => rfl); (case hr => first | (go_simp; done) | (go_simp; rfl)); (case hp => exact (Reps.one (show Kd.M (Kd.int .u8) _ _ _ ((wrap64 ((Int.tmod x0_1 256) + 256)) % 256) [.int .u8 ((wrap64 ((Int.tmod x0_1 256) + 256)) % 256)] from rfl) (Reps.none _ _))); intro v281 w7 ho8 hb hg_ hnew_; clear hg_ hnew_; (first | rw [← Ny280.out] at ho8 | (simp only [Int.reduceToNat] at ho8; rw [← Ny280.out] at ho8)); have HO282 := Aside0.mk (Kd.R_lower ho8 Bz_); replace HB := Bs_ hb; clear hb ho8; have hcv9 := own_string (P := Tryd.prog) Tryd.underlying100 Tryd.underlying5 Tryd.underlying9 (Kd.own_of_R HO282.out)) | ((with_reducible refine gate_callee (f := 106) rfl ?_); refine goesL_ (some 26) rfl rfl Tryd.func106 (by kernel_rfl) rfl #[.int .i64 x0_1] rfl Ga_ ?_; (with_reducible refine (reredosref05_floor.calls x0_1 t283 _ A6.out).mono ?_); rintro e w' ⟨rfl, ⟨nd, rfl⟩⟩; refine ⟨_, rfl, ?_⟩))
            go_roundg k1
            case measure => have := HK1.out; omega
            case rel => exact ⟨(t283), ((strOfNums y280) ++ x5_1), (wrap64 (x6_1 + 1)), Rf_, Rf_, Rf_, H', ⟨by have := HK1.out; omega⟩, ⟨Bl_⟩⟩
          · rw [if_neg c5] at H
            exact absurd H (by simp)
        · rw [if_neg c4] at H
          have c4b0 : decide ((Int.tmod x0_1 256) < 0) = false := decide_eq_false c4
          clear c4
          obtain ⟨y284, hy284⟩ : ∃ y_ : List Int, y_ = (([(Int.tmod x0_1 256) % 256] : List Int)) := ⟨_, rfl⟩
          replace H : (if (strOfNums y284).size + x5_1.size ≤ 9223372036854775807 then ((reredosref05_floor.f x0_1).bind fun t287 => (reredosref05_put.l0 k1 t287 a1 ((strOfNums y284) ++ x5_1) (wrap64 (x6_1 + 1)))) else (none)) = some r := by first | (rw [hy284]; with_reducible exact H) | (have H2_ := (Option.bind_some _ _).symm.trans H; rw [hy284]; with_reducible exact H2_) | (have H2_ := (Option.bind_some _ _).symm.trans H; with_reducible exact H2_) | with_reducible exact H | (rw [hy284]; exact H) | exact H
          have Ny284 := Aside0.mk hy284
          clear hy284
          by_cases c10 : (strOfNums y284).size + x5_1.size ≤ 9223372036854775807
          · rw [if_pos c10] at H
            have c10b0 := eq_true c10
            have c10b1 : decide ((strOfNums y284).size + x5_1.size ≤ 9223372036854775807) = true := decide_eq_true c10
            try have c10b2 : (9223372036854775807 < (strOfNums y284).size + x5_1.size) = False := eq_false (Nat.not_lt.2 c10)
            obtain ⟨t287, A11, H⟩ := bnd_ H
            try dsimp -simprocs only at H
            have H' := Aside0.mk H
            clear H
            go_wp2_with (first | ((with_reducible refine gate_dst (N := 21) rfl ?_); refine Kd.R_lit (Kd.int .u8) _ 5 ?hg (N := 21) ?hd (xs := ([(Int.tmod x0_1 256) % 256] : List Int)) (inner := [.int .u8 ((Int.tmod x0_1 256) % 256)]) (ok := fun _ => True) (okp := fun _ => True) ?hr ?hp (fun _ hk => hk) trivial (Below.refl _ _) (Nat.le_refl _) (by simp) ?_; (case hd => rfl); (case hg => rfl); (case hr => first | (go_simp; done) | (go_simp; rfl)); (case hp => exact (Reps.one (show Kd.M (Kd.int .u8) _ _ _ ((Int.tmod x0_1 256) % 256) [.int .u8 ((Int.tmod x0_1 256) % 256)] from rfl) (Reps.none _ _))); intro v285 w12 ho13 hb hg_ hnew_; clear hg_ hnew_; (first | rw [← Ny284.out] at ho13 | (simp only [Int.reduceToNat] at ho13; rw [← Ny284.out] at ho13)); have HO286 := Aside0.mk (Kd.R_lower ho13 Bz_); replace HB := Bs_ hb; clear hb ho13; have hcv14 := own_string (P := Tryd.prog) Tryd.underlying100 Tryd.underlying5 Tryd.underlying9 (Kd.own_of_R HO286.out)) | ((with_reducible refine gate_callee (f := 106) rfl ?_); refine goesL_ (some 26) rfl rfl Tryd.func106 (by kernel_rfl) rfl #[.int .i64 x0_1] rfl Ga_ ?_; (with_reducible refine (reredosref05_floor.calls x0_1 t287 _ A11.out).mono ?_); rintro e w' ⟨rfl, ⟨nd, rfl⟩⟩; refine ⟨_, rfl, ?_⟩))
            go_roundg k1
            case measure => have := HK1.out; omega
            case rel => exact ⟨(t287), ((strOfNums y284) ++ x5_1), (wrap64 (x6_1 + 1)), Rf_, Rf_, Rf_, H', ⟨by have := HK1.out; omega⟩, ⟨Bl_⟩⟩
          · rw [if_neg c10] at H
            exact absurd H (by simp)
      · rw [if_neg c3] at H
        have c3b0 : decide (x6_1 < a1) = false := decide_eq_false c3
        clear c3
        obtain rfl := Option.some.inj H
        go_wp2
        go_ret
        exact ⟨Re_, Bl_⟩
/-! ### reredosref01_Int: function 78 -/
mutual
def reredosref01_Int.j0 : Nat → ByteArray → Bool → Option (Int × Bool)
  | 0, _, _ => none
  | k + 1, x0, x19 => if x19 = true then (some (0, false)) else (reredosref01_Int.l0 k x0 0 0)
def reredosref01_Int.l0 : Nat → ByteArray → Int → Int → Option (Int × Bool)
  | 0, _, _, _ => none
  | k + 1, x0, x4, x5 => (reredosref01_size.f x0).bind fun t277 => (if x5 < (t277.size : Int) then ((reredosref01_size.f x0).bind fun t278 => (if 0 ≤ x5 then (if x5 < (t278.size : Int) then ((reredosref01_low.f x0).bind fun t279 => (if t279 = true then (reredosref01_Int.l0 k x0 (wrap64 ((wrap64 (10 * x4)) - (((bt t278 x5) - 48) % 256))) (wrap64 (x5 + 1))) else (reredosref01_Int.l0 k x0 (wrap64 ((wrap64 (10 * x4)) + (((bt t278 x5) - 48) % 256))) (wrap64 (x5 + 1))))) else (none)) else (none))) else (some (x4, true)))
end
def reredosref01_Int.f (k : Nat) (a0 : ByteArray) : Option (Int × Bool) := (reredosref01_May.f k a0).bind fun t274 => (if t274 = true then ((reredosref01_Cmp.f k a0 (⟨#[57, 50, 50, 51, 51, 55, 50, 48, 51, 54, 56, 53, 52, 55, 55, 53, 56, 48, 55]⟩ : ByteArray)).bind fun t275 => (if t275 > 0 then (reredosref01_Int.j0 k a0 true) else ((reredosref01_Cmp.f k a0 (⟨#[45, 57, 50, 50, 51, 51, 55, 50, 48, 51, 54, 56, 53, 52, 55, 55, 53, 56, 48, 56]⟩ : ByteArray)).bind fun t276 => (reredosref01_Int.j0 k a0 (decide (t276 < 0)))))) else (reredosref01_Int.j0 k a0 true))
set_option maxHeartbeats 8000000 in
set_option maxRecDepth 100000 in
theorem reredosref01_Int.calls (k : Nat) (a0 : ByteArray) (r1 : Int) (r2 : Bool) (w : World) (h : reredosref01_Int.f k a0 = some (r1, r2)) :
    Calls Tryd.prog 78 #[.string a0] w fun e w' => e = .returned (.tuple #[.int .i64 r1, .bool r2]) ∧ Below w.heap.size w w' := by
  have HB := Aside0.mk (Below.refl w.heap.size w)
  have H : ((reredosref01_May.f k a0).bind fun t274 => (if t274 = true then ((reredosref01_Cmp.f k a0 (⟨#[57, 50, 50, 51, 51, 55, 50, 48, 51, 54, 56, 53, 52, 55, 55, 53, 56, 48, 55]⟩ : ByteArray)).bind fun t275 => (if t275 > 0 then (reredosref01_Int.j0 k a0 true) else ((reredosref01_Cmp.f k a0 (⟨#[45, 57, 50, 50, 51, 51, 55, 50, 48, 51, 54, 56, 53, 52, 55, 55, 53, 56, 48, 56]⟩ : ByteArray)).bind fun t276 => (reredosref01_Int.j0 k a0 (decide (t276 < 0)))))) else (reredosref01_Int.j0 k a0 true))) = some (r1, r2) := h
  clear h
  have HC2 := Aside0.mk H
  clear H
  go_enter Tryd.func78, Tryd.ntmps78
  go_upto_region 1 with (fail)
  go_cut [19] (fun v19 wc => ∃ (kq : Nat) (x19_1 : Bool), v19 = .bool x19_1 ∧ Aside0 (reredosref01_Int.j0 kq a0 x19_1 = some (r1, r2)) ∧ Aside0 (kq ≤ k) ∧ Aside0 (Below w.heap.size w wc))
  case first =>
    have H := HC2.out
    clear HC2
    obtain ⟨t274, A3, H⟩ := bnd_ H
    try dsimp -simprocs only at H
    by_cases c4 : t274 = true
    · subst c4
      have H1 : ((reredosref01_Cmp.f k a0 (⟨#[57, 50, 50, 51, 51, 55, 50, 48, 51, 54, 56, 53, 52, 55, 55, 53, 56, 48, 55]⟩ : ByteArray)).bind fun t275 => (if t275 > 0 then (reredosref01_Int.j0 k a0 true) else ((reredosref01_Cmp.f k a0 (⟨#[45, 57, 50, 50, 51, 51, 55, 50, 48, 51, 54, 56, 53, 52, 55, 55, 53, 56, 48, 56]⟩ : ByteArray)).bind fun t276 => (reredosref01_Int.j0 k a0 (decide (t276 < 0)))))) = some (r1, r2) := by rw [if_pos rfl] at H; exact H
      clear H
      have H := H1
      clear H1
      obtain ⟨t275, A5, H⟩ := bnd_ H
      try dsimp -simprocs only at H
      by_cases c6 : t275 > 0
      · rw [if_pos c6] at H
        have c6b0 : decide (0 < t275) = true := decide_eq_true c6
        clear c6
        (first | rw [c6b0] | (simp only [i64_w, i32_w]; rw [c6b0]) | skip)
        have H' := Aside0.mk H
        clear H
        go_wp2_with (first | ((with_reducible refine gate_callee (f := 76) rfl ?_); refine goesL_ (some 8) rfl rfl Tryd.func76 (by kernel_rfl) rfl #[.string a0] rfl Ga_ ?_; (with_reducible refine (reredosref01_May.calls k a0 true _ A3.out).mono ?_); rintro e w' ⟨rfl, ⟨nd, rfl⟩⟩; refine ⟨_, rfl, ?_⟩) | (go_at_call 103; (with_reducible refine (reredosref01_Cmp.calls k a0 (⟨#[57, 50, 50, 51, 51, 55, 50, 48, 51, 54, 56, 53, 52, 55, 55, 53, 56, 48, 55]⟩ : ByteArray) t275 _ A5.out).mono ?_); rintro e w7 ⟨rfl, hb⟩; replace HB := Bs_ hb; (try clear hb); (try clear hb2); (try clear hk); (try clear hi)))
        go_meet
        case rel => exact ⟨_, (true), Rf_, H', ⟨by first | omega | exact Nat.le_refl _⟩, ⟨Bl_⟩⟩
      · rw [if_neg c6] at H
        have c6b0 : decide (0 < t275) = false := decide_eq_false c6
        clear c6
        (first | rw [c6b0] | (simp only [i64_w, i32_w]; rw [c6b0]) | skip)
        obtain ⟨t276, A8, H⟩ := bnd_ H
        try dsimp -simprocs only at H
        have H' := Aside0.mk H
        clear H
        go_wp2_with (first | ((with_reducible refine gate_callee (f := 76) rfl ?_); refine goesL_ (some 8) rfl rfl Tryd.func76 (by kernel_rfl) rfl #[.string a0] rfl Ga_ ?_; (with_reducible refine (reredosref01_May.calls k a0 true _ A3.out).mono ?_); rintro e w' ⟨rfl, ⟨nd, rfl⟩⟩; refine ⟨_, rfl, ?_⟩) | (go_at_call 103; (with_reducible refine (reredosref01_Cmp.calls k a0 (⟨#[57, 50, 50, 51, 51, 55, 50, 48, 51, 54, 56, 53, 52, 55, 55, 53, 56, 48, 55]⟩ : ByteArray) t275 _ A5.out).mono ?_); rintro e w9 ⟨rfl, hb⟩; replace HB := Bs_ hb; (try clear hb); (try clear hb2); (try clear hk); (try clear hi)) | (go_at_call 103; (with_reducible refine (reredosref01_Cmp.calls k a0 (⟨#[45, 57, 50, 50, 51, 51, 55, 50, 48, 51, 54, 56, 53, 52, 55, 55, 53, 56, 48, 56]⟩ : ByteArray) t276 _ A8.out).mono ?_); rintro e w10 ⟨rfl, hb⟩; replace HB := Bs_ hb; (try clear hb); (try clear hb2); (try clear hk); (try clear hi)))
        go_meet
        case rel => exact ⟨_, (decide (t276 < 0)), Rf_, H', ⟨by first | omega | exact Nat.le_refl _⟩, ⟨Bl_⟩⟩
    · replace c4 := Bool.eq_false_iff.mpr c4
      subst c4
      have H1 : (reredosref01_Int.j0 k a0 true) = some (r1, r2) := by rw [if_neg (show ¬ (false = true) by decide)] at H; exact H
      clear H
      have H := H1
      clear H1
      have H' := Aside0.mk H
      clear H
      go_wp2_with (first | ((with_reducible refine gate_callee (f := 76) rfl ?_); refine goesL_ (some 8) rfl rfl Tryd.func76 (by kernel_rfl) rfl #[.string a0] rfl Ga_ ?_; (with_reducible refine (reredosref01_May.calls k a0 false _ A3.out).mono ?_); rintro e w' ⟨rfl, ⟨nd, rfl⟩⟩; refine ⟨_, rfl, ?_⟩))
      go_meet
      case rel => exact ⟨_, (true), Rf_, H', ⟨by first | omega | exact Nat.le_refl _⟩, ⟨Bl_⟩⟩
  case rest =>
    clear HC2
    try clear p2
    try clear c4
    try clear c6
    try clear c6b0
    try clear c7
    obtain ⟨kq, x19_1, rfl, HA, HJ1, HB⟩ := hcut
    cases kq with
    | zero => exact absurd HA.out (by simp [reredosref01_Int.j0])
    | succ kj1 =>
      have H := HA.out
      clear HA
      simp only [reredosref01_Int.j0] at H
      by_cases c11 : x19_1 = true
      · subst c11
        have H1 : (some (0, false)) = some (r1, r2) := by rw [if_pos rfl] at H; exact H
        clear H
        have H := H1
        clear H1
        simp only [Option.some.injEq, Prod.mk.injEq] at H
        obtain ⟨rfl, rfl⟩ := H
        go_wp2
        go_ret2
        exact ⟨Re_, Bl_⟩
      · replace c11 := Bool.eq_false_iff.mpr c11
        subst c11
        have H1 : (reredosref01_Int.l0 kj1 a0 0 0) = some (r1, r2) := by rw [if_neg (show ¬ (false = true) by decide)] at H; exact H
        clear H
        have H := H1
        clear H1
        have H' := Aside0.mk H
        clear H
        go_wp2
        go_loopg [4, 5] kj1 (fun kq v4 v5 w' => ∃ (x4_2 : Int) (x5_2 : Int), v4 = .int .i64 x4_2 ∧ v5 = .int .i64 x5_2 ∧ Aside0 (reredosref01_Int.l0 kq a0 x4_2 x5_2 = some (r1, r2)) ∧ Aside0 (kq ≤ kj1) ∧ Aside0 (Below w.heap.size w w'))
        case atStart => exact ⟨(0), (0), Rf_, Rf_, H', ⟨Nat.le_refl _⟩, ⟨Bl_⟩⟩
        case round =>
          clear H'
          try clear c1
          try clear p2
          try clear c4
          try clear c6
          try clear c6b0
          try clear c7
          try clear c11
          try clear p2
          obtain ⟨x4_2, x5_2, rfl, rfl, HA, HK2, HB⟩ := hrel
          cases gk with
          | zero => exact absurd HA.out (by simp [reredosref01_Int.l0])
          | succ k2 =>
            have H := HA.out
            clear HA
            simp only [reredosref01_Int.l0] at H
            obtain ⟨t277, A12, H⟩ := bnd_ H
            try dsimp -simprocs only at H
            by_cases c13 : x5_2 < (t277.size : Int)
            · rw [if_pos c13] at H
              have c13b0 : decide (x5_2 < (t277.size : Int)) = true := decide_eq_true c13
              clear c13
              obtain ⟨t278, A14, H⟩ := bnd_ H
              try dsimp -simprocs only at H
              by_cases c15 : 0 ≤ x5_2
              · rw [if_pos c15] at H
                have c15b0 : decide (0 ≤ x5_2) = true := decide_eq_true c15
                clear c15
                by_cases c16 : x5_2 < (t278.size : Int)
                · rw [if_pos c16] at H
                  have c16b0 : decide (x5_2 < (t278.size : Int)) = true := decide_eq_true c16
                  clear c16
                  obtain ⟨t279, A18, H⟩ := bnd_ H
                  try dsimp -simprocs only at H
                  by_cases c19 : t279 = true
                  · subst c19
                    have H1 : (reredosref01_Int.l0 k2 a0 (wrap64 ((wrap64 (10 * x4_2)) - (((bt t278 x5_2) - 48) % 256))) (wrap64 (x5_2 + 1))) = some (r1, r2) := by rw [if_pos rfl] at H; exact H
                    clear H
                    have H := H1
                    clear H1
                    have H' := Aside0.mk H
                    clear H
                    go_wp2_with (first | ((with_reducible refine gate_callee (f := 104) rfl ?_); refine goesL_ (some 22) rfl rfl Tryd.func104 (by kernel_rfl) rfl #[.string a0] rfl Ga_ ?_; (with_reducible refine (reredosref01_size.calls a0 t277 _ A12.out).mono ?_); rintro e w' ⟨rfl, ⟨nd, rfl⟩⟩; refine ⟨_, rfl, ?_⟩) | ((with_reducible refine gate_callee (f := 104) rfl ?_); refine goesL_ (some 28) rfl rfl Tryd.func104 (by kernel_rfl) rfl #[.string a0] rfl Ga_ ?_; (with_reducible refine (reredosref01_size.calls a0 t278 _ A14.out).mono ?_); rintro e w' ⟨rfl, ⟨nd, rfl⟩⟩; refine ⟨_, rfl, ?_⟩; have p17 : 0 ≤ (x5_2 : Int) := of_decide_eq_true As_; have q17 : x5_2 < (t278.size : Int) := of_decide_eq_true As_; have hx17 := bt_at t278 x5_2; replace p17 := eq_true p17; replace q17 := eq_true q17) | ((with_reducible refine gate_callee (f := 105) rfl ?_); refine goesL_ (some 34) rfl rfl Tryd.func105 (by kernel_rfl) rfl #[.string a0] rfl Ga_ ?_; (with_reducible refine (reredosref01_low.calls a0 true _ A18.out).mono ?_); rintro e w' ⟨rfl, ⟨nd, rfl⟩⟩; refine ⟨_, rfl, ?_⟩))
                    go_roundg k2
                    case measure => have := HJ1.out; have := HK2.out; omega
                    case rel => exact ⟨(wrap64 ((wrap64 (10 * x4_2)) - (((bt t278 x5_2) - 48) % 256))), (wrap64 (x5_2 + 1)), Rf_, Rf_, H', ⟨by have := HJ1.out; have := HK2.out; omega⟩, ⟨Bl_⟩⟩
                  · replace c19 := Bool.eq_false_iff.mpr c19
                    subst c19
                    have H1 : (reredosref01_Int.l0 k2 a0 (wrap64 ((wrap64 (10 * x4_2)) + (((bt t278 x5_2) - 48) % 256))) (wrap64 (x5_2 + 1))) = some (r1, r2) := by rw [if_neg (show ¬ (false = true) by decide)] at H; exact H
                    clear H
                    have H := H1
                    clear H1
                    have H' := Aside0.mk H
                    clear H
                    go_wp2_with (first | ((with_reducible refine gate_callee (f := 104) rfl ?_); refine goesL_ (some 22) rfl rfl Tryd.func104 (by kernel_rfl) rfl #[.string a0] rfl Ga_ ?_; (with_reducible refine (reredosref01_size.calls a0 t277 _ A12.out).mono ?_); rintro e w' ⟨rfl, ⟨nd, rfl⟩⟩; refine ⟨_, rfl, ?_⟩) | ((with_reducible refine gate_callee (f := 104) rfl ?_); refine goesL_ (some 28) rfl rfl Tryd.func104 (by kernel_rfl) rfl #[.string a0] rfl Ga_ ?_; (with_reducible refine (reredosref01_size.calls a0 t278 _ A14.out).mono ?_); rintro e w' ⟨rfl, ⟨nd, rfl⟩⟩; refine ⟨_, rfl, ?_⟩; have p17 : 0 ≤ (x5_2 : Int) := of_decide_eq_true As_; have q17 : x5_2 < (t278.size : Int) := of_decide_eq_true As_; have hx17 := bt_at t278 x5_2; replace p17 := eq_true p17; replace q17 := eq_true q17) | ((with_reducible refine gate_callee (f := 105) rfl ?_); refine goesL_ (some 34) rfl rfl Tryd.func105 (by kernel_rfl) rfl #[.string a0] rfl Ga_ ?_; (with_reducible refine (reredosref01_low.calls a0 false _ A18.out).mono ?_); rintro e w' ⟨rfl, ⟨nd, rfl⟩⟩; refine ⟨_, rfl, ?_⟩))
                    go_roundg k2
                    case measure => have := HJ1.out; have := HK2.out; omega
                    case rel => exact ⟨(wrap64 ((wrap64 (10 * x4_2)) + (((bt t278 x5_2) - 48) % 256))), (wrap64 (x5_2 + 1)), Rf_, Rf_, H', ⟨by have := HJ1.out; have := HK2.out; omega⟩, ⟨Bl_⟩⟩
                · rw [if_neg c16] at H
                  exact absurd H (by simp)
              · rw [if_neg c15] at H
                exact absurd H (by simp)
            · rw [if_neg c13] at H
              have c13b0 : decide (x5_2 < (t277.size : Int)) = false := decide_eq_false c13
              clear c13
              simp only [Option.some.injEq, Prod.mk.injEq] at H
              obtain ⟨rfl, rfl⟩ := H
              go_wp2_with (first | ((with_reducible refine gate_callee (f := 104) rfl ?_); refine goesL_ (some 22) rfl rfl Tryd.func104 (by kernel_rfl) rfl #[.string a0] rfl Ga_ ?_; (with_reducible refine (reredosref01_size.calls a0 t277 _ A12.out).mono ?_); rintro e w' ⟨rfl, ⟨nd, rfl⟩⟩; refine ⟨_, rfl, ?_⟩))
              go_ret2
              exact ⟨Re_, Bl_⟩
/-! ### reredosref05_lay: function 41 -/
def reredosref05_lay.l0 : Nat → Int → Int → List Int → List ByteArray → Int → List Int → ByteArray → Option (Int × List Int × ByteArray)
  | 0, _, _, _, _, _, _, _ => none
  | k + 1, x1, x6, x289000, x289001, x291000, x291001, x291002 => if x6 < (x289001.length : Int) then (if 0 ≤ x6 then ((reredosref01_Int.f k (rdOf ByteArray.empty x289001 x6)).bind fun bt292 => ((reredosref05_put.f k bt292.1 (wrap64 (Int.tdiv x1 8))).bind fun t294 => (if x291002.size + t294.size ≤ 9223372036854775807 then (reredosref05_lay.l0 k x1 (wrap64 (x6 + 1)) x289000 x289001 x291000 x291001 (x291002 ++ t294)) else (none)))) else (none)) else (some (x291000, x291001, x291002))
def reredosref05_lay.f (k : Nat) (l0_0 : List Int) (l0_1 : List ByteArray) (a1 : Int) : Option (Int × List Int × ByteArray) := reredosref05_lay.l0 k a1 0 l0_0 l0_1 a1 l0_0 (⟨#[]⟩ : ByteArray)
def reredosref05_lay.T6 : Bool × List (List Nat × List Nat) := (true, [([], []), ([0], [0]), ([], []), ([], []), ([3], [3]), ([2, 4], [2, 4]), ([1, 5], [1, 5]), ([0, 1, 2, 3, 4, 5, 6], []), ([7, 6, 5, 0, 1, 2, 3, 4, 5, 6], [6, 7])])
def reredosref05_lay.B6 : List Nat := [0, 1, 0, 0, 8, 28, 63, 127, 255]
theorem reredosref05_lay.tab6 : rtab .any (opsOf Tryd.f41 6) = reredosref05_lay.T6 := by kernel_rfl
theorem reredosref05_lay.bits6 : waitsOk reredosref05_lay.T6.2 reredosref05_lay.B6 = true := by kernel_rfl
set_option maxHeartbeats 8000000 in
set_option maxRecDepth 100000 in
theorem reredosref05_lay.calls (k : Nat) (P0_0_ : Nat → Prop) (A0_0 : Option Addr) (c0_0 : Nat) (l0_0 : List Int) (A0_1 : Option Addr) (c0_1 : Nat) (l0_1 : List ByteArray) (a1 : Int) (r1 : Int) (r2 : List Int) (r3 : ByteArray) (w : World) (hs0_0 : Kd.V (Kd.int .i64) 3 w w.heap.size (fun k_ => P0_0_ k_) (.slice A0_0 l0_0.length c0_0) l0_0) (hr0_1 : Kd.C Kd.string w A0_1 l0_1.length l0_1) (hc0_1 : l0_1.length ≤ c0_1) (h : reredosref05_lay.f k l0_0 l0_1 a1 = some (r1, r2, r3)) :
    Calls Tryd.prog 41 #[.agg #[.slice A0_0 l0_0.length c0_0, .slice A0_1 l0_1.length c0_1], .int .i64 a1] w fun e w' => ∃ v1_ : Value, e = .returned (.agg #[.int .i64 r1, v1_, .string r3]) ∧ Kd.V (Kd.int .i64) 3 w' w.heap.size (fun k_ => (P0_0_ k_ ∨ w.heap.size ≤ k_)) v1_ r2 ∧ Below w.heap.size w w' := by
  have hu25 := Tryd.underlying25
  have hu33 := Tryd.underlying33
  have HO0_0 := Aside0.mk (show Kd.V (Kd.int .i64) 3 w w.heap.size (fun k_ => (P0_0_ k_ ∨ w.heap.size ≤ k_)) (.slice A0_0 l0_0.length c0_0) l0_0 from Kd.V_mono hs0_0 (fun k_ hk => .inl hk))
  have HR0_1 := Aside0.mk hr0_1
  have HC0_1 := Aside0.mk hc0_1
  clear hr0_1 hc0_1
  have HB := Aside0.mk (Below.refl w.heap.size w)
  have H : (reredosref05_lay.l0 k a1 0 l0_0 l0_1 a1 l0_0 (⟨#[]⟩ : ByteArray)) = some (r1, r2, r3) := h
  clear h
  have H' := Aside0.mk H
  clear H
  go_enter Tryd.func41, Tryd.ntmps41
  go_wp2_with (first | ((with_reducible refine gate_dst (N := 2) rfl ?_); refine bx_ 2 #[.slice A0_0 l0_0.length c0_0, .slice A0_1 l0_1.length c0_1] 25 ?_; intro gb288 hg w3 hbox hb; replace HO0_0 := Aside0.mk (Kd.V_below (Kd.V_elderB (Pv_ HO0_0.out) gb288 (Nat.le_of_eq hg.symm)) hb); have BK288 := Aside0.mk (hbox); have GW288 := (Bg_ hg : Aside0 (w.heap.size ≤ gb288)); have GE288 := (Bg_ hg : Aside0 (w.heap.size ≤ gb288)); replace HB := Bs_ hb; clear hb hbox hg) | ((with_reducible refine gate_dst (N := 4) rfl ?_); refine bx_ 4 #[.int .i64 0, .slice none 0 0, .string (⟨#[]⟩ : ByteArray)] 33 ?_; intro gb289 hg w4 hbox hb; replace HO0_0 := Aside0.mk (Kd.V_below (Kd.V_elderB (Pv_ HO0_0.out) gb289 (Nat.le_of_eq hg.symm)) hb); have BK289 := Aside0.mk (hbox); have GW289 := (Bg_ hg : Aside0 (w.heap.size ≤ gb289)); have GE289 := (Bg_ hg : Aside0 (w.heap.size ≤ gb289)); replace HB := Bs_ hb; have NB288_289 := nl_ hg BK288; have NB289_288 := ng_ hg BK288; replace BK288 := kb_ BK288 hb; clear hb hbox hg; have hnb5 := NB288_289.out; have hnc5 := NB289_288.out; obtain ⟨hcz6_0, hcz6_1⟩ := c2_ BK288; obtain ⟨hfz6_0, hfz6_1⟩ := f2_ BK288) | ((with_reducible refine gate_dst (N := 5) rfl ?_); refine bx_ 5 #[.int .i64 0, .slice none 0 0, .string (⟨#[]⟩ : ByteArray)] 33 ?_; intro gb290 hg w7 hbox hb; replace HO0_0 := Aside0.mk (Kd.V_below (Kd.V_elderB (Pv_ HO0_0.out) gb290 (Nat.le_of_eq hg.symm)) hb); have BK290 := Aside0.mk (hbox); have GW290 := (Bg_ hg : Aside0 (w.heap.size ≤ gb290)); have GE290 := (Bg_ hg : Aside0 (w.heap.size ≤ gb290)); replace HB := Bs_ hb; have NB288_290 := nl_ hg BK288; have NB290_288 := ng_ hg BK288; replace BK288 := kb_ BK288 hb; have NB289_290 := nl_ hg BK289; have NB290_289 := ng_ hg BK289; replace BK289 := kb_ BK289 hb; clear hb hbox hg; have hnb8 := NB290_288.out; have hnc8 := NB288_290.out; have hnb9 := NB290_289.out; have hnc9 := NB289_290.out; obtain ⟨hcz10_0, hcz10_1, hcz10_2⟩ := c3_ BK290; obtain ⟨hfz10_0, hfz10_1, hfz10_2⟩ := f3_ BK290))
  go_loopg [6] k (fun kq v6 w' => ∃ (x6_1 : Int) (x291002_1 : ByteArray), v6 = .int .i64 x6_1 ∧ Aside0 (reredosref05_lay.l0 kq a1 x6_1 l0_0 l0_1 a1 l0_0 x291002_1 = some (r1, r2, r3)) ∧ Aside0 (kq ≤ k) ∧ Aside0 (Kd.V (Kd.int .i64) 3 w' w.heap.size (fun k_ => (P0_0_ k_ ∨ w.heap.size ≤ k_) ∧ k_ ≠ gb288 ∧ k_ ≠ gb289 ∧ k_ ≠ gb290) (.slice A0_0 l0_0.length c0_0) l0_0) ∧ Aside0 (Kd.V (Kd.int .i64) 3 w' w.heap.size (fun k_ => (P0_0_ k_ ∨ w.heap.size ≤ k_) ∧ k_ ≠ gb288 ∧ k_ ≠ gb289 ∧ k_ ≠ gb290) (.slice A0_0 l0_0.length c0_0) l0_0) ∧ Aside0 (w'.heap[gb288]? = some (.cells #[(.slice A0_0 l0_0.length c0_0), (.slice A0_1 l0_1.length c0_1)] 25 (0, 0))) ∧ Aside0 (w'.heap[gb289]? = some (.cells #[.int .i64 0, (.slice none 0 0), .string (⟨#[]⟩ : ByteArray)] 33 (0, 0))) ∧ Aside0 (w'.heap[gb290]? = some (.cells #[.int .i64 a1, (.slice A0_0 l0_0.length c0_0), .string x291002_1] 33 (0, 0))) ∧ Aside0 (Below w.heap.size w w'))
  case atStart => exact ⟨(0), ((⟨#[]⟩ : ByteArray)), Rf_, H', ⟨Nat.le_refl _⟩, ⟨by (with_reducible repeat (first | apply Kd.V_alloc | apply Kd.V_drewN | apply Kd.V_drew)); exact Kd.V_mono (Kd.V_far (p := ⟨gb290, 2, none⟩) (Kd.V_far (p := ⟨gb290, 1, none⟩) (Kd.V_far (p := ⟨gb290, 0, none⟩) (Kd.V_mono HO0_0.out (fun k_ hk => (⟨hk, hk.2⟩ : _ ∧ k_ ≠ gb290))) (fun _ hk => hk.2) (.int .i64 a1)) (fun _ hk => hk.2) (.slice A0_0 l0_0.length c0_0)) (fun _ hk => hk.2) (.string (⟨#[]⟩ : ByteArray))) (fun _ hk => ⟨hk.1.1.1.1, ⟨hk.1.1.1.2, ⟨hk.1.1.2, hk.1.2⟩⟩⟩)⟩, ⟨by (with_reducible repeat (first | apply Kd.V_alloc | apply Kd.V_drewN | apply Kd.V_drew)); exact Kd.V_mono (Kd.V_far (p := ⟨gb290, 2, none⟩) (Kd.V_far (p := ⟨gb290, 1, none⟩) (Kd.V_far (p := ⟨gb290, 0, none⟩) (Kd.V_mono HO0_0.out (fun k_ hk => (⟨hk, hk.2⟩ : _ ∧ k_ ≠ gb290))) (fun _ hk => hk.2) (.int .i64 a1)) (fun _ hk => hk.2) (.slice A0_0 l0_0.length c0_0)) (fun _ hk => hk.2) (.string (⟨#[]⟩ : ByteArray))) (fun _ hk => ⟨hk.1.1.1.1, ⟨hk.1.1.1.2, ⟨hk.1.1.2, hk.1.2⟩⟩⟩)⟩, ⟨by (with_reducible repeat (first | refine blk_drewN ?_ _ | refine blk_drew ?_ | refine blk_alloc ?_ _)); refine blk_far ?_ NB288_290.out _; (with_reducible repeat (first | refine blk_drewN ?_ _ | refine blk_drew ?_ | refine blk_alloc ?_ _)); refine blk_far ?_ NB288_290.out _; (with_reducible repeat (first | refine blk_drewN ?_ _ | refine blk_drew ?_ | refine blk_alloc ?_ _)); refine blk_far ?_ NB288_290.out _; (with_reducible repeat (first | refine blk_drewN ?_ _ | refine blk_drew ?_ | refine blk_alloc ?_ _)); exact BK288.out⟩, ⟨by (with_reducible repeat (first | refine blk_drewN ?_ _ | refine blk_drew ?_ | refine blk_alloc ?_ _)); refine blk_far ?_ NB289_290.out _; (with_reducible repeat (first | refine blk_drewN ?_ _ | refine blk_drew ?_ | refine blk_alloc ?_ _)); refine blk_far ?_ NB289_290.out _; (with_reducible repeat (first | refine blk_drewN ?_ _ | refine blk_drew ?_ | refine blk_alloc ?_ _)); refine blk_far ?_ NB289_290.out _; (with_reducible repeat (first | refine blk_drewN ?_ _ | refine blk_drew ?_ | refine blk_alloc ?_ _)); exact BK289.out⟩, ⟨by (with_reducible repeat (first | refine blk_drewN ?_ _ | refine blk_drew ?_ | refine blk_alloc ?_ _)); refine blk_put (cs := #[.int .i64 a1, .slice A0_0 l0_0.length c0_0, .string (⟨#[]⟩ : ByteArray)]) ?_ 2 _ rfl; (with_reducible repeat (first | refine blk_drewN ?_ _ | refine blk_drew ?_ | refine blk_alloc ?_ _)); refine blk_put (cs := #[.int .i64 a1, .slice none 0 0, .string (⟨#[]⟩ : ByteArray)]) ?_ 1 _ rfl; (with_reducible repeat (first | refine blk_drewN ?_ _ | refine blk_drew ?_ | refine blk_alloc ?_ _)); refine blk_put (cs := #[.int .i64 0, .slice none 0 0, .string (⟨#[]⟩ : ByteArray)]) ?_ 0 _ rfl; (with_reducible repeat (first | refine blk_drewN ?_ _ | refine blk_drew ?_ | refine blk_alloc ?_ _)); exact BK290.out⟩, ⟨Bl_⟩⟩
  case round =>
    clear H'
    try clear p2
    try clear c4
    try clear c5
    try clear c8
    try clear c9
    try clear hcz10_0
    try clear hcz10_1
    try clear hcz10_2
    try clear hcz6_0
    try clear hcz6_1
    try clear hfz10_0
    try clear hfz10_1
    try clear hfz10_2
    try clear hfz6_0
    try clear hfz6_1
    obtain ⟨x6_1, x291002_1, rfl, HA, HK1, HO_289000, HO_291001, BK288, BK289, BK290, HB⟩ := hrel
    cases gk with
    | zero => exact absurd HA.out (by simp [reredosref05_lay.l0])
    | succ k1 =>
      have H := HA.out
      clear HA
      simp only [reredosref05_lay.l0] at H
      by_cases c11 : x6_1 < (l0_1.length : Int)
      · rw [if_pos c11] at H
        have c11b0 : decide (x6_1 < (l0_1.length : Int)) = true := decide_eq_true c11
        clear c11
        by_cases c12 : 0 ≤ x6_1
        · rw [if_pos c12] at H
          have c12b0 : decide (0 ≤ x6_1) = true := decide_eq_true c12
          clear c12
          obtain ⟨⟨t292, t293⟩, A13, H⟩ := bnd_ H
          try dsimp -simprocs only at H
          obtain ⟨t294, A14, H⟩ := bnd_ H
          try dsimp -simprocs only at H
          by_cases c15 : x291002_1.size + t294.size ≤ 9223372036854775807
          · rw [if_pos c15] at H
            have c15b0 := eq_true c15
            have c15b1 : decide (x291002_1.size + t294.size ≤ 9223372036854775807) = true := decide_eq_true c15
            try have c15b2 : (9223372036854775807 < x291002_1.size + t294.size) = False := eq_false (Nat.not_lt.2 c15)
            have H' := Aside0.mk H
            clear H
            have hnb16 := NB288_289.out
            have hnc16 := NB289_288.out
            have hnb17 := NB288_290.out
            have hnc17 := NB290_288.out
            obtain ⟨hcz18_0, hcz18_1⟩ := c2_ BK288
            obtain ⟨hfz18_0, hfz18_1⟩ := f2_ BK288
            have p291 : 0 ≤ (x6_1 : Int) := of_decide_eq_true As_
            have q291 : x6_1 < (l0_1.length : Int) := of_decide_eq_true As_
            obtain ⟨ad291, e291, hx291_0⟩ := Kd.at_string HR0_1.out x6_1 p291 q291
            cases e291
            replace hx291_0 := (HB.out.cell (World.block_lt_of_cell? w _ hx291_0)).trans hx291_0
            replace p291 := eq_true p291
            replace q291 := eq_true q291
            try go_wp2_with (first | ((with_reducible refine gate_callee (f := 78) rfl ?_); refine goesL_ (some 26) rfl rfl Tryd.func78 (by kernel_rfl) rfl #[.string (rdOf ByteArray.empty l0_1 x6_1)] rfl Ga_ ?_; (with_reducible refine (reredosref01_Int.calls k1 (rdOf ByteArray.empty l0_1 x6_1) t292 t293 _ A13.out).mono ?_); rintro e w19 ⟨rfl, hb⟩; refine ⟨_, rfl, ?_⟩; replace HO_289000 := Aside0.mk (Kd.V_below (Pv_ HO_289000.out) hb); replace HO_291001 := Aside0.mk (Kd.V_below (Pv_ HO_291001.out) hb); replace BK288 := kb_ BK288 hb; replace BK289 := kb_ BK289 hb; replace BK290 := kb_ BK290 hb; replace HB := Bs_ hb; (try clear hb); (try clear hb2); (try clear hk); (try clear hi)))
            replace HO_289000 := Aside0.mk (Kd.V_drew HO_289000.out)
            replace HO_291001 := Aside0.mk (Kd.V_drew HO_291001.out)
            replace BK288 := Aside0.mk (blk_drew BK288.out)
            replace BK289 := Aside0.mk (blk_drew BK289.out)
            replace BK290 := Aside0.mk (blk_drew BK290.out)
            replace HB := Aside0.mk (below_drew1 HB.out)
            refine start_ (n := 9) (S := fun w' => w'.cell? ⟨gb290, 0, none⟩ = some (.int .i64 a1) ∧ w'.cell? ⟨gb290, 1, none⟩ = some (.slice A0_0 l0_0.length c0_0) ∧ w'.cell? ⟨gb290, 2, none⟩ = some (.string x291002_1)) (ds := [8]) #[false, false, false, false, false, false, false, false, false] (by kernel_rfl) rfl rfl ⟨(blk_cell BK290.out 0).trans rfl, (blk_cell BK290.out 1).trans rfl, (blk_cell BK290.out 2).trans rfl⟩ (fun hHeld => ?_); refine with_tabW reredosref05_lay.tab6 reredosref05_lay.bits6 (fun HT_ HW_ => ?_)
            generalize w19.drew = w20 at HO_289000 HO_291001 BK288 BK289 BK290 HB hHeld ⊢
            refine pu_ 0 (some 29) HT_ #[true, false, false, false, false, false, false, false, false] ?_
            refine pu_ 2 (some 31) HT_ #[true, false, true, false, false, false, false, false, false] ?_
            refine pu_ 3 (some 32) HT_ #[true, false, true, true, false, false, false, false, false] ?_
            refine pu_ 4 (some 33) HT_ #[true, false, true, true, true, false, false, false, false] ?_
            refine take_ (i := 1) (N := some 30) (v := ?_) (a' := ?_) #[true, true, true, true, true, false, false, false, false] rfl rfl (take_ofW HT_.out HW_.out (by kernel_rfl)) (fun _ _ _ h => h) (Or.inl ⟨by rfl, ?_⟩) hHeld ?_ ?_
            rotate_left
            · rintro w' ⟨s0, s1, s2⟩
              go_simp
              with_reducible rfl
            rotate_left
            · simp only [Act.put, List.setIfInBounds_toArray, List.set_cons_zero, List.set_cons_succ, i64_w, i32_w]
              rfl
            refine one_ (i := 5) (N := some 34) #[true, true, true, true, true, true, false, false, false] rfl rfl (one_of HT_.out (by kernel_rfl)) (by decide) (fun K hK => ?_)
            refine goes_ Tryd.func79 (by kernel_rfl) rfl #[.int .i64 t292, .int .i64 (wrap64 (Int.tdiv a1 8))] (by rfl) rfl rfl Ga_ ?_
            with_reducible refine (reredosref05_put.calls k1 t292 (wrap64 (Int.tdiv a1 8)) t294 _ A14.out).mono ?_
            rintro e w21 ⟨rfl, hb⟩
            refine ⟨_, rfl, ?_⟩
            replace HO_289000 := Aside0.mk (Kd.V_below (Pv_ HO_289000.out) hb)
            replace HO_291001 := Aside0.mk (Kd.V_below (Pv_ HO_291001.out) hb)
            replace BK288 := kb_ BK288 hb
            replace BK289 := kb_ BK289 hb
            replace BK290 := kb_ BK290 hb
            replace HB := Bs_ hb
            (try clear hb)
            (try clear hb2)
            (try clear hk)
            (try clear hi)
            refine hK.out _ _ ⟨(blk_cell BK290.out 0).trans rfl, (blk_cell BK290.out 1).trans rfl, (blk_cell BK290.out 2).trans rfl⟩ (fun hHeld => ?_)
            clear hK K
            refine norm_ (a' := ?_) ?_ ?_
            rotate_left
            · show Act.put _ (some 34) _ = _
              simp only [Act.put, List.setIfInBounds_toArray, List.set_cons_zero, List.set_cons_succ, i64_w, i32_w]
              rfl
            refine pu_ 6 (some 35) HT_ #[true, true, true, true, true, true, true, false, false] ?_
            refine pu_ 7 (some 36) HT_ #[true, true, true, true, true, true, true, true, false] ?_
            refine last_ (i := 8) (N := none) #[true, true, true, true, true, true, true, true, true] rfl rfl (one_of HT_.out (by kernel_rfl)) (by decide) (fun K hK => ?_)
            have hs22 : w21.cell? ⟨gb290, 2, none⟩ = some (.string x291002_1) := (blk_cell BK290.out 2).trans rfl
            have hfs22 := blk_frozen BK290.out 2
            have hns22_0 := NB288_290.out
            have hns22_1 := NB289_290.out
            have hms22_0 := NB290_288.out
            have hms22_1 := NB290_289.out
            refine skip_ (w1 := ?_) (by rfl) rfl ?_ ?_
            rotate_left
            · go_simp
              rfl
            refine hK.out _ _ ?_
            clear hK K
            refine done_ (done_of HT_.out (by kernel_rfl)) ?_
            try go_wp2
            go_roundg k1
            case measure => have := HK1.out; omega
            case rel => exact ⟨(wrap64 (x6_1 + 1)), (x291002_1 ++ t294), Rf_, H', ⟨by have := HK1.out; omega⟩, ⟨by (with_reducible repeat (first | apply Kd.V_alloc | apply Kd.V_drewN | apply Kd.V_drew)); exact Kd.V_mono (Kd.V_far (p := ⟨gb290, 2, none⟩) (Kd.V_mono HO_289000.out (fun k_ hk => (⟨hk, hk.2.2.2⟩ : _ ∧ k_ ≠ gb290))) (fun _ hk => hk.2) (.string (x291002_1 ++ t294))) (fun _ hk => ⟨hk.1.1, ⟨hk.1.2.1, ⟨hk.1.2.2.1, hk.1.2.2.2⟩⟩⟩)⟩, ⟨by (with_reducible repeat (first | apply Kd.V_alloc | apply Kd.V_drewN | apply Kd.V_drew)); exact Kd.V_mono (Kd.V_far (p := ⟨gb290, 2, none⟩) (Kd.V_mono HO_291001.out (fun k_ hk => (⟨hk, hk.2.2.2⟩ : _ ∧ k_ ≠ gb290))) (fun _ hk => hk.2) (.string (x291002_1 ++ t294))) (fun _ hk => ⟨hk.1.1, ⟨hk.1.2.1, ⟨hk.1.2.2.1, hk.1.2.2.2⟩⟩⟩)⟩, ⟨by (with_reducible repeat (first | refine blk_drewN ?_ _ | refine blk_drew ?_ | refine blk_alloc ?_ _)); refine blk_far ?_ NB288_290.out _; (with_reducible repeat (first | refine blk_drewN ?_ _ | refine blk_drew ?_ | refine blk_alloc ?_ _)); exact BK288.out⟩, ⟨by (with_reducible repeat (first | refine blk_drewN ?_ _ | refine blk_drew ?_ | refine blk_alloc ?_ _)); refine blk_far ?_ NB289_290.out _; (with_reducible repeat (first | refine blk_drewN ?_ _ | refine blk_drew ?_ | refine blk_alloc ?_ _)); exact BK289.out⟩, ⟨by (with_reducible repeat (first | refine blk_drewN ?_ _ | refine blk_drew ?_ | refine blk_alloc ?_ _)); refine blk_put (cs := #[.int .i64 a1, .slice A0_0 l0_0.length c0_0, .string x291002_1]) ?_ 2 _ rfl; (with_reducible repeat (first | refine blk_drewN ?_ _ | refine blk_drew ?_ | refine blk_alloc ?_ _)); exact BK290.out⟩, ⟨Bl_⟩⟩
          · rw [if_neg c15] at H
            exact absurd H (by simp)
        · rw [if_neg c12] at H
          exact absurd H (by simp)
      · rw [if_neg c11] at H
        have c11b0 : decide (x6_1 < (l0_1.length : Int)) = false := decide_eq_false c11
        clear c11
        simp only [Option.some.injEq, Prod.mk.injEq] at H
        obtain ⟨rfl, rfl, rfl⟩ := H
        have hnb23 := NB288_289.out
        have hnc23 := NB289_288.out
        have hnb24 := NB288_290.out
        have hnc24 := NB290_288.out
        obtain ⟨hcz25_0, hcz25_1⟩ := c2_ BK288
        obtain ⟨hfz25_0, hfz25_1⟩ := f2_ BK288
        have hnb26 := NB290_289.out
        have hnc26 := NB289_290.out
        obtain ⟨hcz27_0, hcz27_1, hcz27_2⟩ := c3_ BK290
        obtain ⟨hfz27_0, hfz27_1, hfz27_2⟩ := f3_ BK290
        obtain ⟨hcz28_0, hcz28_1, hcz28_2⟩ := c3_ BK289
        obtain ⟨hfz28_0, hfz28_1, hfz28_2⟩ := f3_ BK289
        go_wp2
        refine bodyPost_ret (results_cell_row rfl _ _ gb289 33 #[.int .i64 a1, .slice A0_0 l0_0.length c0_0, .string x291002_1] (0, 0) _ rfl (by (with_reducible repeat (first | refine blk_drewN ?_ _ | refine blk_drew ?_ | refine blk_alloc ?_ _)); refine blk_put (cs := #[.int .i64 a1, .slice A0_0 l0_0.length c0_0, .string (⟨#[]⟩ : ByteArray)]) ?_ 2 _ rfl; (with_reducible repeat (first | refine blk_drewN ?_ _ | refine blk_drew ?_ | refine blk_alloc ?_ _)); refine blk_put (cs := #[.int .i64 a1, .slice none 0 0, .string (⟨#[]⟩ : ByteArray)]) ?_ 1 _ rfl; (with_reducible repeat (first | refine blk_drewN ?_ _ | refine blk_drew ?_ | refine blk_alloc ?_ _)); refine blk_put (cs := #[.int .i64 0, .slice none 0 0, .string (⟨#[]⟩ : ByteArray)]) ?_ 0 _ rfl; (with_reducible repeat (first | refine blk_drewN ?_ _ | refine blk_drew ?_ | refine blk_alloc ?_ _)); exact BK289.out) Tryd.underlying33 rfl (by kernel_rfl)) rfl ?_
        exact ⟨_, Re_, by (with_reducible repeat (first | apply Kd.V_alloc | apply Kd.V_drewN | apply Kd.V_drew)); exact Kd.V_mono (Kd.V_far (p := ⟨gb289, 2, none⟩) (Kd.V_far (p := ⟨gb289, 1, none⟩) (Kd.V_far (p := ⟨gb289, 0, none⟩) (Kd.V_mono HO_291001.out (fun k_ hk => (⟨hk, hk.2.2.1⟩ : _ ∧ k_ ≠ gb289))) (fun _ hk => hk.2) (.int .i64 a1)) (fun _ hk => hk.2) (.slice A0_0 l0_0.length c0_0)) (fun _ hk => hk.2) (.string x291002_1)) (fun _ hk => hk.1.1), Bl_⟩
/-! ### reredosref03_Size: function 75 -/
mutual
def reredosref03_Size.l0 : Nat → List Int → Bool → Int → Option (Int × Int)
  | 0, _, _, _ => none
  | k + 1, x0, x4, x5 => if x5 < (x0.length : Int) then (if 0 ≤ x5 then (if (rd x0 x5) < 0 then (some (0, 5)) else (if x4 = true then (reredosref03_Size.l0 k x0 true (wrap64 (x5 + 1))) else (reredosref03_Size.l0 k x0 ((rd x0 x5) == 0) (wrap64 (x5 + 1))))) else (none)) else (reredosref03_Size.l1 k x0 x4 0)
def reredosref03_Size.l1 : Nat → List Int → Bool → Int → Option (Int × Int)
  | 0, _, _, _ => none
  | k + 1, x0, x4, x6 => if x6 < (x0.length : Int) then (if 0 ≤ x6 then (if (rd x0 x6) > 1099511627776 then (some (0, 8)) else (reredosref03_Size.l1 k x0 x4 (wrap64 (x6 + 1)))) else (none)) else (if x4 = true then (some (0, 0)) else (reredosref03_Size.l2 k x0 1 0))
def reredosref03_Size.l2 : Nat → List Int → Int → Int → Option (Int × Int)
  | 0, _, _, _ => none
  | k + 1, x0, x7, x8 => if x8 < (x0.length : Int) then (if 0 ≤ x8 then (if (rd x0 x8) > 4096 then (some (0, 8)) else (if (wrap64 (x7 * (rd x0 x8))) > 4096 then (some (0, 8)) else (reredosref03_Size.l2 k x0 (wrap64 (x7 * (rd x0 x8))) (wrap64 (x8 + 1))))) else (none)) else (some (x7, 0))
end
def reredosref03_Size.f (k : Nat) (l0 : List Int) : Option (Int × Int) := if (l0.length : Int) > 3 then (some (0, 3)) else (reredosref03_Size.l0 k l0 false 0)
set_option maxHeartbeats 8000000 in
set_option maxRecDepth 100000 in
theorem reredosref03_Size.calls (k : Nat) (A0 : Option Addr) (c0 : Nat) (l0 : List Int) (r1 : Int) (r2 : Int) (w : World) (hr0 : Kd.C (Kd.int .i64) w A0 l0.length l0) (hc0 : l0.length ≤ c0) (h : reredosref03_Size.f k l0 = some (r1, r2)) :
    Calls Tryd.prog 75 #[.slice A0 l0.length c0] w fun e w' => e = .returned (.tuple #[.int .i64 r1, .int .i64 r2]) ∧ Drawn0 w w' := by
  have HR0 := Aside0.mk hr0
  have HC0 := Aside0.mk hc0
  clear hr0 hc0
  have H : (if (l0.length : Int) > 3 then (some (0, 3)) else (reredosref03_Size.l0 k l0 false 0)) = some (r1, r2) := h
  clear h
  by_cases c2 : (l0.length : Int) > 3
  · rw [if_pos c2] at H
    have c2b0 : decide (3 < (l0.length : Int)) = true := decide_eq_true c2
    have c2b1 : decide (3 < l0.length) = true := decide_eq_true (by omega)
    clear c2
    simp only [Option.some.injEq, Prod.mk.injEq] at H
    obtain ⟨rfl, rfl⟩ := H
    go_enter Tryd.func75, Tryd.ntmps75
    go_wp2
    go_ret2
    exact ⟨Rf_, Dw_⟩
  · rw [if_neg c2] at H
    have c2b0 : decide (3 < (l0.length : Int)) = false := decide_eq_false c2
    have c2b1 : decide (3 < l0.length) = false := decide_eq_false (by omega)
    clear c2
    have H' := Aside0.mk H
    clear H
    go_enter Tryd.func75, Tryd.ntmps75
    go_wp2
    go_loopg [4, 5] k (fun kq v4 v5 w' => ∃ (x4_1 : Bool) (x5_1 : Int), v4 = .bool x4_1 ∧ v5 = .int .i64 x5_1 ∧ Aside0 (reredosref03_Size.l0 kq l0 x4_1 x5_1 = some (r1, r2)) ∧ Aside0 (kq ≤ k) ∧ Drawn0 w w')
    case atStart => exact ⟨(false), (0), Rf_, Rf_, H', ⟨Nat.le_refl _⟩, Dw_⟩
    case round =>
      clear H'
      try clear c2
      try clear c2b0
      try clear c2b1
      try clear p2
      obtain ⟨x4_1, x5_1, rfl, rfl, HA, HK1, ⟨m1, rfl⟩⟩ := hrel
      cases gk with
      | zero => exact absurd HA.out (by simp [reredosref03_Size.l0])
      | succ k1 =>
        have H := HA.out
        clear HA
        simp only [reredosref03_Size.l0] at H
        by_cases c3 : x5_1 < (l0.length : Int)
        · rw [if_pos c3] at H
          have c3b0 : decide (x5_1 < (l0.length : Int)) = true := decide_eq_true c3
          clear c3
          by_cases c4 : 0 ≤ x5_1
          · rw [if_pos c4] at H
            have c4b0 : decide (0 ≤ x5_1) = true := decide_eq_true c4
            clear c4
            by_cases c5 : (rd l0 x5_1) < 0
            · rw [if_pos c5] at H
              have c5b0 : decide ((rd l0 x5_1) < 0) = true := decide_eq_true c5
              clear c5
              simp only [Option.some.injEq, Prod.mk.injEq] at H
              obtain ⟨rfl, rfl⟩ := H
              have p185 : 0 ≤ (x5_1 : Int) := of_decide_eq_true As_
              have q185 : x5_1 < (l0.length : Int) := of_decide_eq_true As_
              obtain ⟨ad185, e185, hx185_0⟩ := Kd.at_int HR0.out x5_1 p185 q185
              cases e185
              replace p185 := eq_true p185
              replace q185 := eq_true q185
              go_wp2
              go_ret2
              exact ⟨Rf_, Dw_⟩
            · rw [if_neg c5] at H
              have c5b0 : decide ((rd l0 x5_1) < 0) = false := decide_eq_false c5
              clear c5
              by_cases c6 : x4_1 = true
              · subst c6
                have H1 : (reredosref03_Size.l0 k1 l0 true (wrap64 (x5_1 + 1))) = some (r1, r2) := by rw [if_pos rfl] at H; exact H
                clear H
                have H := H1
                clear H1
                have H' := Aside0.mk H
                clear H
                have p185 : 0 ≤ (x5_1 : Int) := of_decide_eq_true As_
                have q185 : x5_1 < (l0.length : Int) := of_decide_eq_true As_
                obtain ⟨ad185, e185, hx185_0⟩ := Kd.at_int HR0.out x5_1 p185 q185
                cases e185
                replace p185 := eq_true p185
                replace q185 := eq_true q185
                go_wp2
                go_roundg k1
                case measure => have := HK1.out; omega
                case rel => exact ⟨(true), (wrap64 (x5_1 + 1)), Rf_, Rf_, H', ⟨by have := HK1.out; omega⟩, Dw_⟩
              · replace c6 := Bool.eq_false_iff.mpr c6
                subst c6
                have H1 : (reredosref03_Size.l0 k1 l0 ((rd l0 x5_1) == 0) (wrap64 (x5_1 + 1))) = some (r1, r2) := by rw [if_neg (show ¬ (false = true) by decide)] at H; exact H
                clear H
                have H := H1
                clear H1
                have H' := Aside0.mk H
                clear H
                have p185 : 0 ≤ (x5_1 : Int) := of_decide_eq_true As_
                have q185 : x5_1 < (l0.length : Int) := of_decide_eq_true As_
                obtain ⟨ad185, e185, hx185_0⟩ := Kd.at_int HR0.out x5_1 p185 q185
                cases e185
                replace p185 := eq_true p185
                replace q185 := eq_true q185
                have p186 : 0 ≤ (x5_1 : Int) := of_decide_eq_true As_
                have q186 : x5_1 < (l0.length : Int) := of_decide_eq_true As_
                obtain ⟨ad186, e186, hx186_0⟩ := Kd.at_int HR0.out x5_1 p186 q186
                obtain rfl : ad185 = ad186 := (by injection e186)
                replace p186 := eq_true p186
                replace q186 := eq_true q186
                go_wp2
                go_roundg k1
                case measure => have := HK1.out; omega
                case rel => exact ⟨(((rd l0 x5_1) == 0)), (wrap64 (x5_1 + 1)), Rf_, Rf_, H', ⟨by have := HK1.out; omega⟩, Dw_⟩
          · rw [if_neg c4] at H
            exact absurd H (by simp)
        · rw [if_neg c3] at H
          have c3b0 : decide (x5_1 < (l0.length : Int)) = false := decide_eq_false c3
          clear c3
          have H' := Aside0.mk H
          clear H
          go_wp2
          go_loopg [6] k1 (fun kq v6 w' => ∃ (x6_2 : Int), v6 = .int .i64 x6_2 ∧ Aside0 (reredosref03_Size.l1 kq l0 x4_1 x6_2 = some (r1, r2)) ∧ Aside0 (kq ≤ k1) ∧ Drawn0 w w')
          case atStart => exact ⟨(0), Rf_, H', ⟨Nat.le_refl _⟩, Dw_⟩
          case round =>
            clear H'
            try clear p1
            try clear q1
            try clear hx1
            try clear c2
            try clear c2b0
            try clear c2b1
            try clear p2
            try clear c3
            try clear c3b0
            try clear c4
            try clear c4b0
            try clear c5
            try clear c5b0
            try clear c6
            try clear p6
            try clear hx185_0
            try clear hx186_0
            try clear p185
            try clear p186
            try clear p2
            try clear q185
            try clear q186
            obtain ⟨x6_2, rfl, HA, HK2, ⟨m2, rfl⟩⟩ := hrel
            cases gk with
            | zero => exact absurd HA.out (by simp [reredosref03_Size.l1])
            | succ k2 =>
              have H := HA.out
              clear HA
              simp only [reredosref03_Size.l1] at H
              by_cases c7 : x6_2 < (l0.length : Int)
              · rw [if_pos c7] at H
                have c7b0 : decide (x6_2 < (l0.length : Int)) = true := decide_eq_true c7
                clear c7
                by_cases c8 : 0 ≤ x6_2
                · rw [if_pos c8] at H
                  have c8b0 : decide (0 ≤ x6_2) = true := decide_eq_true c8
                  clear c8
                  by_cases c9 : (rd l0 x6_2) > 1099511627776
                  · rw [if_pos c9] at H
                    have c9b0 : decide (1099511627776 < (rd l0 x6_2)) = true := decide_eq_true c9
                    clear c9
                    simp only [Option.some.injEq, Prod.mk.injEq] at H
                    obtain ⟨rfl, rfl⟩ := H
                    have p187 : 0 ≤ (x6_2 : Int) := of_decide_eq_true As_
                    have q187 : x6_2 < (l0.length : Int) := of_decide_eq_true As_
                    obtain ⟨ad187, e187, hx187_0⟩ := Kd.at_int HR0.out x6_2 p187 q187
                    cases e187
                    replace p187 := eq_true p187
                    replace q187 := eq_true q187
                    go_wp2
                    go_ret2
                    exact ⟨Rf_, Dw_⟩
                  · rw [if_neg c9] at H
                    have c9b0 : decide (1099511627776 < (rd l0 x6_2)) = false := decide_eq_false c9
                    clear c9
                    have H' := Aside0.mk H
                    clear H
                    have p187 : 0 ≤ (x6_2 : Int) := of_decide_eq_true As_
                    have q187 : x6_2 < (l0.length : Int) := of_decide_eq_true As_
                    obtain ⟨ad187, e187, hx187_0⟩ := Kd.at_int HR0.out x6_2 p187 q187
                    cases e187
                    replace p187 := eq_true p187
                    replace q187 := eq_true q187
                    go_wp2
                    go_roundg k2
                    case measure => have := HK1.out; have := HK2.out; omega
                    case rel => exact ⟨(wrap64 (x6_2 + 1)), Rf_, H', ⟨by have := HK1.out; have := HK2.out; omega⟩, Dw_⟩
                · rw [if_neg c8] at H
                  exact absurd H (by simp)
              · rw [if_neg c7] at H
                have c7b0 : decide (x6_2 < (l0.length : Int)) = false := decide_eq_false c7
                clear c7
                by_cases c10 : x4_1 = true
                · subst c10
                  have H1 : (some (0, 0)) = some (r1, r2) := by rw [if_pos rfl] at H; exact H
                  clear H
                  have H := H1
                  clear H1
                  simp only [Option.some.injEq, Prod.mk.injEq] at H
                  obtain ⟨rfl, rfl⟩ := H
                  go_wp2
                  go_ret2
                  exact ⟨Rf_, Dw_⟩
                · replace c10 := Bool.eq_false_iff.mpr c10
                  subst c10
                  have H1 : (reredosref03_Size.l2 k2 l0 1 0) = some (r1, r2) := by rw [if_neg (show ¬ (false = true) by decide)] at H; exact H
                  clear H
                  have H := H1
                  clear H1
                  have H' := Aside0.mk H
                  clear H
                  go_wp2
                  go_loopg [7, 8] k2 (fun kq v7 v8 w' => ∃ (x7_3 : Int) (x8_3 : Int), v7 = .int .i64 x7_3 ∧ v8 = .int .i64 x8_3 ∧ Aside0 (reredosref03_Size.l2 kq l0 x7_3 x8_3 = some (r1, r2)) ∧ Aside0 (kq ≤ k2) ∧ Drawn0 w w')
                  case atStart => exact ⟨(1), (0), Rf_, Rf_, H', ⟨Nat.le_refl _⟩, Dw_⟩
                  case round =>
                    clear H'
                    try clear c1
                    try clear p1
                    try clear q1
                    try clear hx1
                    try clear c2
                    try clear c2b0
                    try clear c2b1
                    try clear p2
                    try clear c3
                    try clear c3b0
                    try clear c4
                    try clear c4b0
                    try clear c5
                    try clear c5b0
                    try clear c6
                    try clear p6
                    try clear c7
                    try clear c7b0
                    try clear c8
                    try clear c8b0
                    try clear c9
                    try clear c9b0
                    try clear c10
                    try clear hx185_0
                    try clear hx186_0
                    try clear hx187_0
                    try clear p1
                    try clear p185
                    try clear p186
                    try clear p187
                    try clear p2
                    try clear p6
                    try clear q1
                    try clear q185
                    try clear q186
                    try clear q187
                    obtain ⟨x7_3, x8_3, rfl, rfl, HA, HK3, ⟨m3, rfl⟩⟩ := hrel
                    cases gk with
                    | zero => exact absurd HA.out (by simp [reredosref03_Size.l2])
                    | succ k3 =>
                      have H := HA.out
                      clear HA
                      simp only [reredosref03_Size.l2] at H
                      by_cases c11 : x8_3 < (l0.length : Int)
                      · rw [if_pos c11] at H
                        have c11b0 : decide (x8_3 < (l0.length : Int)) = true := decide_eq_true c11
                        clear c11
                        by_cases c12 : 0 ≤ x8_3
                        · rw [if_pos c12] at H
                          have c12b0 : decide (0 ≤ x8_3) = true := decide_eq_true c12
                          clear c12
                          by_cases c13 : (rd l0 x8_3) > 4096
                          · rw [if_pos c13] at H
                            have c13b0 : decide (4096 < (rd l0 x8_3)) = true := decide_eq_true c13
                            clear c13
                            simp only [Option.some.injEq, Prod.mk.injEq] at H
                            obtain ⟨rfl, rfl⟩ := H
                            have p188 : 0 ≤ (x8_3 : Int) := of_decide_eq_true As_
                            have q188 : x8_3 < (l0.length : Int) := of_decide_eq_true As_
                            obtain ⟨ad188, e188, hx188_0⟩ := Kd.at_int HR0.out x8_3 p188 q188
                            cases e188
                            replace p188 := eq_true p188
                            replace q188 := eq_true q188
                            go_wp2
                            go_ret2
                            exact ⟨Rf_, Dw_⟩
                          · rw [if_neg c13] at H
                            have c13b0 : decide (4096 < (rd l0 x8_3)) = false := decide_eq_false c13
                            clear c13
                            by_cases c14 : (wrap64 (x7_3 * (rd l0 x8_3))) > 4096
                            · rw [if_pos c14] at H
                              have c14b0 : decide (4096 < (wrap64 (x7_3 * (rd l0 x8_3)))) = true := decide_eq_true c14
                              clear c14
                              simp only [Option.some.injEq, Prod.mk.injEq] at H
                              obtain ⟨rfl, rfl⟩ := H
                              have p188 : 0 ≤ (x8_3 : Int) := of_decide_eq_true As_
                              have q188 : x8_3 < (l0.length : Int) := of_decide_eq_true As_
                              obtain ⟨ad188, e188, hx188_0⟩ := Kd.at_int HR0.out x8_3 p188 q188
                              cases e188
                              replace p188 := eq_true p188
                              replace q188 := eq_true q188
                              have p189 : 0 ≤ (x8_3 : Int) := of_decide_eq_true As_
                              have q189 : x8_3 < (l0.length : Int) := of_decide_eq_true As_
                              obtain ⟨ad189, e189, hx189_0⟩ := Kd.at_int HR0.out x8_3 p189 q189
                              obtain rfl : ad188 = ad189 := (by injection e189)
                              replace p189 := eq_true p189
                              replace q189 := eq_true q189
                              go_wp2
                              go_ret2
                              exact ⟨Rf_, Dw_⟩
                            · rw [if_neg c14] at H
                              have c14b0 : decide (4096 < (wrap64 (x7_3 * (rd l0 x8_3)))) = false := decide_eq_false c14
                              clear c14
                              have H' := Aside0.mk H
                              clear H
                              have p188 : 0 ≤ (x8_3 : Int) := of_decide_eq_true As_
                              have q188 : x8_3 < (l0.length : Int) := of_decide_eq_true As_
                              obtain ⟨ad188, e188, hx188_0⟩ := Kd.at_int HR0.out x8_3 p188 q188
                              cases e188
                              replace p188 := eq_true p188
                              replace q188 := eq_true q188
                              have p189 : 0 ≤ (x8_3 : Int) := of_decide_eq_true As_
                              have q189 : x8_3 < (l0.length : Int) := of_decide_eq_true As_
                              obtain ⟨ad189, e189, hx189_0⟩ := Kd.at_int HR0.out x8_3 p189 q189
                              obtain rfl : ad188 = ad189 := (by injection e189)
                              replace p189 := eq_true p189
                              replace q189 := eq_true q189
                              have p190 : 0 ≤ (x8_3 : Int) := of_decide_eq_true As_
                              have q190 : x8_3 < (l0.length : Int) := of_decide_eq_true As_
                              obtain ⟨ad190, e190, hx190_0⟩ := Kd.at_int HR0.out x8_3 p190 q190
                              obtain rfl : ad188 = ad190 := (by injection e190)
                              replace p190 := eq_true p190
                              replace q190 := eq_true q190
                              go_wp2
                              go_roundg k3
                              case measure => have := HK1.out; have := HK2.out; have := HK3.out; omega
                              case rel => exact ⟨(wrap64 (x7_3 * (rd l0 x8_3))), (wrap64 (x8_3 + 1)), Rf_, Rf_, H', ⟨by have := HK1.out; have := HK2.out; have := HK3.out; omega⟩, Dw_⟩
                        · rw [if_neg c12] at H
                          exact absurd H (by simp)
                      · rw [if_neg c11] at H
                        have c11b0 : decide (x8_3 < (l0.length : Int)) = false := decide_eq_false c11
                        clear c11
                        simp only [Option.some.injEq, Prod.mk.injEq] at H
                        obtain ⟨rfl, rfl⟩ := H
                        go_wp2
                        go_ret2
                        exact ⟨Rf_, Dw_⟩
/-! ### reredosref04_May: function 39 -/
mutual
def reredosref04_May.j0 : Nat → Bool → List Int → List ByteArray → Option (Bool)
  | 0, _, _, _ => none
  | k + 1, x20, x192000, x192001 => if x20 = true then (some false) else (reredosref04_May.l0 k 0 x192000 x192001)
def reredosref04_May.l0 : Nat → Int → List Int → List ByteArray → Option (Bool)
  | 0, _, _, _ => none
  | k + 1, x5, x192000, x192001 => if x5 < (x192001.length : Int) then (if 0 ≤ x5 then ((reredosref01_May.f k (rdOf ByteArray.empty x192001 x5)).bind fun t195 => (if t195 = true then (reredosref04_May.l0 k (wrap64 (x5 + 1)) x192000 x192001) else (some false))) else (none)) else (some true)
end
def reredosref04_May.f (k : Nat) (l0_0 : List Int) (l0_1 : List ByteArray) : Option (Bool) := (reredosref03_Size.f k l0_0).bind fun bt192 => (if bt192.2 = 0 then (reredosref04_May.j0 k (bt192.1 != (l0_1.length : Int)) l0_0 l0_1) else (reredosref04_May.j0 k true l0_0 l0_1))
set_option maxHeartbeats 8000000 in
set_option maxRecDepth 100000 in
theorem reredosref04_May.calls (k : Nat) (A0_0 : Option Addr) (c0_0 : Nat) (l0_0 : List Int) (A0_1 : Option Addr) (c0_1 : Nat) (l0_1 : List ByteArray) (r : Bool) (w : World) (hr0_0 : Kd.C (Kd.int .i64) w A0_0 l0_0.length l0_0) (hc0_0 : l0_0.length ≤ c0_0) (hr0_1 : Kd.C Kd.string w A0_1 l0_1.length l0_1) (hc0_1 : l0_1.length ≤ c0_1) (h : reredosref04_May.f k l0_0 l0_1 = some r) :
    Calls Tryd.prog 39 #[.agg #[.slice A0_0 l0_0.length c0_0, .slice A0_1 l0_1.length c0_1]] w fun e w' => e = .returned (.bool r) ∧ Below w.heap.size w w' := by
  have hu25 := Tryd.underlying25
  have HR0_0 := Aside0.mk hr0_0
  have HC0_0 := Aside0.mk hc0_0
  clear hr0_0 hc0_0
  have HR0_1 := Aside0.mk hr0_1
  have HC0_1 := Aside0.mk hc0_1
  clear hr0_1 hc0_1
  have HB := Aside0.mk (Below.refl w.heap.size w)
  have H : ((reredosref03_Size.f k l0_0).bind fun bt192 => (if bt192.2 = 0 then (reredosref04_May.j0 k (bt192.1 != (l0_1.length : Int)) l0_0 l0_1) else (reredosref04_May.j0 k true l0_0 l0_1))) = some r := h
  clear h
  obtain ⟨⟨t192, t193⟩, A2, H⟩ := bnd_ H
  try dsimp -simprocs only at H
  have HC3 := Aside0.mk H
  clear H
  go_enter Tryd.func39, Tryd.ntmps39
  go_upto_region 2 with (first | ((with_reducible refine gate_dst (N := 1) rfl ?_); (try (refine gate_guard (by rfl) ?_; dsimp only)); refine bx_ 1 #[.slice A0_0 l0_0.length c0_0, .slice A0_1 l0_1.length c0_1] 25 ?_; intro gb191 hg w4 hbox hb; have BK191 := Aside0.mk (hbox); have GW191 := (Bg_ hg : Aside0 (w.heap.size ≤ gb191)); have GE191 := (Bg_ hg : Aside0 (w.heap.size ≤ gb191)); replace HB := Bs_ hb; clear hb hbox hg; obtain ⟨hcz5_0, hcz5_1⟩ := c2_ BK191; obtain ⟨hfz5_0, hfz5_1⟩ := f2_ BK191) | ((with_reducible refine gate_callee (f := 75) rfl ?_); refine goesL_ (some 9) rfl rfl Tryd.func75 (by kernel_rfl) rfl #[.slice A0_0 l0_0.length c0_0] rfl Ga_ ?_; (with_reducible refine (reredosref03_Size.calls k _ _ l0_0 t192 t193 _ ?side1 ?side2 A2.out).mono ?_); (case side1 => exact Pc_ (Kd.C_below HR0_0.out HB.out)); (case side2 => exact HC0_0.out); rintro e w' ⟨rfl, ⟨nd, rfl⟩⟩; refine ⟨_, rfl, ?_⟩))
  (try simp only [Act.put, List.setIfInBounds_toArray, List.set_cons_zero, List.set_cons_succ])
  go_cut [20] (fun v20 wc => ∃ (kq : Nat) (x20_2 : Bool), v20 = .bool x20_2 ∧ Aside0 (reredosref04_May.j0 kq x20_2 l0_0 l0_1 = some r) ∧ Aside0 (kq ≤ k) ∧ Aside0 (wc.heap[gb191]? = some (.cells #[(.slice A0_0 l0_0.length c0_0), (.slice A0_1 l0_1.length c0_1)] 25 (0, 0))) ∧ Aside0 (Below w.heap.size w wc))
  case first =>
    have H := HC3.out
    clear HC3
    by_cases c6 : t193 = 0
    · rw [if_pos c6] at H
      have c6b0 : (t193 == 0) = true := beq_iff_eq.mpr c6
      have c6b1 : (t193 != 0) = false := bne_eq_false_iff_eq.mpr c6
      clear c6
      (first | rw [c6b0] | (simp only [i64_w, i32_w]; rw [c6b0]) | skip)
      have H' := Aside0.mk H
      clear H
      obtain ⟨hcz7_0, hcz7_1⟩ := c2_ BK191
      obtain ⟨hfz7_0, hfz7_1⟩ := f2_ BK191
      go_wp2
      go_meet
      case rel => exact ⟨_, ((t192 != (l0_1.length : Int))), Rf_, H', ⟨by first | omega | exact Nat.le_refl _⟩, ⟨by (with_reducible repeat (first | refine blk_drewN ?_ _ | refine blk_drew ?_ | refine blk_alloc ?_ _)); exact BK191.out⟩, ⟨Bl_⟩⟩
    · rw [if_neg c6] at H
      have c6b0 : (t193 == 0) = false := beq_eq_false_iff_ne.mpr c6
      have c6b1 : (t193 != 0) = true := bne_iff_ne.mpr c6
      (first | rw [c6b0] | (simp only [i64_w, i32_w]; rw [c6b0]) | skip)
      have H' := Aside0.mk H
      clear H
      go_wp2
      go_meet
      case rel => exact ⟨_, (true), Rf_, H', ⟨by first | omega | exact Nat.le_refl _⟩, ⟨by (with_reducible repeat (first | refine blk_drewN ?_ _ | refine blk_drew ?_ | refine blk_alloc ?_ _)); exact BK191.out⟩, ⟨Bl_⟩⟩
  case rest =>
    clear HC3
    try clear p2
    try clear c3
    try clear c6
    try clear c6b0
    try clear c6b1
    try clear c7
    try clear hcz5_0
    try clear hcz5_1
    try clear hcz7_0
    try clear hcz7_1
    try clear hfz5_0
    try clear hfz5_1
    try clear hfz7_0
    try clear hfz7_1
    obtain ⟨kq, x20_2, rfl, HA, HJ2, BK191, HB⟩ := hcut
    cases kq with
    | zero => exact absurd HA.out (by simp [reredosref04_May.j0])
    | succ kj2 =>
      have H := HA.out
      clear HA
      simp only [reredosref04_May.j0] at H
      by_cases c8 : x20_2 = true
      · subst c8
        have H1 : (some false) = some r := by rw [if_pos rfl] at H; exact H
        clear H
        have H := H1
        clear H1
        obtain rfl := Option.some.inj H
        go_wp2
        go_ret
        exact ⟨Re_, Bl_⟩
      · replace c8 := Bool.eq_false_iff.mpr c8
        subst c8
        have H1 : (reredosref04_May.l0 kj2 0 l0_0 l0_1) = some r := by rw [if_neg (show ¬ (false = true) by decide)] at H; exact H
        clear H
        have H := H1
        clear H1
        have H' := Aside0.mk H
        clear H
        go_wp2
        go_loopg [5] kj2 (fun kq v5 w' => ∃ (x5_2 : Int), v5 = .int .i64 x5_2 ∧ Aside0 (reredosref04_May.l0 kq x5_2 l0_0 l0_1 = some r) ∧ Aside0 (kq ≤ kj2) ∧ Aside0 (w'.heap[gb191]? = some (.cells #[(.slice A0_0 l0_0.length c0_0), (.slice A0_1 l0_1.length c0_1)] 25 (0, 0))) ∧ Aside0 (Below w.heap.size w w'))
        case atStart => exact ⟨(0), Rf_, H', ⟨Nat.le_refl _⟩, ⟨by (with_reducible repeat (first | refine blk_drewN ?_ _ | refine blk_drew ?_ | refine blk_alloc ?_ _)); exact BK191.out⟩, ⟨Bl_⟩⟩
        case round =>
          clear H'
          try clear p2
          try clear c3
          try clear c6
          try clear c6b0
          try clear c6b1
          try clear c7
          try clear c8
          try clear hcz5_0
          try clear hcz5_1
          try clear hcz7_0
          try clear hcz7_1
          try clear hfz5_0
          try clear hfz5_1
          try clear hfz7_0
          try clear hfz7_1
          try clear p2
          obtain ⟨x5_2, rfl, HA, HK2, BK191, HB⟩ := hrel
          cases gk with
          | zero => exact absurd HA.out (by simp [reredosref04_May.l0])
          | succ k2 =>
            have H := HA.out
            clear HA
            simp only [reredosref04_May.l0] at H
            by_cases c9 : x5_2 < (l0_1.length : Int)
            · rw [if_pos c9] at H
              have c9b0 : decide (x5_2 < (l0_1.length : Int)) = true := decide_eq_true c9
              clear c9
              by_cases c10 : 0 ≤ x5_2
              · rw [if_pos c10] at H
                have c10b0 : decide (0 ≤ x5_2) = true := decide_eq_true c10
                clear c10
                obtain ⟨t195, A11, H⟩ := bnd_ H
                try dsimp -simprocs only at H
                by_cases c12 : t195 = true
                · subst c12
                  have H1 : (reredosref04_May.l0 k2 (wrap64 (x5_2 + 1)) l0_0 l0_1) = some r := by rw [if_pos rfl] at H; exact H
                  clear H
                  have H := H1
                  clear H1
                  have H' := Aside0.mk H
                  clear H
                  obtain ⟨hcz13_0, hcz13_1⟩ := c2_ BK191
                  obtain ⟨hfz13_0, hfz13_1⟩ := f2_ BK191
                  have p194 : 0 ≤ (x5_2 : Int) := of_decide_eq_true As_
                  have q194 : x5_2 < (l0_1.length : Int) := of_decide_eq_true As_
                  obtain ⟨ad194, e194, hx194_0⟩ := Kd.at_string HR0_1.out x5_2 p194 q194
                  cases e194
                  replace hx194_0 := (HB.out.cell (World.block_lt_of_cell? w _ hx194_0)).trans hx194_0
                  replace p194 := eq_true p194
                  replace q194 := eq_true q194
                  go_wp2_with (first | ((with_reducible refine gate_callee (f := 76) rfl ?_); refine goesL_ (some 33) rfl rfl Tryd.func76 (by kernel_rfl) rfl #[.string (rdOf ByteArray.empty l0_1 x5_2)] rfl Ga_ ?_; (with_reducible refine (reredosref01_May.calls k2 (rdOf ByteArray.empty l0_1 x5_2) true _ A11.out).mono ?_); rintro e w' ⟨rfl, ⟨nd, rfl⟩⟩; refine ⟨_, rfl, ?_⟩))
                  go_roundg k2
                  case measure => have := HJ2.out; have := HK2.out; omega
                  case rel => exact ⟨(wrap64 (x5_2 + 1)), Rf_, H', ⟨by have := HJ2.out; have := HK2.out; omega⟩, ⟨by (with_reducible repeat (first | refine blk_drewN ?_ _ | refine blk_drew ?_ | refine blk_alloc ?_ _)); exact BK191.out⟩, ⟨Bl_⟩⟩
                · replace c12 := Bool.eq_false_iff.mpr c12
                  subst c12
                  have H1 : (some false) = some r := by rw [if_neg (show ¬ (false = true) by decide)] at H; exact H
                  clear H
                  have H := H1
                  clear H1
                  obtain rfl := Option.some.inj H
                  obtain ⟨hcz14_0, hcz14_1⟩ := c2_ BK191
                  obtain ⟨hfz14_0, hfz14_1⟩ := f2_ BK191
                  have p194 : 0 ≤ (x5_2 : Int) := of_decide_eq_true As_
                  have q194 : x5_2 < (l0_1.length : Int) := of_decide_eq_true As_
                  obtain ⟨ad194, e194, hx194_0⟩ := Kd.at_string HR0_1.out x5_2 p194 q194
                  cases e194
                  replace hx194_0 := (HB.out.cell (World.block_lt_of_cell? w _ hx194_0)).trans hx194_0
                  replace p194 := eq_true p194
                  replace q194 := eq_true q194
                  go_wp2_with (first | ((with_reducible refine gate_callee (f := 76) rfl ?_); refine goesL_ (some 33) rfl rfl Tryd.func76 (by kernel_rfl) rfl #[.string (rdOf ByteArray.empty l0_1 x5_2)] rfl Ga_ ?_; (with_reducible refine (reredosref01_May.calls k2 (rdOf ByteArray.empty l0_1 x5_2) false _ A11.out).mono ?_); rintro e w' ⟨rfl, ⟨nd, rfl⟩⟩; refine ⟨_, rfl, ?_⟩))
                  go_ret
                  exact ⟨Re_, Bl_⟩
              · rw [if_neg c10] at H
                exact absurd H (by simp)
            · rw [if_neg c9] at H
              have c9b0 : decide (x5_2 < (l0_1.length : Int)) = false := decide_eq_false c9
              clear c9
              obtain rfl := Option.some.inj H
              obtain ⟨hcz15_0, hcz15_1⟩ := c2_ BK191
              obtain ⟨hfz15_0, hfz15_1⟩ := f2_ BK191
              go_wp2
              go_ret
              exact ⟨Re_, Bl_⟩

end Go.Proofs.YtfjilihppnndkaaDoor.P
