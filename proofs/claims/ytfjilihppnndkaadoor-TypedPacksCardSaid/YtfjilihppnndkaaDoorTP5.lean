-- Written by drive.py of this claim's own session, by way of the kit's print. Lean checks it.
import Derived.Test.YtfjilihppnndkaaDoorTP1
import Derived.Test.YtfjilihppnndkaaDoorTP4
namespace Go.Proofs.YtfjilihppnndkaaDoor.P
open Go.RowKit Go.Proofs.YtfjilihppnndkaaDoorW.PrintWords Go.Proofs.YtfjilihppnndkaaDoorW.PrintLast Go.Proofs.YtfjilihppnndkaaDoorW.PrintMore
attribute [local go_sem] max2_int min2_int max_two min_two max_three min_three max_four min_four   -- for this text's walks alone
set_option linter.unusedVariables false
set_option linter.unusedSimpArgs false

/-! ### reredosref01_signed: function 141 -/
def reredosref01_signed.j0 : Nat → ByteArray → Bool → Option (ByteArray)
  | 0, _, _ => none
  | k + 1, x0, x10 => if x10 = true then ((reredosref01_bare.f k x0).bind fun t217 => (if 1 + t217.size ≤ 9223372036854775807 then (some ((⟨#[45]⟩ : ByteArray) ++ t217)) else (none))) else ((reredosref01_bare.f k x0).bind fun t218 => (some t218))
def reredosref01_signed.f (k : Nat) (a0 : ByteArray) (a1 : Bool) : Option (ByteArray) := if a1 = true then ((reredosref01_bare.f k a0).bind fun t216 => (reredosref01_signed.j0 k a0 (t216.toList != ([48] : List UInt8)))) else (reredosref01_signed.j0 k a0 false)
theorem reredosref01_signed.mono_l : ∀ k, (∀ y0 y1, LeO (reredosref01_signed.j0 k y0 y1) (reredosref01_signed.j0 (k + 1) y0 y1))
  | 0 => fun _ _ r h => by simp [reredosref01_signed.j0] at h
  | k + 1 => by
    have ih0 := reredosref01_signed.mono_l k
    · intro y0 y1
      unfold reredosref01_signed.j0
      repeat' first
      | (with_reducible exact ih0 _ _)
      | (with_reducible exact reredosref01_bare.mono _ _)
      | (with_reducible exact LeO.refl _)
      | (with_reducible exact LeO.none _)
      | (with_reducible refine LeO.ite ?_ ?_)
      | (with_reducible refine LeO.bind ?_ (fun _ => ?_))
      | exact ih0 _ _
      | exact reredosref01_bare.mono _ _
      | exact LeO.none _
      | refine LeO.ite ?_ ?_
      | refine LeO.bind ?_ (fun _ => ?_)
theorem reredosref01_signed.mono : ∀ a0 a1 k, LeO (reredosref01_signed.f k a0 a1) (reredosref01_signed.f (k + 1) a0 a1) := by
  intro a0 a1 k
  have ih0 := reredosref01_signed.mono_l k
  unfold reredosref01_signed.f
  repeat' first
      | (with_reducible exact ih0 _ _)
      | (with_reducible exact reredosref01_bare.mono _ _)
      | (with_reducible exact LeO.refl _)
      | (with_reducible exact LeO.none _)
      | (with_reducible refine LeO.ite ?_ ?_)
      | (with_reducible refine LeO.bind ?_ (fun _ => ?_))
      | exact ih0 _ _
      | exact reredosref01_bare.mono _ _
      | exact LeO.none _
      | refine LeO.ite ?_ ?_
      | refine LeO.bind ?_ (fun _ => ?_)
set_option maxHeartbeats 8000000 in
set_option maxRecDepth 100000 in
theorem reredosref01_signed.calls (k : Nat) (a0 : ByteArray) (a1 : Bool) (r : ByteArray) (w : World) (h : reredosref01_signed.f k a0 a1 = some r) :
    Calls Tryd.prog 141 #[.string a0, .bool a1] w fun e w' => e = .returned (.string r) ∧ Drawn0 w w' := by
  have H : (if a1 = true then ((reredosref01_bare.f k a0).bind fun t216 => (reredosref01_signed.j0 k a0 (t216.toList != ([48] : List UInt8)))) else (reredosref01_signed.j0 k a0 false)) = some r := h
  clear h
  have HC3 := Aside0.mk H
  clear H
  go_enter Tryd.func141, Tryd.ntmps141
  go_upto_region 1 with (fail)
  go_cut [10] (fun v10 wc => ∃ (kq : Nat) (x10_2 : Bool), v10 = .bool x10_2 ∧ Aside0 (reredosref01_signed.j0 kq a0 x10_2 = some r) ∧ Aside0 (kq ≤ k) ∧ Drawn0 w wc)
  case first =>
    have H := HC3.out
    clear HC3
    by_cases c4 : a1 = true
    · subst c4
      have H1 : ((reredosref01_bare.f k a0).bind fun t216 => (reredosref01_signed.j0 k a0 (t216.toList != ([48] : List UInt8)))) = some r := by rw [if_pos rfl] at H; exact H
      clear H
      have H := H1
      clear H1
      replace H := Option.bind_eq_some_iff.mp H
      obtain ⟨t216, A50, H⟩ := H
      replace H : (reredosref01_signed.j0 k a0 (t216.toList != ([48] : List UInt8))) = some r := H
      have A5 := Aside0.mk A50
      clear A50
      have H' := Aside0.mk H
      clear H
      go_wp2_with (first | (go_at_call 148; (with_reducible refine (reredosref01_bare.calls k a0 t216 _ A5.out).mono ?_); rintro e w' ⟨rfl, ⟨nd, rfl⟩⟩))
      go_meet
      case rel => exact ⟨_, ((t216.toList != ([48] : List UInt8))), (by first | rfl | (simp; done) | (simp [*]; done)), H', ⟨by first | omega | exact Nat.le_refl _⟩, by repeat (first | exact Drawn0.refl _ | apply Drawn0.step)⟩
    · replace c4 := Bool.eq_false_iff.mpr c4
      subst c4
      have H1 : (reredosref01_signed.j0 k a0 false) = some r := by rw [if_neg (show ¬ (false = true) by decide)] at H; exact H
      clear H
      have H := H1
      clear H1
      have H' := Aside0.mk H
      clear H
      go_wp2
      go_meet
      case rel => exact ⟨_, (false), (by first | rfl | (simp; done) | (simp [*]; done)), H', ⟨by first | omega | exact Nat.le_refl _⟩, by repeat (first | exact Drawn0.refl _ | apply Drawn0.step)⟩
  case rest =>
    clear HC3
    try clear c1
    try clear p2
    try clear c4
    obtain ⟨kq, x10_2, rfl, HA, HJ2, ⟨mc2, rfl⟩⟩ := hcut
    cases kq with
    | zero => exact absurd HA.out (by simp [reredosref01_signed.j0])
    | succ kj2 =>
      have H := HA.out
      clear HA
      simp only [reredosref01_signed.j0] at H
      by_cases c6 : x10_2 = true
      · subst c6
        have H1 : ((reredosref01_bare.f kj2 a0).bind fun t217 => (if 1 + t217.size ≤ 9223372036854775807 then (some ((⟨#[45]⟩ : ByteArray) ++ t217)) else (none))) = some r := by rw [if_pos rfl] at H; exact H
        clear H
        have H := H1
        clear H1
        replace H := Option.bind_eq_some_iff.mp H
        obtain ⟨t217, A70, H⟩ := H
        replace H : (if 1 + t217.size ≤ 9223372036854775807 then (some ((⟨#[45]⟩ : ByteArray) ++ t217)) else (none)) = some r := H
        have A7 := Aside0.mk A70
        clear A70
        by_cases c8 : 1 + t217.size ≤ 9223372036854775807
        · rw [if_pos c8] at H
          have c8b0 := eq_true c8
          have c8b1 : decide (1 + t217.size ≤ 9223372036854775807) = true := decide_eq_true c8
          try have c8b2 : (9223372036854775807 < 1 + t217.size) = False := eq_false (Nat.not_lt.2 c8)
          obtain rfl := Option.some.inj H
          go_wp2_with (first | ((with_reducible refine gate_callee (f := 148) rfl ?_); refine goesL_ (some 12) rfl rfl Tryd.func148 (by kernel_rfl) rfl #[.string a0] rfl Ga_ ?_; (with_reducible refine (reredosref01_bare.calls kj2 a0 t217 _ A7.out).mono ?_); rintro e w' ⟨rfl, ⟨nd, rfl⟩⟩; refine ⟨_, rfl, ?_⟩))
          go_ret
          exact ⟨by first | rfl | (simp; done) | (simp [*]; done), by repeat (first | exact Drawn0.refl _ | apply Drawn0.step)⟩
        · rw [if_neg c8] at H
          exact absurd H (by simp)
      · replace c6 := Bool.eq_false_iff.mpr c6
        subst c6
        have H1 : ((reredosref01_bare.f kj2 a0).bind fun t218 => (some t218)) = some r := by rw [if_neg (show ¬ (false = true) by decide)] at H; exact H
        clear H
        have H := H1
        clear H1
        replace H := Option.bind_eq_some_iff.mp H
        obtain ⟨t218, A90, H⟩ := H
        replace H : (some t218) = some r := H
        have A9 := Aside0.mk A90
        clear A90
        obtain rfl := Option.some.inj H
        go_wp2_with (first | ((with_reducible refine gate_callee (f := 148) rfl ?_); refine goesL_ (some 15) rfl rfl Tryd.func148 (by kernel_rfl) rfl #[.string a0] rfl Ga_ ?_; (with_reducible refine (reredosref01_bare.calls kj2 a0 t218 _ A9.out).mono ?_); rintro e w' ⟨rfl, ⟨nd, rfl⟩⟩; refine ⟨_, rfl, ?_⟩))
        go_ret
        exact ⟨by first | rfl | (simp; done) | (simp [*]; done), by repeat (first | exact Drawn0.refl _ | apply Drawn0.step)⟩
/-! ### reredosref01_bounded: function 125 -/
def reredosref01_bounded.f (k : Nat) (a0 : ByteArray) : Option (ByteArray) := (reredosref01_size.f a0).bind fun t219 => (if (t219.size : Int) > 100 then ((reredosref01_low.f a0).bind fun t220 => ((reredosref01_signed.f k (⟨#[49]⟩ : ByteArray) t220).bind fun t221 => (some t221))) else (some a0))
theorem reredosref01_bounded.mono : ∀ a0 k, LeO (reredosref01_bounded.f k a0) (reredosref01_bounded.f (k + 1) a0) := by
  intro a0 k
  unfold reredosref01_bounded.f
  repeat' first
      | (with_reducible exact reredosref01_signed.mono _ _ _)
      | (with_reducible exact LeO.refl _)
      | (with_reducible exact LeO.none _)
      | (with_reducible refine LeO.ite ?_ ?_)
      | (with_reducible refine LeO.bind ?_ (fun _ => ?_))
      | exact reredosref01_signed.mono _ _ _
      | exact LeO.none _
      | refine LeO.ite ?_ ?_
      | refine LeO.bind ?_ (fun _ => ?_)
set_option maxHeartbeats 8000000 in
set_option maxRecDepth 100000 in
theorem reredosref01_bounded.calls (k : Nat) (a0 : ByteArray) (r : ByteArray) (w : World) (h : reredosref01_bounded.f k a0 = some r) :
    Calls Tryd.prog 125 #[.string a0] w fun e w' => e = .returned (.string r) ∧ Drawn0 w w' := by
  have H : ((reredosref01_size.f a0).bind fun t219 => (if (t219.size : Int) > 100 then ((reredosref01_low.f a0).bind fun t220 => ((reredosref01_signed.f k (⟨#[49]⟩ : ByteArray) t220).bind fun t221 => (some t221))) else (some a0))) = some r := h
  clear h
  replace H := Option.bind_eq_some_iff.mp H
  obtain ⟨t219, A20, H⟩ := H
  replace H : (if (t219.size : Int) > 100 then ((reredosref01_low.f a0).bind fun t220 => ((reredosref01_signed.f k (⟨#[49]⟩ : ByteArray) t220).bind fun t221 => (some t221))) else (some a0)) = some r := H
  have A2 := Aside0.mk A20
  clear A20
  by_cases c3 : (t219.size : Int) > 100
  · rw [if_pos c3] at H
    have c3b0 : decide (100 < (t219.size : Int)) = true := decide_eq_true c3
    have c3b1 : decide (100 < t219.size) = true := decide_eq_true (by omega)
    clear c3
    replace H := Option.bind_eq_some_iff.mp H
    obtain ⟨t220, A40, H⟩ := H
    replace H : ((reredosref01_signed.f k (⟨#[49]⟩ : ByteArray) t220).bind fun t221 => (some t221)) = some r := H
    have A4 := Aside0.mk A40
    clear A40
    replace H := Option.bind_eq_some_iff.mp H
    obtain ⟨t221, A50, H⟩ := H
    replace H : (some t221) = some r := H
    have A5 := Aside0.mk A50
    clear A50
    obtain rfl := Option.some.inj H
    go_enter Tryd.func125, Tryd.ntmps125
    go_wp2_with (first | ((with_reducible refine gate_callee (f := 104) rfl ?_); refine goesL_ (some 4) rfl rfl Tryd.func104 (by kernel_rfl) rfl #[.string a0] rfl Ga_ ?_; (with_reducible refine (reredosref01_size.calls a0 t219 _ A2.out).mono ?_); rintro e w' ⟨rfl, ⟨nd, rfl⟩⟩; refine ⟨_, rfl, ?_⟩) | ((with_reducible refine gate_callee (f := 105) rfl ?_); refine goesL_ (some 8) rfl rfl Tryd.func105 (by kernel_rfl) rfl #[.string a0] rfl Ga_ ?_; (with_reducible refine (reredosref01_low.calls a0 t220 _ A4.out).mono ?_); rintro e w' ⟨rfl, ⟨nd, rfl⟩⟩; refine ⟨_, rfl, ?_⟩) | ((with_reducible refine gate_callee (f := 141) rfl ?_); refine goesL_ (some 9) rfl rfl Tryd.func141 (by kernel_rfl) rfl #[.string (⟨#[49]⟩ : ByteArray), .bool t220] rfl Ga_ ?_; (with_reducible refine (reredosref01_signed.calls k (⟨#[49]⟩ : ByteArray) t220 t221 _ A5.out).mono ?_); rintro e w' ⟨rfl, ⟨nd, rfl⟩⟩; refine ⟨_, rfl, ?_⟩))
    go_ret
    exact ⟨by first | rfl | (simp; done) | (simp [*]; done), by repeat (first | exact Drawn0.refl _ | apply Drawn0.step)⟩
  · rw [if_neg c3] at H
    have c3b0 : decide (100 < (t219.size : Int)) = false := decide_eq_false c3
    have c3b1 : decide (100 < t219.size) = false := decide_eq_false (by omega)
    clear c3
    obtain rfl := Option.some.inj H
    go_enter Tryd.func125, Tryd.ntmps125
    go_wp2_with (first | ((with_reducible refine gate_callee (f := 104) rfl ?_); refine goesL_ (some 4) rfl rfl Tryd.func104 (by kernel_rfl) rfl #[.string a0] rfl Ga_ ?_; (with_reducible refine (reredosref01_size.calls a0 t219 _ A2.out).mono ?_); rintro e w' ⟨rfl, ⟨nd, rfl⟩⟩; refine ⟨_, rfl, ?_⟩))
    go_ret
    exact ⟨by first | rfl | (simp; done) | (simp [*]; done), by repeat (first | exact Drawn0.refl _ | apply Drawn0.step)⟩
/-! ### reredosref01_digit: function 149 -/
def reredosref01_digit.f (a0 : ByteArray) (a1 : Int) : Option (Int) := if a1 ≥ (a0.size : Int) then (some 0) else (if 0 ≤ (wrap64 ((wrap64 ((a0.size : Int) - 1)) - a1)) then (if (wrap64 ((wrap64 ((a0.size : Int) - 1)) - a1)) < (a0.size : Int) then (some (((bt a0 (wrap64 ((wrap64 ((a0.size : Int) - 1)) - a1))) - 48) % 256)) else (none)) else (none))
set_option maxHeartbeats 8000000 in
set_option maxRecDepth 100000 in
theorem reredosref01_digit.calls (a0 : ByteArray) (a1 : Int) (r : Int) (w : World) (h : reredosref01_digit.f a0 a1 = some r) :
    Calls Tryd.prog 149 #[.string a0, .int .i64 a1] w fun e w' => e = .returned (.int .i64 r) ∧ Drawn0 w w' := by
  have H : (if a1 ≥ (a0.size : Int) then (some 0) else (if 0 ≤ (wrap64 ((wrap64 ((a0.size : Int) - 1)) - a1)) then (if (wrap64 ((wrap64 ((a0.size : Int) - 1)) - a1)) < (a0.size : Int) then (some (((bt a0 (wrap64 ((wrap64 ((a0.size : Int) - 1)) - a1))) - 48) % 256)) else (none)) else (none))) = some r := h
  clear h
  by_cases c3 : a1 ≥ (a0.size : Int)
  · rw [if_pos c3] at H
    have c3b0 : decide ((a0.size : Int) ≤ a1) = true := decide_eq_true c3
    clear c3
    obtain rfl := Option.some.inj H
    go_enter Tryd.func149, Tryd.ntmps149
    go_wp2
    go_ret
    exact ⟨by first | rfl | (simp; done) | (simp [*]; done), by repeat (first | exact Drawn0.refl _ | apply Drawn0.step)⟩
  · rw [if_neg c3] at H
    have c3b0 : decide ((a0.size : Int) ≤ a1) = false := decide_eq_false c3
    clear c3
    obtain ⟨ji4, hji4⟩ : ∃ j_ : Int, (wrap64 ((wrap64 ((a0.size : Int) - 1)) - a1)) = j_ := ⟨_, rfl⟩
    replace H : (if 0 ≤ (ji4) then (if (ji4) < (a0.size : Int) then (some (((bt a0 (ji4)) - 48) % 256)) else (none)) else (none)) = some r := by first | (rw [hji4] at H; exact H) | (simp only [hji4] at H ⊢; exact H)
    have hji4w : (IntKind.i64.wrap ((wrap64 ((a0.size : Int) - 1)) - a1)) = ji4 := (i64_w _).trans hji4
    by_cases c5 : 0 ≤ (ji4)
    · rw [if_pos c5] at H
      have c5b0 : decide (0 ≤ (ji4)) = true := decide_eq_true c5
      clear c5
      by_cases c6 : (ji4) < (a0.size : Int)
      · rw [if_pos c6] at H
        have c6b0 : decide ((ji4) < (a0.size : Int)) = true := decide_eq_true c6
        clear c6
        obtain rfl := Option.some.inj H
        have p7 : 0 ≤ ((ji4) : Int) := of_decide_eq_true As_
        have q7 : (ji4) < (a0.size : Int) := of_decide_eq_true As_
        have hx7 := bt_at a0 (ji4)
        replace p7 := eq_true p7
        replace q7 := eq_true q7
        go_enter Tryd.func149, Tryd.ntmps149
        go_wp2
        go_ret
        exact ⟨by first | rfl | (simp; done) | (simp only [← hji4] <;> (first | rfl | simp)) | (simp [*]; done), by repeat (first | exact Drawn0.refl _ | apply Drawn0.step)⟩
      · rw [if_neg c6] at H
        exact absurd H (by simp)
    · rw [if_neg c5] at H
      exact absurd H (by simp)
/-! ### reredosref01_plus: function 142 -/
def reredosref01_plus.l0 : Nat → ByteArray → ByteArray → ByteArray → Int → Int → Option (ByteArray)
  | 0, _, _, _, _, _ => none
  | k + 1, x0, x1, x5, x6, x7 => if x7 ≤ (mx (x0.size : Int) (x1.size : Int)) then ((reredosref01_digit.f x0 x7).bind fun t222 => ((reredosref01_digit.f x1 x7).bind fun t223 => ((some (([(wrap64 (48 + (Int.tmod (wrap64 ((wrap64 (t222 + t223)) + x6)) 10))) % 256] : List Int) : List Int)).bind fun y224 => (if (strOfNums y224).size + x5.size ≤ 9223372036854775807 then (reredosref01_plus.l0 k x0 x1 ((strOfNums y224) ++ x5) (wrap64 (Int.tdiv (wrap64 ((wrap64 (t222 + t223)) + x6)) 10)) (wrap64 (x7 + 1))) else (none))))) else ((reredosref01_bare.f k x5).bind fun t227 => (some t227))
def reredosref01_plus.f (k : Nat) (a0 : ByteArray) (a1 : ByteArray) : Option (ByteArray) := reredosref01_plus.l0 k a0 a1 (⟨#[]⟩ : ByteArray) 0 0
theorem reredosref01_plus.mono_l : ∀ k, (∀ y0 y1 y2 y3 y4, LeO (reredosref01_plus.l0 k y0 y1 y2 y3 y4) (reredosref01_plus.l0 (k + 1) y0 y1 y2 y3 y4))
  | 0 => fun _ _ _ _ _ r h => by simp [reredosref01_plus.l0] at h
  | k + 1 => by
    have ih0 := reredosref01_plus.mono_l k
    · intro y0 y1 y2 y3 y4
      unfold reredosref01_plus.l0
      repeat' first
      | (with_reducible exact ih0 _ _ _ _ _)
      | (with_reducible exact reredosref01_bare.mono _ _)
      | (with_reducible exact LeO.refl _)
      | (with_reducible exact LeO.none _)
      | (with_reducible refine LeO.ite ?_ ?_)
      | (with_reducible refine LeO.bind ?_ (fun _ => ?_))
      | exact ih0 _ _ _ _ _
      | exact reredosref01_bare.mono _ _
      | exact LeO.none _
      | refine LeO.ite ?_ ?_
      | refine LeO.bind ?_ (fun _ => ?_)
theorem reredosref01_plus.mono : ∀ a0 a1 k, LeO (reredosref01_plus.f k a0 a1) (reredosref01_plus.f (k + 1) a0 a1) := by
  intro a0 a1 k
  have ih0 := reredosref01_plus.mono_l k
  unfold reredosref01_plus.f
  repeat' first
      | (with_reducible exact ih0 _ _ _ _ _)
      | (with_reducible exact reredosref01_bare.mono _ _)
      | (with_reducible exact LeO.refl _)
      | (with_reducible exact LeO.none _)
      | (with_reducible refine LeO.ite ?_ ?_)
      | (with_reducible refine LeO.bind ?_ (fun _ => ?_))
      | exact ih0 _ _ _ _ _
      | exact reredosref01_bare.mono _ _
      | exact LeO.none _
      | refine LeO.ite ?_ ?_
      | refine LeO.bind ?_ (fun _ => ?_)
set_option maxHeartbeats 8000000 in
set_option maxRecDepth 100000 in
theorem reredosref01_plus.calls (k : Nat) (a0 : ByteArray) (a1 : ByteArray) (r : ByteArray) (w : World) (h : reredosref01_plus.f k a0 a1 = some r) :
    Calls Tryd.prog 142 #[.string a0, .string a1] w fun e w' => e = .returned (.string r) ∧ Below w.heap.size w w' := by
  have HB := Aside0.mk (Below.refl w.heap.size w)
  have H : (reredosref01_plus.l0 k a0 a1 (⟨#[]⟩ : ByteArray) 0 0) = some r := h
  clear h
  have H' := Aside0.mk H
  clear H
  go_enter Tryd.func142, Tryd.ntmps142
  go_wp2
  go_loopg [5, 6, 7] k (fun kq v5 v6 v7 w' => ∃ (x5_1 : ByteArray) (x6_1 : Int) (x7_1 : Int), v5 = .string x5_1 ∧ v6 = .int .i64 x6_1 ∧ v7 = .int .i64 x7_1 ∧ Aside0 (reredosref01_plus.l0 kq a0 a1 x5_1 x6_1 x7_1 = some r) ∧ Aside0 (kq ≤ k) ∧ Aside0 (Below w.heap.size w w'))
  case atStart => exact ⟨((⟨#[]⟩ : ByteArray)), (0), (0), (by first | rfl | (simp; done) | (simp [*]; done)), (by first | rfl | (simp; done) | (simp [*]; done)), (by first | rfl | (simp; done) | (simp [*]; done)), H', ⟨Nat.le_refl _⟩, ⟨by repeat (first | (with_reducible first | exact HB.out | apply below_alloc | apply pw_below_drewN | apply below_drew1) | exact HB.out)⟩⟩
  case round =>
    clear H'
    try clear c1
    try clear p2
    obtain ⟨x5_1, x6_1, x7_1, rfl, rfl, rfl, HA, HK1, HB⟩ := hrel
    cases gk with
    | zero => exact absurd HA.out (by simp [reredosref01_plus.l0])
    | succ k1 =>
      have H := HA.out
      clear HA
      simp only [reredosref01_plus.l0] at H
      obtain ⟨ji3, hji3⟩ : ∃ j_ : Int, (mx (a0.size : Int) (a1.size : Int)) = j_ := ⟨_, rfl⟩
      replace H : (if x7_1 ≤ (ji3) then ((reredosref01_digit.f a0 x7_1).bind fun t222 => ((reredosref01_digit.f a1 x7_1).bind fun t223 => ((some (([(wrap64 (48 + (Int.tmod (wrap64 ((wrap64 (t222 + t223)) + x6_1)) 10))) % 256] : List Int) : List Int)).bind fun y224 => (if (strOfNums y224).size + x5_1.size ≤ 9223372036854775807 then (reredosref01_plus.l0 k1 a0 a1 ((strOfNums y224) ++ x5_1) (wrap64 (Int.tdiv (wrap64 ((wrap64 (t222 + t223)) + x6_1)) 10)) (wrap64 (x7_1 + 1))) else (none))))) else ((reredosref01_bare.f k1 x5_1).bind fun t227 => (some t227))) = some r := by first | (rw [hji3] at H; exact H) | (simp only [hji3] at H ⊢; exact H)
      have hji3_ : (if (a0.size : Int) < (a1.size : Int) then (a1.size : Int) else (a0.size : Int)) = ji3 := hji3
      have hji3n_ : (if a0.size < a1.size then (a1.size : Int) else (a0.size : Int)) = ji3 := by rw [← hji3_]; simp only [Int.ofNat_lt]
      by_cases c4 : x7_1 ≤ (ji3)
      · rw [if_pos c4] at H
        have c4b0 : decide (x7_1 ≤ (ji3)) = true := decide_eq_true c4
        clear c4
        replace H := Option.bind_eq_some_iff.mp H
        obtain ⟨t222, A50, H⟩ := H
        replace H : ((reredosref01_digit.f a1 x7_1).bind fun t223 => ((some (([(wrap64 (48 + (Int.tmod (wrap64 ((wrap64 (t222 + t223)) + x6_1)) 10))) % 256] : List Int) : List Int)).bind fun y224 => (if (strOfNums y224).size + x5_1.size ≤ 9223372036854775807 then (reredosref01_plus.l0 k1 a0 a1 ((strOfNums y224) ++ x5_1) (wrap64 (Int.tdiv (wrap64 ((wrap64 (t222 + t223)) + x6_1)) 10)) (wrap64 (x7_1 + 1))) else (none)))) = some r := H
        have A5 := Aside0.mk A50
        clear A50
        replace H := Option.bind_eq_some_iff.mp H
        obtain ⟨t223, A60, H⟩ := H
        replace H : ((some (([(wrap64 (48 + (Int.tmod (wrap64 ((wrap64 (t222 + t223)) + x6_1)) 10))) % 256] : List Int) : List Int)).bind fun y224 => (if (strOfNums y224).size + x5_1.size ≤ 9223372036854775807 then (reredosref01_plus.l0 k1 a0 a1 ((strOfNums y224) ++ x5_1) (wrap64 (Int.tdiv (wrap64 ((wrap64 (t222 + t223)) + x6_1)) 10)) (wrap64 (x7_1 + 1))) else (none))) = some r := H
        have A6 := Aside0.mk A60
        clear A60
        obtain ⟨y224, hy224⟩ : ∃ y_ : List Int, y_ = (([(wrap64 (48 + (Int.tmod (wrap64 ((wrap64 (t222 + t223)) + x6_1)) 10))) % 256] : List Int)) := ⟨_, rfl⟩
        replace H : (if (strOfNums y224).size + x5_1.size ≤ 9223372036854775807 then (reredosref01_plus.l0 k1 a0 a1 ((strOfNums y224) ++ x5_1) (wrap64 (Int.tdiv (wrap64 ((wrap64 (t222 + t223)) + x6_1)) 10)) (wrap64 (x7_1 + 1))) else (none)) = some r := by first | (rw [hy224]; with_reducible exact H) | (have H2_ := (Option.bind_some _ _).symm.trans H; rw [hy224]; with_reducible exact H2_) | (have H2_ := (Option.bind_some _ _).symm.trans H; with_reducible exact H2_) | with_reducible exact H | (rw [hy224]; exact H) | exact H
        have Ny224 := Aside0.mk hy224
        clear hy224
        by_cases c7 : (strOfNums y224).size + x5_1.size ≤ 9223372036854775807
        · rw [if_pos c7] at H
          have c7b0 := eq_true c7
          have c7b1 : decide ((strOfNums y224).size + x5_1.size ≤ 9223372036854775807) = true := decide_eq_true c7
          try have c7b2 : (9223372036854775807 < (strOfNums y224).size + x5_1.size) = False := eq_false (Nat.not_lt.2 c7)
          have H' := Aside0.mk H
          clear H
          go_wp2_with (first | ((with_reducible refine gate_callee (f := 149) rfl ?_); refine goesL_ (some 20) rfl rfl Tryd.func149 (by kernel_rfl) rfl #[.string a0, .int .i64 x7_1] rfl Ga_ ?_; (with_reducible refine (reredosref01_digit.calls a0 x7_1 t222 _ A5.out).mono ?_); rintro e w' ⟨rfl, ⟨nd, rfl⟩⟩; refine ⟨_, rfl, ?_⟩) | ((with_reducible refine gate_callee (f := 149) rfl ?_); refine goesL_ (some 23) rfl rfl Tryd.func149 (by kernel_rfl) rfl #[.string a1, .int .i64 x7_1] rfl Ga_ ?_; (with_reducible refine (reredosref01_digit.calls a1 x7_1 t223 _ A6.out).mono ?_); rintro e w' ⟨rfl, ⟨nd, rfl⟩⟩; refine ⟨_, rfl, ?_⟩) | ((with_reducible refine gate_dst (N := 31) rfl ?_); refine Kd.R_lit (Kd.int .u8) _ 5 ?hg (N := 31) ?hd (xs := ([(wrap64 (48 + (Int.tmod (wrap64 ((wrap64 (t222 + t223)) + x6_1)) 10))) % 256] : List Int)) (inner := [.int .u8 ((wrap64 (48 + (Int.tmod (wrap64 ((wrap64 (t222 + t223)) + x6_1)) 10))) % 256)]) (ok := fun _ => True) (okp := fun _ => True) ?hr ?hp (fun _ hk => hk) trivial (Below.refl _ _) (Nat.le_refl _) (by simp) ?_; (case hd => rfl); (case hg => rfl); (case hr => first | (go_simp; done) | (go_simp; rfl)); (case hp => exact (Reps.one (show Kd.M (Kd.int .u8) _ _ _ ((wrap64 (48 + (Int.tmod (wrap64 ((wrap64 (t222 + t223)) + x6_1)) 10))) % 256) [.int .u8 ((wrap64 (48 + (Int.tmod (wrap64 ((wrap64 (t222 + t223)) + x6_1)) 10))) % 256)] from rfl) (Reps.none _ _))); intro v225 w8 ho9 hb hg_ hnew_; clear hg_ hnew_; (first | rw [← Ny224.out] at ho9 | (simp only [Int.reduceToNat] at ho9; rw [← Ny224.out] at ho9)); have n0_ := Aside0.mk (Kd.R_lower ho9 (below_size Bl_)); have n1_ := Aside0.mk (below_step Bl_ hb); clear HB; have HO226 := n0_; have HB := n1_; clear n0_ n1_; clear hb ho9; have hcv10 := own_string (P := Tryd.prog) Tryd.underlying100 Tryd.underlying5 Tryd.underlying9 (Kd.own_of_R HO226.out)))
          go_roundg k1
          case measure => have := HK1.out; omega
          case rel => exact ⟨((strOfNums y224) ++ x5_1), (wrap64 (Int.tdiv (wrap64 ((wrap64 (t222 + t223)) + x6_1)) 10)), (wrap64 (x7_1 + 1)), (by first | rfl | (simp; done) | (simp [*]; done)), (by first | rfl | (simp; done) | (simp [*]; done)), (by first | rfl | (simp; done) | (simp [*]; done)), H', ⟨by have := HK1.out; omega⟩, ⟨by repeat (first | (with_reducible first | exact HB.out | apply below_alloc | apply pw_below_drewN | apply below_drew1) | exact HB.out)⟩⟩
        · rw [if_neg c7] at H
          exact absurd H (by simp)
      · rw [if_neg c4] at H
        have c4b0 : decide (x7_1 ≤ (ji3)) = false := decide_eq_false c4
        clear c4
        replace H := Option.bind_eq_some_iff.mp H
        obtain ⟨t227, A110, H⟩ := H
        replace H : (some t227) = some r := H
        have A11 := Aside0.mk A110
        clear A110
        obtain rfl := Option.some.inj H
        go_wp2_with (first | ((with_reducible refine gate_callee (f := 148) rfl ?_); refine goesL_ (some 38) rfl rfl Tryd.func148 (by kernel_rfl) rfl #[.string x5_1] rfl Ga_ ?_; (with_reducible refine (reredosref01_bare.calls k1 x5_1 t227 _ A11.out).mono ?_); rintro e w' ⟨rfl, ⟨nd, rfl⟩⟩; refine ⟨_, rfl, ?_⟩))
        go_ret
        exact ⟨by first | rfl | (simp [errW_none, errW_some] <;> rfl) | (simp only [← hji3]; first | rfl | (simp [errW_none, errW_some] <;> rfl)) | (simp [*, errW_none, errW_some] <;> rfl), by repeat (first | (with_reducible first | exact HB.out | apply below_alloc | apply pw_below_drewN | apply below_drew1) | exact HB.out)⟩
/-! ### reredosref01_more: function 143 -/
def reredosref01_more.l0 : Nat → ByteArray → ByteArray → Int → Option (Int)
  | 0, _, _, _ => none
  | k + 1, x0, x1, x5 => if x5 < (x0.size : Int) then (if 0 ≤ x5 then (if x5 < (x1.size : Int) then (if (bt x0 x5) < (bt x1 x5) then (some (-1)) else (if (bt x0 x5) > (bt x1 x5) then (some 1) else (reredosref01_more.l0 k x0 x1 (wrap64 (x5 + 1))))) else (none)) else (none)) else (some 0)
def reredosref01_more.f (k : Nat) (a0 : ByteArray) (a1 : ByteArray) : Option (Int) := if (a0.size : Int) = (a1.size : Int) then (reredosref01_more.l0 k a0 a1 0) else (if (a0.size : Int) < (a1.size : Int) then (some (-1)) else (some 1))
theorem reredosref01_more.mono_l : ∀ k, (∀ y0 y1 y2, LeO (reredosref01_more.l0 k y0 y1 y2) (reredosref01_more.l0 (k + 1) y0 y1 y2))
  | 0 => fun _ _ _ r h => by simp [reredosref01_more.l0] at h
  | k + 1 => by
    have ih0 := reredosref01_more.mono_l k
    · intro y0 y1 y2
      unfold reredosref01_more.l0
      repeat' first
      | (with_reducible exact ih0 _ _ _)
      | (with_reducible exact LeO.refl _)
      | (with_reducible exact LeO.none _)
      | (with_reducible refine LeO.ite ?_ ?_)
      | (with_reducible refine LeO.bind ?_ (fun _ => ?_))
      | exact ih0 _ _ _
      | exact LeO.none _
      | refine LeO.ite ?_ ?_
      | refine LeO.bind ?_ (fun _ => ?_)
theorem reredosref01_more.mono : ∀ a0 a1 k, LeO (reredosref01_more.f k a0 a1) (reredosref01_more.f (k + 1) a0 a1) := by
  intro a0 a1 k
  have ih0 := reredosref01_more.mono_l k
  unfold reredosref01_more.f
  repeat' first
      | (with_reducible exact ih0 _ _ _)
      | (with_reducible exact LeO.refl _)
      | (with_reducible exact LeO.none _)
      | (with_reducible refine LeO.ite ?_ ?_)
      | (with_reducible refine LeO.bind ?_ (fun _ => ?_))
      | exact ih0 _ _ _
      | exact LeO.none _
      | refine LeO.ite ?_ ?_
      | refine LeO.bind ?_ (fun _ => ?_)
set_option maxHeartbeats 8000000 in
set_option maxRecDepth 100000 in
theorem reredosref01_more.calls (k : Nat) (a0 : ByteArray) (a1 : ByteArray) (r : Int) (w : World) (h : reredosref01_more.f k a0 a1 = some r) :
    Calls Tryd.prog 143 #[.string a0, .string a1] w fun e w' => e = .returned (.int .i64 r) ∧ Drawn0 w w' := by
  have H : (if (a0.size : Int) = (a1.size : Int) then (reredosref01_more.l0 k a0 a1 0) else (if (a0.size : Int) < (a1.size : Int) then (some (-1)) else (some 1))) = some r := h
  clear h
  by_cases c3 : (a0.size : Int) = (a1.size : Int)
  · rw [if_pos c3] at H
    have c3b0 : ((a0.size : Int) == (a1.size : Int)) = true := beq_iff_eq.mpr c3
    have c3b1 : ((a0.size : Int) != (a1.size : Int)) = false := bne_eq_false_iff_eq.mpr c3
    have c3b2 : (a0.size == a1.size) = true := by first | simpa using c3 | (simp at c3 ⊢; omega)
    clear c3
    have H' := Aside0.mk H
    clear H
    go_enter Tryd.func143, Tryd.ntmps143
    go_wp2
    repeat (go_quiet (fail); try go_wp2)
    go_loopg [5] k (fun kq v5 w' => ∃ (x5_1 : Int), v5 = .int .i64 x5_1 ∧ Aside0 (reredosref01_more.l0 kq a0 a1 x5_1 = some r) ∧ Aside0 (kq ≤ k) ∧ Drawn0 w w')
    case atStart => exact ⟨(0), (by first | rfl | (simp; done) | (simp [*]; done)), H', ⟨Nat.le_refl _⟩, by repeat (first | exact Drawn0.refl _ | apply Drawn0.step)⟩
    case round =>
      clear H'
      try clear c1
      try clear p2
      try clear c3
      try clear c3b0
      try clear c3b1
      try clear c3b2
      obtain ⟨x5_1, rfl, HA, HK1, ⟨m1, rfl⟩⟩ := hrel
      cases gk with
      | zero => exact absurd HA.out (by simp [reredosref01_more.l0])
      | succ k1 =>
        have H := HA.out
        clear HA
        simp only [reredosref01_more.l0] at H
        by_cases c4 : x5_1 < (a0.size : Int)
        · rw [if_pos c4] at H
          have c4b0 : decide (x5_1 < (a0.size : Int)) = true := decide_eq_true c4
          clear c4
          by_cases c5 : 0 ≤ x5_1
          · rw [if_pos c5] at H
            have c5b0 : decide (0 ≤ x5_1) = true := decide_eq_true c5
            clear c5
            by_cases c7 : x5_1 < (a1.size : Int)
            · rw [if_pos c7] at H
              have c7b0 : decide (x5_1 < (a1.size : Int)) = true := decide_eq_true c7
              clear c7
              by_cases c9 : (bt a0 x5_1) < (bt a1 x5_1)
              · rw [if_pos c9] at H
                have c9b0 : decide ((bt a0 x5_1) < (bt a1 x5_1)) = true := decide_eq_true c9
                clear c9
                obtain rfl := Option.some.inj H
                have p6 : 0 ≤ (x5_1 : Int) := of_decide_eq_true As_
                have q6 : x5_1 < (a0.size : Int) := of_decide_eq_true As_
                have hx6 := bt_at a0 x5_1
                replace p6 := eq_true p6
                replace q6 := eq_true q6
                have p8 : 0 ≤ (x5_1 : Int) := of_decide_eq_true As_
                have q8 : x5_1 < (a1.size : Int) := of_decide_eq_true As_
                have hx8 := bt_at a1 x5_1
                replace p8 := eq_true p8
                replace q8 := eq_true q8
                go_wp2
                repeat (go_quiet (fail); try go_wp2)
                go_ret
                exact ⟨by first | rfl | (simp; done) | (simp [*]; done), by repeat (first | exact Drawn0.refl _ | apply Drawn0.step)⟩
              · rw [if_neg c9] at H
                have c9b0 : decide ((bt a0 x5_1) < (bt a1 x5_1)) = false := decide_eq_false c9
                clear c9
                by_cases c12 : (bt a0 x5_1) > (bt a1 x5_1)
                · rw [if_pos c12] at H
                  have c12b0 : decide ((bt a1 x5_1) < (bt a0 x5_1)) = true := decide_eq_true c12
                  clear c12
                  obtain rfl := Option.some.inj H
                  have p6 : 0 ≤ (x5_1 : Int) := of_decide_eq_true As_
                  have q6 : x5_1 < (a0.size : Int) := of_decide_eq_true As_
                  have hx6 := bt_at a0 x5_1
                  replace p6 := eq_true p6
                  replace q6 := eq_true q6
                  have p8 : 0 ≤ (x5_1 : Int) := of_decide_eq_true As_
                  have q8 : x5_1 < (a1.size : Int) := of_decide_eq_true As_
                  have hx8 := bt_at a1 x5_1
                  replace p8 := eq_true p8
                  replace q8 := eq_true q8
                  have p10 : 0 ≤ (x5_1 : Int) := of_decide_eq_true As_
                  have q10 : x5_1 < (a0.size : Int) := of_decide_eq_true As_
                  have hx10 := bt_at a0 x5_1
                  replace p10 := eq_true p10
                  replace q10 := eq_true q10
                  have p11 : 0 ≤ (x5_1 : Int) := of_decide_eq_true As_
                  have q11 : x5_1 < (a1.size : Int) := of_decide_eq_true As_
                  have hx11 := bt_at a1 x5_1
                  replace p11 := eq_true p11
                  replace q11 := eq_true q11
                  go_wp2
                  repeat (go_quiet (fail); try go_wp2)
                  go_ret
                  exact ⟨by first | rfl | (simp; done) | (simp [*]; done), by repeat (first | exact Drawn0.refl _ | apply Drawn0.step)⟩
                · rw [if_neg c12] at H
                  have c12b0 : decide ((bt a1 x5_1) < (bt a0 x5_1)) = false := decide_eq_false c12
                  clear c12
                  have H' := Aside0.mk H
                  clear H
                  have p6 : 0 ≤ (x5_1 : Int) := of_decide_eq_true As_
                  have q6 : x5_1 < (a0.size : Int) := of_decide_eq_true As_
                  have hx6 := bt_at a0 x5_1
                  replace p6 := eq_true p6
                  replace q6 := eq_true q6
                  have p8 : 0 ≤ (x5_1 : Int) := of_decide_eq_true As_
                  have q8 : x5_1 < (a1.size : Int) := of_decide_eq_true As_
                  have hx8 := bt_at a1 x5_1
                  replace p8 := eq_true p8
                  replace q8 := eq_true q8
                  have p10 : 0 ≤ (x5_1 : Int) := of_decide_eq_true As_
                  have q10 : x5_1 < (a0.size : Int) := of_decide_eq_true As_
                  have hx10 := bt_at a0 x5_1
                  replace p10 := eq_true p10
                  replace q10 := eq_true q10
                  have p11 : 0 ≤ (x5_1 : Int) := of_decide_eq_true As_
                  have q11 : x5_1 < (a1.size : Int) := of_decide_eq_true As_
                  have hx11 := bt_at a1 x5_1
                  replace p11 := eq_true p11
                  replace q11 := eq_true q11
                  go_wp2
                  repeat (go_quiet (fail); try go_wp2)
                  go_roundg k1
                  case measure => have := HK1.out; omega
                  case rel => exact ⟨(wrap64 (x5_1 + 1)), (by first | rfl | (simp; done) | (simp [*]; done)), H', ⟨by have := HK1.out; omega⟩, by repeat (first | exact Drawn0.refl _ | apply Drawn0.step)⟩
            · rw [if_neg c7] at H
              exact absurd H (by simp)
          · rw [if_neg c5] at H
            exact absurd H (by simp)
        · rw [if_neg c4] at H
          have c4b0 : decide (x5_1 < (a0.size : Int)) = false := decide_eq_false c4
          clear c4
          obtain rfl := Option.some.inj H
          go_wp2
          repeat (go_quiet (fail); try go_wp2)
          go_ret
          exact ⟨by first | rfl | (simp; done) | (simp [*]; done), by repeat (first | exact Drawn0.refl _ | apply Drawn0.step)⟩
  · rw [if_neg c3] at H
    have c3b0 : ((a0.size : Int) == (a1.size : Int)) = false := beq_eq_false_iff_ne.mpr c3
    have c3b1 : ((a0.size : Int) != (a1.size : Int)) = true := bne_iff_ne.mpr c3
    have c3b2 : (a0.size == a1.size) = false := by first | simpa using c3 | (simp at c3 ⊢; omega)
    by_cases c13 : (a0.size : Int) < (a1.size : Int)
    · rw [if_pos c13] at H
      have c13b0 : decide ((a0.size : Int) < (a1.size : Int)) = true := decide_eq_true c13
      have c13b1 : decide (a0.size < a1.size) = true := decide_eq_true (Int.ofNat_lt.mp c13)
      clear c13
      obtain rfl := Option.some.inj H
      go_enter Tryd.func143, Tryd.ntmps143
      go_wp2
      repeat (go_quiet (fail); try go_wp2)
      go_ret
      exact ⟨by first | rfl | (simp; done) | (simp [*]; done), by repeat (first | exact Drawn0.refl _ | apply Drawn0.step)⟩
    · rw [if_neg c13] at H
      have c13b0 : decide ((a0.size : Int) < (a1.size : Int)) = false := decide_eq_false c13
      have c13b1 : decide (a0.size < a1.size) = false := decide_eq_false (fun h => c13 (Int.ofNat_lt.mpr h))
      clear c13
      obtain rfl := Option.some.inj H
      go_enter Tryd.func143, Tryd.ntmps143
      go_wp2
      repeat (go_quiet (fail); try go_wp2)
      go_ret
      exact ⟨by first | rfl | (simp; done) | (simp [*]; done), by repeat (first | exact Drawn0.refl _ | apply Drawn0.step)⟩
/-! ### reredosref01_minus: function 144 -/
def reredosref01_minus.l0 : Nat → ByteArray → ByteArray → ByteArray → Int → Int → Option (ByteArray)
  | 0, _, _, _, _, _ => none
  | k + 1, x0, x1, x5, x6, x7 => if x7 < (x0.size : Int) then ((reredosref01_digit.f x0 x7).bind fun t229 => ((reredosref01_digit.f x1 x7).bind fun t230 => (if (wrap64 ((wrap64 (t229 - t230)) - x6)) < 0 then ((some (([(wrap64 (48 + (wrap64 ((wrap64 ((wrap64 (t229 - t230)) - x6)) + 10)))) % 256] : List Int) : List Int)).bind fun y231 => (if (strOfNums y231).size + x5.size ≤ 9223372036854775807 then (reredosref01_minus.l0 k x0 x1 ((strOfNums y231) ++ x5) 1 (wrap64 (x7 + 1))) else (none))) else ((some (([(wrap64 (48 + (wrap64 ((wrap64 (t229 - t230)) - x6)))) % 256] : List Int) : List Int)).bind fun y234 => (if (strOfNums y234).size + x5.size ≤ 9223372036854775807 then (reredosref01_minus.l0 k x0 x1 ((strOfNums y234) ++ x5) 0 (wrap64 (x7 + 1))) else (none)))))) else ((reredosref01_bare.f k x5).bind fun t228 => (some t228))
def reredosref01_minus.f (k : Nat) (a0 : ByteArray) (a1 : ByteArray) : Option (ByteArray) := reredosref01_minus.l0 k a0 a1 (⟨#[]⟩ : ByteArray) 0 0
theorem reredosref01_minus.mono_l : ∀ k, (∀ y0 y1 y2 y3 y4, LeO (reredosref01_minus.l0 k y0 y1 y2 y3 y4) (reredosref01_minus.l0 (k + 1) y0 y1 y2 y3 y4))
  | 0 => fun _ _ _ _ _ r h => by simp [reredosref01_minus.l0] at h
  | k + 1 => by
    have ih0 := reredosref01_minus.mono_l k
    · intro y0 y1 y2 y3 y4
      unfold reredosref01_minus.l0
      repeat' first
      | (with_reducible exact ih0 _ _ _ _ _)
      | (with_reducible exact reredosref01_bare.mono _ _)
      | (with_reducible exact LeO.refl _)
      | (with_reducible exact LeO.none _)
      | (with_reducible refine LeO.ite ?_ ?_)
      | (with_reducible refine LeO.bind ?_ (fun _ => ?_))
      | exact ih0 _ _ _ _ _
      | exact reredosref01_bare.mono _ _
      | exact LeO.none _
      | refine LeO.ite ?_ ?_
      | refine LeO.bind ?_ (fun _ => ?_)
theorem reredosref01_minus.mono : ∀ a0 a1 k, LeO (reredosref01_minus.f k a0 a1) (reredosref01_minus.f (k + 1) a0 a1) := by
  intro a0 a1 k
  have ih0 := reredosref01_minus.mono_l k
  unfold reredosref01_minus.f
  repeat' first
      | (with_reducible exact ih0 _ _ _ _ _)
      | (with_reducible exact reredosref01_bare.mono _ _)
      | (with_reducible exact LeO.refl _)
      | (with_reducible exact LeO.none _)
      | (with_reducible refine LeO.ite ?_ ?_)
      | (with_reducible refine LeO.bind ?_ (fun _ => ?_))
      | exact ih0 _ _ _ _ _
      | exact reredosref01_bare.mono _ _
      | exact LeO.none _
      | refine LeO.ite ?_ ?_
      | refine LeO.bind ?_ (fun _ => ?_)
set_option maxHeartbeats 8000000 in
set_option maxRecDepth 100000 in
theorem reredosref01_minus.calls (k : Nat) (a0 : ByteArray) (a1 : ByteArray) (r : ByteArray) (w : World) (h : reredosref01_minus.f k a0 a1 = some r) :
    Calls Tryd.prog 144 #[.string a0, .string a1] w fun e w' => e = .returned (.string r) ∧ Below w.heap.size w w' := by
  have HB := Aside0.mk (Below.refl w.heap.size w)
  have H : (reredosref01_minus.l0 k a0 a1 (⟨#[]⟩ : ByteArray) 0 0) = some r := h
  clear h
  have H' := Aside0.mk H
  clear H
  go_enter Tryd.func144, Tryd.ntmps144
  go_wp2
  go_loopg [5, 6, 7] k (fun kq v5 v6 v7 w' => ∃ (x5_1 : ByteArray) (x6_1 : Int) (x7_1 : Int), v5 = .string x5_1 ∧ v6 = .int .i64 x6_1 ∧ v7 = .int .i64 x7_1 ∧ Aside0 (reredosref01_minus.l0 kq a0 a1 x5_1 x6_1 x7_1 = some r) ∧ Aside0 (kq ≤ k) ∧ Aside0 (Below w.heap.size w w'))
  case atStart => exact ⟨((⟨#[]⟩ : ByteArray)), (0), (0), (by first | rfl | (simp; done) | (simp [*]; done)), (by first | rfl | (simp; done) | (simp [*]; done)), (by first | rfl | (simp; done) | (simp [*]; done)), H', ⟨Nat.le_refl _⟩, ⟨by repeat (first | (with_reducible first | exact HB.out | apply below_alloc | apply pw_below_drewN | apply below_drew1) | exact HB.out)⟩⟩
  case round =>
    clear H'
    try clear c1
    try clear p2
    obtain ⟨x5_1, x6_1, x7_1, rfl, rfl, rfl, HA, HK1, HB⟩ := hrel
    cases gk with
    | zero => exact absurd HA.out (by simp [reredosref01_minus.l0])
    | succ k1 =>
      have H := HA.out
      clear HA
      simp only [reredosref01_minus.l0] at H
      by_cases c3 : x7_1 < (a0.size : Int)
      · rw [if_pos c3] at H
        have c3b0 : decide (x7_1 < (a0.size : Int)) = true := decide_eq_true c3
        clear c3
        replace H := Option.bind_eq_some_iff.mp H
        obtain ⟨t229, A40, H⟩ := H
        replace H : ((reredosref01_digit.f a1 x7_1).bind fun t230 => (if (wrap64 ((wrap64 (t229 - t230)) - x6_1)) < 0 then ((some (([(wrap64 (48 + (wrap64 ((wrap64 ((wrap64 (t229 - t230)) - x6_1)) + 10)))) % 256] : List Int) : List Int)).bind fun y231 => (if (strOfNums y231).size + x5_1.size ≤ 9223372036854775807 then (reredosref01_minus.l0 k1 a0 a1 ((strOfNums y231) ++ x5_1) 1 (wrap64 (x7_1 + 1))) else (none))) else ((some (([(wrap64 (48 + (wrap64 ((wrap64 (t229 - t230)) - x6_1)))) % 256] : List Int) : List Int)).bind fun y234 => (if (strOfNums y234).size + x5_1.size ≤ 9223372036854775807 then (reredosref01_minus.l0 k1 a0 a1 ((strOfNums y234) ++ x5_1) 0 (wrap64 (x7_1 + 1))) else (none))))) = some r := H
        have A4 := Aside0.mk A40
        clear A40
        replace H := Option.bind_eq_some_iff.mp H
        obtain ⟨t230, A50, H⟩ := H
        replace H : (if (wrap64 ((wrap64 (t229 - t230)) - x6_1)) < 0 then ((some (([(wrap64 (48 + (wrap64 ((wrap64 ((wrap64 (t229 - t230)) - x6_1)) + 10)))) % 256] : List Int) : List Int)).bind fun y231 => (if (strOfNums y231).size + x5_1.size ≤ 9223372036854775807 then (reredosref01_minus.l0 k1 a0 a1 ((strOfNums y231) ++ x5_1) 1 (wrap64 (x7_1 + 1))) else (none))) else ((some (([(wrap64 (48 + (wrap64 ((wrap64 (t229 - t230)) - x6_1)))) % 256] : List Int) : List Int)).bind fun y234 => (if (strOfNums y234).size + x5_1.size ≤ 9223372036854775807 then (reredosref01_minus.l0 k1 a0 a1 ((strOfNums y234) ++ x5_1) 0 (wrap64 (x7_1 + 1))) else (none)))) = some r := H
        have A5 := Aside0.mk A50
        clear A50
        by_cases c6 : (wrap64 ((wrap64 (t229 - t230)) - x6_1)) < 0
        · rw [if_pos c6] at H
          have c6b0 : decide ((wrap64 ((wrap64 (t229 - t230)) - x6_1)) < 0) = true := decide_eq_true c6
          clear c6
          obtain ⟨y231, hy231⟩ : ∃ y_ : List Int, y_ = (([(wrap64 (48 + (wrap64 ((wrap64 ((wrap64 (t229 - t230)) - x6_1)) + 10)))) % 256] : List Int)) := ⟨_, rfl⟩
          replace H : (if (strOfNums y231).size + x5_1.size ≤ 9223372036854775807 then (reredosref01_minus.l0 k1 a0 a1 ((strOfNums y231) ++ x5_1) 1 (wrap64 (x7_1 + 1))) else (none)) = some r := by first | (rw [hy231]; with_reducible exact H) | (have H2_ := (Option.bind_some _ _).symm.trans H; rw [hy231]; with_reducible exact H2_) | (have H2_ := (Option.bind_some _ _).symm.trans H; with_reducible exact H2_) | with_reducible exact H | (rw [hy231]; exact H) | exact H
          have Ny231 := Aside0.mk hy231
          clear hy231
          by_cases c7 : (strOfNums y231).size + x5_1.size ≤ 9223372036854775807
          · rw [if_pos c7] at H
            have c7b0 := eq_true c7
            have c7b1 : decide ((strOfNums y231).size + x5_1.size ≤ 9223372036854775807) = true := decide_eq_true c7
            try have c7b2 : (9223372036854775807 < (strOfNums y231).size + x5_1.size) = False := eq_false (Nat.not_lt.2 c7)
            have H' := Aside0.mk H
            clear H
            go_wp2_with (first | ((with_reducible refine gate_callee (f := 149) rfl ?_); refine goesL_ (some 17) rfl rfl Tryd.func149 (by kernel_rfl) rfl #[.string a0, .int .i64 x7_1] rfl Ga_ ?_; (with_reducible refine (reredosref01_digit.calls a0 x7_1 t229 _ A4.out).mono ?_); rintro e w' ⟨rfl, ⟨nd, rfl⟩⟩; refine ⟨_, rfl, ?_⟩) | ((with_reducible refine gate_callee (f := 149) rfl ?_); refine goesL_ (some 20) rfl rfl Tryd.func149 (by kernel_rfl) rfl #[.string a1, .int .i64 x7_1] rfl Ga_ ?_; (with_reducible refine (reredosref01_digit.calls a1 x7_1 t230 _ A5.out).mono ?_); rintro e w' ⟨rfl, ⟨nd, rfl⟩⟩; refine ⟨_, rfl, ?_⟩) | ((with_reducible refine gate_dst (N := 31) rfl ?_); refine Kd.R_lit (Kd.int .u8) _ 5 ?hg (N := 31) ?hd (xs := ([(wrap64 (48 + (wrap64 ((wrap64 ((wrap64 (t229 - t230)) - x6_1)) + 10)))) % 256] : List Int)) (inner := [.int .u8 ((wrap64 (48 + (wrap64 ((wrap64 ((wrap64 (t229 - t230)) - x6_1)) + 10)))) % 256)]) (ok := fun _ => True) (okp := fun _ => True) ?hr ?hp (fun _ hk => hk) trivial (Below.refl _ _) (Nat.le_refl _) (by simp) ?_; (case hd => rfl); (case hg => rfl); (case hr => first | (go_simp; done) | (go_simp; rfl)); (case hp => exact (Reps.one (show Kd.M (Kd.int .u8) _ _ _ ((wrap64 (48 + (wrap64 ((wrap64 ((wrap64 (t229 - t230)) - x6_1)) + 10)))) % 256) [.int .u8 ((wrap64 (48 + (wrap64 ((wrap64 ((wrap64 (t229 - t230)) - x6_1)) + 10)))) % 256)] from rfl) (Reps.none _ _))); intro v232 w8 ho9 hb hg_ hnew_; clear hg_ hnew_; (first | rw [← Ny231.out] at ho9 | (simp only [Int.reduceToNat] at ho9; rw [← Ny231.out] at ho9)); have n0_ := Aside0.mk (Kd.R_lower ho9 (below_size Bl_)); have n1_ := Aside0.mk (below_step Bl_ hb); clear HB; have HO233 := n0_; have HB := n1_; clear n0_ n1_; clear hb ho9; have hcv10 := own_string (P := Tryd.prog) Tryd.underlying100 Tryd.underlying5 Tryd.underlying9 (Kd.own_of_R HO233.out)))
            go_roundg k1
            case measure => have := HK1.out; omega
            case rel => exact ⟨((strOfNums y231) ++ x5_1), (1), (wrap64 (x7_1 + 1)), (by first | rfl | (simp; done) | (simp [*]; done)), (by first | rfl | (simp; done) | (simp [*]; done)), (by first | rfl | (simp; done) | (simp [*]; done)), H', ⟨by have := HK1.out; omega⟩, ⟨by repeat (first | (with_reducible first | exact HB.out | apply below_alloc | apply pw_below_drewN | apply below_drew1) | exact HB.out)⟩⟩
          · rw [if_neg c7] at H
            exact absurd H (by simp)
        · rw [if_neg c6] at H
          have c6b0 : decide ((wrap64 ((wrap64 (t229 - t230)) - x6_1)) < 0) = false := decide_eq_false c6
          clear c6
          obtain ⟨y234, hy234⟩ : ∃ y_ : List Int, y_ = (([(wrap64 (48 + (wrap64 ((wrap64 (t229 - t230)) - x6_1)))) % 256] : List Int)) := ⟨_, rfl⟩
          replace H : (if (strOfNums y234).size + x5_1.size ≤ 9223372036854775807 then (reredosref01_minus.l0 k1 a0 a1 ((strOfNums y234) ++ x5_1) 0 (wrap64 (x7_1 + 1))) else (none)) = some r := by first | (rw [hy234]; with_reducible exact H) | (have H2_ := (Option.bind_some _ _).symm.trans H; rw [hy234]; with_reducible exact H2_) | (have H2_ := (Option.bind_some _ _).symm.trans H; with_reducible exact H2_) | with_reducible exact H | (rw [hy234]; exact H) | exact H
          have Ny234 := Aside0.mk hy234
          clear hy234
          by_cases c11 : (strOfNums y234).size + x5_1.size ≤ 9223372036854775807
          · rw [if_pos c11] at H
            have c11b0 := eq_true c11
            have c11b1 : decide ((strOfNums y234).size + x5_1.size ≤ 9223372036854775807) = true := decide_eq_true c11
            try have c11b2 : (9223372036854775807 < (strOfNums y234).size + x5_1.size) = False := eq_false (Nat.not_lt.2 c11)
            have H' := Aside0.mk H
            clear H
            go_wp2_with (first | ((with_reducible refine gate_callee (f := 149) rfl ?_); refine goesL_ (some 17) rfl rfl Tryd.func149 (by kernel_rfl) rfl #[.string a0, .int .i64 x7_1] rfl Ga_ ?_; (with_reducible refine (reredosref01_digit.calls a0 x7_1 t229 _ A4.out).mono ?_); rintro e w' ⟨rfl, ⟨nd, rfl⟩⟩; refine ⟨_, rfl, ?_⟩) | ((with_reducible refine gate_callee (f := 149) rfl ?_); refine goesL_ (some 20) rfl rfl Tryd.func149 (by kernel_rfl) rfl #[.string a1, .int .i64 x7_1] rfl Ga_ ?_; (with_reducible refine (reredosref01_digit.calls a1 x7_1 t230 _ A5.out).mono ?_); rintro e w' ⟨rfl, ⟨nd, rfl⟩⟩; refine ⟨_, rfl, ?_⟩) | ((with_reducible refine gate_dst (N := 31) rfl ?_); refine Kd.R_lit (Kd.int .u8) _ 5 ?hg (N := 31) ?hd (xs := ([(wrap64 (48 + (wrap64 ((wrap64 (t229 - t230)) - x6_1)))) % 256] : List Int)) (inner := [.int .u8 ((wrap64 (48 + (wrap64 ((wrap64 (t229 - t230)) - x6_1)))) % 256)]) (ok := fun _ => True) (okp := fun _ => True) ?hr ?hp (fun _ hk => hk) trivial (Below.refl _ _) (Nat.le_refl _) (by simp) ?_; (case hd => rfl); (case hg => rfl); (case hr => first | (go_simp; done) | (go_simp; rfl)); (case hp => exact (Reps.one (show Kd.M (Kd.int .u8) _ _ _ ((wrap64 (48 + (wrap64 ((wrap64 (t229 - t230)) - x6_1)))) % 256) [.int .u8 ((wrap64 (48 + (wrap64 ((wrap64 (t229 - t230)) - x6_1)))) % 256)] from rfl) (Reps.none _ _))); intro v235 w12 ho13 hb hg_ hnew_; clear hg_ hnew_; (first | rw [← Ny234.out] at ho13 | (simp only [Int.reduceToNat] at ho13; rw [← Ny234.out] at ho13)); have n0_ := Aside0.mk (Kd.R_lower ho13 (below_size Bl_)); have n1_ := Aside0.mk (below_step Bl_ hb); clear HB; have HO236 := n0_; have HB := n1_; clear n0_ n1_; clear hb ho13; have hcv14 := own_string (P := Tryd.prog) Tryd.underlying100 Tryd.underlying5 Tryd.underlying9 (Kd.own_of_R HO236.out)))
            go_roundg k1
            case measure => have := HK1.out; omega
            case rel => exact ⟨((strOfNums y234) ++ x5_1), (0), (wrap64 (x7_1 + 1)), (by first | rfl | (simp; done) | (simp [*]; done)), (by first | rfl | (simp; done) | (simp [*]; done)), (by first | rfl | (simp; done) | (simp [*]; done)), H', ⟨by have := HK1.out; omega⟩, ⟨by repeat (first | (with_reducible first | exact HB.out | apply below_alloc | apply pw_below_drewN | apply below_drew1) | exact HB.out)⟩⟩
          · rw [if_neg c11] at H
            exact absurd H (by simp)
      · rw [if_neg c3] at H
        have c3b0 : decide (x7_1 < (a0.size : Int)) = false := decide_eq_false c3
        clear c3
        replace H := Option.bind_eq_some_iff.mp H
        obtain ⟨t228, A150, H⟩ := H
        replace H : (some t228) = some r := H
        have A15 := Aside0.mk A150
        clear A150
        obtain rfl := Option.some.inj H
        go_wp2_with (first | ((with_reducible refine gate_callee (f := 148) rfl ?_); refine goesL_ (some 36) rfl rfl Tryd.func148 (by kernel_rfl) rfl #[.string x5_1] rfl Ga_ ?_; (with_reducible refine (reredosref01_bare.calls k1 x5_1 t228 _ A15.out).mono ?_); rintro e w' ⟨rfl, ⟨nd, rfl⟩⟩; refine ⟨_, rfl, ?_⟩))
        go_ret
        exact ⟨by first | rfl | (simp [errW_none, errW_some] <;> rfl) | (simp [*, errW_none, errW_some] <;> rfl), by repeat (first | (with_reducible first | exact HB.out | apply below_alloc | apply pw_below_drewN | apply below_drew1) | exact HB.out)⟩
/-! ### reredosref01_sum: function 126 -/
def reredosref01_sum.f (k : Nat) (a0 : ByteArray) (a1 : ByteArray) : Option (ByteArray) := (reredosref01_low.f a0).bind fun t237 => ((reredosref01_low.f a1).bind fun t238 => (if (t237 == t238) = true then ((reredosref01_size.f a0).bind fun t239 => ((reredosref01_size.f a1).bind fun t240 => ((reredosref01_plus.f k t239 t240).bind fun t241 => ((reredosref01_low.f a0).bind fun t242 => ((reredosref01_signed.f k t241 t242).bind fun t243 => (some t243)))))) else ((reredosref01_size.f a0).bind fun t244 => ((reredosref01_size.f a1).bind fun t245 => ((reredosref01_more.f k t244 t245).bind fun t246 => (if t246 ≥ 0 then ((reredosref01_size.f a0).bind fun t247 => ((reredosref01_size.f a1).bind fun t248 => ((reredosref01_minus.f k t247 t248).bind fun t249 => ((reredosref01_low.f a0).bind fun t250 => ((reredosref01_signed.f k t249 t250).bind fun t251 => (some t251)))))) else ((reredosref01_size.f a1).bind fun t252 => ((reredosref01_size.f a0).bind fun t253 => ((reredosref01_minus.f k t252 t253).bind fun t254 => ((reredosref01_low.f a1).bind fun t255 => ((reredosref01_signed.f k t254 t255).bind fun t256 => (some t256))))))))))))
theorem reredosref01_sum.mono : ∀ a0 a1 k, LeO (reredosref01_sum.f k a0 a1) (reredosref01_sum.f (k + 1) a0 a1) := by
  intro a0 a1 k
  unfold reredosref01_sum.f
  repeat' first
      | (with_reducible exact reredosref01_minus.mono _ _ _)
      | (with_reducible exact reredosref01_more.mono _ _ _)
      | (with_reducible exact reredosref01_plus.mono _ _ _)
      | (with_reducible exact reredosref01_signed.mono _ _ _)
      | (with_reducible exact LeO.refl _)
      | (with_reducible exact LeO.none _)
      | (with_reducible refine LeO.ite ?_ ?_)
      | (with_reducible refine LeO.bind ?_ (fun _ => ?_))
      | exact reredosref01_minus.mono _ _ _
      | exact reredosref01_more.mono _ _ _
      | exact reredosref01_plus.mono _ _ _
      | exact reredosref01_signed.mono _ _ _
      | exact LeO.none _
      | refine LeO.ite ?_ ?_
      | refine LeO.bind ?_ (fun _ => ?_)
set_option maxHeartbeats 8000000 in
set_option maxRecDepth 100000 in
theorem reredosref01_sum.calls (k : Nat) (a0 : ByteArray) (a1 : ByteArray) (r : ByteArray) (w : World) (h : reredosref01_sum.f k a0 a1 = some r) :
    Calls Tryd.prog 126 #[.string a0, .string a1] w fun e w' => e = .returned (.string r) ∧ Below w.heap.size w w' := by
  have HB := Aside0.mk (Below.refl w.heap.size w)
  have H : ((reredosref01_low.f a0).bind fun t237 => ((reredosref01_low.f a1).bind fun t238 => (if (t237 == t238) = true then ((reredosref01_size.f a0).bind fun t239 => ((reredosref01_size.f a1).bind fun t240 => ((reredosref01_plus.f k t239 t240).bind fun t241 => ((reredosref01_low.f a0).bind fun t242 => ((reredosref01_signed.f k t241 t242).bind fun t243 => (some t243)))))) else ((reredosref01_size.f a0).bind fun t244 => ((reredosref01_size.f a1).bind fun t245 => ((reredosref01_more.f k t244 t245).bind fun t246 => (if t246 ≥ 0 then ((reredosref01_size.f a0).bind fun t247 => ((reredosref01_size.f a1).bind fun t248 => ((reredosref01_minus.f k t247 t248).bind fun t249 => ((reredosref01_low.f a0).bind fun t250 => ((reredosref01_signed.f k t249 t250).bind fun t251 => (some t251)))))) else ((reredosref01_size.f a1).bind fun t252 => ((reredosref01_size.f a0).bind fun t253 => ((reredosref01_minus.f k t252 t253).bind fun t254 => ((reredosref01_low.f a1).bind fun t255 => ((reredosref01_signed.f k t254 t255).bind fun t256 => (some t256))))))))))))) = some r := h
  clear h
  replace H := Option.bind_eq_some_iff.mp H
  obtain ⟨t237, A30, H⟩ := H
  replace H : ((reredosref01_low.f a1).bind fun t238 => (if (t237 == t238) = true then ((reredosref01_size.f a0).bind fun t239 => ((reredosref01_size.f a1).bind fun t240 => ((reredosref01_plus.f k t239 t240).bind fun t241 => ((reredosref01_low.f a0).bind fun t242 => ((reredosref01_signed.f k t241 t242).bind fun t243 => (some t243)))))) else ((reredosref01_size.f a0).bind fun t244 => ((reredosref01_size.f a1).bind fun t245 => ((reredosref01_more.f k t244 t245).bind fun t246 => (if t246 ≥ 0 then ((reredosref01_size.f a0).bind fun t247 => ((reredosref01_size.f a1).bind fun t248 => ((reredosref01_minus.f k t247 t248).bind fun t249 => ((reredosref01_low.f a0).bind fun t250 => ((reredosref01_signed.f k t249 t250).bind fun t251 => (some t251)))))) else ((reredosref01_size.f a1).bind fun t252 => ((reredosref01_size.f a0).bind fun t253 => ((reredosref01_minus.f k t252 t253).bind fun t254 => ((reredosref01_low.f a1).bind fun t255 => ((reredosref01_signed.f k t254 t255).bind fun t256 => (some t256)))))))))))) = some r := H
  have A3 := Aside0.mk A30
  clear A30
  replace H := Option.bind_eq_some_iff.mp H
  obtain ⟨t238, A40, H⟩ := H
  replace H : (if (t237 == t238) = true then ((reredosref01_size.f a0).bind fun t239 => ((reredosref01_size.f a1).bind fun t240 => ((reredosref01_plus.f k t239 t240).bind fun t241 => ((reredosref01_low.f a0).bind fun t242 => ((reredosref01_signed.f k t241 t242).bind fun t243 => (some t243)))))) else ((reredosref01_size.f a0).bind fun t244 => ((reredosref01_size.f a1).bind fun t245 => ((reredosref01_more.f k t244 t245).bind fun t246 => (if t246 ≥ 0 then ((reredosref01_size.f a0).bind fun t247 => ((reredosref01_size.f a1).bind fun t248 => ((reredosref01_minus.f k t247 t248).bind fun t249 => ((reredosref01_low.f a0).bind fun t250 => ((reredosref01_signed.f k t249 t250).bind fun t251 => (some t251)))))) else ((reredosref01_size.f a1).bind fun t252 => ((reredosref01_size.f a0).bind fun t253 => ((reredosref01_minus.f k t252 t253).bind fun t254 => ((reredosref01_low.f a1).bind fun t255 => ((reredosref01_signed.f k t254 t255).bind fun t256 => (some t256))))))))))) = some r := H
  have A4 := Aside0.mk A40
  clear A40
  by_cases c5 : (t237 == t238) = true
  · rw [if_pos c5] at H
    have c5b0 : (t237 == t238) = true := c5
    (try (have c5b1 : decide (t237 = t238) = true := by simpa using c5))
    (try (have c5b2 : (t237 == t238) = true := by simpa using c5))
    clear c5
    replace H := Option.bind_eq_some_iff.mp H
    obtain ⟨t239, A60, H⟩ := H
    replace H : ((reredosref01_size.f a1).bind fun t240 => ((reredosref01_plus.f k t239 t240).bind fun t241 => ((reredosref01_low.f a0).bind fun t242 => ((reredosref01_signed.f k t241 t242).bind fun t243 => (some t243))))) = some r := H
    have A6 := Aside0.mk A60
    clear A60
    replace H := Option.bind_eq_some_iff.mp H
    obtain ⟨t240, A70, H⟩ := H
    replace H : ((reredosref01_plus.f k t239 t240).bind fun t241 => ((reredosref01_low.f a0).bind fun t242 => ((reredosref01_signed.f k t241 t242).bind fun t243 => (some t243)))) = some r := H
    have A7 := Aside0.mk A70
    clear A70
    replace H := Option.bind_eq_some_iff.mp H
    obtain ⟨t241, A80, H⟩ := H
    replace H : ((reredosref01_low.f a0).bind fun t242 => ((reredosref01_signed.f k t241 t242).bind fun t243 => (some t243))) = some r := H
    have A8 := Aside0.mk A80
    clear A80
    replace H := Option.bind_eq_some_iff.mp H
    obtain ⟨t242, A90, H⟩ := H
    replace H : ((reredosref01_signed.f k t241 t242).bind fun t243 => (some t243)) = some r := H
    have A9 := Aside0.mk A90
    clear A90
    replace H := Option.bind_eq_some_iff.mp H
    obtain ⟨t243, A100, H⟩ := H
    replace H : (some t243) = some r := H
    have A10 := Aside0.mk A100
    clear A100
    obtain rfl := Option.some.inj H
    go_enter Tryd.func126, Tryd.ntmps126
    go_wp2_with (first | ((with_reducible refine gate_callee (f := 105) rfl ?_); refine goesL_ (some 6) rfl rfl Tryd.func105 (by kernel_rfl) rfl #[.string a0] rfl Ga_ ?_; (with_reducible refine (reredosref01_low.calls a0 t237 _ A3.out).mono ?_); rintro e w' ⟨rfl, ⟨nd, rfl⟩⟩; refine ⟨_, rfl, ?_⟩) | ((with_reducible refine gate_callee (f := 105) rfl ?_); refine goesL_ (some 8) rfl rfl Tryd.func105 (by kernel_rfl) rfl #[.string a1] rfl Ga_ ?_; (with_reducible refine (reredosref01_low.calls a1 t238 _ A4.out).mono ?_); rintro e w' ⟨rfl, ⟨nd, rfl⟩⟩; refine ⟨_, rfl, ?_⟩) | ((with_reducible refine gate_callee (f := 104) rfl ?_); refine goesL_ (some 11) rfl rfl Tryd.func104 (by kernel_rfl) rfl #[.string a0] rfl Ga_ ?_; (with_reducible refine (reredosref01_size.calls a0 t239 _ A6.out).mono ?_); rintro e w' ⟨rfl, ⟨nd, rfl⟩⟩; refine ⟨_, rfl, ?_⟩) | ((with_reducible refine gate_callee (f := 104) rfl ?_); refine goesL_ (some 13) rfl rfl Tryd.func104 (by kernel_rfl) rfl #[.string a1] rfl Ga_ ?_; (with_reducible refine (reredosref01_size.calls a1 t240 _ A7.out).mono ?_); rintro e w' ⟨rfl, ⟨nd, rfl⟩⟩; refine ⟨_, rfl, ?_⟩) | ((with_reducible refine gate_callee (f := 142) rfl ?_); refine goesL_ (some 14) rfl rfl Tryd.func142 (by kernel_rfl) rfl #[.string t239, .string t240] rfl Ga_ ?_; (with_reducible refine (reredosref01_plus.calls k t239 t240 t241 _ A8.out).mono ?_); rintro e w11 ⟨rfl, hb⟩; refine ⟨_, rfl, ?_⟩; have n0_ := Aside0.mk (below_step Bl_ hb); clear HB; have HB := n0_; clear n0_; (try clear hb); (try clear hb2); (try clear hk); (try clear hi)) | ((with_reducible refine gate_callee (f := 105) rfl ?_); refine goesL_ (some 16) rfl rfl Tryd.func105 (by kernel_rfl) rfl #[.string a0] rfl Ga_ ?_; (with_reducible refine (reredosref01_low.calls a0 t242 _ A9.out).mono ?_); rintro e w' ⟨rfl, ⟨nd, rfl⟩⟩; refine ⟨_, rfl, ?_⟩) | ((with_reducible refine gate_callee (f := 141) rfl ?_); refine goesL_ (some 17) rfl rfl Tryd.func141 (by kernel_rfl) rfl #[.string t241, .bool t242] rfl Ga_ ?_; (with_reducible refine (reredosref01_signed.calls k t241 t242 t243 _ A10.out).mono ?_); rintro e w' ⟨rfl, ⟨nd, rfl⟩⟩; refine ⟨_, rfl, ?_⟩))
    go_ret
    exact ⟨by first | rfl | (simp [errW_none, errW_some] <;> rfl) | (simp [*, errW_none, errW_some] <;> rfl), by repeat (first | (with_reducible first | exact HB.out | apply below_alloc | apply pw_below_drewN | apply below_drew1) | exact HB.out)⟩
  · rw [if_neg c5] at H
    have c5b0 : (t237 == t238) = false := by simpa using c5
    (try (have c5b1 : decide (t237 = t238) = false := by simpa using c5))
    (try (have c5b2 : (t237 == t238) = false := by simpa using c5))
    (try (have c5b3 : ¬ (t237 = t238) := by simpa using c5))
    clear c5
    replace H := Option.bind_eq_some_iff.mp H
    obtain ⟨t244, A120, H⟩ := H
    replace H : ((reredosref01_size.f a1).bind fun t245 => ((reredosref01_more.f k t244 t245).bind fun t246 => (if t246 ≥ 0 then ((reredosref01_size.f a0).bind fun t247 => ((reredosref01_size.f a1).bind fun t248 => ((reredosref01_minus.f k t247 t248).bind fun t249 => ((reredosref01_low.f a0).bind fun t250 => ((reredosref01_signed.f k t249 t250).bind fun t251 => (some t251)))))) else ((reredosref01_size.f a1).bind fun t252 => ((reredosref01_size.f a0).bind fun t253 => ((reredosref01_minus.f k t252 t253).bind fun t254 => ((reredosref01_low.f a1).bind fun t255 => ((reredosref01_signed.f k t254 t255).bind fun t256 => (some t256))))))))) = some r := H
    have A12 := Aside0.mk A120
    clear A120
    replace H := Option.bind_eq_some_iff.mp H
    obtain ⟨t245, A130, H⟩ := H
    replace H : ((reredosref01_more.f k t244 t245).bind fun t246 => (if t246 ≥ 0 then ((reredosref01_size.f a0).bind fun t247 => ((reredosref01_size.f a1).bind fun t248 => ((reredosref01_minus.f k t247 t248).bind fun t249 => ((reredosref01_low.f a0).bind fun t250 => ((reredosref01_signed.f k t249 t250).bind fun t251 => (some t251)))))) else ((reredosref01_size.f a1).bind fun t252 => ((reredosref01_size.f a0).bind fun t253 => ((reredosref01_minus.f k t252 t253).bind fun t254 => ((reredosref01_low.f a1).bind fun t255 => ((reredosref01_signed.f k t254 t255).bind fun t256 => (some t256)))))))) = some r := H
    have A13 := Aside0.mk A130
    clear A130
    replace H := Option.bind_eq_some_iff.mp H
    obtain ⟨t246, A140, H⟩ := H
    replace H : (if t246 ≥ 0 then ((reredosref01_size.f a0).bind fun t247 => ((reredosref01_size.f a1).bind fun t248 => ((reredosref01_minus.f k t247 t248).bind fun t249 => ((reredosref01_low.f a0).bind fun t250 => ((reredosref01_signed.f k t249 t250).bind fun t251 => (some t251)))))) else ((reredosref01_size.f a1).bind fun t252 => ((reredosref01_size.f a0).bind fun t253 => ((reredosref01_minus.f k t252 t253).bind fun t254 => ((reredosref01_low.f a1).bind fun t255 => ((reredosref01_signed.f k t254 t255).bind fun t256 => (some t256))))))) = some r := H
    have A14 := Aside0.mk A140
    clear A140
    by_cases c15 : t246 ≥ 0
    · rw [if_pos c15] at H
      have c15b0 : decide (0 ≤ t246) = true := decide_eq_true c15
      clear c15
      replace H := Option.bind_eq_some_iff.mp H
      obtain ⟨t247, A160, H⟩ := H
      replace H : ((reredosref01_size.f a1).bind fun t248 => ((reredosref01_minus.f k t247 t248).bind fun t249 => ((reredosref01_low.f a0).bind fun t250 => ((reredosref01_signed.f k t249 t250).bind fun t251 => (some t251))))) = some r := H
      have A16 := Aside0.mk A160
      clear A160
      replace H := Option.bind_eq_some_iff.mp H
      obtain ⟨t248, A170, H⟩ := H
      replace H : ((reredosref01_minus.f k t247 t248).bind fun t249 => ((reredosref01_low.f a0).bind fun t250 => ((reredosref01_signed.f k t249 t250).bind fun t251 => (some t251)))) = some r := H
      have A17 := Aside0.mk A170
      clear A170
      replace H := Option.bind_eq_some_iff.mp H
      obtain ⟨t249, A180, H⟩ := H
      replace H : ((reredosref01_low.f a0).bind fun t250 => ((reredosref01_signed.f k t249 t250).bind fun t251 => (some t251))) = some r := H
      have A18 := Aside0.mk A180
      clear A180
      replace H := Option.bind_eq_some_iff.mp H
      obtain ⟨t250, A190, H⟩ := H
      replace H : ((reredosref01_signed.f k t249 t250).bind fun t251 => (some t251)) = some r := H
      have A19 := Aside0.mk A190
      clear A190
      replace H := Option.bind_eq_some_iff.mp H
      obtain ⟨t251, A200, H⟩ := H
      replace H : (some t251) = some r := H
      have A20 := Aside0.mk A200
      clear A200
      obtain rfl := Option.some.inj H
      go_enter Tryd.func126, Tryd.ntmps126
      go_wp2_with (first | ((with_reducible refine gate_callee (f := 105) rfl ?_); refine goesL_ (some 6) rfl rfl Tryd.func105 (by kernel_rfl) rfl #[.string a0] rfl Ga_ ?_; (with_reducible refine (reredosref01_low.calls a0 t237 _ A3.out).mono ?_); rintro e w' ⟨rfl, ⟨nd, rfl⟩⟩; refine ⟨_, rfl, ?_⟩) | ((with_reducible refine gate_callee (f := 105) rfl ?_); refine goesL_ (some 8) rfl rfl Tryd.func105 (by kernel_rfl) rfl #[.string a1] rfl Ga_ ?_; (with_reducible refine (reredosref01_low.calls a1 t238 _ A4.out).mono ?_); rintro e w' ⟨rfl, ⟨nd, rfl⟩⟩; refine ⟨_, rfl, ?_⟩) | ((with_reducible refine gate_callee (f := 104) rfl ?_); refine goesL_ (some 19) rfl rfl Tryd.func104 (by kernel_rfl) rfl #[.string a0] rfl Ga_ ?_; (with_reducible refine (reredosref01_size.calls a0 t244 _ A12.out).mono ?_); rintro e w' ⟨rfl, ⟨nd, rfl⟩⟩; refine ⟨_, rfl, ?_⟩) | ((with_reducible refine gate_callee (f := 104) rfl ?_); refine goesL_ (some 21) rfl rfl Tryd.func104 (by kernel_rfl) rfl #[.string a1] rfl Ga_ ?_; (with_reducible refine (reredosref01_size.calls a1 t245 _ A13.out).mono ?_); rintro e w' ⟨rfl, ⟨nd, rfl⟩⟩; refine ⟨_, rfl, ?_⟩) | ((with_reducible refine gate_callee (f := 143) rfl ?_); refine goesL_ (some 22) rfl rfl Tryd.func143 (by kernel_rfl) rfl #[.string t244, .string t245] rfl Ga_ ?_; (with_reducible refine (reredosref01_more.calls k t244 t245 t246 _ A14.out).mono ?_); rintro e w' ⟨rfl, ⟨nd, rfl⟩⟩; refine ⟨_, rfl, ?_⟩) | ((with_reducible refine gate_callee (f := 104) rfl ?_); refine goesL_ (some 25) rfl rfl Tryd.func104 (by kernel_rfl) rfl #[.string a0] rfl Ga_ ?_; (with_reducible refine (reredosref01_size.calls a0 t247 _ A16.out).mono ?_); rintro e w' ⟨rfl, ⟨nd, rfl⟩⟩; refine ⟨_, rfl, ?_⟩) | ((with_reducible refine gate_callee (f := 104) rfl ?_); refine goesL_ (some 27) rfl rfl Tryd.func104 (by kernel_rfl) rfl #[.string a1] rfl Ga_ ?_; (with_reducible refine (reredosref01_size.calls a1 t248 _ A17.out).mono ?_); rintro e w' ⟨rfl, ⟨nd, rfl⟩⟩; refine ⟨_, rfl, ?_⟩) | ((with_reducible refine gate_callee (f := 144) rfl ?_); refine goesL_ (some 28) rfl rfl Tryd.func144 (by kernel_rfl) rfl #[.string t247, .string t248] rfl Ga_ ?_; (with_reducible refine (reredosref01_minus.calls k t247 t248 t249 _ A18.out).mono ?_); rintro e w21 ⟨rfl, hb⟩; refine ⟨_, rfl, ?_⟩; have n0_ := Aside0.mk (below_step Bl_ hb); clear HB; have HB := n0_; clear n0_; (try clear hb); (try clear hb2); (try clear hk); (try clear hi)) | ((with_reducible refine gate_callee (f := 105) rfl ?_); refine goesL_ (some 30) rfl rfl Tryd.func105 (by kernel_rfl) rfl #[.string a0] rfl Ga_ ?_; (with_reducible refine (reredosref01_low.calls a0 t250 _ A19.out).mono ?_); rintro e w' ⟨rfl, ⟨nd, rfl⟩⟩; refine ⟨_, rfl, ?_⟩) | ((with_reducible refine gate_callee (f := 141) rfl ?_); refine goesL_ (some 31) rfl rfl Tryd.func141 (by kernel_rfl) rfl #[.string t249, .bool t250] rfl Ga_ ?_; (with_reducible refine (reredosref01_signed.calls k t249 t250 t251 _ A20.out).mono ?_); rintro e w' ⟨rfl, ⟨nd, rfl⟩⟩; refine ⟨_, rfl, ?_⟩))
      go_ret
      exact ⟨by first | rfl | (simp [errW_none, errW_some] <;> rfl) | (simp [*, errW_none, errW_some] <;> rfl), by repeat (first | (with_reducible first | exact HB.out | apply below_alloc | apply pw_below_drewN | apply below_drew1) | exact HB.out)⟩
    · rw [if_neg c15] at H
      have c15b0 : decide (0 ≤ t246) = false := decide_eq_false c15
      clear c15
      replace H := Option.bind_eq_some_iff.mp H
      obtain ⟨t252, A220, H⟩ := H
      replace H : ((reredosref01_size.f a0).bind fun t253 => ((reredosref01_minus.f k t252 t253).bind fun t254 => ((reredosref01_low.f a1).bind fun t255 => ((reredosref01_signed.f k t254 t255).bind fun t256 => (some t256))))) = some r := H
      have A22 := Aside0.mk A220
      clear A220
      replace H := Option.bind_eq_some_iff.mp H
      obtain ⟨t253, A230, H⟩ := H
      replace H : ((reredosref01_minus.f k t252 t253).bind fun t254 => ((reredosref01_low.f a1).bind fun t255 => ((reredosref01_signed.f k t254 t255).bind fun t256 => (some t256)))) = some r := H
      have A23 := Aside0.mk A230
      clear A230
      replace H := Option.bind_eq_some_iff.mp H
      obtain ⟨t254, A240, H⟩ := H
      replace H : ((reredosref01_low.f a1).bind fun t255 => ((reredosref01_signed.f k t254 t255).bind fun t256 => (some t256))) = some r := H
      have A24 := Aside0.mk A240
      clear A240
      replace H := Option.bind_eq_some_iff.mp H
      obtain ⟨t255, A250, H⟩ := H
      replace H : ((reredosref01_signed.f k t254 t255).bind fun t256 => (some t256)) = some r := H
      have A25 := Aside0.mk A250
      clear A250
      replace H := Option.bind_eq_some_iff.mp H
      obtain ⟨t256, A260, H⟩ := H
      replace H : (some t256) = some r := H
      have A26 := Aside0.mk A260
      clear A260
      obtain rfl := Option.some.inj H
      go_enter Tryd.func126, Tryd.ntmps126
      go_wp2_with (first | ((with_reducible refine gate_callee (f := 105) rfl ?_); refine goesL_ (some 6) rfl rfl Tryd.func105 (by kernel_rfl) rfl #[.string a0] rfl Ga_ ?_; (with_reducible refine (reredosref01_low.calls a0 t237 _ A3.out).mono ?_); rintro e w' ⟨rfl, ⟨nd, rfl⟩⟩; refine ⟨_, rfl, ?_⟩) | ((with_reducible refine gate_callee (f := 105) rfl ?_); refine goesL_ (some 8) rfl rfl Tryd.func105 (by kernel_rfl) rfl #[.string a1] rfl Ga_ ?_; (with_reducible refine (reredosref01_low.calls a1 t238 _ A4.out).mono ?_); rintro e w' ⟨rfl, ⟨nd, rfl⟩⟩; refine ⟨_, rfl, ?_⟩) | ((with_reducible refine gate_callee (f := 104) rfl ?_); refine goesL_ (some 19) rfl rfl Tryd.func104 (by kernel_rfl) rfl #[.string a0] rfl Ga_ ?_; (with_reducible refine (reredosref01_size.calls a0 t244 _ A12.out).mono ?_); rintro e w' ⟨rfl, ⟨nd, rfl⟩⟩; refine ⟨_, rfl, ?_⟩) | ((with_reducible refine gate_callee (f := 104) rfl ?_); refine goesL_ (some 21) rfl rfl Tryd.func104 (by kernel_rfl) rfl #[.string a1] rfl Ga_ ?_; (with_reducible refine (reredosref01_size.calls a1 t245 _ A13.out).mono ?_); rintro e w' ⟨rfl, ⟨nd, rfl⟩⟩; refine ⟨_, rfl, ?_⟩) | ((with_reducible refine gate_callee (f := 143) rfl ?_); refine goesL_ (some 22) rfl rfl Tryd.func143 (by kernel_rfl) rfl #[.string t244, .string t245] rfl Ga_ ?_; (with_reducible refine (reredosref01_more.calls k t244 t245 t246 _ A14.out).mono ?_); rintro e w' ⟨rfl, ⟨nd, rfl⟩⟩; refine ⟨_, rfl, ?_⟩) | ((with_reducible refine gate_callee (f := 104) rfl ?_); refine goesL_ (some 33) rfl rfl Tryd.func104 (by kernel_rfl) rfl #[.string a1] rfl Ga_ ?_; (with_reducible refine (reredosref01_size.calls a1 t252 _ A22.out).mono ?_); rintro e w' ⟨rfl, ⟨nd, rfl⟩⟩; refine ⟨_, rfl, ?_⟩) | ((with_reducible refine gate_callee (f := 104) rfl ?_); refine goesL_ (some 35) rfl rfl Tryd.func104 (by kernel_rfl) rfl #[.string a0] rfl Ga_ ?_; (with_reducible refine (reredosref01_size.calls a0 t253 _ A23.out).mono ?_); rintro e w' ⟨rfl, ⟨nd, rfl⟩⟩; refine ⟨_, rfl, ?_⟩) | ((with_reducible refine gate_callee (f := 144) rfl ?_); refine goesL_ (some 36) rfl rfl Tryd.func144 (by kernel_rfl) rfl #[.string t252, .string t253] rfl Ga_ ?_; (with_reducible refine (reredosref01_minus.calls k t252 t253 t254 _ A24.out).mono ?_); rintro e w27 ⟨rfl, hb⟩; refine ⟨_, rfl, ?_⟩; have n0_ := Aside0.mk (below_step Bl_ hb); clear HB; have HB := n0_; clear n0_; (try clear hb); (try clear hb2); (try clear hk); (try clear hi)) | ((with_reducible refine gate_callee (f := 105) rfl ?_); refine goesL_ (some 38) rfl rfl Tryd.func105 (by kernel_rfl) rfl #[.string a1] rfl Ga_ ?_; (with_reducible refine (reredosref01_low.calls a1 t255 _ A25.out).mono ?_); rintro e w' ⟨rfl, ⟨nd, rfl⟩⟩; refine ⟨_, rfl, ?_⟩) | ((with_reducible refine gate_callee (f := 141) rfl ?_); refine goesL_ (some 39) rfl rfl Tryd.func141 (by kernel_rfl) rfl #[.string t254, .bool t255] rfl Ga_ ?_; (with_reducible refine (reredosref01_signed.calls k t254 t255 t256 _ A26.out).mono ?_); rintro e w' ⟨rfl, ⟨nd, rfl⟩⟩; refine ⟨_, rfl, ?_⟩))
      go_ret
      exact ⟨by first | rfl | (simp [errW_none, errW_some] <;> rfl) | (simp [*, errW_none, errW_some] <;> rfl), by repeat (first | (with_reducible first | exact HB.out | apply below_alloc | apply pw_below_drewN | apply below_drew1) | exact HB.out)⟩
/-! ### reredosref01_turned: function 127 -/
def reredosref01_turned.f (k : Nat) (a0 : ByteArray) : Option (ByteArray) := (reredosref01_size.f a0).bind fun t257 => ((reredosref01_low.f a0).bind fun t258 => ((reredosref01_signed.f k t257 (!t258)).bind fun t259 => (some t259)))
theorem reredosref01_turned.mono : ∀ a0 k, LeO (reredosref01_turned.f k a0) (reredosref01_turned.f (k + 1) a0) := by
  intro a0 k
  unfold reredosref01_turned.f
  repeat' first
      | (with_reducible exact reredosref01_signed.mono _ _ _)
      | (with_reducible exact LeO.refl _)
      | (with_reducible exact LeO.none _)
      | (with_reducible refine LeO.ite ?_ ?_)
      | (with_reducible refine LeO.bind ?_ (fun _ => ?_))
      | exact reredosref01_signed.mono _ _ _
      | exact LeO.none _
      | refine LeO.ite ?_ ?_
      | refine LeO.bind ?_ (fun _ => ?_)
set_option maxHeartbeats 8000000 in
set_option maxRecDepth 100000 in
theorem reredosref01_turned.calls (k : Nat) (a0 : ByteArray) (r : ByteArray) (w : World) (h : reredosref01_turned.f k a0 = some r) :
    Calls Tryd.prog 127 #[.string a0] w fun e w' => e = .returned (.string r) ∧ Drawn0 w w' := by
  have H : ((reredosref01_size.f a0).bind fun t257 => ((reredosref01_low.f a0).bind fun t258 => ((reredosref01_signed.f k t257 (!t258)).bind fun t259 => (some t259)))) = some r := h
  clear h
  replace H := Option.bind_eq_some_iff.mp H
  obtain ⟨t257, A20, H⟩ := H
  replace H : ((reredosref01_low.f a0).bind fun t258 => ((reredosref01_signed.f k t257 (!t258)).bind fun t259 => (some t259))) = some r := H
  have A2 := Aside0.mk A20
  clear A20
  replace H := Option.bind_eq_some_iff.mp H
  obtain ⟨t258, A30, H⟩ := H
  replace H : ((reredosref01_signed.f k t257 (!t258)).bind fun t259 => (some t259)) = some r := H
  have A3 := Aside0.mk A30
  clear A30
  replace H := Option.bind_eq_some_iff.mp H
  obtain ⟨t259, A40, H⟩ := H
  replace H : (some t259) = some r := H
  have A4 := Aside0.mk A40
  clear A40
  obtain rfl := Option.some.inj H
  go_enter Tryd.func127, Tryd.ntmps127
  go_wp2_with (first | ((with_reducible refine gate_callee (f := 104) rfl ?_); refine goesL_ (some 4) rfl rfl Tryd.func104 (by kernel_rfl) rfl #[.string a0] rfl Ga_ ?_; (with_reducible refine (reredosref01_size.calls a0 t257 _ A2.out).mono ?_); rintro e w' ⟨rfl, ⟨nd, rfl⟩⟩; refine ⟨_, rfl, ?_⟩) | ((with_reducible refine gate_callee (f := 105) rfl ?_); refine goesL_ (some 6) rfl rfl Tryd.func105 (by kernel_rfl) rfl #[.string a0] rfl Ga_ ?_; (with_reducible refine (reredosref01_low.calls a0 t258 _ A3.out).mono ?_); rintro e w' ⟨rfl, ⟨nd, rfl⟩⟩; refine ⟨_, rfl, ?_⟩) | ((with_reducible refine gate_callee (f := 141) rfl ?_); refine goesL_ (some 8) rfl rfl Tryd.func141 (by kernel_rfl) rfl #[.string t257, .bool (!t258)] rfl Ga_ ?_; (with_reducible refine (reredosref01_signed.calls k t257 (!t258) t259 _ A4.out).mono ?_); rintro e w' ⟨rfl, ⟨nd, rfl⟩⟩; refine ⟨_, rfl, ?_⟩))
  go_ret
  exact ⟨by first | rfl | (simp; done) | (simp [*]; done), by repeat (first | exact Drawn0.refl _ | apply Drawn0.step)⟩
/-! ### reredosref01_Cmp: function 103 -/
def reredosref01_Cmp.j0 : Nat → ByteArray → ByteArray → Bool → Option (Int)
  | 0, _, _, _ => none
  | k + 1, x0, x1, x12 => if x12 = true then (some 0) else ((reredosref01_turned.f k x1).bind fun t262 => ((reredosref01_sum.f k x0 t262).bind fun t263 => ((reredosref01_bounded.f k t263).bind fun t264 => ((reredosref01_Sign.f k t264).bind fun t265 => (some t265)))))
def reredosref01_Cmp.f (k : Nat) (a0 : ByteArray) (a1 : ByteArray) : Option (Int) := (reredosref01_May.f k a0).bind fun t260 => (if t260 = true then ((reredosref01_May.f k a1).bind fun t261 => (reredosref01_Cmp.j0 k a0 a1 (!t261))) else (reredosref01_Cmp.j0 k a0 a1 true))
theorem reredosref01_Cmp.mono_l : ∀ k, (∀ y0 y1 y2, LeO (reredosref01_Cmp.j0 k y0 y1 y2) (reredosref01_Cmp.j0 (k + 1) y0 y1 y2))
  | 0 => fun _ _ _ r h => by simp [reredosref01_Cmp.j0] at h
  | k + 1 => by
    have ih0 := reredosref01_Cmp.mono_l k
    · intro y0 y1 y2
      unfold reredosref01_Cmp.j0
      repeat' first
      | (with_reducible exact ih0 _ _ _)
      | (with_reducible exact reredosref01_May.mono _ _)
      | (with_reducible exact reredosref01_Sign.mono _ _)
      | (with_reducible exact reredosref01_bounded.mono _ _)
      | (with_reducible exact reredosref01_sum.mono _ _ _)
      | (with_reducible exact reredosref01_turned.mono _ _)
      | (with_reducible exact LeO.refl _)
      | (with_reducible exact LeO.none _)
      | (with_reducible refine LeO.ite ?_ ?_)
      | (with_reducible refine LeO.bind ?_ (fun _ => ?_))
      | exact ih0 _ _ _
      | exact reredosref01_May.mono _ _
      | exact reredosref01_Sign.mono _ _
      | exact reredosref01_bounded.mono _ _
      | exact reredosref01_sum.mono _ _ _
      | exact reredosref01_turned.mono _ _
      | exact LeO.none _
      | refine LeO.ite ?_ ?_
      | refine LeO.bind ?_ (fun _ => ?_)
theorem reredosref01_Cmp.mono : ∀ a0 a1 k, LeO (reredosref01_Cmp.f k a0 a1) (reredosref01_Cmp.f (k + 1) a0 a1) := by
  intro a0 a1 k
  have ih0 := reredosref01_Cmp.mono_l k
  unfold reredosref01_Cmp.f
  repeat' first
      | (with_reducible exact ih0 _ _ _)
      | (with_reducible exact reredosref01_May.mono _ _)
      | (with_reducible exact reredosref01_Sign.mono _ _)
      | (with_reducible exact reredosref01_bounded.mono _ _)
      | (with_reducible exact reredosref01_sum.mono _ _ _)
      | (with_reducible exact reredosref01_turned.mono _ _)
      | (with_reducible exact LeO.refl _)
      | (with_reducible exact LeO.none _)
      | (with_reducible refine LeO.ite ?_ ?_)
      | (with_reducible refine LeO.bind ?_ (fun _ => ?_))
      | exact ih0 _ _ _
      | exact reredosref01_May.mono _ _
      | exact reredosref01_Sign.mono _ _
      | exact reredosref01_bounded.mono _ _
      | exact reredosref01_sum.mono _ _ _
      | exact reredosref01_turned.mono _ _
      | exact LeO.none _
      | refine LeO.ite ?_ ?_
      | refine LeO.bind ?_ (fun _ => ?_)
set_option maxHeartbeats 8000000 in
set_option maxRecDepth 100000 in
theorem reredosref01_Cmp.calls (k : Nat) (a0 : ByteArray) (a1 : ByteArray) (r : Int) (w : World) (h : reredosref01_Cmp.f k a0 a1 = some r) :
    Calls Tryd.prog 103 #[.string a0, .string a1] w fun e w' => e = .returned (.int .i64 r) ∧ Below w.heap.size w w' := by
  have HB := Aside0.mk (Below.refl w.heap.size w)
  have H : ((reredosref01_May.f k a0).bind fun t260 => (if t260 = true then ((reredosref01_May.f k a1).bind fun t261 => (reredosref01_Cmp.j0 k a0 a1 (!t261))) else (reredosref01_Cmp.j0 k a0 a1 true))) = some r := h
  clear h
  have HC3 := Aside0.mk H
  clear H
  go_enter Tryd.func103, Tryd.ntmps103
  go_upto_region 1 with (fail)
  go_cut [12] (fun v12 wc => ∃ (kq : Nat) (x12_2 : Bool), v12 = .bool x12_2 ∧ Aside0 (reredosref01_Cmp.j0 kq a0 a1 x12_2 = some r) ∧ Aside0 (kq ≤ k) ∧ Aside0 (Below w.heap.size w wc))
  case first =>
    have H := HC3.out
    clear HC3
    replace H := Option.bind_eq_some_iff.mp H
    obtain ⟨t260, A40, H⟩ := H
    replace H : (if t260 = true then ((reredosref01_May.f k a1).bind fun t261 => (reredosref01_Cmp.j0 k a0 a1 (!t261))) else (reredosref01_Cmp.j0 k a0 a1 true)) = some r := H
    have A4 := Aside0.mk A40
    clear A40
    by_cases c5 : t260 = true
    · subst c5
      have H1 : ((reredosref01_May.f k a1).bind fun t261 => (reredosref01_Cmp.j0 k a0 a1 (!t261))) = some r := by rw [if_pos rfl] at H; exact H
      clear H
      have H := H1
      clear H1
      replace H := Option.bind_eq_some_iff.mp H
      obtain ⟨t261, A60, H⟩ := H
      replace H : (reredosref01_Cmp.j0 k a0 a1 (!t261)) = some r := H
      have A6 := Aside0.mk A60
      clear A60
      have H' := Aside0.mk H
      clear H
      go_wp2_with (first | ((with_reducible refine gate_callee (f := 76) rfl ?_); refine goesL_ (some 6) rfl rfl Tryd.func76 (by kernel_rfl) rfl #[.string a0] rfl Ga_ ?_; (with_reducible refine (reredosref01_May.calls k a0 true _ A4.out).mono ?_); rintro e w' ⟨rfl, ⟨nd, rfl⟩⟩; refine ⟨_, rfl, ?_⟩) | (go_at_call 76; (with_reducible refine (reredosref01_May.calls k a1 t261 _ A6.out).mono ?_); rintro e w' ⟨rfl, ⟨nd, rfl⟩⟩))
      go_meet
      case rel => exact ⟨_, (!t261), (by first | rfl | (simp; done) | (simp [*]; done)), H', ⟨by first | omega | exact Nat.le_refl _⟩, ⟨by repeat (first | (with_reducible first | exact HB.out | apply below_alloc | apply pw_below_drewN | apply below_drew1) | exact HB.out)⟩⟩
    · replace c5 := Bool.eq_false_iff.mpr c5
      subst c5
      have H1 : (reredosref01_Cmp.j0 k a0 a1 true) = some r := by rw [if_neg (show ¬ (false = true) by decide)] at H; exact H
      clear H
      have H := H1
      clear H1
      have H' := Aside0.mk H
      clear H
      go_wp2_with (first | ((with_reducible refine gate_callee (f := 76) rfl ?_); refine goesL_ (some 6) rfl rfl Tryd.func76 (by kernel_rfl) rfl #[.string a0] rfl Ga_ ?_; (with_reducible refine (reredosref01_May.calls k a0 false _ A4.out).mono ?_); rintro e w' ⟨rfl, ⟨nd, rfl⟩⟩; refine ⟨_, rfl, ?_⟩))
      go_meet
      case rel => exact ⟨_, (true), (by first | rfl | (simp; done) | (simp [*]; done)), H', ⟨by first | omega | exact Nat.le_refl _⟩, ⟨by repeat (first | (with_reducible first | exact HB.out | apply below_alloc | apply pw_below_drewN | apply below_drew1) | exact HB.out)⟩⟩
  case rest =>
    clear HC3
    try clear c1
    try clear p2
    try clear c5
    obtain ⟨kq, x12_2, rfl, HA, HJ2, HB⟩ := hcut
    cases kq with
    | zero => exact absurd HA.out (by simp [reredosref01_Cmp.j0])
    | succ kj2 =>
      have H := HA.out
      clear HA
      simp only [reredosref01_Cmp.j0] at H
      by_cases c7 : x12_2 = true
      · subst c7
        have H1 : (some 0) = some r := by rw [if_pos rfl] at H; exact H
        clear H
        have H := H1
        clear H1
        obtain rfl := Option.some.inj H
        go_wp2
        go_ret
        exact ⟨by first | rfl | (simp [errW_none, errW_some] <;> rfl) | (simp [*, errW_none, errW_some] <;> rfl), by repeat (first | (with_reducible first | exact HB.out | apply below_alloc | apply pw_below_drewN | apply below_drew1) | exact HB.out)⟩
      · replace c7 := Bool.eq_false_iff.mpr c7
        subst c7
        have H1 : ((reredosref01_turned.f kj2 a1).bind fun t262 => ((reredosref01_sum.f kj2 a0 t262).bind fun t263 => ((reredosref01_bounded.f kj2 t263).bind fun t264 => ((reredosref01_Sign.f kj2 t264).bind fun t265 => (some t265))))) = some r := by rw [if_neg (show ¬ (false = true) by decide)] at H; exact H
        clear H
        have H := H1
        clear H1
        replace H := Option.bind_eq_some_iff.mp H
        obtain ⟨t262, A80, H⟩ := H
        replace H : ((reredosref01_sum.f kj2 a0 t262).bind fun t263 => ((reredosref01_bounded.f kj2 t263).bind fun t264 => ((reredosref01_Sign.f kj2 t264).bind fun t265 => (some t265)))) = some r := H
        have A8 := Aside0.mk A80
        clear A80
        replace H := Option.bind_eq_some_iff.mp H
        obtain ⟨t263, A90, H⟩ := H
        replace H : ((reredosref01_bounded.f kj2 t263).bind fun t264 => ((reredosref01_Sign.f kj2 t264).bind fun t265 => (some t265))) = some r := H
        have A9 := Aside0.mk A90
        clear A90
        replace H := Option.bind_eq_some_iff.mp H
        obtain ⟨t264, A100, H⟩ := H
        replace H : ((reredosref01_Sign.f kj2 t264).bind fun t265 => (some t265)) = some r := H
        have A10 := Aside0.mk A100
        clear A100
        replace H := Option.bind_eq_some_iff.mp H
        obtain ⟨t265, A110, H⟩ := H
        replace H : (some t265) = some r := H
        have A11 := Aside0.mk A110
        clear A110
        obtain rfl := Option.some.inj H
        go_wp2_with (first | ((with_reducible refine gate_callee (f := 127) rfl ?_); refine goesL_ (some 15) rfl rfl Tryd.func127 (by kernel_rfl) rfl #[.string a1] rfl Ga_ ?_; (with_reducible refine (reredosref01_turned.calls kj2 a1 t262 _ A8.out).mono ?_); rintro e w' ⟨rfl, ⟨nd, rfl⟩⟩; refine ⟨_, rfl, ?_⟩) | ((with_reducible refine gate_callee (f := 126) rfl ?_); refine goesL_ (some 16) rfl rfl Tryd.func126 (by kernel_rfl) rfl #[.string a0, .string t262] rfl Ga_ ?_; (with_reducible refine (reredosref01_sum.calls kj2 a0 t262 t263 _ A9.out).mono ?_); rintro e w12 ⟨rfl, hb⟩; refine ⟨_, rfl, ?_⟩; have n0_ := Aside0.mk (below_step Bl_ hb); clear HB; have HB := n0_; clear n0_; (try clear hb); (try clear hb2); (try clear hk); (try clear hi)) | ((with_reducible refine gate_callee (f := 125) rfl ?_); refine goesL_ (some 17) rfl rfl Tryd.func125 (by kernel_rfl) rfl #[.string t263] rfl Ga_ ?_; (with_reducible refine (reredosref01_bounded.calls kj2 t263 t264 _ A10.out).mono ?_); rintro e w' ⟨rfl, ⟨nd, rfl⟩⟩; refine ⟨_, rfl, ?_⟩) | ((with_reducible refine gate_callee (f := 124) rfl ?_); refine goesL_ (some 18) rfl rfl Tryd.func124 (by kernel_rfl) rfl #[.string t264] rfl Ga_ ?_; (with_reducible refine (reredosref01_Sign.calls kj2 t264 t265 _ A11.out).mono ?_); rintro e w' ⟨rfl, ⟨nd, rfl⟩⟩; refine ⟨_, rfl, ?_⟩))
        go_ret
        exact ⟨by first | rfl | (simp [errW_none, errW_some] <;> rfl) | (simp [*, errW_none, errW_some] <;> rfl), by repeat (first | (with_reducible first | exact HB.out | apply below_alloc | apply pw_below_drewN | apply below_drew1) | exact HB.out)⟩
/-! ### reredosref02_bound: function 121 -/
def reredosref02_bound.f (a0 : Int) : Option (ByteArray) := if a0 = 8 then (some (⟨#[49, 50, 55]⟩ : ByteArray)) else (if a0 = 16 then (some (⟨#[51, 50, 55, 54, 55]⟩ : ByteArray)) else (if a0 = 32 then (some (⟨#[50, 49, 52, 55, 52, 56, 51, 54, 52, 55]⟩ : ByteArray)) else (if a0 = 64 then (some (⟨#[57, 50, 50, 51, 51, 55, 50, 48, 51, 54, 56, 53, 52, 55, 55, 53, 56, 48, 55]⟩ : ByteArray)) else (some (⟨#[]⟩ : ByteArray)))))
set_option maxHeartbeats 8000000 in
set_option maxRecDepth 100000 in
theorem reredosref02_bound.calls (a0 : Int) (r : ByteArray) (w : World) (h : reredosref02_bound.f a0 = some r) :
    Calls Tryd.prog 121 #[.int .i64 a0] w fun e w' => e = .returned (.string r) ∧ Drawn0 w w' := by
  have H : (if a0 = 8 then (some (⟨#[49, 50, 55]⟩ : ByteArray)) else (if a0 = 16 then (some (⟨#[51, 50, 55, 54, 55]⟩ : ByteArray)) else (if a0 = 32 then (some (⟨#[50, 49, 52, 55, 52, 56, 51, 54, 52, 55]⟩ : ByteArray)) else (if a0 = 64 then (some (⟨#[57, 50, 50, 51, 51, 55, 50, 48, 51, 54, 56, 53, 52, 55, 55, 53, 56, 48, 55]⟩ : ByteArray)) else (some (⟨#[]⟩ : ByteArray)))))) = some r := h
  clear h
  by_cases c2 : a0 = 8
  · rw [if_pos c2] at H
    have c2b0 : (a0 == 8) = true := beq_iff_eq.mpr c2
    have c2b1 : (a0 != 8) = false := bne_eq_false_iff_eq.mpr c2
    clear c2
    obtain rfl := Option.some.inj H
    go_enter Tryd.func121, Tryd.ntmps121
    go_wp2
    go_ret
    exact ⟨by first | rfl | (simp; done) | (simp [*]; done), by repeat (first | exact Drawn0.refl _ | apply Drawn0.step)⟩
  · rw [if_neg c2] at H
    have c2b0 : (a0 == 8) = false := beq_eq_false_iff_ne.mpr c2
    have c2b1 : (a0 != 8) = true := bne_iff_ne.mpr c2
    by_cases c3 : a0 = 16
    · rw [if_pos c3] at H
      have c3b0 : (a0 == 16) = true := beq_iff_eq.mpr c3
      have c3b1 : (a0 != 16) = false := bne_eq_false_iff_eq.mpr c3
      clear c3
      obtain rfl := Option.some.inj H
      go_enter Tryd.func121, Tryd.ntmps121
      go_wp2
      go_ret
      exact ⟨by first | rfl | (simp; done) | (simp [*]; done), by repeat (first | exact Drawn0.refl _ | apply Drawn0.step)⟩
    · rw [if_neg c3] at H
      have c3b0 : (a0 == 16) = false := beq_eq_false_iff_ne.mpr c3
      have c3b1 : (a0 != 16) = true := bne_iff_ne.mpr c3
      by_cases c4 : a0 = 32
      · rw [if_pos c4] at H
        have c4b0 : (a0 == 32) = true := beq_iff_eq.mpr c4
        have c4b1 : (a0 != 32) = false := bne_eq_false_iff_eq.mpr c4
        clear c4
        obtain rfl := Option.some.inj H
        go_enter Tryd.func121, Tryd.ntmps121
        go_wp2
        go_ret
        exact ⟨by first | rfl | (simp; done) | (simp [*]; done), by repeat (first | exact Drawn0.refl _ | apply Drawn0.step)⟩
      · rw [if_neg c4] at H
        have c4b0 : (a0 == 32) = false := beq_eq_false_iff_ne.mpr c4
        have c4b1 : (a0 != 32) = true := bne_iff_ne.mpr c4
        by_cases c5 : a0 = 64
        · rw [if_pos c5] at H
          have c5b0 : (a0 == 64) = true := beq_iff_eq.mpr c5
          have c5b1 : (a0 != 64) = false := bne_eq_false_iff_eq.mpr c5
          clear c5
          obtain rfl := Option.some.inj H
          go_enter Tryd.func121, Tryd.ntmps121
          go_wp2
          go_ret
          exact ⟨by first | rfl | (simp; done) | (simp [*]; done), by repeat (first | exact Drawn0.refl _ | apply Drawn0.step)⟩
        · rw [if_neg c5] at H
          have c5b0 : (a0 == 64) = false := beq_eq_false_iff_ne.mpr c5
          have c5b1 : (a0 != 64) = true := bne_iff_ne.mpr c5
          obtain rfl := Option.some.inj H
          go_enter Tryd.func121, Tryd.ntmps121
          go_wp2
          go_ret
          exact ⟨by first | rfl | (simp; done) | (simp [*]; done), by repeat (first | exact Drawn0.refl _ | apply Drawn0.step)⟩
/-! ### reredosref01_told: function 140 -/
def reredosref01_told.f (a0 : ByteArray) : Option (ByteArray × Int) := (reredosref01_size.f a0).bind fun t266 => (if (t266.size : Int) > 100 then (some ((⟨#[]⟩ : ByteArray), 8)) else (some (a0, 0)))
set_option maxHeartbeats 8000000 in
set_option maxRecDepth 100000 in
theorem reredosref01_told.calls (a0 : ByteArray) (r1 : ByteArray) (r2 : Int) (w : World) (h : reredosref01_told.f a0 = some (r1, r2)) :
    Calls Tryd.prog 140 #[.string a0] w fun e w' => e = .returned (.tuple #[.string r1, .int .i64 r2]) ∧ Drawn0 w w' := by
  have H : ((reredosref01_size.f a0).bind fun t266 => (if (t266.size : Int) > 100 then (some ((⟨#[]⟩ : ByteArray), 8)) else (some (a0, 0)))) = some (r1, r2) := h
  clear h
  replace H := Option.bind_eq_some_iff.mp H
  obtain ⟨t266, A20, H⟩ := H
  replace H : (if (t266.size : Int) > 100 then (some ((⟨#[]⟩ : ByteArray), 8)) else (some (a0, 0))) = some (r1, r2) := H
  have A2 := Aside0.mk A20
  clear A20
  by_cases c3 : (t266.size : Int) > 100
  · rw [if_pos c3] at H
    have c3b0 : decide (100 < (t266.size : Int)) = true := decide_eq_true c3
    have c3b1 : decide (100 < t266.size) = true := decide_eq_true (by omega)
    clear c3
    simp only [Option.some.injEq, Prod.mk.injEq] at H
    obtain ⟨rfl, rfl⟩ := H
    go_enter Tryd.func140, Tryd.ntmps140
    go_wp2_with (first | ((with_reducible refine gate_callee (f := 104) rfl ?_); refine goesL_ (some 5) rfl rfl Tryd.func104 (by kernel_rfl) rfl #[.string a0] rfl Ga_ ?_; (with_reducible refine (reredosref01_size.calls a0 t266 _ A2.out).mono ?_); rintro e w' ⟨rfl, ⟨nd, rfl⟩⟩; refine ⟨_, rfl, ?_⟩))
    go_ret2
    exact ⟨by first | rfl | (simp; done) | (simp [*]; done), by repeat (first | exact Drawn0.refl _ | apply Drawn0.step)⟩
  · rw [if_neg c3] at H
    have c3b0 : decide (100 < (t266.size : Int)) = false := decide_eq_false c3
    have c3b1 : decide (100 < t266.size) = false := decide_eq_false (by omega)
    clear c3
    simp only [Option.some.injEq, Prod.mk.injEq] at H
    obtain ⟨rfl, rfl⟩ := H
    go_enter Tryd.func140, Tryd.ntmps140
    go_wp2_with (first | ((with_reducible refine gate_callee (f := 104) rfl ?_); refine goesL_ (some 5) rfl rfl Tryd.func104 (by kernel_rfl) rfl #[.string a0] rfl Ga_ ?_; (with_reducible refine (reredosref01_size.calls a0 t266 _ A2.out).mono ?_); rintro e w' ⟨rfl, ⟨nd, rfl⟩⟩; refine ⟨_, rfl, ?_⟩))
    go_ret2
    exact ⟨by first | rfl | (simp; done) | (simp [*]; done), by repeat (first | exact Drawn0.refl _ | apply Drawn0.step)⟩
/-! ### reredosref01_Sub: function 122 -/
def reredosref01_Sub.j0 : Nat → ByteArray → ByteArray → Bool → Option (ByteArray × Int)
  | 0, _, _, _ => none
  | k + 1, x0, x1, x13 => if x13 = true then (some ((⟨#[]⟩ : ByteArray), 1)) else ((reredosref01_turned.f k x1).bind fun t269 => ((reredosref01_sum.f k x0 t269).bind fun t270 => ((reredosref01_told.f t270).bind fun bt271 => (some (bt271.1, bt271.2)))))
def reredosref01_Sub.f (k : Nat) (a0 : ByteArray) (a1 : ByteArray) : Option (ByteArray × Int) := (reredosref01_May.f k a0).bind fun t267 => (if t267 = true then ((reredosref01_May.f k a1).bind fun t268 => (reredosref01_Sub.j0 k a0 a1 (!t268))) else (reredosref01_Sub.j0 k a0 a1 true))
theorem reredosref01_Sub.mono_l : ∀ k, (∀ y0 y1 y2, LeO (reredosref01_Sub.j0 k y0 y1 y2) (reredosref01_Sub.j0 (k + 1) y0 y1 y2))
  | 0 => fun _ _ _ r h => by simp [reredosref01_Sub.j0] at h
  | k + 1 => by
    have ih0 := reredosref01_Sub.mono_l k
    · intro y0 y1 y2
      unfold reredosref01_Sub.j0
      repeat' first
      | (with_reducible exact ih0 _ _ _)
      | (with_reducible exact reredosref01_May.mono _ _)
      | (with_reducible exact reredosref01_sum.mono _ _ _)
      | (with_reducible exact reredosref01_turned.mono _ _)
      | (with_reducible exact LeO.refl _)
      | (with_reducible exact LeO.none _)
      | (with_reducible refine LeO.ite ?_ ?_)
      | (with_reducible refine LeO.bind ?_ (fun _ => ?_))
      | exact ih0 _ _ _
      | exact reredosref01_May.mono _ _
      | exact reredosref01_sum.mono _ _ _
      | exact reredosref01_turned.mono _ _
      | exact LeO.none _
      | refine LeO.ite ?_ ?_
      | refine LeO.bind ?_ (fun _ => ?_)
theorem reredosref01_Sub.mono : ∀ a0 a1 k, LeO (reredosref01_Sub.f k a0 a1) (reredosref01_Sub.f (k + 1) a0 a1) := by
  intro a0 a1 k
  have ih0 := reredosref01_Sub.mono_l k
  unfold reredosref01_Sub.f
  repeat' first
      | (with_reducible exact ih0 _ _ _)
      | (with_reducible exact reredosref01_May.mono _ _)
      | (with_reducible exact reredosref01_sum.mono _ _ _)
      | (with_reducible exact reredosref01_turned.mono _ _)
      | (with_reducible exact LeO.refl _)
      | (with_reducible exact LeO.none _)
      | (with_reducible refine LeO.ite ?_ ?_)
      | (with_reducible refine LeO.bind ?_ (fun _ => ?_))
      | exact ih0 _ _ _
      | exact reredosref01_May.mono _ _
      | exact reredosref01_sum.mono _ _ _
      | exact reredosref01_turned.mono _ _
      | exact LeO.none _
      | refine LeO.ite ?_ ?_
      | refine LeO.bind ?_ (fun _ => ?_)
set_option maxHeartbeats 8000000 in
set_option maxRecDepth 100000 in
theorem reredosref01_Sub.calls (k : Nat) (a0 : ByteArray) (a1 : ByteArray) (r1 : ByteArray) (r2 : Int) (w : World) (h : reredosref01_Sub.f k a0 a1 = some (r1, r2)) :
    Calls Tryd.prog 122 #[.string a0, .string a1] w fun e w' => e = .returned (.tuple #[.string r1, .int .i64 r2]) ∧ Below w.heap.size w w' := by
  have HB := Aside0.mk (Below.refl w.heap.size w)
  have H : ((reredosref01_May.f k a0).bind fun t267 => (if t267 = true then ((reredosref01_May.f k a1).bind fun t268 => (reredosref01_Sub.j0 k a0 a1 (!t268))) else (reredosref01_Sub.j0 k a0 a1 true))) = some (r1, r2) := h
  clear h
  have HC3 := Aside0.mk H
  clear H
  go_enter Tryd.func122, Tryd.ntmps122
  go_upto_region 1 with (fail)
  go_cut [13] (fun v13 wc => ∃ (kq : Nat) (x13_2 : Bool), v13 = .bool x13_2 ∧ Aside0 (reredosref01_Sub.j0 kq a0 a1 x13_2 = some (r1, r2)) ∧ Aside0 (kq ≤ k) ∧ Aside0 (Below w.heap.size w wc))
  case first =>
    have H := HC3.out
    clear HC3
    replace H := Option.bind_eq_some_iff.mp H
    obtain ⟨t267, A40, H⟩ := H
    replace H : (if t267 = true then ((reredosref01_May.f k a1).bind fun t268 => (reredosref01_Sub.j0 k a0 a1 (!t268))) else (reredosref01_Sub.j0 k a0 a1 true)) = some (r1, r2) := H
    have A4 := Aside0.mk A40
    clear A40
    by_cases c5 : t267 = true
    · subst c5
      have H1 : ((reredosref01_May.f k a1).bind fun t268 => (reredosref01_Sub.j0 k a0 a1 (!t268))) = some (r1, r2) := by rw [if_pos rfl] at H; exact H
      clear H
      have H := H1
      clear H1
      replace H := Option.bind_eq_some_iff.mp H
      obtain ⟨t268, A60, H⟩ := H
      replace H : (reredosref01_Sub.j0 k a0 a1 (!t268)) = some (r1, r2) := H
      have A6 := Aside0.mk A60
      clear A60
      have H' := Aside0.mk H
      clear H
      go_wp2_with (first | ((with_reducible refine gate_callee (f := 76) rfl ?_); refine goesL_ (some 7) rfl rfl Tryd.func76 (by kernel_rfl) rfl #[.string a0] rfl Ga_ ?_; (with_reducible refine (reredosref01_May.calls k a0 true _ A4.out).mono ?_); rintro e w' ⟨rfl, ⟨nd, rfl⟩⟩; refine ⟨_, rfl, ?_⟩) | (go_at_call 76; (with_reducible refine (reredosref01_May.calls k a1 t268 _ A6.out).mono ?_); rintro e w' ⟨rfl, ⟨nd, rfl⟩⟩))
      go_meet
      case rel => exact ⟨_, (!t268), (by first | rfl | (simp; done) | (simp [*]; done)), H', ⟨by first | omega | exact Nat.le_refl _⟩, ⟨by repeat (first | (with_reducible first | exact HB.out | apply below_alloc | apply pw_below_drewN | apply below_drew1) | exact HB.out)⟩⟩
    · replace c5 := Bool.eq_false_iff.mpr c5
      subst c5
      have H1 : (reredosref01_Sub.j0 k a0 a1 true) = some (r1, r2) := by rw [if_neg (show ¬ (false = true) by decide)] at H; exact H
      clear H
      have H := H1
      clear H1
      have H' := Aside0.mk H
      clear H
      go_wp2_with (first | ((with_reducible refine gate_callee (f := 76) rfl ?_); refine goesL_ (some 7) rfl rfl Tryd.func76 (by kernel_rfl) rfl #[.string a0] rfl Ga_ ?_; (with_reducible refine (reredosref01_May.calls k a0 false _ A4.out).mono ?_); rintro e w' ⟨rfl, ⟨nd, rfl⟩⟩; refine ⟨_, rfl, ?_⟩))
      go_meet
      case rel => exact ⟨_, (true), (by first | rfl | (simp; done) | (simp [*]; done)), H', ⟨by first | omega | exact Nat.le_refl _⟩, ⟨by repeat (first | (with_reducible first | exact HB.out | apply below_alloc | apply pw_below_drewN | apply below_drew1) | exact HB.out)⟩⟩
  case rest =>
    clear HC3
    try clear c1
    try clear p2
    try clear c5
    obtain ⟨kq, x13_2, rfl, HA, HJ2, HB⟩ := hcut
    cases kq with
    | zero => exact absurd HA.out (by simp [reredosref01_Sub.j0])
    | succ kj2 =>
      have H := HA.out
      clear HA
      simp only [reredosref01_Sub.j0] at H
      by_cases c7 : x13_2 = true
      · subst c7
        have H1 : (some ((⟨#[]⟩ : ByteArray), 1)) = some (r1, r2) := by rw [if_pos rfl] at H; exact H
        clear H
        have H := H1
        clear H1
        simp only [Option.some.injEq, Prod.mk.injEq] at H
        obtain ⟨rfl, rfl⟩ := H
        go_wp2
        go_ret2
        exact ⟨by first | rfl | (simp [errW_none, errW_some] <;> rfl) | (simp [*, errW_none, errW_some] <;> rfl), by repeat (first | (with_reducible first | exact HB.out | apply below_alloc | apply pw_below_drewN | apply below_drew1) | exact HB.out)⟩
      · replace c7 := Bool.eq_false_iff.mpr c7
        subst c7
        have H1 : ((reredosref01_turned.f kj2 a1).bind fun t269 => ((reredosref01_sum.f kj2 a0 t269).bind fun t270 => ((reredosref01_told.f t270).bind fun bt271 => (some (bt271.1, bt271.2))))) = some (r1, r2) := by rw [if_neg (show ¬ (false = true) by decide)] at H; exact H
        clear H
        have H := H1
        clear H1
        replace H := Option.bind_eq_some_iff.mp H
        obtain ⟨t269, A80, H⟩ := H
        replace H : ((reredosref01_sum.f kj2 a0 t269).bind fun t270 => ((reredosref01_told.f t270).bind fun bt271 => (some (bt271.1, bt271.2)))) = some (r1, r2) := H
        have A8 := Aside0.mk A80
        clear A80
        replace H := Option.bind_eq_some_iff.mp H
        obtain ⟨t270, A90, H⟩ := H
        replace H : ((reredosref01_told.f t270).bind fun bt271 => (some (bt271.1, bt271.2))) = some (r1, r2) := H
        have A9 := Aside0.mk A90
        clear A90
        replace H := Option.bind_eq_some_iff.mp H
        obtain ⟨⟨t271, t272⟩, A100, H⟩ := H
        replace H : (some (t271, t272)) = some (r1, r2) := H
        have A10 := Aside0.mk A100
        clear A100
        simp only [Option.some.injEq, Prod.mk.injEq] at H
        obtain ⟨rfl, rfl⟩ := H
        go_wp2_with (first | ((with_reducible refine gate_callee (f := 127) rfl ?_); refine goesL_ (some 16) rfl rfl Tryd.func127 (by kernel_rfl) rfl #[.string a1] rfl Ga_ ?_; (with_reducible refine (reredosref01_turned.calls kj2 a1 t269 _ A8.out).mono ?_); rintro e w' ⟨rfl, ⟨nd, rfl⟩⟩; refine ⟨_, rfl, ?_⟩) | ((with_reducible refine gate_callee (f := 126) rfl ?_); refine goesL_ (some 17) rfl rfl Tryd.func126 (by kernel_rfl) rfl #[.string a0, .string t269] rfl Ga_ ?_; (with_reducible refine (reredosref01_sum.calls kj2 a0 t269 t270 _ A9.out).mono ?_); rintro e w11 ⟨rfl, hb⟩; refine ⟨_, rfl, ?_⟩; have n0_ := Aside0.mk (below_step Bl_ hb); clear HB; have HB := n0_; clear n0_; (try clear hb); (try clear hb2); (try clear hk); (try clear hi)) | ((with_reducible refine gate_callee (f := 140) rfl ?_); refine goesL_ (some 18) rfl rfl Tryd.func140 (by kernel_rfl) rfl #[.string t270] rfl Ga_ ?_; (with_reducible refine (reredosref01_told.calls t270 t271 t272 _ A10.out).mono ?_); rintro e w' ⟨rfl, ⟨nd, rfl⟩⟩; refine ⟨_, rfl, ?_⟩))
        go_ret2
        exact ⟨by first | rfl | (simp [errW_none, errW_some] <;> rfl) | (simp [*, errW_none, errW_some] <;> rfl), by repeat (first | (with_reducible first | exact HB.out | apply below_alloc | apply pw_below_drewN | apply below_drew1) | exact HB.out)⟩
/-! ### reredosref01_Neg: function 123 -/
def reredosref01_Neg.f (k : Nat) (a0 : ByteArray) : Option (ByteArray) := (reredosref01_May.f k a0).bind fun t273 => (if t273 = true then ((reredosref01_turned.f k a0).bind fun t274 => (some t274)) else (some (⟨#[]⟩ : ByteArray)))
theorem reredosref01_Neg.mono : ∀ a0 k, LeO (reredosref01_Neg.f k a0) (reredosref01_Neg.f (k + 1) a0) := by
  intro a0 k
  unfold reredosref01_Neg.f
  repeat' first
      | (with_reducible exact reredosref01_May.mono _ _)
      | (with_reducible exact reredosref01_turned.mono _ _)
      | (with_reducible exact LeO.refl _)
      | (with_reducible exact LeO.none _)
      | (with_reducible refine LeO.ite ?_ ?_)
      | (with_reducible refine LeO.bind ?_ (fun _ => ?_))
      | exact reredosref01_May.mono _ _
      | exact reredosref01_turned.mono _ _
      | exact LeO.none _
      | refine LeO.ite ?_ ?_
      | refine LeO.bind ?_ (fun _ => ?_)
set_option maxHeartbeats 8000000 in
set_option maxRecDepth 100000 in
theorem reredosref01_Neg.calls (k : Nat) (a0 : ByteArray) (r : ByteArray) (w : World) (h : reredosref01_Neg.f k a0 = some r) :
    Calls Tryd.prog 123 #[.string a0] w fun e w' => e = .returned (.string r) ∧ Drawn0 w w' := by
  have H : ((reredosref01_May.f k a0).bind fun t273 => (if t273 = true then ((reredosref01_turned.f k a0).bind fun t274 => (some t274)) else (some (⟨#[]⟩ : ByteArray)))) = some r := h
  clear h
  replace H := Option.bind_eq_some_iff.mp H
  obtain ⟨t273, A20, H⟩ := H
  replace H : (if t273 = true then ((reredosref01_turned.f k a0).bind fun t274 => (some t274)) else (some (⟨#[]⟩ : ByteArray))) = some r := H
  have A2 := Aside0.mk A20
  clear A20
  by_cases c3 : t273 = true
  · subst c3
    have H1 : ((reredosref01_turned.f k a0).bind fun t274 => (some t274)) = some r := by rw [if_pos rfl] at H; exact H
    clear H
    have H := H1
    clear H1
    replace H := Option.bind_eq_some_iff.mp H
    obtain ⟨t274, A40, H⟩ := H
    replace H : (some t274) = some r := H
    have A4 := Aside0.mk A40
    clear A40
    obtain rfl := Option.some.inj H
    go_enter Tryd.func123, Tryd.ntmps123
    go_wp2_with (first | ((with_reducible refine gate_callee (f := 76) rfl ?_); refine goesL_ (some 4) rfl rfl Tryd.func76 (by kernel_rfl) rfl #[.string a0] rfl Ga_ ?_; (with_reducible refine (reredosref01_May.calls k a0 true _ A2.out).mono ?_); rintro e w' ⟨rfl, ⟨nd, rfl⟩⟩; refine ⟨_, rfl, ?_⟩) | ((with_reducible refine gate_callee (f := 127) rfl ?_); refine goesL_ (some 7) rfl rfl Tryd.func127 (by kernel_rfl) rfl #[.string a0] rfl Ga_ ?_; (with_reducible refine (reredosref01_turned.calls k a0 t274 _ A4.out).mono ?_); rintro e w' ⟨rfl, ⟨nd, rfl⟩⟩; refine ⟨_, rfl, ?_⟩))
    go_ret
    exact ⟨by first | rfl | (simp; done) | (simp [*]; done), by repeat (first | exact Drawn0.refl _ | apply Drawn0.step)⟩
  · replace c3 := Bool.eq_false_iff.mpr c3
    subst c3
    have H1 : (some (⟨#[]⟩ : ByteArray)) = some r := by rw [if_neg (show ¬ (false = true) by decide)] at H; exact H
    clear H
    have H := H1
    clear H1
    obtain rfl := Option.some.inj H
    go_enter Tryd.func123, Tryd.ntmps123
    go_wp2_with (first | ((with_reducible refine gate_callee (f := 76) rfl ?_); refine goesL_ (some 4) rfl rfl Tryd.func76 (by kernel_rfl) rfl #[.string a0] rfl Ga_ ?_; (with_reducible refine (reredosref01_May.calls k a0 false _ A2.out).mono ?_); rintro e w' ⟨rfl, ⟨nd, rfl⟩⟩; refine ⟨_, rfl, ?_⟩))
    go_ret
    exact ⟨by first | rfl | (simp; done) | (simp [*]; done), by repeat (first | exact Drawn0.refl _ | apply Drawn0.step)⟩
/-! ### reredosref02_In: function 102 -/
def reredosref02_In.f (k : Nat) (a0 : ByteArray) (a1 : Int) : Option (Bool) := (reredosref02_bound.f a1).bind fun t275 => (if t275.toList = ([] : List UInt8) then (some (a1 == 128)) else ((reredosref01_Neg.f k t275).bind fun t276 => ((reredosref01_Sub.f k t276 (⟨#[49]⟩ : ByteArray)).bind fun bt277 => ((reredosref01_Cmp.f k a0 t275).bind fun t279 => (if t279 ≤ 0 then ((reredosref01_Cmp.f k a0 bt277.1).bind fun t280 => (some (decide (t280 ≥ 0)))) else (some false))))))
theorem reredosref02_In.mono : ∀ a0 a1 k, LeO (reredosref02_In.f k a0 a1) (reredosref02_In.f (k + 1) a0 a1) := by
  intro a0 a1 k
  unfold reredosref02_In.f
  repeat' first
      | (with_reducible exact reredosref01_Cmp.mono _ _ _)
      | (with_reducible exact reredosref01_Neg.mono _ _)
      | (with_reducible exact reredosref01_Sub.mono _ _ _)
      | (with_reducible exact LeO.refl _)
      | (with_reducible exact LeO.none _)
      | (with_reducible refine LeO.ite ?_ ?_)
      | (with_reducible refine LeO.bind ?_ (fun _ => ?_))
      | exact reredosref01_Cmp.mono _ _ _
      | exact reredosref01_Neg.mono _ _
      | exact reredosref01_Sub.mono _ _ _
      | exact LeO.none _
      | refine LeO.ite ?_ ?_
      | refine LeO.bind ?_ (fun _ => ?_)
set_option maxHeartbeats 8000000 in
set_option maxRecDepth 100000 in
theorem reredosref02_In.calls (k : Nat) (a0 : ByteArray) (a1 : Int) (r : Bool) (w : World) (h : reredosref02_In.f k a0 a1 = some r) :
    Calls Tryd.prog 102 #[.string a0, .int .i64 a1] w fun e w' => e = .returned (.bool r) ∧ Below w.heap.size w w' := by
  have HB := Aside0.mk (Below.refl w.heap.size w)
  have H : ((reredosref02_bound.f a1).bind fun t275 => (if t275.toList = ([] : List UInt8) then (some (a1 == 128)) else ((reredosref01_Neg.f k t275).bind fun t276 => ((reredosref01_Sub.f k t276 (⟨#[49]⟩ : ByteArray)).bind fun bt277 => ((reredosref01_Cmp.f k a0 t275).bind fun t279 => (if t279 ≤ 0 then ((reredosref01_Cmp.f k a0 bt277.1).bind fun t280 => (some (decide (t280 ≥ 0)))) else (some false))))))) = some r := h
  clear h
  replace H := Option.bind_eq_some_iff.mp H
  obtain ⟨t275, A30, H⟩ := H
  replace H : (if t275.toList = ([] : List UInt8) then (some (a1 == 128)) else ((reredosref01_Neg.f k t275).bind fun t276 => ((reredosref01_Sub.f k t276 (⟨#[49]⟩ : ByteArray)).bind fun bt277 => ((reredosref01_Cmp.f k a0 t275).bind fun t279 => (if t279 ≤ 0 then ((reredosref01_Cmp.f k a0 bt277.1).bind fun t280 => (some (decide (t280 ≥ 0)))) else (some false)))))) = some r := H
  have A3 := Aside0.mk A30
  clear A30
  by_cases c4 : t275.toList = ([] : List UInt8)
  · rw [if_pos c4] at H
    have c4b0 : (t275.toList == ([] : List UInt8)) = true := beq_iff_eq.mpr c4
    have c4b1 : (t275.toList != ([] : List UInt8)) = false := bne_eq_false_iff_eq.mpr c4
    clear c4
    obtain rfl := Option.some.inj H
    go_enter Tryd.func102, Tryd.ntmps102
    go_wp2_with (first | ((with_reducible refine gate_callee (f := 121) rfl ?_); refine goesL_ (some 9) rfl rfl Tryd.func121 (by kernel_rfl) rfl #[.int .i64 a1] rfl Ga_ ?_; (with_reducible refine (reredosref02_bound.calls a1 t275 _ A3.out).mono ?_); rintro e w' ⟨rfl, ⟨nd, rfl⟩⟩; refine ⟨_, rfl, ?_⟩))
    go_ret
    exact ⟨by first | rfl | (simp [errW_none, errW_some] <;> rfl) | (simp [*, errW_none, errW_some] <;> rfl), by repeat (first | (with_reducible first | exact HB.out | apply below_alloc | apply pw_below_drewN | apply below_drew1) | exact HB.out)⟩
  · rw [if_neg c4] at H
    have c4b0 : (t275.toList == ([] : List UInt8)) = false := beq_eq_false_iff_ne.mpr c4
    have c4b1 : (t275.toList != ([] : List UInt8)) = true := bne_iff_ne.mpr c4
    replace H := Option.bind_eq_some_iff.mp H
    obtain ⟨t276, A50, H⟩ := H
    replace H : ((reredosref01_Sub.f k t276 (⟨#[49]⟩ : ByteArray)).bind fun bt277 => ((reredosref01_Cmp.f k a0 t275).bind fun t279 => (if t279 ≤ 0 then ((reredosref01_Cmp.f k a0 bt277.1).bind fun t280 => (some (decide (t280 ≥ 0)))) else (some false)))) = some r := H
    have A5 := Aside0.mk A50
    clear A50
    replace H := Option.bind_eq_some_iff.mp H
    obtain ⟨⟨t277, t278⟩, A60, H⟩ := H
    replace H : ((reredosref01_Cmp.f k a0 t275).bind fun t279 => (if t279 ≤ 0 then ((reredosref01_Cmp.f k a0 t277).bind fun t280 => (some (decide (t280 ≥ 0)))) else (some false))) = some r := H
    have A6 := Aside0.mk A60
    clear A60
    replace H := Option.bind_eq_some_iff.mp H
    obtain ⟨t279, A70, H⟩ := H
    replace H : (if t279 ≤ 0 then ((reredosref01_Cmp.f k a0 t277).bind fun t280 => (some (decide (t280 ≥ 0)))) else (some false)) = some r := H
    have A7 := Aside0.mk A70
    clear A70
    by_cases c8 : t279 ≤ 0
    · rw [if_pos c8] at H
      have c8b0 : decide (t279 ≤ 0) = true := decide_eq_true c8
      clear c8
      replace H := Option.bind_eq_some_iff.mp H
      obtain ⟨t280, A90, H⟩ := H
      replace H : (some (decide (t280 ≥ 0))) = some r := H
      have A9 := Aside0.mk A90
      clear A90
      obtain rfl := Option.some.inj H
      go_enter Tryd.func102, Tryd.ntmps102
      go_wp2_with (first | ((with_reducible refine gate_callee (f := 121) rfl ?_); refine goesL_ (some 9) rfl rfl Tryd.func121 (by kernel_rfl) rfl #[.int .i64 a1] rfl Ga_ ?_; (with_reducible refine (reredosref02_bound.calls a1 t275 _ A3.out).mono ?_); rintro e w' ⟨rfl, ⟨nd, rfl⟩⟩; refine ⟨_, rfl, ?_⟩) | ((with_reducible refine gate_callee (f := 123) rfl ?_); refine goesL_ (some 16) rfl rfl Tryd.func123 (by kernel_rfl) rfl #[.string t275] rfl Ga_ ?_; (with_reducible refine (reredosref01_Neg.calls k t275 t276 _ A5.out).mono ?_); rintro e w' ⟨rfl, ⟨nd, rfl⟩⟩; refine ⟨_, rfl, ?_⟩) | ((with_reducible refine gate_callee (f := 122) rfl ?_); refine goesL_ (some 17) rfl rfl Tryd.func122 (by kernel_rfl) rfl #[.string t276, .string (⟨#[49]⟩ : ByteArray)] rfl Ga_ ?_; (with_reducible refine (reredosref01_Sub.calls k t276 (⟨#[49]⟩ : ByteArray) t277 t278 _ A6.out).mono ?_); rintro e w10 ⟨rfl, hb⟩; refine ⟨_, rfl, ?_⟩; have n0_ := Aside0.mk (below_step Bl_ hb); clear HB; have HB := n0_; clear n0_; (try clear hb); (try clear hb2); (try clear hk); (try clear hi)) | ((with_reducible refine gate_callee (f := 103) rfl ?_); refine goesL_ (some 22) rfl rfl Tryd.func103 (by kernel_rfl) rfl #[.string a0, .string t275] rfl Ga_ ?_; (with_reducible refine (reredosref01_Cmp.calls k a0 t275 t279 _ A7.out).mono ?_); rintro e w11 ⟨rfl, hb⟩; refine ⟨_, rfl, ?_⟩; have n0_ := Aside0.mk (below_step Bl_ hb); clear HB; have HB := n0_; clear n0_; (try clear hb); (try clear hb2); (try clear hk); (try clear hi)) | (go_at_call 103; (with_reducible refine (reredosref01_Cmp.calls k a0 t277 t280 _ A9.out).mono ?_); rintro e w12 ⟨rfl, hb⟩; have n0_ := Aside0.mk (below_step Bl_ hb); clear HB; have HB := n0_; clear n0_; (try clear hb); (try clear hb2); (try clear hk); (try clear hi)))
      go_ret
      exact ⟨by first | rfl | (simp [errW_none, errW_some] <;> rfl) | (simp [*, errW_none, errW_some] <;> rfl), by repeat (first | (with_reducible first | exact HB.out | apply below_alloc | apply pw_below_drewN | apply below_drew1) | exact HB.out)⟩
    · rw [if_neg c8] at H
      have c8b0 : decide (t279 ≤ 0) = false := decide_eq_false c8
      clear c8
      obtain rfl := Option.some.inj H
      go_enter Tryd.func102, Tryd.ntmps102
      go_wp2_with (first | ((with_reducible refine gate_callee (f := 121) rfl ?_); refine goesL_ (some 9) rfl rfl Tryd.func121 (by kernel_rfl) rfl #[.int .i64 a1] rfl Ga_ ?_; (with_reducible refine (reredosref02_bound.calls a1 t275 _ A3.out).mono ?_); rintro e w' ⟨rfl, ⟨nd, rfl⟩⟩; refine ⟨_, rfl, ?_⟩) | ((with_reducible refine gate_callee (f := 123) rfl ?_); refine goesL_ (some 16) rfl rfl Tryd.func123 (by kernel_rfl) rfl #[.string t275] rfl Ga_ ?_; (with_reducible refine (reredosref01_Neg.calls k t275 t276 _ A5.out).mono ?_); rintro e w' ⟨rfl, ⟨nd, rfl⟩⟩; refine ⟨_, rfl, ?_⟩) | ((with_reducible refine gate_callee (f := 122) rfl ?_); refine goesL_ (some 17) rfl rfl Tryd.func122 (by kernel_rfl) rfl #[.string t276, .string (⟨#[49]⟩ : ByteArray)] rfl Ga_ ?_; (with_reducible refine (reredosref01_Sub.calls k t276 (⟨#[49]⟩ : ByteArray) t277 t278 _ A6.out).mono ?_); rintro e w13 ⟨rfl, hb⟩; refine ⟨_, rfl, ?_⟩; have n0_ := Aside0.mk (below_step Bl_ hb); clear HB; have HB := n0_; clear n0_; (try clear hb); (try clear hb2); (try clear hk); (try clear hi)) | ((with_reducible refine gate_callee (f := 103) rfl ?_); refine goesL_ (some 22) rfl rfl Tryd.func103 (by kernel_rfl) rfl #[.string a0, .string t275] rfl Ga_ ?_; (with_reducible refine (reredosref01_Cmp.calls k a0 t275 t279 _ A7.out).mono ?_); rintro e w14 ⟨rfl, hb⟩; refine ⟨_, rfl, ?_⟩; have n0_ := Aside0.mk (below_step Bl_ hb); clear HB; have HB := n0_; clear n0_; (try clear hb); (try clear hb2); (try clear hk); (try clear hi)))
      go_ret
      exact ⟨by first | rfl | (simp [errW_none, errW_some] <;> rfl) | (simp [*, errW_none, errW_some] <;> rfl), by repeat (first | (with_reducible first | exact HB.out | apply below_alloc | apply pw_below_drewN | apply below_drew1) | exact HB.out)⟩
/-! ### reredosref02_Of: function 77 -/
def reredosref02_Of.l0 : Nat → ByteArray → List Int → Int → Option (Int)
  | 0, _, _, _ => none
  | k + 1, x0, x3, x4 => if x4 < (x3.length : Int) then ((reredosref01_May.f k x0).bind fun t284 => (if t284 = true then (if 0 ≤ x4 then ((reredosref02_In.f k x0 (rd x3 x4)).bind fun t286 => (if t286 = true then (some (rd x3 x4)) else (reredosref02_Of.l0 k x0 x3 (wrap64 (x4 + 1))))) else (none)) else (reredosref02_Of.l0 k x0 x3 (wrap64 (x4 + 1))))) else (some 128)
def reredosref02_Of.f (k : Nat) (a0 : ByteArray) : Option (Int) := reredosref02_Of.l0 k a0 (([8, 16, 32, 64] : List Int)) 0
theorem reredosref02_Of.mono_l : ∀ k, (∀ y0 y1 y2, LeO (reredosref02_Of.l0 k y0 y1 y2) (reredosref02_Of.l0 (k + 1) y0 y1 y2))
  | 0 => fun _ _ _ r h => by simp [reredosref02_Of.l0] at h
  | k + 1 => by
    have ih0 := reredosref02_Of.mono_l k
    · intro y0 y1 y2
      unfold reredosref02_Of.l0
      repeat' first
      | (with_reducible exact ih0 _ _ _)
      | (with_reducible exact reredosref01_May.mono _ _)
      | (with_reducible exact reredosref02_In.mono _ _ _)
      | (with_reducible exact LeO.refl _)
      | (with_reducible exact LeO.none _)
      | (with_reducible refine LeO.ite ?_ ?_)
      | (with_reducible refine LeO.bind ?_ (fun _ => ?_))
      | exact ih0 _ _ _
      | exact reredosref01_May.mono _ _
      | exact reredosref02_In.mono _ _ _
      | exact LeO.none _
      | refine LeO.ite ?_ ?_
      | refine LeO.bind ?_ (fun _ => ?_)
theorem reredosref02_Of.mono : ∀ a0 k, LeO (reredosref02_Of.f k a0) (reredosref02_Of.f (k + 1) a0) := by
  intro a0 k
  have ih0 := reredosref02_Of.mono_l k
  unfold reredosref02_Of.f
  repeat' first
      | (with_reducible exact ih0 _ _ _)
      | (with_reducible exact reredosref01_May.mono _ _)
      | (with_reducible exact reredosref02_In.mono _ _ _)
      | (with_reducible exact LeO.refl _)
      | (with_reducible exact LeO.none _)
      | (with_reducible refine LeO.ite ?_ ?_)
      | (with_reducible refine LeO.bind ?_ (fun _ => ?_))
      | exact ih0 _ _ _
      | exact reredosref01_May.mono _ _
      | exact reredosref02_In.mono _ _ _
      | exact LeO.none _
      | refine LeO.ite ?_ ?_
      | refine LeO.bind ?_ (fun _ => ?_)
set_option maxHeartbeats 8000000 in
set_option maxRecDepth 100000 in
theorem reredosref02_Of.calls (k : Nat) (a0 : ByteArray) (r : Int) (w : World) (h : reredosref02_Of.f k a0 = some r) :
    Calls Tryd.prog 77 #[.string a0] w fun e w' => e = .returned (.int .i64 r) ∧ Below w.heap.size w w' := by
  have HB := Aside0.mk (Below.refl w.heap.size w)
  have H : (reredosref02_Of.l0 k a0 (([8, 16, 32, 64] : List Int)) 0) = some r := h
  clear h
  obtain ⟨y281, hy281⟩ : ∃ y_ : List Int, y_ = (([8, 16, 32, 64] : List Int)) := ⟨_, rfl⟩
  replace H : (reredosref02_Of.l0 k a0 y281 0) = some r := by first | (rw [hy281]; with_reducible exact H) | (have H2_ := (Option.bind_some _ _).symm.trans H; rw [hy281]; with_reducible exact H2_) | (have H2_ := (Option.bind_some _ _).symm.trans H; with_reducible exact H2_) | with_reducible exact H | (rw [hy281]; exact H) | exact H
  have Ny281 := Aside0.mk hy281
  clear hy281
  have H' := Aside0.mk H
  clear H
  go_enter Tryd.func77, Tryd.ntmps77
  go_wp2_with (first | ((with_reducible refine gate_dst (N := 5) rfl ?_); refine Kd.R_lit (Kd.int .i64) _ 3 ?hg (N := 5) ?hd (xs := ([8, 16, 32, 64] : List Int)) (inner := [.int .i64 8, .int .i64 16, .int .i64 32, .int .i64 64]) (ok := fun _ => True) (okp := fun _ => True) ?hr ?hp (fun _ hk => hk) trivial (Below.refl _ _) (Nat.le_refl _) (by simp) ?_; (case hd => rfl); (case hg => rfl); (case hr => first | (go_simp; done) | (go_simp; rfl)); (case hp => exact (Reps.one (show Kd.M (Kd.int .i64) _ _ _ 8 [.int .i64 8] from rfl) (Reps.one (show Kd.M (Kd.int .i64) _ _ _ 16 [.int .i64 16] from rfl) (Reps.one (show Kd.M (Kd.int .i64) _ _ _ 32 [.int .i64 32] from rfl) (Reps.one (show Kd.M (Kd.int .i64) _ _ _ 64 [.int .i64 64] from rfl) (Reps.none _ _)))))); intro v282 w2 ho3 hb hg_ hnew_; clear hg_ hnew_; (first | rw [← Ny281.out] at ho3 | (simp only [Int.reduceToNat] at ho3; rw [← Ny281.out] at ho3)); have n0_ := Aside0.mk (Kd.R_lower ho3 (below_size Bl_)); have n1_ := Aside0.mk (below_step Bl_ hb); clear HB; have HO283 := n0_; have HB := n1_; clear n0_ n1_; clear hb ho3))
  go_loopg [4] k (fun kq v4 w' => ∃ (x4_1 : Int), v4 = .int .i64 x4_1 ∧ Aside0 (reredosref02_Of.l0 kq a0 y281 x4_1 = some r) ∧ Aside0 (kq ≤ k) ∧ Aside0 (Kd.R (Kd.int .i64) 3 w' w.heap.size (fun _ => True) v282 y281) ∧ Aside0 (Below w.heap.size w w'))
  case atStart => exact ⟨(0), (by first | rfl | (simp; done) | (simp [*]; done)), H', ⟨Nat.le_refl _⟩, ⟨by (with_reducible repeat (first | apply Kd.R_alloc | apply Kd.R_drewN | apply Kd.R_drew)); exact HO283.out⟩, ⟨by repeat (first | (with_reducible first | exact HB.out | apply below_alloc | apply pw_below_drewN | apply below_drew1) | exact HB.out)⟩⟩
  case round =>
    clear H'
    try clear p2
    obtain ⟨x4_1, rfl, HA, HK1, HO_3, HB⟩ := hrel
    cases gk with
    | zero => exact absurd HA.out (by simp [reredosref02_Of.l0])
    | succ k1 =>
      have H := HA.out
      clear HA
      simp only [reredosref02_Of.l0] at H
      by_cases c4 : x4_1 < (y281.length : Int)
      · rw [if_pos c4] at H
        have c4b0 : decide (x4_1 < (y281.length : Int)) = true := decide_eq_true c4
        clear c4
        replace H := Option.bind_eq_some_iff.mp H
        obtain ⟨t284, A50, H⟩ := H
        replace H : (if t284 = true then (if 0 ≤ x4_1 then ((reredosref02_In.f k1 a0 (rd y281 x4_1)).bind fun t286 => (if t286 = true then (some (rd y281 x4_1)) else (reredosref02_Of.l0 k1 a0 y281 (wrap64 (x4_1 + 1))))) else (none)) else (reredosref02_Of.l0 k1 a0 y281 (wrap64 (x4_1 + 1)))) = some r := H
        have A5 := Aside0.mk A50
        clear A50
        by_cases c6 : t284 = true
        · subst c6
          have H1 : (if 0 ≤ x4_1 then ((reredosref02_In.f k1 a0 (rd y281 x4_1)).bind fun t286 => (if t286 = true then (some (rd y281 x4_1)) else (reredosref02_Of.l0 k1 a0 y281 (wrap64 (x4_1 + 1))))) else (none)) = some r := by rw [if_pos rfl] at H; exact H
          clear H
          have H := H1
          clear H1
          by_cases c7 : 0 ≤ x4_1
          · rw [if_pos c7] at H
            have c7b0 : decide (0 ≤ x4_1) = true := decide_eq_true c7
            clear c7
            replace H := Option.bind_eq_some_iff.mp H
            obtain ⟨t286, A80, H⟩ := H
            replace H : (if t286 = true then (some (rd y281 x4_1)) else (reredosref02_Of.l0 k1 a0 y281 (wrap64 (x4_1 + 1)))) = some r := H
            have A8 := Aside0.mk A80
            clear A80
            by_cases c9 : t286 = true
            · subst c9
              have H1 : (some (rd y281 x4_1)) = some r := by rw [if_pos rfl] at H; exact H
              clear H
              have H := H1
              clear H1
              obtain rfl := Option.some.inj H
              obtain ⟨Ao10, co10, eo10⟩ := Kd.R_slice HO_3.out
              subst eo10
              go_wp2_with (first | ((with_reducible refine gate_callee (f := 76) rfl ?_); refine goesL_ (some 13) rfl rfl Tryd.func76 (by kernel_rfl) rfl #[.string a0] rfl Ga_ ?_; (with_reducible refine (reredosref01_May.calls k1 a0 true _ A5.out).mono ?_); rintro e w' ⟨rfl, ⟨nd, rfl⟩⟩; refine ⟨_, rfl, ?_⟩; have p285 : 0 ≤ (x4_1 : Int) := of_decide_eq_true As_; have q285 : x4_1 < (y281.length : Int) := of_decide_eq_true As_; obtain ⟨ad285, e285, hx285_0⟩ := Kd.at_int (Kd.R_reads' HO_3.out).2.2 x4_1 p285 q285; cases e285; replace p285 := eq_true p285; replace q285 := eq_true q285) | (go_at_call 102; (with_reducible refine (reredosref02_In.calls k1 a0 (rd y281 x4_1) true _ A8.out).mono ?_); rintro e w11 ⟨rfl, hb⟩; have n0_ := Aside0.mk (Kd.R_below (by (with_reducible repeat (first | apply Kd.R_alloc | apply Kd.R_drewN | apply Kd.R_drew)); exact HO_3.out) hb); have n1_ := Aside0.mk (below_step Bl_ hb); clear HO_3; clear HB; have HO_3 := n0_; have HB := n1_; clear n0_ n1_; (try clear hb); (try clear hb2); (try clear hk); (try clear hi); have p287 : 0 ≤ (x4_1 : Int) := of_decide_eq_true As_; have q287 : x4_1 < (y281.length : Int) := of_decide_eq_true As_; obtain ⟨ad287, e287, hx287_0⟩ := Kd.at_int (Kd.R_reads' HO_3.out).2.2 x4_1 p287 q287; obtain rfl : ad285 = ad287 := (by injection e287); replace p287 := eq_true p287; replace q287 := eq_true q287))
              go_ret
              exact ⟨by first | rfl | (simp [errW_none, errW_some] <;> rfl) | (simp [*, errW_none, errW_some] <;> rfl), by repeat (first | (with_reducible first | exact HB.out | apply below_alloc | apply pw_below_drewN | apply below_drew1) | exact HB.out)⟩
            · replace c9 := Bool.eq_false_iff.mpr c9
              subst c9
              have H1 : (reredosref02_Of.l0 k1 a0 y281 (wrap64 (x4_1 + 1))) = some r := by rw [if_neg (show ¬ (false = true) by decide)] at H; exact H
              clear H
              have H := H1
              clear H1
              have H' := Aside0.mk H
              clear H
              obtain ⟨Ao12, co12, eo12⟩ := Kd.R_slice HO_3.out
              subst eo12
              go_wp2_with (first | ((with_reducible refine gate_callee (f := 76) rfl ?_); refine goesL_ (some 13) rfl rfl Tryd.func76 (by kernel_rfl) rfl #[.string a0] rfl Ga_ ?_; (with_reducible refine (reredosref01_May.calls k1 a0 true _ A5.out).mono ?_); rintro e w' ⟨rfl, ⟨nd, rfl⟩⟩; refine ⟨_, rfl, ?_⟩; have p285 : 0 ≤ (x4_1 : Int) := of_decide_eq_true As_; have q285 : x4_1 < (y281.length : Int) := of_decide_eq_true As_; obtain ⟨ad285, e285, hx285_0⟩ := Kd.at_int (Kd.R_reads' HO_3.out).2.2 x4_1 p285 q285; cases e285; replace p285 := eq_true p285; replace q285 := eq_true q285) | (go_at_call 102; (with_reducible refine (reredosref02_In.calls k1 a0 (rd y281 x4_1) false _ A8.out).mono ?_); rintro e w13 ⟨rfl, hb⟩; have n0_ := Aside0.mk (Kd.R_below (by (with_reducible repeat (first | apply Kd.R_alloc | apply Kd.R_drewN | apply Kd.R_drew)); exact HO_3.out) hb); have n1_ := Aside0.mk (below_step Bl_ hb); clear HO_3; clear HB; have HO_3 := n0_; have HB := n1_; clear n0_ n1_; (try clear hb); (try clear hb2); (try clear hk); (try clear hi)))
              go_roundg k1
              case measure => have := HK1.out; omega
              case rel => exact ⟨(wrap64 (x4_1 + 1)), (by first | rfl | (simp; done) | (simp [*]; done)), H', ⟨by have := HK1.out; omega⟩, ⟨by (with_reducible repeat (first | apply Kd.R_alloc | apply Kd.R_drewN | apply Kd.R_drew)); exact HO_3.out⟩, ⟨by repeat (first | (with_reducible first | exact HB.out | apply below_alloc | apply pw_below_drewN | apply below_drew1) | exact HB.out)⟩⟩
          · rw [if_neg c7] at H
            exact absurd H (by simp)
        · replace c6 := Bool.eq_false_iff.mpr c6
          subst c6
          have H1 : (reredosref02_Of.l0 k1 a0 y281 (wrap64 (x4_1 + 1))) = some r := by rw [if_neg (show ¬ (false = true) by decide)] at H; exact H
          clear H
          have H := H1
          clear H1
          have H' := Aside0.mk H
          clear H
          obtain ⟨Ao14, co14, eo14⟩ := Kd.R_slice HO_3.out
          subst eo14
          go_wp2_with (first | ((with_reducible refine gate_callee (f := 76) rfl ?_); refine goesL_ (some 13) rfl rfl Tryd.func76 (by kernel_rfl) rfl #[.string a0] rfl Ga_ ?_; (with_reducible refine (reredosref01_May.calls k1 a0 false _ A5.out).mono ?_); rintro e w' ⟨rfl, ⟨nd, rfl⟩⟩; refine ⟨_, rfl, ?_⟩))
          go_roundg k1
          case measure => have := HK1.out; omega
          case rel => exact ⟨(wrap64 (x4_1 + 1)), (by first | rfl | (simp; done) | (simp [*]; done)), H', ⟨by have := HK1.out; omega⟩, ⟨by (with_reducible repeat (first | apply Kd.R_alloc | apply Kd.R_drewN | apply Kd.R_drew)); exact HO_3.out⟩, ⟨by repeat (first | (with_reducible first | exact HB.out | apply below_alloc | apply pw_below_drewN | apply below_drew1) | exact HB.out)⟩⟩
      · rw [if_neg c4] at H
        have c4b0 : decide (x4_1 < (y281.length : Int)) = false := decide_eq_false c4
        clear c4
        obtain rfl := Option.some.inj H
        obtain ⟨Ao15, co15, eo15⟩ := Kd.R_slice HO_3.out
        subst eo15
        go_wp2
        go_ret
        exact ⟨by first | rfl | (simp [errW_none, errW_some] <;> rfl) | (simp [*, errW_none, errW_some] <;> rfl), by repeat (first | (with_reducible first | exact HB.out | apply below_alloc | apply pw_below_drewN | apply below_drew1) | exact HB.out)⟩
/-! ### reredosref04_Width: function 40 -/
def reredosref04_Width.l0 : Nat → Int → Int → List Int → List ByteArray → Option (Int)
  | 0, _, _, _, _ => none
  | k + 1, x3, x4, x289000, x289001 => if x4 < (x289001.length : Int) then (if 0 ≤ x4 then ((reredosref02_Of.f k (rdOf ByteArray.empty x289001 x4)).bind fun t290 => (reredosref04_Width.l0 k (mx x3 t290) (wrap64 (x4 + 1)) x289000 x289001)) else (none)) else (some x3)
def reredosref04_Width.f (k : Nat) (l0_0 : List Int) (l0_1 : List ByteArray) : Option (Int) := reredosref04_Width.l0 k 8 0 l0_0 l0_1
theorem reredosref04_Width.mono_l : ∀ k, (∀ y0 y1 y2 y3, LeO (reredosref04_Width.l0 k y0 y1 y2 y3) (reredosref04_Width.l0 (k + 1) y0 y1 y2 y3))
  | 0 => fun _ _ _ _ r h => by simp [reredosref04_Width.l0] at h
  | k + 1 => by
    have ih0 := reredosref04_Width.mono_l k
    · intro y0 y1 y2 y3
      unfold reredosref04_Width.l0
      repeat' first
      | (with_reducible exact ih0 _ _ _ _)
      | (with_reducible exact reredosref02_Of.mono _ _)
      | (with_reducible exact LeO.refl _)
      | (with_reducible exact LeO.none _)
      | (with_reducible refine LeO.ite ?_ ?_)
      | (with_reducible refine LeO.bind ?_ (fun _ => ?_))
      | exact ih0 _ _ _ _
      | exact reredosref02_Of.mono _ _
      | exact LeO.none _
      | refine LeO.ite ?_ ?_
      | refine LeO.bind ?_ (fun _ => ?_)
theorem reredosref04_Width.mono : ∀ a0 a1 k, LeO (reredosref04_Width.f k a0 a1) (reredosref04_Width.f (k + 1) a0 a1) := by
  intro a0 a1 k
  have ih0 := reredosref04_Width.mono_l k
  unfold reredosref04_Width.f
  repeat' first
      | (with_reducible exact ih0 _ _ _ _)
      | (with_reducible exact reredosref02_Of.mono _ _)
      | (with_reducible exact LeO.refl _)
      | (with_reducible exact LeO.none _)
      | (with_reducible refine LeO.ite ?_ ?_)
      | (with_reducible refine LeO.bind ?_ (fun _ => ?_))
      | exact ih0 _ _ _ _
      | exact reredosref02_Of.mono _ _
      | exact LeO.none _
      | refine LeO.ite ?_ ?_
      | refine LeO.bind ?_ (fun _ => ?_)
set_option maxHeartbeats 8000000 in
set_option maxRecDepth 100000 in
theorem reredosref04_Width.calls (k : Nat) (A0_0 : Option Addr) (c0_0 : Nat) (l0_0 : List Int) (A0_1 : Option Addr) (c0_1 : Nat) (l0_1 : List ByteArray) (r : Int) (w : World) (hr0_0 : Kd.C (Kd.int .i64) w A0_0 l0_0.length l0_0) (hc0_0 : l0_0.length ≤ c0_0) (hr0_1 : Kd.C Kd.string w A0_1 l0_1.length l0_1) (hc0_1 : l0_1.length ≤ c0_1) (h : reredosref04_Width.f k l0_0 l0_1 = some r) :
    Calls Tryd.prog 40 #[.agg #[.slice A0_0 l0_0.length c0_0, .slice A0_1 l0_1.length c0_1]] w fun e w' => e = .returned (.int .i64 r) ∧ Below w.heap.size w w' := by
  have hu25 := Tryd.underlying25
  have HR0_0 := Aside0.mk hr0_0
  have HC0_0 := Aside0.mk hc0_0
  clear hr0_0 hc0_0
  have HR0_1 := Aside0.mk hr0_1
  have HC0_1 := Aside0.mk hc0_1
  clear hr0_1 hc0_1
  have HB := Aside0.mk (Below.refl w.heap.size w)
  have H : (reredosref04_Width.l0 k 8 0 l0_0 l0_1) = some r := h
  clear h
  have H' := Aside0.mk H
  clear H
  go_enter Tryd.func40, Tryd.ntmps40
  go_wp2_with (first | ((with_reducible refine gate_dst (N := 1) rfl ?_); refine box_event ?hg (N := 1) ?hd (cs := #[.slice A0_0 l0_0.length c0_0, .slice A0_1 l0_1.length c0_1]) (t := 25) ?hr ?_; (case hd => rfl); (case hg => rfl); (case hr => first | (go_simp; done) | (go_simp; rfl)); intro gb288 hg w2 hbox hb; have n0_ := Aside0.mk (below_step Bl_ hb); have n1_ := Aside0.mk (hbox); have n2_ := Aside0.mk ((by rw [hg]; exact (below_size Bl_) : w.heap.size ≤ gb288)); have n3_ := Aside0.mk ((by rw [hg]; exact (below_size Bl_) : w.heap.size ≤ gb288)); clear HB; have HB := n0_; have BK288 := n1_; have GW288 := n2_; have GE288 := n3_; clear n0_ n1_ n2_ n3_; clear hb hbox hg))
  go_loopg [3, 4] k (fun kq v3 v4 w' => ∃ (x3_1 : Int) (x4_1 : Int), v3 = .int .i64 x3_1 ∧ v4 = .int .i64 x4_1 ∧ Aside0 (reredosref04_Width.l0 kq x3_1 x4_1 l0_0 l0_1 = some r) ∧ Aside0 (kq ≤ k) ∧ Aside0 (w'.heap[gb288]? = some (.cells #[(.slice A0_0 l0_0.length c0_0), (.slice A0_1 l0_1.length c0_1)] 25 (0, 0))) ∧ Aside0 (Below w.heap.size w w'))
  case atStart => exact ⟨(8), (0), (by first | rfl | (simp; done) | (simp [*]; done)), (by first | rfl | (simp; done) | (simp [*]; done)), H', ⟨Nat.le_refl _⟩, ⟨by (with_reducible repeat (first | refine blk_drewN ?_ _ | refine blk_drew ?_ | refine blk_alloc ?_ _)); exact BK288.out⟩, ⟨by repeat (first | (with_reducible first | exact HB.out | apply below_alloc | apply pw_below_drewN | apply below_drew1 | refine below_set ?_ GE288.out) | exact HB.out)⟩⟩
  case round =>
    clear H'
    try clear p2
    obtain ⟨x3_1, x4_1, rfl, rfl, HA, HK1, BK288, HB⟩ := hrel
    cases gk with
    | zero => exact absurd HA.out (by simp [reredosref04_Width.l0])
    | succ k1 =>
      have H := HA.out
      clear HA
      simp only [reredosref04_Width.l0] at H
      by_cases c3 : x4_1 < (l0_1.length : Int)
      · rw [if_pos c3] at H
        have c3b0 : decide (x4_1 < (l0_1.length : Int)) = true := decide_eq_true c3
        clear c3
        by_cases c4 : 0 ≤ x4_1
        · rw [if_pos c4] at H
          have c4b0 : decide (0 ≤ x4_1) = true := decide_eq_true c4
          clear c4
          replace H := Option.bind_eq_some_iff.mp H
          obtain ⟨t290, A50, H⟩ := H
          replace H : (reredosref04_Width.l0 k1 (mx x3_1 t290) (wrap64 (x4_1 + 1)) l0_0 l0_1) = some r := H
          have A5 := Aside0.mk A50
          clear A50
          obtain ⟨ji6, hji6⟩ : ∃ j_ : Int, (mx x3_1 t290) = j_ := ⟨_, rfl⟩
          replace H : (reredosref04_Width.l0 k1 ji6 (wrap64 (x4_1 + 1)) l0_0 l0_1) = some r := by first | (rw [hji6] at H; exact H) | (simp only [hji6] at H ⊢; exact H)
          (try rw [hji6] at A5)
          have hji6_ : (if x3_1 < t290 then t290 else x3_1) = ji6 := hji6
          have H' := Aside0.mk H
          clear H
          have hcz7_0 : wr.cell? ⟨gb288, 0, none⟩ = some (.slice A0_0 l0_0.length c0_0) := (blk_cell BK288.out 0).trans rfl
          have hcz7_1 : wr.cell? ⟨gb288, 1, none⟩ = some (.slice A0_1 l0_1.length c0_1) := (blk_cell BK288.out 1).trans rfl
          have hfz7_0 := blk_frozen BK288.out 0
          have hfz7_1 := blk_frozen BK288.out 1
          have p289 : 0 ≤ (x4_1 : Int) := of_decide_eq_true As_
          have q289 : x4_1 < (l0_1.length : Int) := of_decide_eq_true As_
          obtain ⟨ad289, e289, hx289_0⟩ := Kd.at_string HR0_1.out x4_1 p289 q289
          cases e289
          replace hx289_0 := (HB.out.cell (World.block_lt_of_cell? w _ hx289_0)).trans hx289_0
          replace p289 := eq_true p289
          replace q289 := eq_true q289
          go_wp2_with (first | ((with_reducible refine gate_callee (f := 77) rfl ?_); refine goesL_ (some 18) rfl rfl Tryd.func77 (by kernel_rfl) rfl #[.string (rdOf ByteArray.empty l0_1 x4_1)] rfl Ga_ ?_; (with_reducible refine (reredosref02_Of.calls k1 (rdOf ByteArray.empty l0_1 x4_1) t290 _ A5.out).mono ?_); rintro e w8 ⟨rfl, hb⟩; refine ⟨_, rfl, ?_⟩; have n0_ := Aside0.mk (blk_below (g := gb288) (o := .cells #[.slice A0_0 l0_0.length c0_0, .slice (some ad289) l0_1.length c0_1] 25 (0, 0)) (Bk_ BK288.out) hb); have n1_ := Aside0.mk (below_step (by repeat (first | (with_reducible first | exact HB.out | apply below_alloc | apply pw_below_drewN | apply below_drew1 | refine below_set ?_ GE288.out) | exact HB.out)) hb); clear BK288; clear HB; have BK288 := n0_; have HB := n1_; clear n0_ n1_; (try clear hb); (try clear hb2); (try clear hk); (try clear hi)))
          go_roundg k1
          case measure => have := HK1.out; omega
          case rel => exact ⟨(ji6), (wrap64 (x4_1 + 1)), (by first | rfl | (simp; done) | (simp only [← hji6] <;> (first | rfl | simp)) | (simp [*]; done)), (by first | rfl | (simp; done) | (simp [*]; done)), H', ⟨by have := HK1.out; omega⟩, ⟨by (with_reducible repeat (first | refine blk_drewN ?_ _ | refine blk_drew ?_ | refine blk_alloc ?_ _)); exact BK288.out⟩, ⟨by repeat (first | (with_reducible first | exact HB.out | apply below_alloc | apply pw_below_drewN | apply below_drew1 | refine below_set ?_ GE288.out) | exact HB.out)⟩⟩
        · rw [if_neg c4] at H
          exact absurd H (by simp)
      · rw [if_neg c3] at H
        have c3b0 : decide (x4_1 < (l0_1.length : Int)) = false := decide_eq_false c3
        clear c3
        obtain rfl := Option.some.inj H
        have hcz9_0 : wr.cell? ⟨gb288, 0, none⟩ = some (.slice A0_0 l0_0.length c0_0) := (blk_cell BK288.out 0).trans rfl
        have hcz9_1 : wr.cell? ⟨gb288, 1, none⟩ = some (.slice A0_1 l0_1.length c0_1) := (blk_cell BK288.out 1).trans rfl
        have hfz9_0 := blk_frozen BK288.out 0
        have hfz9_1 := blk_frozen BK288.out 1
        go_wp2
        go_ret
        exact ⟨by first | rfl | (simp [errW_none, errW_some] <;> rfl) | (simp [*, errW_none, errW_some] <;> rfl), by repeat (first | (with_reducible first | exact HB.out | apply below_alloc | apply pw_below_drewN | apply below_drew1 | refine below_set ?_ GE288.out) | exact HB.out)⟩
/-! ### reredosref01_Int: function 78 -/
mutual
def reredosref01_Int.j0 : Nat → ByteArray → Bool → Option (Int × Bool)
  | 0, _, _ => none
  | k + 1, x0, x19 => if x19 = true then (some (0, false)) else (reredosref01_Int.l0 k x0 0 0)
def reredosref01_Int.l0 : Nat → ByteArray → Int → Int → Option (Int × Bool)
  | 0, _, _, _ => none
  | k + 1, x0, x4, x5 => (reredosref01_size.f x0).bind fun t294 => (if x5 < (t294.size : Int) then ((reredosref01_size.f x0).bind fun t295 => (if 0 ≤ x5 then (if x5 < (t295.size : Int) then ((reredosref01_low.f x0).bind fun t296 => (if t296 = true then (reredosref01_Int.l0 k x0 (wrap64 ((wrap64 (10 * x4)) - (((bt t295 x5) - 48) % 256))) (wrap64 (x5 + 1))) else (reredosref01_Int.l0 k x0 (wrap64 ((wrap64 (10 * x4)) + (((bt t295 x5) - 48) % 256))) (wrap64 (x5 + 1))))) else (none)) else (none))) else (some (x4, true)))
end
def reredosref01_Int.f (k : Nat) (a0 : ByteArray) : Option (Int × Bool) := (reredosref01_May.f k a0).bind fun t291 => (if t291 = true then ((reredosref01_Cmp.f k a0 (⟨#[57, 50, 50, 51, 51, 55, 50, 48, 51, 54, 56, 53, 52, 55, 55, 53, 56, 48, 55]⟩ : ByteArray)).bind fun t292 => (if t292 > 0 then (reredosref01_Int.j0 k a0 true) else ((reredosref01_Cmp.f k a0 (⟨#[45, 57, 50, 50, 51, 51, 55, 50, 48, 51, 54, 56, 53, 52, 55, 55, 53, 56, 48, 56]⟩ : ByteArray)).bind fun t293 => (reredosref01_Int.j0 k a0 (decide (t293 < 0)))))) else (reredosref01_Int.j0 k a0 true))
theorem reredosref01_Int.mono_l : ∀ k, (∀ y0 y1, LeO (reredosref01_Int.j0 k y0 y1) (reredosref01_Int.j0 (k + 1) y0 y1)) ∧ (∀ y0 y1 y2, LeO (reredosref01_Int.l0 k y0 y1 y2) (reredosref01_Int.l0 (k + 1) y0 y1 y2))
  | 0 => ⟨fun _ _ r h => by simp [reredosref01_Int.j0] at h, fun _ _ _ r h => by simp [reredosref01_Int.l0] at h⟩
  | k + 1 => by
    obtain ⟨ih0, ih1⟩ := reredosref01_Int.mono_l k
    refine ⟨?_, ?_⟩
    · intro y0 y1
      unfold reredosref01_Int.j0
      repeat' first
      | (with_reducible exact ih0 _ _)
      | (with_reducible exact ih1 _ _ _)
      | (with_reducible exact reredosref01_Cmp.mono _ _ _)
      | (with_reducible exact reredosref01_May.mono _ _)
      | (with_reducible exact LeO.refl _)
      | (with_reducible exact LeO.none _)
      | (with_reducible refine LeO.ite ?_ ?_)
      | (with_reducible refine LeO.bind ?_ (fun _ => ?_))
      | exact ih0 _ _
      | exact ih1 _ _ _
      | exact reredosref01_Cmp.mono _ _ _
      | exact reredosref01_May.mono _ _
      | exact LeO.none _
      | refine LeO.ite ?_ ?_
      | refine LeO.bind ?_ (fun _ => ?_)
    · intro y0 y1 y2
      unfold reredosref01_Int.l0
      repeat' first
      | (with_reducible exact ih0 _ _)
      | (with_reducible exact ih1 _ _ _)
      | (with_reducible exact reredosref01_Cmp.mono _ _ _)
      | (with_reducible exact reredosref01_May.mono _ _)
      | (with_reducible exact LeO.refl _)
      | (with_reducible exact LeO.none _)
      | (with_reducible refine LeO.ite ?_ ?_)
      | (with_reducible refine LeO.bind ?_ (fun _ => ?_))
      | exact ih0 _ _
      | exact ih1 _ _ _
      | exact reredosref01_Cmp.mono _ _ _
      | exact reredosref01_May.mono _ _
      | exact LeO.none _
      | refine LeO.ite ?_ ?_
      | refine LeO.bind ?_ (fun _ => ?_)
theorem reredosref01_Int.mono : ∀ a0 k, LeO (reredosref01_Int.f k a0) (reredosref01_Int.f (k + 1) a0) := by
  intro a0 k
  obtain ⟨ih0, ih1⟩ := reredosref01_Int.mono_l k
  unfold reredosref01_Int.f
  repeat' first
      | (with_reducible exact ih0 _ _)
      | (with_reducible exact ih1 _ _ _)
      | (with_reducible exact reredosref01_Cmp.mono _ _ _)
      | (with_reducible exact reredosref01_May.mono _ _)
      | (with_reducible exact LeO.refl _)
      | (with_reducible exact LeO.none _)
      | (with_reducible refine LeO.ite ?_ ?_)
      | (with_reducible refine LeO.bind ?_ (fun _ => ?_))
      | exact ih0 _ _
      | exact ih1 _ _ _
      | exact reredosref01_Cmp.mono _ _ _
      | exact reredosref01_May.mono _ _
      | exact LeO.none _
      | refine LeO.ite ?_ ?_
      | refine LeO.bind ?_ (fun _ => ?_)
set_option maxHeartbeats 8000000 in
set_option maxRecDepth 100000 in
theorem reredosref01_Int.calls (k : Nat) (a0 : ByteArray) (r1 : Int) (r2 : Bool) (w : World) (h : reredosref01_Int.f k a0 = some (r1, r2)) :
    Calls Tryd.prog 78 #[.string a0] w fun e w' => e = .returned (.tuple #[.int .i64 r1, .bool r2]) ∧ Below w.heap.size w w' := by
  have HB := Aside0.mk (Below.refl w.heap.size w)
  have H : ((reredosref01_May.f k a0).bind fun t291 => (if t291 = true then ((reredosref01_Cmp.f k a0 (⟨#[57, 50, 50, 51, 51, 55, 50, 48, 51, 54, 56, 53, 52, 55, 55, 53, 56, 48, 55]⟩ : ByteArray)).bind fun t292 => (if t292 > 0 then (reredosref01_Int.j0 k a0 true) else ((reredosref01_Cmp.f k a0 (⟨#[45, 57, 50, 50, 51, 51, 55, 50, 48, 51, 54, 56, 53, 52, 55, 55, 53, 56, 48, 56]⟩ : ByteArray)).bind fun t293 => (reredosref01_Int.j0 k a0 (decide (t293 < 0)))))) else (reredosref01_Int.j0 k a0 true))) = some (r1, r2) := h
  clear h
  have HC2 := Aside0.mk H
  clear H
  go_enter Tryd.func78, Tryd.ntmps78
  go_upto_region 1 with (fail)
  go_cut [19] (fun v19 wc => ∃ (kq : Nat) (x19_1 : Bool), v19 = .bool x19_1 ∧ Aside0 (reredosref01_Int.j0 kq a0 x19_1 = some (r1, r2)) ∧ Aside0 (kq ≤ k) ∧ Aside0 (Below w.heap.size w wc))
  case first =>
    have H := HC2.out
    clear HC2
    replace H := Option.bind_eq_some_iff.mp H
    obtain ⟨t291, A30, H⟩ := H
    replace H : (if t291 = true then ((reredosref01_Cmp.f k a0 (⟨#[57, 50, 50, 51, 51, 55, 50, 48, 51, 54, 56, 53, 52, 55, 55, 53, 56, 48, 55]⟩ : ByteArray)).bind fun t292 => (if t292 > 0 then (reredosref01_Int.j0 k a0 true) else ((reredosref01_Cmp.f k a0 (⟨#[45, 57, 50, 50, 51, 51, 55, 50, 48, 51, 54, 56, 53, 52, 55, 55, 53, 56, 48, 56]⟩ : ByteArray)).bind fun t293 => (reredosref01_Int.j0 k a0 (decide (t293 < 0)))))) else (reredosref01_Int.j0 k a0 true)) = some (r1, r2) := H
    have A3 := Aside0.mk A30
    clear A30
    by_cases c4 : t291 = true
    · subst c4
      have H1 : ((reredosref01_Cmp.f k a0 (⟨#[57, 50, 50, 51, 51, 55, 50, 48, 51, 54, 56, 53, 52, 55, 55, 53, 56, 48, 55]⟩ : ByteArray)).bind fun t292 => (if t292 > 0 then (reredosref01_Int.j0 k a0 true) else ((reredosref01_Cmp.f k a0 (⟨#[45, 57, 50, 50, 51, 51, 55, 50, 48, 51, 54, 56, 53, 52, 55, 55, 53, 56, 48, 56]⟩ : ByteArray)).bind fun t293 => (reredosref01_Int.j0 k a0 (decide (t293 < 0)))))) = some (r1, r2) := by rw [if_pos rfl] at H; exact H
      clear H
      have H := H1
      clear H1
      replace H := Option.bind_eq_some_iff.mp H
      obtain ⟨t292, A50, H⟩ := H
      replace H : (if t292 > 0 then (reredosref01_Int.j0 k a0 true) else ((reredosref01_Cmp.f k a0 (⟨#[45, 57, 50, 50, 51, 51, 55, 50, 48, 51, 54, 56, 53, 52, 55, 55, 53, 56, 48, 56]⟩ : ByteArray)).bind fun t293 => (reredosref01_Int.j0 k a0 (decide (t293 < 0))))) = some (r1, r2) := H
      have A5 := Aside0.mk A50
      clear A50
      by_cases c6 : t292 > 0
      · rw [if_pos c6] at H
        have c6b0 : decide (0 < t292) = true := decide_eq_true c6
        clear c6
        (first | rw [c6b0] | (simp only [i64_w, i32_w]; rw [c6b0]) | skip)
        have H' := Aside0.mk H
        clear H
        go_wp2_with (first | ((with_reducible refine gate_callee (f := 76) rfl ?_); refine goesL_ (some 8) rfl rfl Tryd.func76 (by kernel_rfl) rfl #[.string a0] rfl Ga_ ?_; (with_reducible refine (reredosref01_May.calls k a0 true _ A3.out).mono ?_); rintro e w' ⟨rfl, ⟨nd, rfl⟩⟩; refine ⟨_, rfl, ?_⟩) | (go_at_call 103; (with_reducible refine (reredosref01_Cmp.calls k a0 (⟨#[57, 50, 50, 51, 51, 55, 50, 48, 51, 54, 56, 53, 52, 55, 55, 53, 56, 48, 55]⟩ : ByteArray) t292 _ A5.out).mono ?_); rintro e w7 ⟨rfl, hb⟩; have n0_ := Aside0.mk (below_step Bl_ hb); clear HB; have HB := n0_; clear n0_; (try clear hb); (try clear hb2); (try clear hk); (try clear hi)))
        go_meet
        case rel => exact ⟨_, (true), (by first | rfl | (simp; done) | (simp [*]; done)), H', ⟨by first | omega | exact Nat.le_refl _⟩, ⟨by repeat (first | (with_reducible first | exact HB.out | apply below_alloc | apply pw_below_drewN | apply below_drew1) | exact HB.out)⟩⟩
      · rw [if_neg c6] at H
        have c6b0 : decide (0 < t292) = false := decide_eq_false c6
        clear c6
        (first | rw [c6b0] | (simp only [i64_w, i32_w]; rw [c6b0]) | skip)
        replace H := Option.bind_eq_some_iff.mp H
        obtain ⟨t293, A80, H⟩ := H
        replace H : (reredosref01_Int.j0 k a0 (decide (t293 < 0))) = some (r1, r2) := H
        have A8 := Aside0.mk A80
        clear A80
        have H' := Aside0.mk H
        clear H
        go_wp2_with (first | ((with_reducible refine gate_callee (f := 76) rfl ?_); refine goesL_ (some 8) rfl rfl Tryd.func76 (by kernel_rfl) rfl #[.string a0] rfl Ga_ ?_; (with_reducible refine (reredosref01_May.calls k a0 true _ A3.out).mono ?_); rintro e w' ⟨rfl, ⟨nd, rfl⟩⟩; refine ⟨_, rfl, ?_⟩) | (go_at_call 103; (with_reducible refine (reredosref01_Cmp.calls k a0 (⟨#[57, 50, 50, 51, 51, 55, 50, 48, 51, 54, 56, 53, 52, 55, 55, 53, 56, 48, 55]⟩ : ByteArray) t292 _ A5.out).mono ?_); rintro e w9 ⟨rfl, hb⟩; have n0_ := Aside0.mk (below_step Bl_ hb); clear HB; have HB := n0_; clear n0_; (try clear hb); (try clear hb2); (try clear hk); (try clear hi)) | (go_at_call 103; (with_reducible refine (reredosref01_Cmp.calls k a0 (⟨#[45, 57, 50, 50, 51, 51, 55, 50, 48, 51, 54, 56, 53, 52, 55, 55, 53, 56, 48, 56]⟩ : ByteArray) t293 _ A8.out).mono ?_); rintro e w10 ⟨rfl, hb⟩; have n0_ := Aside0.mk (below_step Bl_ hb); clear HB; have HB := n0_; clear n0_; (try clear hb); (try clear hb2); (try clear hk); (try clear hi)))
        go_meet
        case rel => exact ⟨_, (decide (t293 < 0)), (by first | rfl | (simp; done) | (simp [*]; done)), H', ⟨by first | omega | exact Nat.le_refl _⟩, ⟨by repeat (first | (with_reducible first | exact HB.out | apply below_alloc | apply pw_below_drewN | apply below_drew1) | exact HB.out)⟩⟩
    · replace c4 := Bool.eq_false_iff.mpr c4
      subst c4
      have H1 : (reredosref01_Int.j0 k a0 true) = some (r1, r2) := by rw [if_neg (show ¬ (false = true) by decide)] at H; exact H
      clear H
      have H := H1
      clear H1
      have H' := Aside0.mk H
      clear H
      go_wp2_with (first | ((with_reducible refine gate_callee (f := 76) rfl ?_); refine goesL_ (some 8) rfl rfl Tryd.func76 (by kernel_rfl) rfl #[.string a0] rfl Ga_ ?_; (with_reducible refine (reredosref01_May.calls k a0 false _ A3.out).mono ?_); rintro e w' ⟨rfl, ⟨nd, rfl⟩⟩; refine ⟨_, rfl, ?_⟩))
      go_meet
      case rel => exact ⟨_, (true), (by first | rfl | (simp; done) | (simp [*]; done)), H', ⟨by first | omega | exact Nat.le_refl _⟩, ⟨by repeat (first | (with_reducible first | exact HB.out | apply below_alloc | apply pw_below_drewN | apply below_drew1) | exact HB.out)⟩⟩
  case rest =>
    clear HC2
    try clear p2
    try clear c4
    try clear c6
    try clear c6b0
    try clear c7
    obtain ⟨kq, x19_1, rfl, HA, HJ1, HB⟩ := hcut
    cases kq with
    | zero => exact absurd HA.out (by simp [reredosref01_Int.j0])
    | succ kj1 =>
      have H := HA.out
      clear HA
      simp only [reredosref01_Int.j0] at H
      by_cases c11 : x19_1 = true
      · subst c11
        have H1 : (some (0, false)) = some (r1, r2) := by rw [if_pos rfl] at H; exact H
        clear H
        have H := H1
        clear H1
        simp only [Option.some.injEq, Prod.mk.injEq] at H
        obtain ⟨rfl, rfl⟩ := H
        go_wp2
        go_ret2
        exact ⟨by first | rfl | (simp [errW_none, errW_some] <;> rfl) | (simp [*, errW_none, errW_some] <;> rfl), by repeat (first | (with_reducible first | exact HB.out | apply below_alloc | apply pw_below_drewN | apply below_drew1) | exact HB.out)⟩
      · replace c11 := Bool.eq_false_iff.mpr c11
        subst c11
        have H1 : (reredosref01_Int.l0 kj1 a0 0 0) = some (r1, r2) := by rw [if_neg (show ¬ (false = true) by decide)] at H; exact H
        clear H
        have H := H1
        clear H1
        have H' := Aside0.mk H
        clear H
        go_wp2
        go_loopg [4, 5] kj1 (fun kq v4 v5 w' => ∃ (x4_2 : Int) (x5_2 : Int), v4 = .int .i64 x4_2 ∧ v5 = .int .i64 x5_2 ∧ Aside0 (reredosref01_Int.l0 kq a0 x4_2 x5_2 = some (r1, r2)) ∧ Aside0 (kq ≤ kj1) ∧ Aside0 (Below w.heap.size w w'))
        case atStart => exact ⟨(0), (0), (by first | rfl | (simp; done) | (simp [*]; done)), (by first | rfl | (simp; done) | (simp [*]; done)), H', ⟨Nat.le_refl _⟩, ⟨by repeat (first | (with_reducible first | exact HB.out | apply below_alloc | apply pw_below_drewN | apply below_drew1) | exact HB.out)⟩⟩
        case round =>
          clear H'
          try clear c1
          try clear p2
          try clear c4
          try clear c6
          try clear c6b0
          try clear c7
          try clear c11
          try clear p2
          obtain ⟨x4_2, x5_2, rfl, rfl, HA, HK2, HB⟩ := hrel
          cases gk with
          | zero => exact absurd HA.out (by simp [reredosref01_Int.l0])
          | succ k2 =>
            have H := HA.out
            clear HA
            simp only [reredosref01_Int.l0] at H
            replace H := Option.bind_eq_some_iff.mp H
            obtain ⟨t294, A120, H⟩ := H
            replace H : (if x5_2 < (t294.size : Int) then ((reredosref01_size.f a0).bind fun t295 => (if 0 ≤ x5_2 then (if x5_2 < (t295.size : Int) then ((reredosref01_low.f a0).bind fun t296 => (if t296 = true then (reredosref01_Int.l0 k2 a0 (wrap64 ((wrap64 (10 * x4_2)) - (((bt t295 x5_2) - 48) % 256))) (wrap64 (x5_2 + 1))) else (reredosref01_Int.l0 k2 a0 (wrap64 ((wrap64 (10 * x4_2)) + (((bt t295 x5_2) - 48) % 256))) (wrap64 (x5_2 + 1))))) else (none)) else (none))) else (some (x4_2, true))) = some (r1, r2) := H
            have A12 := Aside0.mk A120
            clear A120
            by_cases c13 : x5_2 < (t294.size : Int)
            · rw [if_pos c13] at H
              have c13b0 : decide (x5_2 < (t294.size : Int)) = true := decide_eq_true c13
              clear c13
              replace H := Option.bind_eq_some_iff.mp H
              obtain ⟨t295, A140, H⟩ := H
              replace H : (if 0 ≤ x5_2 then (if x5_2 < (t295.size : Int) then ((reredosref01_low.f a0).bind fun t296 => (if t296 = true then (reredosref01_Int.l0 k2 a0 (wrap64 ((wrap64 (10 * x4_2)) - (((bt t295 x5_2) - 48) % 256))) (wrap64 (x5_2 + 1))) else (reredosref01_Int.l0 k2 a0 (wrap64 ((wrap64 (10 * x4_2)) + (((bt t295 x5_2) - 48) % 256))) (wrap64 (x5_2 + 1))))) else (none)) else (none)) = some (r1, r2) := H
              have A14 := Aside0.mk A140
              clear A140
              by_cases c15 : 0 ≤ x5_2
              · rw [if_pos c15] at H
                have c15b0 : decide (0 ≤ x5_2) = true := decide_eq_true c15
                clear c15
                by_cases c16 : x5_2 < (t295.size : Int)
                · rw [if_pos c16] at H
                  have c16b0 : decide (x5_2 < (t295.size : Int)) = true := decide_eq_true c16
                  clear c16
                  replace H := Option.bind_eq_some_iff.mp H
                  obtain ⟨t296, A180, H⟩ := H
                  replace H : (if t296 = true then (reredosref01_Int.l0 k2 a0 (wrap64 ((wrap64 (10 * x4_2)) - (((bt t295 x5_2) - 48) % 256))) (wrap64 (x5_2 + 1))) else (reredosref01_Int.l0 k2 a0 (wrap64 ((wrap64 (10 * x4_2)) + (((bt t295 x5_2) - 48) % 256))) (wrap64 (x5_2 + 1)))) = some (r1, r2) := H
                  have A18 := Aside0.mk A180
                  clear A180
                  by_cases c19 : t296 = true
                  · subst c19
                    have H1 : (reredosref01_Int.l0 k2 a0 (wrap64 ((wrap64 (10 * x4_2)) - (((bt t295 x5_2) - 48) % 256))) (wrap64 (x5_2 + 1))) = some (r1, r2) := by rw [if_pos rfl] at H; exact H
                    clear H
                    have H := H1
                    clear H1
                    have H' := Aside0.mk H
                    clear H
                    go_wp2_with (first | ((with_reducible refine gate_callee (f := 104) rfl ?_); refine goesL_ (some 22) rfl rfl Tryd.func104 (by kernel_rfl) rfl #[.string a0] rfl Ga_ ?_; (with_reducible refine (reredosref01_size.calls a0 t294 _ A12.out).mono ?_); rintro e w' ⟨rfl, ⟨nd, rfl⟩⟩; refine ⟨_, rfl, ?_⟩) | ((with_reducible refine gate_callee (f := 104) rfl ?_); refine goesL_ (some 28) rfl rfl Tryd.func104 (by kernel_rfl) rfl #[.string a0] rfl Ga_ ?_; (with_reducible refine (reredosref01_size.calls a0 t295 _ A14.out).mono ?_); rintro e w' ⟨rfl, ⟨nd, rfl⟩⟩; refine ⟨_, rfl, ?_⟩; have p17 : 0 ≤ (x5_2 : Int) := of_decide_eq_true As_; have q17 : x5_2 < (t295.size : Int) := of_decide_eq_true As_; have hx17 := bt_at t295 x5_2; replace p17 := eq_true p17; replace q17 := eq_true q17) | ((with_reducible refine gate_callee (f := 105) rfl ?_); refine goesL_ (some 34) rfl rfl Tryd.func105 (by kernel_rfl) rfl #[.string a0] rfl Ga_ ?_; (with_reducible refine (reredosref01_low.calls a0 true _ A18.out).mono ?_); rintro e w' ⟨rfl, ⟨nd, rfl⟩⟩; refine ⟨_, rfl, ?_⟩))
                    go_roundg k2
                    case measure => have := HJ1.out; have := HK2.out; omega
                    case rel => exact ⟨(wrap64 ((wrap64 (10 * x4_2)) - (((bt t295 x5_2) - 48) % 256))), (wrap64 (x5_2 + 1)), (by first | rfl | (simp; done) | (simp [*]; done)), (by first | rfl | (simp; done) | (simp [*]; done)), H', ⟨by have := HJ1.out; have := HK2.out; omega⟩, ⟨by repeat (first | (with_reducible first | exact HB.out | apply below_alloc | apply pw_below_drewN | apply below_drew1) | exact HB.out)⟩⟩
                  · replace c19 := Bool.eq_false_iff.mpr c19
                    subst c19
                    have H1 : (reredosref01_Int.l0 k2 a0 (wrap64 ((wrap64 (10 * x4_2)) + (((bt t295 x5_2) - 48) % 256))) (wrap64 (x5_2 + 1))) = some (r1, r2) := by rw [if_neg (show ¬ (false = true) by decide)] at H; exact H
                    clear H
                    have H := H1
                    clear H1
                    have H' := Aside0.mk H
                    clear H
                    go_wp2_with (first | ((with_reducible refine gate_callee (f := 104) rfl ?_); refine goesL_ (some 22) rfl rfl Tryd.func104 (by kernel_rfl) rfl #[.string a0] rfl Ga_ ?_; (with_reducible refine (reredosref01_size.calls a0 t294 _ A12.out).mono ?_); rintro e w' ⟨rfl, ⟨nd, rfl⟩⟩; refine ⟨_, rfl, ?_⟩) | ((with_reducible refine gate_callee (f := 104) rfl ?_); refine goesL_ (some 28) rfl rfl Tryd.func104 (by kernel_rfl) rfl #[.string a0] rfl Ga_ ?_; (with_reducible refine (reredosref01_size.calls a0 t295 _ A14.out).mono ?_); rintro e w' ⟨rfl, ⟨nd, rfl⟩⟩; refine ⟨_, rfl, ?_⟩; have p17 : 0 ≤ (x5_2 : Int) := of_decide_eq_true As_; have q17 : x5_2 < (t295.size : Int) := of_decide_eq_true As_; have hx17 := bt_at t295 x5_2; replace p17 := eq_true p17; replace q17 := eq_true q17) | ((with_reducible refine gate_callee (f := 105) rfl ?_); refine goesL_ (some 34) rfl rfl Tryd.func105 (by kernel_rfl) rfl #[.string a0] rfl Ga_ ?_; (with_reducible refine (reredosref01_low.calls a0 false _ A18.out).mono ?_); rintro e w' ⟨rfl, ⟨nd, rfl⟩⟩; refine ⟨_, rfl, ?_⟩))
                    go_roundg k2
                    case measure => have := HJ1.out; have := HK2.out; omega
                    case rel => exact ⟨(wrap64 ((wrap64 (10 * x4_2)) + (((bt t295 x5_2) - 48) % 256))), (wrap64 (x5_2 + 1)), (by first | rfl | (simp; done) | (simp [*]; done)), (by first | rfl | (simp; done) | (simp [*]; done)), H', ⟨by have := HJ1.out; have := HK2.out; omega⟩, ⟨by repeat (first | (with_reducible first | exact HB.out | apply below_alloc | apply pw_below_drewN | apply below_drew1) | exact HB.out)⟩⟩
                · rw [if_neg c16] at H
                  exact absurd H (by simp)
              · rw [if_neg c15] at H
                exact absurd H (by simp)
            · rw [if_neg c13] at H
              have c13b0 : decide (x5_2 < (t294.size : Int)) = false := decide_eq_false c13
              clear c13
              simp only [Option.some.injEq, Prod.mk.injEq] at H
              obtain ⟨rfl, rfl⟩ := H
              go_wp2_with (first | ((with_reducible refine gate_callee (f := 104) rfl ?_); refine goesL_ (some 22) rfl rfl Tryd.func104 (by kernel_rfl) rfl #[.string a0] rfl Ga_ ?_; (with_reducible refine (reredosref01_size.calls a0 t294 _ A12.out).mono ?_); rintro e w' ⟨rfl, ⟨nd, rfl⟩⟩; refine ⟨_, rfl, ?_⟩))
              go_ret2
              exact ⟨by first | rfl | (simp [errW_none, errW_some] <;> rfl) | (simp [*, errW_none, errW_some] <;> rfl), by repeat (first | (with_reducible first | exact HB.out | apply below_alloc | apply pw_below_drewN | apply below_drew1) | exact HB.out)⟩
/-! ### reredosref05_floor: function 106 -/
def reredosref05_floor.f (a0 : Int) : Option (Int) := if a0 < 0 then (if (Int.tmod a0 256) = 0 then (some (wrap64 (Int.tdiv a0 256))) else (some (wrap64 ((wrap64 (Int.tdiv a0 256)) - 1)))) else (some (wrap64 (Int.tdiv a0 256)))
set_option maxHeartbeats 8000000 in
set_option maxRecDepth 100000 in
theorem reredosref05_floor.calls (a0 : Int) (r : Int) (w : World) (h : reredosref05_floor.f a0 = some r) :
    Calls Tryd.prog 106 #[.int .i64 a0] w fun e w' => e = .returned (.int .i64 r) ∧ Drawn0 w w' := by
  have H : (if a0 < 0 then (if (Int.tmod a0 256) = 0 then (some (wrap64 (Int.tdiv a0 256))) else (some (wrap64 ((wrap64 (Int.tdiv a0 256)) - 1)))) else (some (wrap64 (Int.tdiv a0 256)))) = some r := h
  clear h
  by_cases c2 : a0 < 0
  · rw [if_pos c2] at H
    have c2b0 : decide (a0 < 0) = true := decide_eq_true c2
    clear c2
    by_cases c3 : (Int.tmod a0 256) = 0
    · rw [if_pos c3] at H
      have c3b0 : ((Int.tmod a0 256) == 0) = true := beq_iff_eq.mpr c3
      have c3b1 : ((Int.tmod a0 256) != 0) = false := bne_eq_false_iff_eq.mpr c3
      clear c3
      obtain rfl := Option.some.inj H
      go_enter Tryd.func106, Tryd.ntmps106
      go_wp2
      go_ret
      exact ⟨by first | rfl | (simp; done) | (simp [*]; done), by repeat (first | exact Drawn0.refl _ | apply Drawn0.step)⟩
    · rw [if_neg c3] at H
      have c3b0 : ((Int.tmod a0 256) == 0) = false := beq_eq_false_iff_ne.mpr c3
      have c3b1 : ((Int.tmod a0 256) != 0) = true := bne_iff_ne.mpr c3
      obtain rfl := Option.some.inj H
      go_enter Tryd.func106, Tryd.ntmps106
      go_wp2
      go_ret
      exact ⟨by first | rfl | (simp; done) | (simp [*]; done), by repeat (first | exact Drawn0.refl _ | apply Drawn0.step)⟩
  · rw [if_neg c2] at H
    have c2b0 : decide (a0 < 0) = false := decide_eq_false c2
    clear c2
    obtain rfl := Option.some.inj H
    go_enter Tryd.func106, Tryd.ntmps106
    go_wp2
    go_ret
    exact ⟨by first | rfl | (simp; done) | (simp [*]; done), by repeat (first | exact Drawn0.refl _ | apply Drawn0.step)⟩
/-! ### reredosref05_put: function 79 -/
def reredosref05_put.l0 : Nat → Int → Int → ByteArray → Int → Option (ByteArray)
  | 0, _, _, _, _ => none
  | k + 1, x0, x1, x5, x6 => if x6 < x1 then (if (Int.tmod x0 256) < 0 then ((some (([(wrap64 ((Int.tmod x0 256) + 256)) % 256] : List Int) : List Int)).bind fun y297 => (if (strOfNums y297).size + x5.size ≤ 9223372036854775807 then ((reredosref05_floor.f x0).bind fun t300 => (reredosref05_put.l0 k t300 x1 ((strOfNums y297) ++ x5) (wrap64 (x6 + 1)))) else (none))) else ((some (([(Int.tmod x0 256) % 256] : List Int) : List Int)).bind fun y301 => (if (strOfNums y301).size + x5.size ≤ 9223372036854775807 then ((reredosref05_floor.f x0).bind fun t304 => (reredosref05_put.l0 k t304 x1 ((strOfNums y301) ++ x5) (wrap64 (x6 + 1)))) else (none)))) else (some x5)
def reredosref05_put.f (k : Nat) (a0 : Int) (a1 : Int) : Option (ByteArray) := reredosref05_put.l0 k a0 a1 (⟨#[]⟩ : ByteArray) 0
theorem reredosref05_put.mono_l : ∀ k, (∀ y0 y1 y2 y3, LeO (reredosref05_put.l0 k y0 y1 y2 y3) (reredosref05_put.l0 (k + 1) y0 y1 y2 y3))
  | 0 => fun _ _ _ _ r h => by simp [reredosref05_put.l0] at h
  | k + 1 => by
    have ih0 := reredosref05_put.mono_l k
    · intro y0 y1 y2 y3
      unfold reredosref05_put.l0
      repeat' first
      | (with_reducible exact ih0 _ _ _ _)
      | (with_reducible exact LeO.refl _)
      | (with_reducible exact LeO.none _)
      | (with_reducible refine LeO.ite ?_ ?_)
      | (with_reducible refine LeO.bind ?_ (fun _ => ?_))
      | exact ih0 _ _ _ _
      | exact LeO.none _
      | refine LeO.ite ?_ ?_
      | refine LeO.bind ?_ (fun _ => ?_)
theorem reredosref05_put.mono : ∀ a0 a1 k, LeO (reredosref05_put.f k a0 a1) (reredosref05_put.f (k + 1) a0 a1) := by
  intro a0 a1 k
  have ih0 := reredosref05_put.mono_l k
  unfold reredosref05_put.f
  repeat' first
      | (with_reducible exact ih0 _ _ _ _)
      | (with_reducible exact LeO.refl _)
      | (with_reducible exact LeO.none _)
      | (with_reducible refine LeO.ite ?_ ?_)
      | (with_reducible refine LeO.bind ?_ (fun _ => ?_))
      | exact ih0 _ _ _ _
      | exact LeO.none _
      | refine LeO.ite ?_ ?_
      | refine LeO.bind ?_ (fun _ => ?_)
set_option maxHeartbeats 8000000 in
set_option maxRecDepth 100000 in
theorem reredosref05_put.calls (k : Nat) (a0 : Int) (a1 : Int) (r : ByteArray) (w : World) (h : reredosref05_put.f k a0 a1 = some r) :
    Calls Tryd.prog 79 #[.int .i64 a0, .int .i64 a1] w fun e w' => e = .returned (.string r) ∧ Below w.heap.size w w' := by
  have HB := Aside0.mk (Below.refl w.heap.size w)
  have H : (reredosref05_put.l0 k a0 a1 (⟨#[]⟩ : ByteArray) 0) = some r := h
  clear h
  have H' := Aside0.mk H
  clear H
  go_enter Tryd.func79, Tryd.ntmps79
  go_wp2
  go_loopg [0, 5, 6] k (fun kq v0 v5 v6 w' => ∃ (x0_1 : Int) (x5_1 : ByteArray) (x6_1 : Int), v0 = .int .i64 x0_1 ∧ v5 = .string x5_1 ∧ v6 = .int .i64 x6_1 ∧ Aside0 (reredosref05_put.l0 kq x0_1 a1 x5_1 x6_1 = some r) ∧ Aside0 (kq ≤ k) ∧ Aside0 (Below w.heap.size w w'))
  case atStart => exact ⟨(a0), ((⟨#[]⟩ : ByteArray)), (0), (by first | rfl | (simp; done) | (simp [*]; done)), (by first | rfl | (simp; done) | (simp [*]; done)), (by first | rfl | (simp; done) | (simp [*]; done)), H', ⟨Nat.le_refl _⟩, ⟨by repeat (first | (with_reducible first | exact HB.out | apply below_alloc | apply pw_below_drewN | apply below_drew1) | exact HB.out)⟩⟩
  case round =>
    clear H'
    try clear p2
    obtain ⟨x0_1, x5_1, x6_1, rfl, rfl, rfl, HA, HK1, HB⟩ := hrel
    cases gk with
    | zero => exact absurd HA.out (by simp [reredosref05_put.l0])
    | succ k1 =>
      have H := HA.out
      clear HA
      simp only [reredosref05_put.l0] at H
      by_cases c3 : x6_1 < a1
      · rw [if_pos c3] at H
        have c3b0 : decide (x6_1 < a1) = true := decide_eq_true c3
        clear c3
        by_cases c4 : (Int.tmod x0_1 256) < 0
        · rw [if_pos c4] at H
          have c4b0 : decide ((Int.tmod x0_1 256) < 0) = true := decide_eq_true c4
          clear c4
          obtain ⟨y297, hy297⟩ : ∃ y_ : List Int, y_ = (([(wrap64 ((Int.tmod x0_1 256) + 256)) % 256] : List Int)) := ⟨_, rfl⟩
          replace H : (if (strOfNums y297).size + x5_1.size ≤ 9223372036854775807 then ((reredosref05_floor.f x0_1).bind fun t300 => (reredosref05_put.l0 k1 t300 a1 ((strOfNums y297) ++ x5_1) (wrap64 (x6_1 + 1)))) else (none)) = some r := by first | (rw [hy297]; with_reducible exact H) | (have H2_ := (Option.bind_some _ _).symm.trans H; rw [hy297]; with_reducible exact H2_) | (have H2_ := (Option.bind_some _ _).symm.trans H; with_reducible exact H2_) | with_reducible exact H | (rw [hy297]; exact H) | exact H
          have Ny297 := Aside0.mk hy297
          clear hy297
          by_cases c5 : (strOfNums y297).size + x5_1.size ≤ 9223372036854775807
          · rw [if_pos c5] at H
            have c5b0 := eq_true c5
            have c5b1 : decide ((strOfNums y297).size + x5_1.size ≤ 9223372036854775807) = true := decide_eq_true c5
            try have c5b2 : (9223372036854775807 < (strOfNums y297).size + x5_1.size) = False := eq_false (Nat.not_lt.2 c5)
            replace H := Option.bind_eq_some_iff.mp H
            obtain ⟨t300, A60, H⟩ := H
            replace H : (reredosref05_put.l0 k1 t300 a1 ((strOfNums y297) ++ x5_1) (wrap64 (x6_1 + 1))) = some r := H
            have A6 := Aside0.mk A60
            clear A60
            have H' := Aside0.mk H
            clear H
            go_wp2_with (first | ((with_reducible refine gate_dst (N := 21) rfl ?_); refine Kd.R_lit (Kd.int .u8) _ 5 ?hg (N := 21) ?hd (xs := ([(wrap64 ((Int.tmod x0_1 256) + 256)) % 256] : List Int)) (inner := [.int .u8 ((wrap64 ((Int.tmod x0_1 256) + 256)) % 256)]) (ok := fun _ => True) (okp := fun _ => True) ?hr ?hp (fun _ hk => hk) trivial (Below.refl _ _) (Nat.le_refl _) (by simp) ?_; (case hd => rfl); (case hg => rfl); (case hr => first | (go_simp; done) | (go_simp; rfl)); (case hp => exact (Reps.one (show Kd.M (Kd.int .u8) _ _ _ ((wrap64 ((Int.tmod x0_1 256) + 256)) % 256) [.int .u8 ((wrap64 ((Int.tmod x0_1 256) + 256)) % 256)] from rfl) (Reps.none _ _))); intro v298 w7 ho8 hb hg_ hnew_; clear hg_ hnew_; (first | rw [← Ny297.out] at ho8 | (simp only [Int.reduceToNat] at ho8; rw [← Ny297.out] at ho8)); have n0_ := Aside0.mk (Kd.R_lower ho8 (below_size Bl_)); have n1_ := Aside0.mk (below_step Bl_ hb); clear HB; have HO299 := n0_; have HB := n1_; clear n0_ n1_; clear hb ho8; have hcv9 := own_string (P := Tryd.prog) Tryd.underlying100 Tryd.underlying5 Tryd.underlying9 (Kd.own_of_R HO299.out)) | ((with_reducible refine gate_callee (f := 106) rfl ?_); refine goesL_ (some 26) rfl rfl Tryd.func106 (by kernel_rfl) rfl #[.int .i64 x0_1] rfl Ga_ ?_; (with_reducible refine (reredosref05_floor.calls x0_1 t300 _ A6.out).mono ?_); rintro e w' ⟨rfl, ⟨nd, rfl⟩⟩; refine ⟨_, rfl, ?_⟩))
            go_roundg k1
            case measure => have := HK1.out; omega
            case rel => exact ⟨(t300), ((strOfNums y297) ++ x5_1), (wrap64 (x6_1 + 1)), (by first | rfl | (simp; done) | (simp [*]; done)), (by first | rfl | (simp; done) | (simp [*]; done)), (by first | rfl | (simp; done) | (simp [*]; done)), H', ⟨by have := HK1.out; omega⟩, ⟨by repeat (first | (with_reducible first | exact HB.out | apply below_alloc | apply pw_below_drewN | apply below_drew1) | exact HB.out)⟩⟩
          · rw [if_neg c5] at H
            exact absurd H (by simp)
        · rw [if_neg c4] at H
          have c4b0 : decide ((Int.tmod x0_1 256) < 0) = false := decide_eq_false c4
          clear c4
          obtain ⟨y301, hy301⟩ : ∃ y_ : List Int, y_ = (([(Int.tmod x0_1 256) % 256] : List Int)) := ⟨_, rfl⟩
          replace H : (if (strOfNums y301).size + x5_1.size ≤ 9223372036854775807 then ((reredosref05_floor.f x0_1).bind fun t304 => (reredosref05_put.l0 k1 t304 a1 ((strOfNums y301) ++ x5_1) (wrap64 (x6_1 + 1)))) else (none)) = some r := by first | (rw [hy301]; with_reducible exact H) | (have H2_ := (Option.bind_some _ _).symm.trans H; rw [hy301]; with_reducible exact H2_) | (have H2_ := (Option.bind_some _ _).symm.trans H; with_reducible exact H2_) | with_reducible exact H | (rw [hy301]; exact H) | exact H
          have Ny301 := Aside0.mk hy301
          clear hy301
          by_cases c10 : (strOfNums y301).size + x5_1.size ≤ 9223372036854775807
          · rw [if_pos c10] at H
            have c10b0 := eq_true c10
            have c10b1 : decide ((strOfNums y301).size + x5_1.size ≤ 9223372036854775807) = true := decide_eq_true c10
            try have c10b2 : (9223372036854775807 < (strOfNums y301).size + x5_1.size) = False := eq_false (Nat.not_lt.2 c10)
            replace H := Option.bind_eq_some_iff.mp H
            obtain ⟨t304, A110, H⟩ := H
            replace H : (reredosref05_put.l0 k1 t304 a1 ((strOfNums y301) ++ x5_1) (wrap64 (x6_1 + 1))) = some r := H
            have A11 := Aside0.mk A110
            clear A110
            have H' := Aside0.mk H
            clear H
            go_wp2_with (first | ((with_reducible refine gate_dst (N := 21) rfl ?_); refine Kd.R_lit (Kd.int .u8) _ 5 ?hg (N := 21) ?hd (xs := ([(Int.tmod x0_1 256) % 256] : List Int)) (inner := [.int .u8 ((Int.tmod x0_1 256) % 256)]) (ok := fun _ => True) (okp := fun _ => True) ?hr ?hp (fun _ hk => hk) trivial (Below.refl _ _) (Nat.le_refl _) (by simp) ?_; (case hd => rfl); (case hg => rfl); (case hr => first | (go_simp; done) | (go_simp; rfl)); (case hp => exact (Reps.one (show Kd.M (Kd.int .u8) _ _ _ ((Int.tmod x0_1 256) % 256) [.int .u8 ((Int.tmod x0_1 256) % 256)] from rfl) (Reps.none _ _))); intro v302 w12 ho13 hb hg_ hnew_; clear hg_ hnew_; (first | rw [← Ny301.out] at ho13 | (simp only [Int.reduceToNat] at ho13; rw [← Ny301.out] at ho13)); have n0_ := Aside0.mk (Kd.R_lower ho13 (below_size Bl_)); have n1_ := Aside0.mk (below_step Bl_ hb); clear HB; have HO303 := n0_; have HB := n1_; clear n0_ n1_; clear hb ho13; have hcv14 := own_string (P := Tryd.prog) Tryd.underlying100 Tryd.underlying5 Tryd.underlying9 (Kd.own_of_R HO303.out)) | ((with_reducible refine gate_callee (f := 106) rfl ?_); refine goesL_ (some 26) rfl rfl Tryd.func106 (by kernel_rfl) rfl #[.int .i64 x0_1] rfl Ga_ ?_; (with_reducible refine (reredosref05_floor.calls x0_1 t304 _ A11.out).mono ?_); rintro e w' ⟨rfl, ⟨nd, rfl⟩⟩; refine ⟨_, rfl, ?_⟩))
            go_roundg k1
            case measure => have := HK1.out; omega
            case rel => exact ⟨(t304), ((strOfNums y301) ++ x5_1), (wrap64 (x6_1 + 1)), (by first | rfl | (simp; done) | (simp [*]; done)), (by first | rfl | (simp; done) | (simp [*]; done)), (by first | rfl | (simp; done) | (simp [*]; done)), H', ⟨by have := HK1.out; omega⟩, ⟨by repeat (first | (with_reducible first | exact HB.out | apply below_alloc | apply pw_below_drewN | apply below_drew1) | exact HB.out)⟩⟩
          · rw [if_neg c10] at H
            exact absurd H (by simp)
      · rw [if_neg c3] at H
        have c3b0 : decide (x6_1 < a1) = false := decide_eq_false c3
        clear c3
        obtain rfl := Option.some.inj H
        go_wp2
        go_ret
        exact ⟨by first | rfl | (simp [errW_none, errW_some] <;> rfl) | (simp [*, errW_none, errW_some] <;> rfl), by repeat (first | (with_reducible first | exact HB.out | apply below_alloc | apply pw_below_drewN | apply below_drew1) | exact HB.out)⟩

end Go.Proofs.YtfjilihppnndkaaDoor.P
