-- Written by drive.py of this claim's own session, by way of the kit's print. Lean checks it.
import Derived.Test.YtfjilihppnndkaaDoorTN1
import Derived.Test.YtfjilihppnndkaaDoorTN2
import Derived.Test.YtfjilihppnndkaaDoorTN3
namespace Go.Proofs.YtfjilihppnndkaaDoor.P
open Go.RowKit Go.Proofs.YtfjilihppnndkaaDoorW.PrintWords Go.Proofs.YtfjilihppnndkaaDoorW.PrintLast Go.Proofs.YtfjilihppnndkaaDoorW.PrintMore
attribute [local go_sem] max2_int min2_int max_two min_two max_three min_three max_four min_four   -- for this text's walks alone
set_option linter.unusedVariables false
set_option linter.unusedSimpArgs false

/-! ### reredoslaw05_TypedNarrow: function 4 -/
def reredoslaw05_TypedNarrow.j0 : Nat → Int → Bool → Int → Bool → Int → List Int → ByteArray → Int → List Int → ByteArray → Option (Bool)
  | 0, _, _, _, _, _, _, _, _, _, _ => none
  | k + 1, x2, x7, x13, x77, x338000, x338001, x338002, x356000, x356001, x356002 => if x77 = true then (some false) else (if (mx x13 1) = 0 then (none) else ((reredoslaw05_made.f x338000 x338001 x338002).bind fun bt372 => ((typed_Typed_At.f k bt372.1 bt372.2.1 bt372.2.2 (Int.tmod (wrap64 (x2)) (mx x13 1))).bind fun bt377 => ((typed_Typed_At.f k x356000 x356001 x356002 (Int.tmod (wrap64 (x2)) (mx x13 1))).bind fun bt379 => (if x7 = true then (if bt377.1 = bt379.1 then (if (bt377.2 == bt379.2) = true then (some (bt377.2 == (decide (x13 > 0)))) else (some false)) else (some false)) else (some false))))))
def reredoslaw05_TypedNarrow.f (k : Nat) (a0_0 : Int) (l0_1 : List Int) (a0_2 : ByteArray) (a1 : Int) (a2 : Int) : Option (Bool) := (reredoslaw05_shown.f).bind fun _ => ((reredoslaw05_few.f a0_0 l0_1 a0_2).bind fun t339 => (if t339 = true then ((some (([8, 16, 32, 64] : List Int) : List Int)).bind fun y340 => ((reredoslaw05_made.f a0_0 l0_1 a0_2).bind fun bt343 => (if 0 ≤ (Int.tmod a1 4) then (if (Int.tmod a1 4) < (y340.length : Int) then ((typed_Typed_To.f k bt343.1 bt343.2.1 bt343.2.2 (rd y340 (Int.tmod a1 4))).bind fun bt349 => (if bt349.2.2.2 = true then ((typed_Typed_To.f k bt349.1 bt349.2.1 bt349.2.2.1 a0_0).bind fun bt356 => ((typed_Typed_Many.f k bt349.1 bt349.2.1 bt349.2.2.1).bind fun t363 => (if bt356.2.2.2 = true then ((reredoslaw05_same.f k bt356.1 bt356.2.1 bt356.2.2.1 a0_0 l0_1 a0_2).bind fun t364 => (if t364 = true then ((reredoslaw05_made.f a0_0 l0_1 a0_2).bind fun bt365 => ((typed_Typed_Many.f k bt365.1 bt365.2.1 bt365.2.2).bind fun t370 => (if t363 = t370 then ((typed_Typed_May.f k bt349.1 bt349.2.1 bt349.2.2.1).bind fun t371 => (reredoslaw05_TypedNarrow.j0 k a2 true t363 (!t371) a0_0 l0_1 a0_2 bt349.1 bt349.2.1 bt349.2.2.1)) else (reredoslaw05_TypedNarrow.j0 k a2 true t363 true a0_0 l0_1 a0_2 bt349.1 bt349.2.1 bt349.2.2.1)))) else (reredoslaw05_TypedNarrow.j0 k a2 true t363 true a0_0 l0_1 a0_2 bt349.1 bt349.2.1 bt349.2.2.1))) else (reredoslaw05_TypedNarrow.j0 k a2 true t363 true a0_0 l0_1 a0_2 bt349.1 bt349.2.1 bt349.2.2.1)))) else (if bt349.2.2.1.toList = ([] : List UInt8) then (some (bt349.1 == 0)) else (some false)))) else (none)) else (none)))) else (some true)))
def reredoslaw05_TypedNarrow.T5 : Bool × List (List Nat × List Nat) := (true, [([], []), ([0], [0]), ([], []), ([], []), ([3], [3]), ([2, 4], [2, 4]), ([5], [5]), ([1, 6, 1], [1, 6]), ([7], [7]), ([8], [8]), ([8], [8]), ([], []), ([11, 9, 7, 0, 1, 2, 3, 4, 5, 6, 7, 8, 9, 11], [9, 11]), ([10, 12, 0, 1, 2, 3, 4, 5, 6, 7, 8, 9, 10, 11, 12], [10])])
def reredoslaw05_TypedNarrow.B5 : List Nat := [0, 1, 0, 0, 8, 28, 60, 127, 255, 511, 511, 0, 3071, 8191]
theorem reredoslaw05_TypedNarrow.tab5 : rtab .any (opsOf Tryd.f4 5) = reredoslaw05_TypedNarrow.T5 := by kernel_rfl
theorem reredoslaw05_TypedNarrow.bits5 : waitsOk reredoslaw05_TypedNarrow.T5.2 reredoslaw05_TypedNarrow.B5 = true := by kernel_rfl
set_option maxHeartbeats 8000000 in
set_option maxRecDepth 100000 in
theorem reredoslaw05_TypedNarrow.calls (k : Nat) (a0_0 : Int) (A0_1 : Option Addr) (c0_1 : Nat) (l0_1 : List Int) (a0_2 : ByteArray) (a1 : Int) (a2 : Int) (r : Bool) (w : World) (hr0_1 : Kd.C (Kd.int .i64) w A0_1 l0_1.length l0_1) (hc0_1 : l0_1.length ≤ c0_1) (h : reredoslaw05_TypedNarrow.f k a0_0 l0_1 a0_2 a1 a2 = some r) (hG : Glob w) :
    Calls Tryd.prog 4 #[.agg #[.int .i64 a0_0, .slice A0_1 l0_1.length c0_1, .string a0_2], .int .u8 a1, .int .u8 a2] w fun e w' => e = .returned (.bool r) ∧ Below w.heap.size w w' := by
  have hu33 := Tryd.underlying33
  have hu29 := Tryd.underlying29
  have HR0_1 := Aside0.mk hr0_1
  have HC0_1 := Aside0.mk hc0_1
  clear hr0_1 hc0_1
  have HB := Aside0.mk (Below.refl w.heap.size w)
  have H : ((reredoslaw05_shown.f).bind fun _ => ((reredoslaw05_few.f a0_0 l0_1 a0_2).bind fun t339 => (if t339 = true then ((some (([8, 16, 32, 64] : List Int) : List Int)).bind fun y340 => ((reredoslaw05_made.f a0_0 l0_1 a0_2).bind fun bt343 => (if 0 ≤ (Int.tmod a1 4) then (if (Int.tmod a1 4) < (y340.length : Int) then ((typed_Typed_To.f k bt343.1 bt343.2.1 bt343.2.2 (rd y340 (Int.tmod a1 4))).bind fun bt349 => (if bt349.2.2.2 = true then ((typed_Typed_To.f k bt349.1 bt349.2.1 bt349.2.2.1 a0_0).bind fun bt356 => ((typed_Typed_Many.f k bt349.1 bt349.2.1 bt349.2.2.1).bind fun t363 => (if bt356.2.2.2 = true then ((reredoslaw05_same.f k bt356.1 bt356.2.1 bt356.2.2.1 a0_0 l0_1 a0_2).bind fun t364 => (if t364 = true then ((reredoslaw05_made.f a0_0 l0_1 a0_2).bind fun bt365 => ((typed_Typed_Many.f k bt365.1 bt365.2.1 bt365.2.2).bind fun t370 => (if t363 = t370 then ((typed_Typed_May.f k bt349.1 bt349.2.1 bt349.2.2.1).bind fun t371 => (reredoslaw05_TypedNarrow.j0 k a2 true t363 (!t371) a0_0 l0_1 a0_2 bt349.1 bt349.2.1 bt349.2.2.1)) else (reredoslaw05_TypedNarrow.j0 k a2 true t363 true a0_0 l0_1 a0_2 bt349.1 bt349.2.1 bt349.2.2.1)))) else (reredoslaw05_TypedNarrow.j0 k a2 true t363 true a0_0 l0_1 a0_2 bt349.1 bt349.2.1 bt349.2.2.1))) else (reredoslaw05_TypedNarrow.j0 k a2 true t363 true a0_0 l0_1 a0_2 bt349.1 bt349.2.1 bt349.2.2.1)))) else (if bt349.2.2.1.toList = ([] : List UInt8) then (some (bt349.1 == 0)) else (some false)))) else (none)) else (none)))) else (some true)))) = some r := h
  clear h
  obtain ⟨cst_, A4, H⟩ := bnd_ H
  try dsimp -simprocs only at H
  obtain rfl := Option.some.inj A4.out
  obtain ⟨t339, A5, H⟩ := bnd_ H
  try dsimp -simprocs only at H
  by_cases c6 : t339 = true
  · subst c6
    have H1 : ((some (([8, 16, 32, 64] : List Int) : List Int)).bind fun y340 => ((reredoslaw05_made.f a0_0 l0_1 a0_2).bind fun bt343 => (if 0 ≤ (Int.tmod a1 4) then (if (Int.tmod a1 4) < (y340.length : Int) then ((typed_Typed_To.f k bt343.1 bt343.2.1 bt343.2.2 (rd y340 (Int.tmod a1 4))).bind fun bt349 => (if bt349.2.2.2 = true then ((typed_Typed_To.f k bt349.1 bt349.2.1 bt349.2.2.1 a0_0).bind fun bt356 => ((typed_Typed_Many.f k bt349.1 bt349.2.1 bt349.2.2.1).bind fun t363 => (if bt356.2.2.2 = true then ((reredoslaw05_same.f k bt356.1 bt356.2.1 bt356.2.2.1 a0_0 l0_1 a0_2).bind fun t364 => (if t364 = true then ((reredoslaw05_made.f a0_0 l0_1 a0_2).bind fun bt365 => ((typed_Typed_Many.f k bt365.1 bt365.2.1 bt365.2.2).bind fun t370 => (if t363 = t370 then ((typed_Typed_May.f k bt349.1 bt349.2.1 bt349.2.2.1).bind fun t371 => (reredoslaw05_TypedNarrow.j0 k a2 true t363 (!t371) a0_0 l0_1 a0_2 bt349.1 bt349.2.1 bt349.2.2.1)) else (reredoslaw05_TypedNarrow.j0 k a2 true t363 true a0_0 l0_1 a0_2 bt349.1 bt349.2.1 bt349.2.2.1)))) else (reredoslaw05_TypedNarrow.j0 k a2 true t363 true a0_0 l0_1 a0_2 bt349.1 bt349.2.1 bt349.2.2.1))) else (reredoslaw05_TypedNarrow.j0 k a2 true t363 true a0_0 l0_1 a0_2 bt349.1 bt349.2.1 bt349.2.2.1)))) else (if bt349.2.2.1.toList = ([] : List UInt8) then (some (bt349.1 == 0)) else (some false)))) else (none)) else (none)))) = some r := by rw [if_pos rfl] at H; exact H
    clear H
    have H := H1
    clear H1
    obtain ⟨y340, hy340⟩ : ∃ y_ : List Int, y_ = (([8, 16, 32, 64] : List Int)) := ⟨_, rfl⟩
    replace H : ((reredoslaw05_made.f a0_0 l0_1 a0_2).bind fun bt343 => (if 0 ≤ (Int.tmod a1 4) then (if (Int.tmod a1 4) < (y340.length : Int) then ((typed_Typed_To.f k bt343.1 bt343.2.1 bt343.2.2 (rd y340 (Int.tmod a1 4))).bind fun bt349 => (if bt349.2.2.2 = true then ((typed_Typed_To.f k bt349.1 bt349.2.1 bt349.2.2.1 a0_0).bind fun bt356 => ((typed_Typed_Many.f k bt349.1 bt349.2.1 bt349.2.2.1).bind fun t363 => (if bt356.2.2.2 = true then ((reredoslaw05_same.f k bt356.1 bt356.2.1 bt356.2.2.1 a0_0 l0_1 a0_2).bind fun t364 => (if t364 = true then ((reredoslaw05_made.f a0_0 l0_1 a0_2).bind fun bt365 => ((typed_Typed_Many.f k bt365.1 bt365.2.1 bt365.2.2).bind fun t370 => (if t363 = t370 then ((typed_Typed_May.f k bt349.1 bt349.2.1 bt349.2.2.1).bind fun t371 => (reredoslaw05_TypedNarrow.j0 k a2 true t363 (!t371) a0_0 l0_1 a0_2 bt349.1 bt349.2.1 bt349.2.2.1)) else (reredoslaw05_TypedNarrow.j0 k a2 true t363 true a0_0 l0_1 a0_2 bt349.1 bt349.2.1 bt349.2.2.1)))) else (reredoslaw05_TypedNarrow.j0 k a2 true t363 true a0_0 l0_1 a0_2 bt349.1 bt349.2.1 bt349.2.2.1))) else (reredoslaw05_TypedNarrow.j0 k a2 true t363 true a0_0 l0_1 a0_2 bt349.1 bt349.2.1 bt349.2.2.1)))) else (if bt349.2.2.1.toList = ([] : List UInt8) then (some (bt349.1 == 0)) else (some false)))) else (none)) else (none))) = some r := by first | (rw [hy340]; with_reducible exact H) | (have H2_ := (Option.bind_some _ _).symm.trans H; rw [hy340]; with_reducible exact H2_) | (have H2_ := (Option.bind_some _ _).symm.trans H; with_reducible exact H2_) | with_reducible exact H | (rw [hy340]; exact H) | exact H
    have Ny340 := Aside0.mk hy340
    clear hy340
    obtain ⟨⟨t343, t344, t347⟩, A7, H⟩ := bnd_ H
    try dsimp -simprocs only at H
    obtain ⟨ji8, hji8⟩ : ∃ j_ : Int, (Int.tmod a1 4) = j_ := ⟨_, rfl⟩
    replace H : (if 0 ≤ (ji8) then (if (ji8) < (y340.length : Int) then ((typed_Typed_To.f k t343 t344 t347 (rd y340 (ji8))).bind fun bt349 => (if bt349.2.2.2 = true then ((typed_Typed_To.f k bt349.1 bt349.2.1 bt349.2.2.1 a0_0).bind fun bt356 => ((typed_Typed_Many.f k bt349.1 bt349.2.1 bt349.2.2.1).bind fun t363 => (if bt356.2.2.2 = true then ((reredoslaw05_same.f k bt356.1 bt356.2.1 bt356.2.2.1 a0_0 l0_1 a0_2).bind fun t364 => (if t364 = true then ((reredoslaw05_made.f a0_0 l0_1 a0_2).bind fun bt365 => ((typed_Typed_Many.f k bt365.1 bt365.2.1 bt365.2.2).bind fun t370 => (if t363 = t370 then ((typed_Typed_May.f k bt349.1 bt349.2.1 bt349.2.2.1).bind fun t371 => (reredoslaw05_TypedNarrow.j0 k a2 true t363 (!t371) a0_0 l0_1 a0_2 bt349.1 bt349.2.1 bt349.2.2.1)) else (reredoslaw05_TypedNarrow.j0 k a2 true t363 true a0_0 l0_1 a0_2 bt349.1 bt349.2.1 bt349.2.2.1)))) else (reredoslaw05_TypedNarrow.j0 k a2 true t363 true a0_0 l0_1 a0_2 bt349.1 bt349.2.1 bt349.2.2.1))) else (reredoslaw05_TypedNarrow.j0 k a2 true t363 true a0_0 l0_1 a0_2 bt349.1 bt349.2.1 bt349.2.2.1)))) else (if bt349.2.2.1.toList = ([] : List UInt8) then (some (bt349.1 == 0)) else (some false)))) else (none)) else (none)) = some r := by first | (rw [hji8] at H; exact H) | (simp only [hji8] at H ⊢; exact H)
    (try rw [hji8] at A4)
    (try rw [hji8] at A5)
    (try rw [hji8] at A7)
    by_cases c9 : 0 ≤ (ji8)
    · rw [if_pos c9] at H
      have c9b0 : decide (0 ≤ (ji8)) = true := decide_eq_true c9
      clear c9
      by_cases c10 : (ji8) < (y340.length : Int)
      · rw [if_pos c10] at H
        have c10b0 : decide ((ji8) < (y340.length : Int)) = true := decide_eq_true c10
        clear c10
        obtain ⟨⟨t349, t350, t353, t354⟩, A11, H⟩ := bnd_ H
        try dsimp -simprocs only at H
        by_cases c12 : t354 = true
        · subst c12
          have H1 : ((typed_Typed_To.f k t349 t350 t353 a0_0).bind fun bt356 => ((typed_Typed_Many.f k t349 t350 t353).bind fun t363 => (if bt356.2.2.2 = true then ((reredoslaw05_same.f k bt356.1 bt356.2.1 bt356.2.2.1 a0_0 l0_1 a0_2).bind fun t364 => (if t364 = true then ((reredoslaw05_made.f a0_0 l0_1 a0_2).bind fun bt365 => ((typed_Typed_Many.f k bt365.1 bt365.2.1 bt365.2.2).bind fun t370 => (if t363 = t370 then ((typed_Typed_May.f k t349 t350 t353).bind fun t371 => (reredoslaw05_TypedNarrow.j0 k a2 true t363 (!t371) a0_0 l0_1 a0_2 t349 t350 t353)) else (reredoslaw05_TypedNarrow.j0 k a2 true t363 true a0_0 l0_1 a0_2 t349 t350 t353)))) else (reredoslaw05_TypedNarrow.j0 k a2 true t363 true a0_0 l0_1 a0_2 t349 t350 t353))) else (reredoslaw05_TypedNarrow.j0 k a2 true t363 true a0_0 l0_1 a0_2 t349 t350 t353)))) = some r := by rw [if_pos rfl] at H; exact H
          clear H
          have H := H1
          clear H1
          obtain ⟨⟨t356, t357, t360, t361⟩, A13, H⟩ := bnd_ H
          try dsimp -simprocs only at H
          obtain ⟨t363, A14, H⟩ := bnd_ H
          try dsimp -simprocs only at H
          have HC15 := Aside0.mk H
          clear H
          go_enter Tryd.func4, Tryd.ntmps4
          try go_wp2_with (first | ((with_reducible refine gate_dst (N := 3) rfl ?_); refine bx_ 3 #[.int .i64 a0_0, .slice A0_1 l0_1.length c0_1, .string a0_2] 33 ?_; intro gb337 hg w16 hbox hb; have BK337 := Aside0.mk (hbox); have GW337 := (Bg_ hg : Aside0 (w.heap.size ≤ gb337)); have GE337 := (Bg_ hg : Aside0 (w.heap.size ≤ gb337)); replace HB := Bs_ hb; clear hb hbox hg) | ((with_reducible refine gate_callee (f := 9) rfl ?_); refine goesL_ (some 19) rfl rfl Tryd.func9 (by kernel_rfl) rfl #[] rfl Ga_ ?_; (with_reducible refine (reredoslaw05_shown.calls  true _ A4.out ?side1).mono ?_); (case side1 => first | exact hG | exact Glob.below hG Bl_); rintro e w17 ⟨rfl, hb⟩; refine ⟨_, rfl, ?_⟩; replace BK337 := kb_ BK337 hb; replace HB := Bs_ hb; (try clear hb); (try clear hb2); (try clear hk); (try clear hi); obtain ⟨hcz18_0, hcz18_1, hcz18_2⟩ := c3_ BK337; obtain ⟨hfz18_0, hfz18_1, hfz18_2⟩ := f3_ BK337) | ((with_reducible refine gate_callee (f := 14) rfl ?_); refine goesL_ (some 21) rfl rfl Tryd.func14 (by kernel_rfl) rfl #[.agg #[.int .i64 a0_0, .slice A0_1 l0_1.length c0_1, .string a0_2]] rfl Ga_ ?_; (with_reducible refine (reredoslaw05_few.calls a0_0 _ _ l0_1 a0_2 true _ ?side1 ?side2 A5.out).mono ?_); (case side1 => exact Pc_ (Kd.C_below HR0_1.out HB.out)); (case side2 => exact HC0_1.out); rintro e w19 ⟨rfl, hb⟩; refine ⟨_, rfl, ?_⟩; replace BK337 := kb_ BK337 hb; replace HB := Bs_ hb; (try clear hb); (try clear hb2); (try clear hk); (try clear hi)) | ((with_reducible refine gate_dst (N := 24) rfl ?_); refine Kd.R_lit (Kd.int .i64) _ 3 ?hg (N := 24) ?hd (xs := ([8, 16, 32, 64] : List Int)) (inner := [.int .i64 8, .int .i64 16, .int .i64 32, .int .i64 64]) (ok := fun _ => True) (okp := fun _ => True) ?hr ?hp (fun _ hk => hk) trivial (Below.refl _ _) (Nat.le_refl _) (by simp) ?_; (case hd => rfl); (case hg => rfl); (case hr => first | (go_simp; done) | (go_simp; rfl)); (case hp => exact (Reps.one (show Kd.M (Kd.int .i64) _ _ _ 8 [.int .i64 8] from rfl) (Reps.one (show Kd.M (Kd.int .i64) _ _ _ 16 [.int .i64 16] from rfl) (Reps.one (show Kd.M (Kd.int .i64) _ _ _ 32 [.int .i64 32] from rfl) (Reps.one (show Kd.M (Kd.int .i64) _ _ _ 64 [.int .i64 64] from rfl) (Reps.none _ _)))))); intro v341 w20 ho21 hb hg_ hnew_; clear hg_ hnew_; (first | rw [← Ny340.out] at ho21 | (simp only [Int.reduceToNat] at ho21; rw [← Ny340.out] at ho21)); have HO342 := Aside0.mk (Kd.R_lower ho21 Bz_); replace BK337 := kb_ BK337 hb; replace HB := Bs_ hb; clear hb ho21))
          replace HO342 := Aside0.mk (Kd.R_drew HO342.out)
          replace BK337 := Aside0.mk (blk_drew BK337.out)
          replace HB := Aside0.mk (below_drew1 HB.out)
          obtain ⟨Ao23, co23, eo23⟩ := Kd.R_slice HO342.out
          (first | subst eo23 | (injection eo23 with f1_ f2_ f3_; have f4_ := f1_.symm; have f5_ := f3_.symm; clear f1_ f2_ f3_; subst f4_; subst f5_))
          have p348 : 0 ≤ ((ji8) : Int) := of_decide_eq_true As_
          have q348 : (ji8) < (y340.length : Int) := of_decide_eq_true As_
          obtain ⟨ad348, e348, hx348_0⟩ := Kd.at_int (Kd.R_reads' HO342.out).2.2 (ji8) p348 q348
          cases e348
          replace p348 := eq_true p348
          replace q348 := eq_true q348
          refine start_ (n := 14) (S := fun w' => w'.cell? ⟨gb337, 0, none⟩ = some (.int .i64 a0_0) ∧ w'.cell? ⟨gb337, 1, none⟩ = some (.slice A0_1 l0_1.length c0_1) ∧ w'.cell? ⟨gb337, 2, none⟩ = some (.string a0_2) ∧ w'.cell? (ad348.add ((ji8)).toNat) = some (.int .i64 (rd y340 (ji8)))) (ds := []) #[false, false, false, false, false, false, false, false, false, false, false, false, false, false] (by kernel_rfl) rfl rfl ⟨(blk_cell BK337.out 0).trans rfl, (blk_cell BK337.out 1).trans rfl, (blk_cell BK337.out 2).trans rfl, hx348_0⟩ (fun hHeld => ?_); refine with_tabW reredoslaw05_TypedNarrow.tab5 reredoslaw05_TypedNarrow.bits5 (fun HT_ HW_ => ?_)
          generalize w20.drew = w22 at HO342 BK337 HB hx348_0 hHeld ⊢
          refine pu_ 2 (some 28) HT_ #[false, false, true, false, false, false, false, false, false, false, false, false, false, false] ?_
          refine pu_ 3 (some 29) HT_ #[false, false, true, true, false, false, false, false, false, false, false, false, false, false] ?_
          refine pu_ 4 (some 30) HT_ #[false, false, true, true, true, false, false, false, false, false, false, false, false, false] ?_
          refine pu_ 5 (some 31) HT_ #[false, false, true, true, true, true, false, false, false, false, false, false, false, false] ?_
          refine take_ (i := 0) (N := some 26) (v := ?_) (a' := ?_) #[true, false, true, true, true, true, false, false, false, false, false, false, false, false] rfl rfl (take_ofW HT_.out HW_.out (by kernel_rfl)) (fun _ _ _ h => h) (Or.inl ⟨by rfl, ?_⟩) hHeld ?_ ?_
          rotate_left
          · rintro w' ⟨s0, s1, s2, s3⟩
            go_simp
            with_reducible rfl
          rotate_left
          · simp only [Act.put, List.setIfInBounds_toArray, List.set_cons_zero, List.set_cons_succ, i64_w, i32_w]
            rfl
          refine take_ (i := 6) (N := some 32) (v := ?_) (a' := ?_) #[true, false, true, true, true, true, true, false, false, false, false, false, false, false] rfl rfl (take_ofW HT_.out HW_.out (by kernel_rfl)) (fun _ _ _ h => h) (Or.inl ⟨by rfl, ?_⟩) hHeld ?_ ?_
          rotate_left
          · rintro w' ⟨s0, s1, s2, s3⟩
            go_simp
            with_reducible rfl
          rotate_left
          · simp only [Act.put, List.setIfInBounds_toArray, List.set_cons_zero, List.set_cons_succ, i64_w, i32_w]
            rfl
          refine join_ (σ := Value × Value × Nat) 2 #[true, true, true, true, true, true, true, true, true, true, true, true, false, false] (fun s_ => [(27, .agg #[.int .i64 t343, s_.1, .string t347]), (33, .tuple #[.agg #[.int .i64 t349, s_.2.1, .string t353], .bool true]), (9, .pointer (some ⟨s_.2.2, 0, none⟩)), (25, .tuple #[.agg #[.int .i64 t349, s_.2.1, .string t353], .bool true]), (34, .agg #[.int .i64 t349, s_.2.1, .string t353]), (35, .bool true)]) (fun s_ w' => (w'.cell? ⟨gb337, 0, none⟩ = some (.int .i64 a0_0) ∧ w'.cell? ⟨gb337, 1, none⟩ = some (.slice A0_1 l0_1.length c0_1) ∧ w'.cell? ⟨gb337, 2, none⟩ = some (.string a0_2) ∧ w'.cell? (ad348.add ((ji8)).toNat) = some (.int .i64 (rd y340 (ji8)))) ∧ (Kd.R (Kd.int .i64) 3 w' w.heap.size (fun k_ => some k_ ≠ (s_.2.1 : Value).ownBlock) (.slice (some ad348) y340.length co23) y340) ∧ (Kd.V (Kd.int .i64) 3 w' w.heap.size (fun k_ => some k_ ≠ (.slice (some ad348) y340.length co23 : Value).ownBlock ∧ some k_ ≠ (s_.2.1 : Value).ownBlock ∧ k_ ≠ gb337 ∧ k_ ≠ s_.2.2) s_.1 t344) ∧ (Kd.R (Kd.int .i64) 3 w' w.heap.size (fun k_ => some k_ ≠ (.slice (some ad348) y340.length co23 : Value).ownBlock) s_.2.1 t350) ∧ (w'.heap[gb337]? = some (.cells #[.int .i64 a0_0, .slice A0_1 l0_1.length c0_1, .string a0_2] 33 (0, 0))) ∧ (w'.heap[s_.2.2]? = some (.cells #[.int .i64 0, .slice none 0 0, .string (⟨#[]⟩ : ByteArray)] 29 (0, 0))) ∧ (w.heap.size ≤ s_.2.2) ∧ (w.heap.size ≤ s_.2.2) ∧ (gb337 ≠ s_.2.2) ∧ (s_.2.2 ≠ gb337) ∧ (Below w.heap.size w w')) ?_ ?_
          rotate_left
          · intro hCont
            refine two_ (i := 1) (j := 11) (Ni := some 27) (Nj := some 9) #[true, true, true, true, true, true, true, false, false, false, false, false, false, false] #[true, false, true, true, true, true, true, false, false, false, false, true, false, false] rfl rfl rfl rfl (two_of HT_.out (by kernel_rfl)) (by decide) (by decide) (fun K hK => ?_) (fun K hK => ?_)
            · skip
              refine goes_ Tryd.func15 (by kernel_rfl) rfl #[.agg #[.int .i64 a0_0, .slice A0_1 l0_1.length c0_1, .string a0_2]] (by rfl) rfl rfl Ga_ ?_
              with_reducible refine (reredoslaw05_made.calls a0_0 (fun k_ => k_ < w.heap.size) _ _ l0_1 a0_2 t343 t344 t347 _ ?side1 A7.out).mono ?_
              (case side1 => exact Kd.V_mk HC0_1.out (Kd.F_below (Kd.C_F (Kd.heap_int .i64) HR0_1.out) Bl_))
              rintro e w24 ⟨v345, rfl, ho0, hb⟩
              have HS3_ := (hb.cell (World.block_lt_of_cell? _ _ (hHeld.2.2.2))).trans (hHeld.2.2.2)
              refine ⟨_, rfl, ?_⟩
              have HO346 := Aside0.mk (Kd.V_lower (Kd.V_mono (ok' := fun k_ => some k_ ≠ (.slice (some ad348) y340.length co23 : Value).ownBlock ∧ k_ ≠ gb337) ho0 (fun k_ hk_ => ⟨Or.elim hk_ (fun hs_ => fun e_ => Nat.not_le.2 hs_ (Kd.R_base HO342.out k_ e_.symm)) (fun hn_ => (Kd.fresh' (Kd.R_lt (Pr_ HO342.out)) k_ hn_)), Or.elim hk_ (fun hs_ => fun e_ => Nat.not_le.2 hs_ (by rw [e_]; exact GW337.out)) (fun hn_ => (Kd.freshB (g := gb337) (o := .cells #[.int .i64 a0_0, .slice A0_1 l0_1.length c0_1, .string a0_2] 33 (0, 0)) (Bk_ BK337.out) k_ hn_))⟩)) Bz_)
              replace HO342 := Aside0.mk (Kd.R_below (Pr_ HO342.out) hb)
              replace BK337 := kb_ BK337 hb
              replace HB := Bs_ hb
              (try clear hb)
              (try clear hb2)
              (try clear hk)
              (try clear hi)
              (try clear ho0)
              obtain ⟨Ao25, co25, eo25⟩ := Kd.V_slice HO346.out
              (first | subst eo25 | (injection eo25 with f1_ f2_ f3_; have f4_ := f1_.symm; have f5_ := f3_.symm; clear f1_ f2_ f3_; subst f4_; subst f5_))
              refine hK.out _ _ ⟨(blk_cell BK337.out 0).trans rfl, (blk_cell BK337.out 1).trans rfl, (blk_cell BK337.out 2).trans rfl, HS3_⟩ (fun hHeld => ?_)
              clear hK K
              refine norm_ (a' := ?_) ?_ ?_
              rotate_left
              · show Act.put _ (some 27) _ = _
                simp only [Act.put, List.setIfInBounds_toArray, List.set_cons_zero, List.set_cons_succ, i64_w, i32_w]
                rfl
              refine two_ (i := 7) (j := 11) (Ni := some 33) (Nj := some 9) #[true, true, true, true, true, true, true, true, false, false, false, false, false, false] #[true, true, true, true, true, true, true, false, false, false, false, true, false, false] rfl rfl rfl rfl (two_of HT_.out (by kernel_rfl)) (by decide) (by decide) (fun K hK => ?_) (fun K hK => ?_)
              · skip
                refine goes_ Tryd.func16 (by kernel_rfl) rfl #[.agg #[.int .i64 t343, .slice Ao25 t344.length co25, .string t347], .int .i64 (rd y340 (ji8))] (by rfl) rfl rfl (by (try simp only [List.map_toArray, List.map_cons, List.map_nil]); first | done | (simp only [hji8]; rfl) | rfl | (simp only [List.length_drop, List.length_take]; rfl)) ?_
                with_reducible refine (typed_Typed_To.calls k t343 _ _ t344 t347 (rd y340 (ji8)) t349 t350 t353 true _ ?side1 ?side2 A11.out).mono ?_
                (case side1 => exact Pc_ ((Kd.V_reads' HO346.out).2.2))
                (case side2 => exact (Kd.V_reads' HO346.out).2.1)
                rintro e w26 ⟨v351, rfl, ho0, hb⟩
                have HS3_ := (hb.cell (World.block_lt_of_cell? _ _ (hHeld.2.2.2))).trans (hHeld.2.2.2)
                refine ⟨_, rfl, ?_⟩
                replace HO346 := Aside0.mk (Kd.V_elder' (Pv_ HO346.out) (Kd.R_base ho0) hb)
                have HO352 := Aside0.mk (Kd.R_lower (Kd.R_new' ho0 (Kd.R_lt (Pr_ HO342.out))) Bz_)
                replace HO342 := Aside0.mk (Kd.R_elder' (Pr_ HO342.out) (Kd.R_base ho0) hb)
                replace BK337 := kb_ BK337 hb
                replace HB := Bs_ hb
                (try clear hb)
                (try clear hb2)
                (try clear hk)
                (try clear hi)
                (try clear ho0)
                refine hK.out _ _ ⟨(blk_cell BK337.out 0).trans rfl, (blk_cell BK337.out 1).trans rfl, (blk_cell BK337.out 2).trans rfl, HS3_⟩ (fun hHeld => ?_)
                clear hK K
                refine norm_ (a' := ?_) ?_ ?_
                rotate_left
                · show Act.put _ (some 33) _ = _
                  simp only [Act.put, List.setIfInBounds_toArray, List.set_cons_zero, List.set_cons_succ, i64_w, i32_w]
                  rfl
                refine pu_ 8 (some 25) HT_ #[true, true, true, true, true, true, true, true, true, false, false, false, false, false] ?_
                refine pu_ 9 (some 34) HT_ #[true, true, true, true, true, true, true, true, true, true, false, false, false, false] ?_
                refine pu_ 10 (some 35) HT_ #[true, true, true, true, true, true, true, true, true, true, true, false, false, false] ?_
                refine one_ (i := 11) (N := some 9) #[true, true, true, true, true, true, true, true, true, true, true, true, false, false] rfl rfl (one_of HT_.out (by kernel_rfl)) (by decide) (fun K hK => ?_)
                refine box_step ?hg (N := 9) ?hd (cs := #[.int .i64 0, .slice none 0 0, .string (⟨#[]⟩ : ByteArray)]) (t := 29) ?hr ?_; (case hd => rfl); (case hg => rfl); (case hr => first | (go_simp; done) | (go_simp; rfl))
                intro gb355 hg w27 hbox hb
                have HS3_ := (hb.cell (World.block_lt_of_cell? _ _ (hHeld.2.2.2))).trans (hHeld.2.2.2)
                replace HO342 := Aside0.mk (Kd.R_below (Pr_ HO342.out) hb)
                replace HO346 := Aside0.mk (Kd.V_below (Kd.V_elderB (Pv_ HO346.out) gb355 (Nat.le_of_eq hg.symm)) hb)
                replace HO352 := Aside0.mk (Kd.R_below (Pr_ HO352.out) hb)
                have BK355 := Aside0.mk (hbox)
                have GW355 := (Bg_ hg : Aside0 (w.heap.size ≤ gb355))
                have GE355 := (Bg_ hg : Aside0 (w.heap.size ≤ gb355))
                replace HB := Bs_ hb
                have NB337_355 := nl_ hg BK337
                have NB355_337 := ng_ hg BK337
                replace BK337 := kb_ BK337 hb
                clear hb hbox hg
                refine hK.out _ _ ⟨(blk_cell BK337.out 0).trans rfl, (blk_cell BK337.out 1).trans rfl, (blk_cell BK337.out 2).trans rfl, HS3_⟩ (fun hHeld => ?_)
                clear hK K
                refine norm_ (a' := ?_) ?_ ?_
                rotate_left
                · show Act.put _ (some 9) _ = _
                  simp only [Act.put, List.setIfInBounds_toArray, List.set_cons_zero, List.set_cons_succ, i64_w, i32_w]
                  rfl
                exact norm_ (by simp only [putAll, Act.put, List.setIfInBounds_toArray, List.set_cons_zero, List.set_cons_succ]) (hCont (.slice Ao25 t344.length co25, v351, gb355) _ ⟨hHeld, (by (with_reducible repeat (first | apply Kd.R_alloc | apply Kd.R_drewN | apply Kd.R_drew)); exact Kd.R_mono HO342.out (fun _ hk => hk.2)), (by (with_reducible repeat (first | apply Kd.V_alloc | apply Kd.V_drewN | apply Kd.V_drew)); exact Kd.V_mono HO346.out (fun _ hk => ⟨hk.1.1.1, ⟨hk.1.2, ⟨hk.1.1.2, hk.2⟩⟩⟩)), (by (with_reducible repeat (first | apply Kd.R_alloc | apply Kd.R_drewN | apply Kd.R_drew)); exact Kd.R_mono HO352.out (fun _ hk => hk.2)), (Bk_ BK337.out), (Bk_ BK355.out), GW355.out, GE355.out, NB337_355.out, NB355_337.out, Bl_⟩)
              · skip
                refine box_step ?hg (N := 9) ?hd (cs := #[.int .i64 0, .slice none 0 0, .string (⟨#[]⟩ : ByteArray)]) (t := 29) ?hr ?_; (case hd => rfl); (case hg => rfl); (case hr => first | (go_simp; done) | (go_simp; rfl))
                intro gb355 hg w25 hbox hb
                have HS3_ := (hb.cell (World.block_lt_of_cell? _ _ (hHeld.2.2.2))).trans (hHeld.2.2.2)
                replace HO342 := Aside0.mk (Kd.R_below (Pr_ HO342.out) hb)
                replace HO346 := Aside0.mk (Kd.V_below (Kd.V_elderB (Pv_ HO346.out) gb355 (Nat.le_of_eq hg.symm)) hb)
                have BK355 := Aside0.mk (hbox)
                have GW355 := (Bg_ hg : Aside0 (w.heap.size ≤ gb355))
                have GE355 := (Bg_ hg : Aside0 (w.heap.size ≤ gb355))
                replace HB := Bs_ hb
                have NB337_355 := nl_ hg BK337
                have NB355_337 := ng_ hg BK337
                replace BK337 := kb_ BK337 hb
                clear hb hbox hg
                obtain ⟨Ao26, co26, eo26⟩ := Kd.V_slice HO346.out
                (first | subst eo26 | (injection eo26 with f1_ f2_ f3_; have f4_ := f1_.symm; have f5_ := f3_.symm; clear f1_ f2_ f3_; subst f4_; subst f5_))
                refine hK.out _ _ ⟨(blk_cell BK337.out 0).trans rfl, (blk_cell BK337.out 1).trans rfl, (blk_cell BK337.out 2).trans rfl, HS3_⟩ (fun hHeld => ?_)
                clear hK K
                refine norm_ (a' := ?_) ?_ ?_
                rotate_left
                · show Act.put _ (some 9) _ = _
                  simp only [Act.put, List.setIfInBounds_toArray, List.set_cons_zero, List.set_cons_succ, i64_w, i32_w]
                  rfl
                refine one_ (i := 7) (N := some 33) #[true, true, true, true, true, true, true, true, false, false, false, true, false, false] rfl rfl (one_of HT_.out (by kernel_rfl)) (by decide) (fun K hK => ?_)
                refine goes_ Tryd.func16 (by kernel_rfl) rfl #[.agg #[.int .i64 t343, .slice Ao26 t344.length co26, .string t347], .int .i64 (rd y340 (ji8))] (by rfl) rfl rfl (by (try simp only [List.map_toArray, List.map_cons, List.map_nil]); first | done | (simp only [hji8]; rfl) | rfl | (simp only [List.length_drop, List.length_take]; rfl)) ?_
                with_reducible refine (typed_Typed_To.calls k t343 _ _ t344 t347 (rd y340 (ji8)) t349 t350 t353 true _ ?side1 ?side2 A11.out).mono ?_
                (case side1 => exact Pc_ ((Kd.V_reads' HO346.out).2.2))
                (case side2 => exact (Kd.V_reads' HO346.out).2.1)
                rintro e w27 ⟨v351, rfl, ho0, hb⟩
                have HS3_ := (hb.cell (World.block_lt_of_cell? _ _ (hHeld.2.2.2))).trans (hHeld.2.2.2)
                refine ⟨_, rfl, ?_⟩
                replace HO346 := Aside0.mk (Kd.V_elder' (Pv_ HO346.out) (Kd.R_base ho0) hb)
                have HO352 := Aside0.mk (Kd.R_lower (Kd.R_new' ho0 (Kd.R_lt (Pr_ HO342.out))) Bz_)
                replace HO342 := Aside0.mk (Kd.R_elder' (Pr_ HO342.out) (Kd.R_base ho0) hb)
                replace BK337 := kb_ BK337 hb
                replace BK355 := kb_ BK355 hb
                replace HB := Bs_ hb
                (try clear hb)
                (try clear hb2)
                (try clear hk)
                (try clear hi)
                (try clear ho0)
                refine hK.out _ _ ⟨(blk_cell BK337.out 0).trans rfl, (blk_cell BK337.out 1).trans rfl, (blk_cell BK337.out 2).trans rfl, HS3_⟩ (fun hHeld => ?_)
                clear hK K
                refine norm_ (a' := ?_) ?_ ?_
                rotate_left
                · show Act.put _ (some 33) _ = _
                  simp only [Act.put, List.setIfInBounds_toArray, List.set_cons_zero, List.set_cons_succ, i64_w, i32_w]
                  rfl
                refine pu_ 8 (some 25) HT_ #[true, true, true, true, true, true, true, true, true, false, false, true, false, false] ?_
                refine pu_ 9 (some 34) HT_ #[true, true, true, true, true, true, true, true, true, true, false, true, false, false] ?_
                refine pu_ 10 (some 35) HT_ #[true, true, true, true, true, true, true, true, true, true, true, true, false, false] ?_
                exact norm_ (by simp only [putAll, Act.put, List.setIfInBounds_toArray, List.set_cons_zero, List.set_cons_succ]) (hCont (.slice Ao26 t344.length co26, v351, gb355) _ ⟨hHeld, (by (with_reducible repeat (first | apply Kd.R_alloc | apply Kd.R_drewN | apply Kd.R_drew)); exact Kd.R_mono HO342.out (fun _ hk => hk.2)), (by (with_reducible repeat (first | apply Kd.V_alloc | apply Kd.V_drewN | apply Kd.V_drew)); exact Kd.V_mono HO346.out (fun _ hk => ⟨hk.1.1.1, ⟨hk.2, ⟨hk.1.1.2, hk.1.2⟩⟩⟩)), (by (with_reducible repeat (first | apply Kd.R_alloc | apply Kd.R_drewN | apply Kd.R_drew)); exact Kd.R_mono HO352.out (fun _ hk => hk.2)), (Bk_ BK337.out), (Bk_ BK355.out), GW355.out, GE355.out, NB337_355.out, NB355_337.out, Bl_⟩)
            · skip
              refine box_step ?hg (N := 9) ?hd (cs := #[.int .i64 0, .slice none 0 0, .string (⟨#[]⟩ : ByteArray)]) (t := 29) ?hr ?_; (case hd => rfl); (case hg => rfl); (case hr => first | (go_simp; done) | (go_simp; rfl))
              intro gb355 hg w24 hbox hb
              have HS3_ := (hb.cell (World.block_lt_of_cell? _ _ (hHeld.2.2.2))).trans (hHeld.2.2.2)
              replace HO342 := Aside0.mk (Kd.R_below (Pr_ HO342.out) hb)
              have BK355 := Aside0.mk (hbox)
              have GW355 := (Bg_ hg : Aside0 (w.heap.size ≤ gb355))
              have GE355 := (Bg_ hg : Aside0 (w.heap.size ≤ gb355))
              replace HB := Bs_ hb
              have NB337_355 := nl_ hg BK337
              have NB355_337 := ng_ hg BK337
              replace BK337 := kb_ BK337 hb
              clear hb hbox hg
              refine hK.out _ _ ⟨(blk_cell BK337.out 0).trans rfl, (blk_cell BK337.out 1).trans rfl, (blk_cell BK337.out 2).trans rfl, HS3_⟩ (fun hHeld => ?_)
              clear hK K
              refine norm_ (a' := ?_) ?_ ?_
              rotate_left
              · show Act.put _ (some 9) _ = _
                simp only [Act.put, List.setIfInBounds_toArray, List.set_cons_zero, List.set_cons_succ, i64_w, i32_w]
                rfl
              refine one_ (i := 1) (N := some 27) #[true, true, true, true, true, true, true, false, false, false, false, true, false, false] rfl rfl (one_of HT_.out (by kernel_rfl)) (by decide) (fun K hK => ?_)
              refine goes_ Tryd.func15 (by kernel_rfl) rfl #[.agg #[.int .i64 a0_0, .slice A0_1 l0_1.length c0_1, .string a0_2]] (by rfl) rfl rfl Ga_ ?_
              with_reducible refine (reredoslaw05_made.calls a0_0 (fun k_ => k_ < w.heap.size) _ _ l0_1 a0_2 t343 t344 t347 _ ?side1 A7.out).mono ?_
              (case side1 => exact Kd.V_mk HC0_1.out (Kd.F_below (Kd.C_F (Kd.heap_int .i64) HR0_1.out) Bl_))
              rintro e w25 ⟨v345, rfl, ho0, hb⟩
              have HS3_ := (hb.cell (World.block_lt_of_cell? _ _ (hHeld.2.2.2))).trans (hHeld.2.2.2)
              refine ⟨_, rfl, ?_⟩
              have HO346 := Aside0.mk (Kd.V_lower (Kd.V_mono (ok' := fun k_ => some k_ ≠ (.slice (some ad348) y340.length co23 : Value).ownBlock ∧ k_ ≠ gb337 ∧ k_ ≠ gb355) ho0 (fun k_ hk_ => ⟨Or.elim hk_ (fun hs_ => fun e_ => Nat.not_le.2 hs_ (Kd.R_base HO342.out k_ e_.symm)) (fun hn_ => (Kd.fresh' (Kd.R_lt (Pr_ HO342.out)) k_ hn_)), Or.elim hk_ (fun hs_ => fun e_ => Nat.not_le.2 hs_ (by rw [e_]; exact GW337.out)) (fun hn_ => (Kd.freshB (g := gb337) (o := .cells #[.int .i64 a0_0, .slice A0_1 l0_1.length c0_1, .string a0_2] 33 (0, 0)) (Bk_ BK337.out) k_ hn_)), Or.elim hk_ (fun hs_ => fun e_ => Nat.not_le.2 hs_ (by rw [e_]; exact GW355.out)) (fun hn_ => (Kd.freshB (g := gb355) (o := .cells #[.int .i64 0, .slice none 0 0, .string (⟨#[]⟩ : ByteArray)] 29 (0, 0)) (Bk_ BK355.out) k_ hn_))⟩)) Bz_)
              replace HO342 := Aside0.mk (Kd.R_below (Pr_ HO342.out) hb)
              replace BK337 := kb_ BK337 hb
              replace BK355 := kb_ BK355 hb
              replace HB := Bs_ hb
              (try clear hb)
              (try clear hb2)
              (try clear hk)
              (try clear hi)
              (try clear ho0)
              obtain ⟨Ao26, co26, eo26⟩ := Kd.V_slice HO346.out
              (first | subst eo26 | (injection eo26 with f1_ f2_ f3_; have f4_ := f1_.symm; have f5_ := f3_.symm; clear f1_ f2_ f3_; subst f4_; subst f5_))
              refine hK.out _ _ ⟨(blk_cell BK337.out 0).trans rfl, (blk_cell BK337.out 1).trans rfl, (blk_cell BK337.out 2).trans rfl, HS3_⟩ (fun hHeld => ?_)
              clear hK K
              refine norm_ (a' := ?_) ?_ ?_
              rotate_left
              · show Act.put _ (some 27) _ = _
                simp only [Act.put, List.setIfInBounds_toArray, List.set_cons_zero, List.set_cons_succ, i64_w, i32_w]
                rfl
              refine one_ (i := 7) (N := some 33) #[true, true, true, true, true, true, true, true, false, false, false, true, false, false] rfl rfl (one_of HT_.out (by kernel_rfl)) (by decide) (fun K hK => ?_)
              refine goes_ Tryd.func16 (by kernel_rfl) rfl #[.agg #[.int .i64 t343, .slice Ao26 t344.length co26, .string t347], .int .i64 (rd y340 (ji8))] (by rfl) rfl rfl (by (try simp only [List.map_toArray, List.map_cons, List.map_nil]); first | done | (simp only [hji8]; rfl) | rfl | (simp only [List.length_drop, List.length_take]; rfl)) ?_
              with_reducible refine (typed_Typed_To.calls k t343 _ _ t344 t347 (rd y340 (ji8)) t349 t350 t353 true _ ?side1 ?side2 A11.out).mono ?_
              (case side1 => exact Pc_ ((Kd.V_reads' HO346.out).2.2))
              (case side2 => exact (Kd.V_reads' HO346.out).2.1)
              rintro e w27 ⟨v351, rfl, ho0, hb⟩
              have HS3_ := (hb.cell (World.block_lt_of_cell? _ _ (hHeld.2.2.2))).trans (hHeld.2.2.2)
              refine ⟨_, rfl, ?_⟩
              replace HO346 := Aside0.mk (Kd.V_elder' (Pv_ HO346.out) (Kd.R_base ho0) hb)
              have HO352 := Aside0.mk (Kd.R_lower (Kd.R_new' ho0 (Kd.R_lt (Pr_ HO342.out))) Bz_)
              replace HO342 := Aside0.mk (Kd.R_elder' (Pr_ HO342.out) (Kd.R_base ho0) hb)
              replace BK337 := kb_ BK337 hb
              replace BK355 := kb_ BK355 hb
              replace HB := Bs_ hb
              (try clear hb)
              (try clear hb2)
              (try clear hk)
              (try clear hi)
              (try clear ho0)
              refine hK.out _ _ ⟨(blk_cell BK337.out 0).trans rfl, (blk_cell BK337.out 1).trans rfl, (blk_cell BK337.out 2).trans rfl, HS3_⟩ (fun hHeld => ?_)
              clear hK K
              refine norm_ (a' := ?_) ?_ ?_
              rotate_left
              · show Act.put _ (some 33) _ = _
                simp only [Act.put, List.setIfInBounds_toArray, List.set_cons_zero, List.set_cons_succ, i64_w, i32_w]
                rfl
              refine pu_ 8 (some 25) HT_ #[true, true, true, true, true, true, true, true, true, false, false, true, false, false] ?_
              refine pu_ 9 (some 34) HT_ #[true, true, true, true, true, true, true, true, true, true, false, true, false, false] ?_
              refine pu_ 10 (some 35) HT_ #[true, true, true, true, true, true, true, true, true, true, true, true, false, false] ?_
              exact norm_ (by simp only [putAll, Act.put, List.setIfInBounds_toArray, List.set_cons_zero, List.set_cons_succ]) (hCont (.slice Ao26 t344.length co26, v351, gb355) _ ⟨hHeld, (by (with_reducible repeat (first | apply Kd.R_alloc | apply Kd.R_drewN | apply Kd.R_drew)); exact Kd.R_mono HO342.out (fun _ hk => hk.2)), (by (with_reducible repeat (first | apply Kd.V_alloc | apply Kd.V_drewN | apply Kd.V_drew)); exact Kd.V_mono HO346.out (fun _ hk => ⟨hk.1.1, ⟨hk.2, ⟨hk.1.2.1, hk.1.2.2⟩⟩⟩)), (by (with_reducible repeat (first | apply Kd.R_alloc | apply Kd.R_drewN | apply Kd.R_drew)); exact Kd.R_mono HO352.out (fun _ hk => hk.2)), (Bk_ BK337.out), (Bk_ BK355.out), GW355.out, GE355.out, NB337_355.out, NB355_337.out, Bl_⟩)
          rintro ⟨v345, v351, gb355⟩ w28 ⟨hS_, h0_, h1_, h2_, h3_, h4_, h5_, h6_, h7_, h8_, h9_⟩
          have n0_ : Aside0 (Kd.R (Kd.int .i64) 3 w28 w.heap.size (fun k_ => some k_ ≠ (v351 : Value).ownBlock) (.slice (some ad348) y340.length co23) y340) := ⟨h0_⟩
          have n1_ : Aside0 (Kd.V (Kd.int .i64) 3 w28 w.heap.size (fun k_ => some k_ ≠ (.slice (some ad348) y340.length co23 : Value).ownBlock ∧ some k_ ≠ (v351 : Value).ownBlock ∧ k_ ≠ gb337 ∧ k_ ≠ gb355) v345 t344) := ⟨h1_⟩
          have n2_ : Aside0 (Kd.R (Kd.int .i64) 3 w28 w.heap.size (fun k_ => some k_ ≠ (.slice (some ad348) y340.length co23 : Value).ownBlock) v351 t350) := ⟨h2_⟩
          have n3_ : Aside0 (w28.heap[gb337]? = some (.cells #[.int .i64 a0_0, .slice A0_1 l0_1.length c0_1, .string a0_2] 33 (0, 0))) := ⟨h3_⟩
          have n4_ : Aside0 (w28.heap[gb355]? = some (.cells #[.int .i64 0, .slice none 0 0, .string (⟨#[]⟩ : ByteArray)] 29 (0, 0))) := ⟨h4_⟩
          have n5_ : Aside0 (w.heap.size ≤ gb355) := ⟨h5_⟩
          have n6_ : Aside0 (w.heap.size ≤ gb355) := ⟨h6_⟩
          have n7_ : Aside0 (gb337 ≠ gb355) := ⟨h7_⟩
          have n8_ : Aside0 (gb355 ≠ gb337) := ⟨h8_⟩
          have n9_ : Aside0 (Below w.heap.size w w28) := ⟨h9_⟩
          clear HO342
          clear BK337
          clear HB
          clear h0_ h1_ h2_ h3_ h4_ h5_ h6_ h7_ h8_ h9_
          have HO342 := n0_
          have HO346 := n1_
          have HO352 := n2_
          have BK337 := n3_
          have BK355 := n4_
          have GW355 := n5_
          have GE355 := n6_
          have NB337_355 := n7_
          have NB355_337 := n8_
          have HB := n9_
          clear n0_ n1_ n2_ n3_ n4_ n5_ n6_ n7_ n8_ n9_
          have hHeld : w28.cell? ⟨gb337, 0, none⟩ = some (.int .i64 a0_0) ∧ w28.cell? ⟨gb337, 1, none⟩ = some (.slice A0_1 l0_1.length c0_1) ∧ w28.cell? ⟨gb337, 2, none⟩ = some (.string a0_2) ∧ w28.cell? (ad348.add ((ji8)).toNat) = some (.int .i64 (rd y340 (ji8))) := hS_
          obtain ⟨Ao30, co30, eo30⟩ := Kd.R_slice HO352.out
          (first | subst eo30 | (injection eo30 with f1_ f2_ f3_; have f4_ := f1_.symm; have f5_ := f3_.symm; clear f1_ f2_ f3_; subst f4_; subst f5_))
          refine norm_ (a' := ?_) ?_ ?_
          rotate_left
          · simp only [putAll, Act.put, List.setIfInBounds_toArray, List.set_cons_zero, List.set_cons_succ]
            rfl
          refine one_ (i := 12) (N := none) #[true, true, true, true, true, true, true, true, true, true, true, true, true, false] rfl rfl (one_of HT_.out (by kernel_rfl)) (by decide) (fun K hK => ?_)
          have hs29 : w28.cell? ⟨gb355, 0, none⟩ = some (.int .i64 0) := (blk_cell BK355.out 0).trans rfl
          have hfs29 := blk_frozen BK355.out 0
          have hns29_0 := NB337_355.out
          have hms29_0 := NB355_337.out
          have hs31 : w28.cell? ⟨gb355, 1, none⟩ = some (.slice none 0 0) := (blk_cell BK355.out 1).trans rfl
          have hfs31 := blk_frozen BK355.out 1
          have hns31_0 := NB337_355.out
          have hms31_0 := NB355_337.out
          have hs32 : w28.cell? ⟨gb355, 2, none⟩ = some (.string (⟨#[]⟩ : ByteArray)) := (blk_cell BK355.out 2).trans rfl
          have hfs32 := blk_frozen BK355.out 2
          have hns32_0 := NB337_355.out
          have hms32_0 := NB355_337.out
          refine skip_ (w1 := ?_) (by rfl) rfl ?_ ?_
          rotate_left
          · go_simp
            rfl
          refine hK.out _ _ ⟨((cell_far (p := ⟨gb355, _, none⟩) NB337_355.out _).trans (((cell_far (p := ⟨gb355, _, none⟩) NB337_355.out _).trans (((cell_far (p := ⟨gb355, _, none⟩) NB337_355.out _).trans (hHeld.1)))))), ((cell_far (p := ⟨gb355, _, none⟩) NB337_355.out _).trans (((cell_far (p := ⟨gb355, _, none⟩) NB337_355.out _).trans (((cell_far (p := ⟨gb355, _, none⟩) NB337_355.out _).trans (hHeld.2.1)))))), ((cell_far (p := ⟨gb355, _, none⟩) NB337_355.out _).trans (((cell_far (p := ⟨gb355, _, none⟩) NB337_355.out _).trans (((cell_far (p := ⟨gb355, _, none⟩) NB337_355.out _).trans (hHeld.2.2.1)))))), ((cell_far (p := ⟨gb355, _, none⟩) (by first | exact Kd.own_blk (Kd.R_ne HO342.out BK355.out (by decide)) | (rw [add_block]; exact Kd.own_blk (Kd.R_ne HO342.out BK355.out (by decide))) | (show (Addr.add _ _).block ≠ _; rw [add_block]; exact Kd.own_blk (Kd.R_ne HO342.out BK355.out (by decide))) | (dsimp only; exact Kd.own_blk (Kd.R_ne HO342.out BK355.out (by decide)))) _).trans (((cell_far (p := ⟨gb355, _, none⟩) (by first | exact Kd.own_blk (Kd.R_ne HO342.out BK355.out (by decide)) | (rw [add_block]; exact Kd.own_blk (Kd.R_ne HO342.out BK355.out (by decide))) | (show (Addr.add _ _).block ≠ _; rw [add_block]; exact Kd.own_blk (Kd.R_ne HO342.out BK355.out (by decide))) | (dsimp only; exact Kd.own_blk (Kd.R_ne HO342.out BK355.out (by decide)))) _).trans (((cell_far (p := ⟨gb355, _, none⟩) (by first | exact Kd.own_blk (Kd.R_ne HO342.out BK355.out (by decide)) | (rw [add_block]; exact Kd.own_blk (Kd.R_ne HO342.out BK355.out (by decide))) | (show (Addr.add _ _).block ≠ _; rw [add_block]; exact Kd.own_blk (Kd.R_ne HO342.out BK355.out (by decide))) | (dsimp only; exact Kd.own_blk (Kd.R_ne HO342.out BK355.out (by decide)))) _).trans (hHeld.2.2.2))))))⟩ (fun hHeld => ?_)
          clear hK K
          refine pu_ 13 (some 10) HT_ #[true, true, true, true, true, true, true, true, true, true, true, true, true, true] ?_
          refine done_ (done_of HT_.out (by kernel_rfl)) ?_
          have hnb33 := NB355_337.out
          have hnc33 := NB337_355.out
          obtain ⟨hcz34_0, hcz34_1, hcz34_2⟩ := c3_ BK355
          obtain ⟨hfz34_0, hfz34_1, hfz34_2⟩ := f3_ BK355
          obtain ⟨hcz35_0, hcz35_1, hcz35_2⟩ := c3_ BK337
          obtain ⟨hfz35_0, hfz35_1, hfz35_2⟩ := f3_ BK337
          go_upto_region 10 with (first | ((with_reducible refine gate_callee (f := 16) rfl ?_); refine goesL_ (some 53) rfl rfl Tryd.func16 (by kernel_rfl) rfl #[.agg #[.int .i64 t349, .slice Ao30 t350.length co30, .string t353], .int .i64 a0_0] rfl Ga_ ?_; (with_reducible refine (typed_Typed_To.calls k t349 _ _ t350 t353 a0_0 t356 t357 t360 t361 _ ?side1 ?side2 A13.out).mono ?_); (case side1 => refine (Kd.R_reads' (e := 3) (base := w.heap.size) (ok := fun k_ => some k_ ≠ (.slice (some ad348) y340.length co23 : Value).ownBlock) (n := t350.length) (c := co30) ?_).2.2; exact (by (with_reducible repeat (first | apply Kd.R_alloc | apply Kd.R_drewN | apply Kd.R_drew)); exact (Kd.R_mono (Kd.R_far (p := ⟨gb355, 2, none⟩) (Kd.R_far (p := ⟨gb355, 1, none⟩) (Kd.R_far (p := ⟨gb355, 0, none⟩) (Kd.R_types HO352.out BK355.out (by decide)) (fun _ hk => hk.2) (.int .i64 t349)) (fun _ hk => hk.2) (.slice Ao30 t350.length co30)) (fun _ hk => hk.2) (.string t353)) (fun _ h_ => h_.1)))); (case side2 => exact (Kd.R_reads' HO352.out).2.1); rintro e w36 ⟨v358, rfl, ho0, hb⟩; refine ⟨_, rfl, ?_⟩; replace HO346 := Aside0.mk (Kd.V_elder' (by (with_reducible repeat (first | apply Kd.V_alloc | apply Kd.V_drewN | apply Kd.V_drew)); exact (Kd.V_mono (Kd.V_far (p := ⟨gb355, 2, none⟩) (Kd.V_far (p := ⟨gb355, 1, none⟩) (Kd.V_far (p := ⟨gb355, 0, none⟩) (Kd.V_mono HO346.out (fun k_ hk => (⟨hk, hk.2.2.2⟩ : _ ∧ k_ ≠ gb355))) (fun _ hk => hk.2) (.int .i64 t349)) (fun _ hk => hk.2) (.slice Ao30 t350.length co30)) (fun _ hk => hk.2) (.string t353)) (fun _ h_ => h_.1))) (Kd.R_base ho0) hb); have HO359 := Aside0.mk (Kd.R_lower (Kd.R_new' (Kd.R_new' ho0 (Kd.R_lt (by (with_reducible repeat (first | apply Kd.R_alloc | apply Kd.R_drewN | apply Kd.R_drew)); exact (Kd.R_mono (Kd.R_far (p := ⟨gb355, 2, none⟩) (Kd.R_far (p := ⟨gb355, 1, none⟩) (Kd.R_far (p := ⟨gb355, 0, none⟩) (Kd.R_types HO342.out BK355.out (by decide)) (fun _ hk => hk.2) (.int .i64 t349)) (fun _ hk => hk.2) (.slice Ao30 t350.length co30)) (fun _ hk => hk.2) (.string t353)) (fun _ h_ => h_.1))))) (Kd.R_lt (by (with_reducible repeat (first | apply Kd.R_alloc | apply Kd.R_drewN | apply Kd.R_drew)); exact (Kd.R_mono (Kd.R_far (p := ⟨gb355, 2, none⟩) (Kd.R_far (p := ⟨gb355, 1, none⟩) (Kd.R_far (p := ⟨gb355, 0, none⟩) (Kd.R_types HO352.out BK355.out (by decide)) (fun _ hk => hk.2) (.int .i64 t349)) (fun _ hk => hk.2) (.slice Ao30 t350.length co30)) (fun _ hk => hk.2) (.string t353)) (fun _ h_ => h_.1))))) Bz_); replace HO342 := Aside0.mk (Kd.R_elder' (by (with_reducible repeat (first | apply Kd.R_alloc | apply Kd.R_drewN | apply Kd.R_drew)); exact (Kd.R_mono (Kd.R_far (p := ⟨gb355, 2, none⟩) (Kd.R_far (p := ⟨gb355, 1, none⟩) (Kd.R_far (p := ⟨gb355, 0, none⟩) (Kd.R_types HO342.out BK355.out (by decide)) (fun _ hk => hk.2) (.int .i64 t349)) (fun _ hk => hk.2) (.slice Ao30 t350.length co30)) (fun _ hk => hk.2) (.string t353)) (fun _ h_ => h_.1))) (Kd.R_base ho0) hb); replace HO352 := Aside0.mk (Kd.R_elder' (by (with_reducible repeat (first | apply Kd.R_alloc | apply Kd.R_drewN | apply Kd.R_drew)); exact (Kd.R_mono (Kd.R_far (p := ⟨gb355, 2, none⟩) (Kd.R_far (p := ⟨gb355, 1, none⟩) (Kd.R_far (p := ⟨gb355, 0, none⟩) (Kd.R_types HO352.out BK355.out (by decide)) (fun _ hk => hk.2) (.int .i64 t349)) (fun _ hk => hk.2) (.slice Ao30 t350.length co30)) (fun _ hk => hk.2) (.string t353)) (fun _ h_ => h_.1))) (Kd.R_base ho0) hb); replace BK337 := Aside0.mk (blk_below (g := gb337) (o := .cells #[.int .i64 a0_0, .slice A0_1 l0_1.length c0_1, .string a0_2] 33 (0, 0)) (by (with_reducible repeat (first | refine blk_drewN ?_ _ | refine blk_drew ?_ | refine blk_alloc ?_ _)); refine blk_far ?_ NB337_355.out _; (with_reducible repeat (first | refine blk_drewN ?_ _ | refine blk_drew ?_ | refine blk_alloc ?_ _)); refine blk_far ?_ NB337_355.out _; (with_reducible repeat (first | refine blk_drewN ?_ _ | refine blk_drew ?_ | refine blk_alloc ?_ _)); refine blk_far ?_ NB337_355.out _; (with_reducible repeat (first | refine blk_drewN ?_ _ | refine blk_drew ?_ | refine blk_alloc ?_ _)); exact BK337.out) hb); replace BK355 := Aside0.mk (blk_below (g := gb355) (o := .cells #[.int .i64 t349, .slice Ao30 t350.length co30, .string t353] 29 (0, 0)) (by (with_reducible repeat (first | refine blk_drewN ?_ _ | refine blk_drew ?_ | refine blk_alloc ?_ _)); refine blk_put (cs := #[.int .i64 t349, .slice Ao30 t350.length co30, .string (⟨#[]⟩ : ByteArray)]) ?_ 2 _ rfl; (with_reducible repeat (first | refine blk_drewN ?_ _ | refine blk_drew ?_ | refine blk_alloc ?_ _)); refine blk_put (cs := #[.int .i64 t349, .slice none 0 0, .string (⟨#[]⟩ : ByteArray)]) ?_ 1 _ rfl; (with_reducible repeat (first | refine blk_drewN ?_ _ | refine blk_drew ?_ | refine blk_alloc ?_ _)); refine blk_put (cs := #[.int .i64 0, .slice none 0 0, .string (⟨#[]⟩ : ByteArray)]) ?_ 0 _ rfl; (with_reducible repeat (first | refine blk_drewN ?_ _ | refine blk_drew ?_ | refine blk_alloc ?_ _)); exact BK355.out) hb); replace HB := Bs_ hb; (try clear hb); (try clear hb2); (try clear hk); (try clear hi); (try clear ho0)) | ((with_reducible refine gate_dst (N := 11) rfl ?_); refine bx_ 11 #[.int .i64 0, .slice none 0 0, .string (⟨#[]⟩ : ByteArray)] 29 ?_; intro gb362 hg w37 hbox hb; replace HO342 := Aside0.mk (Kd.R_below (Pr_ HO342.out) hb); replace HO346 := Aside0.mk (Kd.V_below (Kd.V_elderB (Pv_ HO346.out) gb362 (Nat.le_of_eq hg.symm)) hb); replace HO352 := Aside0.mk (Kd.R_below (Pr_ HO352.out) hb); replace HO359 := Aside0.mk (Kd.R_below (Pr_ HO359.out) hb); have BK362 := Aside0.mk (hbox); have GW362 := (Bg_ hg : Aside0 (w.heap.size ≤ gb362)); have GE362 := (Bg_ hg : Aside0 (w.heap.size ≤ gb362)); replace HB := Bs_ hb; have NB337_362 := nl_ hg BK337; have NB362_337 := ng_ hg BK337; replace BK337 := kb_ BK337 hb; have NB355_362 := nl_ hg BK355; have NB362_355 := ng_ hg BK355; replace BK355 := kb_ BK355 hb; clear hb hbox hg; have hnb38 := NB362_337.out; have hnc38 := NB337_362.out; have hnb39 := NB362_355.out; have hnc39 := NB355_362.out; obtain ⟨hcz40_0, hcz40_1, hcz40_2⟩ := c3_ BK362; obtain ⟨hfz40_0, hfz40_1, hfz40_2⟩ := f3_ BK362; obtain ⟨Ao41, co41, eo41⟩ := Kd.R_slice HO359.out; subst eo41; obtain ⟨hcz42_0, hcz42_1, hcz42_2⟩ := c3_ BK355; obtain ⟨hfz42_0, hfz42_1, hfz42_2⟩ := f3_ BK355) | ((with_reducible refine gate_callee (f := 17) rfl ?_); refine goesL_ (some 57) rfl rfl Tryd.func17 (by kernel_rfl) rfl #[.agg #[.int .i64 t349, .slice Ao30 t350.length co30, .string t353]] rfl Ga_ ?_; (with_reducible refine (typed_Typed_Many.calls k t349 _ _ t350 t353 t363 _ ?side1 ?side2 A14.out).mono ?_); (case side1 => refine (Kd.R_reads' (e := 3) (base := w.heap.size) (ok := fun k_ => (some k_ ≠ (.slice (some ad348) y340.length co23 : Value).ownBlock ∧ some k_ ≠ (.slice Ao41 t357.length co41 : Value).ownBlock)) (n := t350.length) (c := co30) ?_).2.2; exact (by (with_reducible repeat (first | apply Kd.R_alloc | apply Kd.R_drewN | apply Kd.R_drew)); exact (Kd.R_mono (Kd.R_far (p := ⟨gb362, 2, none⟩) (Kd.R_far (p := ⟨gb362, 1, none⟩) (Kd.R_far (p := ⟨gb362, 0, none⟩) (Kd.R_types HO352.out BK362.out (by decide)) (fun _ hk => hk.2) (.int .i64 t356)) (fun _ hk => hk.2) (.slice Ao41 t357.length co41)) (fun _ hk => hk.2) (.string t360)) (fun _ h_ => h_.1)))); (case side2 => exact (Kd.R_reads' HO352.out).2.1); rintro e w43 ⟨rfl, hb⟩; refine ⟨_, rfl, ?_⟩; replace HO342 := Aside0.mk (Kd.R_below (by (with_reducible repeat (first | apply Kd.R_alloc | apply Kd.R_drewN | apply Kd.R_drew)); exact (Kd.R_mono (Kd.R_far (p := ⟨gb362, 2, none⟩) (Kd.R_far (p := ⟨gb362, 1, none⟩) (Kd.R_far (p := ⟨gb362, 0, none⟩) (Kd.R_types HO342.out BK362.out (by decide)) (fun _ hk => hk.2) (.int .i64 t356)) (fun _ hk => hk.2) (.slice Ao41 t357.length co41)) (fun _ hk => hk.2) (.string t360)) (fun _ h_ => h_.1))) hb); replace HO346 := Aside0.mk (Kd.V_below (by (with_reducible repeat (first | apply Kd.V_alloc | apply Kd.V_drewN | apply Kd.V_drew)); exact (Kd.V_mono (Kd.V_far (p := ⟨gb362, 2, none⟩) (Kd.V_far (p := ⟨gb362, 1, none⟩) (Kd.V_far (p := ⟨gb362, 0, none⟩) (Kd.V_mono HO346.out (fun k_ hk => (⟨hk, hk.2⟩ : _ ∧ k_ ≠ gb362))) (fun _ hk => hk.2) (.int .i64 t356)) (fun _ hk => hk.2) (.slice Ao41 t357.length co41)) (fun _ hk => hk.2) (.string t360)) (fun _ h_ => h_.1))) hb); replace HO352 := Aside0.mk (Kd.R_below (by (with_reducible repeat (first | apply Kd.R_alloc | apply Kd.R_drewN | apply Kd.R_drew)); exact (Kd.R_mono (Kd.R_far (p := ⟨gb362, 2, none⟩) (Kd.R_far (p := ⟨gb362, 1, none⟩) (Kd.R_far (p := ⟨gb362, 0, none⟩) (Kd.R_types HO352.out BK362.out (by decide)) (fun _ hk => hk.2) (.int .i64 t356)) (fun _ hk => hk.2) (.slice Ao41 t357.length co41)) (fun _ hk => hk.2) (.string t360)) (fun _ h_ => h_.1))) hb); replace HO359 := Aside0.mk (Kd.R_below (by (with_reducible repeat (first | apply Kd.R_alloc | apply Kd.R_drewN | apply Kd.R_drew)); exact (Kd.R_mono (Kd.R_far (p := ⟨gb362, 2, none⟩) (Kd.R_far (p := ⟨gb362, 1, none⟩) (Kd.R_far (p := ⟨gb362, 0, none⟩) (Kd.R_types HO359.out BK362.out (by decide)) (fun _ hk => hk.2) (.int .i64 t356)) (fun _ hk => hk.2) (.slice Ao41 t357.length co41)) (fun _ hk => hk.2) (.string t360)) (fun _ h_ => h_.1))) hb); replace BK337 := Aside0.mk (blk_below (g := gb337) (o := .cells #[.int .i64 a0_0, .slice A0_1 l0_1.length c0_1, .string a0_2] 33 (0, 0)) (by (with_reducible repeat (first | refine blk_drewN ?_ _ | refine blk_drew ?_ | refine blk_alloc ?_ _)); refine blk_far ?_ NB337_362.out _; (with_reducible repeat (first | refine blk_drewN ?_ _ | refine blk_drew ?_ | refine blk_alloc ?_ _)); refine blk_far ?_ NB337_362.out _; (with_reducible repeat (first | refine blk_drewN ?_ _ | refine blk_drew ?_ | refine blk_alloc ?_ _)); refine blk_far ?_ NB337_362.out _; (with_reducible repeat (first | refine blk_drewN ?_ _ | refine blk_drew ?_ | refine blk_alloc ?_ _)); exact BK337.out) hb); replace BK355 := Aside0.mk (blk_below (g := gb355) (o := .cells #[.int .i64 t349, .slice Ao30 t350.length co30, .string t353] 29 (0, 0)) (by (with_reducible repeat (first | refine blk_drewN ?_ _ | refine blk_drew ?_ | refine blk_alloc ?_ _)); refine blk_far ?_ NB355_362.out _; (with_reducible repeat (first | refine blk_drewN ?_ _ | refine blk_drew ?_ | refine blk_alloc ?_ _)); refine blk_far ?_ NB355_362.out _; (with_reducible repeat (first | refine blk_drewN ?_ _ | refine blk_drew ?_ | refine blk_alloc ?_ _)); refine blk_far ?_ NB355_362.out _; (with_reducible repeat (first | refine blk_drewN ?_ _ | refine blk_drew ?_ | refine blk_alloc ?_ _)); exact BK355.out) hb); replace BK362 := Aside0.mk (blk_below (g := gb362) (o := .cells #[.int .i64 t356, .slice Ao41 t357.length co41, .string t360] 29 (0, 0)) (by (with_reducible repeat (first | refine blk_drewN ?_ _ | refine blk_drew ?_ | refine blk_alloc ?_ _)); refine blk_put (cs := #[.int .i64 t356, .slice Ao41 t357.length co41, .string (⟨#[]⟩ : ByteArray)]) ?_ 2 _ rfl; (with_reducible repeat (first | refine blk_drewN ?_ _ | refine blk_drew ?_ | refine blk_alloc ?_ _)); refine blk_put (cs := #[.int .i64 t356, .slice none 0 0, .string (⟨#[]⟩ : ByteArray)]) ?_ 1 _ rfl; (with_reducible repeat (first | refine blk_drewN ?_ _ | refine blk_drew ?_ | refine blk_alloc ?_ _)); refine blk_put (cs := #[.int .i64 0, .slice none 0 0, .string (⟨#[]⟩ : ByteArray)]) ?_ 0 _ rfl; (with_reducible repeat (first | refine blk_drewN ?_ _ | refine blk_drew ?_ | refine blk_alloc ?_ _)); exact BK362.out) hb); replace HB := Bs_ hb; (try clear hb); (try clear hb2); (try clear hk); (try clear hi)))
          (try simp only [Act.put, List.setIfInBounds_toArray, List.set_cons_zero, List.set_cons_succ])
          go_cut [77] (fun v77 wc => ∃ (kq : Nat) (x77_14 : Bool), v77 = .bool x77_14 ∧ Aside0 (reredoslaw05_TypedNarrow.j0 kq a2 true t363 x77_14 a0_0 l0_1 a0_2 t349 t350 t353 = some r) ∧ Aside0 (kq ≤ k) ∧ Aside0 (Kd.R (Kd.int .i64) 3 wc w.heap.size (fun k_ => some k_ ≠ ((.slice Ao41 t357.length co41) : Value).ownBlock) (.slice Ao30 t350.length co30) t350) ∧ Aside0 (Kd.R (Kd.int .i64) 3 wc w.heap.size (fun k_ => some k_ ≠ ((.slice Ao30 t350.length co30) : Value).ownBlock) (.slice Ao41 t357.length co41) t357) ∧ Aside0 (wc.heap[gb337]? = some (.cells #[.int .i64 a0_0, (.slice A0_1 l0_1.length c0_1), .string a0_2] 33 (0, 0))) ∧ Aside0 (wc.heap[gb355]? = some (.cells #[.int .i64 t349, (.slice Ao30 t350.length co30), .string t353] 29 (0, 0))) ∧ Aside0 (wc.heap[gb362]? = some (.cells #[.int .i64 t356, (.slice Ao41 t357.length co41), .string t360] 29 (0, 0))) ∧ Aside0 (Below w.heap.size w wc))
          case first =>
            have H := HC15.out
            clear HC15
            by_cases c44 : t361 = true
            · subst c44
              have H1 : ((reredoslaw05_same.f k t356 t357 t360 a0_0 l0_1 a0_2).bind fun t364 => (if t364 = true then ((reredoslaw05_made.f a0_0 l0_1 a0_2).bind fun bt365 => ((typed_Typed_Many.f k bt365.1 bt365.2.1 bt365.2.2).bind fun t370 => (if t363 = t370 then ((typed_Typed_May.f k t349 t350 t353).bind fun t371 => (reredoslaw05_TypedNarrow.j0 k a2 true t363 (!t371) a0_0 l0_1 a0_2 t349 t350 t353)) else (reredoslaw05_TypedNarrow.j0 k a2 true t363 true a0_0 l0_1 a0_2 t349 t350 t353)))) else (reredoslaw05_TypedNarrow.j0 k a2 true t363 true a0_0 l0_1 a0_2 t349 t350 t353))) = some r := by rw [if_pos rfl] at H; exact H
              clear H
              have H := H1
              clear H1
              obtain ⟨t364, A45, H⟩ := bnd_ H
              try dsimp -simprocs only at H
              by_cases c46 : t364 = true
              · subst c46
                have H1 : ((reredoslaw05_made.f a0_0 l0_1 a0_2).bind fun bt365 => ((typed_Typed_Many.f k bt365.1 bt365.2.1 bt365.2.2).bind fun t370 => (if t363 = t370 then ((typed_Typed_May.f k t349 t350 t353).bind fun t371 => (reredoslaw05_TypedNarrow.j0 k a2 true t363 (!t371) a0_0 l0_1 a0_2 t349 t350 t353)) else (reredoslaw05_TypedNarrow.j0 k a2 true t363 true a0_0 l0_1 a0_2 t349 t350 t353)))) = some r := by rw [if_pos rfl] at H; exact H
                clear H
                have H := H1
                clear H1
                obtain ⟨⟨t365, t366, t369⟩, A47, H⟩ := bnd_ H
                try dsimp -simprocs only at H
                obtain ⟨t370, A48, H⟩ := bnd_ H
                try dsimp -simprocs only at H
                by_cases c49 : t363 = t370
                · rw [if_pos c49] at H
                  have c49b0 : (t363 == t370) = true := beq_iff_eq.mpr c49
                  have c49b1 : (t363 != t370) = false := bne_eq_false_iff_eq.mpr c49
                  clear c49
                  (first | rw [c49b0] | (simp only [i64_w, i32_w]; rw [c49b0]) | skip)
                  obtain ⟨t371, A50, H⟩ := bnd_ H
                  try dsimp -simprocs only at H
                  have H' := Aside0.mk H
                  clear H
                  have hnb51 := NB362_337.out
                  have hnc51 := NB337_362.out
                  have hnb52 := NB362_355.out
                  have hnc52 := NB355_362.out
                  obtain ⟨hcz53_0, hcz53_1, hcz53_2⟩ := c3_ BK362
                  obtain ⟨hfz53_0, hfz53_1, hfz53_2⟩ := f3_ BK362
                  have hnb54 := NB337_355.out
                  have hnc54 := NB355_337.out
                  obtain ⟨hcz55_0, hcz55_1, hcz55_2⟩ := c3_ BK337
                  obtain ⟨hfz55_0, hfz55_1, hfz55_2⟩ := f3_ BK337
                  go_wp2_with (first | (go_at_call 13; (with_reducible refine (reredoslaw05_same.calls k t356 _ _ t357 t360 a0_0 _ _ l0_1 a0_2 true _ ?side1 ?side2 ?side3 ?side4 A45.out).mono ?_); (case side1 => exact Pc_ ((Kd.R_reads' HO359.out).2.2)); (case side2 => exact (Kd.R_reads' HO359.out).2.1); (case side3 => exact Pc_ (Kd.C_below HR0_1.out HB.out)); (case side4 => exact HC0_1.out); rintro e w56 ⟨rfl, hb⟩; replace HO342 := Aside0.mk (Kd.R_below (Pr_ HO342.out) hb); replace HO346 := Aside0.mk (Kd.V_below (Pv_ HO346.out) hb); replace HO352 := Aside0.mk (Kd.R_below (Pr_ HO352.out) hb); replace HO359 := Aside0.mk (Kd.R_below (Pr_ HO359.out) hb); replace BK337 := kb_ BK337 hb; replace BK355 := kb_ BK355 hb; replace BK362 := kb_ BK362 hb; replace HB := Bs_ hb; (try clear hb); (try clear hb2); (try clear hk); (try clear hi); obtain ⟨hcz57_0, hcz57_1, hcz57_2⟩ := c3_ BK337; obtain ⟨hfz57_0, hfz57_1, hfz57_2⟩ := f3_ BK337) | (go_at_call 15; (with_reducible refine (reredoslaw05_made.calls a0_0 (fun k_ => k_ < w.heap.size) _ _ l0_1 a0_2 t365 t366 t369 _ ?side1 A47.out).mono ?_); (case side1 => exact Kd.V_mk HC0_1.out (Kd.F_below (Kd.C_F (Kd.heap_int .i64) HR0_1.out) Bl_)); rintro e w58 ⟨v367, rfl, ho0, hb⟩; replace HO346 := Aside0.mk (Kd.V_below (Pv_ HO346.out) hb); have HO368 := Aside0.mk (Kd.V_lower (Kd.V_mono (ok' := fun k_ => some k_ ≠ (.slice (some ad348) y340.length co23 : Value).ownBlock ∧ some k_ ≠ (.slice Ao30 t350.length co30 : Value).ownBlock ∧ some k_ ≠ (.slice Ao41 t357.length co41 : Value).ownBlock ∧ k_ ≠ gb337 ∧ k_ ≠ gb355 ∧ k_ ≠ gb362) ho0 (fun k_ hk_ => ⟨Or.elim hk_ (fun hs_ => fun e_ => Nat.not_le.2 hs_ (Kd.R_base HO342.out k_ e_.symm)) (fun hn_ => (Kd.fresh' (Kd.R_lt (Pr_ HO342.out)) k_ hn_)), Or.elim hk_ (fun hs_ => fun e_ => Nat.not_le.2 hs_ (Kd.R_base HO352.out k_ e_.symm)) (fun hn_ => (Kd.fresh' (Kd.R_lt (Pr_ HO352.out)) k_ hn_)), Or.elim hk_ (fun hs_ => fun e_ => Nat.not_le.2 hs_ (Kd.R_base HO359.out k_ e_.symm)) (fun hn_ => (Kd.fresh' (Kd.R_lt (Pr_ HO359.out)) k_ hn_)), Or.elim hk_ (fun hs_ => fun e_ => Nat.not_le.2 hs_ (by rw [e_]; exact GW337.out)) (fun hn_ => (Kd.freshB (g := gb337) (o := .cells #[.int .i64 a0_0, .slice A0_1 l0_1.length c0_1, .string a0_2] 33 (0, 0)) (Bk_ BK337.out) k_ hn_)), Or.elim hk_ (fun hs_ => fun e_ => Nat.not_le.2 hs_ (by rw [e_]; exact GW355.out)) (fun hn_ => (Kd.freshB (g := gb355) (o := .cells #[.int .i64 t349, .slice Ao30 t350.length co30, .string t353] 29 (0, 0)) (Bk_ BK355.out) k_ hn_)), Or.elim hk_ (fun hs_ => fun e_ => Nat.not_le.2 hs_ (by rw [e_]; exact GW362.out)) (fun hn_ => (Kd.freshB (g := gb362) (o := .cells #[.int .i64 t356, .slice Ao41 t357.length co41, .string t360] 29 (0, 0)) (Bk_ BK362.out) k_ hn_))⟩)) Bz_); replace HO342 := Aside0.mk (Kd.R_below (Pr_ HO342.out) hb); replace HO352 := Aside0.mk (Kd.R_below (Pr_ HO352.out) hb); replace HO359 := Aside0.mk (Kd.R_below (Pr_ HO359.out) hb); replace BK337 := kb_ BK337 hb; replace BK355 := kb_ BK355 hb; replace BK362 := kb_ BK362 hb; replace HB := Bs_ hb; (try clear hb); (try clear hb2); (try clear hk); (try clear hi); (try clear ho0); obtain ⟨Ao59, co59, eo59⟩ := Kd.V_slice HO368.out; subst eo59) | (go_at_call 17; (with_reducible refine (typed_Typed_Many.calls k t365 _ _ t366 t369 t370 _ ?side1 ?side2 A48.out).mono ?_); (case side1 => exact Pc_ ((Kd.V_reads' HO368.out).2.2)); (case side2 => exact (Kd.V_reads' HO368.out).2.1); rintro e w60 ⟨rfl, hb⟩; replace HO342 := Aside0.mk (Kd.R_below (Pr_ HO342.out) hb); replace HO346 := Aside0.mk (Kd.V_below (Pv_ HO346.out) hb); replace HO352 := Aside0.mk (Kd.R_below (Pr_ HO352.out) hb); replace HO359 := Aside0.mk (Kd.R_below (Pr_ HO359.out) hb); replace HO368 := Aside0.mk (Kd.V_below (Pv_ HO368.out) hb); replace BK337 := kb_ BK337 hb; replace BK355 := kb_ BK355 hb; replace BK362 := kb_ BK362 hb; replace HB := Bs_ hb; (try clear hb); (try clear hb2); (try clear hk); (try clear hi); obtain ⟨hcz61_0, hcz61_1, hcz61_2⟩ := c3_ BK355; obtain ⟨hfz61_0, hfz61_1, hfz61_2⟩ := f3_ BK355) | (go_at_call 18; (with_reducible refine (typed_Typed_May.calls k t349 _ _ t350 t353 t371 _ ?side1 ?side2 A50.out).mono ?_); (case side1 => exact Pc_ ((Kd.R_reads' HO352.out).2.2)); (case side2 => exact (Kd.R_reads' HO352.out).2.1); rintro e w62 ⟨rfl, hb⟩; replace HO342 := Aside0.mk (Kd.R_below (Pr_ HO342.out) hb); replace HO346 := Aside0.mk (Kd.V_below (Pv_ HO346.out) hb); replace HO352 := Aside0.mk (Kd.R_below (Pr_ HO352.out) hb); replace HO359 := Aside0.mk (Kd.R_below (Pr_ HO359.out) hb); replace HO368 := Aside0.mk (Kd.V_below (Pv_ HO368.out) hb); replace BK337 := kb_ BK337 hb; replace BK355 := kb_ BK355 hb; replace BK362 := kb_ BK362 hb; replace HB := Bs_ hb; (try clear hb); (try clear hb2); (try clear hk); (try clear hi)))
                  go_meet
                  case rel => exact ⟨_, (!t371), Rf_, H', ⟨by first | omega | exact Nat.le_refl _⟩, ⟨by (with_reducible repeat (first | apply Kd.R_alloc | apply Kd.R_drewN | apply Kd.R_drew)); exact Kd.R_mono HO352.out (fun _ hk => hk.2)⟩, ⟨by (with_reducible repeat (first | apply Kd.R_alloc | apply Kd.R_drewN | apply Kd.R_drew)); exact Kd.R_mono HO359.out (fun _ hk => hk.2)⟩, ⟨by (with_reducible repeat (first | refine blk_drewN ?_ _ | refine blk_drew ?_ | refine blk_alloc ?_ _)); exact BK337.out⟩, ⟨by (with_reducible repeat (first | refine blk_drewN ?_ _ | refine blk_drew ?_ | refine blk_alloc ?_ _)); exact BK355.out⟩, ⟨by (with_reducible repeat (first | refine blk_drewN ?_ _ | refine blk_drew ?_ | refine blk_alloc ?_ _)); exact BK362.out⟩, ⟨Bl_⟩⟩
                · rw [if_neg c49] at H
                  have c49b0 : (t363 == t370) = false := beq_eq_false_iff_ne.mpr c49
                  have c49b1 : (t363 != t370) = true := bne_iff_ne.mpr c49
                  (first | rw [c49b0] | (simp only [i64_w, i32_w]; rw [c49b0]) | skip)
                  have H' := Aside0.mk H
                  clear H
                  have hnb63 := NB362_337.out
                  have hnc63 := NB337_362.out
                  have hnb64 := NB362_355.out
                  have hnc64 := NB355_362.out
                  obtain ⟨hcz65_0, hcz65_1, hcz65_2⟩ := c3_ BK362
                  obtain ⟨hfz65_0, hfz65_1, hfz65_2⟩ := f3_ BK362
                  have hnb66 := NB337_355.out
                  have hnc66 := NB355_337.out
                  obtain ⟨hcz67_0, hcz67_1, hcz67_2⟩ := c3_ BK337
                  obtain ⟨hfz67_0, hfz67_1, hfz67_2⟩ := f3_ BK337
                  go_wp2_with (first | (go_at_call 13; (with_reducible refine (reredoslaw05_same.calls k t356 _ _ t357 t360 a0_0 _ _ l0_1 a0_2 true _ ?side1 ?side2 ?side3 ?side4 A45.out).mono ?_); (case side1 => exact Pc_ ((Kd.R_reads' HO359.out).2.2)); (case side2 => exact (Kd.R_reads' HO359.out).2.1); (case side3 => exact Pc_ (Kd.C_below HR0_1.out HB.out)); (case side4 => exact HC0_1.out); rintro e w68 ⟨rfl, hb⟩; replace HO342 := Aside0.mk (Kd.R_below (Pr_ HO342.out) hb); replace HO346 := Aside0.mk (Kd.V_below (Pv_ HO346.out) hb); replace HO352 := Aside0.mk (Kd.R_below (Pr_ HO352.out) hb); replace HO359 := Aside0.mk (Kd.R_below (Pr_ HO359.out) hb); replace BK337 := kb_ BK337 hb; replace BK355 := kb_ BK355 hb; replace BK362 := kb_ BK362 hb; replace HB := Bs_ hb; (try clear hb); (try clear hb2); (try clear hk); (try clear hi); obtain ⟨hcz69_0, hcz69_1, hcz69_2⟩ := c3_ BK337; obtain ⟨hfz69_0, hfz69_1, hfz69_2⟩ := f3_ BK337) | (go_at_call 15; (with_reducible refine (reredoslaw05_made.calls a0_0 (fun k_ => k_ < w.heap.size) _ _ l0_1 a0_2 t365 t366 t369 _ ?side1 A47.out).mono ?_); (case side1 => exact Kd.V_mk HC0_1.out (Kd.F_below (Kd.C_F (Kd.heap_int .i64) HR0_1.out) Bl_)); rintro e w70 ⟨v367, rfl, ho0, hb⟩; replace HO346 := Aside0.mk (Kd.V_below (Pv_ HO346.out) hb); have HO368 := Aside0.mk (Kd.V_lower (Kd.V_mono (ok' := fun k_ => some k_ ≠ (.slice (some ad348) y340.length co23 : Value).ownBlock ∧ some k_ ≠ (.slice Ao30 t350.length co30 : Value).ownBlock ∧ some k_ ≠ (.slice Ao41 t357.length co41 : Value).ownBlock ∧ k_ ≠ gb337 ∧ k_ ≠ gb355 ∧ k_ ≠ gb362) ho0 (fun k_ hk_ => ⟨Or.elim hk_ (fun hs_ => fun e_ => Nat.not_le.2 hs_ (Kd.R_base HO342.out k_ e_.symm)) (fun hn_ => (Kd.fresh' (Kd.R_lt (Pr_ HO342.out)) k_ hn_)), Or.elim hk_ (fun hs_ => fun e_ => Nat.not_le.2 hs_ (Kd.R_base HO352.out k_ e_.symm)) (fun hn_ => (Kd.fresh' (Kd.R_lt (Pr_ HO352.out)) k_ hn_)), Or.elim hk_ (fun hs_ => fun e_ => Nat.not_le.2 hs_ (Kd.R_base HO359.out k_ e_.symm)) (fun hn_ => (Kd.fresh' (Kd.R_lt (Pr_ HO359.out)) k_ hn_)), Or.elim hk_ (fun hs_ => fun e_ => Nat.not_le.2 hs_ (by rw [e_]; exact GW337.out)) (fun hn_ => (Kd.freshB (g := gb337) (o := .cells #[.int .i64 a0_0, .slice A0_1 l0_1.length c0_1, .string a0_2] 33 (0, 0)) (Bk_ BK337.out) k_ hn_)), Or.elim hk_ (fun hs_ => fun e_ => Nat.not_le.2 hs_ (by rw [e_]; exact GW355.out)) (fun hn_ => (Kd.freshB (g := gb355) (o := .cells #[.int .i64 t349, .slice Ao30 t350.length co30, .string t353] 29 (0, 0)) (Bk_ BK355.out) k_ hn_)), Or.elim hk_ (fun hs_ => fun e_ => Nat.not_le.2 hs_ (by rw [e_]; exact GW362.out)) (fun hn_ => (Kd.freshB (g := gb362) (o := .cells #[.int .i64 t356, .slice Ao41 t357.length co41, .string t360] 29 (0, 0)) (Bk_ BK362.out) k_ hn_))⟩)) Bz_); replace HO342 := Aside0.mk (Kd.R_below (Pr_ HO342.out) hb); replace HO352 := Aside0.mk (Kd.R_below (Pr_ HO352.out) hb); replace HO359 := Aside0.mk (Kd.R_below (Pr_ HO359.out) hb); replace BK337 := kb_ BK337 hb; replace BK355 := kb_ BK355 hb; replace BK362 := kb_ BK362 hb; replace HB := Bs_ hb; (try clear hb); (try clear hb2); (try clear hk); (try clear hi); (try clear ho0); obtain ⟨Ao71, co71, eo71⟩ := Kd.V_slice HO368.out; subst eo71) | (go_at_call 17; (with_reducible refine (typed_Typed_Many.calls k t365 _ _ t366 t369 t370 _ ?side1 ?side2 A48.out).mono ?_); (case side1 => exact Pc_ ((Kd.V_reads' HO368.out).2.2)); (case side2 => exact (Kd.V_reads' HO368.out).2.1); rintro e w72 ⟨rfl, hb⟩; replace HO342 := Aside0.mk (Kd.R_below (Pr_ HO342.out) hb); replace HO346 := Aside0.mk (Kd.V_below (Pv_ HO346.out) hb); replace HO352 := Aside0.mk (Kd.R_below (Pr_ HO352.out) hb); replace HO359 := Aside0.mk (Kd.R_below (Pr_ HO359.out) hb); replace HO368 := Aside0.mk (Kd.V_below (Pv_ HO368.out) hb); replace BK337 := kb_ BK337 hb; replace BK355 := kb_ BK355 hb; replace BK362 := kb_ BK362 hb; replace HB := Bs_ hb; (try clear hb); (try clear hb2); (try clear hk); (try clear hi)))
                  go_meet
                  case rel => exact ⟨_, (true), Rf_, H', ⟨by first | omega | exact Nat.le_refl _⟩, ⟨by (with_reducible repeat (first | apply Kd.R_alloc | apply Kd.R_drewN | apply Kd.R_drew)); exact Kd.R_mono HO352.out (fun _ hk => hk.2)⟩, ⟨by (with_reducible repeat (first | apply Kd.R_alloc | apply Kd.R_drewN | apply Kd.R_drew)); exact Kd.R_mono HO359.out (fun _ hk => hk.2)⟩, ⟨by (with_reducible repeat (first | refine blk_drewN ?_ _ | refine blk_drew ?_ | refine blk_alloc ?_ _)); exact BK337.out⟩, ⟨by (with_reducible repeat (first | refine blk_drewN ?_ _ | refine blk_drew ?_ | refine blk_alloc ?_ _)); exact BK355.out⟩, ⟨by (with_reducible repeat (first | refine blk_drewN ?_ _ | refine blk_drew ?_ | refine blk_alloc ?_ _)); exact BK362.out⟩, ⟨Bl_⟩⟩
              · replace c46 := Bool.eq_false_iff.mpr c46
                subst c46
                have H1 : (reredoslaw05_TypedNarrow.j0 k a2 true t363 true a0_0 l0_1 a0_2 t349 t350 t353) = some r := by rw [if_neg (show ¬ (false = true) by decide)] at H; exact H
                clear H
                have H := H1
                clear H1
                have H' := Aside0.mk H
                clear H
                have hnb73 := NB362_337.out
                have hnc73 := NB337_362.out
                have hnb74 := NB362_355.out
                have hnc74 := NB355_362.out
                obtain ⟨hcz75_0, hcz75_1, hcz75_2⟩ := c3_ BK362
                obtain ⟨hfz75_0, hfz75_1, hfz75_2⟩ := f3_ BK362
                have hnb76 := NB337_355.out
                have hnc76 := NB355_337.out
                obtain ⟨hcz77_0, hcz77_1, hcz77_2⟩ := c3_ BK337
                obtain ⟨hfz77_0, hfz77_1, hfz77_2⟩ := f3_ BK337
                go_wp2_with (first | (go_at_call 13; (with_reducible refine (reredoslaw05_same.calls k t356 _ _ t357 t360 a0_0 _ _ l0_1 a0_2 false _ ?side1 ?side2 ?side3 ?side4 A45.out).mono ?_); (case side1 => exact Pc_ ((Kd.R_reads' HO359.out).2.2)); (case side2 => exact (Kd.R_reads' HO359.out).2.1); (case side3 => exact Pc_ (Kd.C_below HR0_1.out HB.out)); (case side4 => exact HC0_1.out); rintro e w78 ⟨rfl, hb⟩; replace HO342 := Aside0.mk (Kd.R_below (Pr_ HO342.out) hb); replace HO346 := Aside0.mk (Kd.V_below (Pv_ HO346.out) hb); replace HO352 := Aside0.mk (Kd.R_below (Pr_ HO352.out) hb); replace HO359 := Aside0.mk (Kd.R_below (Pr_ HO359.out) hb); replace BK337 := kb_ BK337 hb; replace BK355 := kb_ BK355 hb; replace BK362 := kb_ BK362 hb; replace HB := Bs_ hb; (try clear hb); (try clear hb2); (try clear hk); (try clear hi)))
                go_meet
                case rel => exact ⟨_, (true), Rf_, H', ⟨by first | omega | exact Nat.le_refl _⟩, ⟨by (with_reducible repeat (first | apply Kd.R_alloc | apply Kd.R_drewN | apply Kd.R_drew)); exact Kd.R_mono HO352.out (fun _ hk => hk.2)⟩, ⟨by (with_reducible repeat (first | apply Kd.R_alloc | apply Kd.R_drewN | apply Kd.R_drew)); exact Kd.R_mono HO359.out (fun _ hk => hk.2)⟩, ⟨by (with_reducible repeat (first | refine blk_drewN ?_ _ | refine blk_drew ?_ | refine blk_alloc ?_ _)); exact BK337.out⟩, ⟨by (with_reducible repeat (first | refine blk_drewN ?_ _ | refine blk_drew ?_ | refine blk_alloc ?_ _)); exact BK355.out⟩, ⟨by (with_reducible repeat (first | refine blk_drewN ?_ _ | refine blk_drew ?_ | refine blk_alloc ?_ _)); exact BK362.out⟩, ⟨Bl_⟩⟩
            · replace c44 := Bool.eq_false_iff.mpr c44
              subst c44
              have H1 : (reredoslaw05_TypedNarrow.j0 k a2 true t363 true a0_0 l0_1 a0_2 t349 t350 t353) = some r := by rw [if_neg (show ¬ (false = true) by decide)] at H; exact H
              clear H
              have H := H1
              clear H1
              have H' := Aside0.mk H
              clear H
              go_wp2
              go_meet
              case rel => exact ⟨_, (true), Rf_, H', ⟨by first | omega | exact Nat.le_refl _⟩, ⟨by (with_reducible repeat (first | apply Kd.R_alloc | apply Kd.R_drewN | apply Kd.R_drew)); exact Kd.R_mono HO352.out (fun _ hk => hk.2)⟩, ⟨by (with_reducible repeat (first | apply Kd.R_alloc | apply Kd.R_drewN | apply Kd.R_drew)); exact Kd.R_mono HO359.out (fun _ hk => hk.2)⟩, ⟨by (with_reducible repeat (first | refine blk_drewN ?_ _ | refine blk_drew ?_ | refine blk_alloc ?_ _)); exact BK337.out⟩, ⟨by (with_reducible repeat (first | refine blk_drewN ?_ _ | refine blk_drew ?_ | refine blk_alloc ?_ _)); exact BK355.out⟩, ⟨by (with_reducible repeat (first | refine blk_drewN ?_ _ | refine blk_drew ?_ | refine blk_alloc ?_ _)); exact BK362.out⟩, ⟨Bl_⟩⟩
          case rest =>
            clear HC15
            try clear c1
            try clear p2
            try clear c3
            try clear c4
            try clear c5
            try clear c6
            try clear c7
            try clear c15
            try clear c16
            try clear c17
            try clear c33
            try clear c38
            try clear c39
            try clear c44
            try clear c46
            try clear c49
            try clear c49b0
            try clear c49b1
            try clear c51
            try clear c52
            try clear c54
            try clear c63
            try clear c64
            try clear c66
            try clear c73
            try clear c74
            try clear c76
            try clear hcz34_0
            try clear hcz34_1
            try clear hcz34_2
            try clear hcz35_0
            try clear hcz35_1
            try clear hcz35_2
            try clear hcz40_0
            try clear hcz40_1
            try clear hcz40_2
            try clear hcz42_0
            try clear hcz42_1
            try clear hcz42_2
            try clear hcz53_0
            try clear hcz53_1
            try clear hcz53_2
            try clear hcz55_0
            try clear hcz55_1
            try clear hcz55_2
            try clear hcz57_0
            try clear hcz57_1
            try clear hcz57_2
            try clear hcz61_0
            try clear hcz61_1
            try clear hcz61_2
            try clear hcz65_0
            try clear hcz65_1
            try clear hcz65_2
            try clear hcz67_0
            try clear hcz67_1
            try clear hcz67_2
            try clear hcz69_0
            try clear hcz69_1
            try clear hcz69_2
            try clear hcz75_0
            try clear hcz75_1
            try clear hcz75_2
            try clear hcz77_0
            try clear hcz77_1
            try clear hcz77_2
            try clear hfz34_0
            try clear hfz34_1
            try clear hfz34_2
            try clear hfz35_0
            try clear hfz35_1
            try clear hfz35_2
            try clear hfz40_0
            try clear hfz40_1
            try clear hfz40_2
            try clear hfz42_0
            try clear hfz42_1
            try clear hfz42_2
            try clear hfz53_0
            try clear hfz53_1
            try clear hfz53_2
            try clear hfz55_0
            try clear hfz55_1
            try clear hfz55_2
            try clear hfz57_0
            try clear hfz57_1
            try clear hfz57_2
            try clear hfz61_0
            try clear hfz61_1
            try clear hfz61_2
            try clear hfz65_0
            try clear hfz65_1
            try clear hfz65_2
            try clear hfz67_0
            try clear hfz67_1
            try clear hfz67_2
            try clear hfz69_0
            try clear hfz69_1
            try clear hfz69_2
            try clear hfz75_0
            try clear hfz75_1
            try clear hfz75_2
            try clear hfz77_0
            try clear hfz77_1
            try clear hfz77_2
            obtain ⟨kq, x77_14, rfl, HA, HJ14, HO_356001, HO_363001, BK337, BK355, BK362, HB⟩ := hcut
            cases kq with
            | zero => exact absurd HA.out (by simp [reredoslaw05_TypedNarrow.j0])
            | succ kj14 =>
              have H := HA.out
              clear HA
              simp only [reredoslaw05_TypedNarrow.j0] at H
              by_cases c79 : x77_14 = true
              · subst c79
                have H1 : (some false) = some r := by rw [if_pos rfl] at H; exact H
                clear H
                have H := H1
                clear H1
                obtain rfl := Option.some.inj H
                go_wp2
                go_ret
                exact ⟨by first | rfl | (simp [errW_none, errW_some] <;> rfl) | (simp only [← hji8]; first | rfl | (simp [errW_none, errW_some] <;> rfl)) | (simp [*, errW_none, errW_some] <;> rfl), Bl_⟩
              · replace c79 := Bool.eq_false_iff.mpr c79
                subst c79
                have H1 : (if (mx t363 1) = 0 then (none) else ((reredoslaw05_made.f a0_0 l0_1 a0_2).bind fun bt372 => ((typed_Typed_At.f kj14 bt372.1 bt372.2.1 bt372.2.2 (Int.tmod (wrap64 (a2)) (mx t363 1))).bind fun bt377 => ((typed_Typed_At.f kj14 t349 t350 t353 (Int.tmod (wrap64 (a2)) (mx t363 1))).bind fun bt379 => (if true = true then (if bt377.1 = bt379.1 then (if (bt377.2 == bt379.2) = true then (some (bt377.2 == (decide (t363 > 0)))) else (some false)) else (some false)) else (some false)))))) = some r := by rw [if_neg (show ¬ (false = true) by decide)] at H; exact H
                clear H
                have H := H1
                clear H1
                obtain ⟨ji80, hji80⟩ : ∃ j_ : Int, (mx t363 1) = j_ := ⟨_, rfl⟩
                replace H : (if (ji80) = 0 then (none) else ((reredoslaw05_made.f a0_0 l0_1 a0_2).bind fun bt372 => ((typed_Typed_At.f kj14 bt372.1 bt372.2.1 bt372.2.2 (Int.tmod (wrap64 (a2)) (ji80))).bind fun bt377 => ((typed_Typed_At.f kj14 t349 t350 t353 (Int.tmod (wrap64 (a2)) (ji80))).bind fun bt379 => (if true = true then (if bt377.1 = bt379.1 then (if (bt377.2 == bt379.2) = true then (some (bt377.2 == (decide (t363 > 0)))) else (some false)) else (some false)) else (some false)))))) = some r := by first | (rw [hji80] at H; exact H) | (simp only [hji80] at H ⊢; exact H)
                have hji80_ : (if t363 < 1 then 1 else t363) = ji80 := hji80
                by_cases c81 : (ji80) = 0
                · rw [if_pos c81] at H
                  exact absurd H (by simp)
                · rw [if_neg c81] at H
                  have c81b0 : ((ji80) == 0) = false := beq_eq_false_iff_ne.mpr c81
                  have c81b1 : ((ji80) != 0) = true := bne_iff_ne.mpr c81
                  obtain ⟨⟨t372, t373, t376⟩, A82, H⟩ := bnd_ H
                  try dsimp -simprocs only at H
                  obtain ⟨⟨t377, t378⟩, A83, H⟩ := bnd_ H
                  try dsimp -simprocs only at H
                  obtain ⟨⟨t379, t380⟩, A84, H⟩ := bnd_ H
                  try dsimp -simprocs only at H
                  have H1 : (if t377 = t379 then (if (t378 == t380) = true then (some (t378 == (decide (t363 > 0)))) else (some false)) else (some false)) = some r := by rw [if_pos rfl] at H; exact H
                  clear H
                  have H := H1
                  clear H1
                  by_cases c85 : t377 = t379
                  · rw [if_pos c85] at H
                    have c85b0 : (t377 == t379) = true := beq_iff_eq.mpr c85
                    have c85b1 : (t377 != t379) = false := bne_eq_false_iff_eq.mpr c85
                    clear c85
                    by_cases c86 : (t378 == t380) = true
                    · rw [if_pos c86] at H
                      have c86b0 : (t378 == t380) = true := c86
                      (try (have c86b1 : decide (t378 = t380) = true := by simpa using c86))
                      (try (have c86b2 : (t378 == t380) = true := by simpa using c86))
                      clear c86
                      obtain rfl := Option.some.inj H
                      have hnb87 := NB337_355.out
                      have hnc87 := NB355_337.out
                      have hnb88 := NB337_362.out
                      have hnc88 := NB362_337.out
                      obtain ⟨hcz89_0, hcz89_1, hcz89_2⟩ := c3_ BK337
                      obtain ⟨hfz89_0, hfz89_1, hfz89_2⟩ := f3_ BK337
                      go_wp2_with (first | ((with_reducible refine gate_callee (f := 15) rfl ?_); refine goesL_ (some 85) rfl rfl Tryd.func15 (by kernel_rfl) rfl #[.agg #[.int .i64 a0_0, .slice A0_1 l0_1.length c0_1, .string a0_2]] rfl Ga_ ?_; (with_reducible refine (reredoslaw05_made.calls a0_0 (fun k_ => k_ < w.heap.size) _ _ l0_1 a0_2 t372 t373 t376 _ ?side1 A82.out).mono ?_); (case side1 => exact Kd.V_mk HC0_1.out (Kd.F_below (Kd.C_F (Kd.heap_int .i64) HR0_1.out) Bl_)); rintro e w90 ⟨v374, rfl, ho0, hb⟩; refine ⟨_, rfl, ?_⟩; have HO375 := Aside0.mk (Kd.V_lower (Kd.V_mono (ok' := fun k_ => some k_ ≠ (.slice Ao30 t350.length co30 : Value).ownBlock ∧ some k_ ≠ (.slice Ao41 t357.length co41 : Value).ownBlock ∧ k_ ≠ gb337 ∧ k_ ≠ gb355 ∧ k_ ≠ gb362) ho0 (fun k_ hk_ => ⟨Or.elim hk_ (fun hs_ => fun e_ => Nat.not_le.2 hs_ (Kd.R_base HO_356001.out k_ e_.symm)) (fun hn_ => (Kd.fresh' (Kd.R_lt (Pr_ HO_356001.out)) k_ hn_)), Or.elim hk_ (fun hs_ => fun e_ => Nat.not_le.2 hs_ (Kd.R_base HO_363001.out k_ e_.symm)) (fun hn_ => (Kd.fresh' (Kd.R_lt (Pr_ HO_363001.out)) k_ hn_)), Or.elim hk_ (fun hs_ => fun e_ => Nat.not_le.2 hs_ (by rw [e_]; exact GW337.out)) (fun hn_ => (Kd.freshB (g := gb337) (o := .cells #[.int .i64 a0_0, .slice A0_1 l0_1.length c0_1, .string a0_2] 33 (0, 0)) (Bk_ BK337.out) k_ hn_)), Or.elim hk_ (fun hs_ => fun e_ => Nat.not_le.2 hs_ (by rw [e_]; exact GW355.out)) (fun hn_ => (Kd.freshB (g := gb355) (o := .cells #[.int .i64 t349, .slice Ao30 t350.length co30, .string t353] 29 (0, 0)) (Bk_ BK355.out) k_ hn_)), Or.elim hk_ (fun hs_ => fun e_ => Nat.not_le.2 hs_ (by rw [e_]; exact GW362.out)) (fun hn_ => (Kd.freshB (g := gb362) (o := .cells #[.int .i64 t356, .slice Ao41 t357.length co41, .string t360] 29 (0, 0)) (Bk_ BK362.out) k_ hn_))⟩)) Bz_); replace HO_356001 := Aside0.mk (Kd.R_below (Pr_ HO_356001.out) hb); replace HO_363001 := Aside0.mk (Kd.R_below (Pr_ HO_363001.out) hb); replace BK337 := kb_ BK337 hb; replace BK355 := kb_ BK355 hb; replace BK362 := kb_ BK362 hb; replace HB := Bs_ hb; (try clear hb); (try clear hb2); (try clear hk); (try clear hi); (try clear ho0); obtain ⟨Ao91, co91, eo91⟩ := Kd.V_slice HO375.out; subst eo91) | ((with_reducible refine gate_callee (f := 19) rfl ?_); refine goesL_ (some 87) rfl rfl Tryd.func19 (by kernel_rfl) rfl #[.agg #[.int .i64 t372, .slice Ao91 t373.length co91, .string t376], .int .i64 (Int.tmod (wrap64 (a2)) (ji80))] rfl (by (try simp only [List.map_toArray, List.map_cons, List.map_nil]); first | done | (simp only [hji80]; rfl) | rfl | (simp only [List.length_drop, List.length_take]; rfl)) ?_; (with_reducible refine (typed_Typed_At.calls kj14 t372 _ _ t373 t376 (Int.tmod (wrap64 (a2)) (ji80)) t377 t378 _ ?side1 ?side2 A83.out).mono ?_); (case side1 => exact Pc_ ((Kd.V_reads' HO375.out).2.2)); (case side2 => exact (Kd.V_reads' HO375.out).2.1); rintro e w92 ⟨rfl, hb⟩; refine ⟨_, rfl, ?_⟩; replace HO_356001 := Aside0.mk (Kd.R_below (Pr_ HO_356001.out) hb); replace HO_363001 := Aside0.mk (Kd.R_below (Pr_ HO_363001.out) hb); replace HO375 := Aside0.mk (Kd.V_below (Pv_ HO375.out) hb); replace BK337 := kb_ BK337 hb; replace BK355 := kb_ BK355 hb; replace BK362 := kb_ BK362 hb; replace HB := Bs_ hb; (try clear hb); (try clear hb2); (try clear hk); (try clear hi); have hnb93 := NB355_362.out; have hnc93 := NB362_355.out; obtain ⟨hcz94_0, hcz94_1, hcz94_2⟩ := c3_ BK355; obtain ⟨hfz94_0, hfz94_1, hfz94_2⟩ := f3_ BK355) | ((with_reducible refine gate_callee (f := 19) rfl ?_); refine goesL_ (some 93) rfl rfl Tryd.func19 (by kernel_rfl) rfl #[.agg #[.int .i64 t349, .slice Ao30 t350.length co30, .string t353], .int .i64 (Int.tmod (wrap64 (a2)) (ji80))] rfl (by (try simp only [List.map_toArray, List.map_cons, List.map_nil]); first | done | (simp only [hji80]; rfl) | rfl | (simp only [List.length_drop, List.length_take]; rfl)) ?_; (with_reducible refine (typed_Typed_At.calls kj14 t349 _ _ t350 t353 (Int.tmod (wrap64 (a2)) (ji80)) t379 t380 _ ?side1 ?side2 A84.out).mono ?_); (case side1 => exact Pc_ ((Kd.R_reads' HO_356001.out).2.2)); (case side2 => exact (Kd.R_reads' HO_356001.out).2.1); rintro e w95 ⟨rfl, hb⟩; refine ⟨_, rfl, ?_⟩; replace HO_356001 := Aside0.mk (Kd.R_below (Pr_ HO_356001.out) hb); replace HO_363001 := Aside0.mk (Kd.R_below (Pr_ HO_363001.out) hb); replace HO375 := Aside0.mk (Kd.V_below (Pv_ HO375.out) hb); replace BK337 := kb_ BK337 hb; replace BK355 := kb_ BK355 hb; replace BK362 := kb_ BK362 hb; replace HB := Bs_ hb; (try clear hb); (try clear hb2); (try clear hk); (try clear hi)))
                      go_ret
                      exact ⟨by first | rfl | (simp [errW_none, errW_some] <;> rfl) | (simp only [← hji8, ← hji80]; first | rfl | (simp [errW_none, errW_some] <;> rfl)) | (simp [*, errW_none, errW_some] <;> rfl), Bl_⟩
                    · rw [if_neg c86] at H
                      have c86b0 : (t378 == t380) = false := by simpa using c86
                      (try (have c86b1 : decide (t378 = t380) = false := by simpa using c86))
                      (try (have c86b2 : (t378 == t380) = false := by simpa using c86))
                      (try (have c86b3 : ¬ (t378 = t380) := by simpa using c86))
                      clear c86
                      obtain rfl := Option.some.inj H
                      have hnb96 := NB337_355.out
                      have hnc96 := NB355_337.out
                      have hnb97 := NB337_362.out
                      have hnc97 := NB362_337.out
                      obtain ⟨hcz98_0, hcz98_1, hcz98_2⟩ := c3_ BK337
                      obtain ⟨hfz98_0, hfz98_1, hfz98_2⟩ := f3_ BK337
                      go_wp2_with (first | ((with_reducible refine gate_callee (f := 15) rfl ?_); refine goesL_ (some 85) rfl rfl Tryd.func15 (by kernel_rfl) rfl #[.agg #[.int .i64 a0_0, .slice A0_1 l0_1.length c0_1, .string a0_2]] rfl Ga_ ?_; (with_reducible refine (reredoslaw05_made.calls a0_0 (fun k_ => k_ < w.heap.size) _ _ l0_1 a0_2 t372 t373 t376 _ ?side1 A82.out).mono ?_); (case side1 => exact Kd.V_mk HC0_1.out (Kd.F_below (Kd.C_F (Kd.heap_int .i64) HR0_1.out) Bl_)); rintro e w99 ⟨v374, rfl, ho0, hb⟩; refine ⟨_, rfl, ?_⟩; have HO375 := Aside0.mk (Kd.V_lower (Kd.V_mono (ok' := fun k_ => some k_ ≠ (.slice Ao30 t350.length co30 : Value).ownBlock ∧ some k_ ≠ (.slice Ao41 t357.length co41 : Value).ownBlock ∧ k_ ≠ gb337 ∧ k_ ≠ gb355 ∧ k_ ≠ gb362) ho0 (fun k_ hk_ => ⟨Or.elim hk_ (fun hs_ => fun e_ => Nat.not_le.2 hs_ (Kd.R_base HO_356001.out k_ e_.symm)) (fun hn_ => (Kd.fresh' (Kd.R_lt (Pr_ HO_356001.out)) k_ hn_)), Or.elim hk_ (fun hs_ => fun e_ => Nat.not_le.2 hs_ (Kd.R_base HO_363001.out k_ e_.symm)) (fun hn_ => (Kd.fresh' (Kd.R_lt (Pr_ HO_363001.out)) k_ hn_)), Or.elim hk_ (fun hs_ => fun e_ => Nat.not_le.2 hs_ (by rw [e_]; exact GW337.out)) (fun hn_ => (Kd.freshB (g := gb337) (o := .cells #[.int .i64 a0_0, .slice A0_1 l0_1.length c0_1, .string a0_2] 33 (0, 0)) (Bk_ BK337.out) k_ hn_)), Or.elim hk_ (fun hs_ => fun e_ => Nat.not_le.2 hs_ (by rw [e_]; exact GW355.out)) (fun hn_ => (Kd.freshB (g := gb355) (o := .cells #[.int .i64 t349, .slice Ao30 t350.length co30, .string t353] 29 (0, 0)) (Bk_ BK355.out) k_ hn_)), Or.elim hk_ (fun hs_ => fun e_ => Nat.not_le.2 hs_ (by rw [e_]; exact GW362.out)) (fun hn_ => (Kd.freshB (g := gb362) (o := .cells #[.int .i64 t356, .slice Ao41 t357.length co41, .string t360] 29 (0, 0)) (Bk_ BK362.out) k_ hn_))⟩)) Bz_); replace HO_356001 := Aside0.mk (Kd.R_below (Pr_ HO_356001.out) hb); replace HO_363001 := Aside0.mk (Kd.R_below (Pr_ HO_363001.out) hb); replace BK337 := kb_ BK337 hb; replace BK355 := kb_ BK355 hb; replace BK362 := kb_ BK362 hb; replace HB := Bs_ hb; (try clear hb); (try clear hb2); (try clear hk); (try clear hi); (try clear ho0); obtain ⟨Ao100, co100, eo100⟩ := Kd.V_slice HO375.out; subst eo100) | ((with_reducible refine gate_callee (f := 19) rfl ?_); refine goesL_ (some 87) rfl rfl Tryd.func19 (by kernel_rfl) rfl #[.agg #[.int .i64 t372, .slice Ao100 t373.length co100, .string t376], .int .i64 (Int.tmod (wrap64 (a2)) (ji80))] rfl (by (try simp only [List.map_toArray, List.map_cons, List.map_nil]); first | done | (simp only [hji80]; rfl) | rfl | (simp only [List.length_drop, List.length_take]; rfl)) ?_; (with_reducible refine (typed_Typed_At.calls kj14 t372 _ _ t373 t376 (Int.tmod (wrap64 (a2)) (ji80)) t377 t378 _ ?side1 ?side2 A83.out).mono ?_); (case side1 => exact Pc_ ((Kd.V_reads' HO375.out).2.2)); (case side2 => exact (Kd.V_reads' HO375.out).2.1); rintro e w101 ⟨rfl, hb⟩; refine ⟨_, rfl, ?_⟩; replace HO_356001 := Aside0.mk (Kd.R_below (Pr_ HO_356001.out) hb); replace HO_363001 := Aside0.mk (Kd.R_below (Pr_ HO_363001.out) hb); replace HO375 := Aside0.mk (Kd.V_below (Pv_ HO375.out) hb); replace BK337 := kb_ BK337 hb; replace BK355 := kb_ BK355 hb; replace BK362 := kb_ BK362 hb; replace HB := Bs_ hb; (try clear hb); (try clear hb2); (try clear hk); (try clear hi); have hnb102 := NB355_362.out; have hnc102 := NB362_355.out; obtain ⟨hcz103_0, hcz103_1, hcz103_2⟩ := c3_ BK355; obtain ⟨hfz103_0, hfz103_1, hfz103_2⟩ := f3_ BK355) | ((with_reducible refine gate_callee (f := 19) rfl ?_); refine goesL_ (some 93) rfl rfl Tryd.func19 (by kernel_rfl) rfl #[.agg #[.int .i64 t349, .slice Ao30 t350.length co30, .string t353], .int .i64 (Int.tmod (wrap64 (a2)) (ji80))] rfl (by (try simp only [List.map_toArray, List.map_cons, List.map_nil]); first | done | (simp only [hji80]; rfl) | rfl | (simp only [List.length_drop, List.length_take]; rfl)) ?_; (with_reducible refine (typed_Typed_At.calls kj14 t349 _ _ t350 t353 (Int.tmod (wrap64 (a2)) (ji80)) t379 t380 _ ?side1 ?side2 A84.out).mono ?_); (case side1 => exact Pc_ ((Kd.R_reads' HO_356001.out).2.2)); (case side2 => exact (Kd.R_reads' HO_356001.out).2.1); rintro e w104 ⟨rfl, hb⟩; refine ⟨_, rfl, ?_⟩; replace HO_356001 := Aside0.mk (Kd.R_below (Pr_ HO_356001.out) hb); replace HO_363001 := Aside0.mk (Kd.R_below (Pr_ HO_363001.out) hb); replace HO375 := Aside0.mk (Kd.V_below (Pv_ HO375.out) hb); replace BK337 := kb_ BK337 hb; replace BK355 := kb_ BK355 hb; replace BK362 := kb_ BK362 hb; replace HB := Bs_ hb; (try clear hb); (try clear hb2); (try clear hk); (try clear hi)))
                      go_ret
                      exact ⟨by first | rfl | (simp [errW_none, errW_some] <;> rfl) | (simp only [← hji8, ← hji80]; first | rfl | (simp [errW_none, errW_some] <;> rfl)) | (simp [*, errW_none, errW_some] <;> rfl), Bl_⟩
                  · rw [if_neg c85] at H
                    have c85b0 : (t377 == t379) = false := beq_eq_false_iff_ne.mpr c85
                    have c85b1 : (t377 != t379) = true := bne_iff_ne.mpr c85
                    obtain rfl := Option.some.inj H
                    have hnb105 := NB337_355.out
                    have hnc105 := NB355_337.out
                    have hnb106 := NB337_362.out
                    have hnc106 := NB362_337.out
                    obtain ⟨hcz107_0, hcz107_1, hcz107_2⟩ := c3_ BK337
                    obtain ⟨hfz107_0, hfz107_1, hfz107_2⟩ := f3_ BK337
                    go_wp2_with (first | ((with_reducible refine gate_callee (f := 15) rfl ?_); refine goesL_ (some 85) rfl rfl Tryd.func15 (by kernel_rfl) rfl #[.agg #[.int .i64 a0_0, .slice A0_1 l0_1.length c0_1, .string a0_2]] rfl Ga_ ?_; (with_reducible refine (reredoslaw05_made.calls a0_0 (fun k_ => k_ < w.heap.size) _ _ l0_1 a0_2 t372 t373 t376 _ ?side1 A82.out).mono ?_); (case side1 => exact Kd.V_mk HC0_1.out (Kd.F_below (Kd.C_F (Kd.heap_int .i64) HR0_1.out) Bl_)); rintro e w108 ⟨v374, rfl, ho0, hb⟩; refine ⟨_, rfl, ?_⟩; have HO375 := Aside0.mk (Kd.V_lower (Kd.V_mono (ok' := fun k_ => some k_ ≠ (.slice Ao30 t350.length co30 : Value).ownBlock ∧ some k_ ≠ (.slice Ao41 t357.length co41 : Value).ownBlock ∧ k_ ≠ gb337 ∧ k_ ≠ gb355 ∧ k_ ≠ gb362) ho0 (fun k_ hk_ => ⟨Or.elim hk_ (fun hs_ => fun e_ => Nat.not_le.2 hs_ (Kd.R_base HO_356001.out k_ e_.symm)) (fun hn_ => (Kd.fresh' (Kd.R_lt (Pr_ HO_356001.out)) k_ hn_)), Or.elim hk_ (fun hs_ => fun e_ => Nat.not_le.2 hs_ (Kd.R_base HO_363001.out k_ e_.symm)) (fun hn_ => (Kd.fresh' (Kd.R_lt (Pr_ HO_363001.out)) k_ hn_)), Or.elim hk_ (fun hs_ => fun e_ => Nat.not_le.2 hs_ (by rw [e_]; exact GW337.out)) (fun hn_ => (Kd.freshB (g := gb337) (o := .cells #[.int .i64 a0_0, .slice A0_1 l0_1.length c0_1, .string a0_2] 33 (0, 0)) (Bk_ BK337.out) k_ hn_)), Or.elim hk_ (fun hs_ => fun e_ => Nat.not_le.2 hs_ (by rw [e_]; exact GW355.out)) (fun hn_ => (Kd.freshB (g := gb355) (o := .cells #[.int .i64 t349, .slice Ao30 t350.length co30, .string t353] 29 (0, 0)) (Bk_ BK355.out) k_ hn_)), Or.elim hk_ (fun hs_ => fun e_ => Nat.not_le.2 hs_ (by rw [e_]; exact GW362.out)) (fun hn_ => (Kd.freshB (g := gb362) (o := .cells #[.int .i64 t356, .slice Ao41 t357.length co41, .string t360] 29 (0, 0)) (Bk_ BK362.out) k_ hn_))⟩)) Bz_); replace HO_356001 := Aside0.mk (Kd.R_below (Pr_ HO_356001.out) hb); replace HO_363001 := Aside0.mk (Kd.R_below (Pr_ HO_363001.out) hb); replace BK337 := kb_ BK337 hb; replace BK355 := kb_ BK355 hb; replace BK362 := kb_ BK362 hb; replace HB := Bs_ hb; (try clear hb); (try clear hb2); (try clear hk); (try clear hi); (try clear ho0); obtain ⟨Ao109, co109, eo109⟩ := Kd.V_slice HO375.out; subst eo109) | ((with_reducible refine gate_callee (f := 19) rfl ?_); refine goesL_ (some 87) rfl rfl Tryd.func19 (by kernel_rfl) rfl #[.agg #[.int .i64 t372, .slice Ao109 t373.length co109, .string t376], .int .i64 (Int.tmod (wrap64 (a2)) (ji80))] rfl (by (try simp only [List.map_toArray, List.map_cons, List.map_nil]); first | done | (simp only [hji80]; rfl) | rfl | (simp only [List.length_drop, List.length_take]; rfl)) ?_; (with_reducible refine (typed_Typed_At.calls kj14 t372 _ _ t373 t376 (Int.tmod (wrap64 (a2)) (ji80)) t377 t378 _ ?side1 ?side2 A83.out).mono ?_); (case side1 => exact Pc_ ((Kd.V_reads' HO375.out).2.2)); (case side2 => exact (Kd.V_reads' HO375.out).2.1); rintro e w110 ⟨rfl, hb⟩; refine ⟨_, rfl, ?_⟩; replace HO_356001 := Aside0.mk (Kd.R_below (Pr_ HO_356001.out) hb); replace HO_363001 := Aside0.mk (Kd.R_below (Pr_ HO_363001.out) hb); replace HO375 := Aside0.mk (Kd.V_below (Pv_ HO375.out) hb); replace BK337 := kb_ BK337 hb; replace BK355 := kb_ BK355 hb; replace BK362 := kb_ BK362 hb; replace HB := Bs_ hb; (try clear hb); (try clear hb2); (try clear hk); (try clear hi); have hnb111 := NB355_362.out; have hnc111 := NB362_355.out; obtain ⟨hcz112_0, hcz112_1, hcz112_2⟩ := c3_ BK355; obtain ⟨hfz112_0, hfz112_1, hfz112_2⟩ := f3_ BK355) | ((with_reducible refine gate_callee (f := 19) rfl ?_); refine goesL_ (some 93) rfl rfl Tryd.func19 (by kernel_rfl) rfl #[.agg #[.int .i64 t349, .slice Ao30 t350.length co30, .string t353], .int .i64 (Int.tmod (wrap64 (a2)) (ji80))] rfl (by (try simp only [List.map_toArray, List.map_cons, List.map_nil]); first | done | (simp only [hji80]; rfl) | rfl | (simp only [List.length_drop, List.length_take]; rfl)) ?_; (with_reducible refine (typed_Typed_At.calls kj14 t349 _ _ t350 t353 (Int.tmod (wrap64 (a2)) (ji80)) t379 t380 _ ?side1 ?side2 A84.out).mono ?_); (case side1 => exact Pc_ ((Kd.R_reads' HO_356001.out).2.2)); (case side2 => exact (Kd.R_reads' HO_356001.out).2.1); rintro e w113 ⟨rfl, hb⟩; refine ⟨_, rfl, ?_⟩; replace HO_356001 := Aside0.mk (Kd.R_below (Pr_ HO_356001.out) hb); replace HO_363001 := Aside0.mk (Kd.R_below (Pr_ HO_363001.out) hb); replace HO375 := Aside0.mk (Kd.V_below (Pv_ HO375.out) hb); replace BK337 := kb_ BK337 hb; replace BK355 := kb_ BK355 hb; replace BK362 := kb_ BK362 hb; replace HB := Bs_ hb; (try clear hb); (try clear hb2); (try clear hk); (try clear hi)))
                    go_ret
                    exact ⟨by first | rfl | (simp [errW_none, errW_some] <;> rfl) | (simp only [← hji8, ← hji80]; first | rfl | (simp [errW_none, errW_some] <;> rfl)) | (simp [*, errW_none, errW_some] <;> rfl), Bl_⟩
        · replace c12 := Bool.eq_false_iff.mpr c12
          subst c12
          have H1 : (if t353.toList = ([] : List UInt8) then (some (t349 == 0)) else (some false)) = some r := by rw [if_neg (show ¬ (false = true) by decide)] at H; exact H
          clear H
          have H := H1
          clear H1
          by_cases c114 : t353.toList = ([] : List UInt8)
          · rw [if_pos c114] at H
            have c114b0 : (t353.toList == ([] : List UInt8)) = true := beq_iff_eq.mpr c114
            have c114b1 : (t353.toList != ([] : List UInt8)) = false := bne_eq_false_iff_eq.mpr c114
            clear c114
            obtain rfl := Option.some.inj H
            go_enter Tryd.func4, Tryd.ntmps4
            try go_wp2_with (first | ((with_reducible refine gate_dst (N := 3) rfl ?_); refine bx_ 3 #[.int .i64 a0_0, .slice A0_1 l0_1.length c0_1, .string a0_2] 33 ?_; intro gb337 hg w115 hbox hb; have BK337 := Aside0.mk (hbox); have GW337 := (Bg_ hg : Aside0 (w.heap.size ≤ gb337)); have GE337 := (Bg_ hg : Aside0 (w.heap.size ≤ gb337)); replace HB := Bs_ hb; clear hb hbox hg) | ((with_reducible refine gate_callee (f := 9) rfl ?_); refine goesL_ (some 19) rfl rfl Tryd.func9 (by kernel_rfl) rfl #[] rfl Ga_ ?_; (with_reducible refine (reredoslaw05_shown.calls  true _ A4.out ?side1).mono ?_); (case side1 => first | exact hG | exact Glob.below hG Bl_); rintro e w116 ⟨rfl, hb⟩; refine ⟨_, rfl, ?_⟩; replace BK337 := kb_ BK337 hb; replace HB := Bs_ hb; (try clear hb); (try clear hb2); (try clear hk); (try clear hi); obtain ⟨hcz117_0, hcz117_1, hcz117_2⟩ := c3_ BK337; obtain ⟨hfz117_0, hfz117_1, hfz117_2⟩ := f3_ BK337) | ((with_reducible refine gate_callee (f := 14) rfl ?_); refine goesL_ (some 21) rfl rfl Tryd.func14 (by kernel_rfl) rfl #[.agg #[.int .i64 a0_0, .slice A0_1 l0_1.length c0_1, .string a0_2]] rfl Ga_ ?_; (with_reducible refine (reredoslaw05_few.calls a0_0 _ _ l0_1 a0_2 true _ ?side1 ?side2 A5.out).mono ?_); (case side1 => exact Pc_ (Kd.C_below HR0_1.out HB.out)); (case side2 => exact HC0_1.out); rintro e w118 ⟨rfl, hb⟩; refine ⟨_, rfl, ?_⟩; replace BK337 := kb_ BK337 hb; replace HB := Bs_ hb; (try clear hb); (try clear hb2); (try clear hk); (try clear hi)) | ((with_reducible refine gate_dst (N := 24) rfl ?_); refine Kd.R_lit (Kd.int .i64) _ 3 ?hg (N := 24) ?hd (xs := ([8, 16, 32, 64] : List Int)) (inner := [.int .i64 8, .int .i64 16, .int .i64 32, .int .i64 64]) (ok := fun _ => True) (okp := fun _ => True) ?hr ?hp (fun _ hk => hk) trivial (Below.refl _ _) (Nat.le_refl _) (by simp) ?_; (case hd => rfl); (case hg => rfl); (case hr => first | (go_simp; done) | (go_simp; rfl)); (case hp => exact (Reps.one (show Kd.M (Kd.int .i64) _ _ _ 8 [.int .i64 8] from rfl) (Reps.one (show Kd.M (Kd.int .i64) _ _ _ 16 [.int .i64 16] from rfl) (Reps.one (show Kd.M (Kd.int .i64) _ _ _ 32 [.int .i64 32] from rfl) (Reps.one (show Kd.M (Kd.int .i64) _ _ _ 64 [.int .i64 64] from rfl) (Reps.none _ _)))))); intro v341 w119 ho120 hb hg_ hnew_; clear hg_ hnew_; (first | rw [← Ny340.out] at ho120 | (simp only [Int.reduceToNat] at ho120; rw [← Ny340.out] at ho120)); have HO342 := Aside0.mk (Kd.R_lower ho120 Bz_); replace BK337 := kb_ BK337 hb; replace HB := Bs_ hb; clear hb ho120))
            replace HO342 := Aside0.mk (Kd.R_drew HO342.out)
            replace BK337 := Aside0.mk (blk_drew BK337.out)
            replace HB := Aside0.mk (below_drew1 HB.out)
            obtain ⟨Ao122, co122, eo122⟩ := Kd.R_slice HO342.out
            (first | subst eo122 | (injection eo122 with f1_ f2_ f3_; have f4_ := f1_.symm; have f5_ := f3_.symm; clear f1_ f2_ f3_; subst f4_; subst f5_))
            have p348 : 0 ≤ ((ji8) : Int) := of_decide_eq_true As_
            have q348 : (ji8) < (y340.length : Int) := of_decide_eq_true As_
            obtain ⟨ad348, e348, hx348_0⟩ := Kd.at_int (Kd.R_reads' HO342.out).2.2 (ji8) p348 q348
            cases e348
            replace p348 := eq_true p348
            replace q348 := eq_true q348
            refine start_ (n := 14) (S := fun w' => w'.cell? ⟨gb337, 0, none⟩ = some (.int .i64 a0_0) ∧ w'.cell? ⟨gb337, 1, none⟩ = some (.slice A0_1 l0_1.length c0_1) ∧ w'.cell? ⟨gb337, 2, none⟩ = some (.string a0_2) ∧ w'.cell? (ad348.add ((ji8)).toNat) = some (.int .i64 (rd y340 (ji8)))) (ds := []) #[false, false, false, false, false, false, false, false, false, false, false, false, false, false] (by kernel_rfl) rfl rfl ⟨(blk_cell BK337.out 0).trans rfl, (blk_cell BK337.out 1).trans rfl, (blk_cell BK337.out 2).trans rfl, hx348_0⟩ (fun hHeld => ?_); refine with_tabW reredoslaw05_TypedNarrow.tab5 reredoslaw05_TypedNarrow.bits5 (fun HT_ HW_ => ?_)
            generalize w119.drew = w121 at HO342 BK337 HB hx348_0 hHeld ⊢
            refine pu_ 2 (some 28) HT_ #[false, false, true, false, false, false, false, false, false, false, false, false, false, false] ?_
            refine pu_ 3 (some 29) HT_ #[false, false, true, true, false, false, false, false, false, false, false, false, false, false] ?_
            refine pu_ 4 (some 30) HT_ #[false, false, true, true, true, false, false, false, false, false, false, false, false, false] ?_
            refine pu_ 5 (some 31) HT_ #[false, false, true, true, true, true, false, false, false, false, false, false, false, false] ?_
            refine take_ (i := 0) (N := some 26) (v := ?_) (a' := ?_) #[true, false, true, true, true, true, false, false, false, false, false, false, false, false] rfl rfl (take_ofW HT_.out HW_.out (by kernel_rfl)) (fun _ _ _ h => h) (Or.inl ⟨by rfl, ?_⟩) hHeld ?_ ?_
            rotate_left
            · rintro w' ⟨s0, s1, s2, s3⟩
              go_simp
              with_reducible rfl
            rotate_left
            · simp only [Act.put, List.setIfInBounds_toArray, List.set_cons_zero, List.set_cons_succ, i64_w, i32_w]
              rfl
            refine take_ (i := 6) (N := some 32) (v := ?_) (a' := ?_) #[true, false, true, true, true, true, true, false, false, false, false, false, false, false] rfl rfl (take_ofW HT_.out HW_.out (by kernel_rfl)) (fun _ _ _ h => h) (Or.inl ⟨by rfl, ?_⟩) hHeld ?_ ?_
            rotate_left
            · rintro w' ⟨s0, s1, s2, s3⟩
              go_simp
              with_reducible rfl
            rotate_left
            · simp only [Act.put, List.setIfInBounds_toArray, List.set_cons_zero, List.set_cons_succ, i64_w, i32_w]
              rfl
            refine join_ (σ := Value × Value × Nat) 2 #[true, true, true, true, true, true, true, true, true, true, true, true, false, false] (fun s_ => [(27, .agg #[.int .i64 t343, s_.1, .string t347]), (33, .tuple #[.agg #[.int .i64 t349, s_.2.1, .string t353], .bool false]), (9, .pointer (some ⟨s_.2.2, 0, none⟩)), (25, .tuple #[.agg #[.int .i64 t349, s_.2.1, .string t353], .bool false]), (34, .agg #[.int .i64 t349, s_.2.1, .string t353]), (35, .bool false)]) (fun s_ w' => (w'.cell? ⟨gb337, 0, none⟩ = some (.int .i64 a0_0) ∧ w'.cell? ⟨gb337, 1, none⟩ = some (.slice A0_1 l0_1.length c0_1) ∧ w'.cell? ⟨gb337, 2, none⟩ = some (.string a0_2) ∧ w'.cell? (ad348.add ((ji8)).toNat) = some (.int .i64 (rd y340 (ji8)))) ∧ (Kd.R (Kd.int .i64) 3 w' w.heap.size (fun k_ => some k_ ≠ (s_.2.1 : Value).ownBlock) (.slice (some ad348) y340.length co122) y340) ∧ (Kd.V (Kd.int .i64) 3 w' w.heap.size (fun k_ => some k_ ≠ (.slice (some ad348) y340.length co122 : Value).ownBlock ∧ some k_ ≠ (s_.2.1 : Value).ownBlock ∧ k_ ≠ gb337 ∧ k_ ≠ s_.2.2) s_.1 t344) ∧ (Kd.R (Kd.int .i64) 3 w' w.heap.size (fun k_ => some k_ ≠ (.slice (some ad348) y340.length co122 : Value).ownBlock) s_.2.1 t350) ∧ (w'.heap[gb337]? = some (.cells #[.int .i64 a0_0, .slice A0_1 l0_1.length c0_1, .string a0_2] 33 (0, 0))) ∧ (w'.heap[s_.2.2]? = some (.cells #[.int .i64 0, .slice none 0 0, .string (⟨#[]⟩ : ByteArray)] 29 (0, 0))) ∧ (w.heap.size ≤ s_.2.2) ∧ (w.heap.size ≤ s_.2.2) ∧ (gb337 ≠ s_.2.2) ∧ (s_.2.2 ≠ gb337) ∧ (Below w.heap.size w w')) ?_ ?_
            rotate_left
            · intro hCont
              refine two_ (i := 1) (j := 11) (Ni := some 27) (Nj := some 9) #[true, true, true, true, true, true, true, false, false, false, false, false, false, false] #[true, false, true, true, true, true, true, false, false, false, false, true, false, false] rfl rfl rfl rfl (two_of HT_.out (by kernel_rfl)) (by decide) (by decide) (fun K hK => ?_) (fun K hK => ?_)
              · skip
                refine goes_ Tryd.func15 (by kernel_rfl) rfl #[.agg #[.int .i64 a0_0, .slice A0_1 l0_1.length c0_1, .string a0_2]] (by rfl) rfl rfl Ga_ ?_
                with_reducible refine (reredoslaw05_made.calls a0_0 (fun k_ => k_ < w.heap.size) _ _ l0_1 a0_2 t343 t344 t347 _ ?side1 A7.out).mono ?_
                (case side1 => exact Kd.V_mk HC0_1.out (Kd.F_below (Kd.C_F (Kd.heap_int .i64) HR0_1.out) Bl_))
                rintro e w123 ⟨v345, rfl, ho0, hb⟩
                have HS3_ := (hb.cell (World.block_lt_of_cell? _ _ (hHeld.2.2.2))).trans (hHeld.2.2.2)
                refine ⟨_, rfl, ?_⟩
                have HO346 := Aside0.mk (Kd.V_lower (Kd.V_mono (ok' := fun k_ => some k_ ≠ (.slice (some ad348) y340.length co122 : Value).ownBlock ∧ k_ ≠ gb337) ho0 (fun k_ hk_ => ⟨Or.elim hk_ (fun hs_ => fun e_ => Nat.not_le.2 hs_ (Kd.R_base HO342.out k_ e_.symm)) (fun hn_ => (Kd.fresh' (Kd.R_lt (Pr_ HO342.out)) k_ hn_)), Or.elim hk_ (fun hs_ => fun e_ => Nat.not_le.2 hs_ (by rw [e_]; exact GW337.out)) (fun hn_ => (Kd.freshB (g := gb337) (o := .cells #[.int .i64 a0_0, .slice A0_1 l0_1.length c0_1, .string a0_2] 33 (0, 0)) (Bk_ BK337.out) k_ hn_))⟩)) Bz_)
                replace HO342 := Aside0.mk (Kd.R_below (Pr_ HO342.out) hb)
                replace BK337 := kb_ BK337 hb
                replace HB := Bs_ hb
                (try clear hb)
                (try clear hb2)
                (try clear hk)
                (try clear hi)
                (try clear ho0)
                obtain ⟨Ao124, co124, eo124⟩ := Kd.V_slice HO346.out
                (first | subst eo124 | (injection eo124 with f1_ f2_ f3_; have f4_ := f1_.symm; have f5_ := f3_.symm; clear f1_ f2_ f3_; subst f4_; subst f5_))
                refine hK.out _ _ ⟨(blk_cell BK337.out 0).trans rfl, (blk_cell BK337.out 1).trans rfl, (blk_cell BK337.out 2).trans rfl, HS3_⟩ (fun hHeld => ?_)
                clear hK K
                refine norm_ (a' := ?_) ?_ ?_
                rotate_left
                · show Act.put _ (some 27) _ = _
                  simp only [Act.put, List.setIfInBounds_toArray, List.set_cons_zero, List.set_cons_succ, i64_w, i32_w]
                  rfl
                refine two_ (i := 7) (j := 11) (Ni := some 33) (Nj := some 9) #[true, true, true, true, true, true, true, true, false, false, false, false, false, false] #[true, true, true, true, true, true, true, false, false, false, false, true, false, false] rfl rfl rfl rfl (two_of HT_.out (by kernel_rfl)) (by decide) (by decide) (fun K hK => ?_) (fun K hK => ?_)
                · skip
                  refine goes_ Tryd.func16 (by kernel_rfl) rfl #[.agg #[.int .i64 t343, .slice Ao124 t344.length co124, .string t347], .int .i64 (rd y340 (ji8))] (by rfl) rfl rfl (by (try simp only [List.map_toArray, List.map_cons, List.map_nil]); first | done | (simp only [hji8]; rfl) | rfl | (simp only [List.length_drop, List.length_take]; rfl)) ?_
                  with_reducible refine (typed_Typed_To.calls k t343 _ _ t344 t347 (rd y340 (ji8)) t349 t350 t353 false _ ?side1 ?side2 A11.out).mono ?_
                  (case side1 => exact Pc_ ((Kd.V_reads' HO346.out).2.2))
                  (case side2 => exact (Kd.V_reads' HO346.out).2.1)
                  rintro e w125 ⟨v351, rfl, ho0, hb⟩
                  have HS3_ := (hb.cell (World.block_lt_of_cell? _ _ (hHeld.2.2.2))).trans (hHeld.2.2.2)
                  refine ⟨_, rfl, ?_⟩
                  replace HO346 := Aside0.mk (Kd.V_elder' (Pv_ HO346.out) (Kd.R_base ho0) hb)
                  have HO352 := Aside0.mk (Kd.R_lower (Kd.R_new' ho0 (Kd.R_lt (Pr_ HO342.out))) Bz_)
                  replace HO342 := Aside0.mk (Kd.R_elder' (Pr_ HO342.out) (Kd.R_base ho0) hb)
                  replace BK337 := kb_ BK337 hb
                  replace HB := Bs_ hb
                  (try clear hb)
                  (try clear hb2)
                  (try clear hk)
                  (try clear hi)
                  (try clear ho0)
                  refine hK.out _ _ ⟨(blk_cell BK337.out 0).trans rfl, (blk_cell BK337.out 1).trans rfl, (blk_cell BK337.out 2).trans rfl, HS3_⟩ (fun hHeld => ?_)
                  clear hK K
                  refine norm_ (a' := ?_) ?_ ?_
                  rotate_left
                  · show Act.put _ (some 33) _ = _
                    simp only [Act.put, List.setIfInBounds_toArray, List.set_cons_zero, List.set_cons_succ, i64_w, i32_w]
                    rfl
                  refine pu_ 8 (some 25) HT_ #[true, true, true, true, true, true, true, true, true, false, false, false, false, false] ?_
                  refine pu_ 9 (some 34) HT_ #[true, true, true, true, true, true, true, true, true, true, false, false, false, false] ?_
                  refine pu_ 10 (some 35) HT_ #[true, true, true, true, true, true, true, true, true, true, true, false, false, false] ?_
                  refine one_ (i := 11) (N := some 9) #[true, true, true, true, true, true, true, true, true, true, true, true, false, false] rfl rfl (one_of HT_.out (by kernel_rfl)) (by decide) (fun K hK => ?_)
                  refine box_step ?hg (N := 9) ?hd (cs := #[.int .i64 0, .slice none 0 0, .string (⟨#[]⟩ : ByteArray)]) (t := 29) ?hr ?_; (case hd => rfl); (case hg => rfl); (case hr => first | (go_simp; done) | (go_simp; rfl))
                  intro gb355 hg w126 hbox hb
                  have HS3_ := (hb.cell (World.block_lt_of_cell? _ _ (hHeld.2.2.2))).trans (hHeld.2.2.2)
                  replace HO342 := Aside0.mk (Kd.R_below (Pr_ HO342.out) hb)
                  replace HO346 := Aside0.mk (Kd.V_below (Kd.V_elderB (Pv_ HO346.out) gb355 (Nat.le_of_eq hg.symm)) hb)
                  replace HO352 := Aside0.mk (Kd.R_below (Pr_ HO352.out) hb)
                  have BK355 := Aside0.mk (hbox)
                  have GW355 := (Bg_ hg : Aside0 (w.heap.size ≤ gb355))
                  have GE355 := (Bg_ hg : Aside0 (w.heap.size ≤ gb355))
                  replace HB := Bs_ hb
                  have NB337_355 := nl_ hg BK337
                  have NB355_337 := ng_ hg BK337
                  replace BK337 := kb_ BK337 hb
                  clear hb hbox hg
                  refine hK.out _ _ ⟨(blk_cell BK337.out 0).trans rfl, (blk_cell BK337.out 1).trans rfl, (blk_cell BK337.out 2).trans rfl, HS3_⟩ (fun hHeld => ?_)
                  clear hK K
                  refine norm_ (a' := ?_) ?_ ?_
                  rotate_left
                  · show Act.put _ (some 9) _ = _
                    simp only [Act.put, List.setIfInBounds_toArray, List.set_cons_zero, List.set_cons_succ, i64_w, i32_w]
                    rfl
                  exact norm_ (by simp only [putAll, Act.put, List.setIfInBounds_toArray, List.set_cons_zero, List.set_cons_succ]) (hCont (.slice Ao124 t344.length co124, v351, gb355) _ ⟨hHeld, (by (with_reducible repeat (first | apply Kd.R_alloc | apply Kd.R_drewN | apply Kd.R_drew)); exact Kd.R_mono HO342.out (fun _ hk => hk.2)), (by (with_reducible repeat (first | apply Kd.V_alloc | apply Kd.V_drewN | apply Kd.V_drew)); exact Kd.V_mono HO346.out (fun _ hk => ⟨hk.1.1.1, ⟨hk.1.2, ⟨hk.1.1.2, hk.2⟩⟩⟩)), (by (with_reducible repeat (first | apply Kd.R_alloc | apply Kd.R_drewN | apply Kd.R_drew)); exact Kd.R_mono HO352.out (fun _ hk => hk.2)), (Bk_ BK337.out), (Bk_ BK355.out), GW355.out, GE355.out, NB337_355.out, NB355_337.out, Bl_⟩)
                · skip
                  refine box_step ?hg (N := 9) ?hd (cs := #[.int .i64 0, .slice none 0 0, .string (⟨#[]⟩ : ByteArray)]) (t := 29) ?hr ?_; (case hd => rfl); (case hg => rfl); (case hr => first | (go_simp; done) | (go_simp; rfl))
                  intro gb355 hg w124 hbox hb
                  have HS3_ := (hb.cell (World.block_lt_of_cell? _ _ (hHeld.2.2.2))).trans (hHeld.2.2.2)
                  replace HO342 := Aside0.mk (Kd.R_below (Pr_ HO342.out) hb)
                  replace HO346 := Aside0.mk (Kd.V_below (Kd.V_elderB (Pv_ HO346.out) gb355 (Nat.le_of_eq hg.symm)) hb)
                  have BK355 := Aside0.mk (hbox)
                  have GW355 := (Bg_ hg : Aside0 (w.heap.size ≤ gb355))
                  have GE355 := (Bg_ hg : Aside0 (w.heap.size ≤ gb355))
                  replace HB := Bs_ hb
                  have NB337_355 := nl_ hg BK337
                  have NB355_337 := ng_ hg BK337
                  replace BK337 := kb_ BK337 hb
                  clear hb hbox hg
                  obtain ⟨Ao125, co125, eo125⟩ := Kd.V_slice HO346.out
                  (first | subst eo125 | (injection eo125 with f1_ f2_ f3_; have f4_ := f1_.symm; have f5_ := f3_.symm; clear f1_ f2_ f3_; subst f4_; subst f5_))
                  refine hK.out _ _ ⟨(blk_cell BK337.out 0).trans rfl, (blk_cell BK337.out 1).trans rfl, (blk_cell BK337.out 2).trans rfl, HS3_⟩ (fun hHeld => ?_)
                  clear hK K
                  refine norm_ (a' := ?_) ?_ ?_
                  rotate_left
                  · show Act.put _ (some 9) _ = _
                    simp only [Act.put, List.setIfInBounds_toArray, List.set_cons_zero, List.set_cons_succ, i64_w, i32_w]
                    rfl
                  refine one_ (i := 7) (N := some 33) #[true, true, true, true, true, true, true, true, false, false, false, true, false, false] rfl rfl (one_of HT_.out (by kernel_rfl)) (by decide) (fun K hK => ?_)
                  refine goes_ Tryd.func16 (by kernel_rfl) rfl #[.agg #[.int .i64 t343, .slice Ao125 t344.length co125, .string t347], .int .i64 (rd y340 (ji8))] (by rfl) rfl rfl (by (try simp only [List.map_toArray, List.map_cons, List.map_nil]); first | done | (simp only [hji8]; rfl) | rfl | (simp only [List.length_drop, List.length_take]; rfl)) ?_
                  with_reducible refine (typed_Typed_To.calls k t343 _ _ t344 t347 (rd y340 (ji8)) t349 t350 t353 false _ ?side1 ?side2 A11.out).mono ?_
                  (case side1 => exact Pc_ ((Kd.V_reads' HO346.out).2.2))
                  (case side2 => exact (Kd.V_reads' HO346.out).2.1)
                  rintro e w126 ⟨v351, rfl, ho0, hb⟩
                  have HS3_ := (hb.cell (World.block_lt_of_cell? _ _ (hHeld.2.2.2))).trans (hHeld.2.2.2)
                  refine ⟨_, rfl, ?_⟩
                  replace HO346 := Aside0.mk (Kd.V_elder' (Pv_ HO346.out) (Kd.R_base ho0) hb)
                  have HO352 := Aside0.mk (Kd.R_lower (Kd.R_new' ho0 (Kd.R_lt (Pr_ HO342.out))) Bz_)
                  replace HO342 := Aside0.mk (Kd.R_elder' (Pr_ HO342.out) (Kd.R_base ho0) hb)
                  replace BK337 := kb_ BK337 hb
                  replace BK355 := kb_ BK355 hb
                  replace HB := Bs_ hb
                  (try clear hb)
                  (try clear hb2)
                  (try clear hk)
                  (try clear hi)
                  (try clear ho0)
                  refine hK.out _ _ ⟨(blk_cell BK337.out 0).trans rfl, (blk_cell BK337.out 1).trans rfl, (blk_cell BK337.out 2).trans rfl, HS3_⟩ (fun hHeld => ?_)
                  clear hK K
                  refine norm_ (a' := ?_) ?_ ?_
                  rotate_left
                  · show Act.put _ (some 33) _ = _
                    simp only [Act.put, List.setIfInBounds_toArray, List.set_cons_zero, List.set_cons_succ, i64_w, i32_w]
                    rfl
                  refine pu_ 8 (some 25) HT_ #[true, true, true, true, true, true, true, true, true, false, false, true, false, false] ?_
                  refine pu_ 9 (some 34) HT_ #[true, true, true, true, true, true, true, true, true, true, false, true, false, false] ?_
                  refine pu_ 10 (some 35) HT_ #[true, true, true, true, true, true, true, true, true, true, true, true, false, false] ?_
                  exact norm_ (by simp only [putAll, Act.put, List.setIfInBounds_toArray, List.set_cons_zero, List.set_cons_succ]) (hCont (.slice Ao125 t344.length co125, v351, gb355) _ ⟨hHeld, (by (with_reducible repeat (first | apply Kd.R_alloc | apply Kd.R_drewN | apply Kd.R_drew)); exact Kd.R_mono HO342.out (fun _ hk => hk.2)), (by (with_reducible repeat (first | apply Kd.V_alloc | apply Kd.V_drewN | apply Kd.V_drew)); exact Kd.V_mono HO346.out (fun _ hk => ⟨hk.1.1.1, ⟨hk.2, ⟨hk.1.1.2, hk.1.2⟩⟩⟩)), (by (with_reducible repeat (first | apply Kd.R_alloc | apply Kd.R_drewN | apply Kd.R_drew)); exact Kd.R_mono HO352.out (fun _ hk => hk.2)), (Bk_ BK337.out), (Bk_ BK355.out), GW355.out, GE355.out, NB337_355.out, NB355_337.out, Bl_⟩)
              · skip
                refine box_step ?hg (N := 9) ?hd (cs := #[.int .i64 0, .slice none 0 0, .string (⟨#[]⟩ : ByteArray)]) (t := 29) ?hr ?_; (case hd => rfl); (case hg => rfl); (case hr => first | (go_simp; done) | (go_simp; rfl))
                intro gb355 hg w123 hbox hb
                have HS3_ := (hb.cell (World.block_lt_of_cell? _ _ (hHeld.2.2.2))).trans (hHeld.2.2.2)
                replace HO342 := Aside0.mk (Kd.R_below (Pr_ HO342.out) hb)
                have BK355 := Aside0.mk (hbox)
                have GW355 := (Bg_ hg : Aside0 (w.heap.size ≤ gb355))
                have GE355 := (Bg_ hg : Aside0 (w.heap.size ≤ gb355))
                replace HB := Bs_ hb
                have NB337_355 := nl_ hg BK337
                have NB355_337 := ng_ hg BK337
                replace BK337 := kb_ BK337 hb
                clear hb hbox hg
                refine hK.out _ _ ⟨(blk_cell BK337.out 0).trans rfl, (blk_cell BK337.out 1).trans rfl, (blk_cell BK337.out 2).trans rfl, HS3_⟩ (fun hHeld => ?_)
                clear hK K
                refine norm_ (a' := ?_) ?_ ?_
                rotate_left
                · show Act.put _ (some 9) _ = _
                  simp only [Act.put, List.setIfInBounds_toArray, List.set_cons_zero, List.set_cons_succ, i64_w, i32_w]
                  rfl
                refine one_ (i := 1) (N := some 27) #[true, true, true, true, true, true, true, false, false, false, false, true, false, false] rfl rfl (one_of HT_.out (by kernel_rfl)) (by decide) (fun K hK => ?_)
                refine goes_ Tryd.func15 (by kernel_rfl) rfl #[.agg #[.int .i64 a0_0, .slice A0_1 l0_1.length c0_1, .string a0_2]] (by rfl) rfl rfl Ga_ ?_
                with_reducible refine (reredoslaw05_made.calls a0_0 (fun k_ => k_ < w.heap.size) _ _ l0_1 a0_2 t343 t344 t347 _ ?side1 A7.out).mono ?_
                (case side1 => exact Kd.V_mk HC0_1.out (Kd.F_below (Kd.C_F (Kd.heap_int .i64) HR0_1.out) Bl_))
                rintro e w124 ⟨v345, rfl, ho0, hb⟩
                have HS3_ := (hb.cell (World.block_lt_of_cell? _ _ (hHeld.2.2.2))).trans (hHeld.2.2.2)
                refine ⟨_, rfl, ?_⟩
                have HO346 := Aside0.mk (Kd.V_lower (Kd.V_mono (ok' := fun k_ => some k_ ≠ (.slice (some ad348) y340.length co122 : Value).ownBlock ∧ k_ ≠ gb337 ∧ k_ ≠ gb355) ho0 (fun k_ hk_ => ⟨Or.elim hk_ (fun hs_ => fun e_ => Nat.not_le.2 hs_ (Kd.R_base HO342.out k_ e_.symm)) (fun hn_ => (Kd.fresh' (Kd.R_lt (Pr_ HO342.out)) k_ hn_)), Or.elim hk_ (fun hs_ => fun e_ => Nat.not_le.2 hs_ (by rw [e_]; exact GW337.out)) (fun hn_ => (Kd.freshB (g := gb337) (o := .cells #[.int .i64 a0_0, .slice A0_1 l0_1.length c0_1, .string a0_2] 33 (0, 0)) (Bk_ BK337.out) k_ hn_)), Or.elim hk_ (fun hs_ => fun e_ => Nat.not_le.2 hs_ (by rw [e_]; exact GW355.out)) (fun hn_ => (Kd.freshB (g := gb355) (o := .cells #[.int .i64 0, .slice none 0 0, .string (⟨#[]⟩ : ByteArray)] 29 (0, 0)) (Bk_ BK355.out) k_ hn_))⟩)) Bz_)
                replace HO342 := Aside0.mk (Kd.R_below (Pr_ HO342.out) hb)
                replace BK337 := kb_ BK337 hb
                replace BK355 := kb_ BK355 hb
                replace HB := Bs_ hb
                (try clear hb)
                (try clear hb2)
                (try clear hk)
                (try clear hi)
                (try clear ho0)
                obtain ⟨Ao125, co125, eo125⟩ := Kd.V_slice HO346.out
                (first | subst eo125 | (injection eo125 with f1_ f2_ f3_; have f4_ := f1_.symm; have f5_ := f3_.symm; clear f1_ f2_ f3_; subst f4_; subst f5_))
                refine hK.out _ _ ⟨(blk_cell BK337.out 0).trans rfl, (blk_cell BK337.out 1).trans rfl, (blk_cell BK337.out 2).trans rfl, HS3_⟩ (fun hHeld => ?_)
                clear hK K
                refine norm_ (a' := ?_) ?_ ?_
                rotate_left
                · show Act.put _ (some 27) _ = _
                  simp only [Act.put, List.setIfInBounds_toArray, List.set_cons_zero, List.set_cons_succ, i64_w, i32_w]
                  rfl
                refine one_ (i := 7) (N := some 33) #[true, true, true, true, true, true, true, true, false, false, false, true, false, false] rfl rfl (one_of HT_.out (by kernel_rfl)) (by decide) (fun K hK => ?_)
                refine goes_ Tryd.func16 (by kernel_rfl) rfl #[.agg #[.int .i64 t343, .slice Ao125 t344.length co125, .string t347], .int .i64 (rd y340 (ji8))] (by rfl) rfl rfl (by (try simp only [List.map_toArray, List.map_cons, List.map_nil]); first | done | (simp only [hji8]; rfl) | rfl | (simp only [List.length_drop, List.length_take]; rfl)) ?_
                with_reducible refine (typed_Typed_To.calls k t343 _ _ t344 t347 (rd y340 (ji8)) t349 t350 t353 false _ ?side1 ?side2 A11.out).mono ?_
                (case side1 => exact Pc_ ((Kd.V_reads' HO346.out).2.2))
                (case side2 => exact (Kd.V_reads' HO346.out).2.1)
                rintro e w126 ⟨v351, rfl, ho0, hb⟩
                have HS3_ := (hb.cell (World.block_lt_of_cell? _ _ (hHeld.2.2.2))).trans (hHeld.2.2.2)
                refine ⟨_, rfl, ?_⟩
                replace HO346 := Aside0.mk (Kd.V_elder' (Pv_ HO346.out) (Kd.R_base ho0) hb)
                have HO352 := Aside0.mk (Kd.R_lower (Kd.R_new' ho0 (Kd.R_lt (Pr_ HO342.out))) Bz_)
                replace HO342 := Aside0.mk (Kd.R_elder' (Pr_ HO342.out) (Kd.R_base ho0) hb)
                replace BK337 := kb_ BK337 hb
                replace BK355 := kb_ BK355 hb
                replace HB := Bs_ hb
                (try clear hb)
                (try clear hb2)
                (try clear hk)
                (try clear hi)
                (try clear ho0)
                refine hK.out _ _ ⟨(blk_cell BK337.out 0).trans rfl, (blk_cell BK337.out 1).trans rfl, (blk_cell BK337.out 2).trans rfl, HS3_⟩ (fun hHeld => ?_)
                clear hK K
                refine norm_ (a' := ?_) ?_ ?_
                rotate_left
                · show Act.put _ (some 33) _ = _
                  simp only [Act.put, List.setIfInBounds_toArray, List.set_cons_zero, List.set_cons_succ, i64_w, i32_w]
                  rfl
                refine pu_ 8 (some 25) HT_ #[true, true, true, true, true, true, true, true, true, false, false, true, false, false] ?_
                refine pu_ 9 (some 34) HT_ #[true, true, true, true, true, true, true, true, true, true, false, true, false, false] ?_
                refine pu_ 10 (some 35) HT_ #[true, true, true, true, true, true, true, true, true, true, true, true, false, false] ?_
                exact norm_ (by simp only [putAll, Act.put, List.setIfInBounds_toArray, List.set_cons_zero, List.set_cons_succ]) (hCont (.slice Ao125 t344.length co125, v351, gb355) _ ⟨hHeld, (by (with_reducible repeat (first | apply Kd.R_alloc | apply Kd.R_drewN | apply Kd.R_drew)); exact Kd.R_mono HO342.out (fun _ hk => hk.2)), (by (with_reducible repeat (first | apply Kd.V_alloc | apply Kd.V_drewN | apply Kd.V_drew)); exact Kd.V_mono HO346.out (fun _ hk => ⟨hk.1.1, ⟨hk.2, ⟨hk.1.2.1, hk.1.2.2⟩⟩⟩)), (by (with_reducible repeat (first | apply Kd.R_alloc | apply Kd.R_drewN | apply Kd.R_drew)); exact Kd.R_mono HO352.out (fun _ hk => hk.2)), (Bk_ BK337.out), (Bk_ BK355.out), GW355.out, GE355.out, NB337_355.out, NB355_337.out, Bl_⟩)
            rintro ⟨v345, v351, gb355⟩ w127 ⟨hS_, h0_, h1_, h2_, h3_, h4_, h5_, h6_, h7_, h8_, h9_⟩
            have n0_ : Aside0 (Kd.R (Kd.int .i64) 3 w127 w.heap.size (fun k_ => some k_ ≠ (v351 : Value).ownBlock) (.slice (some ad348) y340.length co122) y340) := ⟨h0_⟩
            have n1_ : Aside0 (Kd.V (Kd.int .i64) 3 w127 w.heap.size (fun k_ => some k_ ≠ (.slice (some ad348) y340.length co122 : Value).ownBlock ∧ some k_ ≠ (v351 : Value).ownBlock ∧ k_ ≠ gb337 ∧ k_ ≠ gb355) v345 t344) := ⟨h1_⟩
            have n2_ : Aside0 (Kd.R (Kd.int .i64) 3 w127 w.heap.size (fun k_ => some k_ ≠ (.slice (some ad348) y340.length co122 : Value).ownBlock) v351 t350) := ⟨h2_⟩
            have n3_ : Aside0 (w127.heap[gb337]? = some (.cells #[.int .i64 a0_0, .slice A0_1 l0_1.length c0_1, .string a0_2] 33 (0, 0))) := ⟨h3_⟩
            have n4_ : Aside0 (w127.heap[gb355]? = some (.cells #[.int .i64 0, .slice none 0 0, .string (⟨#[]⟩ : ByteArray)] 29 (0, 0))) := ⟨h4_⟩
            have n5_ : Aside0 (w.heap.size ≤ gb355) := ⟨h5_⟩
            have n6_ : Aside0 (w.heap.size ≤ gb355) := ⟨h6_⟩
            have n7_ : Aside0 (gb337 ≠ gb355) := ⟨h7_⟩
            have n8_ : Aside0 (gb355 ≠ gb337) := ⟨h8_⟩
            have n9_ : Aside0 (Below w.heap.size w w127) := ⟨h9_⟩
            clear HO342
            clear BK337
            clear HB
            clear h0_ h1_ h2_ h3_ h4_ h5_ h6_ h7_ h8_ h9_
            have HO342 := n0_
            have HO346 := n1_
            have HO352 := n2_
            have BK337 := n3_
            have BK355 := n4_
            have GW355 := n5_
            have GE355 := n6_
            have NB337_355 := n7_
            have NB355_337 := n8_
            have HB := n9_
            clear n0_ n1_ n2_ n3_ n4_ n5_ n6_ n7_ n8_ n9_
            have hHeld : w127.cell? ⟨gb337, 0, none⟩ = some (.int .i64 a0_0) ∧ w127.cell? ⟨gb337, 1, none⟩ = some (.slice A0_1 l0_1.length c0_1) ∧ w127.cell? ⟨gb337, 2, none⟩ = some (.string a0_2) ∧ w127.cell? (ad348.add ((ji8)).toNat) = some (.int .i64 (rd y340 (ji8))) := hS_
            obtain ⟨Ao129, co129, eo129⟩ := Kd.R_slice HO352.out
            (first | subst eo129 | (injection eo129 with f1_ f2_ f3_; have f4_ := f1_.symm; have f5_ := f3_.symm; clear f1_ f2_ f3_; subst f4_; subst f5_))
            refine norm_ (a' := ?_) ?_ ?_
            rotate_left
            · simp only [putAll, Act.put, List.setIfInBounds_toArray, List.set_cons_zero, List.set_cons_succ]
              rfl
            refine one_ (i := 12) (N := none) #[true, true, true, true, true, true, true, true, true, true, true, true, true, false] rfl rfl (one_of HT_.out (by kernel_rfl)) (by decide) (fun K hK => ?_)
            have hs128 : w127.cell? ⟨gb355, 0, none⟩ = some (.int .i64 0) := (blk_cell BK355.out 0).trans rfl
            have hfs128 := blk_frozen BK355.out 0
            have hns128_0 := NB337_355.out
            have hms128_0 := NB355_337.out
            have hs130 : w127.cell? ⟨gb355, 1, none⟩ = some (.slice none 0 0) := (blk_cell BK355.out 1).trans rfl
            have hfs130 := blk_frozen BK355.out 1
            have hns130_0 := NB337_355.out
            have hms130_0 := NB355_337.out
            have hs131 : w127.cell? ⟨gb355, 2, none⟩ = some (.string (⟨#[]⟩ : ByteArray)) := (blk_cell BK355.out 2).trans rfl
            have hfs131 := blk_frozen BK355.out 2
            have hns131_0 := NB337_355.out
            have hms131_0 := NB355_337.out
            refine skip_ (w1 := ?_) (by rfl) rfl ?_ ?_
            rotate_left
            · go_simp
              rfl
            refine hK.out _ _ ⟨((cell_far (p := ⟨gb355, _, none⟩) NB337_355.out _).trans (((cell_far (p := ⟨gb355, _, none⟩) NB337_355.out _).trans (((cell_far (p := ⟨gb355, _, none⟩) NB337_355.out _).trans (hHeld.1)))))), ((cell_far (p := ⟨gb355, _, none⟩) NB337_355.out _).trans (((cell_far (p := ⟨gb355, _, none⟩) NB337_355.out _).trans (((cell_far (p := ⟨gb355, _, none⟩) NB337_355.out _).trans (hHeld.2.1)))))), ((cell_far (p := ⟨gb355, _, none⟩) NB337_355.out _).trans (((cell_far (p := ⟨gb355, _, none⟩) NB337_355.out _).trans (((cell_far (p := ⟨gb355, _, none⟩) NB337_355.out _).trans (hHeld.2.2.1)))))), ((cell_far (p := ⟨gb355, _, none⟩) (by first | exact Kd.own_blk (Kd.R_ne HO342.out BK355.out (by decide)) | (rw [add_block]; exact Kd.own_blk (Kd.R_ne HO342.out BK355.out (by decide))) | (show (Addr.add _ _).block ≠ _; rw [add_block]; exact Kd.own_blk (Kd.R_ne HO342.out BK355.out (by decide))) | (dsimp only; exact Kd.own_blk (Kd.R_ne HO342.out BK355.out (by decide)))) _).trans (((cell_far (p := ⟨gb355, _, none⟩) (by first | exact Kd.own_blk (Kd.R_ne HO342.out BK355.out (by decide)) | (rw [add_block]; exact Kd.own_blk (Kd.R_ne HO342.out BK355.out (by decide))) | (show (Addr.add _ _).block ≠ _; rw [add_block]; exact Kd.own_blk (Kd.R_ne HO342.out BK355.out (by decide))) | (dsimp only; exact Kd.own_blk (Kd.R_ne HO342.out BK355.out (by decide)))) _).trans (((cell_far (p := ⟨gb355, _, none⟩) (by first | exact Kd.own_blk (Kd.R_ne HO342.out BK355.out (by decide)) | (rw [add_block]; exact Kd.own_blk (Kd.R_ne HO342.out BK355.out (by decide))) | (show (Addr.add _ _).block ≠ _; rw [add_block]; exact Kd.own_blk (Kd.R_ne HO342.out BK355.out (by decide))) | (dsimp only; exact Kd.own_blk (Kd.R_ne HO342.out BK355.out (by decide)))) _).trans (hHeld.2.2.2))))))⟩ (fun hHeld => ?_)
            clear hK K
            refine pu_ 13 (some 10) HT_ #[true, true, true, true, true, true, true, true, true, true, true, true, true, true] ?_
            refine done_ (done_of HT_.out (by kernel_rfl)) ?_
            have hnb132 := NB355_337.out
            have hnc132 := NB337_355.out
            obtain ⟨hcz133_0, hcz133_1, hcz133_2⟩ := c3_ BK355
            obtain ⟨hfz133_0, hfz133_1, hfz133_2⟩ := f3_ BK355
            try go_wp2
            go_ret
            exact ⟨by first | rfl | (simp [errW_none, errW_some] <;> rfl) | (simp only [← hji8]; first | rfl | (simp [errW_none, errW_some] <;> rfl)) | (simp [*, errW_none, errW_some] <;> rfl), Bl_⟩
          · rw [if_neg c114] at H
            have c114b0 : (t353.toList == ([] : List UInt8)) = false := beq_eq_false_iff_ne.mpr c114
            have c114b1 : (t353.toList != ([] : List UInt8)) = true := bne_iff_ne.mpr c114
            obtain rfl := Option.some.inj H
            go_enter Tryd.func4, Tryd.ntmps4
            try go_wp2_with (first | ((with_reducible refine gate_dst (N := 3) rfl ?_); refine bx_ 3 #[.int .i64 a0_0, .slice A0_1 l0_1.length c0_1, .string a0_2] 33 ?_; intro gb337 hg w134 hbox hb; have BK337 := Aside0.mk (hbox); have GW337 := (Bg_ hg : Aside0 (w.heap.size ≤ gb337)); have GE337 := (Bg_ hg : Aside0 (w.heap.size ≤ gb337)); replace HB := Bs_ hb; clear hb hbox hg) | ((with_reducible refine gate_callee (f := 9) rfl ?_); refine goesL_ (some 19) rfl rfl Tryd.func9 (by kernel_rfl) rfl #[] rfl Ga_ ?_; (with_reducible refine (reredoslaw05_shown.calls  true _ A4.out ?side1).mono ?_); (case side1 => first | exact hG | exact Glob.below hG Bl_); rintro e w135 ⟨rfl, hb⟩; refine ⟨_, rfl, ?_⟩; replace BK337 := kb_ BK337 hb; replace HB := Bs_ hb; (try clear hb); (try clear hb2); (try clear hk); (try clear hi); obtain ⟨hcz136_0, hcz136_1, hcz136_2⟩ := c3_ BK337; obtain ⟨hfz136_0, hfz136_1, hfz136_2⟩ := f3_ BK337) | ((with_reducible refine gate_callee (f := 14) rfl ?_); refine goesL_ (some 21) rfl rfl Tryd.func14 (by kernel_rfl) rfl #[.agg #[.int .i64 a0_0, .slice A0_1 l0_1.length c0_1, .string a0_2]] rfl Ga_ ?_; (with_reducible refine (reredoslaw05_few.calls a0_0 _ _ l0_1 a0_2 true _ ?side1 ?side2 A5.out).mono ?_); (case side1 => exact Pc_ (Kd.C_below HR0_1.out HB.out)); (case side2 => exact HC0_1.out); rintro e w137 ⟨rfl, hb⟩; refine ⟨_, rfl, ?_⟩; replace BK337 := kb_ BK337 hb; replace HB := Bs_ hb; (try clear hb); (try clear hb2); (try clear hk); (try clear hi)) | ((with_reducible refine gate_dst (N := 24) rfl ?_); refine Kd.R_lit (Kd.int .i64) _ 3 ?hg (N := 24) ?hd (xs := ([8, 16, 32, 64] : List Int)) (inner := [.int .i64 8, .int .i64 16, .int .i64 32, .int .i64 64]) (ok := fun _ => True) (okp := fun _ => True) ?hr ?hp (fun _ hk => hk) trivial (Below.refl _ _) (Nat.le_refl _) (by simp) ?_; (case hd => rfl); (case hg => rfl); (case hr => first | (go_simp; done) | (go_simp; rfl)); (case hp => exact (Reps.one (show Kd.M (Kd.int .i64) _ _ _ 8 [.int .i64 8] from rfl) (Reps.one (show Kd.M (Kd.int .i64) _ _ _ 16 [.int .i64 16] from rfl) (Reps.one (show Kd.M (Kd.int .i64) _ _ _ 32 [.int .i64 32] from rfl) (Reps.one (show Kd.M (Kd.int .i64) _ _ _ 64 [.int .i64 64] from rfl) (Reps.none _ _)))))); intro v341 w138 ho139 hb hg_ hnew_; clear hg_ hnew_; (first | rw [← Ny340.out] at ho139 | (simp only [Int.reduceToNat] at ho139; rw [← Ny340.out] at ho139)); have HO342 := Aside0.mk (Kd.R_lower ho139 Bz_); replace BK337 := kb_ BK337 hb; replace HB := Bs_ hb; clear hb ho139))
            replace HO342 := Aside0.mk (Kd.R_drew HO342.out)
            replace BK337 := Aside0.mk (blk_drew BK337.out)
            replace HB := Aside0.mk (below_drew1 HB.out)
            obtain ⟨Ao141, co141, eo141⟩ := Kd.R_slice HO342.out
            (first | subst eo141 | (injection eo141 with f1_ f2_ f3_; have f4_ := f1_.symm; have f5_ := f3_.symm; clear f1_ f2_ f3_; subst f4_; subst f5_))
            have p348 : 0 ≤ ((ji8) : Int) := of_decide_eq_true As_
            have q348 : (ji8) < (y340.length : Int) := of_decide_eq_true As_
            obtain ⟨ad348, e348, hx348_0⟩ := Kd.at_int (Kd.R_reads' HO342.out).2.2 (ji8) p348 q348
            cases e348
            replace p348 := eq_true p348
            replace q348 := eq_true q348
            refine start_ (n := 14) (S := fun w' => w'.cell? ⟨gb337, 0, none⟩ = some (.int .i64 a0_0) ∧ w'.cell? ⟨gb337, 1, none⟩ = some (.slice A0_1 l0_1.length c0_1) ∧ w'.cell? ⟨gb337, 2, none⟩ = some (.string a0_2) ∧ w'.cell? (ad348.add ((ji8)).toNat) = some (.int .i64 (rd y340 (ji8)))) (ds := []) #[false, false, false, false, false, false, false, false, false, false, false, false, false, false] (by kernel_rfl) rfl rfl ⟨(blk_cell BK337.out 0).trans rfl, (blk_cell BK337.out 1).trans rfl, (blk_cell BK337.out 2).trans rfl, hx348_0⟩ (fun hHeld => ?_); refine with_tabW reredoslaw05_TypedNarrow.tab5 reredoslaw05_TypedNarrow.bits5 (fun HT_ HW_ => ?_)
            generalize w138.drew = w140 at HO342 BK337 HB hx348_0 hHeld ⊢
            refine pu_ 2 (some 28) HT_ #[false, false, true, false, false, false, false, false, false, false, false, false, false, false] ?_
            refine pu_ 3 (some 29) HT_ #[false, false, true, true, false, false, false, false, false, false, false, false, false, false] ?_
            refine pu_ 4 (some 30) HT_ #[false, false, true, true, true, false, false, false, false, false, false, false, false, false] ?_
            refine pu_ 5 (some 31) HT_ #[false, false, true, true, true, true, false, false, false, false, false, false, false, false] ?_
            refine take_ (i := 0) (N := some 26) (v := ?_) (a' := ?_) #[true, false, true, true, true, true, false, false, false, false, false, false, false, false] rfl rfl (take_ofW HT_.out HW_.out (by kernel_rfl)) (fun _ _ _ h => h) (Or.inl ⟨by rfl, ?_⟩) hHeld ?_ ?_
            rotate_left
            · rintro w' ⟨s0, s1, s2, s3⟩
              go_simp
              with_reducible rfl
            rotate_left
            · simp only [Act.put, List.setIfInBounds_toArray, List.set_cons_zero, List.set_cons_succ, i64_w, i32_w]
              rfl
            refine take_ (i := 6) (N := some 32) (v := ?_) (a' := ?_) #[true, false, true, true, true, true, true, false, false, false, false, false, false, false] rfl rfl (take_ofW HT_.out HW_.out (by kernel_rfl)) (fun _ _ _ h => h) (Or.inl ⟨by rfl, ?_⟩) hHeld ?_ ?_
            rotate_left
            · rintro w' ⟨s0, s1, s2, s3⟩
              go_simp
              with_reducible rfl
            rotate_left
            · simp only [Act.put, List.setIfInBounds_toArray, List.set_cons_zero, List.set_cons_succ, i64_w, i32_w]
              rfl
            refine join_ (σ := Value × Value × Nat) 2 #[true, true, true, true, true, true, true, true, true, true, true, true, false, false] (fun s_ => [(27, .agg #[.int .i64 t343, s_.1, .string t347]), (33, .tuple #[.agg #[.int .i64 t349, s_.2.1, .string t353], .bool false]), (9, .pointer (some ⟨s_.2.2, 0, none⟩)), (25, .tuple #[.agg #[.int .i64 t349, s_.2.1, .string t353], .bool false]), (34, .agg #[.int .i64 t349, s_.2.1, .string t353]), (35, .bool false)]) (fun s_ w' => (w'.cell? ⟨gb337, 0, none⟩ = some (.int .i64 a0_0) ∧ w'.cell? ⟨gb337, 1, none⟩ = some (.slice A0_1 l0_1.length c0_1) ∧ w'.cell? ⟨gb337, 2, none⟩ = some (.string a0_2) ∧ w'.cell? (ad348.add ((ji8)).toNat) = some (.int .i64 (rd y340 (ji8)))) ∧ (Kd.R (Kd.int .i64) 3 w' w.heap.size (fun k_ => some k_ ≠ (s_.2.1 : Value).ownBlock) (.slice (some ad348) y340.length co141) y340) ∧ (Kd.V (Kd.int .i64) 3 w' w.heap.size (fun k_ => some k_ ≠ (.slice (some ad348) y340.length co141 : Value).ownBlock ∧ some k_ ≠ (s_.2.1 : Value).ownBlock ∧ k_ ≠ gb337 ∧ k_ ≠ s_.2.2) s_.1 t344) ∧ (Kd.R (Kd.int .i64) 3 w' w.heap.size (fun k_ => some k_ ≠ (.slice (some ad348) y340.length co141 : Value).ownBlock) s_.2.1 t350) ∧ (w'.heap[gb337]? = some (.cells #[.int .i64 a0_0, .slice A0_1 l0_1.length c0_1, .string a0_2] 33 (0, 0))) ∧ (w'.heap[s_.2.2]? = some (.cells #[.int .i64 0, .slice none 0 0, .string (⟨#[]⟩ : ByteArray)] 29 (0, 0))) ∧ (w.heap.size ≤ s_.2.2) ∧ (w.heap.size ≤ s_.2.2) ∧ (gb337 ≠ s_.2.2) ∧ (s_.2.2 ≠ gb337) ∧ (Below w.heap.size w w')) ?_ ?_
            rotate_left
            · intro hCont
              refine two_ (i := 1) (j := 11) (Ni := some 27) (Nj := some 9) #[true, true, true, true, true, true, true, false, false, false, false, false, false, false] #[true, false, true, true, true, true, true, false, false, false, false, true, false, false] rfl rfl rfl rfl (two_of HT_.out (by kernel_rfl)) (by decide) (by decide) (fun K hK => ?_) (fun K hK => ?_)
              · skip
                refine goes_ Tryd.func15 (by kernel_rfl) rfl #[.agg #[.int .i64 a0_0, .slice A0_1 l0_1.length c0_1, .string a0_2]] (by rfl) rfl rfl Ga_ ?_
                with_reducible refine (reredoslaw05_made.calls a0_0 (fun k_ => k_ < w.heap.size) _ _ l0_1 a0_2 t343 t344 t347 _ ?side1 A7.out).mono ?_
                (case side1 => exact Kd.V_mk HC0_1.out (Kd.F_below (Kd.C_F (Kd.heap_int .i64) HR0_1.out) Bl_))
                rintro e w142 ⟨v345, rfl, ho0, hb⟩
                have HS3_ := (hb.cell (World.block_lt_of_cell? _ _ (hHeld.2.2.2))).trans (hHeld.2.2.2)
                refine ⟨_, rfl, ?_⟩
                have HO346 := Aside0.mk (Kd.V_lower (Kd.V_mono (ok' := fun k_ => some k_ ≠ (.slice (some ad348) y340.length co141 : Value).ownBlock ∧ k_ ≠ gb337) ho0 (fun k_ hk_ => ⟨Or.elim hk_ (fun hs_ => fun e_ => Nat.not_le.2 hs_ (Kd.R_base HO342.out k_ e_.symm)) (fun hn_ => (Kd.fresh' (Kd.R_lt (Pr_ HO342.out)) k_ hn_)), Or.elim hk_ (fun hs_ => fun e_ => Nat.not_le.2 hs_ (by rw [e_]; exact GW337.out)) (fun hn_ => (Kd.freshB (g := gb337) (o := .cells #[.int .i64 a0_0, .slice A0_1 l0_1.length c0_1, .string a0_2] 33 (0, 0)) (Bk_ BK337.out) k_ hn_))⟩)) Bz_)
                replace HO342 := Aside0.mk (Kd.R_below (Pr_ HO342.out) hb)
                replace BK337 := kb_ BK337 hb
                replace HB := Bs_ hb
                (try clear hb)
                (try clear hb2)
                (try clear hk)
                (try clear hi)
                (try clear ho0)
                obtain ⟨Ao143, co143, eo143⟩ := Kd.V_slice HO346.out
                (first | subst eo143 | (injection eo143 with f1_ f2_ f3_; have f4_ := f1_.symm; have f5_ := f3_.symm; clear f1_ f2_ f3_; subst f4_; subst f5_))
                refine hK.out _ _ ⟨(blk_cell BK337.out 0).trans rfl, (blk_cell BK337.out 1).trans rfl, (blk_cell BK337.out 2).trans rfl, HS3_⟩ (fun hHeld => ?_)
                clear hK K
                refine norm_ (a' := ?_) ?_ ?_
                rotate_left
                · show Act.put _ (some 27) _ = _
                  simp only [Act.put, List.setIfInBounds_toArray, List.set_cons_zero, List.set_cons_succ, i64_w, i32_w]
                  rfl
                refine two_ (i := 7) (j := 11) (Ni := some 33) (Nj := some 9) #[true, true, true, true, true, true, true, true, false, false, false, false, false, false] #[true, true, true, true, true, true, true, false, false, false, false, true, false, false] rfl rfl rfl rfl (two_of HT_.out (by kernel_rfl)) (by decide) (by decide) (fun K hK => ?_) (fun K hK => ?_)
                · skip
                  refine goes_ Tryd.func16 (by kernel_rfl) rfl #[.agg #[.int .i64 t343, .slice Ao143 t344.length co143, .string t347], .int .i64 (rd y340 (ji8))] (by rfl) rfl rfl (by (try simp only [List.map_toArray, List.map_cons, List.map_nil]); first | done | (simp only [hji8]; rfl) | rfl | (simp only [List.length_drop, List.length_take]; rfl)) ?_
                  with_reducible refine (typed_Typed_To.calls k t343 _ _ t344 t347 (rd y340 (ji8)) t349 t350 t353 false _ ?side1 ?side2 A11.out).mono ?_
                  (case side1 => exact Pc_ ((Kd.V_reads' HO346.out).2.2))
                  (case side2 => exact (Kd.V_reads' HO346.out).2.1)
                  rintro e w144 ⟨v351, rfl, ho0, hb⟩
                  have HS3_ := (hb.cell (World.block_lt_of_cell? _ _ (hHeld.2.2.2))).trans (hHeld.2.2.2)
                  refine ⟨_, rfl, ?_⟩
                  replace HO346 := Aside0.mk (Kd.V_elder' (Pv_ HO346.out) (Kd.R_base ho0) hb)
                  have HO352 := Aside0.mk (Kd.R_lower (Kd.R_new' ho0 (Kd.R_lt (Pr_ HO342.out))) Bz_)
                  replace HO342 := Aside0.mk (Kd.R_elder' (Pr_ HO342.out) (Kd.R_base ho0) hb)
                  replace BK337 := kb_ BK337 hb
                  replace HB := Bs_ hb
                  (try clear hb)
                  (try clear hb2)
                  (try clear hk)
                  (try clear hi)
                  (try clear ho0)
                  refine hK.out _ _ ⟨(blk_cell BK337.out 0).trans rfl, (blk_cell BK337.out 1).trans rfl, (blk_cell BK337.out 2).trans rfl, HS3_⟩ (fun hHeld => ?_)
                  clear hK K
                  refine norm_ (a' := ?_) ?_ ?_
                  rotate_left
                  · show Act.put _ (some 33) _ = _
                    simp only [Act.put, List.setIfInBounds_toArray, List.set_cons_zero, List.set_cons_succ, i64_w, i32_w]
                    rfl
                  refine pu_ 8 (some 25) HT_ #[true, true, true, true, true, true, true, true, true, false, false, false, false, false] ?_
                  refine pu_ 9 (some 34) HT_ #[true, true, true, true, true, true, true, true, true, true, false, false, false, false] ?_
                  refine pu_ 10 (some 35) HT_ #[true, true, true, true, true, true, true, true, true, true, true, false, false, false] ?_
                  refine one_ (i := 11) (N := some 9) #[true, true, true, true, true, true, true, true, true, true, true, true, false, false] rfl rfl (one_of HT_.out (by kernel_rfl)) (by decide) (fun K hK => ?_)
                  refine box_step ?hg (N := 9) ?hd (cs := #[.int .i64 0, .slice none 0 0, .string (⟨#[]⟩ : ByteArray)]) (t := 29) ?hr ?_; (case hd => rfl); (case hg => rfl); (case hr => first | (go_simp; done) | (go_simp; rfl))
                  intro gb355 hg w145 hbox hb
                  have HS3_ := (hb.cell (World.block_lt_of_cell? _ _ (hHeld.2.2.2))).trans (hHeld.2.2.2)
                  replace HO342 := Aside0.mk (Kd.R_below (Pr_ HO342.out) hb)
                  replace HO346 := Aside0.mk (Kd.V_below (Kd.V_elderB (Pv_ HO346.out) gb355 (Nat.le_of_eq hg.symm)) hb)
                  replace HO352 := Aside0.mk (Kd.R_below (Pr_ HO352.out) hb)
                  have BK355 := Aside0.mk (hbox)
                  have GW355 := (Bg_ hg : Aside0 (w.heap.size ≤ gb355))
                  have GE355 := (Bg_ hg : Aside0 (w.heap.size ≤ gb355))
                  replace HB := Bs_ hb
                  have NB337_355 := nl_ hg BK337
                  have NB355_337 := ng_ hg BK337
                  replace BK337 := kb_ BK337 hb
                  clear hb hbox hg
                  refine hK.out _ _ ⟨(blk_cell BK337.out 0).trans rfl, (blk_cell BK337.out 1).trans rfl, (blk_cell BK337.out 2).trans rfl, HS3_⟩ (fun hHeld => ?_)
                  clear hK K
                  refine norm_ (a' := ?_) ?_ ?_
                  rotate_left
                  · show Act.put _ (some 9) _ = _
                    simp only [Act.put, List.setIfInBounds_toArray, List.set_cons_zero, List.set_cons_succ, i64_w, i32_w]
                    rfl
                  exact norm_ (by simp only [putAll, Act.put, List.setIfInBounds_toArray, List.set_cons_zero, List.set_cons_succ]) (hCont (.slice Ao143 t344.length co143, v351, gb355) _ ⟨hHeld, (by (with_reducible repeat (first | apply Kd.R_alloc | apply Kd.R_drewN | apply Kd.R_drew)); exact Kd.R_mono HO342.out (fun _ hk => hk.2)), (by (with_reducible repeat (first | apply Kd.V_alloc | apply Kd.V_drewN | apply Kd.V_drew)); exact Kd.V_mono HO346.out (fun _ hk => ⟨hk.1.1.1, ⟨hk.1.2, ⟨hk.1.1.2, hk.2⟩⟩⟩)), (by (with_reducible repeat (first | apply Kd.R_alloc | apply Kd.R_drewN | apply Kd.R_drew)); exact Kd.R_mono HO352.out (fun _ hk => hk.2)), (Bk_ BK337.out), (Bk_ BK355.out), GW355.out, GE355.out, NB337_355.out, NB355_337.out, Bl_⟩)
                · skip
                  refine box_step ?hg (N := 9) ?hd (cs := #[.int .i64 0, .slice none 0 0, .string (⟨#[]⟩ : ByteArray)]) (t := 29) ?hr ?_; (case hd => rfl); (case hg => rfl); (case hr => first | (go_simp; done) | (go_simp; rfl))
                  intro gb355 hg w143 hbox hb
                  have HS3_ := (hb.cell (World.block_lt_of_cell? _ _ (hHeld.2.2.2))).trans (hHeld.2.2.2)
                  replace HO342 := Aside0.mk (Kd.R_below (Pr_ HO342.out) hb)
                  replace HO346 := Aside0.mk (Kd.V_below (Kd.V_elderB (Pv_ HO346.out) gb355 (Nat.le_of_eq hg.symm)) hb)
                  have BK355 := Aside0.mk (hbox)
                  have GW355 := (Bg_ hg : Aside0 (w.heap.size ≤ gb355))
                  have GE355 := (Bg_ hg : Aside0 (w.heap.size ≤ gb355))
                  replace HB := Bs_ hb
                  have NB337_355 := nl_ hg BK337
                  have NB355_337 := ng_ hg BK337
                  replace BK337 := kb_ BK337 hb
                  clear hb hbox hg
                  obtain ⟨Ao144, co144, eo144⟩ := Kd.V_slice HO346.out
                  (first | subst eo144 | (injection eo144 with f1_ f2_ f3_; have f4_ := f1_.symm; have f5_ := f3_.symm; clear f1_ f2_ f3_; subst f4_; subst f5_))
                  refine hK.out _ _ ⟨(blk_cell BK337.out 0).trans rfl, (blk_cell BK337.out 1).trans rfl, (blk_cell BK337.out 2).trans rfl, HS3_⟩ (fun hHeld => ?_)
                  clear hK K
                  refine norm_ (a' := ?_) ?_ ?_
                  rotate_left
                  · show Act.put _ (some 9) _ = _
                    simp only [Act.put, List.setIfInBounds_toArray, List.set_cons_zero, List.set_cons_succ, i64_w, i32_w]
                    rfl
                  refine one_ (i := 7) (N := some 33) #[true, true, true, true, true, true, true, true, false, false, false, true, false, false] rfl rfl (one_of HT_.out (by kernel_rfl)) (by decide) (fun K hK => ?_)
                  refine goes_ Tryd.func16 (by kernel_rfl) rfl #[.agg #[.int .i64 t343, .slice Ao144 t344.length co144, .string t347], .int .i64 (rd y340 (ji8))] (by rfl) rfl rfl (by (try simp only [List.map_toArray, List.map_cons, List.map_nil]); first | done | (simp only [hji8]; rfl) | rfl | (simp only [List.length_drop, List.length_take]; rfl)) ?_
                  with_reducible refine (typed_Typed_To.calls k t343 _ _ t344 t347 (rd y340 (ji8)) t349 t350 t353 false _ ?side1 ?side2 A11.out).mono ?_
                  (case side1 => exact Pc_ ((Kd.V_reads' HO346.out).2.2))
                  (case side2 => exact (Kd.V_reads' HO346.out).2.1)
                  rintro e w145 ⟨v351, rfl, ho0, hb⟩
                  have HS3_ := (hb.cell (World.block_lt_of_cell? _ _ (hHeld.2.2.2))).trans (hHeld.2.2.2)
                  refine ⟨_, rfl, ?_⟩
                  replace HO346 := Aside0.mk (Kd.V_elder' (Pv_ HO346.out) (Kd.R_base ho0) hb)
                  have HO352 := Aside0.mk (Kd.R_lower (Kd.R_new' ho0 (Kd.R_lt (Pr_ HO342.out))) Bz_)
                  replace HO342 := Aside0.mk (Kd.R_elder' (Pr_ HO342.out) (Kd.R_base ho0) hb)
                  replace BK337 := kb_ BK337 hb
                  replace BK355 := kb_ BK355 hb
                  replace HB := Bs_ hb
                  (try clear hb)
                  (try clear hb2)
                  (try clear hk)
                  (try clear hi)
                  (try clear ho0)
                  refine hK.out _ _ ⟨(blk_cell BK337.out 0).trans rfl, (blk_cell BK337.out 1).trans rfl, (blk_cell BK337.out 2).trans rfl, HS3_⟩ (fun hHeld => ?_)
                  clear hK K
                  refine norm_ (a' := ?_) ?_ ?_
                  rotate_left
                  · show Act.put _ (some 33) _ = _
                    simp only [Act.put, List.setIfInBounds_toArray, List.set_cons_zero, List.set_cons_succ, i64_w, i32_w]
                    rfl
                  refine pu_ 8 (some 25) HT_ #[true, true, true, true, true, true, true, true, true, false, false, true, false, false] ?_
                  refine pu_ 9 (some 34) HT_ #[true, true, true, true, true, true, true, true, true, true, false, true, false, false] ?_
                  refine pu_ 10 (some 35) HT_ #[true, true, true, true, true, true, true, true, true, true, true, true, false, false] ?_
                  exact norm_ (by simp only [putAll, Act.put, List.setIfInBounds_toArray, List.set_cons_zero, List.set_cons_succ]) (hCont (.slice Ao144 t344.length co144, v351, gb355) _ ⟨hHeld, (by (with_reducible repeat (first | apply Kd.R_alloc | apply Kd.R_drewN | apply Kd.R_drew)); exact Kd.R_mono HO342.out (fun _ hk => hk.2)), (by (with_reducible repeat (first | apply Kd.V_alloc | apply Kd.V_drewN | apply Kd.V_drew)); exact Kd.V_mono HO346.out (fun _ hk => ⟨hk.1.1.1, ⟨hk.2, ⟨hk.1.1.2, hk.1.2⟩⟩⟩)), (by (with_reducible repeat (first | apply Kd.R_alloc | apply Kd.R_drewN | apply Kd.R_drew)); exact Kd.R_mono HO352.out (fun _ hk => hk.2)), (Bk_ BK337.out), (Bk_ BK355.out), GW355.out, GE355.out, NB337_355.out, NB355_337.out, Bl_⟩)
              · skip
                refine box_step ?hg (N := 9) ?hd (cs := #[.int .i64 0, .slice none 0 0, .string (⟨#[]⟩ : ByteArray)]) (t := 29) ?hr ?_; (case hd => rfl); (case hg => rfl); (case hr => first | (go_simp; done) | (go_simp; rfl))
                intro gb355 hg w142 hbox hb
                have HS3_ := (hb.cell (World.block_lt_of_cell? _ _ (hHeld.2.2.2))).trans (hHeld.2.2.2)
                replace HO342 := Aside0.mk (Kd.R_below (Pr_ HO342.out) hb)
                have BK355 := Aside0.mk (hbox)
                have GW355 := (Bg_ hg : Aside0 (w.heap.size ≤ gb355))
                have GE355 := (Bg_ hg : Aside0 (w.heap.size ≤ gb355))
                replace HB := Bs_ hb
                have NB337_355 := nl_ hg BK337
                have NB355_337 := ng_ hg BK337
                replace BK337 := kb_ BK337 hb
                clear hb hbox hg
                refine hK.out _ _ ⟨(blk_cell BK337.out 0).trans rfl, (blk_cell BK337.out 1).trans rfl, (blk_cell BK337.out 2).trans rfl, HS3_⟩ (fun hHeld => ?_)
                clear hK K
                refine norm_ (a' := ?_) ?_ ?_
                rotate_left
                · show Act.put _ (some 9) _ = _
                  simp only [Act.put, List.setIfInBounds_toArray, List.set_cons_zero, List.set_cons_succ, i64_w, i32_w]
                  rfl
                refine one_ (i := 1) (N := some 27) #[true, true, true, true, true, true, true, false, false, false, false, true, false, false] rfl rfl (one_of HT_.out (by kernel_rfl)) (by decide) (fun K hK => ?_)
                refine goes_ Tryd.func15 (by kernel_rfl) rfl #[.agg #[.int .i64 a0_0, .slice A0_1 l0_1.length c0_1, .string a0_2]] (by rfl) rfl rfl Ga_ ?_
                with_reducible refine (reredoslaw05_made.calls a0_0 (fun k_ => k_ < w.heap.size) _ _ l0_1 a0_2 t343 t344 t347 _ ?side1 A7.out).mono ?_
                (case side1 => exact Kd.V_mk HC0_1.out (Kd.F_below (Kd.C_F (Kd.heap_int .i64) HR0_1.out) Bl_))
                rintro e w143 ⟨v345, rfl, ho0, hb⟩
                have HS3_ := (hb.cell (World.block_lt_of_cell? _ _ (hHeld.2.2.2))).trans (hHeld.2.2.2)
                refine ⟨_, rfl, ?_⟩
                have HO346 := Aside0.mk (Kd.V_lower (Kd.V_mono (ok' := fun k_ => some k_ ≠ (.slice (some ad348) y340.length co141 : Value).ownBlock ∧ k_ ≠ gb337 ∧ k_ ≠ gb355) ho0 (fun k_ hk_ => ⟨Or.elim hk_ (fun hs_ => fun e_ => Nat.not_le.2 hs_ (Kd.R_base HO342.out k_ e_.symm)) (fun hn_ => (Kd.fresh' (Kd.R_lt (Pr_ HO342.out)) k_ hn_)), Or.elim hk_ (fun hs_ => fun e_ => Nat.not_le.2 hs_ (by rw [e_]; exact GW337.out)) (fun hn_ => (Kd.freshB (g := gb337) (o := .cells #[.int .i64 a0_0, .slice A0_1 l0_1.length c0_1, .string a0_2] 33 (0, 0)) (Bk_ BK337.out) k_ hn_)), Or.elim hk_ (fun hs_ => fun e_ => Nat.not_le.2 hs_ (by rw [e_]; exact GW355.out)) (fun hn_ => (Kd.freshB (g := gb355) (o := .cells #[.int .i64 0, .slice none 0 0, .string (⟨#[]⟩ : ByteArray)] 29 (0, 0)) (Bk_ BK355.out) k_ hn_))⟩)) Bz_)
                replace HO342 := Aside0.mk (Kd.R_below (Pr_ HO342.out) hb)
                replace BK337 := kb_ BK337 hb
                replace BK355 := kb_ BK355 hb
                replace HB := Bs_ hb
                (try clear hb)
                (try clear hb2)
                (try clear hk)
                (try clear hi)
                (try clear ho0)
                obtain ⟨Ao144, co144, eo144⟩ := Kd.V_slice HO346.out
                (first | subst eo144 | (injection eo144 with f1_ f2_ f3_; have f4_ := f1_.symm; have f5_ := f3_.symm; clear f1_ f2_ f3_; subst f4_; subst f5_))
                refine hK.out _ _ ⟨(blk_cell BK337.out 0).trans rfl, (blk_cell BK337.out 1).trans rfl, (blk_cell BK337.out 2).trans rfl, HS3_⟩ (fun hHeld => ?_)
                clear hK K
                refine norm_ (a' := ?_) ?_ ?_
                rotate_left
                · show Act.put _ (some 27) _ = _
                  simp only [Act.put, List.setIfInBounds_toArray, List.set_cons_zero, List.set_cons_succ, i64_w, i32_w]
                  rfl
                refine one_ (i := 7) (N := some 33) #[true, true, true, true, true, true, true, true, false, false, false, true, false, false] rfl rfl (one_of HT_.out (by kernel_rfl)) (by decide) (fun K hK => ?_)
                refine goes_ Tryd.func16 (by kernel_rfl) rfl #[.agg #[.int .i64 t343, .slice Ao144 t344.length co144, .string t347], .int .i64 (rd y340 (ji8))] (by rfl) rfl rfl (by (try simp only [List.map_toArray, List.map_cons, List.map_nil]); first | done | (simp only [hji8]; rfl) | rfl | (simp only [List.length_drop, List.length_take]; rfl)) ?_
                with_reducible refine (typed_Typed_To.calls k t343 _ _ t344 t347 (rd y340 (ji8)) t349 t350 t353 false _ ?side1 ?side2 A11.out).mono ?_
                (case side1 => exact Pc_ ((Kd.V_reads' HO346.out).2.2))
                (case side2 => exact (Kd.V_reads' HO346.out).2.1)
                rintro e w145 ⟨v351, rfl, ho0, hb⟩
                have HS3_ := (hb.cell (World.block_lt_of_cell? _ _ (hHeld.2.2.2))).trans (hHeld.2.2.2)
                refine ⟨_, rfl, ?_⟩
                replace HO346 := Aside0.mk (Kd.V_elder' (Pv_ HO346.out) (Kd.R_base ho0) hb)
                have HO352 := Aside0.mk (Kd.R_lower (Kd.R_new' ho0 (Kd.R_lt (Pr_ HO342.out))) Bz_)
                replace HO342 := Aside0.mk (Kd.R_elder' (Pr_ HO342.out) (Kd.R_base ho0) hb)
                replace BK337 := kb_ BK337 hb
                replace BK355 := kb_ BK355 hb
                replace HB := Bs_ hb
                (try clear hb)
                (try clear hb2)
                (try clear hk)
                (try clear hi)
                (try clear ho0)
                refine hK.out _ _ ⟨(blk_cell BK337.out 0).trans rfl, (blk_cell BK337.out 1).trans rfl, (blk_cell BK337.out 2).trans rfl, HS3_⟩ (fun hHeld => ?_)
                clear hK K
                refine norm_ (a' := ?_) ?_ ?_
                rotate_left
                · show Act.put _ (some 33) _ = _
                  simp only [Act.put, List.setIfInBounds_toArray, List.set_cons_zero, List.set_cons_succ, i64_w, i32_w]
                  rfl
                refine pu_ 8 (some 25) HT_ #[true, true, true, true, true, true, true, true, true, false, false, true, false, false] ?_
                refine pu_ 9 (some 34) HT_ #[true, true, true, true, true, true, true, true, true, true, false, true, false, false] ?_
                refine pu_ 10 (some 35) HT_ #[true, true, true, true, true, true, true, true, true, true, true, true, false, false] ?_
                exact norm_ (by simp only [putAll, Act.put, List.setIfInBounds_toArray, List.set_cons_zero, List.set_cons_succ]) (hCont (.slice Ao144 t344.length co144, v351, gb355) _ ⟨hHeld, (by (with_reducible repeat (first | apply Kd.R_alloc | apply Kd.R_drewN | apply Kd.R_drew)); exact Kd.R_mono HO342.out (fun _ hk => hk.2)), (by (with_reducible repeat (first | apply Kd.V_alloc | apply Kd.V_drewN | apply Kd.V_drew)); exact Kd.V_mono HO346.out (fun _ hk => ⟨hk.1.1, ⟨hk.2, ⟨hk.1.2.1, hk.1.2.2⟩⟩⟩)), (by (with_reducible repeat (first | apply Kd.R_alloc | apply Kd.R_drewN | apply Kd.R_drew)); exact Kd.R_mono HO352.out (fun _ hk => hk.2)), (Bk_ BK337.out), (Bk_ BK355.out), GW355.out, GE355.out, NB337_355.out, NB355_337.out, Bl_⟩)
            rintro ⟨v345, v351, gb355⟩ w146 ⟨hS_, h0_, h1_, h2_, h3_, h4_, h5_, h6_, h7_, h8_, h9_⟩
            have n0_ : Aside0 (Kd.R (Kd.int .i64) 3 w146 w.heap.size (fun k_ => some k_ ≠ (v351 : Value).ownBlock) (.slice (some ad348) y340.length co141) y340) := ⟨h0_⟩
            have n1_ : Aside0 (Kd.V (Kd.int .i64) 3 w146 w.heap.size (fun k_ => some k_ ≠ (.slice (some ad348) y340.length co141 : Value).ownBlock ∧ some k_ ≠ (v351 : Value).ownBlock ∧ k_ ≠ gb337 ∧ k_ ≠ gb355) v345 t344) := ⟨h1_⟩
            have n2_ : Aside0 (Kd.R (Kd.int .i64) 3 w146 w.heap.size (fun k_ => some k_ ≠ (.slice (some ad348) y340.length co141 : Value).ownBlock) v351 t350) := ⟨h2_⟩
            have n3_ : Aside0 (w146.heap[gb337]? = some (.cells #[.int .i64 a0_0, .slice A0_1 l0_1.length c0_1, .string a0_2] 33 (0, 0))) := ⟨h3_⟩
            have n4_ : Aside0 (w146.heap[gb355]? = some (.cells #[.int .i64 0, .slice none 0 0, .string (⟨#[]⟩ : ByteArray)] 29 (0, 0))) := ⟨h4_⟩
            have n5_ : Aside0 (w.heap.size ≤ gb355) := ⟨h5_⟩
            have n6_ : Aside0 (w.heap.size ≤ gb355) := ⟨h6_⟩
            have n7_ : Aside0 (gb337 ≠ gb355) := ⟨h7_⟩
            have n8_ : Aside0 (gb355 ≠ gb337) := ⟨h8_⟩
            have n9_ : Aside0 (Below w.heap.size w w146) := ⟨h9_⟩
            clear HO342
            clear BK337
            clear HB
            clear h0_ h1_ h2_ h3_ h4_ h5_ h6_ h7_ h8_ h9_
            have HO342 := n0_
            have HO346 := n1_
            have HO352 := n2_
            have BK337 := n3_
            have BK355 := n4_
            have GW355 := n5_
            have GE355 := n6_
            have NB337_355 := n7_
            have NB355_337 := n8_
            have HB := n9_
            clear n0_ n1_ n2_ n3_ n4_ n5_ n6_ n7_ n8_ n9_
            have hHeld : w146.cell? ⟨gb337, 0, none⟩ = some (.int .i64 a0_0) ∧ w146.cell? ⟨gb337, 1, none⟩ = some (.slice A0_1 l0_1.length c0_1) ∧ w146.cell? ⟨gb337, 2, none⟩ = some (.string a0_2) ∧ w146.cell? (ad348.add ((ji8)).toNat) = some (.int .i64 (rd y340 (ji8))) := hS_
            obtain ⟨Ao148, co148, eo148⟩ := Kd.R_slice HO352.out
            (first | subst eo148 | (injection eo148 with f1_ f2_ f3_; have f4_ := f1_.symm; have f5_ := f3_.symm; clear f1_ f2_ f3_; subst f4_; subst f5_))
            refine norm_ (a' := ?_) ?_ ?_
            rotate_left
            · simp only [putAll, Act.put, List.setIfInBounds_toArray, List.set_cons_zero, List.set_cons_succ]
              rfl
            refine one_ (i := 12) (N := none) #[true, true, true, true, true, true, true, true, true, true, true, true, true, false] rfl rfl (one_of HT_.out (by kernel_rfl)) (by decide) (fun K hK => ?_)
            have hs147 : w146.cell? ⟨gb355, 0, none⟩ = some (.int .i64 0) := (blk_cell BK355.out 0).trans rfl
            have hfs147 := blk_frozen BK355.out 0
            have hns147_0 := NB337_355.out
            have hms147_0 := NB355_337.out
            have hs149 : w146.cell? ⟨gb355, 1, none⟩ = some (.slice none 0 0) := (blk_cell BK355.out 1).trans rfl
            have hfs149 := blk_frozen BK355.out 1
            have hns149_0 := NB337_355.out
            have hms149_0 := NB355_337.out
            have hs150 : w146.cell? ⟨gb355, 2, none⟩ = some (.string (⟨#[]⟩ : ByteArray)) := (blk_cell BK355.out 2).trans rfl
            have hfs150 := blk_frozen BK355.out 2
            have hns150_0 := NB337_355.out
            have hms150_0 := NB355_337.out
            refine skip_ (w1 := ?_) (by rfl) rfl ?_ ?_
            rotate_left
            · go_simp
              rfl
            refine hK.out _ _ ⟨((cell_far (p := ⟨gb355, _, none⟩) NB337_355.out _).trans (((cell_far (p := ⟨gb355, _, none⟩) NB337_355.out _).trans (((cell_far (p := ⟨gb355, _, none⟩) NB337_355.out _).trans (hHeld.1)))))), ((cell_far (p := ⟨gb355, _, none⟩) NB337_355.out _).trans (((cell_far (p := ⟨gb355, _, none⟩) NB337_355.out _).trans (((cell_far (p := ⟨gb355, _, none⟩) NB337_355.out _).trans (hHeld.2.1)))))), ((cell_far (p := ⟨gb355, _, none⟩) NB337_355.out _).trans (((cell_far (p := ⟨gb355, _, none⟩) NB337_355.out _).trans (((cell_far (p := ⟨gb355, _, none⟩) NB337_355.out _).trans (hHeld.2.2.1)))))), ((cell_far (p := ⟨gb355, _, none⟩) (by first | exact Kd.own_blk (Kd.R_ne HO342.out BK355.out (by decide)) | (rw [add_block]; exact Kd.own_blk (Kd.R_ne HO342.out BK355.out (by decide))) | (show (Addr.add _ _).block ≠ _; rw [add_block]; exact Kd.own_blk (Kd.R_ne HO342.out BK355.out (by decide))) | (dsimp only; exact Kd.own_blk (Kd.R_ne HO342.out BK355.out (by decide)))) _).trans (((cell_far (p := ⟨gb355, _, none⟩) (by first | exact Kd.own_blk (Kd.R_ne HO342.out BK355.out (by decide)) | (rw [add_block]; exact Kd.own_blk (Kd.R_ne HO342.out BK355.out (by decide))) | (show (Addr.add _ _).block ≠ _; rw [add_block]; exact Kd.own_blk (Kd.R_ne HO342.out BK355.out (by decide))) | (dsimp only; exact Kd.own_blk (Kd.R_ne HO342.out BK355.out (by decide)))) _).trans (((cell_far (p := ⟨gb355, _, none⟩) (by first | exact Kd.own_blk (Kd.R_ne HO342.out BK355.out (by decide)) | (rw [add_block]; exact Kd.own_blk (Kd.R_ne HO342.out BK355.out (by decide))) | (show (Addr.add _ _).block ≠ _; rw [add_block]; exact Kd.own_blk (Kd.R_ne HO342.out BK355.out (by decide))) | (dsimp only; exact Kd.own_blk (Kd.R_ne HO342.out BK355.out (by decide)))) _).trans (hHeld.2.2.2))))))⟩ (fun hHeld => ?_)
            clear hK K
            refine pu_ 13 (some 10) HT_ #[true, true, true, true, true, true, true, true, true, true, true, true, true, true] ?_
            refine done_ (done_of HT_.out (by kernel_rfl)) ?_
            have hnb151 := NB355_337.out
            have hnc151 := NB337_355.out
            obtain ⟨hcz152_0, hcz152_1, hcz152_2⟩ := c3_ BK355
            obtain ⟨hfz152_0, hfz152_1, hfz152_2⟩ := f3_ BK355
            try go_wp2
            go_ret
            exact ⟨by first | rfl | (simp [errW_none, errW_some] <;> rfl) | (simp only [← hji8]; first | rfl | (simp [errW_none, errW_some] <;> rfl)) | (simp [*, errW_none, errW_some] <;> rfl), Bl_⟩
      · rw [if_neg c10] at H
        exact absurd H (by simp)
    · rw [if_neg c9] at H
      exact absurd H (by simp)
  · replace c6 := Bool.eq_false_iff.mpr c6
    subst c6
    have H1 : (some true) = some r := by rw [if_neg (show ¬ (false = true) by decide)] at H; exact H
    clear H
    have H := H1
    clear H1
    obtain rfl := Option.some.inj H
    go_enter Tryd.func4, Tryd.ntmps4
    go_wp2_with (first | ((with_reducible refine gate_dst (N := 3) rfl ?_); refine bx_ 3 #[.int .i64 a0_0, .slice A0_1 l0_1.length c0_1, .string a0_2] 33 ?_; intro gb337 hg w153 hbox hb; have BK337 := Aside0.mk (hbox); have GW337 := (Bg_ hg : Aside0 (w.heap.size ≤ gb337)); have GE337 := (Bg_ hg : Aside0 (w.heap.size ≤ gb337)); replace HB := Bs_ hb; clear hb hbox hg) | ((with_reducible refine gate_callee (f := 9) rfl ?_); refine goesL_ (some 19) rfl rfl Tryd.func9 (by kernel_rfl) rfl #[] rfl Ga_ ?_; (with_reducible refine (reredoslaw05_shown.calls  true _ A4.out ?side1).mono ?_); (case side1 => first | exact hG | exact Glob.below hG Bl_); rintro e w154 ⟨rfl, hb⟩; refine ⟨_, rfl, ?_⟩; replace BK337 := kb_ BK337 hb; replace HB := Bs_ hb; (try clear hb); (try clear hb2); (try clear hk); (try clear hi); obtain ⟨hcz155_0, hcz155_1, hcz155_2⟩ := c3_ BK337; obtain ⟨hfz155_0, hfz155_1, hfz155_2⟩ := f3_ BK337) | ((with_reducible refine gate_callee (f := 14) rfl ?_); refine goesL_ (some 21) rfl rfl Tryd.func14 (by kernel_rfl) rfl #[.agg #[.int .i64 a0_0, .slice A0_1 l0_1.length c0_1, .string a0_2]] rfl Ga_ ?_; (with_reducible refine (reredoslaw05_few.calls a0_0 _ _ l0_1 a0_2 false _ ?side1 ?side2 A5.out).mono ?_); (case side1 => exact Pc_ (Kd.C_below HR0_1.out HB.out)); (case side2 => exact HC0_1.out); rintro e w156 ⟨rfl, hb⟩; refine ⟨_, rfl, ?_⟩; replace BK337 := kb_ BK337 hb; replace HB := Bs_ hb; (try clear hb); (try clear hb2); (try clear hk); (try clear hi)))
    go_ret
    exact ⟨Re_, Bl_⟩
/-! ### reredosref01_May: function 76 -/
mutual
def reredosref01_May.j0 : Nat → ByteArray → Int → Bool → Option (Bool)
  | 0, _, _, _ => none
  | k + 1, x0, x3, x13 => if x13 = true then (reredosref01_May.j1 k x0 1) else (reredosref01_May.j1 k x0 x3)
def reredosref01_May.j1 : Nat → ByteArray → Int → Option (Bool)
  | 0, _, _ => none
  | k + 1, x0, x3 => if (wrap64 ((x0.size : Int) - x3)) < 1 then (reredosref01_May.j2 k x0 x3 true) else (if (wrap64 ((x0.size : Int) - x3)) > 100 then (reredosref01_May.j2 k x0 x3 true) else (if 0 ≤ x3 then (if x3 < (x0.size : Int) then (reredosref01_May.j2 k x0 x3 ((bt x0 x3) == 48)) else (none)) else (none)))
def reredosref01_May.j2 : Nat → ByteArray → Int → Bool → Option (Bool)
  | 0, _, _, _ => none
  | k + 1, x0, x3, x31 => if x31 = true then (some false) else (reredosref01_May.l0 k x0 x3)
def reredosref01_May.l0 : Nat → ByteArray → Int → Option (Bool)
  | 0, _, _ => none
  | k + 1, x0, x4 => if x4 < (x0.size : Int) then (if 0 ≤ x4 then (if (bt x0 x4) < 48 then (some false) else (if (bt x0 x4) > 57 then (some false) else (reredosref01_May.l0 k x0 (wrap64 (x4 + 1))))) else (none)) else (some true)
end
def reredosref01_May.f (k : Nat) (a0 : ByteArray) : Option (Bool) := if a0.toList = ([48] : List UInt8) then (some true) else (if a0.toList = ([] : List UInt8) then (reredosref01_May.j0 k a0 0 false) else (if 0 < (a0.size : Int) then (reredosref01_May.j0 k a0 0 ((bt a0 0) == 45)) else (none)))
set_option maxHeartbeats 8000000 in
set_option maxRecDepth 100000 in
theorem reredosref01_May.calls (k : Nat) (a0 : ByteArray) (r : Bool) (w : World) (h : reredosref01_May.f k a0 = some r) :
    Calls Tryd.prog 76 #[.string a0] w fun e w' => e = .returned (.bool r) ∧ Drawn0 w w' := by
  have H : (if a0.toList = ([48] : List UInt8) then (some true) else (if a0.toList = ([] : List UInt8) then (reredosref01_May.j0 k a0 0 false) else (if 0 < (a0.size : Int) then (reredosref01_May.j0 k a0 0 ((bt a0 0) == 45)) else (none)))) = some r := h
  clear h
  by_cases c2 : a0.toList = ([48] : List UInt8)
  · rw [if_pos c2] at H
    have c2b0 : (a0.toList == ([48] : List UInt8)) = true := beq_iff_eq.mpr c2
    have c2b1 : (a0.toList != ([48] : List UInt8)) = false := bne_eq_false_iff_eq.mpr c2
    clear c2
    obtain rfl := Option.some.inj H
    go_enter Tryd.func76, Tryd.ntmps76
    go_wp2
    go_ret
    exact ⟨Rf_, Dw_⟩
  · rw [if_neg c2] at H
    have c2b0 : (a0.toList == ([48] : List UInt8)) = false := beq_eq_false_iff_ne.mpr c2
    have c2b1 : (a0.toList != ([48] : List UInt8)) = true := bne_iff_ne.mpr c2
    have HC3 := Aside0.mk H
    clear H
    go_enter Tryd.func76, Tryd.ntmps76
    go_upto_region 4 with (fail)
    go_cut [13] (fun v13 wc => ∃ (kq : Nat) (x13_2 : Bool), v13 = .bool x13_2 ∧ Aside0 (reredosref01_May.j0 kq a0 0 x13_2 = some r) ∧ Aside0 (kq ≤ k) ∧ Drawn0 w wc)
    case first =>
      have H := HC3.out
      clear HC3
      by_cases c4 : a0.toList = ([] : List UInt8)
      · rw [if_pos c4] at H
        have c4b0 : (a0.toList == ([] : List UInt8)) = true := beq_iff_eq.mpr c4
        have c4b1 : (a0.toList != ([] : List UInt8)) = false := bne_eq_false_iff_eq.mpr c4
        clear c4
        (first | rw [c4b0] | (simp only [i64_w, i32_w]; rw [c4b0]) | skip)
        have H' := Aside0.mk H
        clear H
        go_wp2
        go_meet
        case rel => exact ⟨_, (false), Rf_, H', ⟨by first | omega | exact Nat.le_refl _⟩, Dw_⟩
      · rw [if_neg c4] at H
        have c4b0 : (a0.toList == ([] : List UInt8)) = false := beq_eq_false_iff_ne.mpr c4
        have c4b1 : (a0.toList != ([] : List UInt8)) = true := bne_iff_ne.mpr c4
        (first | rw [c4b0] | (simp only [i64_w, i32_w]; rw [c4b0]) | skip)
        by_cases c5 : 0 < (a0.size : Int)
        · rw [if_pos c5] at H
          have c5b0 : decide (0 < (a0.size : Int)) = true := decide_eq_true c5
          have c5b1 : decide (0 < a0.size) = true := decide_eq_true (by omega)
          clear c5
          have H' := Aside0.mk H
          clear H
          have p6 : 0 ≤ (0 : Int) := (by omega)
          have q6 : 0 < a0.size := (by have : (0 : Int) < (a0.size : Int) := of_decide_eq_true As_; omega)
          have hx6 : ∀ h : 0 < a0.size, ((a0[0]'h).toNat : Int) = bt a0 0 := bt_at a0 0
          clear p6
          have qi6 : (0 < (a0.size : Int)) = True := eq_true (of_decide_eq_true As_)
          replace q6 := eq_true q6
          go_wp2
          go_meet
          case rel => exact ⟨_, (((bt a0 0) == 45)), Rf_, H', ⟨by first | omega | exact Nat.le_refl _⟩, Dw_⟩
        · rw [if_neg c5] at H
          exact absurd H (by simp)
    case rest =>
      clear HC3
      try clear c2
      try clear c2b0
      try clear c2b1
      try clear p2
      try clear c4
      try clear c4b0
      try clear c4b1
      try clear c5
      try clear c5b0
      try clear c5b1
      try clear p6
      try clear q6
      try clear hx6
      try clear qi6
      try clear p6
      try clear q6
      obtain ⟨kq, x13_2, rfl, HA, HJ2, ⟨mc2, rfl⟩⟩ := hcut
      cases kq with
      | zero => exact absurd HA.out (by simp [reredosref01_May.j0])
      | succ kj2 =>
        have H := HA.out
        clear HA
        simp only [reredosref01_May.j0] at H
        have HC7 := Aside0.mk H
        clear H
        go_upto_if 13 with (fail)
        go_cut [3] (fun v3 wc => ∃ (kq : Nat) (x3_6 : Int), v3 = .int .i64 x3_6 ∧ Aside0 (reredosref01_May.j1 kq a0 x3_6 = some r) ∧ Aside0 (kq ≤ kj2) ∧ Drawn0 w wc)
        case first =>
          have H := HC7.out
          clear HC7
          by_cases c8 : x13_2 = true
          · subst c8
            have H1 : (reredosref01_May.j1 kj2 a0 1) = some r := by rw [if_pos rfl] at H; exact H
            clear H
            have H := H1
            clear H1
            have H' := Aside0.mk H
            clear H
            go_wp2
            go_meet
            case rel => exact ⟨_, (1), Rf_, H', ⟨by have := HJ2.out; first | omega | exact Nat.le_refl _⟩, Dw_⟩
          · replace c8 := Bool.eq_false_iff.mpr c8
            subst c8
            have H1 : (reredosref01_May.j1 kj2 a0 0) = some r := by rw [if_neg (show ¬ (false = true) by decide)] at H; exact H
            clear H
            have H := H1
            clear H1
            have H' := Aside0.mk H
            clear H
            go_wp2
            go_meet
            case rel => exact ⟨_, (0), Rf_, H', ⟨by have := HJ2.out; first | omega | exact Nat.le_refl _⟩, Dw_⟩
        case rest =>
          clear HC7
          try clear c2
          try clear c2b0
          try clear c2b1
          try clear p2
          try clear c4
          try clear c4b0
          try clear c4b1
          try clear c5
          try clear c5b0
          try clear c5b1
          try clear p6
          try clear q6
          try clear hx6
          try clear qi6
          try clear c7
          try clear c8
          try clear p2
          try clear p6
          try clear q6
          obtain ⟨kq, x3_6, rfl, HA, HJ6, ⟨mc6, rfl⟩⟩ := hcut
          cases kq with
          | zero => exact absurd HA.out (by simp [reredosref01_May.j1])
          | succ kj6 =>
            have H := HA.out
            clear HA
            simp only [reredosref01_May.j1] at H
            have HC9 := Aside0.mk H
            clear H
            go_upto_region 6 with (fail)
            go_cut [31] (fun v31 wc => ∃ (kq : Nat) (x31_8 : Bool), v31 = .bool x31_8 ∧ Aside0 (reredosref01_May.j2 kq a0 x3_6 x31_8 = some r) ∧ Aside0 (kq ≤ kj6) ∧ Drawn0 w wc)
            case first =>
              have H := HC9.out
              clear HC9
              by_cases c10 : (wrap64 ((a0.size : Int) - x3_6)) < 1
              · rw [if_pos c10] at H
                have c10b0 : decide ((wrap64 ((a0.size : Int) - x3_6)) < 1) = true := decide_eq_true c10
                clear c10
                (first | rw [c10b0] | (simp only [i64_w, i32_w]; rw [c10b0]) | skip)
                have H' := Aside0.mk H
                clear H
                go_wp2
                go_meet
                case rel => exact ⟨_, (true), Rf_, H', ⟨by have := HJ2.out; have := HJ6.out; first | omega | exact Nat.le_refl _⟩, Dw_⟩
              · rw [if_neg c10] at H
                have c10b0 : decide ((wrap64 ((a0.size : Int) - x3_6)) < 1) = false := decide_eq_false c10
                clear c10
                (first | rw [c10b0] | (simp only [i64_w, i32_w]; rw [c10b0]) | skip)
                by_cases c11 : (wrap64 ((a0.size : Int) - x3_6)) > 100
                · rw [if_pos c11] at H
                  have c11b0 : decide (100 < (wrap64 ((a0.size : Int) - x3_6))) = true := decide_eq_true c11
                  clear c11
                  have H' := Aside0.mk H
                  clear H
                  go_wp2
                  go_meet
                  case rel => exact ⟨_, (true), Rf_, H', ⟨by have := HJ2.out; have := HJ6.out; first | omega | exact Nat.le_refl _⟩, Dw_⟩
                · rw [if_neg c11] at H
                  have c11b0 : decide (100 < (wrap64 ((a0.size : Int) - x3_6))) = false := decide_eq_false c11
                  clear c11
                  by_cases c12 : 0 ≤ x3_6
                  · rw [if_pos c12] at H
                    have c12b0 : decide (0 ≤ x3_6) = true := decide_eq_true c12
                    clear c12
                    by_cases c13 : x3_6 < (a0.size : Int)
                    · rw [if_pos c13] at H
                      have c13b0 : decide (x3_6 < (a0.size : Int)) = true := decide_eq_true c13
                      clear c13
                      have H' := Aside0.mk H
                      clear H
                      have p14 : 0 ≤ (x3_6 : Int) := of_decide_eq_true As_
                      have q14 : x3_6 < (a0.size : Int) := of_decide_eq_true As_
                      have hx14 := bt_at a0 x3_6
                      replace p14 := eq_true p14
                      replace q14 := eq_true q14
                      go_wp2
                      go_meet
                      case rel => exact ⟨_, (((bt a0 x3_6) == 48)), Rf_, H', ⟨by have := HJ2.out; have := HJ6.out; first | omega | exact Nat.le_refl _⟩, Dw_⟩
                    · rw [if_neg c13] at H
                      exact absurd H (by simp)
                  · rw [if_neg c12] at H
                    exact absurd H (by simp)
            case rest =>
              clear HC9
              try clear c1
              try clear p1
              try clear q1
              try clear hx1
              try clear c2
              try clear c2b0
              try clear c2b1
              try clear p2
              try clear c4
              try clear c4b0
              try clear c4b1
              try clear c5
              try clear c5b0
              try clear c5b1
              try clear c6
              try clear p6
              try clear q6
              try clear hx6
              try clear qi6
              try clear c7
              try clear c8
              try clear c10
              try clear c10b0
              try clear c11
              try clear c11b0
              try clear c12
              try clear c12b0
              try clear c13
              try clear c13b0
              try clear p14
              try clear q14
              try clear hx14
              try clear p14
              try clear p2
              try clear p6
              try clear q14
              try clear q6
              obtain ⟨kq, x31_8, rfl, HA, HJ8, ⟨mc8, rfl⟩⟩ := hcut
              cases kq with
              | zero => exact absurd HA.out (by simp [reredosref01_May.j2])
              | succ kj8 =>
                have H := HA.out
                clear HA
                simp only [reredosref01_May.j2] at H
                by_cases c15 : x31_8 = true
                · subst c15
                  have H1 : (some false) = some r := by rw [if_pos rfl] at H; exact H
                  clear H
                  have H := H1
                  clear H1
                  obtain rfl := Option.some.inj H
                  go_wp2
                  go_ret
                  exact ⟨Rf_, Dw_⟩
                · replace c15 := Bool.eq_false_iff.mpr c15
                  subst c15
                  have H1 : (reredosref01_May.l0 kj8 a0 x3_6) = some r := by rw [if_neg (show ¬ (false = true) by decide)] at H; exact H
                  clear H
                  have H := H1
                  clear H1
                  have H' := Aside0.mk H
                  clear H
                  go_wp2
                  go_loopg [4] kj8 (fun kq v4 w' => ∃ (x4_4 : Int), v4 = .int .i64 x4_4 ∧ Aside0 (reredosref01_May.l0 kq a0 x4_4 = some r) ∧ Aside0 (kq ≤ kj8) ∧ Drawn0 w w')
                  case atStart => exact ⟨(x3_6), Rf_, H', ⟨Nat.le_refl _⟩, Dw_⟩
                  case round =>
                    clear H'
                    try clear c1
                    try clear p1
                    try clear q1
                    try clear hx1
                    try clear c2
                    try clear c2b0
                    try clear c2b1
                    try clear p2
                    try clear c4
                    try clear c4b0
                    try clear c4b1
                    try clear c5
                    try clear c5b0
                    try clear c5b1
                    try clear c6
                    try clear p6
                    try clear q6
                    try clear hx6
                    try clear qi6
                    try clear c7
                    try clear c8
                    try clear c10
                    try clear c10b0
                    try clear c11
                    try clear c11b0
                    try clear c12
                    try clear c12b0
                    try clear c13
                    try clear c13b0
                    try clear p14
                    try clear q14
                    try clear hx14
                    try clear c15
                    try clear p1
                    try clear p14
                    try clear p2
                    try clear p6
                    try clear q1
                    try clear q14
                    try clear q6
                    obtain ⟨x4_4, rfl, HA, HK4, ⟨m4, rfl⟩⟩ := hrel
                    cases gk with
                    | zero => exact absurd HA.out (by simp [reredosref01_May.l0])
                    | succ k4 =>
                      have H := HA.out
                      clear HA
                      simp only [reredosref01_May.l0] at H
                      by_cases c16 : x4_4 < (a0.size : Int)
                      · rw [if_pos c16] at H
                        have c16b0 : decide (x4_4 < (a0.size : Int)) = true := decide_eq_true c16
                        clear c16
                        by_cases c17 : 0 ≤ x4_4
                        · rw [if_pos c17] at H
                          have c17b0 : decide (0 ≤ x4_4) = true := decide_eq_true c17
                          clear c17
                          by_cases c19 : (bt a0 x4_4) < 48
                          · rw [if_pos c19] at H
                            have c19b0 : decide ((bt a0 x4_4) < 48) = true := decide_eq_true c19
                            clear c19
                            obtain rfl := Option.some.inj H
                            have p18 : 0 ≤ (x4_4 : Int) := of_decide_eq_true As_
                            have q18 : x4_4 < (a0.size : Int) := of_decide_eq_true As_
                            have hx18 := bt_at a0 x4_4
                            replace p18 := eq_true p18
                            replace q18 := eq_true q18
                            go_wp2
                            go_ret
                            exact ⟨Rf_, Dw_⟩
                          · rw [if_neg c19] at H
                            have c19b0 : decide ((bt a0 x4_4) < 48) = false := decide_eq_false c19
                            clear c19
                            by_cases c21 : (bt a0 x4_4) > 57
                            · rw [if_pos c21] at H
                              have c21b0 : decide (57 < (bt a0 x4_4)) = true := decide_eq_true c21
                              clear c21
                              obtain rfl := Option.some.inj H
                              have p18 : 0 ≤ (x4_4 : Int) := of_decide_eq_true As_
                              have q18 : x4_4 < (a0.size : Int) := of_decide_eq_true As_
                              have hx18 := bt_at a0 x4_4
                              replace p18 := eq_true p18
                              replace q18 := eq_true q18
                              have p20 : 0 ≤ (x4_4 : Int) := of_decide_eq_true As_
                              have q20 : x4_4 < (a0.size : Int) := of_decide_eq_true As_
                              have hx20 := bt_at a0 x4_4
                              replace p20 := eq_true p20
                              replace q20 := eq_true q20
                              go_wp2
                              go_ret
                              exact ⟨Rf_, Dw_⟩
                            · rw [if_neg c21] at H
                              have c21b0 : decide (57 < (bt a0 x4_4)) = false := decide_eq_false c21
                              clear c21
                              have H' := Aside0.mk H
                              clear H
                              have p18 : 0 ≤ (x4_4 : Int) := of_decide_eq_true As_
                              have q18 : x4_4 < (a0.size : Int) := of_decide_eq_true As_
                              have hx18 := bt_at a0 x4_4
                              replace p18 := eq_true p18
                              replace q18 := eq_true q18
                              have p20 : 0 ≤ (x4_4 : Int) := of_decide_eq_true As_
                              have q20 : x4_4 < (a0.size : Int) := of_decide_eq_true As_
                              have hx20 := bt_at a0 x4_4
                              replace p20 := eq_true p20
                              replace q20 := eq_true q20
                              go_wp2
                              go_roundg k4
                              case measure => have := HJ2.out; have := HJ6.out; have := HJ8.out; have := HK4.out; omega
                              case rel => exact ⟨(wrap64 (x4_4 + 1)), Rf_, H', ⟨by have := HJ2.out; have := HJ6.out; have := HJ8.out; have := HK4.out; omega⟩, Dw_⟩
                        · rw [if_neg c17] at H
                          exact absurd H (by simp)
                      · rw [if_neg c16] at H
                        have c16b0 : decide (x4_4 < (a0.size : Int)) = false := decide_eq_false c16
                        clear c16
                        obtain rfl := Option.some.inj H
                        go_wp2
                        go_ret
                        exact ⟨Rf_, Dw_⟩
/-! ### reredosref01_low: function 105 -/
def reredosref01_low.f (a0 : ByteArray) : Option (Bool) := if a0.toList = ([] : List UInt8) then (some false) else (if 0 < (a0.size : Int) then (some ((bt a0 0) == 45)) else (none))
set_option maxHeartbeats 8000000 in
set_option maxRecDepth 100000 in
theorem reredosref01_low.calls (a0 : ByteArray) (r : Bool) (w : World) (h : reredosref01_low.f a0 = some r) :
    Calls Tryd.prog 105 #[.string a0] w fun e w' => e = .returned (.bool r) ∧ Drawn0 w w' := by
  have H : (if a0.toList = ([] : List UInt8) then (some false) else (if 0 < (a0.size : Int) then (some ((bt a0 0) == 45)) else (none))) = some r := h
  clear h
  by_cases c2 : a0.toList = ([] : List UInt8)
  · rw [if_pos c2] at H
    have c2b0 : (a0.toList == ([] : List UInt8)) = true := beq_iff_eq.mpr c2
    have c2b1 : (a0.toList != ([] : List UInt8)) = false := bne_eq_false_iff_eq.mpr c2
    clear c2
    obtain rfl := Option.some.inj H
    go_enter Tryd.func105, Tryd.ntmps105
    go_wp2
    go_ret
    exact ⟨Rf_, Dw_⟩
  · rw [if_neg c2] at H
    have c2b0 : (a0.toList == ([] : List UInt8)) = false := beq_eq_false_iff_ne.mpr c2
    have c2b1 : (a0.toList != ([] : List UInt8)) = true := bne_iff_ne.mpr c2
    by_cases c3 : 0 < (a0.size : Int)
    · rw [if_pos c3] at H
      have c3b0 : decide (0 < (a0.size : Int)) = true := decide_eq_true c3
      have c3b1 : decide (0 < a0.size) = true := decide_eq_true (by omega)
      clear c3
      obtain rfl := Option.some.inj H
      have p4 : 0 ≤ (0 : Int) := (by omega)
      have q4 : 0 < a0.size := (by have : (0 : Int) < (a0.size : Int) := of_decide_eq_true As_; omega)
      have hx4 : ∀ h : 0 < a0.size, ((a0[0]'h).toNat : Int) = bt a0 0 := bt_at a0 0
      clear p4
      have qi4 : (0 < (a0.size : Int)) = True := eq_true (of_decide_eq_true As_)
      replace q4 := eq_true q4
      go_enter Tryd.func105, Tryd.ntmps105
      go_wp2
      go_ret
      exact ⟨Rf_, Dw_⟩
    · rw [if_neg c3] at H
      exact absurd H (by simp)
/-! ### reredosref01_Sign: function 124 -/
def reredosref01_Sign.j0 : Nat → ByteArray → Bool → Option (Int)
  | 0, _, _ => none
  | k + 1, x0, x9 => if x9 = true then (some 0) else ((reredosref01_low.f x0).bind fun t197 => (if t197 = true then (some (-1)) else (some 1)))
def reredosref01_Sign.f (k : Nat) (a0 : ByteArray) : Option (Int) := (reredosref01_May.f k a0).bind fun t196 => (if t196 = true then (reredosref01_Sign.j0 k a0 (a0.toList == ([48] : List UInt8))) else (reredosref01_Sign.j0 k a0 true))
set_option maxHeartbeats 8000000 in
set_option maxRecDepth 100000 in
theorem reredosref01_Sign.calls (k : Nat) (a0 : ByteArray) (r : Int) (w : World) (h : reredosref01_Sign.f k a0 = some r) :
    Calls Tryd.prog 124 #[.string a0] w fun e w' => e = .returned (.int .i64 r) ∧ Drawn0 w w' := by
  have H : ((reredosref01_May.f k a0).bind fun t196 => (if t196 = true then (reredosref01_Sign.j0 k a0 (a0.toList == ([48] : List UInt8))) else (reredosref01_Sign.j0 k a0 true))) = some r := h
  clear h
  have HC2 := Aside0.mk H
  clear H
  go_enter Tryd.func124, Tryd.ntmps124
  go_upto_region 1 with (fail)
  go_cut [9] (fun v9 wc => ∃ (kq : Nat) (x9_1 : Bool), v9 = .bool x9_1 ∧ Aside0 (reredosref01_Sign.j0 kq a0 x9_1 = some r) ∧ Aside0 (kq ≤ k) ∧ Drawn0 w wc)
  case first =>
    have H := HC2.out
    clear HC2
    obtain ⟨t196, A3, H⟩ := bnd_ H
    try dsimp -simprocs only at H
    by_cases c4 : t196 = true
    · subst c4
      have H1 : (reredosref01_Sign.j0 k a0 (a0.toList == ([48] : List UInt8))) = some r := by rw [if_pos rfl] at H; exact H
      clear H
      have H := H1
      clear H1
      have H' := Aside0.mk H
      clear H
      go_wp2_with (first | ((with_reducible refine gate_callee (f := 76) rfl ?_); refine goesL_ (some 4) rfl rfl Tryd.func76 (by kernel_rfl) rfl #[.string a0] rfl Ga_ ?_; (with_reducible refine (reredosref01_May.calls k a0 true _ A3.out).mono ?_); rintro e w' ⟨rfl, ⟨nd, rfl⟩⟩; refine ⟨_, rfl, ?_⟩))
      go_meet
      case rel => exact ⟨_, ((a0.toList == ([48] : List UInt8))), Rf_, H', ⟨by first | omega | exact Nat.le_refl _⟩, Dw_⟩
    · replace c4 := Bool.eq_false_iff.mpr c4
      subst c4
      have H1 : (reredosref01_Sign.j0 k a0 true) = some r := by rw [if_neg (show ¬ (false = true) by decide)] at H; exact H
      clear H
      have H := H1
      clear H1
      have H' := Aside0.mk H
      clear H
      go_wp2_with (first | ((with_reducible refine gate_callee (f := 76) rfl ?_); refine goesL_ (some 4) rfl rfl Tryd.func76 (by kernel_rfl) rfl #[.string a0] rfl Ga_ ?_; (with_reducible refine (reredosref01_May.calls k a0 false _ A3.out).mono ?_); rintro e w' ⟨rfl, ⟨nd, rfl⟩⟩; refine ⟨_, rfl, ?_⟩))
      go_meet
      case rel => exact ⟨_, (true), Rf_, H', ⟨by first | omega | exact Nat.le_refl _⟩, Dw_⟩
  case rest =>
    clear HC2
    try clear c1
    try clear p2
    try clear c4
    obtain ⟨kq, x9_1, rfl, HA, HJ1, ⟨mc1, rfl⟩⟩ := hcut
    cases kq with
    | zero => exact absurd HA.out (by simp [reredosref01_Sign.j0])
    | succ kj1 =>
      have H := HA.out
      clear HA
      simp only [reredosref01_Sign.j0] at H
      by_cases c5 : x9_1 = true
      · subst c5
        have H1 : (some 0) = some r := by rw [if_pos rfl] at H; exact H
        clear H
        have H := H1
        clear H1
        obtain rfl := Option.some.inj H
        go_wp2
        go_ret
        exact ⟨Rf_, Dw_⟩
      · replace c5 := Bool.eq_false_iff.mpr c5
        subst c5
        have H1 : ((reredosref01_low.f a0).bind fun t197 => (if t197 = true then (some (-1)) else (some 1))) = some r := by rw [if_neg (show ¬ (false = true) by decide)] at H; exact H
        clear H
        have H := H1
        clear H1
        obtain ⟨t197, A6, H⟩ := bnd_ H
        try dsimp -simprocs only at H
        by_cases c7 : t197 = true
        · subst c7
          have H1 : (some (-1)) = some r := by rw [if_pos rfl] at H; exact H
          clear H
          have H := H1
          clear H1
          obtain rfl := Option.some.inj H
          go_wp2_with (first | ((with_reducible refine gate_callee (f := 105) rfl ?_); refine goesL_ (some 11) rfl rfl Tryd.func105 (by kernel_rfl) rfl #[.string a0] rfl Ga_ ?_; (with_reducible refine (reredosref01_low.calls a0 true _ A6.out).mono ?_); rintro e w' ⟨rfl, ⟨nd, rfl⟩⟩; refine ⟨_, rfl, ?_⟩))
          go_ret
          exact ⟨Rf_, Dw_⟩
        · replace c7 := Bool.eq_false_iff.mpr c7
          subst c7
          have H1 : (some 1) = some r := by rw [if_neg (show ¬ (false = true) by decide)] at H; exact H
          clear H
          have H := H1
          clear H1
          obtain rfl := Option.some.inj H
          go_wp2_with (first | ((with_reducible refine gate_callee (f := 105) rfl ?_); refine goesL_ (some 11) rfl rfl Tryd.func105 (by kernel_rfl) rfl #[.string a0] rfl Ga_ ?_; (with_reducible refine (reredosref01_low.calls a0 false _ A6.out).mono ?_); rintro e w' ⟨rfl, ⟨nd, rfl⟩⟩; refine ⟨_, rfl, ?_⟩))
          go_ret
          exact ⟨Rf_, Dw_⟩

end Go.Proofs.YtfjilihppnndkaaDoor.P
