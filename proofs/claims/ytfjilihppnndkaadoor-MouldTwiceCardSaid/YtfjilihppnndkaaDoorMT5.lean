-- Written by drive.py of this claim's own session, by way of the kit's print. Lean checks it.
import Derived.Test.YtfjilihppnndkaaDoorMT1
import Derived.Test.YtfjilihppnndkaaDoorMT4
import Derived.Test.YtfjilihppnndkaaDoorMT2
import Derived.Test.YtfjilihppnndkaaDoorMT3
namespace Go.Proofs.YtfjilihppnndkaaDoor.P
open Go.RowKit Go.Proofs.YtfjilihppnndkaaDoorW.PrintWords Go.Proofs.YtfjilihppnndkaaDoorW.PrintLast Go.Proofs.YtfjilihppnndkaaDoorW.PrintMore
attribute [local go_sem] max2_int min2_int max_two min_two max_three min_three max_four min_four   -- for this text's walks alone
set_option linter.unusedVariables false
set_option linter.unusedSimpArgs false

/-! ### mould_some: function 57 -/
def mould_some.f (l0_0 : List Int) (l0_1 : List ByteArray) (a1 : Int) (a2 : Int) : Option (List Int × List ByteArray) := (shape_Items.f l0_0).bind fun bt103 => (if bt103.1 > 0 then (if bt103.1 = 0 then (none) else ((some (([wrap64 (a2 - a1)] : List Int) : List Int)).bind fun y107 => (if y107.length + bt103.2.length < 17592186044416 then ((mould_part_string.f l0_1 (wrap64 (a1 * (wrap64 ((l0_1.length : Int) / bt103.1)))) (wrap64 (a2 * (wrap64 ((l0_1.length : Int) / bt103.1))))).bind fun t113 => (some ((y107 ++ bt103.2), t113))) else (none)))) else ((some (([wrap64 (a2 - a1)] : List Int) : List Int)).bind fun y116 => (if y116.length + bt103.2.length < 17592186044416 then ((mould_part_string.f l0_1 (wrap64 0) (wrap64 0)).bind fun t122 => (some ((y116 ++ bt103.2), t122))) else (none))))
def mould_some.T5 : Bool × List (List Nat × List Nat) := (true, [([], []), ([], []), ([0, 1], [0, 1]), ([2], [2]), ([], []), ([3, 4], [3, 4]), ([], []), ([6], [6]), ([], []), ([], []), ([8, 9], [8, 9]), ([], []), ([], []), ([11, 12], [11, 12]), ([7, 10, 13, 5], [7, 10, 13]), ([5, 14], [5, 14]), ([15, 14, 0, 1, 2, 3, 4, 5, 6, 7, 8, 9, 10, 11, 12, 13, 14, 15], [15])])
def mould_some.B5 : List Nat := [0, 0, 3, 7, 0, 31, 0, 64, 0, 0, 768, 0, 0, 6144, 16383, 32767, 65535]
theorem mould_some.tab5 : rtab .any (opsOf Tryd.f57 5) = mould_some.T5 := by kernel_rfl
theorem mould_some.bits5 : waitsOk mould_some.T5.2 mould_some.B5 = true := by kernel_rfl
set_option maxHeartbeats 8000000 in
set_option maxRecDepth 100000 in
theorem mould_some.calls (A0_0 : Option Addr) (c0_0 : Nat) (l0_0 : List Int) (A0_1 : Option Addr) (c0_1 : Nat) (l0_1 : List ByteArray) (a1 : Int) (a2 : Int) (r1 : List Int) (r2 : List ByteArray) (w : World) (hr0_0 : Kd.C (Kd.int .i64) w A0_0 l0_0.length l0_0) (hc0_0 : l0_0.length ≤ c0_0) (hr0_1 : Kd.C Kd.string w A0_1 l0_1.length l0_1) (hc0_1 : l0_1.length ≤ c0_1) (h : mould_some.f l0_0 l0_1 a1 a2 = some (r1, r2)) :
    Calls Tryd.prog 57 #[.agg #[.slice A0_0 l0_0.length c0_0, .slice A0_1 l0_1.length c0_1], .int .i64 a1, .int .i64 a2] w fun e w' => ∃ v0_ v1_ : Value, e = .returned (.agg #[v0_, v1_]) ∧ Kd.R (Kd.int .i64) 3 w' w.heap.size (fun _ => True) v0_ r1 ∧ Kd.R Kd.string 9 w' w.heap.size (fun _ => True) v1_ r2 ∧ Below w.heap.size w w' := by
  have hu25 := Tryd.underlying25
  have HR0_0 := Aside0.mk hr0_0
  have HC0_0 := Aside0.mk hc0_0
  clear hr0_0 hc0_0
  have HR0_1 := Aside0.mk hr0_1
  have HC0_1 := Aside0.mk hc0_1
  clear hr0_1 hc0_1
  have HB := Aside0.mk (Below.refl w.heap.size w)
  have H : ((shape_Items.f l0_0).bind fun bt103 => (if bt103.1 > 0 then (if bt103.1 = 0 then (none) else ((some (([wrap64 (a2 - a1)] : List Int) : List Int)).bind fun y107 => (if y107.length + bt103.2.length < 17592186044416 then ((mould_part_string.f l0_1 (wrap64 (a1 * (wrap64 ((l0_1.length : Int) / bt103.1)))) (wrap64 (a2 * (wrap64 ((l0_1.length : Int) / bt103.1))))).bind fun t113 => (some ((y107 ++ bt103.2), t113))) else (none)))) else ((some (([wrap64 (a2 - a1)] : List Int) : List Int)).bind fun y116 => (if y116.length + bt103.2.length < 17592186044416 then ((mould_part_string.f l0_1 (wrap64 0) (wrap64 0)).bind fun t122 => (some ((y116 ++ bt103.2), t122))) else (none))))) = some (r1, r2) := h
  clear h
  obtain ⟨⟨t103, t104⟩, A4, H⟩ := bnd_ H
  try dsimp -simprocs only at H
  by_cases c5 : t103 > 0
  · rw [if_pos c5] at H
    have c5b0 : decide (0 < t103) = true := decide_eq_true c5
    clear c5
    by_cases c6 : t103 = 0
    · rw [if_pos c6] at H
      exact absurd H (by simp)
    · rw [if_neg c6] at H
      have c6b0 : (t103 == 0) = false := beq_eq_false_iff_ne.mpr c6
      have c6b1 : (t103 != 0) = true := bne_iff_ne.mpr c6
      obtain ⟨y107, hy107⟩ : ∃ y_ : List Int, y_ = (([wrap64 (a2 - a1)] : List Int)) := ⟨_, rfl⟩
      replace H : (if y107.length + t104.length < 17592186044416 then ((mould_part_string.f l0_1 (wrap64 (a1 * (wrap64 ((l0_1.length : Int) / t103)))) (wrap64 (a2 * (wrap64 ((l0_1.length : Int) / t103))))).bind fun t113 => (some ((y107 ++ t104), t113))) else (none)) = some (r1, r2) := by first | (rw [hy107]; with_reducible exact H) | (have H2_ := (Option.bind_some _ _).symm.trans H; rw [hy107]; with_reducible exact H2_) | (have H2_ := (Option.bind_some _ _).symm.trans H; with_reducible exact H2_) | with_reducible exact H | (rw [hy107]; exact H) | exact H
      have Ny107 := Aside0.mk hy107
      clear hy107
      by_cases c7 : y107.length + t104.length < 17592186044416
      · rw [if_pos c7] at H
        have LMc7 := Aside0.mk c7
        clear c7
        obtain ⟨y110, hy110⟩ : ∃ y_ : List Int, y_ = (y107 ++ t104) := ⟨_, rfl⟩
        replace H : ((mould_part_string.f l0_1 (wrap64 (a1 * (wrap64 ((l0_1.length : Int) / t103)))) (wrap64 (a2 * (wrap64 ((l0_1.length : Int) / t103))))).bind fun t113 => (some (y110, t113))) = some (r1, r2) := by first | (rw [hy110]; with_reducible exact H) | (have H2_ := (Option.bind_some _ _).symm.trans H; rw [hy110]; with_reducible exact H2_) | (have H2_ := (Option.bind_some _ _).symm.trans H; with_reducible exact H2_) | with_reducible exact H | (rw [hy110]; exact H) | exact H
        have Ny110 := Aside0.mk hy110
        clear hy110
        obtain ⟨t113, A8, H⟩ := bnd_ H
        try dsimp -simprocs only at H
        simp only [Option.some.injEq, Prod.mk.injEq] at H
        obtain ⟨rfl, rfl⟩ := H
        go_enter Tryd.func57, Tryd.ntmps57
        try go_wp2_with (first | ((with_reducible refine gate_dst (N := 3) rfl ?_); refine bx_ 3 #[.slice A0_0 l0_0.length c0_0, .slice A0_1 l0_1.length c0_1] 25 ?_; intro gb101 hg w9 hbox hb; have BK101 := Aside0.mk (hbox); have GW101 := (Bg_ hg : Aside0 (w.heap.size ≤ gb101)); have GE101 := (Bg_ hg : Aside0 (w.heap.size ≤ gb101)); replace HB := Bs_ hb; clear hb hbox hg) | ((with_reducible refine gate_dst (N := 6) rfl ?_); refine bx_ 6 #[.slice none 0 0, .slice none 0 0] 25 ?_; intro gb102 hg w10 hbox hb; have BK102 := Aside0.mk (hbox); have GW102 := (Bg_ hg : Aside0 (w.heap.size ≤ gb102)); have GE102 := (Bg_ hg : Aside0 (w.heap.size ≤ gb102)); replace HB := Bs_ hb; have NB101_102 := nl_ hg BK101; have NB102_101 := ng_ hg BK101; replace BK101 := kb_ BK101 hb; clear hb hbox hg; have hnb11 := NB101_102.out; have hnc11 := NB102_101.out; obtain ⟨hcz12_0, hcz12_1⟩ := c2_ BK101; obtain ⟨hfz12_0, hfz12_1⟩ := f2_ BK101) | ((with_reducible refine gate_callee (f := 68) rfl ?_); refine goesL_ (some 13) rfl rfl Tryd.func68 (by kernel_rfl) rfl #[.slice A0_0 l0_0.length c0_0] rfl Ga_ ?_; (with_reducible refine (shape_Items.calls _ _ l0_0 t103 t104 _ ?side1 ?side2 A4.out).mono ?_); (case side1 => exact Pc_ (Kd.C_below HR0_0.out HB.out)); (case side2 => exact HC0_0.out); rintro e w13 ⟨v105, rfl, ho0, hb⟩; refine ⟨_, rfl, ?_⟩; have HO106 := Aside0.mk (Kd.R_lower ho0 Bz_); replace BK101 := kb_ BK101 hb; replace BK102 := kb_ BK102 hb; replace HB := Bs_ hb; (try clear hb); (try clear hb2); (try clear hk); (try clear hi); (try clear ho0); obtain ⟨hcz14_0, hcz14_1⟩ := c2_ BK101; obtain ⟨hfz14_0, hfz14_1⟩ := f2_ BK101))
        replace HO106 := Aside0.mk (Kd.R_drew HO106.out)
        replace BK101 := Aside0.mk (blk_drew BK101.out)
        replace BK102 := Aside0.mk (blk_drew BK102.out)
        replace HB := Aside0.mk (below_drew1 HB.out)
        refine start_ (n := 17) (S := fun w' => w'.cell? ⟨gb101, 0, none⟩ = some (.slice A0_0 l0_0.length c0_0) ∧ w'.cell? ⟨gb101, 1, none⟩ = some (.slice A0_1 l0_1.length c0_1)) (ds := []) #[false, false, false, false, false, false, false, false, false, false, false, false, false, false, false, false, false] (by kernel_rfl) rfl rfl ⟨(blk_cell BK101.out 0).trans rfl, (blk_cell BK101.out 1).trans rfl⟩ (fun hHeld => ?_); refine with_tabW mould_some.tab5 mould_some.bits5 (fun HT_ HW_ => ?_)
        generalize w13.drew = w15 at HO106 BK101 BK102 HB hHeld ⊢
        refine pu_ 0 (some 23) HT_ #[true, false, false, false, false, false, false, false, false, false, false, false, false, false, false, false, false] ?_
        refine pu_ 1 (some 24) HT_ #[true, true, false, false, false, false, false, false, false, false, false, false, false, false, false, false, false] ?_
        refine pu_ 2 (some 25) HT_ #[true, true, true, false, false, false, false, false, false, false, false, false, false, false, false, false, false] ?_
        refine pu_ 4 (some 27) HT_ #[true, true, true, false, true, false, false, false, false, false, false, false, false, false, false, false, false] ?_
        refine pu_ 6 (some 29) HT_ #[true, true, true, false, true, false, true, false, false, false, false, false, false, false, false, false, false] ?_
        refine pu_ 8 (some 31) HT_ #[true, true, true, false, true, false, true, false, true, false, false, false, false, false, false, false, false] ?_
        refine pu_ 9 (some 32) HT_ #[true, true, true, false, true, false, true, false, true, true, false, false, false, false, false, false, false] ?_
        refine pu_ 10 (some 33) HT_ #[true, true, true, false, true, false, true, false, true, true, true, false, false, false, false, false, false] ?_
        refine pu_ 11 (some 34) HT_ #[true, true, true, false, true, false, true, false, true, true, true, true, false, false, false, false, false] ?_
        refine pu_ 12 (some 35) HT_ #[true, true, true, false, true, false, true, false, true, true, true, true, true, false, false, false, false] ?_
        refine pu_ 13 (some 36) HT_ #[true, true, true, false, true, false, true, false, true, true, true, true, true, true, false, false, false] ?_
        refine take_ (i := 7) (N := some 30) (v := ?_) (a' := ?_) #[true, true, true, false, true, false, true, true, true, true, true, true, true, true, false, false, false] rfl rfl (take_ofW HT_.out HW_.out (by kernel_rfl)) (fun _ _ _ h => h) (Or.inl ⟨by rfl, ?_⟩) hHeld ?_ ?_
        rotate_left
        · rintro w' ⟨s0, s1⟩
          go_simp
          with_reducible rfl
        rotate_left
        · simp only [Act.put, List.setIfInBounds_toArray, List.set_cons_zero, List.set_cons_succ, i64_w, i32_w]
          rfl
        refine one_ (i := 3) (N := some 26) #[true, true, true, true, true, false, true, true, true, true, true, true, true, true, false, false, false] rfl rfl (one_of HT_.out (by kernel_rfl)) (by decide) (fun K hK => ?_)
        refine Kd.R_lit_step (Kd.int .i64) _ 3 ?hg (N := 26) ?hd (xs := ([wrap64 (a2 - a1)] : List Int)) (inner := [.int .i64 (wrap64 (a2 - a1))]) (ok := fun _ => True) (okp := fun _ => True) ?hr ?hp (fun _ hk => hk) trivial (Below.refl _ _) (Nat.le_refl _) (by simp) ?_; (case hd => rfl); (case hg => rfl); (case hr => first | (go_simp; done) | (go_simp; rfl)); (case hp => exact (Reps.one (show Kd.M (Kd.int .i64) _ _ _ (wrap64 (a2 - a1)) [.int .i64 (wrap64 (a2 - a1))] from rfl) (Reps.none _ _)))
        intro v108 w16 ho17 hb hg_ hnew_
        clear hg_ hnew_
        (first | rw [← Ny107.out] at ho17 | (simp only [Int.reduceToNat] at ho17; rw [← Ny107.out] at ho17))
        have HO109 := Aside0.mk (Kd.R_lower (Kd.R_new' ho17 (Kd.R_lt (Pr_ HO106.out))) Bz_)
        replace HO106 := Aside0.mk (Kd.R_elder' (Pr_ HO106.out) (Kd.R_base ho17) hb)
        replace BK101 := kb_ BK101 hb
        replace BK102 := kb_ BK102 hb
        replace HB := Bs_ hb
        clear hb ho17
        obtain ⟨Ao19, co19, eo19⟩ := Kd.R_slice HO106.out
        (first | subst eo19 | (injection eo19 with f1_ f2_ f3_; have f4_ := f1_.symm; have f5_ := f3_.symm; clear f1_ f2_ f3_; subst f4_; subst f5_))
        refine hK.out _ _ ⟨(blk_cell BK101.out 0).trans rfl, (blk_cell BK101.out 1).trans rfl⟩ (fun hHeld => ?_)
        clear hK K
        refine norm_ (a' := ?_) ?_ ?_
        rotate_left
        · show Act.put _ (some 26) _ = _
          simp only [Act.put, List.setIfInBounds_toArray, List.set_cons_zero, List.set_cons_succ, i64_w, i32_w]
          rfl
        refine one_ (i := 5) (N := some 28) #[true, true, true, true, true, true, true, true, true, true, true, true, true, true, false, false, false] rfl rfl (one_of HT_.out (by kernel_rfl)) (by decide) (fun K hK => ?_)
        refine Kd.R_append_rows_step (Kd.int .i64) (w0 := w) w.heap.size (by rfl) (.tmp 26) (.tmp 27) 22 3 (.int .i64 0) 8 rfl Tryd.underlying22 info3 rfl (by decide) (by omega) v108 y107 t104 _ _ _ (fun k_ => some k_ ≠ (.slice Ao19 t104.length co19 : Value).ownBlock) (fun _ => False) rfl rfl ?aO ?aR (fun _ _ h => h) (fun _ h => h.elim) ?aF ?aB ?aS ?aL ?_
        (case aR => exact Pc_ ((Kd.R_reads' HO106.out).2.2))
        (case aB => exact Bl_)
        (case aF => exact (fun k_ hk => Kd.fresh' (Kd.R_lt (Pr_ HO106.out)) k_ hk))
        (case aO => exact (by (with_reducible repeat (first | apply Kd.R_alloc | apply Kd.R_drewN | apply Kd.R_drew)); exact Kd.R_mono HO109.out (fun _ hk => hk.2)))
        (case aS => exact Bz_)
        (case aL => have := LMc7.out; omega)
        intro v111 w18 ho hb hg hat
        rw [← Ny110.out] at ho
        replace BK101 := kg_ BK101 hg (Kd.R_ne HO109.out BK101.out (by decide))
        replace BK102 := kg_ BK102 hg (Kd.R_ne HO109.out BK102.out (by decide))
        replace HO106 := Aside0.mk (Kd.R_after (ok := (fun _ => True)) (Pr_ HO106.out) hg hat)
        replace HB := Aside0.mk (hb)
        have HO112 := Aside0.mk (ho)
        clear HO109
        clear ho hb hg hat
        refine hK.out _ _ ⟨(blk_cell BK101.out 0).trans rfl, (blk_cell BK101.out 1).trans rfl⟩ (fun hHeld => ?_)
        clear hK K
        refine norm_ (a' := ?_) ?_ ?_
        rotate_left
        · show Act.put _ (some 28) _ = _
          simp only [Act.put, List.setIfInBounds_toArray, List.set_cons_zero, List.set_cons_succ, i64_w, i32_w]
          rfl
        refine one_ (i := 14) (N := some 37) #[true, true, true, true, true, true, true, true, true, true, true, true, true, true, true, false, false] rfl rfl (one_of HT_.out (by kernel_rfl)) (by decide) (fun K hK => ?_)
        refine goes_ Tryd.func89 (by kernel_rfl) rfl #[.slice A0_1 l0_1.length c0_1, .int .i64 (wrap64 (a1 * (wrap64 ((l0_1.length : Int) / t103)))), .int .i64 (wrap64 (a2 * (wrap64 ((l0_1.length : Int) / t103))))] (by rfl) rfl rfl Ga_ ?_
        with_reducible refine (mould_part_string.calls _ _ l0_1 (wrap64 (a1 * (wrap64 ((l0_1.length : Int) / t103)))) (wrap64 (a2 * (wrap64 ((l0_1.length : Int) / t103)))) t113 _ ?side1 ?side2 A8.out).mono ?_
        (case side1 => exact Pc_ (Kd.C_below HR0_1.out HB.out))
        (case side2 => exact HC0_1.out)
        rintro e w20 ⟨v114, rfl, ho0, hb⟩
        refine ⟨_, rfl, ?_⟩
        replace HO106 := Aside0.mk (Kd.R_below (Pr_ HO106.out) hb)
        replace HO112 := Aside0.mk (Kd.R_below (Pr_ HO112.out) hb)
        have HO115 := Aside0.mk (Kd.R_lower ho0 Bz_)
        replace BK101 := kb_ BK101 hb
        replace BK102 := kb_ BK102 hb
        replace HB := Bs_ hb
        (try clear hb)
        (try clear hb2)
        (try clear hk)
        (try clear hi)
        (try clear ho0)
        obtain ⟨Ao21, co21, eo21⟩ := Kd.R_slice HO115.out
        (first | subst eo21 | (injection eo21 with f1_ f2_ f3_; have f4_ := f1_.symm; have f5_ := f3_.symm; clear f1_ f2_ f3_; subst f4_; subst f5_))
        obtain ⟨Ao22, co22, eo22⟩ := Kd.R_slice HO112.out
        (first | subst eo22 | (injection eo22 with f1_ f2_ f3_; have f4_ := f1_.symm; have f5_ := f3_.symm; clear f1_ f2_ f3_; subst f4_; subst f5_))
        refine hK.out _ _ ⟨(blk_cell BK101.out 0).trans rfl, (blk_cell BK101.out 1).trans rfl⟩ (fun hHeld => ?_)
        clear hK K
        refine norm_ (a' := ?_) ?_ ?_
        rotate_left
        · show Act.put _ (some 37) _ = _
          simp only [Act.put, List.setIfInBounds_toArray, List.set_cons_zero, List.set_cons_succ, i64_w, i32_w]
          rfl
        refine pu_ 15 (some 38) HT_ #[true, true, true, true, true, true, true, true, true, true, true, true, true, true, true, true, false] ?_
        refine one_ (i := 16) (N := none) #[true, true, true, true, true, true, true, true, true, true, true, true, true, true, true, true, true] rfl rfl (one_of HT_.out (by kernel_rfl)) (by decide) (fun K hK => ?_)
        have hs23 : w20.cell? ⟨gb102, 0, none⟩ = some (.slice none 0 0) := (blk_cell BK102.out 0).trans rfl
        have hfs23 := blk_frozen BK102.out 0
        have hns23_0 := NB101_102.out
        have hms23_0 := NB102_101.out
        have hs24 : w20.cell? ⟨gb102, 1, none⟩ = some (.slice none 0 0) := (blk_cell BK102.out 1).trans rfl
        have hfs24 := blk_frozen BK102.out 1
        have hns24_0 := NB101_102.out
        have hms24_0 := NB102_101.out
        refine skip_ (w1 := ?_) (by rfl) rfl ?_ ?_
        rotate_left
        · go_simp
          rfl
        refine hK.out _ _ ⟨((cell_far (p := ⟨gb102, _, none⟩) NB101_102.out _).trans (((cell_far (p := ⟨gb102, _, none⟩) NB101_102.out _).trans (hHeld.1)))), ((cell_far (p := ⟨gb102, _, none⟩) NB101_102.out _).trans (((cell_far (p := ⟨gb102, _, none⟩) NB101_102.out _).trans (hHeld.2))))⟩ (fun hHeld => ?_)
        clear hK K
        refine done_ (done_of HT_.out (by kernel_rfl)) ?_
        try go_wp2
        refine bodyPost_ret (results_cell_row rfl _ _ gb102 25 #[.slice Ao22 y110.length co22, .slice Ao21 t113.length co21] (0, 0) _ rfl (by (with_reducible repeat (first | refine blk_drewN ?_ _ | refine blk_drew ?_ | refine blk_alloc ?_ _)); refine blk_put (cs := #[.slice Ao22 y110.length co22, .slice none 0 0]) ?_ 1 _ rfl; (with_reducible repeat (first | refine blk_drewN ?_ _ | refine blk_drew ?_ | refine blk_alloc ?_ _)); refine blk_put (cs := #[.slice none 0 0, .slice none 0 0]) ?_ 0 _ rfl; (with_reducible repeat (first | refine blk_drewN ?_ _ | refine blk_drew ?_ | refine blk_alloc ?_ _)); exact BK102.out) Tryd.underlying25 rfl (by kernel_rfl)) rfl ?_
        exact ⟨_, _, Re_, by (with_reducible repeat (first | apply Kd.R_alloc | apply Kd.R_drewN | apply Kd.R_drew)); exact Kd.R_mono (Kd.R_far (p := ⟨gb102, 1, none⟩) (Kd.R_far (p := ⟨gb102, 0, none⟩) (Kd.R_types HO112.out BK102.out (by decide)) (fun _ hk => hk.2) (.slice Ao22 y110.length co22)) (fun _ hk => hk.2) (.slice Ao21 t113.length co21)) (fun _ hk => trivial), by (with_reducible repeat (first | apply Kd.R_alloc | apply Kd.R_drewN | apply Kd.R_drew)); exact Kd.R_mono (Kd.R_far (p := ⟨gb102, 1, none⟩) (Kd.R_far (p := ⟨gb102, 0, none⟩) (Kd.R_types HO115.out BK102.out (by decide)) (fun _ hk => hk.2) (.slice Ao22 y110.length co22)) (fun _ hk => hk.2) (.slice Ao21 t113.length co21)) (fun _ hk => trivial), Bl_⟩
      · rw [if_neg c7] at H
        exact absurd H (by simp)
  · rw [if_neg c5] at H
    have c5b0 : decide (0 < t103) = false := decide_eq_false c5
    clear c5
    obtain ⟨y116, hy116⟩ : ∃ y_ : List Int, y_ = (([wrap64 (a2 - a1)] : List Int)) := ⟨_, rfl⟩
    replace H : (if y116.length + t104.length < 17592186044416 then ((mould_part_string.f l0_1 (wrap64 0) (wrap64 0)).bind fun t122 => (some ((y116 ++ t104), t122))) else (none)) = some (r1, r2) := by first | (rw [hy116]; with_reducible exact H) | (have H2_ := (Option.bind_some _ _).symm.trans H; rw [hy116]; with_reducible exact H2_) | (have H2_ := (Option.bind_some _ _).symm.trans H; with_reducible exact H2_) | with_reducible exact H | (rw [hy116]; exact H) | exact H
    have Ny116 := Aside0.mk hy116
    clear hy116
    by_cases c25 : y116.length + t104.length < 17592186044416
    · rw [if_pos c25] at H
      have LMc25 := Aside0.mk c25
      clear c25
      obtain ⟨y119, hy119⟩ : ∃ y_ : List Int, y_ = (y116 ++ t104) := ⟨_, rfl⟩
      replace H : ((mould_part_string.f l0_1 (wrap64 0) (wrap64 0)).bind fun t122 => (some (y119, t122))) = some (r1, r2) := by first | (rw [hy119]; with_reducible exact H) | (have H2_ := (Option.bind_some _ _).symm.trans H; rw [hy119]; with_reducible exact H2_) | (have H2_ := (Option.bind_some _ _).symm.trans H; with_reducible exact H2_) | with_reducible exact H | (rw [hy119]; exact H) | exact H
      have Ny119 := Aside0.mk hy119
      clear hy119
      obtain ⟨t122, A26, H⟩ := bnd_ H
      try dsimp -simprocs only at H
      simp only [Option.some.injEq, Prod.mk.injEq] at H
      obtain ⟨rfl, rfl⟩ := H
      go_enter Tryd.func57, Tryd.ntmps57
      try go_wp2_with (first | ((with_reducible refine gate_dst (N := 3) rfl ?_); refine bx_ 3 #[.slice A0_0 l0_0.length c0_0, .slice A0_1 l0_1.length c0_1] 25 ?_; intro gb101 hg w27 hbox hb; have BK101 := Aside0.mk (hbox); have GW101 := (Bg_ hg : Aside0 (w.heap.size ≤ gb101)); have GE101 := (Bg_ hg : Aside0 (w.heap.size ≤ gb101)); replace HB := Bs_ hb; clear hb hbox hg) | ((with_reducible refine gate_dst (N := 6) rfl ?_); refine bx_ 6 #[.slice none 0 0, .slice none 0 0] 25 ?_; intro gb102 hg w28 hbox hb; have BK102 := Aside0.mk (hbox); have GW102 := (Bg_ hg : Aside0 (w.heap.size ≤ gb102)); have GE102 := (Bg_ hg : Aside0 (w.heap.size ≤ gb102)); replace HB := Bs_ hb; have NB101_102 := nl_ hg BK101; have NB102_101 := ng_ hg BK101; replace BK101 := kb_ BK101 hb; clear hb hbox hg; have hnb29 := NB101_102.out; have hnc29 := NB102_101.out; obtain ⟨hcz30_0, hcz30_1⟩ := c2_ BK101; obtain ⟨hfz30_0, hfz30_1⟩ := f2_ BK101) | ((with_reducible refine gate_callee (f := 68) rfl ?_); refine goesL_ (some 13) rfl rfl Tryd.func68 (by kernel_rfl) rfl #[.slice A0_0 l0_0.length c0_0] rfl Ga_ ?_; (with_reducible refine (shape_Items.calls _ _ l0_0 t103 t104 _ ?side1 ?side2 A4.out).mono ?_); (case side1 => exact Pc_ (Kd.C_below HR0_0.out HB.out)); (case side2 => exact HC0_0.out); rintro e w31 ⟨v105, rfl, ho0, hb⟩; refine ⟨_, rfl, ?_⟩; have HO106 := Aside0.mk (Kd.R_lower ho0 Bz_); replace BK101 := kb_ BK101 hb; replace BK102 := kb_ BK102 hb; replace HB := Bs_ hb; (try clear hb); (try clear hb2); (try clear hk); (try clear hi); (try clear ho0)))
      replace HO106 := Aside0.mk (Kd.R_drew HO106.out)
      replace BK101 := Aside0.mk (blk_drew BK101.out)
      replace BK102 := Aside0.mk (blk_drew BK102.out)
      replace HB := Aside0.mk (below_drew1 HB.out)
      refine start_ (n := 17) (S := fun w' => w'.cell? ⟨gb101, 0, none⟩ = some (.slice A0_0 l0_0.length c0_0) ∧ w'.cell? ⟨gb101, 1, none⟩ = some (.slice A0_1 l0_1.length c0_1)) (ds := []) #[false, false, false, false, false, false, false, false, false, false, false, false, false, false, false, false, false] (by kernel_rfl) rfl rfl ⟨(blk_cell BK101.out 0).trans rfl, (blk_cell BK101.out 1).trans rfl⟩ (fun hHeld => ?_); refine with_tabW mould_some.tab5 mould_some.bits5 (fun HT_ HW_ => ?_)
      generalize w31.drew = w32 at HO106 BK101 BK102 HB hHeld ⊢
      refine pu_ 0 (some 23) HT_ #[true, false, false, false, false, false, false, false, false, false, false, false, false, false, false, false, false] ?_
      refine pu_ 1 (some 24) HT_ #[true, true, false, false, false, false, false, false, false, false, false, false, false, false, false, false, false] ?_
      refine pu_ 2 (some 25) HT_ #[true, true, true, false, false, false, false, false, false, false, false, false, false, false, false, false, false] ?_
      refine pu_ 4 (some 27) HT_ #[true, true, true, false, true, false, false, false, false, false, false, false, false, false, false, false, false] ?_
      refine pu_ 6 (some 29) HT_ #[true, true, true, false, true, false, true, false, false, false, false, false, false, false, false, false, false] ?_
      refine pu_ 8 (some 31) HT_ #[true, true, true, false, true, false, true, false, true, false, false, false, false, false, false, false, false] ?_
      refine pu_ 9 (some 32) HT_ #[true, true, true, false, true, false, true, false, true, true, false, false, false, false, false, false, false] ?_
      refine pu_ 10 (some 33) HT_ #[true, true, true, false, true, false, true, false, true, true, true, false, false, false, false, false, false] ?_
      refine pu_ 11 (some 34) HT_ #[true, true, true, false, true, false, true, false, true, true, true, true, false, false, false, false, false] ?_
      refine pu_ 12 (some 35) HT_ #[true, true, true, false, true, false, true, false, true, true, true, true, true, false, false, false, false] ?_
      refine pu_ 13 (some 36) HT_ #[true, true, true, false, true, false, true, false, true, true, true, true, true, true, false, false, false] ?_
      refine take_ (i := 7) (N := some 30) (v := ?_) (a' := ?_) #[true, true, true, false, true, false, true, true, true, true, true, true, true, true, false, false, false] rfl rfl (take_ofW HT_.out HW_.out (by kernel_rfl)) (fun _ _ _ h => h) (Or.inl ⟨by rfl, ?_⟩) hHeld ?_ ?_
      rotate_left
      · rintro w' ⟨s0, s1⟩
        go_simp
        with_reducible rfl
      rotate_left
      · simp only [Act.put, List.setIfInBounds_toArray, List.set_cons_zero, List.set_cons_succ, i64_w, i32_w]
        rfl
      refine one_ (i := 3) (N := some 26) #[true, true, true, true, true, false, true, true, true, true, true, true, true, true, false, false, false] rfl rfl (one_of HT_.out (by kernel_rfl)) (by decide) (fun K hK => ?_)
      refine Kd.R_lit_step (Kd.int .i64) _ 3 ?hg (N := 26) ?hd (xs := ([wrap64 (a2 - a1)] : List Int)) (inner := [.int .i64 (wrap64 (a2 - a1))]) (ok := fun _ => True) (okp := fun _ => True) ?hr ?hp (fun _ hk => hk) trivial (Below.refl _ _) (Nat.le_refl _) (by simp) ?_; (case hd => rfl); (case hg => rfl); (case hr => first | (go_simp; done) | (go_simp; rfl)); (case hp => exact (Reps.one (show Kd.M (Kd.int .i64) _ _ _ (wrap64 (a2 - a1)) [.int .i64 (wrap64 (a2 - a1))] from rfl) (Reps.none _ _)))
      intro v117 w33 ho34 hb hg_ hnew_
      clear hg_ hnew_
      (first | rw [← Ny116.out] at ho34 | (simp only [Int.reduceToNat] at ho34; rw [← Ny116.out] at ho34))
      have HO118 := Aside0.mk (Kd.R_lower (Kd.R_new' ho34 (Kd.R_lt (Pr_ HO106.out))) Bz_)
      replace HO106 := Aside0.mk (Kd.R_elder' (Pr_ HO106.out) (Kd.R_base ho34) hb)
      replace BK101 := kb_ BK101 hb
      replace BK102 := kb_ BK102 hb
      replace HB := Bs_ hb
      clear hb ho34
      obtain ⟨Ao36, co36, eo36⟩ := Kd.R_slice HO106.out
      (first | subst eo36 | (injection eo36 with f1_ f2_ f3_; have f4_ := f1_.symm; have f5_ := f3_.symm; clear f1_ f2_ f3_; subst f4_; subst f5_))
      refine hK.out _ _ ⟨(blk_cell BK101.out 0).trans rfl, (blk_cell BK101.out 1).trans rfl⟩ (fun hHeld => ?_)
      clear hK K
      refine norm_ (a' := ?_) ?_ ?_
      rotate_left
      · show Act.put _ (some 26) _ = _
        simp only [Act.put, List.setIfInBounds_toArray, List.set_cons_zero, List.set_cons_succ, i64_w, i32_w]
        rfl
      refine one_ (i := 5) (N := some 28) #[true, true, true, true, true, true, true, true, true, true, true, true, true, true, false, false, false] rfl rfl (one_of HT_.out (by kernel_rfl)) (by decide) (fun K hK => ?_)
      refine Kd.R_append_rows_step (Kd.int .i64) (w0 := w) w.heap.size (by rfl) (.tmp 26) (.tmp 27) 22 3 (.int .i64 0) 8 rfl Tryd.underlying22 info3 rfl (by decide) (by omega) v117 y116 t104 _ _ _ (fun k_ => some k_ ≠ (.slice Ao36 t104.length co36 : Value).ownBlock) (fun _ => False) rfl rfl ?aO ?aR (fun _ _ h => h) (fun _ h => h.elim) ?aF ?aB ?aS ?aL ?_
      (case aR => exact Pc_ ((Kd.R_reads' HO106.out).2.2))
      (case aB => exact Bl_)
      (case aF => exact (fun k_ hk => Kd.fresh' (Kd.R_lt (Pr_ HO106.out)) k_ hk))
      (case aO => exact (by (with_reducible repeat (first | apply Kd.R_alloc | apply Kd.R_drewN | apply Kd.R_drew)); exact Kd.R_mono HO118.out (fun _ hk => hk.2)))
      (case aS => exact Bz_)
      (case aL => have := LMc25.out; omega)
      intro v120 w35 ho hb hg hat
      rw [← Ny119.out] at ho
      replace BK101 := kg_ BK101 hg (Kd.R_ne HO118.out BK101.out (by decide))
      replace BK102 := kg_ BK102 hg (Kd.R_ne HO118.out BK102.out (by decide))
      replace HO106 := Aside0.mk (Kd.R_after (ok := (fun _ => True)) (Pr_ HO106.out) hg hat)
      replace HB := Aside0.mk (hb)
      have HO121 := Aside0.mk (ho)
      clear HO118
      clear ho hb hg hat
      refine hK.out _ _ ⟨(blk_cell BK101.out 0).trans rfl, (blk_cell BK101.out 1).trans rfl⟩ (fun hHeld => ?_)
      clear hK K
      refine norm_ (a' := ?_) ?_ ?_
      rotate_left
      · show Act.put _ (some 28) _ = _
        simp only [Act.put, List.setIfInBounds_toArray, List.set_cons_zero, List.set_cons_succ, i64_w, i32_w]
        rfl
      refine one_ (i := 14) (N := some 37) #[true, true, true, true, true, true, true, true, true, true, true, true, true, true, true, false, false] rfl rfl (one_of HT_.out (by kernel_rfl)) (by decide) (fun K hK => ?_)
      refine goes_ Tryd.func89 (by kernel_rfl) rfl #[.slice A0_1 l0_1.length c0_1, .int .i64 (wrap64 0), .int .i64 (wrap64 0)] (by rfl) rfl rfl Ga_ ?_
      with_reducible refine (mould_part_string.calls _ _ l0_1 (wrap64 0) (wrap64 0) t122 _ ?side1 ?side2 A26.out).mono ?_
      (case side1 => exact Pc_ (Kd.C_below HR0_1.out HB.out))
      (case side2 => exact HC0_1.out)
      rintro e w37 ⟨v123, rfl, ho0, hb⟩
      refine ⟨_, rfl, ?_⟩
      replace HO106 := Aside0.mk (Kd.R_below (Pr_ HO106.out) hb)
      replace HO121 := Aside0.mk (Kd.R_below (Pr_ HO121.out) hb)
      have HO124 := Aside0.mk (Kd.R_lower ho0 Bz_)
      replace BK101 := kb_ BK101 hb
      replace BK102 := kb_ BK102 hb
      replace HB := Bs_ hb
      (try clear hb)
      (try clear hb2)
      (try clear hk)
      (try clear hi)
      (try clear ho0)
      obtain ⟨Ao38, co38, eo38⟩ := Kd.R_slice HO124.out
      (first | subst eo38 | (injection eo38 with f1_ f2_ f3_; have f4_ := f1_.symm; have f5_ := f3_.symm; clear f1_ f2_ f3_; subst f4_; subst f5_))
      obtain ⟨Ao39, co39, eo39⟩ := Kd.R_slice HO121.out
      (first | subst eo39 | (injection eo39 with f1_ f2_ f3_; have f4_ := f1_.symm; have f5_ := f3_.symm; clear f1_ f2_ f3_; subst f4_; subst f5_))
      refine hK.out _ _ ⟨(blk_cell BK101.out 0).trans rfl, (blk_cell BK101.out 1).trans rfl⟩ (fun hHeld => ?_)
      clear hK K
      refine norm_ (a' := ?_) ?_ ?_
      rotate_left
      · show Act.put _ (some 37) _ = _
        simp only [Act.put, List.setIfInBounds_toArray, List.set_cons_zero, List.set_cons_succ, i64_w, i32_w]
        rfl
      refine pu_ 15 (some 38) HT_ #[true, true, true, true, true, true, true, true, true, true, true, true, true, true, true, true, false] ?_
      refine one_ (i := 16) (N := none) #[true, true, true, true, true, true, true, true, true, true, true, true, true, true, true, true, true] rfl rfl (one_of HT_.out (by kernel_rfl)) (by decide) (fun K hK => ?_)
      have hs40 : w37.cell? ⟨gb102, 0, none⟩ = some (.slice none 0 0) := (blk_cell BK102.out 0).trans rfl
      have hfs40 := blk_frozen BK102.out 0
      have hns40_0 := NB101_102.out
      have hms40_0 := NB102_101.out
      have hs41 : w37.cell? ⟨gb102, 1, none⟩ = some (.slice none 0 0) := (blk_cell BK102.out 1).trans rfl
      have hfs41 := blk_frozen BK102.out 1
      have hns41_0 := NB101_102.out
      have hms41_0 := NB102_101.out
      refine skip_ (w1 := ?_) (by rfl) rfl ?_ ?_
      rotate_left
      · go_simp
        rfl
      refine hK.out _ _ ⟨((cell_far (p := ⟨gb102, _, none⟩) NB101_102.out _).trans (((cell_far (p := ⟨gb102, _, none⟩) NB101_102.out _).trans (hHeld.1)))), ((cell_far (p := ⟨gb102, _, none⟩) NB101_102.out _).trans (((cell_far (p := ⟨gb102, _, none⟩) NB101_102.out _).trans (hHeld.2))))⟩ (fun hHeld => ?_)
      clear hK K
      refine done_ (done_of HT_.out (by kernel_rfl)) ?_
      try go_wp2
      refine bodyPost_ret (results_cell_row rfl _ _ gb102 25 #[.slice Ao39 y119.length co39, .slice Ao38 t122.length co38] (0, 0) _ rfl (by (with_reducible repeat (first | refine blk_drewN ?_ _ | refine blk_drew ?_ | refine blk_alloc ?_ _)); refine blk_put (cs := #[.slice Ao39 y119.length co39, .slice none 0 0]) ?_ 1 _ rfl; (with_reducible repeat (first | refine blk_drewN ?_ _ | refine blk_drew ?_ | refine blk_alloc ?_ _)); refine blk_put (cs := #[.slice none 0 0, .slice none 0 0]) ?_ 0 _ rfl; (with_reducible repeat (first | refine blk_drewN ?_ _ | refine blk_drew ?_ | refine blk_alloc ?_ _)); exact BK102.out) Tryd.underlying25 rfl (by kernel_rfl)) rfl ?_
      exact ⟨_, _, Re_, by (with_reducible repeat (first | apply Kd.R_alloc | apply Kd.R_drewN | apply Kd.R_drew)); exact Kd.R_mono (Kd.R_far (p := ⟨gb102, 1, none⟩) (Kd.R_far (p := ⟨gb102, 0, none⟩) (Kd.R_types HO121.out BK102.out (by decide)) (fun _ hk => hk.2) (.slice Ao39 y119.length co39)) (fun _ hk => hk.2) (.slice Ao38 t122.length co38)) (fun _ hk => trivial), by (with_reducible repeat (first | apply Kd.R_alloc | apply Kd.R_drewN | apply Kd.R_drew)); exact Kd.R_mono (Kd.R_far (p := ⟨gb102, 1, none⟩) (Kd.R_far (p := ⟨gb102, 0, none⟩) (Kd.R_types HO124.out BK102.out (by decide)) (fun _ hk => hk.2) (.slice Ao39 y119.length co39)) (fun _ hk => hk.2) (.slice Ao38 t122.length co38)) (fun _ hk => trivial), Bl_⟩
    · rw [if_neg c25] at H
      exact absurd H (by simp)
/-! ### mould_Reverse: function 25 -/
mutual
def mould_Reverse.j0 : Nat → Bool → List Int → List ByteArray → Option (List Int × List ByteArray × Int)
  | 0, _, _, _ => none
  | k + 1, x12, x102000, x102001 => if x12 = true then ((slices_Clone_int_int.f x102000).bind fun t107 => ((slices_Clone_string_string.f x102001).bind fun t110 => (some (t107, t110, 0)))) else ((slices_Clone_int_int.f x102000).bind fun t113 => ((val_Many.f x102000 x102001).bind fun t117 => (mould_Reverse.l0 k (wrap64 (t117 - 1)) x102000 x102001 t113 ([] : List ByteArray))))
def mould_Reverse.l0 : Nat → Int → List Int → List ByteArray → List Int → List ByteArray → Option (List Int × List ByteArray × Int)
  | 0, _, _, _, _, _ => none
  | k + 1, x5, x102000, x102001, x117000, x117001 => if x5 ≥ 0 then ((mould_some.f x102000 x102001 x5 (wrap64 (x5 + 1))).bind fun bt118 => (if x117001.length + bt118.2.length < 8796093022208 then (mould_Reverse.l0 k (wrap64 (x5 - 1)) x102000 x102001 x117000 (x117001 ++ bt118.2)) else (none))) else (some (x117000, x117001, 0))
end
def mould_Reverse.f (k : Nat) (l0_0 : List Int) (l0_1 : List ByteArray) : Option (List Int × List ByteArray × Int) := (mould_fine.f k (([(⟨l0_0, l0_1⟩ : S25)] : List (S25)))).bind fun t106 => (if t106 = true then (if (l0_0.length : Int) = 0 then (mould_Reverse.j0 k true l0_0 l0_1) else (mould_Reverse.j0 k ((l0_1.length : Int) == 0) l0_0 l0_1)) else (some (([] : List Int), ([] : List ByteArray), 1)))
def mould_Reverse.T4 : Bool × List (List Nat × List Nat) := (true, [([], []), ([0], [0]), ([1], [1]), ([], []), ([3], [3]), ([4, 2], [4]), ([2, 5], [2, 5]), ([6, 5, 0, 1, 2, 3, 4, 5, 6], [6]), ([7, 0, 1, 2, 3, 4, 5, 6, 7], [])])
def mould_Reverse.B4 : List Nat := [0, 1, 3, 0, 8, 31, 63, 127, 255]
theorem mould_Reverse.tab4 : rtab .any (opsOf Tryd.f25 4) = mould_Reverse.T4 := by kernel_rfl
theorem mould_Reverse.bits4 : waitsOk mould_Reverse.T4.2 mould_Reverse.B4 = true := by kernel_rfl
def mould_Reverse.T9 : Bool × List (List Nat × List Nat) := (true, [([], []), ([0], [0]), ([], []), ([], []), ([], []), ([4], [4]), ([2, 3, 5], [2, 3, 5]), ([6], [6]), ([1, 7, 6], [1, 7]), ([0, 1, 2, 3, 4, 5, 6, 7, 8], []), ([9, 8, 8, 0, 1, 2, 3, 4, 5, 6, 7, 8], [8, 9])])
def mould_Reverse.B9 : List Nat := [0, 1, 0, 0, 0, 16, 60, 124, 255, 511, 1023]
theorem mould_Reverse.tab9 : rtab .any (opsOf Tryd.f25 9) = mould_Reverse.T9 := by kernel_rfl
theorem mould_Reverse.bits9 : waitsOk mould_Reverse.T9.2 mould_Reverse.B9 = true := by kernel_rfl
set_option maxHeartbeats 8000000 in
set_option maxRecDepth 100000 in
theorem mould_Reverse.calls (k : Nat) (P0_0_ : Nat → Prop) (A0_0 : Option Addr) (c0_0 : Nat) (l0_0 : List Int) (P0_1_ : Nat → Prop) (A0_1 : Option Addr) (c0_1 : Nat) (l0_1 : List ByteArray) (r1 : List Int) (r2 : List ByteArray) (r3 : Int) (w : World) (hs0_0 : Kd.V (Kd.int .i64) 3 w w.heap.size (fun k_ => P0_0_ k_) (.slice A0_0 l0_0.length c0_0) l0_0) (hs0_1 : Kd.V Kd.string 9 w w.heap.size (fun k_ => P0_1_ k_) (.slice A0_1 l0_1.length c0_1) l0_1) (h : mould_Reverse.f k l0_0 l0_1 = some (r1, r2, r3)) :
    Calls Tryd.prog 25 #[.agg #[.slice A0_0 l0_0.length c0_0, .slice A0_1 l0_1.length c0_1]] w fun e w' => ∃ v0_ v1_ : Value, e = .returned (.tuple #[.agg #[v0_, v1_], .int .i64 r3]) ∧ Kd.R (Kd.int .i64) 3 w' w.heap.size (fun k_ => (w.heap.size ≤ k_)) v0_ r1 ∧ Kd.R Kd.string 9 w' w.heap.size (fun k_ => (w.heap.size ≤ k_)) v1_ r2 ∧ Below w.heap.size w w' := by
  have hu25 := Tryd.underlying25
  have HO0_0 := Aside0.mk (show Kd.V (Kd.int .i64) 3 w w.heap.size (fun k_ => ((P0_0_ k_ ∨ P0_1_ k_) ∨ w.heap.size ≤ k_)) (.slice A0_0 l0_0.length c0_0) l0_0 from Kd.V_mono hs0_0 (fun k_ hk => .inl (.inl hk)))
  have HO0_1 := Aside0.mk (show Kd.V Kd.string 9 w w.heap.size (fun k_ => ((P0_0_ k_ ∨ P0_1_ k_) ∨ w.heap.size ≤ k_)) (.slice A0_1 l0_1.length c0_1) l0_1 from Kd.V_mono hs0_1 (fun k_ hk => .inl (.inr hk)))
  have HB := Aside0.mk (Below.refl w.heap.size w)
  have H : ((mould_fine.f k (([(⟨l0_0, l0_1⟩ : S25)] : List (S25)))).bind fun t106 => (if t106 = true then (if (l0_0.length : Int) = 0 then (mould_Reverse.j0 k true l0_0 l0_1) else (mould_Reverse.j0 k ((l0_1.length : Int) == 0) l0_0 l0_1)) else (some (([] : List Int), ([] : List ByteArray), 1)))) = some (r1, r2, r3) := h
  clear h
  obtain ⟨y103, hy103⟩ : ∃ y_ : List (S25), y_ = (([(⟨l0_0, l0_1⟩ : S25)] : List (S25))) := ⟨_, rfl⟩
  replace H : ((mould_fine.f k y103).bind fun t106 => (if t106 = true then (if (l0_0.length : Int) = 0 then (mould_Reverse.j0 k true l0_0 l0_1) else (mould_Reverse.j0 k ((l0_1.length : Int) == 0) l0_0 l0_1)) else (some (([] : List Int), ([] : List ByteArray), 1)))) = some (r1, r2, r3) := by first | (rw [hy103]; with_reducible exact H) | (have H2_ := (Option.bind_some _ _).symm.trans H; rw [hy103]; with_reducible exact H2_) | (have H2_ := (Option.bind_some _ _).symm.trans H; with_reducible exact H2_) | with_reducible exact H | (rw [hy103]; exact H) | exact H
  have Ny103 := Aside0.mk hy103
  clear hy103
  obtain ⟨t106, A2, H⟩ := bnd_ H
  try dsimp -simprocs only at H
  by_cases c3 : t106 = true
  · subst c3
    have H1 : (if (l0_0.length : Int) = 0 then (mould_Reverse.j0 k true l0_0 l0_1) else (mould_Reverse.j0 k ((l0_1.length : Int) == 0) l0_0 l0_1)) = some (r1, r2, r3) := by rw [if_pos rfl] at H; exact H
    clear H
    have H := H1
    clear H1
    have HC4 := Aside0.mk H
    clear H
    go_enter Tryd.func25, Tryd.ntmps25
    go_upto_region 3 with (first | ((with_reducible refine gate_dst (N := 1) rfl ?_); (try (refine gate_guard (by rfl) ?_; dsimp only)); refine bx_ 1 #[.slice A0_0 l0_0.length c0_0, .slice A0_1 l0_1.length c0_1] 25 ?_; intro gb101 hg w5 hbox hb; replace HO0_0 := Aside0.mk (Kd.V_below (Kd.V_elderB (Pv_ HO0_0.out) gb101 (Nat.le_of_eq hg.symm)) hb); replace HO0_1 := Aside0.mk (Kd.V_below (Kd.V_elderB (Pv_ HO0_1.out) gb101 (Nat.le_of_eq hg.symm)) hb); have BK101 := Aside0.mk (hbox); have GW101 := (Bg_ hg : Aside0 (w.heap.size ≤ gb101)); have GE101 := (Bg_ hg : Aside0 (w.heap.size ≤ gb101)); replace HB := Bs_ hb; clear hb hbox hg) | ((with_reducible refine gate_dst (N := 2) rfl ?_); (try (refine gate_guard (by rfl) ?_; dsimp only)); refine bx_ 2 #[.slice none 0 0, .slice none 0 0] 25 ?_; intro gb102 hg w6 hbox hb; replace HO0_0 := Aside0.mk (Kd.V_below (Kd.V_elderB (Pv_ HO0_0.out) gb102 (Nat.le_of_eq hg.symm)) hb); replace HO0_1 := Aside0.mk (Kd.V_below (Kd.V_elderB (Pv_ HO0_1.out) gb102 (Nat.le_of_eq hg.symm)) hb); have BK102 := Aside0.mk (hbox); have GW102 := (Bg_ hg : Aside0 (w.heap.size ≤ gb102)); have GE102 := (Bg_ hg : Aside0 (w.heap.size ≤ gb102)); replace HB := Bs_ hb; have NB101_102 := nl_ hg BK101; have NB102_101 := ng_ hg BK101; replace BK101 := kb_ BK101 hb; clear hb hbox hg; have hnb7 := NB101_102.out; have hnc7 := NB102_101.out; obtain ⟨hcz8_0, hcz8_1⟩ := c2_ BK101; obtain ⟨hfz8_0, hfz8_1⟩ := f2_ BK101) | ((with_reducible refine gate_dst (N := 8) rfl ?_); (try (refine gate_guard (by rfl) ?_; dsimp only)); refine Kd.N_lit k25 _ 25 ?hg (N' := 8) ?hd (xs := ([(⟨l0_0, l0_1⟩ : S25)] : List (S25))) (inner := [.slice A0_0 l0_0.length c0_0, .slice A0_1 l0_1.length c0_1]) (ok := (fun k_ => ((P0_0_ k_ ∨ P0_1_ k_) ∨ w.heap.size ≤ k_) ∧ k_ ≠ gb101 ∧ k_ ≠ gb102)) (okp := (fun k_ => ((P0_0_ k_ ∨ P0_1_ k_) ∨ w.heap.size ≤ k_) ∧ k_ ≠ gb101 ∧ k_ ≠ gb102)) ?hr ?hp (fun _ hk => hk) ((show ∀ k_, w6.heap.size ≤ k_ → (fun k_ => ((P0_0_ k_ ∨ P0_1_ k_) ∨ w.heap.size ≤ k_) ∧ k_ ≠ gb101 ∧ k_ ≠ gb102) k_ from fun k_ hk => ⟨(.inr (Nat.le_trans Bz_ hk)), Kd.freshB (g := gb101) (o := .cells #[.slice A0_0 l0_0.length c0_0, .slice A0_1 l0_1.length c0_1] 25 (0, 0)) (Bk_ BK101.out) k_ hk, Kd.freshB (g := gb102) (o := .cells #[.slice none 0 0, .slice none 0 0] 25 (0, 0)) (Bk_ BK102.out) k_ hk⟩) _ (Nat.le_refl _)) (Below.refl _ _) (Nat.le_refl _) (by simp) ?_; (case hd => rfl); (case hg => rfl); (case hr => first | (go_simp; done) | (go_simp; rfl)); (case hp => exact (Reps.c2 (show Kd.FK k25 _ _ (⟨l0_0, l0_1⟩ : S25) [.slice A0_0 l0_0.length c0_0, .slice A0_1 l0_1.length c0_1] from (k25_mkF _ _ (⟨l0_0, l0_1⟩ : S25) (Kd.V_reads' (Kd.V_mono (ok' := (fun k_ => ((P0_0_ k_ ∨ P0_1_ k_) ∨ w.heap.size ≤ k_) ∧ k_ ≠ gb101 ∧ k_ ≠ gb102)) (HO0_0.out) (fun k_ hk => ⟨hk.1.1, ⟨hk.1.2, hk.2⟩⟩))).2.1 (Kd.V_F (Kd.V_mono (ok' := (fun k_ => ((P0_0_ k_ ∨ P0_1_ k_) ∨ w.heap.size ≤ k_) ∧ k_ ≠ gb101 ∧ k_ ≠ gb102)) (HO0_0.out) (fun k_ hk => ⟨hk.1.1, ⟨hk.1.2, hk.2⟩⟩))) (Kd.V_reads' (Kd.V_mono (ok' := (fun k_ => ((P0_0_ k_ ∨ P0_1_ k_) ∨ w.heap.size ≤ k_) ∧ k_ ≠ gb101 ∧ k_ ≠ gb102)) (HO0_1.out) (fun k_ hk => ⟨hk.1.1, ⟨hk.1.2, hk.2⟩⟩))).2.1 (Kd.V_F (Kd.V_mono (ok' := (fun k_ => ((P0_0_ k_ ∨ P0_1_ k_) ∨ w.heap.size ≤ k_) ∧ k_ ≠ gb101 ∧ k_ ≠ gb102)) (HO0_1.out) (fun k_ hk => ⟨hk.1.1, ⟨hk.1.2, hk.2⟩⟩))))) (Reps.none _ _))); intro v104 w9 ho10 hb hg_ hnew_; clear hg_ hnew_; (first | rw [← Ny103.out] at ho10 | (simp only [Int.reduceToNat] at ho10; rw [← Ny103.out] at ho10)); replace HO0_0 := Aside0.mk (Kd.V_elder' (Pv_ HO0_0.out) (Kd.N_base ho10) hb); replace HO0_1 := Aside0.mk (Kd.V_elder' (Pv_ HO0_1.out) (Kd.N_base ho10) hb); have HO105 := Aside0.mk (Kd.N_lower ho10 Bz_); replace BK101 := kb_ BK101 hb; replace BK102 := kb_ BK102 hb; replace HB := Bs_ hb; clear hb ho10; obtain ⟨Ao11, co11, eo11⟩ := Kd.N_slice HO105.out; subst eo11) | ((with_reducible refine gate_callee (f := 50) rfl ?_); refine goesL_ (some 9) rfl rfl Tryd.func50 (by kernel_rfl) rfl #[.slice Ao11 y103.length co11] rfl Ga_ ?_; (with_reducible refine (mould_fine.calls k _ _ y103 true _ ?side1 ?side2 A2.out).mono ?_); (case side1 => exact Pc_ ((Kd.N_reads' HO105.out).2.2)); (case side2 => exact (Kd.N_reads' HO105.out).2.1); rintro e w12 ⟨rfl, hb⟩; refine ⟨_, rfl, ?_⟩; replace HO0_0 := Aside0.mk (Kd.V_below (Pv_ HO0_0.out) hb); replace HO0_1 := Aside0.mk (Kd.V_below (Pv_ HO0_1.out) hb); replace HO105 := Aside0.mk (Kd.N_below (by (with_reducible repeat (first | apply Kd.N_alloc | apply Kd.N_drewN | apply Kd.N_drew)); exact HO105.out) hb); replace BK101 := kb_ BK101 hb; replace BK102 := kb_ BK102 hb; replace HB := Bs_ hb; (try clear hb); (try clear hb2); (try clear hk); (try clear hi)))
    (try simp only [Act.put, List.setIfInBounds_toArray, List.set_cons_zero, List.set_cons_succ])
    go_cut [12] (fun v12 wc => ∃ (kq : Nat) (x12_3 : Bool), v12 = .bool x12_3 ∧ Aside0 (mould_Reverse.j0 kq x12_3 l0_0 l0_1 = some (r1, r2, r3)) ∧ Aside0 (kq ≤ k) ∧ Aside0 (Kd.V (Kd.int .i64) 3 wc w.heap.size (fun k_ => ((P0_0_ k_ ∨ P0_1_ k_) ∨ w.heap.size ≤ k_) ∧ k_ ≠ gb101 ∧ k_ ≠ gb102) (.slice A0_0 l0_0.length c0_0) l0_0) ∧ Aside0 (Kd.V Kd.string 9 wc w.heap.size (fun k_ => ((P0_0_ k_ ∨ P0_1_ k_) ∨ w.heap.size ≤ k_) ∧ k_ ≠ gb101 ∧ k_ ≠ gb102) (.slice A0_1 l0_1.length c0_1) l0_1) ∧ Aside0 (wc.heap[gb101]? = some (.cells #[(.slice A0_0 l0_0.length c0_0), (.slice A0_1 l0_1.length c0_1)] 25 (0, 0))) ∧ Aside0 (wc.heap[gb102]? = some (.cells #[(.slice none 0 0), (.slice none 0 0)] 25 (0, 0))) ∧ Aside0 (Below w.heap.size w wc))
    case first =>
      have H := HC4.out
      clear HC4
      by_cases c13 : (l0_0.length : Int) = 0
      · rw [if_pos c13] at H
        have c13b0 : ((l0_0.length : Int) == 0) = true := beq_iff_eq.mpr c13
        have c13b1 : ((l0_0.length : Int) != 0) = false := bne_eq_false_iff_eq.mpr c13
        clear c13
        (first | rw [c13b0] | (simp only [i64_w, i32_w]; rw [c13b0]) | skip)
        have H' := Aside0.mk H
        clear H
        have hnb14 := NB101_102.out
        have hnc14 := NB102_101.out
        obtain ⟨hcz15_0, hcz15_1⟩ := c2_ BK101
        obtain ⟨hfz15_0, hfz15_1⟩ := f2_ BK101
        go_wp2
        go_meet
        case rel => exact ⟨_, (true), Rf_, H', ⟨by first | omega | exact Nat.le_refl _⟩, ⟨by (with_reducible repeat (first | apply Kd.V_alloc | apply Kd.V_drewN | apply Kd.V_drew)); exact Kd.V_mono HO0_0.out (fun _ hk => ⟨hk.1.1.1, ⟨hk.1.1.2, hk.1.2⟩⟩)⟩, ⟨by (with_reducible repeat (first | apply Kd.V_alloc | apply Kd.V_drewN | apply Kd.V_drew)); exact Kd.V_mono HO0_1.out (fun _ hk => ⟨hk.1.1.1, ⟨hk.1.1.2, hk.1.2⟩⟩)⟩, ⟨by (with_reducible repeat (first | refine blk_drewN ?_ _ | refine blk_drew ?_ | refine blk_alloc ?_ _)); exact BK101.out⟩, ⟨by (with_reducible repeat (first | refine blk_drewN ?_ _ | refine blk_drew ?_ | refine blk_alloc ?_ _)); exact BK102.out⟩, ⟨Bl_⟩⟩
      · rw [if_neg c13] at H
        have c13b0 : ((l0_0.length : Int) == 0) = false := beq_eq_false_iff_ne.mpr c13
        have c13b1 : ((l0_0.length : Int) != 0) = true := bne_iff_ne.mpr c13
        have c13b2 : ¬ (l0_0 = []) := fun h_ => c13 (by rw [h_]; rfl)
        (first | rw [c13b0] | (simp only [i64_w, i32_w]; rw [c13b0]) | skip)
        have H' := Aside0.mk H
        clear H
        have hnb16 := NB101_102.out
        have hnc16 := NB102_101.out
        obtain ⟨hcz17_0, hcz17_1⟩ := c2_ BK101
        obtain ⟨hfz17_0, hfz17_1⟩ := f2_ BK101
        go_wp2
        go_meet
        case rel => exact ⟨_, (((l0_1.length : Int) == 0)), Rf_, H', ⟨by first | omega | exact Nat.le_refl _⟩, ⟨by (with_reducible repeat (first | apply Kd.V_alloc | apply Kd.V_drewN | apply Kd.V_drew)); exact Kd.V_mono HO0_0.out (fun _ hk => ⟨hk.1.1.1, ⟨hk.1.1.2, hk.1.2⟩⟩)⟩, ⟨by (with_reducible repeat (first | apply Kd.V_alloc | apply Kd.V_drewN | apply Kd.V_drew)); exact Kd.V_mono HO0_1.out (fun _ hk => ⟨hk.1.1.1, ⟨hk.1.1.2, hk.1.2⟩⟩)⟩, ⟨by (with_reducible repeat (first | refine blk_drewN ?_ _ | refine blk_drew ?_ | refine blk_alloc ?_ _)); exact BK101.out⟩, ⟨by (with_reducible repeat (first | refine blk_drewN ?_ _ | refine blk_drew ?_ | refine blk_alloc ?_ _)); exact BK102.out⟩, ⟨Bl_⟩⟩
    case rest =>
      clear HC4
      try clear c1
      try clear c2
      try clear p2
      try clear c3
      try clear c5
      try clear c7
      try clear c13
      try clear c13b0
      try clear c13b1
      try clear c13b2
      try clear c14
      try clear c16
      try clear hcz15_0
      try clear hcz15_1
      try clear hcz17_0
      try clear hcz17_1
      try clear hcz8_0
      try clear hcz8_1
      try clear hfz15_0
      try clear hfz15_1
      try clear hfz17_0
      try clear hfz17_1
      try clear hfz8_0
      try clear hfz8_1
      obtain ⟨kq, x12_3, rfl, HA, HJ3, HO_102000, HO_102001, BK101, BK102, HB⟩ := hcut
      cases kq with
      | zero => exact absurd HA.out (by simp [mould_Reverse.j0])
      | succ kj3 =>
        have H := HA.out
        clear HA
        simp only [mould_Reverse.j0] at H
        by_cases c18 : x12_3 = true
        · subst c18
          have H1 : ((slices_Clone_int_int.f l0_0).bind fun t107 => ((slices_Clone_string_string.f l0_1).bind fun t110 => (some (t107, t110, 0)))) = some (r1, r2, r3) := by rw [if_pos rfl] at H; exact H
          clear H
          have H := H1
          clear H1
          obtain ⟨t107, A19, H⟩ := bnd_ H
          try dsimp -simprocs only at H
          obtain ⟨t110, A20, H⟩ := bnd_ H
          try dsimp -simprocs only at H
          simp only [Option.some.injEq, Prod.mk.injEq] at H
          obtain ⟨rfl, rfl, rfl⟩ := H
          try go_wp2
          replace HO_102000 := Aside0.mk (Kd.V_drew HO_102000.out)
          replace HO_102001 := Aside0.mk (Kd.V_drew HO_102001.out)
          replace BK101 := Aside0.mk (blk_drew BK101.out)
          replace BK102 := Aside0.mk (blk_drew BK102.out)
          replace HB := Aside0.mk (below_drew1 HB.out)
          refine start_ (n := 9) (S := fun w' => w'.cell? ⟨gb101, 0, none⟩ = some (.slice A0_0 l0_0.length c0_0) ∧ w'.cell? ⟨gb101, 1, none⟩ = some (.slice A0_1 l0_1.length c0_1)) (ds := []) #[false, false, false, false, false, false, false, false, false] (by kernel_rfl) rfl rfl ⟨(blk_cell BK101.out 0).trans rfl, (blk_cell BK101.out 1).trans rfl⟩ (fun hHeld => ?_); refine with_tabW mould_Reverse.tab4 mould_Reverse.bits4 (fun HT_ HW_ => ?_)
          generalize wc.drew = w21 at HO_102000 HO_102001 BK101 BK102 HB hHeld ⊢
          refine pu_ 0 (some 23) HT_ #[true, false, false, false, false, false, false, false, false] ?_
          refine pu_ 3 (some 26) HT_ #[true, false, false, true, false, false, false, false, false] ?_
          refine take_ (i := 1) (N := some 24) (v := ?_) (a' := ?_) #[true, true, false, true, false, false, false, false, false] rfl rfl (take_ofW HT_.out HW_.out (by kernel_rfl)) (fun _ _ _ h => h) (Or.inl ⟨by rfl, ?_⟩) hHeld ?_ ?_
          rotate_left
          · rintro w' ⟨s0, s1⟩
            go_simp
            with_reducible rfl
          rotate_left
          · simp only [Act.put, List.setIfInBounds_toArray, List.set_cons_zero, List.set_cons_succ, i64_w, i32_w]
            rfl
          refine take_ (i := 4) (N := some 27) (v := ?_) (a' := ?_) #[true, true, false, true, true, false, false, false, false] rfl rfl (take_ofW HT_.out HW_.out (by kernel_rfl)) (fun _ _ _ h => h) (Or.inl ⟨by rfl, ?_⟩) hHeld ?_ ?_
          rotate_left
          · rintro w' ⟨s0, s1⟩
            go_simp
            with_reducible rfl
          rotate_left
          · simp only [Act.put, List.setIfInBounds_toArray, List.set_cons_zero, List.set_cons_succ, i64_w, i32_w]
            rfl
          refine one_ (i := 2) (N := some 25) #[true, true, true, true, true, false, false, false, false] rfl rfl (one_of HT_.out (by kernel_rfl)) (by decide) (fun K hK => ?_)
          refine goes_ Tryd.func55 (by kernel_rfl) rfl #[.slice A0_0 l0_0.length c0_0] (by rfl) rfl rfl Ga_ ?_
          with_reducible refine (slices_Clone_int_int.calls _ _ l0_0 t107 _ ?side1 ?side2 A19.out).mono ?_
          (case side1 => exact Pc_ ((Kd.V_reads' HO_102000.out).2.2))
          (case side2 => exact (Kd.V_reads' HO_102000.out).2.1)
          rintro e w22 ⟨v108, rfl, ho0, hb⟩
          refine ⟨_, rfl, ?_⟩
          replace HO_102000 := Aside0.mk (Kd.V_elder' (Pv_ HO_102000.out) (Kd.R_base ho0) hb)
          replace HO_102001 := Aside0.mk (Kd.V_elder' (Pv_ HO_102001.out) (Kd.R_base ho0) hb)
          have HO109 := Aside0.mk (Kd.R_lower (Kd.R_newM (M := fun k_ => (w.heap.size ≤ k_)) ho0 Bz_ (fun k_ h_ => h_)) Bz_)
          replace BK101 := kb_ BK101 hb
          replace BK102 := kb_ BK102 hb
          replace HB := Bs_ hb
          (try clear hb)
          (try clear hb2)
          (try clear hk)
          (try clear hi)
          (try clear ho0)
          refine hK.out _ _ ⟨(blk_cell BK101.out 0).trans rfl, (blk_cell BK101.out 1).trans rfl⟩ (fun hHeld => ?_)
          clear hK K
          refine norm_ (a' := ?_) ?_ ?_
          rotate_left
          · show Act.put _ (some 25) _ = _
            simp only [Act.put, List.setIfInBounds_toArray, List.set_cons_zero, List.set_cons_succ, i64_w, i32_w]
            rfl
          refine one_ (i := 5) (N := some 28) #[true, true, true, true, true, true, false, false, false] rfl rfl (one_of HT_.out (by kernel_rfl)) (by decide) (fun K hK => ?_)
          refine goes_ Tryd.func56 (by kernel_rfl) rfl #[.slice A0_1 l0_1.length c0_1] (by rfl) rfl rfl Ga_ ?_
          with_reducible refine (slices_Clone_string_string.calls _ _ l0_1 t110 _ ?side1 ?side2 A20.out).mono ?_
          (case side1 => exact Pc_ ((Kd.V_reads' HO_102001.out).2.2))
          (case side2 => exact (Kd.V_reads' HO_102001.out).2.1)
          rintro e w23 ⟨v111, rfl, ho0, hb⟩
          refine ⟨_, rfl, ?_⟩
          replace HO_102000 := Aside0.mk (Kd.V_elder' (Pv_ HO_102000.out) (Kd.R_base ho0) hb)
          replace HO_102001 := Aside0.mk (Kd.V_elder' (Pv_ HO_102001.out) (Kd.R_base ho0) hb)
          replace HO109 := Aside0.mk (Kd.R_below (Pr_ HO109.out) hb)
          have HO112 := Aside0.mk (Kd.R_lower (Kd.R_newM (M := fun k_ => (w.heap.size ≤ k_)) ho0 Bz_ (fun k_ h_ => h_)) Bz_)
          replace BK101 := kb_ BK101 hb
          replace BK102 := kb_ BK102 hb
          replace HB := Bs_ hb
          (try clear hb)
          (try clear hb2)
          (try clear hk)
          (try clear hi)
          (try clear ho0)
          obtain ⟨Ao24, co24, eo24⟩ := Kd.R_slice HO112.out
          (first | subst eo24 | (injection eo24 with f1_ f2_ f3_; have f4_ := f1_.symm; have f5_ := f3_.symm; clear f1_ f2_ f3_; subst f4_; subst f5_))
          obtain ⟨Ao25, co25, eo25⟩ := Kd.R_slice HO109.out
          (first | subst eo25 | (injection eo25 with f1_ f2_ f3_; have f4_ := f1_.symm; have f5_ := f3_.symm; clear f1_ f2_ f3_; subst f4_; subst f5_))
          refine hK.out _ _ ⟨(blk_cell BK101.out 0).trans rfl, (blk_cell BK101.out 1).trans rfl⟩ (fun hHeld => ?_)
          clear hK K
          refine norm_ (a' := ?_) ?_ ?_
          rotate_left
          · show Act.put _ (some 28) _ = _
            simp only [Act.put, List.setIfInBounds_toArray, List.set_cons_zero, List.set_cons_succ, i64_w, i32_w]
            rfl
          refine pu_ 6 (some 29) HT_ #[true, true, true, true, true, true, true, false, false] ?_
          refine one_ (i := 7) (N := none) #[true, true, true, true, true, true, true, true, false] rfl rfl (one_of HT_.out (by kernel_rfl)) (by decide) (fun K hK => ?_)
          have hs26 : w23.cell? ⟨gb102, 0, none⟩ = some (.slice none 0 0) := (blk_cell BK102.out 0).trans rfl
          have hfs26 := blk_frozen BK102.out 0
          have hns26_0 := NB101_102.out
          have hms26_0 := NB102_101.out
          have hs27 : w23.cell? ⟨gb102, 1, none⟩ = some (.slice none 0 0) := (blk_cell BK102.out 1).trans rfl
          have hfs27 := blk_frozen BK102.out 1
          have hns27_0 := NB101_102.out
          have hms27_0 := NB102_101.out
          refine skip_ (w1 := ?_) (by rfl) rfl ?_ ?_
          rotate_left
          · go_simp
            rfl
          refine hK.out _ _ ⟨((cell_far (p := ⟨gb102, _, none⟩) NB101_102.out _).trans (((cell_far (p := ⟨gb102, _, none⟩) NB101_102.out _).trans (hHeld.1)))), ((cell_far (p := ⟨gb102, _, none⟩) NB101_102.out _).trans (((cell_far (p := ⟨gb102, _, none⟩) NB101_102.out _).trans (hHeld.2))))⟩ (fun hHeld => ?_)
          clear hK K
          refine pu_ 8 (some 3) HT_ #[true, true, true, true, true, true, true, true, true] ?_
          refine done_ (done_of HT_.out (by kernel_rfl)) ?_
          try go_wp2
          refine bodyPost_ret (results_ct rfl _ _ gb102 25 #[.slice Ao25 t107.length co25, .slice Ao24 t110.length co24] (0, 0) _ rfl (by (with_reducible repeat (first | refine blk_drewN ?_ _ | refine blk_drew ?_ | refine blk_alloc ?_ _)); refine blk_put (cs := #[.slice Ao25 t107.length co25, .slice none 0 0]) ?_ 1 _ rfl; (with_reducible repeat (first | refine blk_drewN ?_ _ | refine blk_drew ?_ | refine blk_alloc ?_ _)); refine blk_put (cs := #[.slice none 0 0, .slice none 0 0]) ?_ 0 _ rfl; (with_reducible repeat (first | refine blk_drewN ?_ _ | refine blk_drew ?_ | refine blk_alloc ?_ _)); exact BK102.out) Tryd.underlying25 rfl (by kernel_rfl)) rfl ?_
          exact ⟨_, _, Re_, by (with_reducible repeat (first | apply Kd.R_alloc | apply Kd.R_drewN | apply Kd.R_drew)); exact Kd.R_mono (Kd.R_far (p := ⟨gb102, 1, none⟩) (Kd.R_far (p := ⟨gb102, 0, none⟩) (Kd.R_types HO109.out BK102.out (by decide)) (fun _ hk => hk.2) (.slice Ao25 t107.length co25)) (fun _ hk => hk.2) (.slice Ao24 t110.length co24)) (fun _ hk => hk.1.1), by (with_reducible repeat (first | apply Kd.R_alloc | apply Kd.R_drewN | apply Kd.R_drew)); exact Kd.R_mono (Kd.R_far (p := ⟨gb102, 1, none⟩) (Kd.R_far (p := ⟨gb102, 0, none⟩) (Kd.R_types HO112.out BK102.out (by decide)) (fun _ hk => hk.2) (.slice Ao25 t107.length co25)) (fun _ hk => hk.2) (.slice Ao24 t110.length co24)) (fun _ hk => hk.1.1), Bl_⟩
        · replace c18 := Bool.eq_false_iff.mpr c18
          subst c18
          have H1 : ((slices_Clone_int_int.f l0_0).bind fun t113 => ((val_Many.f l0_0 l0_1).bind fun t117 => (mould_Reverse.l0 kj3 (wrap64 (t117 - 1)) l0_0 l0_1 t113 ([] : List ByteArray)))) = some (r1, r2, r3) := by rw [if_neg (show ¬ (false = true) by decide)] at H; exact H
          clear H
          have H := H1
          clear H1
          obtain ⟨t113, A28, H⟩ := bnd_ H
          try dsimp -simprocs only at H
          obtain ⟨t117, A29, H⟩ := bnd_ H
          try dsimp -simprocs only at H
          have H' := Aside0.mk H
          clear H
          have hnb30 := NB101_102.out
          have hnc30 := NB102_101.out
          obtain ⟨hcz31_0, hcz31_1⟩ := c2_ BK101
          obtain ⟨hfz31_0, hfz31_1⟩ := f2_ BK101
          go_wp2_with (first | ((with_reducible refine gate_callee (f := 55) rfl ?_); refine goesL_ (some 32) rfl rfl Tryd.func55 (by kernel_rfl) rfl #[.slice A0_0 l0_0.length c0_0] rfl Ga_ ?_; (with_reducible refine (slices_Clone_int_int.calls _ _ l0_0 t113 _ ?side1 ?side2 A28.out).mono ?_); (case side1 => exact Pc_ ((Kd.V_reads' HO_102000.out).2.2)); (case side2 => exact (Kd.V_reads' HO_102000.out).2.1); rintro e w32 ⟨v114, rfl, ho0, hb⟩; refine ⟨_, rfl, ?_⟩; replace HO_102000 := Aside0.mk (Kd.V_elder' (Pv_ HO_102000.out) (Kd.R_base ho0) hb); replace HO_102001 := Aside0.mk (Kd.V_elder' (Pv_ HO_102001.out) (Kd.R_base ho0) hb); have HO115 := Aside0.mk (Kd.R_lower (Kd.R_newM (M := fun k_ => (w.heap.size ≤ k_)) ho0 Bz_ (fun k_ h_ => h_)) Bz_); replace BK101 := kb_ BK101 hb; replace BK102 := kb_ BK102 hb; replace HB := Bs_ hb; (try clear hb); (try clear hb2); (try clear hk); (try clear hi); (try clear ho0); obtain ⟨Ao33, co33, eo33⟩ := Kd.R_slice HO115.out; subst eo33) | ((with_reducible refine gate_dst (N := 4) rfl ?_); (try (refine gate_guard (by rfl) ?_; dsimp only)); refine bx_ 4 #[.slice none 0 0, .slice none 0 0] 25 ?_; intro gb116 hg w34 hbox hb; replace HO_102000 := Aside0.mk (Kd.V_below (Kd.V_elderB (Pv_ HO_102000.out) gb116 (Nat.le_of_eq hg.symm)) hb); replace HO_102001 := Aside0.mk (Kd.V_below (Kd.V_elderB (Pv_ HO_102001.out) gb116 (Nat.le_of_eq hg.symm)) hb); replace HO115 := Aside0.mk (Kd.R_below (Pr_ HO115.out) hb); have BK116 := Aside0.mk (hbox); have GW116 := (Bg_ hg : Aside0 (w.heap.size ≤ gb116)); have GE116 := (Bg_ hg : Aside0 (w.heap.size ≤ gb116)); replace HB := Bs_ hb; have NB101_116 := nl_ hg BK101; have NB116_101 := ng_ hg BK101; replace BK101 := kb_ BK101 hb; have NB102_116 := nl_ hg BK102; have NB116_102 := ng_ hg BK102; replace BK102 := kb_ BK102 hb; clear hb hbox hg; have hnb35 := NB116_101.out; have hnc35 := NB101_116.out; have hnb36 := NB116_102.out; have hnc36 := NB102_116.out; obtain ⟨hcz37_0, hcz37_1⟩ := c2_ BK116; obtain ⟨hfz37_0, hfz37_1⟩ := f2_ BK116; obtain ⟨hcz38_0, hcz38_1⟩ := c2_ BK101; obtain ⟨hfz38_0, hfz38_1⟩ := f2_ BK101) | ((with_reducible refine gate_callee (f := 32) rfl ?_); refine goesL_ (some 35) rfl rfl Tryd.func32 (by kernel_rfl) rfl #[.agg #[.slice A0_0 l0_0.length c0_0, .slice A0_1 l0_1.length c0_1]] rfl Ga_ ?_; (with_reducible refine (val_Many.calls _ _ l0_0 _ _ l0_1 t117 _ ?side1 ?side2 ?side3 ?side4 A29.out).mono ?_); (case side1 => refine (Kd.V_reads' (e := 3) (base := w.heap.size) (ok := fun k_ => (((((P0_0_ k_ ∨ P0_1_ k_) ∨ w.heap.size ≤ k_) ∧ (k_ ≠ gb101 ∧ k_ ≠ gb102)) ∧ some k_ ≠ (.slice Ao33 t113.length co33 : Value).ownBlock) ∧ k_ ≠ gb116)) (n := l0_0.length) (c := c0_0) ?_).2.2; exact (by (with_reducible repeat (first | apply Kd.V_alloc | apply Kd.V_drewN | apply Kd.V_drew)); exact (Kd.V_mono (Kd.V_far (p := ⟨gb116, 1, none⟩) (Kd.V_far (p := ⟨gb116, 0, none⟩) (Kd.V_mono HO_102000.out (fun k_ hk => (⟨hk, hk.2⟩ : _ ∧ k_ ≠ gb116))) (fun _ hk => hk.2) (.slice Ao33 t113.length co33)) (fun _ hk => hk.2) (.slice none 0 0)) (fun _ h_ => h_.1)))); (case side2 => exact (Kd.V_reads' HO_102000.out).2.1); (case side3 => refine (Kd.V_reads' (e := 9) (base := w.heap.size) (ok := fun k_ => (((((P0_0_ k_ ∨ P0_1_ k_) ∨ w.heap.size ≤ k_) ∧ (k_ ≠ gb101 ∧ k_ ≠ gb102)) ∧ some k_ ≠ (.slice Ao33 t113.length co33 : Value).ownBlock) ∧ k_ ≠ gb116)) (n := l0_1.length) (c := c0_1) ?_).2.2; exact (by (with_reducible repeat (first | apply Kd.V_alloc | apply Kd.V_drewN | apply Kd.V_drew)); exact (Kd.V_mono (Kd.V_far (p := ⟨gb116, 1, none⟩) (Kd.V_far (p := ⟨gb116, 0, none⟩) (Kd.V_mono HO_102001.out (fun k_ hk => (⟨hk, hk.2⟩ : _ ∧ k_ ≠ gb116))) (fun _ hk => hk.2) (.slice Ao33 t113.length co33)) (fun _ hk => hk.2) (.slice none 0 0)) (fun _ h_ => h_.1)))); (case side4 => exact (Kd.V_reads' HO_102001.out).2.1); rintro e w39 ⟨rfl, hb⟩; refine ⟨_, rfl, ?_⟩; replace HO_102000 := Aside0.mk (Kd.V_below (by (with_reducible repeat (first | apply Kd.V_alloc | apply Kd.V_drewN | apply Kd.V_drew)); exact (Kd.V_mono (Kd.V_far (p := ⟨gb116, 1, none⟩) (Kd.V_far (p := ⟨gb116, 0, none⟩) (Kd.V_mono HO_102000.out (fun k_ hk => (⟨hk, hk.2⟩ : _ ∧ k_ ≠ gb116))) (fun _ hk => hk.2) (.slice Ao33 t113.length co33)) (fun _ hk => hk.2) (.slice none 0 0)) (fun _ h_ => h_.1))) hb); replace HO_102001 := Aside0.mk (Kd.V_below (by (with_reducible repeat (first | apply Kd.V_alloc | apply Kd.V_drewN | apply Kd.V_drew)); exact (Kd.V_mono (Kd.V_far (p := ⟨gb116, 1, none⟩) (Kd.V_far (p := ⟨gb116, 0, none⟩) (Kd.V_mono HO_102001.out (fun k_ hk => (⟨hk, hk.2⟩ : _ ∧ k_ ≠ gb116))) (fun _ hk => hk.2) (.slice Ao33 t113.length co33)) (fun _ hk => hk.2) (.slice none 0 0)) (fun _ h_ => h_.1))) hb); replace HO115 := Aside0.mk (Kd.R_below (by (with_reducible repeat (first | apply Kd.R_alloc | apply Kd.R_drewN | apply Kd.R_drew)); exact (Kd.R_mono (Kd.R_far (p := ⟨gb116, 1, none⟩) (Kd.R_far (p := ⟨gb116, 0, none⟩) (Kd.R_types HO115.out BK116.out (by decide)) (fun _ hk => hk.2) (.slice Ao33 t113.length co33)) (fun _ hk => hk.2) (.slice none 0 0)) (fun _ h_ => h_.1))) hb); replace BK101 := Aside0.mk (blk_below (g := gb101) (o := .cells #[.slice A0_0 l0_0.length c0_0, .slice A0_1 l0_1.length c0_1] 25 (0, 0)) (by (with_reducible repeat (first | refine blk_drewN ?_ _ | refine blk_drew ?_ | refine blk_alloc ?_ _)); refine blk_far ?_ NB101_116.out _; (with_reducible repeat (first | refine blk_drewN ?_ _ | refine blk_drew ?_ | refine blk_alloc ?_ _)); refine blk_far ?_ NB101_116.out _; (with_reducible repeat (first | refine blk_drewN ?_ _ | refine blk_drew ?_ | refine blk_alloc ?_ _)); exact BK101.out) hb); replace BK102 := Aside0.mk (blk_below (g := gb102) (o := .cells #[.slice none 0 0, .slice none 0 0] 25 (0, 0)) (by (with_reducible repeat (first | refine blk_drewN ?_ _ | refine blk_drew ?_ | refine blk_alloc ?_ _)); refine blk_far ?_ NB102_116.out _; (with_reducible repeat (first | refine blk_drewN ?_ _ | refine blk_drew ?_ | refine blk_alloc ?_ _)); refine blk_far ?_ NB102_116.out _; (with_reducible repeat (first | refine blk_drewN ?_ _ | refine blk_drew ?_ | refine blk_alloc ?_ _)); exact BK102.out) hb); replace BK116 := Aside0.mk (blk_below (g := gb116) (o := .cells #[.slice Ao33 t113.length co33, .slice none 0 0] 25 (0, 0)) (by (with_reducible repeat (first | refine blk_drewN ?_ _ | refine blk_drew ?_ | refine blk_alloc ?_ _)); refine blk_put (cs := #[.slice Ao33 t113.length co33, .slice none 0 0]) ?_ 1 _ rfl; (with_reducible repeat (first | refine blk_drewN ?_ _ | refine blk_drew ?_ | refine blk_alloc ?_ _)); refine blk_put (cs := #[.slice none 0 0, .slice none 0 0]) ?_ 0 _ rfl; (with_reducible repeat (first | refine blk_drewN ?_ _ | refine blk_drew ?_ | refine blk_alloc ?_ _)); exact BK116.out) hb); replace HB := Bs_ hb; (try clear hb); (try clear hb2); (try clear hk); (try clear hi)))
          go_loopg [5] kj3 (fun kq v5 w' => ∃ (x5_2 : Int) (x117001_2 : List ByteArray) (u117001 : Value), v5 = .int .i64 x5_2 ∧ Aside0 (mould_Reverse.l0 kq x5_2 l0_0 l0_1 t113 x117001_2 = some (r1, r2, r3)) ∧ Aside0 (kq ≤ kj3) ∧ Aside0 (Kd.V (Kd.int .i64) 3 w' w.heap.size (fun k_ => ((P0_0_ k_ ∨ P0_1_ k_) ∨ w.heap.size ≤ k_) ∧ some k_ ≠ ((.slice Ao33 t113.length co33) : Value).ownBlock ∧ some k_ ≠ (u117001 : Value).ownBlock ∧ k_ ≠ gb101 ∧ k_ ≠ gb102 ∧ k_ ≠ gb116) (.slice A0_0 l0_0.length c0_0) l0_0) ∧ Aside0 (Kd.V Kd.string 9 w' w.heap.size (fun k_ => ((P0_0_ k_ ∨ P0_1_ k_) ∨ w.heap.size ≤ k_) ∧ some k_ ≠ ((.slice Ao33 t113.length co33) : Value).ownBlock ∧ some k_ ≠ (u117001 : Value).ownBlock ∧ k_ ≠ gb101 ∧ k_ ≠ gb102 ∧ k_ ≠ gb116) (.slice A0_1 l0_1.length c0_1) l0_1) ∧ Aside0 (Kd.R (Kd.int .i64) 3 w' w.heap.size (fun k_ => (w.heap.size ≤ k_)) (.slice Ao33 t113.length co33) t113) ∧ Aside0 (Kd.R Kd.string 9 w' w.heap.size (fun k_ => (w.heap.size ≤ k_)) u117001 x117001_2) ∧ Aside0 (w'.heap[gb101]? = some (.cells #[(.slice A0_0 l0_0.length c0_0), (.slice A0_1 l0_1.length c0_1)] 25 (0, 0))) ∧ Aside0 (w'.heap[gb102]? = some (.cells #[(.slice none 0 0), (.slice none 0 0)] 25 (0, 0))) ∧ Aside0 (w'.heap[gb116]? = some (.cells #[(.slice Ao33 t113.length co33), u117001] 25 (0, 0))) ∧ Aside0 (Below w.heap.size w w'))
          case atStart => exact ⟨(wrap64 (t117 - 1)), (([] : List ByteArray)), (.slice none 0 0), Rf_, H', ⟨Nat.le_refl _⟩, ⟨by (with_reducible repeat (first | apply Kd.V_alloc | apply Kd.V_drewN | apply Kd.V_drew)); exact Kd.V_mono HO_102000.out (fun _ hk => ⟨hk.1.1.1, ⟨hk.1.2, ⟨(by simp [Value.ownBlock]), ⟨hk.1.1.2.1, ⟨hk.1.1.2.2, hk.2⟩⟩⟩⟩⟩)⟩, ⟨by (with_reducible repeat (first | apply Kd.V_alloc | apply Kd.V_drewN | apply Kd.V_drew)); exact Kd.V_mono HO_102001.out (fun _ hk => ⟨hk.1.1.1, ⟨hk.1.2, ⟨(by simp [Value.ownBlock]), ⟨hk.1.1.2.1, ⟨hk.1.1.2.2, hk.2⟩⟩⟩⟩⟩)⟩, ⟨by (with_reducible repeat (first | apply Kd.R_alloc | apply Kd.R_drewN | apply Kd.R_drew)); exact Kd.R_mono HO115.out (fun _ hk => hk.1)⟩, ⟨by first | exact Kd.R_nil _ _ _ _ _ | exact Kd.N_nil _ _ _ _ _ | exact Kd.V_nil _ _ _ _ _ | exact Kd.Q_nil _ _ _ _ _ | exact Kd.S_nil _ _ _ _ _⟩, ⟨by (with_reducible repeat (first | refine blk_drewN ?_ _ | refine blk_drew ?_ | refine blk_alloc ?_ _)); exact BK101.out⟩, ⟨by (with_reducible repeat (first | refine blk_drewN ?_ _ | refine blk_drew ?_ | refine blk_alloc ?_ _)); exact BK102.out⟩, ⟨by (with_reducible repeat (first | refine blk_drewN ?_ _ | refine blk_drew ?_ | refine blk_alloc ?_ _)); exact BK116.out⟩, ⟨Bl_⟩⟩
          case round =>
            clear H'
            try clear c1
            try clear c2
            try clear p2
            try clear c3
            try clear c5
            try clear p6
            try clear c7
            try clear c13
            try clear c13b0
            try clear c13b1
            try clear c13b2
            try clear c14
            try clear c16
            try clear c18
            try clear c25
            try clear c30
            try clear c32
            try clear c35
            try clear c36
            try clear hcz15_0
            try clear hcz15_1
            try clear hcz17_0
            try clear hcz17_1
            try clear hcz31_0
            try clear hcz31_1
            try clear hcz37_0
            try clear hcz37_1
            try clear hcz38_0
            try clear hcz38_1
            try clear hcz8_0
            try clear hcz8_1
            try clear hfz15_0
            try clear hfz15_1
            try clear hfz17_0
            try clear hfz17_1
            try clear hfz31_0
            try clear hfz31_1
            try clear hfz37_0
            try clear hfz37_1
            try clear hfz38_0
            try clear hfz38_1
            try clear hfz8_0
            try clear hfz8_1
            try clear p2
            obtain ⟨x5_2, x117001_2, u117001, rfl, HA, HK2, HO_102000, HO_102001, HO_117000, HO_117001, BK101, BK102, BK116, HB⟩ := hrel
            cases gk with
            | zero => exact absurd HA.out (by simp [mould_Reverse.l0])
            | succ k2 =>
              have H := HA.out
              clear HA
              simp only [mould_Reverse.l0] at H
              by_cases c40 : x5_2 ≥ 0
              · rw [if_pos c40] at H
                have c40b0 : decide (0 ≤ x5_2) = true := decide_eq_true c40
                clear c40
                obtain ⟨⟨t118, t121⟩, A41, H⟩ := bnd_ H
                try dsimp -simprocs only at H
                by_cases c42 : x117001_2.length + t121.length < 8796093022208
                · rw [if_pos c42] at H
                  have LMc42 := Aside0.mk c42
                  clear c42
                  obtain ⟨y124, hy124⟩ : ∃ y_ : List ByteArray, y_ = (x117001_2 ++ t121) := ⟨_, rfl⟩
                  replace H : (mould_Reverse.l0 k2 (wrap64 (x5_2 - 1)) l0_0 l0_1 t113 y124) = some (r1, r2, r3) := by first | (rw [hy124]; with_reducible exact H) | (have H2_ := (Option.bind_some _ _).symm.trans H; rw [hy124]; with_reducible exact H2_) | (have H2_ := (Option.bind_some _ _).symm.trans H; with_reducible exact H2_) | with_reducible exact H | (rw [hy124]; exact H) | exact H
                  have Ny124 := Aside0.mk hy124
                  clear hy124
                  have H' := Aside0.mk H
                  clear H
                  try go_wp2
                  replace HO_102000 := Aside0.mk (Kd.V_drew HO_102000.out)
                  replace HO_102001 := Aside0.mk (Kd.V_drew HO_102001.out)
                  replace HO_117000 := Aside0.mk (Kd.R_drew HO_117000.out)
                  replace HO_117001 := Aside0.mk (Kd.R_drew HO_117001.out)
                  replace BK101 := Aside0.mk (blk_drew BK101.out)
                  replace BK102 := Aside0.mk (blk_drew BK102.out)
                  replace BK116 := Aside0.mk (blk_drew BK116.out)
                  replace HB := Aside0.mk (below_drew1 HB.out)
                  refine start_ (n := 11) (S := fun w' => w'.cell? ⟨gb116, 0, none⟩ = some (.slice Ao33 t113.length co33) ∧ w'.cell? ⟨gb116, 1, none⟩ = some (u117001) ∧ w'.cell? ⟨gb101, 0, none⟩ = some (.slice A0_0 l0_0.length c0_0) ∧ w'.cell? ⟨gb101, 1, none⟩ = some (.slice A0_1 l0_1.length c0_1)) (ds := [10]) #[false, false, false, false, false, false, false, false, false, false, false] (by kernel_rfl) rfl rfl ⟨(blk_cell BK116.out 0).trans rfl, (blk_cell BK116.out 1).trans rfl, (blk_cell BK101.out 0).trans rfl, (blk_cell BK101.out 1).trans rfl⟩ (fun hHeld => ?_); refine with_tabW mould_Reverse.tab9 mould_Reverse.bits9 (fun HT_ HW_ => ?_)
                  generalize wr.drew = w43 at HO_102000 HO_102001 HO_117000 HO_117001 BK101 BK102 BK116 HB hHeld ⊢
                  refine pu_ 0 (some 41) HT_ #[true, false, false, false, false, false, false, false, false, false, false] ?_
                  refine pu_ 3 (some 44) HT_ #[true, false, false, true, false, false, false, false, false, false, false] ?_
                  refine pu_ 4 (some 45) HT_ #[true, false, false, true, true, false, false, false, false, false, false] ?_
                  refine pu_ 5 (some 46) HT_ #[true, false, false, true, true, true, false, false, false, false, false] ?_
                  refine take_ (i := 1) (N := some 42) (v := ?_) (a' := ?_) #[true, true, false, true, true, true, false, false, false, false, false] rfl rfl (take_ofW HT_.out HW_.out (by kernel_rfl)) (fun _ _ _ h => h) (Or.inl ⟨by rfl, ?_⟩) hHeld ?_ ?_
                  rotate_left
                  · rintro w' ⟨s0, s1, s2, s3⟩
                    go_simp
                    with_reducible rfl
                  rotate_left
                  · simp only [Act.put, List.setIfInBounds_toArray, List.set_cons_zero, List.set_cons_succ, i64_w, i32_w]
                    rfl
                  refine take_ (i := 2) (N := some 43) (v := ?_) (a' := ?_) #[true, true, true, true, true, true, false, false, false, false, false] rfl rfl (take_ofW HT_.out HW_.out (by kernel_rfl)) (fun _ _ _ h => h) (Or.inl ⟨by rfl, ?_⟩) hHeld ?_ ?_
                  rotate_left
                  · rintro w' ⟨s0, s1, s2, s3⟩
                    go_simp
                    with_reducible rfl
                  rotate_left
                  · simp only [Act.put, List.setIfInBounds_toArray, List.set_cons_zero, List.set_cons_succ, i64_w, i32_w]
                    rfl
                  refine one_ (i := 6) (N := some 47) #[true, true, true, true, true, true, true, false, false, false, false] rfl rfl (one_of HT_.out (by kernel_rfl)) (by decide) (fun K hK => ?_)
                  refine goes_ Tryd.func57 (by kernel_rfl) rfl #[.agg #[.slice A0_0 l0_0.length c0_0, .slice A0_1 l0_1.length c0_1], .int .i64 x5_2, .int .i64 (wrap64 (x5_2 + 1))] (by rfl) rfl rfl Ga_ ?_
                  with_reducible refine (mould_some.calls _ _ l0_0 _ _ l0_1 x5_2 (wrap64 (x5_2 + 1)) t118 t121 _ ?side1 ?side2 ?side3 ?side4 A41.out).mono ?_
                  (case side1 => exact Pc_ ((Kd.V_reads' HO_102000.out).2.2))
                  (case side2 => exact (Kd.V_reads' HO_102000.out).2.1)
                  (case side3 => exact Pc_ ((Kd.V_reads' HO_102001.out).2.2))
                  (case side4 => exact (Kd.V_reads' HO_102001.out).2.1)
                  rintro e w44 ⟨v119, v122, rfl, ho0, ho1, hb⟩
                  refine ⟨_, rfl, ?_⟩
                  replace HO_102000 := Aside0.mk (Kd.V_mono (Kd.V_told (Kd.V_told (Kd.V_old (Pv_ HO_102000.out) hb) (Kd.R_base ho0)) (Kd.R_base ho1)) (fun _ h_ => h_.1))
                  replace HO_102001 := Aside0.mk (Kd.V_mono (Kd.V_told (Kd.V_told (Kd.V_old (Pv_ HO_102001.out) hb) (Kd.R_base ho0)) (Kd.R_base ho1)) (fun _ h_ => h_.1))
                  have HO120 := Aside0.mk (Kd.R_lower (Kd.R_new' (Kd.R_newM (M := fun k_ => (w.heap.size ≤ k_)) ho0 Bz_ (fun k_ h_ => h_)) (Kd.R_lt (Pr_ HO_117000.out))) Bz_)
                  replace HO_117000 := Aside0.mk (Kd.R_elder' (Pr_ HO_117000.out) (Kd.R_base ho0) hb)
                  have HO123 := Aside0.mk (Kd.R_lower (Kd.R_new' (Kd.R_newM (M := fun k_ => (w.heap.size ≤ k_)) ho1 Bz_ (fun k_ h_ => h_)) (Kd.R_lt (Pr_ HO_117001.out))) Bz_)
                  replace HO_117001 := Aside0.mk (Kd.R_elder' (Pr_ HO_117001.out) (Kd.R_base ho1) hb)
                  replace BK101 := kb_ BK101 hb
                  replace BK102 := kb_ BK102 hb
                  replace BK116 := kb_ BK116 hb
                  replace HB := Bs_ hb
                  (try clear hb)
                  (try clear hb2)
                  (try clear hk)
                  (try clear hi)
                  (try clear ho0)
                  (try clear ho1)
                  obtain ⟨Ao45, co45, eo45⟩ := Kd.R_slice HO123.out
                  (first | subst eo45 | (injection eo45 with f1_ f2_ f3_; have f4_ := f1_.symm; have f5_ := f3_.symm; clear f1_ f2_ f3_; subst f4_; subst f5_))
                  obtain ⟨Ao46, co46, eo46⟩ := Kd.R_slice HO120.out
                  (first | subst eo46 | (injection eo46 with f1_ f2_ f3_; have f4_ := f1_.symm; have f5_ := f3_.symm; clear f1_ f2_ f3_; subst f4_; subst f5_))
                  have hfdf47 : ∀ w_ : World, (Instr.field 25 (.agg #[.slice Ao46 t118.length co46, .slice Ao45 t121.length co45]) 1).run Tryd.prog w_ = .ok (.slice Ao45 t121.length co45) w_ := fun _ => by kernel_rfl
                  refine hK.out _ _ ⟨(blk_cell BK116.out 0).trans rfl, (blk_cell BK116.out 1).trans rfl, (blk_cell BK101.out 0).trans rfl, (blk_cell BK101.out 1).trans rfl⟩ (fun hHeld => ?_)
                  clear hK K
                  refine norm_ (a' := ?_) ?_ ?_
                  rotate_left
                  · show Act.put _ (some 47) _ = _
                    simp only [Act.put, List.setIfInBounds_toArray, List.set_cons_zero, List.set_cons_succ, i64_w, i32_w]
                    rfl
                  refine pu_ 7 (some 48) HT_ #[true, true, true, true, true, true, true, true, false, false, false] ?_
                  refine one_ (i := 8) (N := some 49) #[true, true, true, true, true, true, true, true, true, false, false] rfl rfl (one_of HT_.out (by kernel_rfl)) (by decide) (fun K hK => ?_)
                  refine Kd.R_append_rows_step Kd.string (w0 := w) w.heap.size (by rfl) (.tmp 42) (.tmp 48) 23 9 (.string ⟨#[]⟩) 16 rfl Tryd.underlying23 info9 rfl (by decide) (by omega) u117001 x117001_2 t121 _ _ _ (fun k_ => (w.heap.size ≤ k_) ∧ some k_ ≠ (.slice Ao45 t121.length co45 : Value).ownBlock) (fun _ => False) rfl rfl ?aO ?aR (fun _ _ h => h) (fun _ h => h.elim) ?aF ?aB ?aS ?aL ?_
                  (case aR => exact Pc_ ((Kd.R_reads' HO123.out).2.2))
                  (case aB => exact Bl_)
                  (case aF => exact (fun k_ hk => ⟨(Nat.le_trans Bz_ hk), Kd.fresh' (Kd.R_lt (Pr_ HO123.out)) k_ hk⟩))
                  (case aO => exact (Pr_ HO_117001.out))
                  (case aS => exact Bz_)
                  (case aL => have := LMc42.out; omega)
                  intro v125 w48 ho hb hg hat
                  rw [← Ny124.out] at ho
                  replace HO_102000 := Aside0.mk (Kd.V_afterv (ok := (fun k_ => ((P0_0_ k_ ∨ P0_1_ k_) ∨ w.heap.size ≤ k_) ∧ some k_ ≠ (.slice Ao33 t113.length co33 : Value).ownBlock ∧ some k_ ≠ (.slice Ao46 t118.length co46 : Value).ownBlock ∧ some k_ ≠ (.slice Ao45 t121.length co45 : Value).ownBlock ∧ k_ ≠ gb101 ∧ k_ ≠ gb102 ∧ k_ ≠ gb116)) (by (with_reducible repeat (first | apply Kd.V_alloc | apply Kd.V_drewN | apply Kd.V_drew)); exact Kd.V_mono HO_102000.out (fun _ hk => ⟨⟨hk.1.1.1, ⟨hk.1.1.2.1, ⟨hk.1.2, ⟨hk.2, ⟨hk.1.1.2.2.2.1, ⟨hk.1.1.2.2.2.2.1, hk.1.1.2.2.2.2.2⟩⟩⟩⟩⟩⟩, hk.1.1.2.2.1⟩)) hg hat)
                  replace HO_102001 := Aside0.mk (Kd.V_afterv (ok := (fun k_ => ((P0_0_ k_ ∨ P0_1_ k_) ∨ w.heap.size ≤ k_) ∧ some k_ ≠ (.slice Ao33 t113.length co33 : Value).ownBlock ∧ some k_ ≠ (.slice Ao46 t118.length co46 : Value).ownBlock ∧ some k_ ≠ (.slice Ao45 t121.length co45 : Value).ownBlock ∧ k_ ≠ gb101 ∧ k_ ≠ gb102 ∧ k_ ≠ gb116)) (by (with_reducible repeat (first | apply Kd.V_alloc | apply Kd.V_drewN | apply Kd.V_drew)); exact Kd.V_mono HO_102001.out (fun _ hk => ⟨⟨hk.1.1.1, ⟨hk.1.1.2.1, ⟨hk.1.2, ⟨hk.2, ⟨hk.1.1.2.2.2.1, ⟨hk.1.1.2.2.2.2.1, hk.1.1.2.2.2.2.2⟩⟩⟩⟩⟩⟩, hk.1.1.2.2.1⟩)) hg hat)
                  replace HO_117000 := Aside0.mk (Kd.R_over' (Pr_ HO_117000.out) (Kd.R_typed (Pr_ HO_117001.out)) (by decide) hg)
                  replace BK101 := kg_ BK101 hg (Kd.R_ne HO_117001.out BK101.out (by decide))
                  replace BK102 := kg_ BK102 hg (Kd.R_ne HO_117001.out BK102.out (by decide))
                  replace BK116 := kg_ BK116 hg (Kd.R_ne HO_117001.out BK116.out (by decide))
                  replace HO120 := Aside0.mk (Kd.R_over' (Pr_ HO120.out) (Kd.R_typed (Pr_ HO_117001.out)) (by decide) hg)
                  replace HO123 := Aside0.mk (Kd.R_after (ok := (fun k_ => (w.heap.size ≤ k_))) (by (with_reducible repeat (first | apply Kd.R_alloc | apply Kd.R_drewN | apply Kd.R_drew)); exact Kd.R_mono HO123.out (fun _ hk => ⟨hk.1.1, hk.2⟩)) hg hat)
                  replace HB := Aside0.mk (hb)
                  have HO126 := Aside0.mk (ho)
                  clear HO_117001
                  clear ho hb hg hat
                  obtain ⟨Ao49, co49, eo49⟩ := Kd.R_slice HO126.out
                  (first | subst eo49 | (injection eo49 with f1_ f2_ f3_; have f4_ := f1_.symm; have f5_ := f3_.symm; clear f1_ f2_ f3_; subst f4_; subst f5_))
                  refine hK.out _ _ ⟨(blk_cell BK116.out 0).trans rfl, (blk_cell BK116.out 1).trans rfl, (blk_cell BK101.out 0).trans rfl, (blk_cell BK101.out 1).trans rfl⟩ (fun hHeld => ?_)
                  clear hK K
                  refine norm_ (a' := ?_) ?_ ?_
                  rotate_left
                  · show Act.put _ (some 49) _ = _
                    simp only [Act.put, List.setIfInBounds_toArray, List.set_cons_zero, List.set_cons_succ, i64_w, i32_w]
                    rfl
                  refine pu_ 9 (some 50) HT_ #[true, true, true, true, true, true, true, true, true, true, false] ?_
                  refine last_ (i := 10) (N := none) #[true, true, true, true, true, true, true, true, true, true, true] rfl rfl (one_of HT_.out (by kernel_rfl)) (by decide) (fun K hK => ?_)
                  have hs50 : w48.cell? ⟨gb116, 1, none⟩ = some (u117001) := (blk_cell BK116.out 1).trans rfl
                  have hfs50 := blk_frozen BK116.out 1
                  have hns50_0 := NB101_116.out
                  have hns50_1 := NB102_116.out
                  have hms50_0 := NB116_101.out
                  have hms50_1 := NB116_102.out
                  refine skip_ (w1 := ?_) (by rfl) rfl ?_ ?_
                  rotate_left
                  · go_simp
                    rfl
                  refine hK.out _ _ ?_
                  clear hK K
                  refine done_ (done_of HT_.out (by kernel_rfl)) ?_
                  try go_wp2
                  go_roundg k2
                  case measure => have := HJ3.out; have := HK2.out; omega
                  case rel => exact ⟨(wrap64 (x5_2 - 1)), (y124), (.slice Ao49 y124.length co49), Rf_, H', ⟨by have := HJ3.out; have := HK2.out; omega⟩, ⟨by (with_reducible repeat (first | apply Kd.V_alloc | apply Kd.V_drewN | apply Kd.V_drew)); exact Kd.V_mono (Kd.V_far (p := ⟨gb116, 1, none⟩) (Kd.V_mono HO_102000.out (fun k_ hk => (⟨hk, hk.1.2.2.2.2.2.2⟩ : _ ∧ k_ ≠ gb116))) (fun _ hk => hk.2) (.slice Ao49 y124.length co49)) (fun _ hk => ⟨hk.1.1.1, ⟨hk.1.1.2.1, ⟨hk.1.2, ⟨hk.1.1.2.2.2.2.1, ⟨hk.1.1.2.2.2.2.2.1, hk.1.1.2.2.2.2.2.2⟩⟩⟩⟩⟩)⟩, ⟨by (with_reducible repeat (first | apply Kd.V_alloc | apply Kd.V_drewN | apply Kd.V_drew)); exact Kd.V_mono (Kd.V_far (p := ⟨gb116, 1, none⟩) (Kd.V_mono HO_102001.out (fun k_ hk => (⟨hk, hk.1.2.2.2.2.2.2⟩ : _ ∧ k_ ≠ gb116))) (fun _ hk => hk.2) (.slice Ao49 y124.length co49)) (fun _ hk => ⟨hk.1.1.1, ⟨hk.1.1.2.1, ⟨hk.1.2, ⟨hk.1.1.2.2.2.2.1, ⟨hk.1.1.2.2.2.2.2.1, hk.1.1.2.2.2.2.2.2⟩⟩⟩⟩⟩)⟩, ⟨by (with_reducible repeat (first | apply Kd.R_alloc | apply Kd.R_drewN | apply Kd.R_drew)); exact Kd.R_mono (Kd.R_far (p := ⟨gb116, 1, none⟩) (Kd.R_types HO_117000.out BK116.out (by decide)) (fun _ hk => hk.2) (.slice Ao49 y124.length co49)) (fun _ hk => hk.1.1)⟩, ⟨by (with_reducible repeat (first | apply Kd.R_alloc | apply Kd.R_drewN | apply Kd.R_drew)); exact Kd.R_mono (Kd.R_far (p := ⟨gb116, 1, none⟩) (Kd.R_types HO126.out BK116.out (by decide)) (fun _ hk => hk.2) (.slice Ao49 y124.length co49)) (fun _ hk => hk.1.1)⟩, ⟨by (with_reducible repeat (first | refine blk_drewN ?_ _ | refine blk_drew ?_ | refine blk_alloc ?_ _)); refine blk_far ?_ NB101_116.out _; (with_reducible repeat (first | refine blk_drewN ?_ _ | refine blk_drew ?_ | refine blk_alloc ?_ _)); exact BK101.out⟩, ⟨by (with_reducible repeat (first | refine blk_drewN ?_ _ | refine blk_drew ?_ | refine blk_alloc ?_ _)); refine blk_far ?_ NB102_116.out _; (with_reducible repeat (first | refine blk_drewN ?_ _ | refine blk_drew ?_ | refine blk_alloc ?_ _)); exact BK102.out⟩, ⟨by (with_reducible repeat (first | refine blk_drewN ?_ _ | refine blk_drew ?_ | refine blk_alloc ?_ _)); refine blk_put (cs := #[.slice Ao33 t113.length co33, u117001]) ?_ 1 _ rfl; (with_reducible repeat (first | refine blk_drewN ?_ _ | refine blk_drew ?_ | refine blk_alloc ?_ _)); exact BK116.out⟩, ⟨Bl_⟩⟩
                · rw [if_neg c42] at H
                  exact absurd H (by simp)
              · rw [if_neg c40] at H
                have c40b0 : decide (0 ≤ x5_2) = false := decide_eq_false c40
                clear c40
                simp only [Option.some.injEq, Prod.mk.injEq] at H
                obtain ⟨rfl, rfl, rfl⟩ := H
                have hnb51 := NB116_101.out
                have hnc51 := NB101_116.out
                have hnb52 := NB116_102.out
                have hnc52 := NB102_116.out
                obtain ⟨hcz53_0, hcz53_1⟩ := c2_ BK116
                obtain ⟨hfz53_0, hfz53_1⟩ := f2_ BK116
                have hnb54 := NB102_101.out
                have hnc54 := NB101_102.out
                obtain ⟨hcz55_0, hcz55_1⟩ := c2_ BK102
                obtain ⟨hfz55_0, hfz55_1⟩ := f2_ BK102
                obtain ⟨Ao56, co56, eo56⟩ := Kd.R_slice HO_117001.out
                subst eo56
                go_wp2
                refine bodyPost_ret (results_ct rfl _ _ gb102 25 #[.slice Ao33 t113.length co33, .slice Ao56 x117001_2.length co56] (0, 0) _ rfl (by (with_reducible repeat (first | refine blk_drewN ?_ _ | refine blk_drew ?_ | refine blk_alloc ?_ _)); refine blk_put (cs := #[.slice Ao33 t113.length co33, .slice none 0 0]) ?_ 1 _ rfl; (with_reducible repeat (first | refine blk_drewN ?_ _ | refine blk_drew ?_ | refine blk_alloc ?_ _)); refine blk_put (cs := #[.slice none 0 0, .slice none 0 0]) ?_ 0 _ rfl; (with_reducible repeat (first | refine blk_drewN ?_ _ | refine blk_drew ?_ | refine blk_alloc ?_ _)); exact BK102.out) Tryd.underlying25 rfl (by kernel_rfl)) rfl ?_
                exact ⟨_, _, Re_, by (with_reducible repeat (first | apply Kd.R_alloc | apply Kd.R_drewN | apply Kd.R_drew)); exact Kd.R_mono (Kd.R_far (p := ⟨gb102, 1, none⟩) (Kd.R_far (p := ⟨gb102, 0, none⟩) (Kd.R_types HO_117000.out BK102.out (by decide)) (fun _ hk => hk.2) (.slice Ao33 t113.length co33)) (fun _ hk => hk.2) (.slice Ao56 x117001_2.length co56)) (fun _ hk => hk.1), by (with_reducible repeat (first | apply Kd.R_alloc | apply Kd.R_drewN | apply Kd.R_drew)); exact Kd.R_mono (Kd.R_far (p := ⟨gb102, 1, none⟩) (Kd.R_far (p := ⟨gb102, 0, none⟩) (Kd.R_types HO_117001.out BK102.out (by decide)) (fun _ hk => hk.2) (.slice Ao33 t113.length co33)) (fun _ hk => hk.2) (.slice Ao56 x117001_2.length co56)) (fun _ hk => hk.1), Bl_⟩
  · replace c3 := Bool.eq_false_iff.mpr c3
    subst c3
    have H1 : (some (([] : List Int), ([] : List ByteArray), 1)) = some (r1, r2, r3) := by rw [if_neg (show ¬ (false = true) by decide)] at H; exact H
    clear H
    have H := H1
    clear H1
    simp only [Option.some.injEq, Prod.mk.injEq] at H
    obtain ⟨rfl, rfl, rfl⟩ := H
    go_enter Tryd.func25, Tryd.ntmps25
    go_wp2_with (first | ((with_reducible refine gate_dst (N := 1) rfl ?_); (try (refine gate_guard (by rfl) ?_; dsimp only)); refine bx_ 1 #[.slice A0_0 l0_0.length c0_0, .slice A0_1 l0_1.length c0_1] 25 ?_; intro gb101 hg w57 hbox hb; replace HO0_0 := Aside0.mk (Kd.V_below (Kd.V_elderB (Pv_ HO0_0.out) gb101 (Nat.le_of_eq hg.symm)) hb); replace HO0_1 := Aside0.mk (Kd.V_below (Kd.V_elderB (Pv_ HO0_1.out) gb101 (Nat.le_of_eq hg.symm)) hb); have BK101 := Aside0.mk (hbox); have GW101 := (Bg_ hg : Aside0 (w.heap.size ≤ gb101)); have GE101 := (Bg_ hg : Aside0 (w.heap.size ≤ gb101)); replace HB := Bs_ hb; clear hb hbox hg) | ((with_reducible refine gate_dst (N := 2) rfl ?_); (try (refine gate_guard (by rfl) ?_; dsimp only)); refine bx_ 2 #[.slice none 0 0, .slice none 0 0] 25 ?_; intro gb102 hg w58 hbox hb; replace HO0_0 := Aside0.mk (Kd.V_below (Kd.V_elderB (Pv_ HO0_0.out) gb102 (Nat.le_of_eq hg.symm)) hb); replace HO0_1 := Aside0.mk (Kd.V_below (Kd.V_elderB (Pv_ HO0_1.out) gb102 (Nat.le_of_eq hg.symm)) hb); have BK102 := Aside0.mk (hbox); have GW102 := (Bg_ hg : Aside0 (w.heap.size ≤ gb102)); have GE102 := (Bg_ hg : Aside0 (w.heap.size ≤ gb102)); replace HB := Bs_ hb; have NB101_102 := nl_ hg BK101; have NB102_101 := ng_ hg BK101; replace BK101 := kb_ BK101 hb; clear hb hbox hg; have hnb59 := NB101_102.out; have hnc59 := NB102_101.out; obtain ⟨hcz60_0, hcz60_1⟩ := c2_ BK101; obtain ⟨hfz60_0, hfz60_1⟩ := f2_ BK101) | ((with_reducible refine gate_dst (N := 8) rfl ?_); (try (refine gate_guard (by rfl) ?_; dsimp only)); refine Kd.N_lit k25 _ 25 ?hg (N' := 8) ?hd (xs := ([(⟨l0_0, l0_1⟩ : S25)] : List (S25))) (inner := [.slice A0_0 l0_0.length c0_0, .slice A0_1 l0_1.length c0_1]) (ok := (fun k_ => ((P0_0_ k_ ∨ P0_1_ k_) ∨ w.heap.size ≤ k_) ∧ k_ ≠ gb101 ∧ k_ ≠ gb102)) (okp := (fun k_ => ((P0_0_ k_ ∨ P0_1_ k_) ∨ w.heap.size ≤ k_) ∧ k_ ≠ gb101 ∧ k_ ≠ gb102)) ?hr ?hp (fun _ hk => hk) ((show ∀ k_, w58.heap.size ≤ k_ → (fun k_ => ((P0_0_ k_ ∨ P0_1_ k_) ∨ w.heap.size ≤ k_) ∧ k_ ≠ gb101 ∧ k_ ≠ gb102) k_ from fun k_ hk => ⟨(.inr (Nat.le_trans Bz_ hk)), Kd.freshB (g := gb101) (o := .cells #[.slice A0_0 l0_0.length c0_0, .slice A0_1 l0_1.length c0_1] 25 (0, 0)) (Bk_ BK101.out) k_ hk, Kd.freshB (g := gb102) (o := .cells #[.slice none 0 0, .slice none 0 0] 25 (0, 0)) (Bk_ BK102.out) k_ hk⟩) _ (Nat.le_refl _)) (Below.refl _ _) (Nat.le_refl _) (by simp) ?_; (case hd => rfl); (case hg => rfl); (case hr => first | (go_simp; done) | (go_simp; rfl)); (case hp => exact (Reps.c2 (show Kd.FK k25 _ _ (⟨l0_0, l0_1⟩ : S25) [.slice A0_0 l0_0.length c0_0, .slice A0_1 l0_1.length c0_1] from (k25_mkF _ _ (⟨l0_0, l0_1⟩ : S25) (Kd.V_reads' (Kd.V_mono (ok' := (fun k_ => ((P0_0_ k_ ∨ P0_1_ k_) ∨ w.heap.size ≤ k_) ∧ k_ ≠ gb101 ∧ k_ ≠ gb102)) (HO0_0.out) (fun k_ hk => ⟨hk.1.1, ⟨hk.1.2, hk.2⟩⟩))).2.1 (Kd.V_F (Kd.V_mono (ok' := (fun k_ => ((P0_0_ k_ ∨ P0_1_ k_) ∨ w.heap.size ≤ k_) ∧ k_ ≠ gb101 ∧ k_ ≠ gb102)) (HO0_0.out) (fun k_ hk => ⟨hk.1.1, ⟨hk.1.2, hk.2⟩⟩))) (Kd.V_reads' (Kd.V_mono (ok' := (fun k_ => ((P0_0_ k_ ∨ P0_1_ k_) ∨ w.heap.size ≤ k_) ∧ k_ ≠ gb101 ∧ k_ ≠ gb102)) (HO0_1.out) (fun k_ hk => ⟨hk.1.1, ⟨hk.1.2, hk.2⟩⟩))).2.1 (Kd.V_F (Kd.V_mono (ok' := (fun k_ => ((P0_0_ k_ ∨ P0_1_ k_) ∨ w.heap.size ≤ k_) ∧ k_ ≠ gb101 ∧ k_ ≠ gb102)) (HO0_1.out) (fun k_ hk => ⟨hk.1.1, ⟨hk.1.2, hk.2⟩⟩))))) (Reps.none _ _))); intro v104 w61 ho62 hb hg_ hnew_; clear hg_ hnew_; (first | rw [← Ny103.out] at ho62 | (simp only [Int.reduceToNat] at ho62; rw [← Ny103.out] at ho62)); replace HO0_0 := Aside0.mk (Kd.V_elder' (Pv_ HO0_0.out) (Kd.N_base ho62) hb); replace HO0_1 := Aside0.mk (Kd.V_elder' (Pv_ HO0_1.out) (Kd.N_base ho62) hb); have HO105 := Aside0.mk (Kd.N_lower ho62 Bz_); replace BK101 := kb_ BK101 hb; replace BK102 := kb_ BK102 hb; replace HB := Bs_ hb; clear hb ho62; obtain ⟨Ao63, co63, eo63⟩ := Kd.N_slice HO105.out; subst eo63) | ((with_reducible refine gate_callee (f := 50) rfl ?_); refine goesL_ (some 9) rfl rfl Tryd.func50 (by kernel_rfl) rfl #[.slice Ao63 y103.length co63] rfl Ga_ ?_; (with_reducible refine (mould_fine.calls k _ _ y103 false _ ?side1 ?side2 A2.out).mono ?_); (case side1 => exact Pc_ ((Kd.N_reads' HO105.out).2.2)); (case side2 => exact (Kd.N_reads' HO105.out).2.1); rintro e w64 ⟨rfl, hb⟩; refine ⟨_, rfl, ?_⟩; replace HO0_0 := Aside0.mk (Kd.V_below (Pv_ HO0_0.out) hb); replace HO0_1 := Aside0.mk (Kd.V_below (Pv_ HO0_1.out) hb); replace HO105 := Aside0.mk (Kd.N_below (by (with_reducible repeat (first | apply Kd.N_alloc | apply Kd.N_drewN | apply Kd.N_drew)); exact HO105.out) hb); replace BK101 := kb_ BK101 hb; replace BK102 := kb_ BK102 hb; replace HB := Bs_ hb; (try clear hb); (try clear hb2); (try clear hk); (try clear hi); obtain ⟨hcz65_0, hcz65_1⟩ := c2_ BK102; obtain ⟨hfz65_0, hfz65_1⟩ := f2_ BK102))
    refine bodyPost_ret (results_ct rfl _ _ gb102 25 #[.slice none 0 0, .slice none 0 0] (0, 0) _ rfl (by (with_reducible repeat (first | refine blk_drewN ?_ _ | refine blk_drew ?_ | refine blk_alloc ?_ _)); refine blk_put (cs := #[.slice none 0 0, .slice none 0 0]) ?_ 1 _ rfl; (with_reducible repeat (first | refine blk_drewN ?_ _ | refine blk_drew ?_ | refine blk_alloc ?_ _)); refine blk_put (cs := #[.slice none 0 0, .slice none 0 0]) ?_ 0 _ rfl; (with_reducible repeat (first | refine blk_drewN ?_ _ | refine blk_drew ?_ | refine blk_alloc ?_ _)); exact BK102.out) Tryd.underlying25 rfl (by kernel_rfl)) rfl ?_
    exact ⟨_, _, Re_, by first | exact Kd.R_nil _ _ _ _ _ | exact Kd.N_nil _ _ _ _ _ | exact Kd.V_nil _ _ _ _ _ | exact Kd.Q_nil _ _ _ _ _ | exact Kd.S_nil _ _ _ _ _, by first | exact Kd.R_nil _ _ _ _ _ | exact Kd.N_nil _ _ _ _ _ | exact Kd.V_nil _ _ _ _ _ | exact Kd.Q_nil _ _ _ _ _ | exact Kd.S_nil _ _ _ _ _, Bl_⟩
/-! ### mould_Shape: function 28 -/
def mould_Shape.f (k : Nat) (l0_0 : List Int) (l0_1 : List ByteArray) : Option (List Int × List ByteArray × Int) := (mould_fine.f k (([(⟨l0_0, l0_1⟩ : S25)] : List (S25)))).bind fun t106 => (if t106 = true then ((val_Ints.f k l0_0).bind fun bt107 => (some (bt107.1, bt107.2, 0))) else (some (([] : List Int), ([] : List ByteArray), 1)))
set_option maxHeartbeats 8000000 in
set_option maxRecDepth 100000 in
theorem mould_Shape.calls (k : Nat) (P0_0_ : Nat → Prop) (A0_0 : Option Addr) (c0_0 : Nat) (l0_0 : List Int) (P0_1_ : Nat → Prop) (A0_1 : Option Addr) (c0_1 : Nat) (l0_1 : List ByteArray) (r1 : List Int) (r2 : List ByteArray) (r3 : Int) (w : World) (hs0_0 : Kd.V (Kd.int .i64) 3 w w.heap.size (fun k_ => P0_0_ k_) (.slice A0_0 l0_0.length c0_0) l0_0) (hs0_1 : Kd.V Kd.string 9 w w.heap.size (fun k_ => P0_1_ k_) (.slice A0_1 l0_1.length c0_1) l0_1) (h : mould_Shape.f k l0_0 l0_1 = some (r1, r2, r3)) (hG : Glob w) :
    Calls Tryd.prog 28 #[.agg #[.slice A0_0 l0_0.length c0_0, .slice A0_1 l0_1.length c0_1]] w fun e w' => ∃ v0_ v1_ : Value, e = .returned (.tuple #[.agg #[v0_, v1_], .int .i64 r3]) ∧ Kd.R (Kd.int .i64) 3 w' w.heap.size (fun k_ => (w.heap.size ≤ k_)) v0_ r1 ∧ Kd.R Kd.string 9 w' w.heap.size (fun k_ => (w.heap.size ≤ k_)) v1_ r2 ∧ Below w.heap.size w w' := by
  have hu25 := Tryd.underlying25
  have HO0_0 := Aside0.mk (show Kd.V (Kd.int .i64) 3 w w.heap.size (fun k_ => ((P0_0_ k_ ∨ P0_1_ k_) ∨ w.heap.size ≤ k_)) (.slice A0_0 l0_0.length c0_0) l0_0 from Kd.V_mono hs0_0 (fun k_ hk => .inl (.inl hk)))
  have HO0_1 := Aside0.mk (show Kd.V Kd.string 9 w w.heap.size (fun k_ => ((P0_0_ k_ ∨ P0_1_ k_) ∨ w.heap.size ≤ k_)) (.slice A0_1 l0_1.length c0_1) l0_1 from Kd.V_mono hs0_1 (fun k_ hk => .inl (.inr hk)))
  have HB := Aside0.mk (Below.refl w.heap.size w)
  have H : ((mould_fine.f k (([(⟨l0_0, l0_1⟩ : S25)] : List (S25)))).bind fun t106 => (if t106 = true then ((val_Ints.f k l0_0).bind fun bt107 => (some (bt107.1, bt107.2, 0))) else (some (([] : List Int), ([] : List ByteArray), 1)))) = some (r1, r2, r3) := h
  clear h
  obtain ⟨y103, hy103⟩ : ∃ y_ : List (S25), y_ = (([(⟨l0_0, l0_1⟩ : S25)] : List (S25))) := ⟨_, rfl⟩
  replace H : ((mould_fine.f k y103).bind fun t106 => (if t106 = true then ((val_Ints.f k l0_0).bind fun bt107 => (some (bt107.1, bt107.2, 0))) else (some (([] : List Int), ([] : List ByteArray), 1)))) = some (r1, r2, r3) := by first | (rw [hy103]; with_reducible exact H) | (have H2_ := (Option.bind_some _ _).symm.trans H; rw [hy103]; with_reducible exact H2_) | (have H2_ := (Option.bind_some _ _).symm.trans H; with_reducible exact H2_) | with_reducible exact H | (rw [hy103]; exact H) | exact H
  have Ny103 := Aside0.mk hy103
  clear hy103
  obtain ⟨t106, A2, H⟩ := bnd_ H
  try dsimp -simprocs only at H
  by_cases c3 : t106 = true
  · subst c3
    have H1 : ((val_Ints.f k l0_0).bind fun bt107 => (some (bt107.1, bt107.2, 0))) = some (r1, r2, r3) := by rw [if_pos rfl] at H; exact H
    clear H
    have H := H1
    clear H1
    obtain ⟨⟨t107, t110⟩, A4, H⟩ := bnd_ H
    try dsimp -simprocs only at H
    simp only [Option.some.injEq, Prod.mk.injEq] at H
    obtain ⟨rfl, rfl, rfl⟩ := H
    go_enter Tryd.func28, Tryd.ntmps28
    go_wp2_with (first | ((with_reducible refine gate_dst (N := 1) rfl ?_); refine bx_ 1 #[.slice A0_0 l0_0.length c0_0, .slice A0_1 l0_1.length c0_1] 25 ?_; intro gb101 hg w5 hbox hb; replace HO0_0 := Aside0.mk (Kd.V_below (Kd.V_elderB (Pv_ HO0_0.out) gb101 (Nat.le_of_eq hg.symm)) hb); replace HO0_1 := Aside0.mk (Kd.V_below (Kd.V_elderB (Pv_ HO0_1.out) gb101 (Nat.le_of_eq hg.symm)) hb); have BK101 := Aside0.mk (hbox); have GW101 := (Bg_ hg : Aside0 (w.heap.size ≤ gb101)); have GE101 := (Bg_ hg : Aside0 (w.heap.size ≤ gb101)); replace HB := Bs_ hb; clear hb hbox hg) | ((with_reducible refine gate_dst (N := 2) rfl ?_); refine bx_ 2 #[.slice none 0 0, .slice none 0 0] 25 ?_; intro gb102 hg w6 hbox hb; replace HO0_0 := Aside0.mk (Kd.V_below (Kd.V_elderB (Pv_ HO0_0.out) gb102 (Nat.le_of_eq hg.symm)) hb); replace HO0_1 := Aside0.mk (Kd.V_below (Kd.V_elderB (Pv_ HO0_1.out) gb102 (Nat.le_of_eq hg.symm)) hb); have BK102 := Aside0.mk (hbox); have GW102 := (Bg_ hg : Aside0 (w.heap.size ≤ gb102)); have GE102 := (Bg_ hg : Aside0 (w.heap.size ≤ gb102)); replace HB := Bs_ hb; have NB101_102 := nl_ hg BK101; have NB102_101 := ng_ hg BK101; replace BK101 := kb_ BK101 hb; clear hb hbox hg; have hnb7 := NB101_102.out; have hnc7 := NB102_101.out; obtain ⟨hcz8_0, hcz8_1⟩ := c2_ BK101; obtain ⟨hfz8_0, hfz8_1⟩ := f2_ BK101) | ((with_reducible refine gate_dst (N := 5) rfl ?_); refine Kd.N_lit k25 _ 25 ?hg (N' := 5) ?hd (xs := ([(⟨l0_0, l0_1⟩ : S25)] : List (S25))) (inner := [.slice A0_0 l0_0.length c0_0, .slice A0_1 l0_1.length c0_1]) (ok := (fun k_ => ((P0_0_ k_ ∨ P0_1_ k_) ∨ w.heap.size ≤ k_) ∧ k_ ≠ gb101 ∧ k_ ≠ gb102)) (okp := (fun k_ => ((P0_0_ k_ ∨ P0_1_ k_) ∨ w.heap.size ≤ k_) ∧ k_ ≠ gb101 ∧ k_ ≠ gb102)) ?hr ?hp (fun _ hk => hk) ((show ∀ k_, w6.heap.size ≤ k_ → (fun k_ => ((P0_0_ k_ ∨ P0_1_ k_) ∨ w.heap.size ≤ k_) ∧ k_ ≠ gb101 ∧ k_ ≠ gb102) k_ from fun k_ hk => ⟨(.inr (Nat.le_trans Bz_ hk)), Kd.freshB (g := gb101) (o := .cells #[.slice A0_0 l0_0.length c0_0, .slice A0_1 l0_1.length c0_1] 25 (0, 0)) (Bk_ BK101.out) k_ hk, Kd.freshB (g := gb102) (o := .cells #[.slice none 0 0, .slice none 0 0] 25 (0, 0)) (Bk_ BK102.out) k_ hk⟩) _ (Nat.le_refl _)) (Below.refl _ _) (Nat.le_refl _) (by simp) ?_; (case hd => rfl); (case hg => rfl); (case hr => first | (go_simp; done) | (go_simp; rfl)); (case hp => exact (Reps.c2 (show Kd.FK k25 _ _ (⟨l0_0, l0_1⟩ : S25) [.slice A0_0 l0_0.length c0_0, .slice A0_1 l0_1.length c0_1] from (k25_mkF _ _ (⟨l0_0, l0_1⟩ : S25) (Kd.V_reads' (Kd.V_mono (ok' := (fun k_ => ((P0_0_ k_ ∨ P0_1_ k_) ∨ w.heap.size ≤ k_) ∧ k_ ≠ gb101 ∧ k_ ≠ gb102)) (HO0_0.out) (fun k_ hk => ⟨hk.1.1, ⟨hk.1.2, hk.2⟩⟩))).2.1 (Kd.V_F (Kd.V_mono (ok' := (fun k_ => ((P0_0_ k_ ∨ P0_1_ k_) ∨ w.heap.size ≤ k_) ∧ k_ ≠ gb101 ∧ k_ ≠ gb102)) (HO0_0.out) (fun k_ hk => ⟨hk.1.1, ⟨hk.1.2, hk.2⟩⟩))) (Kd.V_reads' (Kd.V_mono (ok' := (fun k_ => ((P0_0_ k_ ∨ P0_1_ k_) ∨ w.heap.size ≤ k_) ∧ k_ ≠ gb101 ∧ k_ ≠ gb102)) (HO0_1.out) (fun k_ hk => ⟨hk.1.1, ⟨hk.1.2, hk.2⟩⟩))).2.1 (Kd.V_F (Kd.V_mono (ok' := (fun k_ => ((P0_0_ k_ ∨ P0_1_ k_) ∨ w.heap.size ≤ k_) ∧ k_ ≠ gb101 ∧ k_ ≠ gb102)) (HO0_1.out) (fun k_ hk => ⟨hk.1.1, ⟨hk.1.2, hk.2⟩⟩))))) (Reps.none _ _))); intro v104 w9 ho10 hb hg_ hnew_; clear hg_ hnew_; (first | rw [← Ny103.out] at ho10 | (simp only [Int.reduceToNat] at ho10; rw [← Ny103.out] at ho10)); replace HO0_0 := Aside0.mk (Kd.V_elder' (Pv_ HO0_0.out) (Kd.N_base ho10) hb); replace HO0_1 := Aside0.mk (Kd.V_elder' (Pv_ HO0_1.out) (Kd.N_base ho10) hb); have HO105 := Aside0.mk (Kd.N_lower ho10 Bz_); replace BK101 := kb_ BK101 hb; replace BK102 := kb_ BK102 hb; replace HB := Bs_ hb; clear hb ho10; obtain ⟨Ao11, co11, eo11⟩ := Kd.N_slice HO105.out; subst eo11) | ((with_reducible refine gate_callee (f := 50) rfl ?_); refine goesL_ (some 6) rfl rfl Tryd.func50 (by kernel_rfl) rfl #[.slice Ao11 y103.length co11] rfl Ga_ ?_; (with_reducible refine (mould_fine.calls k _ _ y103 true _ ?side1 ?side2 A2.out).mono ?_); (case side1 => exact Pc_ ((Kd.N_reads' HO105.out).2.2)); (case side2 => exact (Kd.N_reads' HO105.out).2.1); rintro e w12 ⟨rfl, hb⟩; refine ⟨_, rfl, ?_⟩; replace HO0_0 := Aside0.mk (Kd.V_below (Pv_ HO0_0.out) hb); replace HO0_1 := Aside0.mk (Kd.V_below (Pv_ HO0_1.out) hb); replace HO105 := Aside0.mk (Kd.N_below (by (with_reducible repeat (first | apply Kd.N_alloc | apply Kd.N_drewN | apply Kd.N_drew)); exact HO105.out) hb); replace BK101 := kb_ BK101 hb; replace BK102 := kb_ BK102 hb; replace HB := Bs_ hb; (try clear hb); (try clear hb2); (try clear hk); (try clear hi); obtain ⟨hcz13_0, hcz13_1⟩ := c2_ BK101; obtain ⟨hfz13_0, hfz13_1⟩ := f2_ BK101) | ((with_reducible refine gate_callee (f := 49) rfl ?_); refine goesL_ (some 11) rfl rfl Tryd.func49 (by kernel_rfl) rfl #[.slice A0_0 l0_0.length c0_0] rfl Ga_ ?_; (with_reducible refine (val_Ints.calls k _ _ l0_0 t107 t110 _ ?side1 ?side2 A4.out ?side3).mono ?_); (case side1 => exact Pc_ ((Kd.V_reads' HO0_0.out).2.2)); (case side2 => exact (Kd.V_reads' HO0_0.out).2.1); (case side3 => first | exact hG | exact Glob.below hG Bl_); rintro e w14 ⟨v108, v111, rfl, ho0, ho1, hb⟩; refine ⟨_, rfl, ?_⟩; replace HO0_0 := Aside0.mk (Kd.V_mono (Kd.V_told (Kd.V_told (Kd.V_old (Pv_ HO0_0.out) hb) (Kd.R_base ho0)) (Kd.R_base ho1)) (fun _ h_ => h_.1)); replace HO0_1 := Aside0.mk (Kd.V_mono (Kd.V_told (Kd.V_told (Kd.V_old (Pv_ HO0_1.out) hb) (Kd.R_base ho0)) (Kd.R_base ho1)) (fun _ h_ => h_.1)); replace HO105 := Aside0.mk (Kd.N_mono (Kd.N_told (Kd.N_told (Kd.N_old (by (with_reducible repeat (first | apply Kd.N_alloc | apply Kd.N_drewN | apply Kd.N_drew)); exact HO105.out) hb) (Kd.R_base ho0)) (Kd.R_base ho1)) (fun _ h_ => h_.1)); have HO109 := Aside0.mk (Kd.R_lower (Kd.R_newM (M := fun k_ => (w.heap.size ≤ k_)) ho0 Bz_ (fun k_ h_ => h_)) Bz_); have HO112 := Aside0.mk (Kd.R_lower (Kd.R_newM (M := fun k_ => (w.heap.size ≤ k_)) ho1 Bz_ (fun k_ h_ => h_)) Bz_); replace BK101 := kb_ BK101 hb; replace BK102 := kb_ BK102 hb; replace HB := Bs_ hb; (try clear hb); (try clear hb2); (try clear hk); (try clear hi); (try clear ho0); (try clear ho1); obtain ⟨Ao15, co15, eo15⟩ := Kd.R_slice HO109.out; subst eo15; obtain ⟨hcz16_0, hcz16_1⟩ := c2_ BK102; obtain ⟨hfz16_0, hfz16_1⟩ := f2_ BK102; obtain ⟨Ao17, co17, eo17⟩ := Kd.R_slice HO112.out; subst eo17))
    refine bodyPost_ret (results_ct rfl _ _ gb102 25 #[.slice Ao15 t107.length co15, .slice Ao17 t110.length co17] (0, 0) _ rfl (by (with_reducible repeat (first | refine blk_drewN ?_ _ | refine blk_drew ?_ | refine blk_alloc ?_ _)); refine blk_put (cs := #[.slice Ao15 t107.length co15, .slice none 0 0]) ?_ 1 _ rfl; (with_reducible repeat (first | refine blk_drewN ?_ _ | refine blk_drew ?_ | refine blk_alloc ?_ _)); refine blk_put (cs := #[.slice none 0 0, .slice none 0 0]) ?_ 0 _ rfl; (with_reducible repeat (first | refine blk_drewN ?_ _ | refine blk_drew ?_ | refine blk_alloc ?_ _)); exact BK102.out) Tryd.underlying25 rfl (by kernel_rfl)) rfl ?_
    exact ⟨_, _, Re_, by (with_reducible repeat (first | apply Kd.R_alloc | apply Kd.R_drewN | apply Kd.R_drew)); exact Kd.R_mono (Kd.R_far (p := ⟨gb102, 1, none⟩) (Kd.R_far (p := ⟨gb102, 0, none⟩) (Kd.R_types HO109.out BK102.out (by decide)) (fun _ hk => hk.2) (.slice Ao15 t107.length co15)) (fun _ hk => hk.2) (.slice Ao17 t110.length co17)) (fun _ hk => hk.1.1), by (with_reducible repeat (first | apply Kd.R_alloc | apply Kd.R_drewN | apply Kd.R_drew)); exact Kd.R_mono (Kd.R_far (p := ⟨gb102, 1, none⟩) (Kd.R_far (p := ⟨gb102, 0, none⟩) (Kd.R_types HO112.out BK102.out (by decide)) (fun _ hk => hk.2) (.slice Ao15 t107.length co15)) (fun _ hk => hk.2) (.slice Ao17 t110.length co17)) (fun _ hk => hk.1.1), Bl_⟩
  · replace c3 := Bool.eq_false_iff.mpr c3
    subst c3
    have H1 : (some (([] : List Int), ([] : List ByteArray), 1)) = some (r1, r2, r3) := by rw [if_neg (show ¬ (false = true) by decide)] at H; exact H
    clear H
    have H := H1
    clear H1
    simp only [Option.some.injEq, Prod.mk.injEq] at H
    obtain ⟨rfl, rfl, rfl⟩ := H
    go_enter Tryd.func28, Tryd.ntmps28
    go_wp2_with (first | ((with_reducible refine gate_dst (N := 1) rfl ?_); refine bx_ 1 #[.slice A0_0 l0_0.length c0_0, .slice A0_1 l0_1.length c0_1] 25 ?_; intro gb101 hg w18 hbox hb; replace HO0_0 := Aside0.mk (Kd.V_below (Kd.V_elderB (Pv_ HO0_0.out) gb101 (Nat.le_of_eq hg.symm)) hb); replace HO0_1 := Aside0.mk (Kd.V_below (Kd.V_elderB (Pv_ HO0_1.out) gb101 (Nat.le_of_eq hg.symm)) hb); have BK101 := Aside0.mk (hbox); have GW101 := (Bg_ hg : Aside0 (w.heap.size ≤ gb101)); have GE101 := (Bg_ hg : Aside0 (w.heap.size ≤ gb101)); replace HB := Bs_ hb; clear hb hbox hg) | ((with_reducible refine gate_dst (N := 2) rfl ?_); refine bx_ 2 #[.slice none 0 0, .slice none 0 0] 25 ?_; intro gb102 hg w19 hbox hb; replace HO0_0 := Aside0.mk (Kd.V_below (Kd.V_elderB (Pv_ HO0_0.out) gb102 (Nat.le_of_eq hg.symm)) hb); replace HO0_1 := Aside0.mk (Kd.V_below (Kd.V_elderB (Pv_ HO0_1.out) gb102 (Nat.le_of_eq hg.symm)) hb); have BK102 := Aside0.mk (hbox); have GW102 := (Bg_ hg : Aside0 (w.heap.size ≤ gb102)); have GE102 := (Bg_ hg : Aside0 (w.heap.size ≤ gb102)); replace HB := Bs_ hb; have NB101_102 := nl_ hg BK101; have NB102_101 := ng_ hg BK101; replace BK101 := kb_ BK101 hb; clear hb hbox hg; have hnb20 := NB101_102.out; have hnc20 := NB102_101.out; obtain ⟨hcz21_0, hcz21_1⟩ := c2_ BK101; obtain ⟨hfz21_0, hfz21_1⟩ := f2_ BK101) | ((with_reducible refine gate_dst (N := 5) rfl ?_); refine Kd.N_lit k25 _ 25 ?hg (N' := 5) ?hd (xs := ([(⟨l0_0, l0_1⟩ : S25)] : List (S25))) (inner := [.slice A0_0 l0_0.length c0_0, .slice A0_1 l0_1.length c0_1]) (ok := (fun k_ => ((P0_0_ k_ ∨ P0_1_ k_) ∨ w.heap.size ≤ k_) ∧ k_ ≠ gb101 ∧ k_ ≠ gb102)) (okp := (fun k_ => ((P0_0_ k_ ∨ P0_1_ k_) ∨ w.heap.size ≤ k_) ∧ k_ ≠ gb101 ∧ k_ ≠ gb102)) ?hr ?hp (fun _ hk => hk) ((show ∀ k_, w19.heap.size ≤ k_ → (fun k_ => ((P0_0_ k_ ∨ P0_1_ k_) ∨ w.heap.size ≤ k_) ∧ k_ ≠ gb101 ∧ k_ ≠ gb102) k_ from fun k_ hk => ⟨(.inr (Nat.le_trans Bz_ hk)), Kd.freshB (g := gb101) (o := .cells #[.slice A0_0 l0_0.length c0_0, .slice A0_1 l0_1.length c0_1] 25 (0, 0)) (Bk_ BK101.out) k_ hk, Kd.freshB (g := gb102) (o := .cells #[.slice none 0 0, .slice none 0 0] 25 (0, 0)) (Bk_ BK102.out) k_ hk⟩) _ (Nat.le_refl _)) (Below.refl _ _) (Nat.le_refl _) (by simp) ?_; (case hd => rfl); (case hg => rfl); (case hr => first | (go_simp; done) | (go_simp; rfl)); (case hp => exact (Reps.c2 (show Kd.FK k25 _ _ (⟨l0_0, l0_1⟩ : S25) [.slice A0_0 l0_0.length c0_0, .slice A0_1 l0_1.length c0_1] from (k25_mkF _ _ (⟨l0_0, l0_1⟩ : S25) (Kd.V_reads' (Kd.V_mono (ok' := (fun k_ => ((P0_0_ k_ ∨ P0_1_ k_) ∨ w.heap.size ≤ k_) ∧ k_ ≠ gb101 ∧ k_ ≠ gb102)) (HO0_0.out) (fun k_ hk => ⟨hk.1.1, ⟨hk.1.2, hk.2⟩⟩))).2.1 (Kd.V_F (Kd.V_mono (ok' := (fun k_ => ((P0_0_ k_ ∨ P0_1_ k_) ∨ w.heap.size ≤ k_) ∧ k_ ≠ gb101 ∧ k_ ≠ gb102)) (HO0_0.out) (fun k_ hk => ⟨hk.1.1, ⟨hk.1.2, hk.2⟩⟩))) (Kd.V_reads' (Kd.V_mono (ok' := (fun k_ => ((P0_0_ k_ ∨ P0_1_ k_) ∨ w.heap.size ≤ k_) ∧ k_ ≠ gb101 ∧ k_ ≠ gb102)) (HO0_1.out) (fun k_ hk => ⟨hk.1.1, ⟨hk.1.2, hk.2⟩⟩))).2.1 (Kd.V_F (Kd.V_mono (ok' := (fun k_ => ((P0_0_ k_ ∨ P0_1_ k_) ∨ w.heap.size ≤ k_) ∧ k_ ≠ gb101 ∧ k_ ≠ gb102)) (HO0_1.out) (fun k_ hk => ⟨hk.1.1, ⟨hk.1.2, hk.2⟩⟩))))) (Reps.none _ _))); intro v104 w22 ho23 hb hg_ hnew_; clear hg_ hnew_; (first | rw [← Ny103.out] at ho23 | (simp only [Int.reduceToNat] at ho23; rw [← Ny103.out] at ho23)); replace HO0_0 := Aside0.mk (Kd.V_elder' (Pv_ HO0_0.out) (Kd.N_base ho23) hb); replace HO0_1 := Aside0.mk (Kd.V_elder' (Pv_ HO0_1.out) (Kd.N_base ho23) hb); have HO105 := Aside0.mk (Kd.N_lower ho23 Bz_); replace BK101 := kb_ BK101 hb; replace BK102 := kb_ BK102 hb; replace HB := Bs_ hb; clear hb ho23; obtain ⟨Ao24, co24, eo24⟩ := Kd.N_slice HO105.out; subst eo24) | ((with_reducible refine gate_callee (f := 50) rfl ?_); refine goesL_ (some 6) rfl rfl Tryd.func50 (by kernel_rfl) rfl #[.slice Ao24 y103.length co24] rfl Ga_ ?_; (with_reducible refine (mould_fine.calls k _ _ y103 false _ ?side1 ?side2 A2.out).mono ?_); (case side1 => exact Pc_ ((Kd.N_reads' HO105.out).2.2)); (case side2 => exact (Kd.N_reads' HO105.out).2.1); rintro e w25 ⟨rfl, hb⟩; refine ⟨_, rfl, ?_⟩; replace HO0_0 := Aside0.mk (Kd.V_below (Pv_ HO0_0.out) hb); replace HO0_1 := Aside0.mk (Kd.V_below (Pv_ HO0_1.out) hb); replace HO105 := Aside0.mk (Kd.N_below (by (with_reducible repeat (first | apply Kd.N_alloc | apply Kd.N_drewN | apply Kd.N_drew)); exact HO105.out) hb); replace BK101 := kb_ BK101 hb; replace BK102 := kb_ BK102 hb; replace HB := Bs_ hb; (try clear hb); (try clear hb2); (try clear hk); (try clear hi); obtain ⟨hcz26_0, hcz26_1⟩ := c2_ BK102; obtain ⟨hfz26_0, hfz26_1⟩ := f2_ BK102))
    refine bodyPost_ret (results_ct rfl _ _ gb102 25 #[.slice none 0 0, .slice none 0 0] (0, 0) _ rfl (by (with_reducible repeat (first | refine blk_drewN ?_ _ | refine blk_drew ?_ | refine blk_alloc ?_ _)); refine blk_put (cs := #[.slice none 0 0, .slice none 0 0]) ?_ 1 _ rfl; (with_reducible repeat (first | refine blk_drewN ?_ _ | refine blk_drew ?_ | refine blk_alloc ?_ _)); refine blk_put (cs := #[.slice none 0 0, .slice none 0 0]) ?_ 0 _ rfl; (with_reducible repeat (first | refine blk_drewN ?_ _ | refine blk_drew ?_ | refine blk_alloc ?_ _)); exact BK102.out) Tryd.underlying25 rfl (by kernel_rfl)) rfl ?_
    exact ⟨_, _, Re_, by first | exact Kd.R_nil _ _ _ _ _ | exact Kd.N_nil _ _ _ _ _ | exact Kd.V_nil _ _ _ _ _ | exact Kd.Q_nil _ _ _ _ _ | exact Kd.S_nil _ _ _ _ _, by first | exact Kd.R_nil _ _ _ _ _ | exact Kd.N_nil _ _ _ _ _ | exact Kd.V_nil _ _ _ _ _ | exact Kd.Q_nil _ _ _ _ _ | exact Kd.S_nil _ _ _ _ _, Bl_⟩
/-! ### mould_Ravel: function 29 -/
def mould_Ravel.f (k : Nat) (l0_0 : List Int) (l0_1 : List ByteArray) : Option (List Int × List ByteArray × Int) := (mould_fine.f k (([(⟨l0_0, l0_1⟩ : S25)] : List (S25)))).bind fun t106 => (if t106 = true then ((val_Vector.f l0_1).bind fun bt107 => (some (bt107.1, bt107.2, 0))) else (some (([] : List Int), ([] : List ByteArray), 1)))
set_option maxHeartbeats 8000000 in
set_option maxRecDepth 100000 in
theorem mould_Ravel.calls (k : Nat) (P0_0_ : Nat → Prop) (A0_0 : Option Addr) (c0_0 : Nat) (l0_0 : List Int) (P0_1_ : Nat → Prop) (A0_1 : Option Addr) (c0_1 : Nat) (l0_1 : List ByteArray) (r1 : List Int) (r2 : List ByteArray) (r3 : Int) (w : World) (hs0_0 : Kd.V (Kd.int .i64) 3 w w.heap.size (fun k_ => P0_0_ k_) (.slice A0_0 l0_0.length c0_0) l0_0) (hs0_1 : Kd.V Kd.string 9 w w.heap.size (fun k_ => P0_1_ k_) (.slice A0_1 l0_1.length c0_1) l0_1) (h : mould_Ravel.f k l0_0 l0_1 = some (r1, r2, r3)) :
    Calls Tryd.prog 29 #[.agg #[.slice A0_0 l0_0.length c0_0, .slice A0_1 l0_1.length c0_1]] w fun e w' => ∃ v0_ v1_ : Value, e = .returned (.tuple #[.agg #[v0_, v1_], .int .i64 r3]) ∧ Kd.R (Kd.int .i64) 3 w' w.heap.size (fun k_ => (w.heap.size ≤ k_)) v0_ r1 ∧ Kd.R Kd.string 9 w' w.heap.size (fun k_ => (w.heap.size ≤ k_)) v1_ r2 ∧ Below w.heap.size w w' := by
  have hu25 := Tryd.underlying25
  have HO0_0 := Aside0.mk (show Kd.V (Kd.int .i64) 3 w w.heap.size (fun k_ => ((P0_0_ k_ ∨ P0_1_ k_) ∨ w.heap.size ≤ k_)) (.slice A0_0 l0_0.length c0_0) l0_0 from Kd.V_mono hs0_0 (fun k_ hk => .inl (.inl hk)))
  have HO0_1 := Aside0.mk (show Kd.V Kd.string 9 w w.heap.size (fun k_ => ((P0_0_ k_ ∨ P0_1_ k_) ∨ w.heap.size ≤ k_)) (.slice A0_1 l0_1.length c0_1) l0_1 from Kd.V_mono hs0_1 (fun k_ hk => .inl (.inr hk)))
  have HB := Aside0.mk (Below.refl w.heap.size w)
  have H : ((mould_fine.f k (([(⟨l0_0, l0_1⟩ : S25)] : List (S25)))).bind fun t106 => (if t106 = true then ((val_Vector.f l0_1).bind fun bt107 => (some (bt107.1, bt107.2, 0))) else (some (([] : List Int), ([] : List ByteArray), 1)))) = some (r1, r2, r3) := h
  clear h
  obtain ⟨y103, hy103⟩ : ∃ y_ : List (S25), y_ = (([(⟨l0_0, l0_1⟩ : S25)] : List (S25))) := ⟨_, rfl⟩
  replace H : ((mould_fine.f k y103).bind fun t106 => (if t106 = true then ((val_Vector.f l0_1).bind fun bt107 => (some (bt107.1, bt107.2, 0))) else (some (([] : List Int), ([] : List ByteArray), 1)))) = some (r1, r2, r3) := by first | (rw [hy103]; with_reducible exact H) | (have H2_ := (Option.bind_some _ _).symm.trans H; rw [hy103]; with_reducible exact H2_) | (have H2_ := (Option.bind_some _ _).symm.trans H; with_reducible exact H2_) | with_reducible exact H | (rw [hy103]; exact H) | exact H
  have Ny103 := Aside0.mk hy103
  clear hy103
  obtain ⟨t106, A2, H⟩ := bnd_ H
  try dsimp -simprocs only at H
  by_cases c3 : t106 = true
  · subst c3
    have H1 : ((val_Vector.f l0_1).bind fun bt107 => (some (bt107.1, bt107.2, 0))) = some (r1, r2, r3) := by rw [if_pos rfl] at H; exact H
    clear H
    have H := H1
    clear H1
    obtain ⟨⟨t107, t110⟩, A4, H⟩ := bnd_ H
    try dsimp -simprocs only at H
    simp only [Option.some.injEq, Prod.mk.injEq] at H
    obtain ⟨rfl, rfl, rfl⟩ := H
    go_enter Tryd.func29, Tryd.ntmps29
    go_wp2_with (first | ((with_reducible refine gate_dst (N := 1) rfl ?_); refine bx_ 1 #[.slice A0_0 l0_0.length c0_0, .slice A0_1 l0_1.length c0_1] 25 ?_; intro gb101 hg w5 hbox hb; replace HO0_0 := Aside0.mk (Kd.V_below (Kd.V_elderB (Pv_ HO0_0.out) gb101 (Nat.le_of_eq hg.symm)) hb); replace HO0_1 := Aside0.mk (Kd.V_below (Kd.V_elderB (Pv_ HO0_1.out) gb101 (Nat.le_of_eq hg.symm)) hb); have BK101 := Aside0.mk (hbox); have GW101 := (Bg_ hg : Aside0 (w.heap.size ≤ gb101)); have GE101 := (Bg_ hg : Aside0 (w.heap.size ≤ gb101)); replace HB := Bs_ hb; clear hb hbox hg) | ((with_reducible refine gate_dst (N := 2) rfl ?_); refine bx_ 2 #[.slice none 0 0, .slice none 0 0] 25 ?_; intro gb102 hg w6 hbox hb; replace HO0_0 := Aside0.mk (Kd.V_below (Kd.V_elderB (Pv_ HO0_0.out) gb102 (Nat.le_of_eq hg.symm)) hb); replace HO0_1 := Aside0.mk (Kd.V_below (Kd.V_elderB (Pv_ HO0_1.out) gb102 (Nat.le_of_eq hg.symm)) hb); have BK102 := Aside0.mk (hbox); have GW102 := (Bg_ hg : Aside0 (w.heap.size ≤ gb102)); have GE102 := (Bg_ hg : Aside0 (w.heap.size ≤ gb102)); replace HB := Bs_ hb; have NB101_102 := nl_ hg BK101; have NB102_101 := ng_ hg BK101; replace BK101 := kb_ BK101 hb; clear hb hbox hg; have hnb7 := NB101_102.out; have hnc7 := NB102_101.out; obtain ⟨hcz8_0, hcz8_1⟩ := c2_ BK101; obtain ⟨hfz8_0, hfz8_1⟩ := f2_ BK101) | ((with_reducible refine gate_dst (N := 5) rfl ?_); refine Kd.N_lit k25 _ 25 ?hg (N' := 5) ?hd (xs := ([(⟨l0_0, l0_1⟩ : S25)] : List (S25))) (inner := [.slice A0_0 l0_0.length c0_0, .slice A0_1 l0_1.length c0_1]) (ok := (fun k_ => ((P0_0_ k_ ∨ P0_1_ k_) ∨ w.heap.size ≤ k_) ∧ k_ ≠ gb101 ∧ k_ ≠ gb102)) (okp := (fun k_ => ((P0_0_ k_ ∨ P0_1_ k_) ∨ w.heap.size ≤ k_) ∧ k_ ≠ gb101 ∧ k_ ≠ gb102)) ?hr ?hp (fun _ hk => hk) ((show ∀ k_, w6.heap.size ≤ k_ → (fun k_ => ((P0_0_ k_ ∨ P0_1_ k_) ∨ w.heap.size ≤ k_) ∧ k_ ≠ gb101 ∧ k_ ≠ gb102) k_ from fun k_ hk => ⟨(.inr (Nat.le_trans Bz_ hk)), Kd.freshB (g := gb101) (o := .cells #[.slice A0_0 l0_0.length c0_0, .slice A0_1 l0_1.length c0_1] 25 (0, 0)) (Bk_ BK101.out) k_ hk, Kd.freshB (g := gb102) (o := .cells #[.slice none 0 0, .slice none 0 0] 25 (0, 0)) (Bk_ BK102.out) k_ hk⟩) _ (Nat.le_refl _)) (Below.refl _ _) (Nat.le_refl _) (by simp) ?_; (case hd => rfl); (case hg => rfl); (case hr => first | (go_simp; done) | (go_simp; rfl)); (case hp => exact (Reps.c2 (show Kd.FK k25 _ _ (⟨l0_0, l0_1⟩ : S25) [.slice A0_0 l0_0.length c0_0, .slice A0_1 l0_1.length c0_1] from (k25_mkF _ _ (⟨l0_0, l0_1⟩ : S25) (Kd.V_reads' (Kd.V_mono (ok' := (fun k_ => ((P0_0_ k_ ∨ P0_1_ k_) ∨ w.heap.size ≤ k_) ∧ k_ ≠ gb101 ∧ k_ ≠ gb102)) (HO0_0.out) (fun k_ hk => ⟨hk.1.1, ⟨hk.1.2, hk.2⟩⟩))).2.1 (Kd.V_F (Kd.V_mono (ok' := (fun k_ => ((P0_0_ k_ ∨ P0_1_ k_) ∨ w.heap.size ≤ k_) ∧ k_ ≠ gb101 ∧ k_ ≠ gb102)) (HO0_0.out) (fun k_ hk => ⟨hk.1.1, ⟨hk.1.2, hk.2⟩⟩))) (Kd.V_reads' (Kd.V_mono (ok' := (fun k_ => ((P0_0_ k_ ∨ P0_1_ k_) ∨ w.heap.size ≤ k_) ∧ k_ ≠ gb101 ∧ k_ ≠ gb102)) (HO0_1.out) (fun k_ hk => ⟨hk.1.1, ⟨hk.1.2, hk.2⟩⟩))).2.1 (Kd.V_F (Kd.V_mono (ok' := (fun k_ => ((P0_0_ k_ ∨ P0_1_ k_) ∨ w.heap.size ≤ k_) ∧ k_ ≠ gb101 ∧ k_ ≠ gb102)) (HO0_1.out) (fun k_ hk => ⟨hk.1.1, ⟨hk.1.2, hk.2⟩⟩))))) (Reps.none _ _))); intro v104 w9 ho10 hb hg_ hnew_; clear hg_ hnew_; (first | rw [← Ny103.out] at ho10 | (simp only [Int.reduceToNat] at ho10; rw [← Ny103.out] at ho10)); replace HO0_0 := Aside0.mk (Kd.V_elder' (Pv_ HO0_0.out) (Kd.N_base ho10) hb); replace HO0_1 := Aside0.mk (Kd.V_elder' (Pv_ HO0_1.out) (Kd.N_base ho10) hb); have HO105 := Aside0.mk (Kd.N_lower ho10 Bz_); replace BK101 := kb_ BK101 hb; replace BK102 := kb_ BK102 hb; replace HB := Bs_ hb; clear hb ho10; obtain ⟨Ao11, co11, eo11⟩ := Kd.N_slice HO105.out; subst eo11) | ((with_reducible refine gate_callee (f := 50) rfl ?_); refine goesL_ (some 6) rfl rfl Tryd.func50 (by kernel_rfl) rfl #[.slice Ao11 y103.length co11] rfl Ga_ ?_; (with_reducible refine (mould_fine.calls k _ _ y103 true _ ?side1 ?side2 A2.out).mono ?_); (case side1 => exact Pc_ ((Kd.N_reads' HO105.out).2.2)); (case side2 => exact (Kd.N_reads' HO105.out).2.1); rintro e w12 ⟨rfl, hb⟩; refine ⟨_, rfl, ?_⟩; replace HO0_0 := Aside0.mk (Kd.V_below (Pv_ HO0_0.out) hb); replace HO0_1 := Aside0.mk (Kd.V_below (Pv_ HO0_1.out) hb); replace HO105 := Aside0.mk (Kd.N_below (by (with_reducible repeat (first | apply Kd.N_alloc | apply Kd.N_drewN | apply Kd.N_drew)); exact HO105.out) hb); replace BK101 := kb_ BK101 hb; replace BK102 := kb_ BK102 hb; replace HB := Bs_ hb; (try clear hb); (try clear hb2); (try clear hk); (try clear hi); obtain ⟨hcz13_0, hcz13_1⟩ := c2_ BK101; obtain ⟨hfz13_0, hfz13_1⟩ := f2_ BK101) | ((with_reducible refine gate_callee (f := 64) rfl ?_); refine goesL_ (some 11) rfl rfl Tryd.func64 (by kernel_rfl) rfl #[.slice A0_1 l0_1.length c0_1] rfl Ga_ ?_; (with_reducible refine (val_Vector.calls _ _ l0_1 t107 t110 _ ?side1 ?side2 A4.out).mono ?_); (case side1 => exact Pc_ ((Kd.V_reads' HO0_1.out).2.2)); (case side2 => exact (Kd.V_reads' HO0_1.out).2.1); rintro e w14 ⟨v108, v111, rfl, ho0, ho1, hb⟩; refine ⟨_, rfl, ?_⟩; replace HO0_0 := Aside0.mk (Kd.V_mono (Kd.V_told (Kd.V_told (Kd.V_old (Pv_ HO0_0.out) hb) (Kd.R_base ho0)) (Kd.R_base ho1)) (fun _ h_ => h_.1)); replace HO0_1 := Aside0.mk (Kd.V_mono (Kd.V_told (Kd.V_told (Kd.V_old (Pv_ HO0_1.out) hb) (Kd.R_base ho0)) (Kd.R_base ho1)) (fun _ h_ => h_.1)); replace HO105 := Aside0.mk (Kd.N_mono (Kd.N_told (Kd.N_told (Kd.N_old (by (with_reducible repeat (first | apply Kd.N_alloc | apply Kd.N_drewN | apply Kd.N_drew)); exact HO105.out) hb) (Kd.R_base ho0)) (Kd.R_base ho1)) (fun _ h_ => h_.1)); have HO109 := Aside0.mk (Kd.R_lower (Kd.R_newM (M := fun k_ => (w.heap.size ≤ k_)) ho0 Bz_ (fun k_ h_ => h_)) Bz_); have HO112 := Aside0.mk (Kd.R_lower (Kd.R_newM (M := fun k_ => (w.heap.size ≤ k_)) ho1 Bz_ (fun k_ h_ => h_)) Bz_); replace BK101 := kb_ BK101 hb; replace BK102 := kb_ BK102 hb; replace HB := Bs_ hb; (try clear hb); (try clear hb2); (try clear hk); (try clear hi); (try clear ho0); (try clear ho1); obtain ⟨Ao15, co15, eo15⟩ := Kd.R_slice HO109.out; subst eo15; obtain ⟨hcz16_0, hcz16_1⟩ := c2_ BK102; obtain ⟨hfz16_0, hfz16_1⟩ := f2_ BK102; obtain ⟨Ao17, co17, eo17⟩ := Kd.R_slice HO112.out; subst eo17))
    refine bodyPost_ret (results_ct rfl _ _ gb102 25 #[.slice Ao15 t107.length co15, .slice Ao17 t110.length co17] (0, 0) _ rfl (by (with_reducible repeat (first | refine blk_drewN ?_ _ | refine blk_drew ?_ | refine blk_alloc ?_ _)); refine blk_put (cs := #[.slice Ao15 t107.length co15, .slice none 0 0]) ?_ 1 _ rfl; (with_reducible repeat (first | refine blk_drewN ?_ _ | refine blk_drew ?_ | refine blk_alloc ?_ _)); refine blk_put (cs := #[.slice none 0 0, .slice none 0 0]) ?_ 0 _ rfl; (with_reducible repeat (first | refine blk_drewN ?_ _ | refine blk_drew ?_ | refine blk_alloc ?_ _)); exact BK102.out) Tryd.underlying25 rfl (by kernel_rfl)) rfl ?_
    exact ⟨_, _, Re_, by (with_reducible repeat (first | apply Kd.R_alloc | apply Kd.R_drewN | apply Kd.R_drew)); exact Kd.R_mono (Kd.R_far (p := ⟨gb102, 1, none⟩) (Kd.R_far (p := ⟨gb102, 0, none⟩) (Kd.R_types HO109.out BK102.out (by decide)) (fun _ hk => hk.2) (.slice Ao15 t107.length co15)) (fun _ hk => hk.2) (.slice Ao17 t110.length co17)) (fun _ hk => hk.1.1), by (with_reducible repeat (first | apply Kd.R_alloc | apply Kd.R_drewN | apply Kd.R_drew)); exact Kd.R_mono (Kd.R_far (p := ⟨gb102, 1, none⟩) (Kd.R_far (p := ⟨gb102, 0, none⟩) (Kd.R_types HO112.out BK102.out (by decide)) (fun _ hk => hk.2) (.slice Ao15 t107.length co15)) (fun _ hk => hk.2) (.slice Ao17 t110.length co17)) (fun _ hk => hk.1.1), Bl_⟩
  · replace c3 := Bool.eq_false_iff.mpr c3
    subst c3
    have H1 : (some (([] : List Int), ([] : List ByteArray), 1)) = some (r1, r2, r3) := by rw [if_neg (show ¬ (false = true) by decide)] at H; exact H
    clear H
    have H := H1
    clear H1
    simp only [Option.some.injEq, Prod.mk.injEq] at H
    obtain ⟨rfl, rfl, rfl⟩ := H
    go_enter Tryd.func29, Tryd.ntmps29
    go_wp2_with (first | ((with_reducible refine gate_dst (N := 1) rfl ?_); refine bx_ 1 #[.slice A0_0 l0_0.length c0_0, .slice A0_1 l0_1.length c0_1] 25 ?_; intro gb101 hg w18 hbox hb; replace HO0_0 := Aside0.mk (Kd.V_below (Kd.V_elderB (Pv_ HO0_0.out) gb101 (Nat.le_of_eq hg.symm)) hb); replace HO0_1 := Aside0.mk (Kd.V_below (Kd.V_elderB (Pv_ HO0_1.out) gb101 (Nat.le_of_eq hg.symm)) hb); have BK101 := Aside0.mk (hbox); have GW101 := (Bg_ hg : Aside0 (w.heap.size ≤ gb101)); have GE101 := (Bg_ hg : Aside0 (w.heap.size ≤ gb101)); replace HB := Bs_ hb; clear hb hbox hg) | ((with_reducible refine gate_dst (N := 2) rfl ?_); refine bx_ 2 #[.slice none 0 0, .slice none 0 0] 25 ?_; intro gb102 hg w19 hbox hb; replace HO0_0 := Aside0.mk (Kd.V_below (Kd.V_elderB (Pv_ HO0_0.out) gb102 (Nat.le_of_eq hg.symm)) hb); replace HO0_1 := Aside0.mk (Kd.V_below (Kd.V_elderB (Pv_ HO0_1.out) gb102 (Nat.le_of_eq hg.symm)) hb); have BK102 := Aside0.mk (hbox); have GW102 := (Bg_ hg : Aside0 (w.heap.size ≤ gb102)); have GE102 := (Bg_ hg : Aside0 (w.heap.size ≤ gb102)); replace HB := Bs_ hb; have NB101_102 := nl_ hg BK101; have NB102_101 := ng_ hg BK101; replace BK101 := kb_ BK101 hb; clear hb hbox hg; have hnb20 := NB101_102.out; have hnc20 := NB102_101.out; obtain ⟨hcz21_0, hcz21_1⟩ := c2_ BK101; obtain ⟨hfz21_0, hfz21_1⟩ := f2_ BK101) | ((with_reducible refine gate_dst (N := 5) rfl ?_); refine Kd.N_lit k25 _ 25 ?hg (N' := 5) ?hd (xs := ([(⟨l0_0, l0_1⟩ : S25)] : List (S25))) (inner := [.slice A0_0 l0_0.length c0_0, .slice A0_1 l0_1.length c0_1]) (ok := (fun k_ => ((P0_0_ k_ ∨ P0_1_ k_) ∨ w.heap.size ≤ k_) ∧ k_ ≠ gb101 ∧ k_ ≠ gb102)) (okp := (fun k_ => ((P0_0_ k_ ∨ P0_1_ k_) ∨ w.heap.size ≤ k_) ∧ k_ ≠ gb101 ∧ k_ ≠ gb102)) ?hr ?hp (fun _ hk => hk) ((show ∀ k_, w19.heap.size ≤ k_ → (fun k_ => ((P0_0_ k_ ∨ P0_1_ k_) ∨ w.heap.size ≤ k_) ∧ k_ ≠ gb101 ∧ k_ ≠ gb102) k_ from fun k_ hk => ⟨(.inr (Nat.le_trans Bz_ hk)), Kd.freshB (g := gb101) (o := .cells #[.slice A0_0 l0_0.length c0_0, .slice A0_1 l0_1.length c0_1] 25 (0, 0)) (Bk_ BK101.out) k_ hk, Kd.freshB (g := gb102) (o := .cells #[.slice none 0 0, .slice none 0 0] 25 (0, 0)) (Bk_ BK102.out) k_ hk⟩) _ (Nat.le_refl _)) (Below.refl _ _) (Nat.le_refl _) (by simp) ?_; (case hd => rfl); (case hg => rfl); (case hr => first | (go_simp; done) | (go_simp; rfl)); (case hp => exact (Reps.c2 (show Kd.FK k25 _ _ (⟨l0_0, l0_1⟩ : S25) [.slice A0_0 l0_0.length c0_0, .slice A0_1 l0_1.length c0_1] from (k25_mkF _ _ (⟨l0_0, l0_1⟩ : S25) (Kd.V_reads' (Kd.V_mono (ok' := (fun k_ => ((P0_0_ k_ ∨ P0_1_ k_) ∨ w.heap.size ≤ k_) ∧ k_ ≠ gb101 ∧ k_ ≠ gb102)) (HO0_0.out) (fun k_ hk => ⟨hk.1.1, ⟨hk.1.2, hk.2⟩⟩))).2.1 (Kd.V_F (Kd.V_mono (ok' := (fun k_ => ((P0_0_ k_ ∨ P0_1_ k_) ∨ w.heap.size ≤ k_) ∧ k_ ≠ gb101 ∧ k_ ≠ gb102)) (HO0_0.out) (fun k_ hk => ⟨hk.1.1, ⟨hk.1.2, hk.2⟩⟩))) (Kd.V_reads' (Kd.V_mono (ok' := (fun k_ => ((P0_0_ k_ ∨ P0_1_ k_) ∨ w.heap.size ≤ k_) ∧ k_ ≠ gb101 ∧ k_ ≠ gb102)) (HO0_1.out) (fun k_ hk => ⟨hk.1.1, ⟨hk.1.2, hk.2⟩⟩))).2.1 (Kd.V_F (Kd.V_mono (ok' := (fun k_ => ((P0_0_ k_ ∨ P0_1_ k_) ∨ w.heap.size ≤ k_) ∧ k_ ≠ gb101 ∧ k_ ≠ gb102)) (HO0_1.out) (fun k_ hk => ⟨hk.1.1, ⟨hk.1.2, hk.2⟩⟩))))) (Reps.none _ _))); intro v104 w22 ho23 hb hg_ hnew_; clear hg_ hnew_; (first | rw [← Ny103.out] at ho23 | (simp only [Int.reduceToNat] at ho23; rw [← Ny103.out] at ho23)); replace HO0_0 := Aside0.mk (Kd.V_elder' (Pv_ HO0_0.out) (Kd.N_base ho23) hb); replace HO0_1 := Aside0.mk (Kd.V_elder' (Pv_ HO0_1.out) (Kd.N_base ho23) hb); have HO105 := Aside0.mk (Kd.N_lower ho23 Bz_); replace BK101 := kb_ BK101 hb; replace BK102 := kb_ BK102 hb; replace HB := Bs_ hb; clear hb ho23; obtain ⟨Ao24, co24, eo24⟩ := Kd.N_slice HO105.out; subst eo24) | ((with_reducible refine gate_callee (f := 50) rfl ?_); refine goesL_ (some 6) rfl rfl Tryd.func50 (by kernel_rfl) rfl #[.slice Ao24 y103.length co24] rfl Ga_ ?_; (with_reducible refine (mould_fine.calls k _ _ y103 false _ ?side1 ?side2 A2.out).mono ?_); (case side1 => exact Pc_ ((Kd.N_reads' HO105.out).2.2)); (case side2 => exact (Kd.N_reads' HO105.out).2.1); rintro e w25 ⟨rfl, hb⟩; refine ⟨_, rfl, ?_⟩; replace HO0_0 := Aside0.mk (Kd.V_below (Pv_ HO0_0.out) hb); replace HO0_1 := Aside0.mk (Kd.V_below (Pv_ HO0_1.out) hb); replace HO105 := Aside0.mk (Kd.N_below (by (with_reducible repeat (first | apply Kd.N_alloc | apply Kd.N_drewN | apply Kd.N_drew)); exact HO105.out) hb); replace BK101 := kb_ BK101 hb; replace BK102 := kb_ BK102 hb; replace HB := Bs_ hb; (try clear hb); (try clear hb2); (try clear hk); (try clear hi); obtain ⟨hcz26_0, hcz26_1⟩ := c2_ BK102; obtain ⟨hfz26_0, hfz26_1⟩ := f2_ BK102))
    refine bodyPost_ret (results_ct rfl _ _ gb102 25 #[.slice none 0 0, .slice none 0 0] (0, 0) _ rfl (by (with_reducible repeat (first | refine blk_drewN ?_ _ | refine blk_drew ?_ | refine blk_alloc ?_ _)); refine blk_put (cs := #[.slice none 0 0, .slice none 0 0]) ?_ 1 _ rfl; (with_reducible repeat (first | refine blk_drewN ?_ _ | refine blk_drew ?_ | refine blk_alloc ?_ _)); refine blk_put (cs := #[.slice none 0 0, .slice none 0 0]) ?_ 0 _ rfl; (with_reducible repeat (first | refine blk_drewN ?_ _ | refine blk_drew ?_ | refine blk_alloc ?_ _)); exact BK102.out) Tryd.underlying25 rfl (by kernel_rfl)) rfl ?_
    exact ⟨_, _, Re_, by first | exact Kd.R_nil _ _ _ _ _ | exact Kd.N_nil _ _ _ _ _ | exact Kd.V_nil _ _ _ _ _ | exact Kd.Q_nil _ _ _ _ _ | exact Kd.S_nil _ _ _ _ _, by first | exact Kd.R_nil _ _ _ _ _ | exact Kd.N_nil _ _ _ _ _ | exact Kd.V_nil _ _ _ _ _ | exact Kd.Q_nil _ _ _ _ _ | exact Kd.S_nil _ _ _ _ _, Bl_⟩

end Go.Proofs.YtfjilihppnndkaaDoor.P
