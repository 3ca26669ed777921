-- Written by drive.py of this claim's own session, by way of the kit's print. Lean checks it.
import Derived.Test.YtfjilihppnndkaaDoorTN1
import Derived.Test.YtfjilihppnndkaaDoorTN2
namespace Go.Proofs.YtfjilihppnndkaaDoor.P
open Go.RowKit Go.Proofs.YtfjilihppnndkaaDoorW.PrintWords Go.Proofs.YtfjilihppnndkaaDoorW.PrintLast Go.Proofs.YtfjilihppnndkaaDoorW.PrintMore
attribute [local go_sem] max2_int min2_int max_two min_two max_three min_three max_four min_four   -- for this text's walks alone
set_option linter.unusedVariables false
set_option linter.unusedSimpArgs false

/-! ### typed_Pack: function 11 -/
def typed_Pack.l0 : Nat → Int → List Int → List ByteArray → Int → Int → List Int → List ByteArray → Option (Int × List Int × ByteArray × Int)
  | 0, _, _, _, _, _, _, _ => none
  | k + 1, x4, x5, x21, x22, x23, x159000, x159001 => if x23 < x22 then (if 0 ≤ x23 then (if x23 < (x21.length : Int) then ((num_Int.f (rdOf ByteArray.empty x21 x23)).bind fun bt164 => (if x5.length < 17592186044416 then (typed_Pack.l0 k x4 (x5 ++ [bt164.1]) x21 x22 (wrap64 (x23 + 1)) x159000 x159001) else (none))) else (none)) else (none)) else ((typed_lay.f k x5 x159000 x4).bind fun bt169 => (some (bt169.1, bt169.2.1, bt169.2.2, 0)))
def typed_Pack.f (k : Nat) (l0_0 : List Int) (l0_1 : List ByteArray) : Option (Int × List Int × ByteArray × Int) := (val_May.f k l0_0 l0_1).bind fun t160 => (if t160 = true then ((val_Width.f k l0_0 l0_1).bind fun t161 => ((typed_known.f k t161).bind fun t162 => (if t162 = true then (typed_Pack.l0 k t161 ([] : List Int) l0_1 (l0_1.length : Int) 0 l0_0 l0_1) else (some (0, ([] : List Int), (⟨#[]⟩ : ByteArray), 8))))) else (some (0, ([] : List Int), (⟨#[]⟩ : ByteArray), 1)))
set_option maxHeartbeats 8000000 in
set_option maxRecDepth 100000 in
theorem typed_Pack.calls (k : Nat) (A0_0 : Option Addr) (c0_0 : Nat) (l0_0 : List Int) (A0_1 : Option Addr) (c0_1 : Nat) (l0_1 : List ByteArray) (r1 : Int) (r2 : List Int) (r3 : ByteArray) (r4 : Int) (w : World) (hr0_0 : Kd.C (Kd.int .i64) w A0_0 l0_0.length l0_0) (hc0_0 : l0_0.length ≤ c0_0) (hr0_1 : Kd.C Kd.string w A0_1 l0_1.length l0_1) (hc0_1 : l0_1.length ≤ c0_1) (h : typed_Pack.f k l0_0 l0_1 = some (r1, r2, r3, r4)) (hG : Glob w) :
    Calls Tryd.prog 11 #[.agg #[.slice A0_0 l0_0.length c0_0, .slice A0_1 l0_1.length c0_1]] w fun e w' => ∃ v1_ : Value, e = .returned (.tuple #[.agg #[.int .i64 r1, v1_, .string r3], .int .i64 r4]) ∧ Kd.R (Kd.int .i64) 3 w' w.heap.size (fun _ => True) v1_ r2 ∧ Below w.heap.size w w' := by
  have hu25 := Tryd.underlying25
  have hu29 := Tryd.underlying29
  have HR0_0 := Aside0.mk hr0_0
  have HC0_0 := Aside0.mk hc0_0
  clear hr0_0 hc0_0
  have HR0_1 := Aside0.mk hr0_1
  have HC0_1 := Aside0.mk hc0_1
  clear hr0_1 hc0_1
  have HB := Aside0.mk (Below.refl w.heap.size w)
  have H : ((val_May.f k l0_0 l0_1).bind fun t160 => (if t160 = true then ((val_Width.f k l0_0 l0_1).bind fun t161 => ((typed_known.f k t161).bind fun t162 => (if t162 = true then (typed_Pack.l0 k t161 ([] : List Int) l0_1 (l0_1.length : Int) 0 l0_0 l0_1) else (some (0, ([] : List Int), (⟨#[]⟩ : ByteArray), 8))))) else (some (0, ([] : List Int), (⟨#[]⟩ : ByteArray), 1)))) = some (r1, r2, r3, r4) := h
  clear h
  obtain ⟨t160, A2, H⟩ := bnd_ H
  try dsimp -simprocs only at H
  by_cases c3 : t160 = true
  · subst c3
    have H1 : ((val_Width.f k l0_0 l0_1).bind fun t161 => ((typed_known.f k t161).bind fun t162 => (if t162 = true then (typed_Pack.l0 k t161 ([] : List Int) l0_1 (l0_1.length : Int) 0 l0_0 l0_1) else (some (0, ([] : List Int), (⟨#[]⟩ : ByteArray), 8))))) = some (r1, r2, r3, r4) := by rw [if_pos rfl] at H; exact H
    clear H
    have H := H1
    clear H1
    obtain ⟨t161, A4, H⟩ := bnd_ H
    try dsimp -simprocs only at H
    obtain ⟨t162, A5, H⟩ := bnd_ H
    try dsimp -simprocs only at H
    by_cases c6 : t162 = true
    · subst c6
      have H1 : (typed_Pack.l0 k t161 ([] : List Int) l0_1 (l0_1.length : Int) 0 l0_0 l0_1) = some (r1, r2, r3, r4) := by rw [if_pos rfl] at H; exact H
      clear H
      have H := H1
      clear H1
      have H' := Aside0.mk H
      clear H
      go_enter Tryd.func11, Tryd.ntmps11
      go_wp2_with (first | ((with_reducible refine gate_dst (N := 1) rfl ?_); refine bx_ 1 #[.slice A0_0 l0_0.length c0_0, .slice A0_1 l0_1.length c0_1] 25 ?_; intro gb158 hg w7 hbox hb; have BK158 := Aside0.mk (hbox); have GW158 := (Bg_ hg : Aside0 (w.heap.size ≤ gb158)); have GE158 := (Bg_ hg : Aside0 (w.heap.size ≤ gb158)); replace HB := Bs_ hb; clear hb hbox hg) | ((with_reducible refine gate_dst (N := 2) rfl ?_); refine bx_ 2 #[.int .i64 0, .slice none 0 0, .string (⟨#[]⟩ : ByteArray)] 29 ?_; intro gb159 hg w8 hbox hb; have BK159 := Aside0.mk (hbox); have GW159 := (Bg_ hg : Aside0 (w.heap.size ≤ gb159)); have GE159 := (Bg_ hg : Aside0 (w.heap.size ≤ gb159)); replace HB := Bs_ hb; have NB158_159 := nl_ hg BK158; have NB159_158 := ng_ hg BK158; replace BK158 := kb_ BK158 hb; clear hb hbox hg; have hnb9 := NB158_159.out; have hnc9 := NB159_158.out; obtain ⟨hcz10_0, hcz10_1⟩ := c2_ BK158; obtain ⟨hfz10_0, hfz10_1⟩ := f2_ BK158) | ((with_reducible refine gate_callee (f := 26) rfl ?_); refine goesL_ (some 11) rfl rfl Tryd.func26 (by kernel_rfl) rfl #[.agg #[.slice A0_0 l0_0.length c0_0, .slice A0_1 l0_1.length c0_1]] rfl Ga_ ?_; (with_reducible refine (val_May.calls k _ _ l0_0 _ _ l0_1 true _ ?side1 ?side2 ?side3 ?side4 A2.out).mono ?_); (case side1 => exact Pc_ (Kd.C_below HR0_0.out HB.out)); (case side2 => exact HC0_0.out); (case side3 => exact Pc_ (Kd.C_below HR0_1.out HB.out)); (case side4 => exact HC0_1.out); rintro e w11 ⟨rfl, hb⟩; refine ⟨_, rfl, ?_⟩; replace BK158 := kb_ BK158 hb; replace BK159 := kb_ BK159 hb; replace HB := Bs_ hb; (try clear hb); (try clear hb2); (try clear hk); (try clear hi); obtain ⟨hcz12_0, hcz12_1⟩ := c2_ BK158; obtain ⟨hfz12_0, hfz12_1⟩ := f2_ BK158) | ((with_reducible refine gate_callee (f := 35) rfl ?_); refine goesL_ (some 15) rfl rfl Tryd.func35 (by kernel_rfl) rfl #[.agg #[.slice A0_0 l0_0.length c0_0, .slice A0_1 l0_1.length c0_1]] rfl Ga_ ?_; (with_reducible refine (val_Width.calls k _ _ l0_0 _ _ l0_1 t161 _ ?side1 ?side2 ?side3 ?side4 A4.out ?side5).mono ?_); (case side1 => exact Pc_ (Kd.C_below HR0_0.out HB.out)); (case side2 => exact HC0_0.out); (case side3 => exact Pc_ (Kd.C_below HR0_1.out HB.out)); (case side4 => exact HC0_1.out); (case side5 => first | exact hG | exact Glob.below hG Bl_); rintro e w13 ⟨rfl, hb⟩; refine ⟨_, rfl, ?_⟩; replace BK158 := kb_ BK158 hb; replace BK159 := kb_ BK159 hb; replace HB := Bs_ hb; (try clear hb); (try clear hb2); (try clear hk); (try clear hi)) | ((with_reducible refine gate_callee (f := 36) rfl ?_); refine goesL_ (some 17) rfl rfl Tryd.func36 (by kernel_rfl) rfl #[.int .i64 t161] rfl Ga_ ?_; (with_reducible refine (typed_known.calls k t161 true _ A5.out).mono ?_); rintro e w14 ⟨rfl, hb⟩; refine ⟨_, rfl, ?_⟩; replace BK158 := kb_ BK158 hb; replace BK159 := kb_ BK159 hb; replace HB := Bs_ hb; (try clear hb); (try clear hb2); (try clear hk); (try clear hi); obtain ⟨hcz15_0, hcz15_1⟩ := c2_ BK158; obtain ⟨hfz15_0, hfz15_1⟩ := f2_ BK158))
      go_loopg [5, 23] k (fun kq v5 v23 w' => ∃ (x5_1 : List Int) (x23_1 : Int), v23 = .int .i64 x23_1 ∧ Aside0 (typed_Pack.l0 kq t161 x5_1 l0_1 (l0_1.length : Int) x23_1 l0_0 l0_1 = some (r1, r2, r3, r4)) ∧ Aside0 (kq ≤ k) ∧ Aside0 (Kd.R (Kd.int .i64) 2 w' w.heap.size (fun _ => True) v5 x5_1) ∧ Aside0 (w'.heap[gb158]? = some (.cells #[(.slice A0_0 l0_0.length c0_0), (.slice A0_1 l0_1.length c0_1)] 25 (0, 0))) ∧ Aside0 (w'.heap[gb159]? = some (.cells #[.int .i64 0, (.slice none 0 0), .string (⟨#[]⟩ : ByteArray)] 29 (0, 0))) ∧ Aside0 (Below w.heap.size w w'))
      case atStart => exact ⟨(([] : List Int)), (0), Rf_, H', ⟨Nat.le_refl _⟩, ⟨by first | exact Kd.R_nil _ _ _ _ _ | exact Kd.N_nil _ _ _ _ _ | exact Kd.V_nil _ _ _ _ _ | exact Kd.Q_nil _ _ _ _ _ | exact Kd.S_nil _ _ _ _ _⟩, ⟨by (with_reducible repeat (first | refine blk_drewN ?_ _ | refine blk_drew ?_ | refine blk_alloc ?_ _)); exact BK158.out⟩, ⟨by (with_reducible repeat (first | refine blk_drewN ?_ _ | refine blk_drew ?_ | refine blk_alloc ?_ _)); exact BK159.out⟩, ⟨Bl_⟩⟩
      case round =>
        clear H'
        try clear c1
        try clear c2
        try clear p2
        try clear c3
        try clear c6
        try clear c9
        try clear c11
        try clear hcz10_0
        try clear hcz10_1
        try clear hcz12_0
        try clear hcz12_1
        try clear hcz15_0
        try clear hcz15_1
        try clear hfz10_0
        try clear hfz10_1
        try clear hfz12_0
        try clear hfz12_1
        try clear hfz15_0
        try clear hfz15_1
        obtain ⟨x5_1, x23_1, rfl, HA, HK1, HO_5, BK158, BK159, HB⟩ := hrel
        cases gk with
        | zero => exact absurd HA.out (by simp [typed_Pack.l0])
        | succ k1 =>
          have H := HA.out
          clear HA
          simp only [typed_Pack.l0] at H
          by_cases c16 : x23_1 < (l0_1.length : Int)
          · rw [if_pos c16] at H
            have c16b0 : decide (x23_1 < (l0_1.length : Int)) = true := decide_eq_true c16
            clear c16
            by_cases c17 : 0 ≤ x23_1
            · rw [if_pos c17] at H
              have c17b0 : decide (0 ≤ x23_1) = true := decide_eq_true c17
              clear c17
              by_cases c18 : x23_1 < (l0_1.length : Int)
              · rw [if_pos c18] at H
                have c18b0 : decide (x23_1 < (l0_1.length : Int)) = true := decide_eq_true c18
                clear c18
                obtain ⟨⟨t164, t165⟩, A19, H⟩ := bnd_ H
                try dsimp -simprocs only at H
                by_cases c20 : x5_1.length < 17592186044416
                · rw [if_pos c20] at H
                  have LMc20 := Aside0.mk c20
                  clear c20
                  obtain ⟨y166, hy166⟩ : ∃ y_ : List Int, y_ = (x5_1 ++ [t164]) := ⟨_, rfl⟩
                  replace H : (typed_Pack.l0 k1 t161 y166 l0_1 (l0_1.length : Int) (wrap64 (x23_1 + 1)) l0_0 l0_1) = some (r1, r2, r3, r4) := by first | (rw [hy166]; with_reducible exact H) | (have H2_ := (Option.bind_some _ _).symm.trans H; rw [hy166]; with_reducible exact H2_) | (have H2_ := (Option.bind_some _ _).symm.trans H; with_reducible exact H2_) | with_reducible exact H | (rw [hy166]; exact H) | exact H
                  have Ny166 := Aside0.mk hy166
                  clear hy166
                  have H' := Aside0.mk H
                  clear H
                  have p163 : 0 ≤ (x23_1 : Int) := of_decide_eq_true As_
                  have q163 : x23_1 < (l0_1.length : Int) := of_decide_eq_true As_
                  obtain ⟨ad163, e163, hx163_0⟩ := Kd.at_string HR0_1.out x23_1 p163 q163
                  cases e163
                  replace hx163_0 := (HB.out.cell (World.block_lt_of_cell? w _ hx163_0)).trans hx163_0
                  replace p163 := eq_true p163
                  replace q163 := eq_true q163
                  go_wp2_with (first | ((with_reducible refine gate_callee (f := 37) rfl ?_); refine goesL_ (some 29) rfl rfl Tryd.func37 (by kernel_rfl) rfl #[.string (rdOf ByteArray.empty l0_1 x23_1)] rfl Ga_ ?_; (with_reducible refine (num_Int.calls (rdOf ByteArray.empty l0_1 x23_1) t164 t165 _ A19.out ?side1).mono ?_); (case side1 => first | exact hG | exact Glob.below hG Bl_); rintro e w21 ⟨rfl, hb⟩; refine ⟨_, rfl, ?_⟩; replace HO_5 := Aside0.mk (Kd.R_below (Pr_ HO_5.out) hb); replace BK158 := kb_ BK158 hb; replace BK159 := kb_ BK159 hb; replace HB := Bs_ hb; (try clear hb); (try clear hb2); (try clear hk); (try clear hi)) | ((with_reducible refine gate_builtin (b := .append) (xs := #[.tmp 32, .tmp 34]) rfl ?_); at_builtin; refine Kd.R_append (Kd.int .i64) (w0 := w) w.heap.size rfl (.tmp 32) (.tmp 34) 57 2 (.int .i64 0) 8 rfl Tryd.underlying57 info2 rfl (by decide) (by omega) u5 x5_1 t164 [.int .i64 t164] (fun _ => True) (fun _ => False) rfl rfl ?aP (fun _ hk => hk.elim) ?aF ?aO ?aB ?aS ?aL ?_; (case aP => exact rfl); (case aB => exact Bl_); (case aF => exact (fun _ _ => trivial)); (case aO => exact (Pr_ HO_5.out)); (case aS => exact Bz_); (case aL => have := LMc20.out; omega); intro v167 w22 ho hb hg hat; rw [← Ny166.out] at ho; replace BK158 := kg_ BK158 hg (Kd.R_ne HO_5.out BK158.out (by decide)); replace BK159 := kg_ BK159 hg (Kd.R_ne HO_5.out BK159.out (by decide)); replace HB := Aside0.mk (hb); have HO168 := Aside0.mk (ho); clear HO_5; clear ho hb hg hat))
                  go_roundg k1
                  case measure => have := HK1.out; omega
                  case rel => exact ⟨(y166), (wrap64 (x23_1 + 1)), Rf_, H', ⟨by have := HK1.out; omega⟩, ⟨by (with_reducible repeat (first | apply Kd.R_alloc | apply Kd.R_drewN | apply Kd.R_drew)); exact HO168.out⟩, ⟨by (with_reducible repeat (first | refine blk_drewN ?_ _ | refine blk_drew ?_ | refine blk_alloc ?_ _)); exact BK158.out⟩, ⟨by (with_reducible repeat (first | refine blk_drewN ?_ _ | refine blk_drew ?_ | refine blk_alloc ?_ _)); exact BK159.out⟩, ⟨Bl_⟩⟩
                · rw [if_neg c20] at H
                  exact absurd H (by simp)
              · rw [if_neg c18] at H
                exact absurd H (by simp)
            · rw [if_neg c17] at H
              exact absurd H (by simp)
          · rw [if_neg c16] at H
            have c16b0 : decide (x23_1 < (l0_1.length : Int)) = false := decide_eq_false c16
            clear c16
            obtain ⟨⟨t169, t170, t173⟩, A23, H⟩ := bnd_ H
            try dsimp -simprocs only at H
            simp only [Option.some.injEq, Prod.mk.injEq] at H
            obtain ⟨rfl, rfl, rfl, rfl⟩ := H
            have hnb24 := NB158_159.out
            have hnc24 := NB159_158.out
            obtain ⟨hcz25_0, hcz25_1⟩ := c2_ BK158
            obtain ⟨hfz25_0, hfz25_1⟩ := f2_ BK158
            obtain ⟨Ao26, co26, eo26⟩ := Kd.R_slice HO_5.out
            subst eo26
            go_wp2_with (first | ((with_reducible refine gate_callee (f := 38) rfl ?_); refine goesL_ (some 41) rfl rfl Tryd.func38 (by kernel_rfl) rfl #[.slice Ao26 x5_1.length co26, .slice A0_0 l0_0.length c0_0, .int .i64 t161] rfl Ga_ ?_; (with_reducible refine (typed_lay.calls k1 _ _ x5_1 _ _ l0_0 t161 t169 t170 t173 _ ?side1 ?side2 ?side3 ?side4 A23.out).mono ?_); (case side1 => exact Pc_ ((Kd.R_reads' HO_5.out).2.2)); (case side2 => exact (Kd.R_reads' HO_5.out).2.1); (case side3 => exact Pc_ (Kd.C_below HR0_0.out HB.out)); (case side4 => exact HC0_0.out); rintro e w27 ⟨v171, rfl, ho0, hb⟩; refine ⟨_, rfl, ?_⟩; replace HO_5 := Aside0.mk (Kd.R_below (Pr_ HO_5.out) hb); have HO172 := Aside0.mk (Kd.R_lower ho0 Bz_); replace BK158 := kb_ BK158 hb; replace BK159 := kb_ BK159 hb; replace HB := Bs_ hb; (try clear hb); (try clear hb2); (try clear hk); (try clear hi); (try clear ho0); obtain ⟨hcz28_0, hcz28_1, hcz28_2⟩ := c3_ BK159; obtain ⟨hfz28_0, hfz28_1, hfz28_2⟩ := f3_ BK159; obtain ⟨Ao29, co29, eo29⟩ := Kd.R_slice HO172.out; subst eo29))
            refine bodyPost_ret (results_ct rfl _ _ gb159 29 #[.int .i64 t169, .slice Ao29 t170.length co29, .string t173] (0, 0) _ rfl (by (with_reducible repeat (first | refine blk_drewN ?_ _ | refine blk_drew ?_ | refine blk_alloc ?_ _)); refine blk_put (cs := #[.int .i64 t169, .slice Ao29 t170.length co29, .string (⟨#[]⟩ : ByteArray)]) ?_ 2 _ rfl; (with_reducible repeat (first | refine blk_drewN ?_ _ | refine blk_drew ?_ | refine blk_alloc ?_ _)); refine blk_put (cs := #[.int .i64 t169, .slice none 0 0, .string (⟨#[]⟩ : ByteArray)]) ?_ 1 _ rfl; (with_reducible repeat (first | refine blk_drewN ?_ _ | refine blk_drew ?_ | refine blk_alloc ?_ _)); refine blk_put (cs := #[.int .i64 0, .slice none 0 0, .string (⟨#[]⟩ : ByteArray)]) ?_ 0 _ rfl; (with_reducible repeat (first | refine blk_drewN ?_ _ | refine blk_drew ?_ | refine blk_alloc ?_ _)); exact BK159.out) Tryd.underlying29 rfl (by kernel_rfl)) rfl ?_
            exact ⟨_, Re_, by (with_reducible repeat (first | apply Kd.R_alloc | apply Kd.R_drewN | apply Kd.R_drew)); exact Kd.R_mono (Kd.R_far (p := ⟨gb159, 2, none⟩) (Kd.R_far (p := ⟨gb159, 1, none⟩) (Kd.R_far (p := ⟨gb159, 0, none⟩) (Kd.R_types HO172.out BK159.out (by decide)) (fun _ hk => hk.2) (.int .i64 t169)) (fun _ hk => hk.2) (.slice Ao29 t170.length co29)) (fun _ hk => hk.2) (.string t173)) (fun _ hk => trivial), Bl_⟩
    · replace c6 := Bool.eq_false_iff.mpr c6
      subst c6
      have H1 : (some (0, ([] : List Int), (⟨#[]⟩ : ByteArray), 8)) = some (r1, r2, r3, r4) := by rw [if_neg (show ¬ (false = true) by decide)] at H; exact H
      clear H
      have H := H1
      clear H1
      simp only [Option.some.injEq, Prod.mk.injEq] at H
      obtain ⟨rfl, rfl, rfl, rfl⟩ := H
      go_enter Tryd.func11, Tryd.ntmps11
      go_wp2_with (first | ((with_reducible refine gate_dst (N := 1) rfl ?_); refine bx_ 1 #[.slice A0_0 l0_0.length c0_0, .slice A0_1 l0_1.length c0_1] 25 ?_; intro gb158 hg w30 hbox hb; have BK158 := Aside0.mk (hbox); have GW158 := (Bg_ hg : Aside0 (w.heap.size ≤ gb158)); have GE158 := (Bg_ hg : Aside0 (w.heap.size ≤ gb158)); replace HB := Bs_ hb; clear hb hbox hg) | ((with_reducible refine gate_dst (N := 2) rfl ?_); refine bx_ 2 #[.int .i64 0, .slice none 0 0, .string (⟨#[]⟩ : ByteArray)] 29 ?_; intro gb159 hg w31 hbox hb; have BK159 := Aside0.mk (hbox); have GW159 := (Bg_ hg : Aside0 (w.heap.size ≤ gb159)); have GE159 := (Bg_ hg : Aside0 (w.heap.size ≤ gb159)); replace HB := Bs_ hb; have NB158_159 := nl_ hg BK158; have NB159_158 := ng_ hg BK158; replace BK158 := kb_ BK158 hb; clear hb hbox hg; have hnb32 := NB158_159.out; have hnc32 := NB159_158.out; obtain ⟨hcz33_0, hcz33_1⟩ := c2_ BK158; obtain ⟨hfz33_0, hfz33_1⟩ := f2_ BK158) | ((with_reducible refine gate_callee (f := 26) rfl ?_); refine goesL_ (some 11) rfl rfl Tryd.func26 (by kernel_rfl) rfl #[.agg #[.slice A0_0 l0_0.length c0_0, .slice A0_1 l0_1.length c0_1]] rfl Ga_ ?_; (with_reducible refine (val_May.calls k _ _ l0_0 _ _ l0_1 true _ ?side1 ?side2 ?side3 ?side4 A2.out).mono ?_); (case side1 => exact Pc_ (Kd.C_below HR0_0.out HB.out)); (case side2 => exact HC0_0.out); (case side3 => exact Pc_ (Kd.C_below HR0_1.out HB.out)); (case side4 => exact HC0_1.out); rintro e w34 ⟨rfl, hb⟩; refine ⟨_, rfl, ?_⟩; replace BK158 := kb_ BK158 hb; replace BK159 := kb_ BK159 hb; replace HB := Bs_ hb; (try clear hb); (try clear hb2); (try clear hk); (try clear hi); obtain ⟨hcz35_0, hcz35_1⟩ := c2_ BK158; obtain ⟨hfz35_0, hfz35_1⟩ := f2_ BK158) | ((with_reducible refine gate_callee (f := 35) rfl ?_); refine goesL_ (some 15) rfl rfl Tryd.func35 (by kernel_rfl) rfl #[.agg #[.slice A0_0 l0_0.length c0_0, .slice A0_1 l0_1.length c0_1]] rfl Ga_ ?_; (with_reducible refine (val_Width.calls k _ _ l0_0 _ _ l0_1 t161 _ ?side1 ?side2 ?side3 ?side4 A4.out ?side5).mono ?_); (case side1 => exact Pc_ (Kd.C_below HR0_0.out HB.out)); (case side2 => exact HC0_0.out); (case side3 => exact Pc_ (Kd.C_below HR0_1.out HB.out)); (case side4 => exact HC0_1.out); (case side5 => first | exact hG | exact Glob.below hG Bl_); rintro e w36 ⟨rfl, hb⟩; refine ⟨_, rfl, ?_⟩; replace BK158 := kb_ BK158 hb; replace BK159 := kb_ BK159 hb; replace HB := Bs_ hb; (try clear hb); (try clear hb2); (try clear hk); (try clear hi)) | ((with_reducible refine gate_callee (f := 36) rfl ?_); refine goesL_ (some 17) rfl rfl Tryd.func36 (by kernel_rfl) rfl #[.int .i64 t161] rfl Ga_ ?_; (with_reducible refine (typed_known.calls k t161 false _ A5.out).mono ?_); rintro e w37 ⟨rfl, hb⟩; refine ⟨_, rfl, ?_⟩; replace BK158 := kb_ BK158 hb; replace BK159 := kb_ BK159 hb; replace HB := Bs_ hb; (try clear hb); (try clear hb2); (try clear hk); (try clear hi); obtain ⟨hcz38_0, hcz38_1, hcz38_2⟩ := c3_ BK159; obtain ⟨hfz38_0, hfz38_1, hfz38_2⟩ := f3_ BK159))
      refine bodyPost_ret (results_ct rfl _ _ gb159 29 #[.int .i64 0, .slice none 0 0, .string (⟨#[]⟩ : ByteArray)] (0, 0) _ rfl (by (with_reducible repeat (first | refine blk_drewN ?_ _ | refine blk_drew ?_ | refine blk_alloc ?_ _)); refine blk_put (cs := #[.int .i64 0, .slice none 0 0, .string (⟨#[]⟩ : ByteArray)]) ?_ 2 _ rfl; (with_reducible repeat (first | refine blk_drewN ?_ _ | refine blk_drew ?_ | refine blk_alloc ?_ _)); refine blk_put (cs := #[.int .i64 0, .slice none 0 0, .string (⟨#[]⟩ : ByteArray)]) ?_ 1 _ rfl; (with_reducible repeat (first | refine blk_drewN ?_ _ | refine blk_drew ?_ | refine blk_alloc ?_ _)); refine blk_put (cs := #[.int .i64 0, .slice none 0 0, .string (⟨#[]⟩ : ByteArray)]) ?_ 0 _ rfl; (with_reducible repeat (first | refine blk_drewN ?_ _ | refine blk_drew ?_ | refine blk_alloc ?_ _)); exact BK159.out) Tryd.underlying29 rfl (by kernel_rfl)) rfl ?_
      exact ⟨_, Re_, by first | exact Kd.R_nil _ _ _ _ _ | exact Kd.N_nil _ _ _ _ _ | exact Kd.V_nil _ _ _ _ _ | exact Kd.Q_nil _ _ _ _ _ | exact Kd.S_nil _ _ _ _ _, Bl_⟩
  · replace c3 := Bool.eq_false_iff.mpr c3
    subst c3
    have H1 : (some (0, ([] : List Int), (⟨#[]⟩ : ByteArray), 1)) = some (r1, r2, r3, r4) := by rw [if_neg (show ¬ (false = true) by decide)] at H; exact H
    clear H
    have H := H1
    clear H1
    simp only [Option.some.injEq, Prod.mk.injEq] at H
    obtain ⟨rfl, rfl, rfl, rfl⟩ := H
    go_enter Tryd.func11, Tryd.ntmps11
    go_wp2_with (first | ((with_reducible refine gate_dst (N := 1) rfl ?_); refine bx_ 1 #[.slice A0_0 l0_0.length c0_0, .slice A0_1 l0_1.length c0_1] 25 ?_; intro gb158 hg w39 hbox hb; have BK158 := Aside0.mk (hbox); have GW158 := (Bg_ hg : Aside0 (w.heap.size ≤ gb158)); have GE158 := (Bg_ hg : Aside0 (w.heap.size ≤ gb158)); replace HB := Bs_ hb; clear hb hbox hg) | ((with_reducible refine gate_dst (N := 2) rfl ?_); refine bx_ 2 #[.int .i64 0, .slice none 0 0, .string (⟨#[]⟩ : ByteArray)] 29 ?_; intro gb159 hg w40 hbox hb; have BK159 := Aside0.mk (hbox); have GW159 := (Bg_ hg : Aside0 (w.heap.size ≤ gb159)); have GE159 := (Bg_ hg : Aside0 (w.heap.size ≤ gb159)); replace HB := Bs_ hb; have NB158_159 := nl_ hg BK158; have NB159_158 := ng_ hg BK158; replace BK158 := kb_ BK158 hb; clear hb hbox hg; have hnb41 := NB158_159.out; have hnc41 := NB159_158.out; obtain ⟨hcz42_0, hcz42_1⟩ := c2_ BK158; obtain ⟨hfz42_0, hfz42_1⟩ := f2_ BK158) | ((with_reducible refine gate_callee (f := 26) rfl ?_); refine goesL_ (some 11) rfl rfl Tryd.func26 (by kernel_rfl) rfl #[.agg #[.slice A0_0 l0_0.length c0_0, .slice A0_1 l0_1.length c0_1]] rfl Ga_ ?_; (with_reducible refine (val_May.calls k _ _ l0_0 _ _ l0_1 false _ ?side1 ?side2 ?side3 ?side4 A2.out).mono ?_); (case side1 => exact Pc_ (Kd.C_below HR0_0.out HB.out)); (case side2 => exact HC0_0.out); (case side3 => exact Pc_ (Kd.C_below HR0_1.out HB.out)); (case side4 => exact HC0_1.out); rintro e w43 ⟨rfl, hb⟩; refine ⟨_, rfl, ?_⟩; replace BK158 := kb_ BK158 hb; replace BK159 := kb_ BK159 hb; replace HB := Bs_ hb; (try clear hb); (try clear hb2); (try clear hk); (try clear hi); obtain ⟨hcz44_0, hcz44_1, hcz44_2⟩ := c3_ BK159; obtain ⟨hfz44_0, hfz44_1, hfz44_2⟩ := f3_ BK159))
    refine bodyPost_ret (results_ct rfl _ _ gb159 29 #[.int .i64 0, .slice none 0 0, .string (⟨#[]⟩ : ByteArray)] (0, 0) _ rfl (by (with_reducible repeat (first | refine blk_drewN ?_ _ | refine blk_drew ?_ | refine blk_alloc ?_ _)); refine blk_put (cs := #[.int .i64 0, .slice none 0 0, .string (⟨#[]⟩ : ByteArray)]) ?_ 2 _ rfl; (with_reducible repeat (first | refine blk_drewN ?_ _ | refine blk_drew ?_ | refine blk_alloc ?_ _)); refine blk_put (cs := #[.int .i64 0, .slice none 0 0, .string (⟨#[]⟩ : ByteArray)]) ?_ 1 _ rfl; (with_reducible repeat (first | refine blk_drewN ?_ _ | refine blk_drew ?_ | refine blk_alloc ?_ _)); refine blk_put (cs := #[.int .i64 0, .slice none 0 0, .string (⟨#[]⟩ : ByteArray)]) ?_ 0 _ rfl; (with_reducible repeat (first | refine blk_drewN ?_ _ | refine blk_drew ?_ | refine blk_alloc ?_ _)); exact BK159.out) Tryd.underlying29 rfl (by kernel_rfl)) rfl ?_
    exact ⟨_, Re_, by first | exact Kd.R_nil _ _ _ _ _ | exact Kd.N_nil _ _ _ _ _ | exact Kd.V_nil _ _ _ _ _ | exact Kd.Q_nil _ _ _ _ _ | exact Kd.S_nil _ _ _ _ _, Bl_⟩
/-! ### reredoslaw05_shown: function 9 -/
theorem shown05_pack : typed_Pack.f 40 [2] [⟨#[49]⟩, ⟨#[45, 49]⟩] = some (8, [2], ⟨#[1, 255]⟩, 0) := by decide +kernel
theorem shown05_at : typed_Typed_At.f 40 8 [2] ⟨#[1, 255]⟩ 1 = some (-1, true) := by decide +kernel
theorem shown05_many : typed_Typed_Many.f 40 8 [2] ⟨#[1, 255]⟩ = some 2 := by decide +kernel
theorem shown05_may : typed_Typed_May.f 40 8 [2] ⟨#[1, 255]⟩ = some true := by decide +kernel
def reredoslaw05_shown.f : Option Bool := some true
set_option maxHeartbeats 2000000 in
theorem reredoslaw05_shown.calls (r : Bool) (w : World) (h : reredoslaw05_shown.f = some r) (hG : Glob w) : Calls Tryd.prog 9 #[] w fun e w' => e = .returned (.bool r) ∧ Below w.heap.size w w' := by
  obtain rfl := Option.some.inj h
  have hu25 := Tryd.underlying25
  have hu29 := Tryd.underlying29
  go_enter Tryd.func9, Tryd.ntmps9
  go_wp2_with fail
  obtain ⟨W0, hW0⟩ : ∃ W0, ((w.alloc (.cells #[.int .i64 2] 3)).alloc (.cells #[.string ⟨#[49]⟩, .string ⟨#[45, 49]⟩] 9)) = W0 := ⟨_, rfl⟩
  have hb0 : Below w.heap.size w W0 := by subst hW0; exact below_alloc (below_alloc (Below.refl _ _) _) _
  have hs0 : W0.heap.size = w.heap.size + 2 := by subst hW0; simp
  have hA : W0.heap[w.heap.size]? = some (.cells #[.int .i64 2] 3 (0, 0)) := by subst hW0; exact blk_alloc (by simpa using heap_alloc_new w _) _
  have hB : W0.heap[w.heap.size + 1]? = some (.cells #[.string ⟨#[49]⟩, .string ⟨#[45, 49]⟩] 9 (0, 0)) := by subst hW0; simpa using heap_alloc_new (w.alloc _) _
  rw [hW0]
  clear hW0
  refine (typed_Pack.calls 40 (some ⟨w.heap.size, 0, none⟩) 1 [2] (some ⟨w.heap.size + 1, 0, none⟩) 2 [⟨#[49]⟩, ⟨#[45, 49]⟩] 8 [2] ⟨#[1, 255]⟩ 0 W0 (row_lit (0 : Int) (by decide) hA) (by decide) (row_lit ByteArray.empty (by decide) hB) (by decide) shown05_pack (hG.below hb0)).mono ?_
  rintro e W1 ⟨v1, rfl, ho1, hb1⟩
  obtain ⟨A1, c1, rfl, hc1, hr1⟩ := Kd.R_reads ho1
  have hb01 := below_then hb0 hb0.size hb1
  have hs1 := hb1.size
  have HR1 := Aside0.mk hr1
  have HC1 := Aside0.mk hc1
  clear hA hB ho1 hr1 hc1 hb0 hb1
  go_wp2_with fail
  obtain ⟨W2, hW2⟩ : ∃ W2, W1.alloc (.cells #[.int .i64 8, .slice A1 1 c1, .string ⟨#[1, 255]⟩] 29) = W2 := ⟨_, rfl⟩
  have hb12 : Below W1.heap.size W1 W2 := by subst hW2; exact below_alloc (Below.refl _ _) _
  have hT : W2.heap[W1.heap.size]? = some (.cells #[.int .i64 8, .slice A1 1 c1, .string ⟨#[1, 255]⟩] 29 (0, 0)) := by subst hW2; simpa using heap_alloc_new W1 _
  rw [hW2]
  clear hW2
  have hb02 := below_then hb01 hb01.size hb12
  have HR2 := Aside0.mk (Kd.C_below HR1.out hb12)
  clear HR1
  refine (typed_Typed_At.calls 40 8 A1 c1 [2] ⟨#[1, 255]⟩ 1 (-1) true W2 HR2.out HC1.out shown05_at).mono ?_
  rintro e W3 ⟨rfl, hb3⟩
  have hT3 := (hb3.block _ (blk_lt hT)).trans hT
  have HR3 := Aside0.mk (Kd.C_below HR2.out hb3)
  have hb03 := below_then hb02 hb02.size hb3
  have t0 := blk_cell hT3 0
  have t1 := blk_cell hT3 1
  have t2 := blk_cell hT3 2
  clear HR2 hT hb3
  have HT3 := Aside0.mk hT3
  clear hT3
  go_wp2_with fail
  refine (typed_Typed_Many.calls 40 8 A1 c1 [2] ⟨#[1, 255]⟩ 2 W3 HR3.out HC1.out shown05_many).mono ?_
  rintro e W4 ⟨rfl, hb4⟩
  have hT4 := (hb4.block _ (blk_lt HT3.out)).trans HT3.out
  have HR4 := Aside0.mk (Kd.C_below HR3.out hb4)
  have hb04 := below_then hb03 hb03.size hb4
  clear HT3 HR3 hb4 t0 t1 t2
  have t0 := blk_cell hT4 0
  have t1 := blk_cell hT4 1
  have t2 := blk_cell hT4 2
  clear hT4
  go_wp2_with fail
  refine (typed_Typed_May.calls 40 8 A1 c1 [2] ⟨#[1, 255]⟩ true W4 HR4.out HC1.out shown05_may).mono ?_
  rintro e W5 ⟨rfl, hb5⟩
  have hb05 := below_then hb04 hb04.size hb5
  clear t0 t1 t2
  go_wp2_with fail
  go_ret
  exact ⟨rfl, hb05⟩
/-! ### reredosref03_Same: function 42 -/
def reredosref03_Same.l0 : Nat → List Int → List Int → Int → Option (Bool)
  | 0, _, _, _ => none
  | k + 1, x0, x1, x5 => if x5 < (x0.length : Int) then (if 0 ≤ x5 then (if x5 < (x1.length : Int) then (if (rd x0 x5) = (rd x1 x5) then (reredosref03_Same.l0 k x0 x1 (wrap64 (x5 + 1))) else (some false)) else (none)) else (none)) else (some true)
def reredosref03_Same.f (k : Nat) (l0 : List Int) (l1 : List Int) : Option (Bool) := if (l0.length : Int) = (l1.length : Int) then (reredosref03_Same.l0 k l0 l1 0) else (some false)
set_option maxHeartbeats 8000000 in
set_option maxRecDepth 100000 in
theorem reredosref03_Same.calls (k : Nat) (A0 : Option Addr) (c0 : Nat) (l0 : List Int) (A1 : Option Addr) (c1 : Nat) (l1 : List Int) (r : Bool) (w : World) (hr0 : Kd.C (Kd.int .i64) w A0 l0.length l0) (hc0 : l0.length ≤ c0) (hr1 : Kd.C (Kd.int .i64) w A1 l1.length l1) (hc1 : l1.length ≤ c1) (h : reredosref03_Same.f k l0 l1 = some r) :
    Calls Tryd.prog 42 #[.slice A0 l0.length c0, .slice A1 l1.length c1] w fun e w' => e = .returned (.bool r) ∧ Drawn0 w w' := by
  have HR0 := Aside0.mk hr0
  have HC0 := Aside0.mk hc0
  clear hr0 hc0
  have HR1 := Aside0.mk hr1
  have HC1 := Aside0.mk hc1
  clear hr1 hc1
  have H : (if (l0.length : Int) = (l1.length : Int) then (reredosref03_Same.l0 k l0 l1 0) else (some false)) = some r := h
  clear h
  by_cases c3 : (l0.length : Int) = (l1.length : Int)
  · rw [if_pos c3] at H
    have c3b0 : ((l0.length : Int) == (l1.length : Int)) = true := beq_iff_eq.mpr c3
    have c3b1 : ((l0.length : Int) != (l1.length : Int)) = false := bne_eq_false_iff_eq.mpr c3
    have c3b2 : (l0.length == l1.length) = true := by first | simpa using c3 | (simp at c3 ⊢; omega)
    clear c3
    have H' := Aside0.mk H
    clear H
    go_enter Tryd.func42, Tryd.ntmps42
    go_wp2
    repeat (go_quiet (fail); try go_wp2)
    go_loopg [5] k (fun kq v5 w' => ∃ (x5_1 : Int), v5 = .int .i64 x5_1 ∧ Aside0 (reredosref03_Same.l0 kq l0 l1 x5_1 = some r) ∧ Aside0 (kq ≤ k) ∧ Drawn0 w w')
    case atStart => exact ⟨(0), Rf_, H', ⟨Nat.le_refl _⟩, Dw_⟩
    case round =>
      clear H'
      try clear c1
      try clear p2
      try clear c3
      try clear c3b0
      try clear c3b1
      try clear c3b2
      obtain ⟨x5_1, rfl, HA, HK1, ⟨m1, rfl⟩⟩ := hrel
      cases gk with
      | zero => exact absurd HA.out (by simp [reredosref03_Same.l0])
      | succ k1 =>
        have H := HA.out
        clear HA
        simp only [reredosref03_Same.l0] at H
        by_cases c4 : x5_1 < (l0.length : Int)
        · rw [if_pos c4] at H
          have c4b0 : decide (x5_1 < (l0.length : Int)) = true := decide_eq_true c4
          clear c4
          by_cases c5 : 0 ≤ x5_1
          · rw [if_pos c5] at H
            have c5b0 : decide (0 ≤ x5_1) = true := decide_eq_true c5
            clear c5
            by_cases c6 : x5_1 < (l1.length : Int)
            · rw [if_pos c6] at H
              have c6b0 : decide (x5_1 < (l1.length : Int)) = true := decide_eq_true c6
              clear c6
              by_cases c7 : (rd l0 x5_1) = (rd l1 x5_1)
              · rw [if_pos c7] at H
                have c7b0 : ((rd l0 x5_1) == (rd l1 x5_1)) = true := beq_iff_eq.mpr c7
                have c7b1 : ((rd l0 x5_1) != (rd l1 x5_1)) = false := bne_eq_false_iff_eq.mpr c7
                clear c7
                have H' := Aside0.mk H
                clear H
                have p304 : 0 ≤ (x5_1 : Int) := of_decide_eq_true As_
                have q304 : x5_1 < (l0.length : Int) := of_decide_eq_true As_
                obtain ⟨ad304, e304, hx304_0⟩ := Kd.at_int HR0.out x5_1 p304 q304
                cases e304
                replace p304 := eq_true p304
                replace q304 := eq_true q304
                have p305 : 0 ≤ (x5_1 : Int) := of_decide_eq_true As_
                have q305 : x5_1 < (l1.length : Int) := of_decide_eq_true As_
                obtain ⟨ad305, e305, hx305_0⟩ := Kd.at_int HR1.out x5_1 p305 q305
                cases e305
                replace p305 := eq_true p305
                replace q305 := eq_true q305
                go_wp2
                repeat (go_quiet (fail); try go_wp2)
                go_roundg k1
                case measure => have := HK1.out; omega
                case rel => exact ⟨(wrap64 (x5_1 + 1)), Rf_, H', ⟨by have := HK1.out; omega⟩, Dw_⟩
              · rw [if_neg c7] at H
                have c7b0 : ((rd l0 x5_1) == (rd l1 x5_1)) = false := beq_eq_false_iff_ne.mpr c7
                have c7b1 : ((rd l0 x5_1) != (rd l1 x5_1)) = true := bne_iff_ne.mpr c7
                obtain rfl := Option.some.inj H
                have p304 : 0 ≤ (x5_1 : Int) := of_decide_eq_true As_
                have q304 : x5_1 < (l0.length : Int) := of_decide_eq_true As_
                obtain ⟨ad304, e304, hx304_0⟩ := Kd.at_int HR0.out x5_1 p304 q304
                cases e304
                replace p304 := eq_true p304
                replace q304 := eq_true q304
                have p305 : 0 ≤ (x5_1 : Int) := of_decide_eq_true As_
                have q305 : x5_1 < (l1.length : Int) := of_decide_eq_true As_
                obtain ⟨ad305, e305, hx305_0⟩ := Kd.at_int HR1.out x5_1 p305 q305
                cases e305
                replace p305 := eq_true p305
                replace q305 := eq_true q305
                go_wp2
                repeat (go_quiet (fail); try go_wp2)
                go_ret
                exact ⟨Rf_, Dw_⟩
            · rw [if_neg c6] at H
              exact absurd H (by simp)
          · rw [if_neg c5] at H
            exact absurd H (by simp)
        · rw [if_neg c4] at H
          have c4b0 : decide (x5_1 < (l0.length : Int)) = false := decide_eq_false c4
          clear c4
          obtain rfl := Option.some.inj H
          go_wp2
          repeat (go_quiet (fail); try go_wp2)
          go_ret
          exact ⟨Rf_, Dw_⟩
  · rw [if_neg c3] at H
    have c3b0 : ((l0.length : Int) == (l1.length : Int)) = false := beq_eq_false_iff_ne.mpr c3
    have c3b1 : ((l0.length : Int) != (l1.length : Int)) = true := bne_iff_ne.mpr c3
    have c3b2 : (l0.length == l1.length) = false := by first | simpa using c3 | (simp at c3 ⊢; omega)
    obtain rfl := Option.some.inj H
    go_enter Tryd.func42, Tryd.ntmps42
    go_wp2
    repeat (go_quiet (fail); try go_wp2)
    go_ret
    exact ⟨Rf_, Dw_⟩
/-! ### reredoslaw05_same: function 13 -/
def reredoslaw05_same.f (k : Nat) (a0_0 : Int) (l0_1 : List Int) (a0_2 : ByteArray) (a1_0 : Int) (l1_1 : List Int) (a1_2 : ByteArray) : Option (Bool) := if a0_0 = a1_0 then ((reredosref03_Same.f k l0_1 l1_1).bind fun t308 => (if t308 = true then (some (a0_2.toList == a1_2.toList)) else (some false))) else (some false)
set_option maxHeartbeats 8000000 in
set_option maxRecDepth 100000 in
theorem reredoslaw05_same.calls (k : Nat) (a0_0 : Int) (A0_1 : Option Addr) (c0_1 : Nat) (l0_1 : List Int) (a0_2 : ByteArray) (a1_0 : Int) (A1_1 : Option Addr) (c1_1 : Nat) (l1_1 : List Int) (a1_2 : ByteArray) (r : Bool) (w : World) (hr0_1 : Kd.C (Kd.int .i64) w A0_1 l0_1.length l0_1) (hc0_1 : l0_1.length ≤ c0_1) (hr1_1 : Kd.C (Kd.int .i64) w A1_1 l1_1.length l1_1) (hc1_1 : l1_1.length ≤ c1_1) (h : reredoslaw05_same.f k a0_0 l0_1 a0_2 a1_0 l1_1 a1_2 = some r) :
    Calls Tryd.prog 13 #[.agg #[.int .i64 a0_0, .slice A0_1 l0_1.length c0_1, .string a0_2], .agg #[.int .i64 a1_0, .slice A1_1 l1_1.length c1_1, .string a1_2]] w fun e w' => e = .returned (.bool r) ∧ Below w.heap.size w w' := by
  have hu29 := Tryd.underlying29
  have hu33 := Tryd.underlying33
  have HR0_1 := Aside0.mk hr0_1
  have HC0_1 := Aside0.mk hc0_1
  clear hr0_1 hc0_1
  have HR1_1 := Aside0.mk hr1_1
  have HC1_1 := Aside0.mk hc1_1
  clear hr1_1 hc1_1
  have HB := Aside0.mk (Below.refl w.heap.size w)
  have H : (if a0_0 = a1_0 then ((reredosref03_Same.f k l0_1 l1_1).bind fun t308 => (if t308 = true then (some (a0_2.toList == a1_2.toList)) else (some false))) else (some false)) = some r := h
  clear h
  by_cases c3 : a0_0 = a1_0
  · rw [if_pos c3] at H
    have c3b0 : (a0_0 == a1_0) = true := beq_iff_eq.mpr c3
    have c3b1 : (a0_0 != a1_0) = false := bne_eq_false_iff_eq.mpr c3
    clear c3
    obtain ⟨t308, A4, H⟩ := bnd_ H
    try dsimp -simprocs only at H
    by_cases c5 : t308 = true
    · subst c5
      have H1 : (some (a0_2.toList == a1_2.toList)) = some r := by rw [if_pos rfl] at H; exact H
      clear H
      have H := H1
      clear H1
      obtain rfl := Option.some.inj H
      go_enter Tryd.func13, Tryd.ntmps13
      go_wp2_with (first | ((with_reducible refine gate_dst (N := 2) rfl ?_); refine bx_ 2 #[.int .i64 a0_0, .slice A0_1 l0_1.length c0_1, .string a0_2] 29 ?_; intro gb306 hg w6 hbox hb; have BK306 := Aside0.mk (hbox); have GW306 := (Bg_ hg : Aside0 (w.heap.size ≤ gb306)); have GE306 := (Bg_ hg : Aside0 (w.heap.size ≤ gb306)); replace HB := Bs_ hb; clear hb hbox hg) | ((with_reducible refine gate_dst (N := 3) rfl ?_); refine bx_ 3 #[.int .i64 a1_0, .slice A1_1 l1_1.length c1_1, .string a1_2] 33 ?_; intro gb307 hg w7 hbox hb; have BK307 := Aside0.mk (hbox); have GW307 := (Bg_ hg : Aside0 (w.heap.size ≤ gb307)); have GE307 := (Bg_ hg : Aside0 (w.heap.size ≤ gb307)); replace HB := Bs_ hb; have NB306_307 := nl_ hg BK306; have NB307_306 := ng_ hg BK306; replace BK306 := kb_ BK306 hb; clear hb hbox hg; have hnb8 := NB306_307.out; have hnc8 := NB307_306.out; obtain ⟨hcz9_0, hcz9_1, hcz9_2⟩ := c3_ BK306; obtain ⟨hfz9_0, hfz9_1, hfz9_2⟩ := f3_ BK306; obtain ⟨hcz10_0, hcz10_1, hcz10_2⟩ := c3_ BK307; obtain ⟨hfz10_0, hfz10_1, hfz10_2⟩ := f3_ BK307) | (go_at_call 42; (with_reducible refine (reredosref03_Same.calls k _ _ l0_1 _ _ l1_1 true _ ?side1 ?side2 ?side3 ?side4 A4.out).mono ?_); (case side1 => exact Pc_ (Kd.C_below HR0_1.out HB.out)); (case side2 => exact HC0_1.out); (case side3 => exact Pc_ (Kd.C_below HR1_1.out HB.out)); (case side4 => exact HC1_1.out); rintro e w' ⟨rfl, ⟨nd, rfl⟩⟩))
      go_ret
      exact ⟨Re_, Bl_⟩
    · replace c5 := Bool.eq_false_iff.mpr c5
      subst c5
      have H1 : (some false) = some r := by rw [if_neg (show ¬ (false = true) by decide)] at H; exact H
      clear H
      have H := H1
      clear H1
      obtain rfl := Option.some.inj H
      go_enter Tryd.func13, Tryd.ntmps13
      go_wp2_with (first | ((with_reducible refine gate_dst (N := 2) rfl ?_); refine bx_ 2 #[.int .i64 a0_0, .slice A0_1 l0_1.length c0_1, .string a0_2] 29 ?_; intro gb306 hg w11 hbox hb; have BK306 := Aside0.mk (hbox); have GW306 := (Bg_ hg : Aside0 (w.heap.size ≤ gb306)); have GE306 := (Bg_ hg : Aside0 (w.heap.size ≤ gb306)); replace HB := Bs_ hb; clear hb hbox hg) | ((with_reducible refine gate_dst (N := 3) rfl ?_); refine bx_ 3 #[.int .i64 a1_0, .slice A1_1 l1_1.length c1_1, .string a1_2] 33 ?_; intro gb307 hg w12 hbox hb; have BK307 := Aside0.mk (hbox); have GW307 := (Bg_ hg : Aside0 (w.heap.size ≤ gb307)); have GE307 := (Bg_ hg : Aside0 (w.heap.size ≤ gb307)); replace HB := Bs_ hb; have NB306_307 := nl_ hg BK306; have NB307_306 := ng_ hg BK306; replace BK306 := kb_ BK306 hb; clear hb hbox hg; have hnb13 := NB306_307.out; have hnc13 := NB307_306.out; obtain ⟨hcz14_0, hcz14_1, hcz14_2⟩ := c3_ BK306; obtain ⟨hfz14_0, hfz14_1, hfz14_2⟩ := f3_ BK306; obtain ⟨hcz15_0, hcz15_1, hcz15_2⟩ := c3_ BK307; obtain ⟨hfz15_0, hfz15_1, hfz15_2⟩ := f3_ BK307) | (go_at_call 42; (with_reducible refine (reredosref03_Same.calls k _ _ l0_1 _ _ l1_1 false _ ?side1 ?side2 ?side3 ?side4 A4.out).mono ?_); (case side1 => exact Pc_ (Kd.C_below HR0_1.out HB.out)); (case side2 => exact HC0_1.out); (case side3 => exact Pc_ (Kd.C_below HR1_1.out HB.out)); (case side4 => exact HC1_1.out); rintro e w' ⟨rfl, ⟨nd, rfl⟩⟩))
      go_ret
      exact ⟨Re_, Bl_⟩
  · rw [if_neg c3] at H
    have c3b0 : (a0_0 == a1_0) = false := beq_eq_false_iff_ne.mpr c3
    have c3b1 : (a0_0 != a1_0) = true := bne_iff_ne.mpr c3
    obtain rfl := Option.some.inj H
    go_enter Tryd.func13, Tryd.ntmps13
    go_wp2_with (first | ((with_reducible refine gate_dst (N := 2) rfl ?_); refine bx_ 2 #[.int .i64 a0_0, .slice A0_1 l0_1.length c0_1, .string a0_2] 29 ?_; intro gb306 hg w16 hbox hb; have BK306 := Aside0.mk (hbox); have GW306 := (Bg_ hg : Aside0 (w.heap.size ≤ gb306)); have GE306 := (Bg_ hg : Aside0 (w.heap.size ≤ gb306)); replace HB := Bs_ hb; clear hb hbox hg) | ((with_reducible refine gate_dst (N := 3) rfl ?_); refine bx_ 3 #[.int .i64 a1_0, .slice A1_1 l1_1.length c1_1, .string a1_2] 33 ?_; intro gb307 hg w17 hbox hb; have BK307 := Aside0.mk (hbox); have GW307 := (Bg_ hg : Aside0 (w.heap.size ≤ gb307)); have GE307 := (Bg_ hg : Aside0 (w.heap.size ≤ gb307)); replace HB := Bs_ hb; have NB306_307 := nl_ hg BK306; have NB307_306 := ng_ hg BK306; replace BK306 := kb_ BK306 hb; clear hb hbox hg; have hnb18 := NB306_307.out; have hnc18 := NB307_306.out; obtain ⟨hcz19_0, hcz19_1, hcz19_2⟩ := c3_ BK306; obtain ⟨hfz19_0, hfz19_1, hfz19_2⟩ := f3_ BK306; obtain ⟨hcz20_0, hcz20_1, hcz20_2⟩ := c3_ BK307; obtain ⟨hfz20_0, hfz20_1, hfz20_2⟩ := f3_ BK307))
    go_ret
    exact ⟨Re_, Bl_⟩
/-! ### reredoslaw05_few: function 14 -/
def reredoslaw05_few.f (a0_0 : Int) (l0_1 : List Int) (a0_2 : ByteArray) : Option (Bool) := if (a0_2.size : Int) ≤ 2400 then (some (decide ((l0_1.length : Int) ≤ 20))) else (some false)
set_option maxHeartbeats 8000000 in
set_option maxRecDepth 100000 in
theorem reredoslaw05_few.calls (a0_0 : Int) (A0_1 : Option Addr) (c0_1 : Nat) (l0_1 : List Int) (a0_2 : ByteArray) (r : Bool) (w : World) (hr0_1 : Kd.C (Kd.int .i64) w A0_1 l0_1.length l0_1) (hc0_1 : l0_1.length ≤ c0_1) (h : reredoslaw05_few.f a0_0 l0_1 a0_2 = some r) :
    Calls Tryd.prog 14 #[.agg #[.int .i64 a0_0, .slice A0_1 l0_1.length c0_1, .string a0_2]] w fun e w' => e = .returned (.bool r) ∧ Below w.heap.size w w' := by
  have hu33 := Tryd.underlying33
  have HR0_1 := Aside0.mk hr0_1
  have HC0_1 := Aside0.mk hc0_1
  clear hr0_1 hc0_1
  have HB := Aside0.mk (Below.refl w.heap.size w)
  have H : (if (a0_2.size : Int) ≤ 2400 then (some (decide ((l0_1.length : Int) ≤ 20))) else (some false)) = some r := h
  clear h
  by_cases c2 : (a0_2.size : Int) ≤ 2400
  · rw [if_pos c2] at H
    have c2b0 : decide ((a0_2.size : Int) ≤ 2400) = true := decide_eq_true c2
    have c2b1 : decide (a0_2.size ≤ 2400) = true := decide_eq_true (by omega)
    clear c2
    obtain rfl := Option.some.inj H
    go_enter Tryd.func14, Tryd.ntmps14
    go_wp2_with (first | ((with_reducible refine gate_dst (N := 1) rfl ?_); (try (refine gate_guard (by rfl) ?_; dsimp only)); refine bx_ 1 #[.int .i64 a0_0, .slice A0_1 l0_1.length c0_1, .string a0_2] 33 ?_; intro gb327 hg w3 hbox hb; have BK327 := Aside0.mk (hbox); have GW327 := (Bg_ hg : Aside0 (w.heap.size ≤ gb327)); have GE327 := (Bg_ hg : Aside0 (w.heap.size ≤ gb327)); replace HB := Bs_ hb; clear hb hbox hg; obtain ⟨hcz4_0, hcz4_1, hcz4_2⟩ := c3_ BK327; obtain ⟨hfz4_0, hfz4_1, hfz4_2⟩ := f3_ BK327))
    go_ret
    exact ⟨Re_, Bl_⟩
  · rw [if_neg c2] at H
    have c2b0 : decide ((a0_2.size : Int) ≤ 2400) = false := decide_eq_false c2
    have c2b1 : decide (a0_2.size ≤ 2400) = false := decide_eq_false (by omega)
    clear c2
    obtain rfl := Option.some.inj H
    go_enter Tryd.func14, Tryd.ntmps14
    go_wp2_with (first | ((with_reducible refine gate_dst (N := 1) rfl ?_); (try (refine gate_guard (by rfl) ?_; dsimp only)); refine bx_ 1 #[.int .i64 a0_0, .slice A0_1 l0_1.length c0_1, .string a0_2] 33 ?_; intro gb327 hg w5 hbox hb; have BK327 := Aside0.mk (hbox); have GW327 := (Bg_ hg : Aside0 (w.heap.size ≤ gb327)); have GE327 := (Bg_ hg : Aside0 (w.heap.size ≤ gb327)); replace HB := Bs_ hb; clear hb hbox hg; obtain ⟨hcz6_0, hcz6_1, hcz6_2⟩ := c3_ BK327; obtain ⟨hfz6_0, hfz6_1, hfz6_2⟩ := f3_ BK327))
    go_ret
    exact ⟨Re_, Bl_⟩
/-! ### reredoslaw05_made: function 15 -/
def reredoslaw05_made.f (a0_0 : Int) (l0_1 : List Int) (a0_2 : ByteArray) : Option (Int × List Int × ByteArray) := some (a0_0, l0_1, a0_2)
set_option maxHeartbeats 8000000 in
set_option maxRecDepth 100000 in
theorem reredoslaw05_made.calls (a0_0 : Int) (P0_1_ : Nat → Prop) (A0_1 : Option Addr) (c0_1 : Nat) (l0_1 : List Int) (a0_2 : ByteArray) (r1 : Int) (r2 : List Int) (r3 : ByteArray) (w : World) (hs0_1 : Kd.V (Kd.int .i64) 3 w w.heap.size (fun k_ => P0_1_ k_) (.slice A0_1 l0_1.length c0_1) l0_1) (h : reredoslaw05_made.f a0_0 l0_1 a0_2 = some (r1, r2, r3)) :
    Calls Tryd.prog 15 #[.agg #[.int .i64 a0_0, .slice A0_1 l0_1.length c0_1, .string a0_2]] w fun e w' => ∃ v1_ : Value, e = .returned (.agg #[.int .i64 r1, v1_, .string r3]) ∧ Kd.V (Kd.int .i64) 3 w' w.heap.size (fun k_ => (P0_1_ k_ ∨ w.heap.size ≤ k_)) v1_ r2 ∧ Below w.heap.size w w' := by
  have hu33 := Tryd.underlying33
  have hu29 := Tryd.underlying29
  have HO0_1 := Aside0.mk (show Kd.V (Kd.int .i64) 3 w w.heap.size (fun k_ => (P0_1_ k_ ∨ w.heap.size ≤ k_)) (.slice A0_1 l0_1.length c0_1) l0_1 from Kd.V_mono hs0_1 (fun k_ hk => .inl hk))
  have HB := Aside0.mk (Below.refl w.heap.size w)
  have H : (some (a0_0, l0_1, a0_2)) = some (r1, r2, r3) := h
  clear h
  simp only [Option.some.injEq, Prod.mk.injEq] at H
  obtain ⟨rfl, rfl, rfl⟩ := H
  go_enter Tryd.func15, Tryd.ntmps15
  go_wp2_with (first | ((with_reducible refine gate_dst (N := 1) rfl ?_); refine bx_ 1 #[.int .i64 a0_0, .slice A0_1 l0_1.length c0_1, .string a0_2] 33 ?_; intro gb328 hg w2 hbox hb; replace HO0_1 := Aside0.mk (Kd.V_below (Kd.V_elderB (Pv_ HO0_1.out) gb328 (Nat.le_of_eq hg.symm)) hb); have BK328 := Aside0.mk (hbox); have GW328 := (Bg_ hg : Aside0 (w.heap.size ≤ gb328)); have GE328 := (Bg_ hg : Aside0 (w.heap.size ≤ gb328)); replace HB := Bs_ hb; clear hb hbox hg) | ((with_reducible refine gate_dst (N := 2) rfl ?_); refine bx_ 2 #[.int .i64 0, .slice none 0 0, .string (⟨#[]⟩ : ByteArray)] 29 ?_; intro gb329 hg w3 hbox hb; replace HO0_1 := Aside0.mk (Kd.V_below (Kd.V_elderB (Pv_ HO0_1.out) gb329 (Nat.le_of_eq hg.symm)) hb); have BK329 := Aside0.mk (hbox); have GW329 := (Bg_ hg : Aside0 (w.heap.size ≤ gb329)); have GE329 := (Bg_ hg : Aside0 (w.heap.size ≤ gb329)); replace HB := Bs_ hb; have NB328_329 := nl_ hg BK328; have NB329_328 := ng_ hg BK328; replace BK328 := kb_ BK328 hb; clear hb hbox hg; have hnb4 := NB328_329.out; have hnc4 := NB329_328.out; obtain ⟨hcz5_0, hcz5_1, hcz5_2⟩ := c3_ BK328; obtain ⟨hfz5_0, hfz5_1, hfz5_2⟩ := f3_ BK328; obtain ⟨hcz6_0, hcz6_1, hcz6_2⟩ := c3_ BK329; obtain ⟨hfz6_0, hfz6_1, hfz6_2⟩ := f3_ BK329))
  refine bodyPost_ret (results_cell_row rfl _ _ gb329 29 #[.int .i64 a0_0, .slice A0_1 l0_1.length c0_1, .string a0_2] (0, 0) _ rfl (by (with_reducible repeat (first | refine blk_drewN ?_ _ | refine blk_drew ?_ | refine blk_alloc ?_ _)); refine blk_put (cs := #[.int .i64 a0_0, .slice A0_1 l0_1.length c0_1, .string (⟨#[]⟩ : ByteArray)]) ?_ 2 _ rfl; (with_reducible repeat (first | refine blk_drewN ?_ _ | refine blk_drew ?_ | refine blk_alloc ?_ _)); refine blk_put (cs := #[.int .i64 a0_0, .slice none 0 0, .string (⟨#[]⟩ : ByteArray)]) ?_ 1 _ rfl; (with_reducible repeat (first | refine blk_drewN ?_ _ | refine blk_drew ?_ | refine blk_alloc ?_ _)); refine blk_put (cs := #[.int .i64 0, .slice none 0 0, .string (⟨#[]⟩ : ByteArray)]) ?_ 0 _ rfl; (with_reducible repeat (first | refine blk_drewN ?_ _ | refine blk_drew ?_ | refine blk_alloc ?_ _)); exact BK329.out) Tryd.underlying29 rfl (by kernel_rfl)) rfl ?_
  exact ⟨_, Re_, by (with_reducible repeat (first | apply Kd.V_alloc | apply Kd.V_drewN | apply Kd.V_drew)); exact Kd.V_mono (Kd.V_far (p := ⟨gb329, 2, none⟩) (Kd.V_far (p := ⟨gb329, 1, none⟩) (Kd.V_far (p := ⟨gb329, 0, none⟩) (Kd.V_mono HO0_1.out (fun k_ hk => (⟨hk, hk.2⟩ : _ ∧ k_ ≠ gb329))) (fun _ hk => hk.2) (.int .i64 a0_0)) (fun _ hk => hk.2) (.slice A0_1 l0_1.length c0_1)) (fun _ hk => hk.2) (.string a0_2)) (fun _ hk => hk.1.1.1), Bl_⟩
/-! ### typed_Typed_all: function 43 -/
def typed_Typed_all.l0 : Nat → List Int → Int → Int → Int → List Int → ByteArray → Option (List Int)
  | 0, _, _, _, _, _, _ => none
  | k + 1, x3, x8, x9, x331000, x331001, x331002 => if x9 < x8 then ((typed_Typed_At.f k x331000 x331001 x331002 x9).bind fun bt332 => (if x3.length < 17592186044416 then (typed_Typed_all.l0 k (x3 ++ [bt332.1]) x8 (wrap64 (x9 + 1)) x331000 x331001 x331002) else (none))) else (some x3)
def typed_Typed_all.f (k : Nat) (a0_0 : Int) (l0_1 : List Int) (a0_2 : ByteArray) : Option (List Int) := (typed_Typed_Many.f k a0_0 l0_1 a0_2).bind fun t331 => (typed_Typed_all.l0 k ([] : List Int) t331 0 a0_0 l0_1 a0_2)
set_option maxHeartbeats 8000000 in
set_option maxRecDepth 100000 in
theorem typed_Typed_all.calls (k : Nat) (a0_0 : Int) (A0_1 : Option Addr) (c0_1 : Nat) (l0_1 : List Int) (a0_2 : ByteArray) (r : List Int) (w : World) (hr0_1 : Kd.C (Kd.int .i64) w A0_1 l0_1.length l0_1) (hc0_1 : l0_1.length ≤ c0_1) (h : typed_Typed_all.f k a0_0 l0_1 a0_2 = some r) :
    Calls Tryd.prog 43 #[.agg #[.int .i64 a0_0, .slice A0_1 l0_1.length c0_1, .string a0_2]] w fun e w' => ∃ v0_ : Value, e = .returned (v0_) ∧ Kd.R (Kd.int .i64) 2 w' w.heap.size (fun _ => True) v0_ r ∧ Below w.heap.size w w' := by
  have hu29 := Tryd.underlying29
  have HR0_1 := Aside0.mk hr0_1
  have HC0_1 := Aside0.mk hc0_1
  clear hr0_1 hc0_1
  have HB := Aside0.mk (Below.refl w.heap.size w)
  have H : ((typed_Typed_Many.f k a0_0 l0_1 a0_2).bind fun t331 => (typed_Typed_all.l0 k ([] : List Int) t331 0 a0_0 l0_1 a0_2)) = some r := h
  clear h
  obtain ⟨t331, A2, H⟩ := bnd_ H
  try dsimp -simprocs only at H
  have H' := Aside0.mk H
  clear H
  go_enter Tryd.func43, Tryd.ntmps43
  go_wp2_with (first | ((with_reducible refine gate_dst (N := 1) rfl ?_); refine bx_ 1 #[.int .i64 a0_0, .slice A0_1 l0_1.length c0_1, .string a0_2] 29 ?_; intro gb330 hg w3 hbox hb; have BK330 := Aside0.mk (hbox); have GW330 := (Bg_ hg : Aside0 (w.heap.size ≤ gb330)); have GE330 := (Bg_ hg : Aside0 (w.heap.size ≤ gb330)); replace HB := Bs_ hb; clear hb hbox hg; obtain ⟨hcz4_0, hcz4_1, hcz4_2⟩ := c3_ BK330; obtain ⟨hfz4_0, hfz4_1, hfz4_2⟩ := f3_ BK330) | ((with_reducible refine gate_callee (f := 17) rfl ?_); refine goesL_ (some 8) rfl rfl Tryd.func17 (by kernel_rfl) rfl #[.agg #[.int .i64 a0_0, .slice A0_1 l0_1.length c0_1, .string a0_2]] rfl Ga_ ?_; (with_reducible refine (typed_Typed_Many.calls k a0_0 _ _ l0_1 a0_2 t331 _ ?side1 ?side2 A2.out).mono ?_); (case side1 => exact Pc_ (Kd.C_below HR0_1.out HB.out)); (case side2 => exact HC0_1.out); rintro e w5 ⟨rfl, hb⟩; refine ⟨_, rfl, ?_⟩; replace BK330 := kb_ BK330 hb; replace HB := Bs_ hb; (try clear hb); (try clear hb2); (try clear hk); (try clear hi)))
  go_loopg [3, 9] k (fun kq v3 v9 w' => ∃ (x3_1 : List Int) (x9_1 : Int), v9 = .int .i64 x9_1 ∧ Aside0 (typed_Typed_all.l0 kq x3_1 t331 x9_1 a0_0 l0_1 a0_2 = some r) ∧ Aside0 (kq ≤ k) ∧ Aside0 (Kd.R (Kd.int .i64) 2 w' w.heap.size (fun _ => True) v3 x3_1) ∧ Aside0 (w'.heap[gb330]? = some (.cells #[.int .i64 a0_0, (.slice A0_1 l0_1.length c0_1), .string a0_2] 29 (0, 0))) ∧ Aside0 (Below w.heap.size w w'))
  case atStart => exact ⟨(([] : List Int)), (0), Rf_, H', ⟨Nat.le_refl _⟩, ⟨by first | exact Kd.R_nil _ _ _ _ _ | exact Kd.N_nil _ _ _ _ _ | exact Kd.V_nil _ _ _ _ _ | exact Kd.Q_nil _ _ _ _ _ | exact Kd.S_nil _ _ _ _ _⟩, ⟨by (with_reducible repeat (first | refine blk_drewN ?_ _ | refine blk_drew ?_ | refine blk_alloc ?_ _)); exact BK330.out⟩, ⟨Bl_⟩⟩
  case round =>
    clear H'
    try clear c1
    try clear p2
    try clear c4
    try clear hcz4_0
    try clear hcz4_1
    try clear hcz4_2
    try clear hfz4_0
    try clear hfz4_1
    try clear hfz4_2
    obtain ⟨x3_1, x9_1, rfl, HA, HK1, HO_3, BK330, HB⟩ := hrel
    cases gk with
    | zero => exact absurd HA.out (by simp [typed_Typed_all.l0])
    | succ k1 =>
      have H := HA.out
      clear HA
      simp only [typed_Typed_all.l0] at H
      by_cases c6 : x9_1 < t331
      · rw [if_pos c6] at H
        have c6b0 : decide (x9_1 < t331) = true := decide_eq_true c6
        clear c6
        obtain ⟨⟨t332, t333⟩, A7, H⟩ := bnd_ H
        try dsimp -simprocs only at H
        by_cases c8 : x3_1.length < 17592186044416
        · rw [if_pos c8] at H
          have LMc8 := Aside0.mk c8
          clear c8
          obtain ⟨y334, hy334⟩ : ∃ y_ : List Int, y_ = (x3_1 ++ [t332]) := ⟨_, rfl⟩
          replace H : (typed_Typed_all.l0 k1 y334 t331 (wrap64 (x9_1 + 1)) a0_0 l0_1 a0_2) = some r := by first | (rw [hy334]; with_reducible exact H) | (have H2_ := (Option.bind_some _ _).symm.trans H; rw [hy334]; with_reducible exact H2_) | (have H2_ := (Option.bind_some _ _).symm.trans H; with_reducible exact H2_) | with_reducible exact H | (rw [hy334]; exact H) | exact H
          have Ny334 := Aside0.mk hy334
          clear hy334
          have H' := Aside0.mk H
          clear H
          obtain ⟨hcz9_0, hcz9_1, hcz9_2⟩ := c3_ BK330
          obtain ⟨hfz9_0, hfz9_1, hfz9_2⟩ := f3_ BK330
          go_wp2_with (first | ((with_reducible refine gate_callee (f := 19) rfl ?_); refine goesL_ (some 15) rfl rfl Tryd.func19 (by kernel_rfl) rfl #[.agg #[.int .i64 a0_0, .slice A0_1 l0_1.length c0_1, .string a0_2], .int .i64 x9_1] rfl Ga_ ?_; (with_reducible refine (typed_Typed_At.calls k1 a0_0 _ _ l0_1 a0_2 x9_1 t332 t333 _ ?side1 ?side2 A7.out).mono ?_); (case side1 => exact Pc_ (Kd.C_below HR0_1.out HB.out)); (case side2 => exact HC0_1.out); rintro e w10 ⟨rfl, hb⟩; refine ⟨_, rfl, ?_⟩; replace HO_3 := Aside0.mk (Kd.R_below (Pr_ HO_3.out) hb); replace BK330 := kb_ BK330 hb; replace HB := Bs_ hb; (try clear hb); (try clear hb2); (try clear hk); (try clear hi)) | ((with_reducible refine gate_builtin (b := .append) (xs := #[.tmp 18, .tmp 20]) rfl ?_); at_builtin; refine Kd.R_append (Kd.int .i64) (w0 := w) w.heap.size rfl (.tmp 18) (.tmp 20) 57 2 (.int .i64 0) 8 rfl Tryd.underlying57 info2 rfl (by decide) (by omega) u3 x3_1 t332 [.int .i64 t332] (fun _ => True) (fun _ => False) rfl rfl ?aP (fun _ hk => hk.elim) ?aF ?aO ?aB ?aS ?aL ?_; (case aP => exact rfl); (case aB => exact Bl_); (case aF => exact (fun _ _ => trivial)); (case aO => exact (Pr_ HO_3.out)); (case aS => exact Bz_); (case aL => have := LMc8.out; omega); intro v335 w11 ho hb hg hat; rw [← Ny334.out] at ho; replace BK330 := kg_ BK330 hg (Kd.R_ne HO_3.out BK330.out (by decide)); replace HB := Aside0.mk (hb); have HO336 := Aside0.mk (ho); clear HO_3; clear ho hb hg hat))
          go_roundg k1
          case measure => have := HK1.out; omega
          case rel => exact ⟨(y334), (wrap64 (x9_1 + 1)), Rf_, H', ⟨by have := HK1.out; omega⟩, ⟨by (with_reducible repeat (first | apply Kd.R_alloc | apply Kd.R_drewN | apply Kd.R_drew)); exact HO336.out⟩, ⟨by (with_reducible repeat (first | refine blk_drewN ?_ _ | refine blk_drew ?_ | refine blk_alloc ?_ _)); exact BK330.out⟩, ⟨Bl_⟩⟩
        · rw [if_neg c8] at H
          exact absurd H (by simp)
      · rw [if_neg c6] at H
        have c6b0 : decide (x9_1 < t331) = false := decide_eq_false c6
        clear c6
        obtain rfl := Option.some.inj H
        go_wp2
        go_ret
        exact ⟨_, Re_, by (with_reducible repeat (first | apply Kd.R_alloc | apply Kd.R_drewN | apply Kd.R_drew)); exact HO_3.out, Bl_⟩
/-! ### typed_Typed_To: function 16 -/
def fitsB (x w : Int) : Bool := if w = 8 then decide (-128 ≤ x ∧ x < 128) else if w = 16 then decide (-32768 ≤ x ∧ x < 32768) else if w = 32 then decide (-2147483648 ≤ x ∧ x < 2147483648) else true
def knownB (w : Int) : Bool := decide (w = 8 ∨ w = 16 ∨ w = 32 ∨ w = 64)
theorem fits_any (x w : Int) (h : knownB w = true) : width_Fits.f 2 x w = some (fitsB x w) := by
  unfold knownB at h
  rcases of_decide_eq_true h with rfl | rfl | rfl | rfl
  · exact fits_8 x
  · exact fits_16 x
  · exact fits_32 x
  · exact fits_64 x
theorem known_any (w : Int) : typed_known.f 6 w = some (knownB w) := by
  have e0 : rd ([8, 16, 32, 64] : List Int) 0 = 8 := rfl
  have e1 : rd ([8, 16, 32, 64] : List Int) 1 = 16 := rfl
  have e2 : rd ([8, 16, 32, 64] : List Int) 2 = 32 := rfl
  have e3 : rd ([8, 16, 32, 64] : List Int) 3 = 64 := rfl
  have s0 : wrap64 1 = 1 := by decide +kernel
  have s1 : wrap64 2 = 2 := by decide +kernel
  have s2 : wrap64 3 = 3 := by decide +kernel
  have s3 : wrap64 4 = 4 := by decide +kernel
  unfold typed_known.f slices_Contains_int_int.f slices_Index_int_int.f knownB
  by_cases h1 : w = 8
  · subst h1; simp [slices_Index_int_int.l0, e0]
  by_cases h2 : w = 16
  · subst h2; simp [slices_Index_int_int.l0, e0, e1, s0]
  by_cases h3 : w = 32
  · subst h3; simp [slices_Index_int_int.l0, e0, e1, e2, s0, s1]
  by_cases h4 : w = 64
  · subst h4; simp [slices_Index_int_int.l0, e0, e1, e2, e3, s0, s1, s2]
  simp [slices_Index_int_int.l0, e0, e1, e2, e3, s0, s1, s2, s3, h1, h2, h3, h4]
theorem typed_to_contains (gB : Nat) (a1 : Int) (hk : knownB a1 = true) (A0 : Option Addr) (c0 : Nat) (l0 : List Int) (w : World) (hr0 : Kd.C (Kd.int .i64) w A0 l0.length l0) (hg : w.heap[gB]? = some (.cells #[.int .i64 a1] 3 (0, 0))) :
    Calls Tryd.prog 44 #[.slice A0 l0.length c0, .func (.func 45) #[] #[.pointer (some ⟨gB, 0, none⟩)]] w fun e w' => e = .returned (.bool (l0.any fun x => !(fitsB x a1))) ∧ Below w.heap.size w w' := by
  have hempty : l0 = [] → Calls Tryd.prog 44 #[.slice A0 l0.length c0, .func (.func 45) #[] #[.pointer (some ⟨gB, 0, none⟩)]] w fun e w' => e = .returned (.bool (l0.any fun x => !(fitsB x a1))) ∧ Below w.heap.size w w' := by
    rintro rfl
    refine (Tryd.slices_ContainsFunc_empty_f44 (α := Int) A0 c0 _ w).mono ?_
    rintro e w' ⟨rfl, rfl⟩
    exact ⟨rfl, Below.refl _ _⟩
  rcases row_cases (enc := Value.int .i64) (h1 := fun _ => rfl) hr0 with ⟨_, h⟩ | ⟨_, _, h⟩ | ⟨b, off, rfl, h0, hc⟩
  · exact hempty h
  · exact hempty h
  · have hp : PredAt Tryd.prog 45 #[.pointer (some ⟨gB, 0, none⟩)] (Value.int .i64) (fun x => !(fitsB x a1)) w := by
      intro W x hb
      unfold FnGives
      have hgW := (hb.block gB (blk_lt hg)).trans hg
      have hcW : W.cell? ⟨gB, 0, none⟩ = some (.int .i64 a1) := (blk_cell hgW 0).trans rfl
      have HF := Aside0.mk (fits_any x a1 hk)
      clear hg hgW hk hc hr0 hempty
      go_enter Tryd.func45, Tryd.ntmps45
      go_wp2_with (go_at_call 46; refine (width_Fits.calls 2 x a1 _ _ HF.out).mono ?_; rintro e w1 ⟨rfl, ⟨nd, rfl⟩⟩)
      go_ret
      exact ⟨rfl, nd, rfl⟩
    refine (Tryd.slices_ContainsFunc_f44 (Value.int .i64) (fun x => !(fitsB x a1)) 45 _ (enters_of Tryd.func45 (by kernel_rfl) rfl) b off l0.length c0 l0 w hp (Nat.le_refl _) hr0.2.1 (fun j hj => ?_)).mono ?_
    · rw [hc j 0 hj, List.getD_eq_getElem?_getD, getElem!_def, List.getElem?_eq_getElem hj]
      rfl
    · rintro e w' ⟨rfl, q, rfl⟩
      exact ⟨by rw [List.take_length], pw_below_drewN (Below.refl _ _) q⟩
def typed_Typed_To.f (k : Nat) (a0_0 : Int) (l0_1 : List Int) (a0_2 : ByteArray) (a1 : Int) : Option (Int × List Int × ByteArray × Bool) :=
  (typed_Typed_all.f k a0_0 l0_1 a0_2).bind fun l => (typed_Typed_May.f k a0_0 l0_1 a0_2).bind fun m =>
    if m = true then (if knownB a1 = true then (if (l.any fun x => !(fitsB x a1)) = true then some (0, [], ⟨#[]⟩, false) else (typed_lay.f k l l0_1 a1).bind fun t => some (t.1, t.2.1, t.2.2, true)) else some (0, [], ⟨#[]⟩, false)) else some (0, [], ⟨#[]⟩, false)
set_option maxHeartbeats 2000000 in
set_option maxRecDepth 100000 in
theorem typed_Typed_To.calls (k : Nat) (a0_0 : Int) (A0_1 : Option Addr) (c0_1 : Nat) (l0_1 : List Int) (a0_2 : ByteArray) (a1 : Int) (r1 : Int) (r2 : List Int) (r3 : ByteArray) (r4 : Bool) (w : World) (hr0_1 : Kd.C (Kd.int .i64) w A0_1 l0_1.length l0_1) (hc0_1 : l0_1.length ≤ c0_1) (h : typed_Typed_To.f k a0_0 l0_1 a0_2 a1 = some (r1, r2, r3, r4)) :
    Calls Tryd.prog 16 #[.agg #[.int .i64 a0_0, .slice A0_1 l0_1.length c0_1, .string a0_2], .int .i64 a1] w fun e w' => ∃ v1_ : Value, e = .returned (.tuple #[.agg #[.int .i64 r1, v1_, .string r3], .bool r4]) ∧ Kd.R (Kd.int .i64) 3 w' w.heap.size (fun _ => True) v1_ r2 ∧ Below w.heap.size w w' := by
  obtain ⟨l, hl, h⟩ := Option.bind_eq_some_iff.mp h
  obtain ⟨m, hm, h⟩ := Option.bind_eq_some_iff.mp h
  have HL := Aside0.mk hl
  have HM := Aside0.mk hm
  clear hl hm
  have HK := Aside0.mk (known_any a1)
  have HR := Aside0.mk hr0_1
  clear hr0_1
  have hu29 := Tryd.underlying29
  go_enter Tryd.func16, Tryd.ntmps16
  go_wp2_with fail
  obtain ⟨W0, hW0⟩ : ∃ W0, ((w.alloc (.cells #[.int .i64 a0_0, .slice A0_1 l0_1.length c0_1, .string a0_2] 29)).alloc (.cells #[.int .i64 a1] 3)).alloc (.cells #[.int .i64 0, .slice none 0 0, .string ⟨#[]⟩] 29) = W0 := ⟨_, rfl⟩
  have hb0 : Below w.heap.size w W0 := by subst hW0; exact below_alloc (below_alloc (below_alloc (Below.refl _ _) _) _) _
  have hs0 : W0.heap.size = w.heap.size + 3 := by subst hW0; simp
  have hA : W0.heap[w.heap.size]? = some (.cells #[.int .i64 a0_0, .slice A0_1 l0_1.length c0_1, .string a0_2] 29 (0, 0)) := by subst hW0; exact blk_alloc (blk_alloc (by simpa using heap_alloc_new w _) _) _
  have hB : W0.heap[w.heap.size + 1]? = some (.cells #[.int .i64 a1] 3 (0, 0)) := by subst hW0; exact blk_alloc (by simpa using heap_alloc_new (w.alloc _) _) _
  have hC : W0.heap[w.heap.size + 2]? = some (.cells #[.int .i64 0, .slice none 0 0, .string ⟨#[]⟩] 29 (0, 0)) := by subst hW0; simpa using heap_alloc_new ((w.alloc _).alloc _) _
  rw [hW0]
  clear hW0
  refine (typed_Typed_all.calls k a0_0 A0_1 c0_1 l0_1 a0_2 l W0 (Kd.C_below HR.out hb0) hc0_1 HL.out).mono ?_
  rintro e W1 ⟨v1, rfl, ho1, hb1⟩
  obtain ⟨A1, c1, rfl, hc1, hr1⟩ := Kd.R_reads ho1
  have HL1 := Aside0.mk hr1
  have HC1 := Aside0.mk hc1
  clear ho1 hr1 hc1
  have hA1 := (hb1.block _ (blk_lt hA)).trans hA
  have hB1 := (hb1.block _ (blk_lt hB)).trans hB
  have hC1 := (hb1.block _ (blk_lt hC)).trans hC
  have hb01 := below_then hb0 hb0.size hb1
  have hs1 := hb1.size
  clear hA hB hC
  have HA1 := Aside0.mk hA1
  have HB1 := Aside0.mk hB1
  have HC1' := Aside0.mk hC1
  have l0 : W1.cell? ⟨w.heap.size, 0, none⟩ = some (.int .i64 a0_0) := (blk_cell hA1 0).trans rfl
  have l1 : W1.cell? ⟨w.heap.size, 1, none⟩ = some (.slice A0_1 l0_1.length c0_1) := (blk_cell hA1 1).trans rfl
  have l2 : W1.cell? ⟨w.heap.size, 2, none⟩ = some (.string a0_2) := (blk_cell hA1 2).trans rfl
  clear hA1 hB1 hC1
  go_wp2_with fail
  refine (typed_Typed_May.calls k a0_0 A0_1 c0_1 l0_1 a0_2 m W1 (Kd.C_below HR.out hb01) hc0_1 HM.out).mono ?_
  rintro e W2 ⟨rfl, hb2⟩
  clear l0 l1 l2
  have hb02 := below_then hb01 hb01.size hb2
  have hs2 := hb2.size
  cases m with
  | false =>
    rw [if_neg (by simp)] at h
    simp only [Option.some.injEq, Prod.mk.injEq] at h
    obtain ⟨rfl, rfl, rfl, rfl⟩ := h
    have hC2 := (hb2.block _ (blk_lt HC1'.out)).trans HC1'.out
    have m0 : W2.cell? ⟨w.heap.size + 2, 0, none⟩ = some (.int .i64 0) := (blk_cell hC2 0).trans rfl
    have m1 : W2.cell? ⟨w.heap.size + 2, 1, none⟩ = some (.slice none 0 0) := (blk_cell hC2 1).trans rfl
    have m2 : W2.cell? ⟨w.heap.size + 2, 2, none⟩ = some (.string ⟨#[]⟩) := (blk_cell hC2 2).trans rfl
    have f0 := blk_frozen hC2 0
    have f1 := blk_frozen hC2 1
    have f2 := blk_frozen hC2 2
    clear hC2
    go_wp2
    refine bodyPost_ret (v := .tuple #[.agg #[.int .i64 0, .slice none 0 0, .string ⟨#[]⟩], .bool false]) (by simp [results, Tryd.results16, go_sem, m0, m1, m2]) rfl ⟨_, rfl, Kd.R_nil _ _ _ _ _, below_set (below_set (below_set hb02 (by omega)) (by omega)) (by omega)⟩
  | true =>
    rw [if_pos rfl] at h
    have hB2 := (hb2.block _ (blk_lt HB1.out)).trans HB1.out
    have hC2 := (hb2.block _ (blk_lt HC1'.out)).trans HC1'.out
    have b0 : W2.cell? ⟨w.heap.size + 1, 0, none⟩ = some (.int .i64 a1) := (blk_cell hB2 0).trans rfl
    have HB2 := Aside0.mk hB2
    have HC2 := Aside0.mk hC2
    clear hB2 hC2
    go_wp2_with fail
    refine (typed_known.calls 6 a1 (knownB a1) W2 HK.out).mono ?_
    rintro e W3 ⟨rfl, hb3⟩
    clear b0
    have hb03 := below_then hb02 hb02.size hb3
    have hs3 := hb3.size
    have hB3 := (hb3.block _ (blk_lt HB2.out)).trans HB2.out
    have hC3 := (hb3.block _ (blk_lt HC2.out)).trans HC2.out
    cases hkn : knownB a1 with
    | false =>
      rw [hkn, if_neg (by simp)] at h
      simp only [Option.some.injEq, Prod.mk.injEq] at h
      obtain ⟨rfl, rfl, rfl, rfl⟩ := h
      have m0 : W3.cell? ⟨w.heap.size + 2, 0, none⟩ = some (.int .i64 0) := (blk_cell hC3 0).trans rfl
      have m1 : W3.cell? ⟨w.heap.size + 2, 1, none⟩ = some (.slice none 0 0) := (blk_cell hC3 1).trans rfl
      have m2 : W3.cell? ⟨w.heap.size + 2, 2, none⟩ = some (.string ⟨#[]⟩) := (blk_cell hC3 2).trans rfl
      have f0 := blk_frozen hC3 0
      have f1 := blk_frozen hC3 1
      have f2 := blk_frozen hC3 2
      clear hC3 hB3
      go_wp2
      refine bodyPost_ret (v := .tuple #[.agg #[.int .i64 0, .slice none 0 0, .string ⟨#[]⟩], .bool false]) (by simp [results, Tryd.results16, go_sem, m0, m1, m2]) rfl ⟨_, rfl, Kd.R_nil _ _ _ _ _, below_set (below_set (below_set hb03 (by omega)) (by omega)) (by omega)⟩
    | true =>
      have HKN := Aside0.mk hkn
      rw [hkn, if_pos rfl] at h
      clear hkn
      have HB3 := Aside0.mk hB3
      have HC3 := Aside0.mk hC3
      have hrl := Kd.C_below HL1.out (below_then hb2 hb2.size hb3)
      have HRL := Aside0.mk hrl
      clear hB3 hC3 hrl
      go_wp2_with fail
      refine (typed_to_contains (w.heap.size + 1) a1 HKN.out A1 c1 l W3 HRL.out HB3.out).mono ?_
      rintro e W4 ⟨rfl, hb4⟩
      have hb04 := below_then hb03 hb03.size hb4
      have hs4 := hb4.size
      have hB4 := (hb4.block _ (blk_lt HB3.out)).trans HB3.out
      have hC4 := (hb4.block _ (blk_lt HC3.out)).trans HC3.out
      cases hany : l.any fun x => !(fitsB x a1) with
      | true =>
        rw [hany, if_pos rfl] at h
        simp only [Option.some.injEq, Prod.mk.injEq] at h
        obtain ⟨rfl, rfl, rfl, rfl⟩ := h
        have m0 : W4.cell? ⟨w.heap.size + 2, 0, none⟩ = some (.int .i64 0) := (blk_cell hC4 0).trans rfl
        have m1 : W4.cell? ⟨w.heap.size + 2, 1, none⟩ = some (.slice none 0 0) := (blk_cell hC4 1).trans rfl
        have m2 : W4.cell? ⟨w.heap.size + 2, 2, none⟩ = some (.string ⟨#[]⟩) := (blk_cell hC4 2).trans rfl
        have f0 := blk_frozen hC4 0
        have f1 := blk_frozen hC4 1
        have f2 := blk_frozen hC4 2
        clear hC4 hB4 hany
        go_wp2
        refine bodyPost_ret (v := .tuple #[.agg #[.int .i64 0, .slice none 0 0, .string ⟨#[]⟩], .bool false]) (by simp [results, Tryd.results16, go_sem, m0, m1, m2]) rfl ⟨_, rfl, Kd.R_nil _ _ _ _ _, below_set (below_set (below_set hb04 (by omega)) (by omega)) (by omega)⟩
      | false =>
        rw [hany, if_neg (by simp)] at h
        obtain ⟨⟨q1, q2, q3⟩, hq, h⟩ := Option.bind_eq_some_iff.mp h
        simp only [Option.some.injEq, Prod.mk.injEq] at h
        obtain ⟨rfl, rfl, rfl, rfl⟩ := h
        have HQ := Aside0.mk hq
        have hA4 := ((below_then hb2 hb2.size (below_then hb3 hb3.size hb4)).block _ (blk_lt HA1.out)).trans HA1.out
        have a1c : W4.cell? ⟨w.heap.size, 1, none⟩ = some (.slice A0_1 l0_1.length c0_1) := (blk_cell hA4 1).trans rfl
        have b0 : W4.cell? ⟨w.heap.size + 1, 0, none⟩ = some (.int .i64 a1) := (blk_cell hB4 0).trans rfl
        have HC4 := Aside0.mk hC4
        clear hC4 hB4 hA4 hq hany
        go_wp2_with fail
        refine (typed_lay.calls k A1 c1 l A0_1 c0_1 l0_1 a1 _ _ _ W4 (Kd.C_below HRL.out hb4) HC1.out (Kd.C_below HR.out hb04) hc0_1 HQ.out).mono ?_
        rintro e W5 ⟨v5, rfl, ho5, hb5⟩
        have hb05 := below_then hb04 hb04.size hb5
        have hs5 := hb5.size
        have hC5 := (hb5.block _ (blk_lt HC4.out)).trans HC4.out
        have m0 : W5.cell? ⟨w.heap.size + 2, 0, none⟩ = some (.int .i64 0) := (blk_cell hC5 0).trans rfl
        have m1 : W5.cell? ⟨w.heap.size + 2, 1, none⟩ = some (.slice none 0 0) := (blk_cell hC5 1).trans rfl
        have m2 : W5.cell? ⟨w.heap.size + 2, 2, none⟩ = some (.string ⟨#[]⟩) := (blk_cell hC5 2).trans rfl
        have f0 := blk_frozen hC5 0
        have f1 := blk_frozen hC5 1
        have f2 := blk_frozen hC5 2
        have hv := Kd.R_lower (Kd.R_mono (Kd.R_bound ho5) (ok' := fun k => W4.heap.size ≤ k) (fun k hk => hk.2.1)) hb04.size
        obtain ⟨A5, c5, rfl, _, _⟩ := Kd.R_reads ho5
        have HV := Aside0.mk hv
        clear hC5 ho5 hv
        go_wp2
        refine bodyPost_ret (v := .tuple #[.agg #[.int .i64 q1, .slice A5 q2.length c5, .string q3], .bool true]) (by simp [results, Tryd.results16, go_sem, m0, m1, m2]) rfl ⟨_, rfl, ?_, below_set (below_set (below_set hb05 (by omega)) (by omega)) (by omega)⟩
        refine Kd.R_mono (Kd.R_far (Kd.R_far (Kd.R_far HV.out ?_ _) ?_ _) ?_ _) (fun _ _ => trivial) <;> (intro k hk; simp only at hk ⊢; omega)


end Go.Proofs.YtfjilihppnndkaaDoor.P
