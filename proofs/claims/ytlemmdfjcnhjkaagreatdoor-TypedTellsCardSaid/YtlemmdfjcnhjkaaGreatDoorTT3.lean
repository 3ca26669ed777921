-- Written by drive.py of this claim's own session, by way of the kit's print. Lean checks it.
import Derived.Test.YtlemmdfjcnhjkaaGreatDoorTT1
import Derived.Test.YtlemmdfjcnhjkaaGreatDoorTT2
namespace Go.Proofs.YtlemmdfjcnhjkaaGreatDoor.P
open Go.RowKit Go.Proofs.YtlemmdfjcnhjkaaGreatDoorW.PrintWords Go.Proofs.YtlemmdfjcnhjkaaGreatDoorW.PrintLast Go.Proofs.YtlemmdfjcnhjkaaGreatDoorW.PrintMore
attribute [local go_sem] max2_int min2_int max_two min_two max_three min_three max_four min_four   -- for this text's walks alone
set_option linter.unusedVariables false
set_option linter.unusedSimpArgs false

/-! ### typed_Pack: function 63 -/
def typed_Pack.l0 : Nat → Int → List Int → List ByteArray → Int → Int → List Int → List ByteArray → Option (Int × List Int × ByteArray × Int)
  | 0, _, _, _, _, _, _, _ => none
  | k + 1, x4, x5, x21, x22, x23, x102000, x102001 => if x23 < x22 then (if 0 ≤ x23 then (if x23 < (x21.length : Int) then ((num_Int.f (rdOf ByteArray.empty x21 x23)).bind fun bt107 => (if x5.length < 17592186044416 then (typed_Pack.l0 k x4 (x5 ++ [bt107.1]) x21 x22 (wrap64 (x23 + 1)) x102000 x102001) else (none))) else (none)) else (none)) else ((typed_lay.f k x5 x102000 x4).bind fun bt112 => (some (bt112.1, bt112.2.1, bt112.2.2, 0)))
def typed_Pack.f (k : Nat) (l0_0 : List Int) (l0_1 : List ByteArray) : Option (Int × List Int × ByteArray × Int) := (val_May.f k l0_0 l0_1).bind fun t103 => (if t103 = true then ((val_Width.f k l0_0 l0_1).bind fun t104 => ((typed_known.f k t104).bind fun t105 => (if t105 = true then (typed_Pack.l0 k t104 ([] : List Int) l0_1 (l0_1.length : Int) 0 l0_0 l0_1) else (some (0, ([] : List Int), (⟨#[]⟩ : ByteArray), 8))))) else (some (0, ([] : List Int), (⟨#[]⟩ : ByteArray), 1)))
set_option maxHeartbeats 8000000 in
set_option maxRecDepth 100000 in
theorem typed_Pack.calls (k : Nat) (A0_0 : Option Addr) (c0_0 : Nat) (l0_0 : List Int) (A0_1 : Option Addr) (c0_1 : Nat) (l0_1 : List ByteArray) (r1 : Int) (r2 : List Int) (r3 : ByteArray) (r4 : Int) (w : World) (hr0_0 : Kd.C (Kd.int .i64) w A0_0 l0_0.length l0_0) (hc0_0 : l0_0.length ≤ c0_0) (hr0_1 : Kd.C Kd.string w A0_1 l0_1.length l0_1) (hc0_1 : l0_1.length ≤ c0_1) (h : typed_Pack.f k l0_0 l0_1 = some (r1, r2, r3, r4)) (hG : Glob w) :
    Calls Tryz.prog 63 #[.agg #[.slice A0_0 l0_0.length c0_0, .slice A0_1 l0_1.length c0_1]] w fun e w' => ∃ v1_ : Value, e = .returned (.tuple #[.agg #[.int .i64 r1, v1_, .string r3], .int .i64 r4]) ∧ Kd.R (Kd.int .i64) 3 w' w.heap.size (fun _ => True) v1_ r2 ∧ Below w.heap.size w w' := by
  have hu34 := Tryz.underlying34
  have hu27 := Tryz.underlying27
  have HR0_0 := Aside0.mk hr0_0
  have HC0_0 := Aside0.mk hc0_0
  clear hr0_0 hc0_0
  have HR0_1 := Aside0.mk hr0_1
  have HC0_1 := Aside0.mk hc0_1
  clear hr0_1 hc0_1
  have HB := Aside0.mk (Below.refl w.heap.size w)
  have H : ((val_May.f k l0_0 l0_1).bind fun t103 => (if t103 = true then ((val_Width.f k l0_0 l0_1).bind fun t104 => ((typed_known.f k t104).bind fun t105 => (if t105 = true then (typed_Pack.l0 k t104 ([] : List Int) l0_1 (l0_1.length : Int) 0 l0_0 l0_1) else (some (0, ([] : List Int), (⟨#[]⟩ : ByteArray), 8))))) else (some (0, ([] : List Int), (⟨#[]⟩ : ByteArray), 1)))) = some (r1, r2, r3, r4) := h
  clear h
  obtain ⟨t103, A2, H⟩ := bnd_ H
  try dsimp -simprocs only at H
  by_cases c3 : t103 = true
  · subst c3
    have H1 : ((val_Width.f k l0_0 l0_1).bind fun t104 => ((typed_known.f k t104).bind fun t105 => (if t105 = true then (typed_Pack.l0 k t104 ([] : List Int) l0_1 (l0_1.length : Int) 0 l0_0 l0_1) else (some (0, ([] : List Int), (⟨#[]⟩ : ByteArray), 8))))) = some (r1, r2, r3, r4) := by rw [if_pos rfl] at H; exact H
    clear H
    have H := H1
    clear H1
    obtain ⟨t104, A4, H⟩ := bnd_ H
    try dsimp -simprocs only at H
    obtain ⟨t105, A5, H⟩ := bnd_ H
    try dsimp -simprocs only at H
    by_cases c6 : t105 = true
    · subst c6
      have H1 : (typed_Pack.l0 k t104 ([] : List Int) l0_1 (l0_1.length : Int) 0 l0_0 l0_1) = some (r1, r2, r3, r4) := by rw [if_pos rfl] at H; exact H
      clear H
      have H := H1
      clear H1
      have H' := Aside0.mk H
      clear H
      go_enter Tryz.func63, Tryz.ntmps63
      go_wp2_with (first | ((with_reducible refine gate_dst (N := 1) rfl ?_); refine bx_ 1 #[.slice A0_0 l0_0.length c0_0, .slice A0_1 l0_1.length c0_1] 34 ?_; intro gb101 hg w7 hbox hb; have BK101 := Aside0.mk (hbox); have GW101 := (Bg_ hg : Aside0 (w.heap.size ≤ gb101)); have GE101 := (Bg_ hg : Aside0 (w.heap.size ≤ gb101)); replace HB := Bs_ hb; clear hb hbox hg) | ((with_reducible refine gate_dst (N := 2) rfl ?_); refine bx_ 2 #[.int .i64 0, .slice none 0 0, .string (⟨#[]⟩ : ByteArray)] 27 ?_; intro gb102 hg w8 hbox hb; have BK102 := Aside0.mk (hbox); have GW102 := (Bg_ hg : Aside0 (w.heap.size ≤ gb102)); have GE102 := (Bg_ hg : Aside0 (w.heap.size ≤ gb102)); replace HB := Bs_ hb; have NB101_102 := nl_ hg BK101; have NB102_101 := ng_ hg BK101; replace BK101 := kb_ BK101 hb; clear hb hbox hg; have hnb9 := NB101_102.out; have hnc9 := NB102_101.out; obtain ⟨hcz10_0, hcz10_1⟩ := c2_ BK101; obtain ⟨hfz10_0, hfz10_1⟩ := f2_ BK101) | ((with_reducible refine gate_callee (f := 60) rfl ?_); refine goesL_ (some 11) rfl rfl Tryz.func60 (by kernel_rfl) rfl #[.agg #[.slice A0_0 l0_0.length c0_0, .slice A0_1 l0_1.length c0_1]] rfl Ga_ ?_; (with_reducible refine (val_May.calls k _ _ l0_0 _ _ l0_1 true _ ?side1 ?side2 ?side3 ?side4 A2.out).mono ?_); (case side1 => exact Pc_ (Kd.C_below HR0_0.out HB.out)); (case side2 => exact HC0_0.out); (case side3 => exact Pc_ (Kd.C_below HR0_1.out HB.out)); (case side4 => exact HC0_1.out); rintro e w11 ⟨rfl, hb⟩; refine ⟨_, rfl, ?_⟩; replace BK101 := kb_ BK101 hb; replace BK102 := kb_ BK102 hb; replace HB := Bs_ hb; (try clear hb); (try clear hb2); (try clear hk); (try clear hi); obtain ⟨hcz12_0, hcz12_1⟩ := c2_ BK101; obtain ⟨hfz12_0, hfz12_1⟩ := f2_ BK101) | ((with_reducible refine gate_callee (f := 127) rfl ?_); refine goesL_ (some 15) rfl rfl Tryz.func127 (by kernel_rfl) rfl #[.agg #[.slice A0_0 l0_0.length c0_0, .slice A0_1 l0_1.length c0_1]] rfl Ga_ ?_; (with_reducible refine (val_Width.calls k _ _ l0_0 _ _ l0_1 t104 _ ?side1 ?side2 ?side3 ?side4 A4.out ?side5).mono ?_); (case side1 => exact Pc_ (Kd.C_below HR0_0.out HB.out)); (case side2 => exact HC0_0.out); (case side3 => exact Pc_ (Kd.C_below HR0_1.out HB.out)); (case side4 => exact HC0_1.out); (case side5 => first | exact hG | exact Glob.below hG Bl_); rintro e w13 ⟨rfl, hb⟩; refine ⟨_, rfl, ?_⟩; replace BK101 := kb_ BK101 hb; replace BK102 := kb_ BK102 hb; replace HB := Bs_ hb; (try clear hb); (try clear hb2); (try clear hk); (try clear hi)) | ((with_reducible refine gate_callee (f := 70) rfl ?_); refine goesL_ (some 17) rfl rfl Tryz.func70 (by kernel_rfl) rfl #[.int .i64 t104] rfl Ga_ ?_; (with_reducible refine (typed_known.calls k t104 true _ A5.out).mono ?_); rintro e w14 ⟨rfl, hb⟩; refine ⟨_, rfl, ?_⟩; replace BK101 := kb_ BK101 hb; replace BK102 := kb_ BK102 hb; replace HB := Bs_ hb; (try clear hb); (try clear hb2); (try clear hk); (try clear hi); obtain ⟨hcz15_0, hcz15_1⟩ := c2_ BK101; obtain ⟨hfz15_0, hfz15_1⟩ := f2_ BK101))
      go_loopg [5, 23] k (fun kq v5 v23 w' => ∃ (x5_1 : List Int) (x23_1 : Int), v23 = .int .i64 x23_1 ∧ Aside0 (typed_Pack.l0 kq t104 x5_1 l0_1 (l0_1.length : Int) x23_1 l0_0 l0_1 = some (r1, r2, r3, r4)) ∧ Aside0 (kq ≤ k) ∧ Aside0 (Kd.R (Kd.int .i64) 2 w' w.heap.size (fun _ => True) v5 x5_1) ∧ Aside0 (w'.heap[gb101]? = some (.cells #[(.slice A0_0 l0_0.length c0_0), (.slice A0_1 l0_1.length c0_1)] 34 (0, 0))) ∧ Aside0 (w'.heap[gb102]? = some (.cells #[.int .i64 0, (.slice none 0 0), .string (⟨#[]⟩ : ByteArray)] 27 (0, 0))) ∧ Aside0 (Below w.heap.size w w'))
      case atStart => exact ⟨(([] : List Int)), (0), Rf_, H', ⟨Nat.le_refl _⟩, ⟨by first | exact Kd.R_nil _ _ _ _ _ | exact Kd.N_nil _ _ _ _ _ | exact Kd.V_nil _ _ _ _ _ | exact Kd.Q_nil _ _ _ _ _ | exact Kd.S_nil _ _ _ _ _⟩, ⟨by (with_reducible repeat (first | refine blk_drewN ?_ _ | refine blk_drew ?_ | refine blk_alloc ?_ _)); exact BK101.out⟩, ⟨by (with_reducible repeat (first | refine blk_drewN ?_ _ | refine blk_drew ?_ | refine blk_alloc ?_ _)); exact BK102.out⟩, ⟨Bl_⟩⟩
      case round =>
        clear H'
        try clear c1
        try clear p2
        try clear c3
        try clear c6
        try clear c7
        try clear c9
        try clear c12
        try clear hcz10_0
        try clear hcz10_1
        try clear hcz12_0
        try clear hcz12_1
        try clear hcz15_0
        try clear hcz15_1
        try clear hfz10_0
        try clear hfz10_1
        try clear hfz12_0
        try clear hfz12_1
        try clear hfz15_0
        try clear hfz15_1
        obtain ⟨x5_1, x23_1, rfl, HA, HK1, HO_5, BK101, BK102, HB⟩ := hrel
        cases gk with
        | zero => exact absurd HA.out (by simp [typed_Pack.l0])
        | succ k1 =>
          have H := HA.out
          clear HA
          simp only [typed_Pack.l0] at H
          by_cases c16 : x23_1 < (l0_1.length : Int)
          · rw [if_pos c16] at H
            have c16b0 : decide (x23_1 < (l0_1.length : Int)) = true := decide_eq_true c16
            clear c16
            by_cases c17 : 0 ≤ x23_1
            · rw [if_pos c17] at H
              have c17b0 : decide (0 ≤ x23_1) = true := decide_eq_true c17
              clear c17
              by_cases c18 : x23_1 < (l0_1.length : Int)
              · rw [if_pos c18] at H
                have c18b0 : decide (x23_1 < (l0_1.length : Int)) = true := decide_eq_true c18
                clear c18
                obtain ⟨⟨t107, t108⟩, A19, H⟩ := bnd_ H
                try dsimp -simprocs only at H
                by_cases c20 : x5_1.length < 17592186044416
                · rw [if_pos c20] at H
                  have LMc20 := Aside0.mk c20
                  clear c20
                  obtain ⟨y109, hy109⟩ : ∃ y_ : List Int, y_ = (x5_1 ++ [t107]) := ⟨_, rfl⟩
                  replace H : (typed_Pack.l0 k1 t104 y109 l0_1 (l0_1.length : Int) (wrap64 (x23_1 + 1)) l0_0 l0_1) = some (r1, r2, r3, r4) := by first | (rw [hy109]; with_reducible exact H) | (have H2_ := (Option.bind_some _ _).symm.trans H; rw [hy109]; with_reducible exact H2_) | (have H2_ := (Option.bind_some _ _).symm.trans H; with_reducible exact H2_) | with_reducible exact H | (rw [hy109]; exact H) | exact H
                  have Ny109 := Aside0.mk hy109
                  clear hy109
                  have H' := Aside0.mk H
                  clear H
                  have p106 : 0 ≤ (x23_1 : Int) := of_decide_eq_true As_
                  have q106 : x23_1 < (l0_1.length : Int) := of_decide_eq_true As_
                  obtain ⟨ad106, e106, hx106_0⟩ := Kd.at_string HR0_1.out x23_1 p106 q106
                  cases e106
                  replace hx106_0 := (HB.out.cell (World.block_lt_of_cell? w _ hx106_0)).trans hx106_0
                  replace p106 := eq_true p106
                  replace q106 := eq_true q106
                  go_wp2_with (first | ((with_reducible refine gate_callee (f := 128) rfl ?_); refine goesL_ (some 29) rfl rfl Tryz.func128 (by kernel_rfl) rfl #[.string (rdOf ByteArray.empty l0_1 x23_1)] rfl Ga_ ?_; (with_reducible refine (num_Int.calls (rdOf ByteArray.empty l0_1 x23_1) t107 t108 _ A19.out ?side1).mono ?_); (case side1 => first | exact hG | exact Glob.below hG Bl_); rintro e w21 ⟨rfl, hb⟩; refine ⟨_, rfl, ?_⟩; replace HO_5 := Aside0.mk (Kd.R_below (Pr_ HO_5.out) hb); replace BK101 := kb_ BK101 hb; replace BK102 := kb_ BK102 hb; replace HB := Bs_ hb; (try clear hb); (try clear hb2); (try clear hk); (try clear hi)) | ((with_reducible refine gate_builtin (b := .append) (xs := #[.tmp 32, .tmp 34]) rfl ?_); at_builtin; refine Kd.R_append (Kd.int .i64) (w0 := w) w.heap.size rfl (.tmp 32) (.tmp 34) 69 2 (.int .i64 0) 8 rfl Tryz.underlying69 info2 rfl (by decide) (by omega) u5 x5_1 t107 [.int .i64 t107] (fun _ => True) (fun _ => False) rfl rfl ?aP (fun _ hk => hk.elim) ?aF ?aO ?aB ?aS ?aL ?_; (case aP => exact rfl); (case aB => exact Bl_); (case aF => exact (fun _ _ => trivial)); (case aO => exact (Pr_ HO_5.out)); (case aS => exact Bz_); (case aL => have := LMc20.out; omega); intro v110 w22 ho hb hg hat; rw [← Ny109.out] at ho; replace BK101 := kg_ BK101 hg (Kd.R_ne HO_5.out BK101.out (by decide)); replace BK102 := kg_ BK102 hg (Kd.R_ne HO_5.out BK102.out (by decide)); replace HB := Aside0.mk (hb); have HO111 := Aside0.mk (ho); clear HO_5; clear ho hb hg hat))
                  go_roundg k1
                  case measure => have := HK1.out; omega
                  case rel => exact ⟨(y109), (wrap64 (x23_1 + 1)), Rf_, H', ⟨by have := HK1.out; omega⟩, ⟨by (with_reducible repeat (first | apply Kd.R_alloc | apply Kd.R_drewN | apply Kd.R_drew)); exact HO111.out⟩, ⟨by (with_reducible repeat (first | refine blk_drewN ?_ _ | refine blk_drew ?_ | refine blk_alloc ?_ _)); exact BK101.out⟩, ⟨by (with_reducible repeat (first | refine blk_drewN ?_ _ | refine blk_drew ?_ | refine blk_alloc ?_ _)); exact BK102.out⟩, ⟨Bl_⟩⟩
                · rw [if_neg c20] at H
                  exact absurd H (by simp)
              · rw [if_neg c18] at H
                exact absurd H (by simp)
            · rw [if_neg c17] at H
              exact absurd H (by simp)
          · rw [if_neg c16] at H
            have c16b0 : decide (x23_1 < (l0_1.length : Int)) = false := decide_eq_false c16
            clear c16
            obtain ⟨⟨t112, t113, t116⟩, A23, H⟩ := bnd_ H
            try dsimp -simprocs only at H
            simp only [Option.some.injEq, Prod.mk.injEq] at H
            obtain ⟨rfl, rfl, rfl, rfl⟩ := H
            have hnb24 := NB101_102.out
            have hnc24 := NB102_101.out
            obtain ⟨hcz25_0, hcz25_1⟩ := c2_ BK101
            obtain ⟨hfz25_0, hfz25_1⟩ := f2_ BK101
            obtain ⟨Ao26, co26, eo26⟩ := Kd.R_slice HO_5.out
            subst eo26
            go_wp2_with (first | ((with_reducible refine gate_callee (f := 74) rfl ?_); refine goesL_ (some 41) rfl rfl Tryz.func74 (by kernel_rfl) rfl #[.slice Ao26 x5_1.length co26, .slice A0_0 l0_0.length c0_0, .int .i64 t104] rfl Ga_ ?_; (with_reducible refine (typed_lay.calls k1 _ _ x5_1 _ _ l0_0 t104 t112 t113 t116 _ ?side1 ?side2 ?side3 ?side4 A23.out).mono ?_); (case side1 => exact Pc_ ((Kd.R_reads' HO_5.out).2.2)); (case side2 => exact (Kd.R_reads' HO_5.out).2.1); (case side3 => exact Pc_ (Kd.C_below HR0_0.out HB.out)); (case side4 => exact HC0_0.out); rintro e w27 ⟨v114, rfl, ho0, hb⟩; refine ⟨_, rfl, ?_⟩; replace HO_5 := Aside0.mk (Kd.R_below (Pr_ HO_5.out) hb); have HO115 := Aside0.mk (Kd.R_lower ho0 Bz_); replace BK101 := kb_ BK101 hb; replace BK102 := kb_ BK102 hb; replace HB := Bs_ hb; (try clear hb); (try clear hb2); (try clear hk); (try clear hi); (try clear ho0); obtain ⟨hcz28_0, hcz28_1, hcz28_2⟩ := c3_ BK102; obtain ⟨hfz28_0, hfz28_1, hfz28_2⟩ := f3_ BK102; obtain ⟨Ao29, co29, eo29⟩ := Kd.R_slice HO115.out; subst eo29))
            refine bodyPost_ret (results_ct rfl _ _ gb102 27 #[.int .i64 t112, .slice Ao29 t113.length co29, .string t116] (0, 0) _ rfl (by (with_reducible repeat (first | refine blk_drewN ?_ _ | refine blk_drew ?_ | refine blk_alloc ?_ _)); refine blk_put (cs := #[.int .i64 t112, .slice Ao29 t113.length co29, .string (⟨#[]⟩ : ByteArray)]) ?_ 2 _ rfl; (with_reducible repeat (first | refine blk_drewN ?_ _ | refine blk_drew ?_ | refine blk_alloc ?_ _)); refine blk_put (cs := #[.int .i64 t112, .slice none 0 0, .string (⟨#[]⟩ : ByteArray)]) ?_ 1 _ rfl; (with_reducible repeat (first | refine blk_drewN ?_ _ | refine blk_drew ?_ | refine blk_alloc ?_ _)); refine blk_put (cs := #[.int .i64 0, .slice none 0 0, .string (⟨#[]⟩ : ByteArray)]) ?_ 0 _ rfl; (with_reducible repeat (first | refine blk_drewN ?_ _ | refine blk_drew ?_ | refine blk_alloc ?_ _)); exact BK102.out) Tryz.underlying27 rfl (by kernel_rfl)) rfl ?_
            exact ⟨_, Re_, by (with_reducible repeat (first | apply Kd.R_alloc | apply Kd.R_drewN | apply Kd.R_drew)); exact Kd.R_mono (Kd.R_far (p := ⟨gb102, 2, none⟩) (Kd.R_far (p := ⟨gb102, 1, none⟩) (Kd.R_far (p := ⟨gb102, 0, none⟩) (Kd.R_types HO115.out BK102.out (by decide)) (fun _ hk => hk.2) (.int .i64 t112)) (fun _ hk => hk.2) (.slice Ao29 t113.length co29)) (fun _ hk => hk.2) (.string t116)) (fun _ hk => trivial), Bl_⟩
    · replace c6 := Bool.eq_false_iff.mpr c6
      subst c6
      have H1 : (some (0, ([] : List Int), (⟨#[]⟩ : ByteArray), 8)) = some (r1, r2, r3, r4) := by rw [if_neg (show ¬ (false = true) by decide)] at H; exact H
      clear H
      have H := H1
      clear H1
      simp only [Option.some.injEq, Prod.mk.injEq] at H
      obtain ⟨rfl, rfl, rfl, rfl⟩ := H
      go_enter Tryz.func63, Tryz.ntmps63
      go_wp2_with (first | ((with_reducible refine gate_dst (N := 1) rfl ?_); refine bx_ 1 #[.slice A0_0 l0_0.length c0_0, .slice A0_1 l0_1.length c0_1] 34 ?_; intro gb101 hg w30 hbox hb; have BK101 := Aside0.mk (hbox); have GW101 := (Bg_ hg : Aside0 (w.heap.size ≤ gb101)); have GE101 := (Bg_ hg : Aside0 (w.heap.size ≤ gb101)); replace HB := Bs_ hb; clear hb hbox hg) | ((with_reducible refine gate_dst (N := 2) rfl ?_); refine bx_ 2 #[.int .i64 0, .slice none 0 0, .string (⟨#[]⟩ : ByteArray)] 27 ?_; intro gb102 hg w31 hbox hb; have BK102 := Aside0.mk (hbox); have GW102 := (Bg_ hg : Aside0 (w.heap.size ≤ gb102)); have GE102 := (Bg_ hg : Aside0 (w.heap.size ≤ gb102)); replace HB := Bs_ hb; have NB101_102 := nl_ hg BK101; have NB102_101 := ng_ hg BK101; replace BK101 := kb_ BK101 hb; clear hb hbox hg; have hnb32 := NB101_102.out; have hnc32 := NB102_101.out; obtain ⟨hcz33_0, hcz33_1⟩ := c2_ BK101; obtain ⟨hfz33_0, hfz33_1⟩ := f2_ BK101) | ((with_reducible refine gate_callee (f := 60) rfl ?_); refine goesL_ (some 11) rfl rfl Tryz.func60 (by kernel_rfl) rfl #[.agg #[.slice A0_0 l0_0.length c0_0, .slice A0_1 l0_1.length c0_1]] rfl Ga_ ?_; (with_reducible refine (val_May.calls k _ _ l0_0 _ _ l0_1 true _ ?side1 ?side2 ?side3 ?side4 A2.out).mono ?_); (case side1 => exact Pc_ (Kd.C_below HR0_0.out HB.out)); (case side2 => exact HC0_0.out); (case side3 => exact Pc_ (Kd.C_below HR0_1.out HB.out)); (case side4 => exact HC0_1.out); rintro e w34 ⟨rfl, hb⟩; refine ⟨_, rfl, ?_⟩; replace BK101 := kb_ BK101 hb; replace BK102 := kb_ BK102 hb; replace HB := Bs_ hb; (try clear hb); (try clear hb2); (try clear hk); (try clear hi); obtain ⟨hcz35_0, hcz35_1⟩ := c2_ BK101; obtain ⟨hfz35_0, hfz35_1⟩ := f2_ BK101) | ((with_reducible refine gate_callee (f := 127) rfl ?_); refine goesL_ (some 15) rfl rfl Tryz.func127 (by kernel_rfl) rfl #[.agg #[.slice A0_0 l0_0.length c0_0, .slice A0_1 l0_1.length c0_1]] rfl Ga_ ?_; (with_reducible refine (val_Width.calls k _ _ l0_0 _ _ l0_1 t104 _ ?side1 ?side2 ?side3 ?side4 A4.out ?side5).mono ?_); (case side1 => exact Pc_ (Kd.C_below HR0_0.out HB.out)); (case side2 => exact HC0_0.out); (case side3 => exact Pc_ (Kd.C_below HR0_1.out HB.out)); (case side4 => exact HC0_1.out); (case side5 => first | exact hG | exact Glob.below hG Bl_); rintro e w36 ⟨rfl, hb⟩; refine ⟨_, rfl, ?_⟩; replace BK101 := kb_ BK101 hb; replace BK102 := kb_ BK102 hb; replace HB := Bs_ hb; (try clear hb); (try clear hb2); (try clear hk); (try clear hi)) | ((with_reducible refine gate_callee (f := 70) rfl ?_); refine goesL_ (some 17) rfl rfl Tryz.func70 (by kernel_rfl) rfl #[.int .i64 t104] rfl Ga_ ?_; (with_reducible refine (typed_known.calls k t104 false _ A5.out).mono ?_); rintro e w37 ⟨rfl, hb⟩; refine ⟨_, rfl, ?_⟩; replace BK101 := kb_ BK101 hb; replace BK102 := kb_ BK102 hb; replace HB := Bs_ hb; (try clear hb); (try clear hb2); (try clear hk); (try clear hi); obtain ⟨hcz38_0, hcz38_1, hcz38_2⟩ := c3_ BK102; obtain ⟨hfz38_0, hfz38_1, hfz38_2⟩ := f3_ BK102))
      refine bodyPost_ret (results_ct rfl _ _ gb102 27 #[.int .i64 0, .slice none 0 0, .string (⟨#[]⟩ : ByteArray)] (0, 0) _ rfl (by (with_reducible repeat (first | refine blk_drewN ?_ _ | refine blk_drew ?_ | refine blk_alloc ?_ _)); refine blk_put (cs := #[.int .i64 0, .slice none 0 0, .string (⟨#[]⟩ : ByteArray)]) ?_ 2 _ rfl; (with_reducible repeat (first | refine blk_drewN ?_ _ | refine blk_drew ?_ | refine blk_alloc ?_ _)); refine blk_put (cs := #[.int .i64 0, .slice none 0 0, .string (⟨#[]⟩ : ByteArray)]) ?_ 1 _ rfl; (with_reducible repeat (first | refine blk_drewN ?_ _ | refine blk_drew ?_ | refine blk_alloc ?_ _)); refine blk_put (cs := #[.int .i64 0, .slice none 0 0, .string (⟨#[]⟩ : ByteArray)]) ?_ 0 _ rfl; (with_reducible repeat (first | refine blk_drewN ?_ _ | refine blk_drew ?_ | refine blk_alloc ?_ _)); exact BK102.out) Tryz.underlying27 rfl (by kernel_rfl)) rfl ?_
      exact ⟨_, Re_, by first | exact Kd.R_nil _ _ _ _ _ | exact Kd.N_nil _ _ _ _ _ | exact Kd.V_nil _ _ _ _ _ | exact Kd.Q_nil _ _ _ _ _ | exact Kd.S_nil _ _ _ _ _, Bl_⟩
  · replace c3 := Bool.eq_false_iff.mpr c3
    subst c3
    have H1 : (some (0, ([] : List Int), (⟨#[]⟩ : ByteArray), 1)) = some (r1, r2, r3, r4) := by rw [if_neg (show ¬ (false = true) by decide)] at H; exact H
    clear H
    have H := H1
    clear H1
    simp only [Option.some.injEq, Prod.mk.injEq] at H
    obtain ⟨rfl, rfl, rfl, rfl⟩ := H
    go_enter Tryz.func63, Tryz.ntmps63
    go_wp2_with (first | ((with_reducible refine gate_dst (N := 1) rfl ?_); refine bx_ 1 #[.slice A0_0 l0_0.length c0_0, .slice A0_1 l0_1.length c0_1] 34 ?_; intro gb101 hg w39 hbox hb; have BK101 := Aside0.mk (hbox); have GW101 := (Bg_ hg : Aside0 (w.heap.size ≤ gb101)); have GE101 := (Bg_ hg : Aside0 (w.heap.size ≤ gb101)); replace HB := Bs_ hb; clear hb hbox hg) | ((with_reducible refine gate_dst (N := 2) rfl ?_); refine bx_ 2 #[.int .i64 0, .slice none 0 0, .string (⟨#[]⟩ : ByteArray)] 27 ?_; intro gb102 hg w40 hbox hb; have BK102 := Aside0.mk (hbox); have GW102 := (Bg_ hg : Aside0 (w.heap.size ≤ gb102)); have GE102 := (Bg_ hg : Aside0 (w.heap.size ≤ gb102)); replace HB := Bs_ hb; have NB101_102 := nl_ hg BK101; have NB102_101 := ng_ hg BK101; replace BK101 := kb_ BK101 hb; clear hb hbox hg; have hnb41 := NB101_102.out; have hnc41 := NB102_101.out; obtain ⟨hcz42_0, hcz42_1⟩ := c2_ BK101; obtain ⟨hfz42_0, hfz42_1⟩ := f2_ BK101) | ((with_reducible refine gate_callee (f := 60) rfl ?_); refine goesL_ (some 11) rfl rfl Tryz.func60 (by kernel_rfl) rfl #[.agg #[.slice A0_0 l0_0.length c0_0, .slice A0_1 l0_1.length c0_1]] rfl Ga_ ?_; (with_reducible refine (val_May.calls k _ _ l0_0 _ _ l0_1 false _ ?side1 ?side2 ?side3 ?side4 A2.out).mono ?_); (case side1 => exact Pc_ (Kd.C_below HR0_0.out HB.out)); (case side2 => exact HC0_0.out); (case side3 => exact Pc_ (Kd.C_below HR0_1.out HB.out)); (case side4 => exact HC0_1.out); rintro e w43 ⟨rfl, hb⟩; refine ⟨_, rfl, ?_⟩; replace BK101 := kb_ BK101 hb; replace BK102 := kb_ BK102 hb; replace HB := Bs_ hb; (try clear hb); (try clear hb2); (try clear hk); (try clear hi); obtain ⟨hcz44_0, hcz44_1, hcz44_2⟩ := c3_ BK102; obtain ⟨hfz44_0, hfz44_1, hfz44_2⟩ := f3_ BK102))
    refine bodyPost_ret (results_ct rfl _ _ gb102 27 #[.int .i64 0, .slice none 0 0, .string (⟨#[]⟩ : ByteArray)] (0, 0) _ rfl (by (with_reducible repeat (first | refine blk_drewN ?_ _ | refine blk_drew ?_ | refine blk_alloc ?_ _)); refine blk_put (cs := #[.int .i64 0, .slice none 0 0, .string (⟨#[]⟩ : ByteArray)]) ?_ 2 _ rfl; (with_reducible repeat (first | refine blk_drewN ?_ _ | refine blk_drew ?_ | refine blk_alloc ?_ _)); refine blk_put (cs := #[.int .i64 0, .slice none 0 0, .string (⟨#[]⟩ : ByteArray)]) ?_ 1 _ rfl; (with_reducible repeat (first | refine blk_drewN ?_ _ | refine blk_drew ?_ | refine blk_alloc ?_ _)); refine blk_put (cs := #[.int .i64 0, .slice none 0 0, .string (⟨#[]⟩ : ByteArray)]) ?_ 0 _ rfl; (with_reducible repeat (first | refine blk_drewN ?_ _ | refine blk_drew ?_ | refine blk_alloc ?_ _)); exact BK102.out) Tryz.underlying27 rfl (by kernel_rfl)) rfl ?_
    exact ⟨_, Re_, by first | exact Kd.R_nil _ _ _ _ _ | exact Kd.N_nil _ _ _ _ _ | exact Kd.V_nil _ _ _ _ _ | exact Kd.Q_nil _ _ _ _ _ | exact Kd.S_nil _ _ _ _ _, Bl_⟩
/-! ### reredoslaw05_shown: function 10 -/
theorem shown05_pack : typed_Pack.f 40 [2] [⟨#[49]⟩, ⟨#[45, 49]⟩] = some (8, [2], ⟨#[1, 255]⟩, 0) := by decide +kernel
theorem shown05_at : typed_Typed_At.f 40 8 [2] ⟨#[1, 255]⟩ 1 = some (-1, true) := by decide +kernel
theorem shown05_many : typed_Typed_Many.f 40 8 [2] ⟨#[1, 255]⟩ = some 2 := by decide +kernel
theorem shown05_may : typed_Typed_May.f 40 8 [2] ⟨#[1, 255]⟩ = some true := by decide +kernel
def reredoslaw05_shown.f : Option Bool := some true
set_option maxHeartbeats 2000000 in
theorem reredoslaw05_shown.calls (r : Bool) (w : World) (h : reredoslaw05_shown.f = some r) (hG : Glob w) : Calls Tryz.prog 10 #[] w fun e w' => e = .returned (.bool r) ∧ Below w.heap.size w w' := by
  obtain rfl := Option.some.inj h
  have hu25 := Tryz.underlying34
  have hu29 := Tryz.underlying27
  go_enter Tryz.func10, Tryz.ntmps10
  go_wp2_with fail
  obtain ⟨W0, hW0⟩ : ∃ W0, ((w.alloc (.cells #[.int .i64 2] 3)).alloc (.cells #[.string ⟨#[49]⟩, .string ⟨#[45, 49]⟩] 9)) = W0 := ⟨_, rfl⟩
  have hb0 : Below w.heap.size w W0 := by subst hW0; exact below_alloc (below_alloc (Below.refl _ _) _) _
  have hs0 : W0.heap.size = w.heap.size + 2 := by subst hW0; simp
  have hA : W0.heap[w.heap.size]? = some (.cells #[.int .i64 2] 3 (0, 0)) := by subst hW0; exact blk_alloc (by simpa using heap_alloc_new w _) _
  have hB : W0.heap[w.heap.size + 1]? = some (.cells #[.string ⟨#[49]⟩, .string ⟨#[45, 49]⟩] 9 (0, 0)) := by subst hW0; simpa using heap_alloc_new (w.alloc _) _
  rw [hW0]
  clear hW0
  refine (typed_Pack.calls 40 (some ⟨w.heap.size, 0, none⟩) 1 [2] (some ⟨w.heap.size + 1, 0, none⟩) 2 [⟨#[49]⟩, ⟨#[45, 49]⟩] 8 [2] ⟨#[1, 255]⟩ 0 W0 (row_lit (0 : Int) (by decide) hA) (by decide) (row_lit ByteArray.empty (by decide) hB) (by decide) shown05_pack (hG.below hb0)).mono ?_
  rintro e W1 ⟨v1, rfl, ho1, hb1⟩
  obtain ⟨A1, c1, rfl, hc1, hr1⟩ := Kd.R_reads ho1
  have hb01 := below_then hb0 hb0.size hb1
  have hs1 := hb1.size
  have HR1 := Aside0.mk hr1
  have HC1 := Aside0.mk hc1
  clear hA hB ho1 hr1 hc1 hb0 hb1
  go_wp2_with fail
  obtain ⟨W2, hW2⟩ : ∃ W2, W1.alloc (.cells #[.int .i64 8, .slice A1 1 c1, .string ⟨#[1, 255]⟩] 27) = W2 := ⟨_, rfl⟩
  have hb12 : Below W1.heap.size W1 W2 := by subst hW2; exact below_alloc (Below.refl _ _) _
  have hT : W2.heap[W1.heap.size]? = some (.cells #[.int .i64 8, .slice A1 1 c1, .string ⟨#[1, 255]⟩] 27 (0, 0)) := by subst hW2; simpa using heap_alloc_new W1 _
  rw [hW2]
  clear hW2
  have hb02 := below_then hb01 hb01.size hb12
  have HR2 := Aside0.mk (Kd.C_below HR1.out hb12)
  clear HR1
  refine (typed_Typed_At.calls 40 8 A1 c1 [2] ⟨#[1, 255]⟩ 1 (-1) true W2 HR2.out HC1.out shown05_at).mono ?_
  rintro e W3 ⟨rfl, hb3⟩
  have hT3 := (hb3.block _ (blk_lt hT)).trans hT
  have HR3 := Aside0.mk (Kd.C_below HR2.out hb3)
  have hb03 := below_then hb02 hb02.size hb3
  have t0 := blk_cell hT3 0
  have t1 := blk_cell hT3 1
  have t2 := blk_cell hT3 2
  clear HR2 hT hb3
  have HT3 := Aside0.mk hT3
  clear hT3
  go_wp2_with fail
  refine (typed_Typed_Many.calls 40 8 A1 c1 [2] ⟨#[1, 255]⟩ 2 W3 HR3.out HC1.out shown05_many).mono ?_
  rintro e W4 ⟨rfl, hb4⟩
  have hT4 := (hb4.block _ (blk_lt HT3.out)).trans HT3.out
  have HR4 := Aside0.mk (Kd.C_below HR3.out hb4)
  have hb04 := below_then hb03 hb03.size hb4
  clear HT3 HR3 hb4 t0 t1 t2
  have t0 := blk_cell hT4 0
  have t1 := blk_cell hT4 1
  have t2 := blk_cell hT4 2
  clear hT4
  go_wp2_with fail
  refine (typed_Typed_May.calls 40 8 A1 c1 [2] ⟨#[1, 255]⟩ true W4 HR4.out HC1.out shown05_may).mono ?_
  rintro e W5 ⟨rfl, hb5⟩
  have hb05 := below_then hb04 hb04.size hb5
  clear t0 t1 t2
  go_wp2_with fail
  go_ret
  exact ⟨rfl, hb05⟩
/-! ### reredoslaw05_few: function 11 -/
def reredoslaw05_few.f (a0_0 : Int) (l0_1 : List Int) (a0_2 : ByteArray) : Option (Bool) := if (a0_2.size : Int) ≤ 2400 then (some (decide ((l0_1.length : Int) ≤ 20))) else (some false)
set_option maxHeartbeats 8000000 in
set_option maxRecDepth 100000 in
theorem reredoslaw05_few.calls (a0_0 : Int) (A0_1 : Option Addr) (c0_1 : Nat) (l0_1 : List Int) (a0_2 : ByteArray) (r : Bool) (w : World) (hr0_1 : Kd.C (Kd.int .i64) w A0_1 l0_1.length l0_1) (hc0_1 : l0_1.length ≤ c0_1) (h : reredoslaw05_few.f a0_0 l0_1 a0_2 = some r) :
    Calls Tryz.prog 11 #[.agg #[.int .i64 a0_0, .slice A0_1 l0_1.length c0_1, .string a0_2]] w fun e w' => e = .returned (.bool r) ∧ Below w.heap.size w w' := by
  have hu24 := Tryz.underlying24
  have HR0_1 := Aside0.mk hr0_1
  have HC0_1 := Aside0.mk hc0_1
  clear hr0_1 hc0_1
  have HB := Aside0.mk (Below.refl w.heap.size w)
  have H : (if (a0_2.size : Int) ≤ 2400 then (some (decide ((l0_1.length : Int) ≤ 20))) else (some false)) = some r := h
  clear h
  by_cases c2 : (a0_2.size : Int) ≤ 2400
  · rw [if_pos c2] at H
    have c2b0 : decide ((a0_2.size : Int) ≤ 2400) = true := decide_eq_true c2
    have c2b1 : decide (a0_2.size ≤ 2400) = true := decide_eq_true (by omega)
    clear c2
    obtain rfl := Option.some.inj H
    go_enter Tryz.func11, Tryz.ntmps11
    go_wp2_with (first | ((with_reducible refine gate_dst (N := 1) rfl ?_); (try (refine gate_guard (by rfl) ?_; dsimp only)); refine bx_ 1 #[.int .i64 a0_0, .slice A0_1 l0_1.length c0_1, .string a0_2] 24 ?_; intro gb101 hg w3 hbox hb; have BK101 := Aside0.mk (hbox); have GW101 := (Bg_ hg : Aside0 (w.heap.size ≤ gb101)); have GE101 := (Bg_ hg : Aside0 (w.heap.size ≤ gb101)); replace HB := Bs_ hb; clear hb hbox hg; obtain ⟨hcz4_0, hcz4_1, hcz4_2⟩ := c3_ BK101; obtain ⟨hfz4_0, hfz4_1, hfz4_2⟩ := f3_ BK101))
    go_ret
    exact ⟨Re_, Bl_⟩
  · rw [if_neg c2] at H
    have c2b0 : decide ((a0_2.size : Int) ≤ 2400) = false := decide_eq_false c2
    have c2b1 : decide (a0_2.size ≤ 2400) = false := decide_eq_false (by omega)
    clear c2
    obtain rfl := Option.some.inj H
    go_enter Tryz.func11, Tryz.ntmps11
    go_wp2_with (first | ((with_reducible refine gate_dst (N := 1) rfl ?_); (try (refine gate_guard (by rfl) ?_; dsimp only)); refine bx_ 1 #[.int .i64 a0_0, .slice A0_1 l0_1.length c0_1, .string a0_2] 24 ?_; intro gb101 hg w5 hbox hb; have BK101 := Aside0.mk (hbox); have GW101 := (Bg_ hg : Aside0 (w.heap.size ≤ gb101)); have GE101 := (Bg_ hg : Aside0 (w.heap.size ≤ gb101)); replace HB := Bs_ hb; clear hb hbox hg; obtain ⟨hcz6_0, hcz6_1, hcz6_2⟩ := c3_ BK101; obtain ⟨hfz6_0, hfz6_1, hfz6_2⟩ := f3_ BK101))
    go_ret
    exact ⟨Re_, Bl_⟩
/-! ### reredoslaw05_made: function 12 -/
def reredoslaw05_made.f (a0_0 : Int) (l0_1 : List Int) (a0_2 : ByteArray) : Option (Int × List Int × ByteArray) := some (a0_0, l0_1, a0_2)
set_option maxHeartbeats 8000000 in
set_option maxRecDepth 100000 in
theorem reredoslaw05_made.calls (a0_0 : Int) (P0_1_ : Nat → Prop) (A0_1 : Option Addr) (c0_1 : Nat) (l0_1 : List Int) (a0_2 : ByteArray) (r1 : Int) (r2 : List Int) (r3 : ByteArray) (w : World) (hs0_1 : Kd.V (Kd.int .i64) 3 w w.heap.size (fun k_ => P0_1_ k_) (.slice A0_1 l0_1.length c0_1) l0_1) (h : reredoslaw05_made.f a0_0 l0_1 a0_2 = some (r1, r2, r3)) :
    Calls Tryz.prog 12 #[.agg #[.int .i64 a0_0, .slice A0_1 l0_1.length c0_1, .string a0_2]] w fun e w' => ∃ v1_ : Value, e = .returned (.agg #[.int .i64 r1, v1_, .string r3]) ∧ Kd.V (Kd.int .i64) 3 w' w.heap.size (fun k_ => (P0_1_ k_ ∨ w.heap.size ≤ k_)) v1_ r2 ∧ Below w.heap.size w w' := by
  have hu24 := Tryz.underlying24
  have hu27 := Tryz.underlying27
  have HO0_1 := Aside0.mk (show Kd.V (Kd.int .i64) 3 w w.heap.size (fun k_ => (P0_1_ k_ ∨ w.heap.size ≤ k_)) (.slice A0_1 l0_1.length c0_1) l0_1 from Kd.V_mono hs0_1 (fun k_ hk => .inl hk))
  have HB := Aside0.mk (Below.refl w.heap.size w)
  have H : (some (a0_0, l0_1, a0_2)) = some (r1, r2, r3) := h
  clear h
  simp only [Option.some.injEq, Prod.mk.injEq] at H
  obtain ⟨rfl, rfl, rfl⟩ := H
  go_enter Tryz.func12, Tryz.ntmps12
  go_wp2_with (first | ((with_reducible refine gate_dst (N := 1) rfl ?_); refine bx_ 1 #[.int .i64 a0_0, .slice A0_1 l0_1.length c0_1, .string a0_2] 24 ?_; intro gb101 hg w2 hbox hb; replace HO0_1 := Aside0.mk (Kd.V_below (Kd.V_elderB (Pv_ HO0_1.out) gb101 (Nat.le_of_eq hg.symm)) hb); have BK101 := Aside0.mk (hbox); have GW101 := (Bg_ hg : Aside0 (w.heap.size ≤ gb101)); have GE101 := (Bg_ hg : Aside0 (w.heap.size ≤ gb101)); replace HB := Bs_ hb; clear hb hbox hg) | ((with_reducible refine gate_dst (N := 2) rfl ?_); refine bx_ 2 #[.int .i64 0, .slice none 0 0, .string (⟨#[]⟩ : ByteArray)] 27 ?_; intro gb102 hg w3 hbox hb; replace HO0_1 := Aside0.mk (Kd.V_below (Kd.V_elderB (Pv_ HO0_1.out) gb102 (Nat.le_of_eq hg.symm)) hb); have BK102 := Aside0.mk (hbox); have GW102 := (Bg_ hg : Aside0 (w.heap.size ≤ gb102)); have GE102 := (Bg_ hg : Aside0 (w.heap.size ≤ gb102)); replace HB := Bs_ hb; have NB101_102 := nl_ hg BK101; have NB102_101 := ng_ hg BK101; replace BK101 := kb_ BK101 hb; clear hb hbox hg; have hnb4 := NB101_102.out; have hnc4 := NB102_101.out; obtain ⟨hcz5_0, hcz5_1, hcz5_2⟩ := c3_ BK101; obtain ⟨hfz5_0, hfz5_1, hfz5_2⟩ := f3_ BK101; obtain ⟨hcz6_0, hcz6_1, hcz6_2⟩ := c3_ BK102; obtain ⟨hfz6_0, hfz6_1, hfz6_2⟩ := f3_ BK102))
  refine bodyPost_ret (results_cell_row rfl _ _ gb102 27 #[.int .i64 a0_0, .slice A0_1 l0_1.length c0_1, .string a0_2] (0, 0) _ rfl (by (with_reducible repeat (first | refine blk_drewN ?_ _ | refine blk_drew ?_ | refine blk_alloc ?_ _)); refine blk_put (cs := #[.int .i64 a0_0, .slice A0_1 l0_1.length c0_1, .string (⟨#[]⟩ : ByteArray)]) ?_ 2 _ rfl; (with_reducible repeat (first | refine blk_drewN ?_ _ | refine blk_drew ?_ | refine blk_alloc ?_ _)); refine blk_put (cs := #[.int .i64 a0_0, .slice none 0 0, .string (⟨#[]⟩ : ByteArray)]) ?_ 1 _ rfl; (with_reducible repeat (first | refine blk_drewN ?_ _ | refine blk_drew ?_ | refine blk_alloc ?_ _)); refine blk_put (cs := #[.int .i64 0, .slice none 0 0, .string (⟨#[]⟩ : ByteArray)]) ?_ 0 _ rfl; (with_reducible repeat (first | refine blk_drewN ?_ _ | refine blk_drew ?_ | refine blk_alloc ?_ _)); exact BK102.out) Tryz.underlying27 rfl (by kernel_rfl)) rfl ?_
  exact ⟨_, Re_, by (with_reducible repeat (first | apply Kd.V_alloc | apply Kd.V_drewN | apply Kd.V_drew)); exact Kd.V_mono (Kd.V_far (p := ⟨gb102, 2, none⟩) (Kd.V_far (p := ⟨gb102, 1, none⟩) (Kd.V_far (p := ⟨gb102, 0, none⟩) (Kd.V_mono HO0_1.out (fun k_ hk => (⟨hk, hk.2⟩ : _ ∧ k_ ≠ gb102))) (fun _ hk => hk.2) (.int .i64 a0_0)) (fun _ hk => hk.2) (.slice A0_1 l0_1.length c0_1)) (fun _ hk => hk.2) (.string a0_2)) (fun _ hk => hk.1.1.1), Bl_⟩
/-! ### reredosref05_known: function 75 -/
def reredosref05_known.f (a0 : Int) : Option (Bool) := if a0 = 8 then (some true) else (if a0 = 16 then (some true) else (if a0 = 32 then (some true) else (some (a0 == 64))))
set_option maxHeartbeats 8000000 in
set_option maxRecDepth 100000 in
theorem reredosref05_known.calls (a0 : Int) (r : Bool) (w : World) (h : reredosref05_known.f a0 = some r) :
    Calls Tryz.prog 75 #[.int .i64 a0] w fun e w' => e = .returned (.bool r) ∧ Drawn0 w w' := by
  have H : (if a0 = 8 then (some true) else (if a0 = 16 then (some true) else (if a0 = 32 then (some true) else (some (a0 == 64))))) = some r := h
  clear h
  by_cases c2 : a0 = 8
  · rw [if_pos c2] at H
    have c2b0 : (a0 == 8) = true := beq_iff_eq.mpr c2
    have c2b1 : (a0 != 8) = false := bne_eq_false_iff_eq.mpr c2
    clear c2
    obtain rfl := Option.some.inj H
    go_enter Tryz.func75, Tryz.ntmps75
    go_wp2
    go_ret
    exact ⟨Rf_, Dw_⟩
  · rw [if_neg c2] at H
    have c2b0 : (a0 == 8) = false := beq_eq_false_iff_ne.mpr c2
    have c2b1 : (a0 != 8) = true := bne_iff_ne.mpr c2
    by_cases c3 : a0 = 16
    · rw [if_pos c3] at H
      have c3b0 : (a0 == 16) = true := beq_iff_eq.mpr c3
      have c3b1 : (a0 != 16) = false := bne_eq_false_iff_eq.mpr c3
      clear c3
      obtain rfl := Option.some.inj H
      go_enter Tryz.func75, Tryz.ntmps75
      go_wp2
      go_ret
      exact ⟨Rf_, Dw_⟩
    · rw [if_neg c3] at H
      have c3b0 : (a0 == 16) = false := beq_eq_false_iff_ne.mpr c3
      have c3b1 : (a0 != 16) = true := bne_iff_ne.mpr c3
      by_cases c4 : a0 = 32
      · rw [if_pos c4] at H
        have c4b0 : (a0 == 32) = true := beq_iff_eq.mpr c4
        have c4b1 : (a0 != 32) = false := bne_eq_false_iff_eq.mpr c4
        clear c4
        obtain rfl := Option.some.inj H
        go_enter Tryz.func75, Tryz.ntmps75
        go_wp2
        go_ret
        exact ⟨Rf_, Dw_⟩
      · rw [if_neg c4] at H
        have c4b0 : (a0 == 32) = false := beq_eq_false_iff_ne.mpr c4
        have c4b1 : (a0 != 32) = true := bne_iff_ne.mpr c4
        obtain rfl := Option.some.inj H
        go_enter Tryz.func75, Tryz.ntmps75
        go_wp2
        go_ret
        exact ⟨Rf_, Dw_⟩
/-! ### reredosref03_Size: function 79 -/
mutual
def reredosref03_Size.l0 : Nat → List Int → Bool → Int → Option (Int × Int)
  | 0, _, _, _ => none
  | k + 1, x0, x4, x5 => if x5 < (x0.length : Int) then (if 0 ≤ x5 then (if (rd x0 x5) < 0 then (some (0, 5)) else (if x4 = true then (reredosref03_Size.l0 k x0 true (wrap64 (x5 + 1))) else (reredosref03_Size.l0 k x0 ((rd x0 x5) == 0) (wrap64 (x5 + 1))))) else (none)) else (reredosref03_Size.l1 k x0 x4 0)
def reredosref03_Size.l1 : Nat → List Int → Bool → Int → Option (Int × Int)
  | 0, _, _, _ => none
  | k + 1, x0, x4, x6 => if x6 < (x0.length : Int) then (if 0 ≤ x6 then (if (rd x0 x6) > 1099511627776 then (some (0, 8)) else (reredosref03_Size.l1 k x0 x4 (wrap64 (x6 + 1)))) else (none)) else (if x4 = true then (some (0, 0)) else (reredosref03_Size.l2 k x0 1 0))
def reredosref03_Size.l2 : Nat → List Int → Int → Int → Option (Int × Int)
  | 0, _, _, _ => none
  | k + 1, x0, x7, x8 => if x8 < (x0.length : Int) then (if 0 ≤ x8 then (if (rd x0 x8) > 4096 then (some (0, 8)) else (if (wrap64 (x7 * (rd x0 x8))) > 4096 then (some (0, 8)) else (reredosref03_Size.l2 k x0 (wrap64 (x7 * (rd x0 x8))) (wrap64 (x8 + 1))))) else (none)) else (some (x7, 0))
end
def reredosref03_Size.f (k : Nat) (l0 : List Int) : Option (Int × Int) := if (l0.length : Int) > 3 then (some (0, 3)) else (reredosref03_Size.l0 k l0 false 0)
set_option maxHeartbeats 8000000 in
set_option maxRecDepth 100000 in
theorem reredosref03_Size.calls (k : Nat) (A0 : Option Addr) (c0 : Nat) (l0 : List Int) (r1 : Int) (r2 : Int) (w : World) (hr0 : Kd.C (Kd.int .i64) w A0 l0.length l0) (hc0 : l0.length ≤ c0) (h : reredosref03_Size.f k l0 = some (r1, r2)) :
    Calls Tryz.prog 79 #[.slice A0 l0.length c0] w fun e w' => e = .returned (.tuple #[.int .i64 r1, .int .i64 r2]) ∧ Drawn0 w w' := by
  have HR0 := Aside0.mk hr0
  have HC0 := Aside0.mk hc0
  clear hr0 hc0
  have H : (if (l0.length : Int) > 3 then (some (0, 3)) else (reredosref03_Size.l0 k l0 false 0)) = some (r1, r2) := h
  clear h
  by_cases c2 : (l0.length : Int) > 3
  · rw [if_pos c2] at H
    have c2b0 : decide (3 < (l0.length : Int)) = true := decide_eq_true c2
    have c2b1 : decide (3 < l0.length) = true := decide_eq_true (by omega)
    clear c2
    simp only [Option.some.injEq, Prod.mk.injEq] at H
    obtain ⟨rfl, rfl⟩ := H
    go_enter Tryz.func79, Tryz.ntmps79
    go_wp2
    go_ret2
    exact ⟨Rf_, Dw_⟩
  · rw [if_neg c2] at H
    have c2b0 : decide (3 < (l0.length : Int)) = false := decide_eq_false c2
    have c2b1 : decide (3 < l0.length) = false := decide_eq_false (by omega)
    clear c2
    have H' := Aside0.mk H
    clear H
    go_enter Tryz.func79, Tryz.ntmps79
    go_wp2
    go_loopg [4, 5] k (fun kq v4 v5 w' => ∃ (x4_1 : Bool) (x5_1 : Int), v4 = .bool x4_1 ∧ v5 = .int .i64 x5_1 ∧ Aside0 (reredosref03_Size.l0 kq l0 x4_1 x5_1 = some (r1, r2)) ∧ Aside0 (kq ≤ k) ∧ Drawn0 w w')
    case atStart => exact ⟨(false), (0), Rf_, Rf_, H', ⟨Nat.le_refl _⟩, Dw_⟩
    case round =>
      clear H'
      try clear c2
      try clear c2b0
      try clear c2b1
      try clear p2
      obtain ⟨x4_1, x5_1, rfl, rfl, HA, HK1, ⟨m1, rfl⟩⟩ := hrel
      cases gk with
      | zero => exact absurd HA.out (by simp [reredosref03_Size.l0])
      | succ k1 =>
        have H := HA.out
        clear HA
        simp only [reredosref03_Size.l0] at H
        by_cases c3 : x5_1 < (l0.length : Int)
        · rw [if_pos c3] at H
          have c3b0 : decide (x5_1 < (l0.length : Int)) = true := decide_eq_true c3
          clear c3
          by_cases c4 : 0 ≤ x5_1
          · rw [if_pos c4] at H
            have c4b0 : decide (0 ≤ x5_1) = true := decide_eq_true c4
            clear c4
            by_cases c5 : (rd l0 x5_1) < 0
            · rw [if_pos c5] at H
              have c5b0 : decide ((rd l0 x5_1) < 0) = true := decide_eq_true c5
              clear c5
              simp only [Option.some.injEq, Prod.mk.injEq] at H
              obtain ⟨rfl, rfl⟩ := H
              have p101 : 0 ≤ (x5_1 : Int) := of_decide_eq_true As_
              have q101 : x5_1 < (l0.length : Int) := of_decide_eq_true As_
              obtain ⟨ad101, e101, hx101_0⟩ := Kd.at_int HR0.out x5_1 p101 q101
              cases e101
              replace p101 := eq_true p101
              replace q101 := eq_true q101
              go_wp2
              go_ret2
              exact ⟨Rf_, Dw_⟩
            · rw [if_neg c5] at H
              have c5b0 : decide ((rd l0 x5_1) < 0) = false := decide_eq_false c5
              clear c5
              by_cases c6 : x4_1 = true
              · subst c6
                have H1 : (reredosref03_Size.l0 k1 l0 true (wrap64 (x5_1 + 1))) = some (r1, r2) := by rw [if_pos rfl] at H; exact H
                clear H
                have H := H1
                clear H1
                have H' := Aside0.mk H
                clear H
                have p101 : 0 ≤ (x5_1 : Int) := of_decide_eq_true As_
                have q101 : x5_1 < (l0.length : Int) := of_decide_eq_true As_
                obtain ⟨ad101, e101, hx101_0⟩ := Kd.at_int HR0.out x5_1 p101 q101
                cases e101
                replace p101 := eq_true p101
                replace q101 := eq_true q101
                go_wp2
                go_roundg k1
                case measure => have := HK1.out; omega
                case rel => exact ⟨(true), (wrap64 (x5_1 + 1)), Rf_, Rf_, H', ⟨by have := HK1.out; omega⟩, Dw_⟩
              · replace c6 := Bool.eq_false_iff.mpr c6
                subst c6
                have H1 : (reredosref03_Size.l0 k1 l0 ((rd l0 x5_1) == 0) (wrap64 (x5_1 + 1))) = some (r1, r2) := by rw [if_neg (show ¬ (false = true) by decide)] at H; exact H
                clear H
                have H := H1
                clear H1
                have H' := Aside0.mk H
                clear H
                have p101 : 0 ≤ (x5_1 : Int) := of_decide_eq_true As_
                have q101 : x5_1 < (l0.length : Int) := of_decide_eq_true As_
                obtain ⟨ad101, e101, hx101_0⟩ := Kd.at_int HR0.out x5_1 p101 q101
                cases e101
                replace p101 := eq_true p101
                replace q101 := eq_true q101
                have p102 : 0 ≤ (x5_1 : Int) := of_decide_eq_true As_
                have q102 : x5_1 < (l0.length : Int) := of_decide_eq_true As_
                obtain ⟨ad102, e102, hx102_0⟩ := Kd.at_int HR0.out x5_1 p102 q102
                obtain rfl : ad101 = ad102 := (by injection e102)
                replace p102 := eq_true p102
                replace q102 := eq_true q102
                go_wp2
                go_roundg k1
                case measure => have := HK1.out; omega
                case rel => exact ⟨(((rd l0 x5_1) == 0)), (wrap64 (x5_1 + 1)), Rf_, Rf_, H', ⟨by have := HK1.out; omega⟩, Dw_⟩
          · rw [if_neg c4] at H
            exact absurd H (by simp)
        · rw [if_neg c3] at H
          have c3b0 : decide (x5_1 < (l0.length : Int)) = false := decide_eq_false c3
          clear c3
          have H' := Aside0.mk H
          clear H
          go_wp2
          go_loopg [6] k1 (fun kq v6 w' => ∃ (x6_2 : Int), v6 = .int .i64 x6_2 ∧ Aside0 (reredosref03_Size.l1 kq l0 x4_1 x6_2 = some (r1, r2)) ∧ Aside0 (kq ≤ k1) ∧ Drawn0 w w')
          case atStart => exact ⟨(0), Rf_, H', ⟨Nat.le_refl _⟩, Dw_⟩
          case round =>
            clear H'
            try clear p1
            try clear q1
            try clear hx1
            try clear c2
            try clear c2b0
            try clear c2b1
            try clear p2
            try clear c3
            try clear c3b0
            try clear c4
            try clear c4b0
            try clear c5
            try clear c5b0
            try clear c6
            try clear p6
            try clear hx101_0
            try clear hx102_0
            try clear p101
            try clear p102
            try clear p2
            try clear q101
            try clear q102
            obtain ⟨x6_2, rfl, HA, HK2, ⟨m2, rfl⟩⟩ := hrel
            cases gk with
            | zero => exact absurd HA.out (by simp [reredosref03_Size.l1])
            | succ k2 =>
              have H := HA.out
              clear HA
              simp only [reredosref03_Size.l1] at H
              by_cases c7 : x6_2 < (l0.length : Int)
              · rw [if_pos c7] at H
                have c7b0 : decide (x6_2 < (l0.length : Int)) = true := decide_eq_true c7
                clear c7
                by_cases c8 : 0 ≤ x6_2
                · rw [if_pos c8] at H
                  have c8b0 : decide (0 ≤ x6_2) = true := decide_eq_true c8
                  clear c8
                  by_cases c9 : (rd l0 x6_2) > 1099511627776
                  · rw [if_pos c9] at H
                    have c9b0 : decide (1099511627776 < (rd l0 x6_2)) = true := decide_eq_true c9
                    clear c9
                    simp only [Option.some.injEq, Prod.mk.injEq] at H
                    obtain ⟨rfl, rfl⟩ := H
                    have p103 : 0 ≤ (x6_2 : Int) := of_decide_eq_true As_
                    have q103 : x6_2 < (l0.length : Int) := of_decide_eq_true As_
                    obtain ⟨ad103, e103, hx103_0⟩ := Kd.at_int HR0.out x6_2 p103 q103
                    cases e103
                    replace p103 := eq_true p103
                    replace q103 := eq_true q103
                    go_wp2
                    go_ret2
                    exact ⟨Rf_, Dw_⟩
                  · rw [if_neg c9] at H
                    have c9b0 : decide (1099511627776 < (rd l0 x6_2)) = false := decide_eq_false c9
                    clear c9
                    have H' := Aside0.mk H
                    clear H
                    have p103 : 0 ≤ (x6_2 : Int) := of_decide_eq_true As_
                    have q103 : x6_2 < (l0.length : Int) := of_decide_eq_true As_
                    obtain ⟨ad103, e103, hx103_0⟩ := Kd.at_int HR0.out x6_2 p103 q103
                    cases e103
                    replace p103 := eq_true p103
                    replace q103 := eq_true q103
                    go_wp2
                    go_roundg k2
                    case measure => have := HK1.out; have := HK2.out; omega
                    case rel => exact ⟨(wrap64 (x6_2 + 1)), Rf_, H', ⟨by have := HK1.out; have := HK2.out; omega⟩, Dw_⟩
                · rw [if_neg c8] at H
                  exact absurd H (by simp)
              · rw [if_neg c7] at H
                have c7b0 : decide (x6_2 < (l0.length : Int)) = false := decide_eq_false c7
                clear c7
                by_cases c10 : x4_1 = true
                · subst c10
                  have H1 : (some (0, 0)) = some (r1, r2) := by rw [if_pos rfl] at H; exact H
                  clear H
                  have H := H1
                  clear H1
                  simp only [Option.some.injEq, Prod.mk.injEq] at H
                  obtain ⟨rfl, rfl⟩ := H
                  go_wp2
                  go_ret2
                  exact ⟨Rf_, Dw_⟩
                · replace c10 := Bool.eq_false_iff.mpr c10
                  subst c10
                  have H1 : (reredosref03_Size.l2 k2 l0 1 0) = some (r1, r2) := by rw [if_neg (show ¬ (false = true) by decide)] at H; exact H
                  clear H
                  have H := H1
                  clear H1
                  have H' := Aside0.mk H
                  clear H
                  go_wp2
                  go_loopg [7, 8] k2 (fun kq v7 v8 w' => ∃ (x7_3 : Int) (x8_3 : Int), v7 = .int .i64 x7_3 ∧ v8 = .int .i64 x8_3 ∧ Aside0 (reredosref03_Size.l2 kq l0 x7_3 x8_3 = some (r1, r2)) ∧ Aside0 (kq ≤ k2) ∧ Drawn0 w w')
                  case atStart => exact ⟨(1), (0), Rf_, Rf_, H', ⟨Nat.le_refl _⟩, Dw_⟩
                  case round =>
                    clear H'
                    try clear c1
                    try clear p1
                    try clear q1
                    try clear hx1
                    try clear c2
                    try clear c2b0
                    try clear c2b1
                    try clear p2
                    try clear c3
                    try clear c3b0
                    try clear c4
                    try clear c4b0
                    try clear c5
                    try clear c5b0
                    try clear c6
                    try clear p6
                    try clear c7
                    try clear c7b0
                    try clear c8
                    try clear c8b0
                    try clear c9
                    try clear c9b0
                    try clear c10
                    try clear p10
                    try clear q10
                    try clear hx10
                    try clear hx101_0
                    try clear hx102_0
                    try clear hx103_0
                    try clear p1
                    try clear p101
                    try clear p102
                    try clear p103
                    try clear p2
                    try clear p6
                    try clear q1
                    try clear q101
                    try clear q102
                    try clear q103
                    obtain ⟨x7_3, x8_3, rfl, rfl, HA, HK3, ⟨m3, rfl⟩⟩ := hrel
                    cases gk with
                    | zero => exact absurd HA.out (by simp [reredosref03_Size.l2])
                    | succ k3 =>
                      have H := HA.out
                      clear HA
                      simp only [reredosref03_Size.l2] at H
                      by_cases c11 : x8_3 < (l0.length : Int)
                      · rw [if_pos c11] at H
                        have c11b0 : decide (x8_3 < (l0.length : Int)) = true := decide_eq_true c11
                        clear c11
                        by_cases c12 : 0 ≤ x8_3
                        · rw [if_pos c12] at H
                          have c12b0 : decide (0 ≤ x8_3) = true := decide_eq_true c12
                          clear c12
                          by_cases c13 : (rd l0 x8_3) > 4096
                          · rw [if_pos c13] at H
                            have c13b0 : decide (4096 < (rd l0 x8_3)) = true := decide_eq_true c13
                            clear c13
                            simp only [Option.some.injEq, Prod.mk.injEq] at H
                            obtain ⟨rfl, rfl⟩ := H
                            have p104 : 0 ≤ (x8_3 : Int) := of_decide_eq_true As_
                            have q104 : x8_3 < (l0.length : Int) := of_decide_eq_true As_
                            obtain ⟨ad104, e104, hx104_0⟩ := Kd.at_int HR0.out x8_3 p104 q104
                            cases e104
                            replace p104 := eq_true p104
                            replace q104 := eq_true q104
                            go_wp2
                            go_ret2
                            exact ⟨Rf_, Dw_⟩
                          · rw [if_neg c13] at H
                            have c13b0 : decide (4096 < (rd l0 x8_3)) = false := decide_eq_false c13
                            clear c13
                            by_cases c14 : (wrap64 (x7_3 * (rd l0 x8_3))) > 4096
                            · rw [if_pos c14] at H
                              have c14b0 : decide (4096 < (wrap64 (x7_3 * (rd l0 x8_3)))) = true := decide_eq_true c14
                              clear c14
                              simp only [Option.some.injEq, Prod.mk.injEq] at H
                              obtain ⟨rfl, rfl⟩ := H
                              have p104 : 0 ≤ (x8_3 : Int) := of_decide_eq_true As_
                              have q104 : x8_3 < (l0.length : Int) := of_decide_eq_true As_
                              obtain ⟨ad104, e104, hx104_0⟩ := Kd.at_int HR0.out x8_3 p104 q104
                              cases e104
                              replace p104 := eq_true p104
                              replace q104 := eq_true q104
                              have p105 : 0 ≤ (x8_3 : Int) := of_decide_eq_true As_
                              have q105 : x8_3 < (l0.length : Int) := of_decide_eq_true As_
                              obtain ⟨ad105, e105, hx105_0⟩ := Kd.at_int HR0.out x8_3 p105 q105
                              obtain rfl : ad104 = ad105 := (by injection e105)
                              replace p105 := eq_true p105
                              replace q105 := eq_true q105
                              go_wp2
                              go_ret2
                              exact ⟨Rf_, Dw_⟩
                            · rw [if_neg c14] at H
                              have c14b0 : decide (4096 < (wrap64 (x7_3 * (rd l0 x8_3)))) = false := decide_eq_false c14
                              clear c14
                              have H' := Aside0.mk H
                              clear H
                              have p104 : 0 ≤ (x8_3 : Int) := of_decide_eq_true As_
                              have q104 : x8_3 < (l0.length : Int) := of_decide_eq_true As_
                              obtain ⟨ad104, e104, hx104_0⟩ := Kd.at_int HR0.out x8_3 p104 q104
                              cases e104
                              replace p104 := eq_true p104
                              replace q104 := eq_true q104
                              have p105 : 0 ≤ (x8_3 : Int) := of_decide_eq_true As_
                              have q105 : x8_3 < (l0.length : Int) := of_decide_eq_true As_
                              obtain ⟨ad105, e105, hx105_0⟩ := Kd.at_int HR0.out x8_3 p105 q105
                              obtain rfl : ad104 = ad105 := (by injection e105)
                              replace p105 := eq_true p105
                              replace q105 := eq_true q105
                              have p106 : 0 ≤ (x8_3 : Int) := of_decide_eq_true As_
                              have q106 : x8_3 < (l0.length : Int) := of_decide_eq_true As_
                              obtain ⟨ad106, e106, hx106_0⟩ := Kd.at_int HR0.out x8_3 p106 q106
                              obtain rfl : ad104 = ad106 := (by injection e106)
                              replace p106 := eq_true p106
                              replace q106 := eq_true q106
                              go_wp2
                              go_roundg k3
                              case measure => have := HK1.out; have := HK2.out; have := HK3.out; omega
                              case rel => exact ⟨(wrap64 (x7_3 * (rd l0 x8_3))), (wrap64 (x8_3 + 1)), Rf_, Rf_, H', ⟨by have := HK1.out; have := HK2.out; have := HK3.out; omega⟩, Dw_⟩
                        · rw [if_neg c12] at H
                          exact absurd H (by simp)
                      · rw [if_neg c11] at H
                        have c11b0 : decide (x8_3 < (l0.length : Int)) = false := decide_eq_false c11
                        clear c11
                        simp only [Option.some.injEq, Prod.mk.injEq] at H
                        obtain ⟨rfl, rfl⟩ := H
                        go_wp2
                        go_ret2
                        exact ⟨Rf_, Dw_⟩
/-! ### reredosref05_May: function 20 -/
def reredosref05_May.f (k : Nat) (a0_0 : Int) (l0_1 : List Int) (a0_2 : ByteArray) : Option (Bool) := (reredosref03_Size.f k l0_1).bind fun bt102 => ((reredosref05_known.f a0_0).bind fun t104 => (if t104 = true then (if bt102.2 = 0 then (some ((wrap64 (8 * (a0_2.size : Int))) == (wrap64 (bt102.1 * a0_0)))) else (some false)) else (some false)))
set_option maxHeartbeats 8000000 in
set_option maxRecDepth 100000 in
theorem reredosref05_May.calls (k : Nat) (a0_0 : Int) (A0_1 : Option Addr) (c0_1 : Nat) (l0_1 : List Int) (a0_2 : ByteArray) (r : Bool) (w : World) (hr0_1 : Kd.C (Kd.int .i64) w A0_1 l0_1.length l0_1) (hc0_1 : l0_1.length ≤ c0_1) (h : reredosref05_May.f k a0_0 l0_1 a0_2 = some r) :
    Calls Tryz.prog 20 #[.agg #[.int .i64 a0_0, .slice A0_1 l0_1.length c0_1, .string a0_2]] w fun e w' => e = .returned (.bool r) ∧ Below w.heap.size w w' := by
  have hu24 := Tryz.underlying24
  have HR0_1 := Aside0.mk hr0_1
  have HC0_1 := Aside0.mk hc0_1
  clear hr0_1 hc0_1
  have HB := Aside0.mk (Below.refl w.heap.size w)
  have H : ((reredosref03_Size.f k l0_1).bind fun bt102 => ((reredosref05_known.f a0_0).bind fun t104 => (if t104 = true then (if bt102.2 = 0 then (some ((wrap64 (8 * (a0_2.size : Int))) == (wrap64 (bt102.1 * a0_0)))) else (some false)) else (some false)))) = some r := h
  clear h
  obtain ⟨⟨t102, t103⟩, A2, H⟩ := bnd_ H
  try dsimp -simprocs only at H
  obtain ⟨t104, A3, H⟩ := bnd_ H
  try dsimp -simprocs only at H
  by_cases c4 : t104 = true
  · subst c4
    have H1 : (if t103 = 0 then (some ((wrap64 (8 * (a0_2.size : Int))) == (wrap64 (t102 * a0_0)))) else (some false)) = some r := by rw [if_pos rfl] at H; exact H
    clear H
    have H := H1
    clear H1
    by_cases c5 : t103 = 0
    · rw [if_pos c5] at H
      have c5b0 : (t103 == 0) = true := beq_iff_eq.mpr c5
      have c5b1 : (t103 != 0) = false := bne_eq_false_iff_eq.mpr c5
      clear c5
      obtain rfl := Option.some.inj H
      go_enter Tryz.func20, Tryz.ntmps20
      go_wp2_with (first | ((with_reducible refine gate_dst (N := 1) rfl ?_); (try (refine gate_guard (by rfl) ?_; dsimp only)); refine bx_ 1 #[.int .i64 a0_0, .slice A0_1 l0_1.length c0_1, .string a0_2] 24 ?_; intro gb101 hg w6 hbox hb; have BK101 := Aside0.mk (hbox); have GW101 := (Bg_ hg : Aside0 (w.heap.size ≤ gb101)); have GE101 := (Bg_ hg : Aside0 (w.heap.size ≤ gb101)); replace HB := Bs_ hb; clear hb hbox hg; obtain ⟨hcz7_0, hcz7_1, hcz7_2⟩ := c3_ BK101; obtain ⟨hfz7_0, hfz7_1, hfz7_2⟩ := f3_ BK101) | ((with_reducible refine gate_callee (f := 79) rfl ?_); refine goesL_ (some 8) rfl rfl Tryz.func79 (by kernel_rfl) rfl #[.slice A0_1 l0_1.length c0_1] rfl Ga_ ?_; (with_reducible refine (reredosref03_Size.calls k _ _ l0_1 t102 t103 _ ?side1 ?side2 A2.out).mono ?_); (case side1 => exact Pc_ (Kd.C_below HR0_1.out HB.out)); (case side2 => exact HC0_1.out); rintro e w' ⟨rfl, ⟨nd, rfl⟩⟩; refine ⟨_, rfl, ?_⟩) | ((with_reducible refine gate_callee (f := 75) rfl ?_); refine goesL_ (some 13) rfl rfl Tryz.func75 (by kernel_rfl) rfl #[.int .i64 a0_0] rfl Ga_ ?_; (with_reducible refine (reredosref05_known.calls a0_0 true _ A3.out).mono ?_); rintro e w' ⟨rfl, ⟨nd, rfl⟩⟩; refine ⟨_, rfl, ?_⟩))
      go_ret
      exact ⟨Re_, Bl_⟩
    · rw [if_neg c5] at H
      have c5b0 : (t103 == 0) = false := beq_eq_false_iff_ne.mpr c5
      have c5b1 : (t103 != 0) = true := bne_iff_ne.mpr c5
      obtain rfl := Option.some.inj H
      go_enter Tryz.func20, Tryz.ntmps20
      go_wp2_with (first | ((with_reducible refine gate_dst (N := 1) rfl ?_); (try (refine gate_guard (by rfl) ?_; dsimp only)); refine bx_ 1 #[.int .i64 a0_0, .slice A0_1 l0_1.length c0_1, .string a0_2] 24 ?_; intro gb101 hg w8 hbox hb; have BK101 := Aside0.mk (hbox); have GW101 := (Bg_ hg : Aside0 (w.heap.size ≤ gb101)); have GE101 := (Bg_ hg : Aside0 (w.heap.size ≤ gb101)); replace HB := Bs_ hb; clear hb hbox hg; obtain ⟨hcz9_0, hcz9_1, hcz9_2⟩ := c3_ BK101; obtain ⟨hfz9_0, hfz9_1, hfz9_2⟩ := f3_ BK101) | ((with_reducible refine gate_callee (f := 79) rfl ?_); refine goesL_ (some 8) rfl rfl Tryz.func79 (by kernel_rfl) rfl #[.slice A0_1 l0_1.length c0_1] rfl Ga_ ?_; (with_reducible refine (reredosref03_Size.calls k _ _ l0_1 t102 t103 _ ?side1 ?side2 A2.out).mono ?_); (case side1 => exact Pc_ (Kd.C_below HR0_1.out HB.out)); (case side2 => exact HC0_1.out); rintro e w' ⟨rfl, ⟨nd, rfl⟩⟩; refine ⟨_, rfl, ?_⟩) | ((with_reducible refine gate_callee (f := 75) rfl ?_); refine goesL_ (some 13) rfl rfl Tryz.func75 (by kernel_rfl) rfl #[.int .i64 a0_0] rfl Ga_ ?_; (with_reducible refine (reredosref05_known.calls a0_0 true _ A3.out).mono ?_); rintro e w' ⟨rfl, ⟨nd, rfl⟩⟩; refine ⟨_, rfl, ?_⟩))
      go_ret
      exact ⟨Re_, Bl_⟩
  · replace c4 := Bool.eq_false_iff.mpr c4
    subst c4
    have H1 : (some false) = some r := by rw [if_neg (show ¬ (false = true) by decide)] at H; exact H
    clear H
    have H := H1
    clear H1
    obtain rfl := Option.some.inj H
    go_enter Tryz.func20, Tryz.ntmps20
    go_wp2_with (first | ((with_reducible refine gate_dst (N := 1) rfl ?_); (try (refine gate_guard (by rfl) ?_; dsimp only)); refine bx_ 1 #[.int .i64 a0_0, .slice A0_1 l0_1.length c0_1, .string a0_2] 24 ?_; intro gb101 hg w10 hbox hb; have BK101 := Aside0.mk (hbox); have GW101 := (Bg_ hg : Aside0 (w.heap.size ≤ gb101)); have GE101 := (Bg_ hg : Aside0 (w.heap.size ≤ gb101)); replace HB := Bs_ hb; clear hb hbox hg; obtain ⟨hcz11_0, hcz11_1, hcz11_2⟩ := c3_ BK101; obtain ⟨hfz11_0, hfz11_1, hfz11_2⟩ := f3_ BK101) | ((with_reducible refine gate_callee (f := 79) rfl ?_); refine goesL_ (some 8) rfl rfl Tryz.func79 (by kernel_rfl) rfl #[.slice A0_1 l0_1.length c0_1] rfl Ga_ ?_; (with_reducible refine (reredosref03_Size.calls k _ _ l0_1 t102 t103 _ ?side1 ?side2 A2.out).mono ?_); (case side1 => exact Pc_ (Kd.C_below HR0_1.out HB.out)); (case side2 => exact HC0_1.out); rintro e w' ⟨rfl, ⟨nd, rfl⟩⟩; refine ⟨_, rfl, ?_⟩) | ((with_reducible refine gate_callee (f := 75) rfl ?_); refine goesL_ (some 13) rfl rfl Tryz.func75 (by kernel_rfl) rfl #[.int .i64 a0_0] rfl Ga_ ?_; (with_reducible refine (reredosref05_known.calls a0_0 false _ A3.out).mono ?_); rintro e w' ⟨rfl, ⟨nd, rfl⟩⟩; refine ⟨_, rfl, ?_⟩))
    go_ret
    exact ⟨Re_, Bl_⟩
/-! ### reredosref05_Many: function 22 -/
def reredosref05_Many.f (k : Nat) (a0_0 : Int) (l0_1 : List Int) (a0_2 : ByteArray) : Option (Int) := (reredosref03_Size.f k l0_1).bind fun bt102 => ((reredosref05_May.f k a0_0 l0_1 a0_2).bind fun t104 => (if t104 = true then (some bt102.1) else (some 0)))
set_option maxHeartbeats 8000000 in
set_option maxRecDepth 100000 in
theorem reredosref05_Many.calls (k : Nat) (a0_0 : Int) (A0_1 : Option Addr) (c0_1 : Nat) (l0_1 : List Int) (a0_2 : ByteArray) (r : Int) (w : World) (hr0_1 : Kd.C (Kd.int .i64) w A0_1 l0_1.length l0_1) (hc0_1 : l0_1.length ≤ c0_1) (h : reredosref05_Many.f k a0_0 l0_1 a0_2 = some r) :
    Calls Tryz.prog 22 #[.agg #[.int .i64 a0_0, .slice A0_1 l0_1.length c0_1, .string a0_2]] w fun e w' => e = .returned (.int .i64 r) ∧ Below w.heap.size w w' := by
  have hu24 := Tryz.underlying24
  have HR0_1 := Aside0.mk hr0_1
  have HC0_1 := Aside0.mk hc0_1
  clear hr0_1 hc0_1
  have HB := Aside0.mk (Below.refl w.heap.size w)
  have H : ((reredosref03_Size.f k l0_1).bind fun bt102 => ((reredosref05_May.f k a0_0 l0_1 a0_2).bind fun t104 => (if t104 = true then (some bt102.1) else (some 0)))) = some r := h
  clear h
  obtain ⟨⟨t102, t103⟩, A2, H⟩ := bnd_ H
  try dsimp -simprocs only at H
  obtain ⟨t104, A3, H⟩ := bnd_ H
  try dsimp -simprocs only at H
  by_cases c4 : t104 = true
  · subst c4
    have H1 : (some t102) = some r := by rw [if_pos rfl] at H; exact H
    clear H
    have H := H1
    clear H1
    obtain rfl := Option.some.inj H
    go_enter Tryz.func22, Tryz.ntmps22
    go_wp2_with (first | ((with_reducible refine gate_dst (N := 1) rfl ?_); refine bx_ 1 #[.int .i64 a0_0, .slice A0_1 l0_1.length c0_1, .string a0_2] 24 ?_; intro gb101 hg w5 hbox hb; have BK101 := Aside0.mk (hbox); have GW101 := (Bg_ hg : Aside0 (w.heap.size ≤ gb101)); have GE101 := (Bg_ hg : Aside0 (w.heap.size ≤ gb101)); replace HB := Bs_ hb; clear hb hbox hg; obtain ⟨hcz6_0, hcz6_1, hcz6_2⟩ := c3_ BK101; obtain ⟨hfz6_0, hfz6_1, hfz6_2⟩ := f3_ BK101) | ((with_reducible refine gate_callee (f := 79) rfl ?_); refine goesL_ (some 8) rfl rfl Tryz.func79 (by kernel_rfl) rfl #[.slice A0_1 l0_1.length c0_1] rfl Ga_ ?_; (with_reducible refine (reredosref03_Size.calls k _ _ l0_1 t102 t103 _ ?side1 ?side2 A2.out).mono ?_); (case side1 => exact Pc_ (Kd.C_below HR0_1.out HB.out)); (case side2 => exact HC0_1.out); rintro e w' ⟨rfl, ⟨nd, rfl⟩⟩; refine ⟨_, rfl, ?_⟩) | ((with_reducible refine gate_callee (f := 20) rfl ?_); refine goesL_ (some 12) rfl rfl Tryz.func20 (by kernel_rfl) rfl #[.agg #[.int .i64 a0_0, .slice A0_1 l0_1.length c0_1, .string a0_2]] rfl Ga_ ?_; (with_reducible refine (reredosref05_May.calls k a0_0 _ _ l0_1 a0_2 true _ ?side1 ?side2 A3.out).mono ?_); (case side1 => exact Pc_ (Kd.C_below HR0_1.out Bl_)); (case side2 => exact HC0_1.out); rintro e w7 ⟨rfl, hb⟩; refine ⟨_, rfl, ?_⟩; replace BK101 := kb_ BK101 hb; replace HB := Bs_ hb; (try clear hb); (try clear hb2); (try clear hk); (try clear hi)))
    go_ret
    exact ⟨Re_, Bl_⟩
  · replace c4 := Bool.eq_false_iff.mpr c4
    subst c4
    have H1 : (some 0) = some r := by rw [if_neg (show ¬ (false = true) by decide)] at H; exact H
    clear H
    have H := H1
    clear H1
    obtain rfl := Option.some.inj H
    go_enter Tryz.func22, Tryz.ntmps22
    go_wp2_with (first | ((with_reducible refine gate_dst (N := 1) rfl ?_); refine bx_ 1 #[.int .i64 a0_0, .slice A0_1 l0_1.length c0_1, .string a0_2] 24 ?_; intro gb101 hg w8 hbox hb; have BK101 := Aside0.mk (hbox); have GW101 := (Bg_ hg : Aside0 (w.heap.size ≤ gb101)); have GE101 := (Bg_ hg : Aside0 (w.heap.size ≤ gb101)); replace HB := Bs_ hb; clear hb hbox hg; obtain ⟨hcz9_0, hcz9_1, hcz9_2⟩ := c3_ BK101; obtain ⟨hfz9_0, hfz9_1, hfz9_2⟩ := f3_ BK101) | ((with_reducible refine gate_callee (f := 79) rfl ?_); refine goesL_ (some 8) rfl rfl Tryz.func79 (by kernel_rfl) rfl #[.slice A0_1 l0_1.length c0_1] rfl Ga_ ?_; (with_reducible refine (reredosref03_Size.calls k _ _ l0_1 t102 t103 _ ?side1 ?side2 A2.out).mono ?_); (case side1 => exact Pc_ (Kd.C_below HR0_1.out HB.out)); (case side2 => exact HC0_1.out); rintro e w' ⟨rfl, ⟨nd, rfl⟩⟩; refine ⟨_, rfl, ?_⟩) | ((with_reducible refine gate_callee (f := 20) rfl ?_); refine goesL_ (some 12) rfl rfl Tryz.func20 (by kernel_rfl) rfl #[.agg #[.int .i64 a0_0, .slice A0_1 l0_1.length c0_1, .string a0_2]] rfl Ga_ ?_; (with_reducible refine (reredosref05_May.calls k a0_0 _ _ l0_1 a0_2 false _ ?side1 ?side2 A3.out).mono ?_); (case side1 => exact Pc_ (Kd.C_below HR0_1.out Bl_)); (case side2 => exact HC0_1.out); rintro e w10 ⟨rfl, hb⟩; refine ⟨_, rfl, ?_⟩; replace BK101 := kb_ BK101 hb; replace HB := Bs_ hb; (try clear hb); (try clear hb2); (try clear hk); (try clear hi)))
    go_ret
    exact ⟨Re_, Bl_⟩
/-! ### reredosref05_low: function 65 -/
def reredosref05_low.f (a0 : ByteArray) : Option (Bool) := if a0.toList = ([] : List UInt8) then (some false) else (if 0 < (a0.size : Int) then (some (decide ((bt a0 0) ≥ 128))) else (none))
set_option maxHeartbeats 8000000 in
set_option maxRecDepth 100000 in
theorem reredosref05_low.calls (a0 : ByteArray) (r : Bool) (w : World) (h : reredosref05_low.f a0 = some r) :
    Calls Tryz.prog 65 #[.string a0] w fun e w' => e = .returned (.bool r) ∧ Drawn0 w w' := by
  have H : (if a0.toList = ([] : List UInt8) then (some false) else (if 0 < (a0.size : Int) then (some (decide ((bt a0 0) ≥ 128))) else (none))) = some r := h
  clear h
  by_cases c2 : a0.toList = ([] : List UInt8)
  · rw [if_pos c2] at H
    have c2b0 : (a0.toList == ([] : List UInt8)) = true := beq_iff_eq.mpr c2
    have c2b1 : (a0.toList != ([] : List UInt8)) = false := bne_eq_false_iff_eq.mpr c2
    clear c2
    obtain rfl := Option.some.inj H
    go_enter Tryz.func65, Tryz.ntmps65
    go_wp2
    go_ret
    exact ⟨Rf_, Dw_⟩
  · rw [if_neg c2] at H
    have c2b0 : (a0.toList == ([] : List UInt8)) = false := beq_eq_false_iff_ne.mpr c2
    have c2b1 : (a0.toList != ([] : List UInt8)) = true := bne_iff_ne.mpr c2
    by_cases c3 : 0 < (a0.size : Int)
    · rw [if_pos c3] at H
      have c3b0 : decide (0 < (a0.size : Int)) = true := decide_eq_true c3
      have c3b1 : decide (0 < a0.size) = true := decide_eq_true (by omega)
      clear c3
      obtain rfl := Option.some.inj H
      have p4 : 0 ≤ (0 : Int) := (by omega)
      have q4 : 0 < a0.size := (by have : (0 : Int) < (a0.size : Int) := of_decide_eq_true As_; omega)
      have hx4 : ∀ h : 0 < a0.size, ((a0[0]'h).toNat : Int) = bt a0 0 := bt_at a0 0
      clear p4
      have qi4 : (0 < (a0.size : Int)) = True := eq_true (of_decide_eq_true As_)
      replace q4 := eq_true q4
      go_enter Tryz.func65, Tryz.ntmps65
      go_wp2
      go_ret
      exact ⟨Rf_, Dw_⟩
    · rw [if_neg c3] at H
      exact absurd H (by simp)
/-! ### reredosref05_At: function 14 -/
mutual
def reredosref05_At.j0 : Nat → Int → Bool → Int → List Int → ByteArray → Option (Int × Bool)
  | 0, _, _, _, _, _ => none
  | k + 1, x1, x22, x102000, x102001, x102002 => if x22 = true then (some (0, false)) else (if 0 ≤ (wrap64 (x1 * (wrap64 (Int.tdiv x102000 8)))) then (if (wrap64 (x1 * (wrap64 (Int.tdiv x102000 8)))) ≤ (wrap64 ((wrap64 (x1 + 1)) * (wrap64 (Int.tdiv x102000 8)))) then (if (wrap64 ((wrap64 (x1 + 1)) * (wrap64 (Int.tdiv x102000 8)))) ≤ (x102002.size : Int) then (reredosref05_At.l0 k (wrap64 (Int.tdiv x102000 8)) (x102002.extract ((wrap64 (x1 * (wrap64 (Int.tdiv x102000 8)))) : Int).toNat ((wrap64 ((wrap64 (x1 + 1)) * (wrap64 (Int.tdiv x102000 8)))) : Int).toNat) 0 0) else (none)) else (none)) else (none))
def reredosref05_At.l0 : Nat → Int → ByteArray → Int → Int → Option (Int × Bool)
  | 0, _, _, _, _ => none
  | k + 1, x6, x7, x8, x9 => if x9 < x6 then ((reredosref05_low.f x7).bind fun t104 => (if t104 = true then (if 0 ≤ x9 then (if x9 < (x7.size : Int) then (reredosref05_At.l0 k x6 x7 (wrap64 ((wrap64 (256 * x8)) - (wrap64 (255 - (wrap64 (bt x7 x9)))))) (wrap64 (x9 + 1))) else (none)) else (none)) else (if 0 ≤ x9 then (if x9 < (x7.size : Int) then (reredosref05_At.l0 k x6 x7 (wrap64 ((wrap64 (256 * x8)) + (wrap64 (bt x7 x9)))) (wrap64 (x9 + 1))) else (none)) else (none)))) else ((reredosref05_low.f x7).bind fun t105 => (if t105 = true then (some (wrap64 (x8 - 1), true)) else (some (x8, true))))
end
def reredosref05_At.f (k : Nat) (a0_0 : Int) (l0_1 : List Int) (a0_2 : ByteArray) (a1 : Int) : Option (Int × Bool) := (reredosref05_May.f k a0_0 l0_1 a0_2).bind fun t102 => (if t102 = true then (if a1 < 0 then (reredosref05_At.j0 k a1 true a0_0 l0_1 a0_2) else ((reredosref05_Many.f k a0_0 l0_1 a0_2).bind fun t103 => (reredosref05_At.j0 k a1 (decide (a1 ≥ t103)) a0_0 l0_1 a0_2))) else (reredosref05_At.j0 k a1 true a0_0 l0_1 a0_2))
set_option maxHeartbeats 8000000 in
set_option maxRecDepth 100000 in
theorem reredosref05_At.calls (k : Nat) (a0_0 : Int) (A0_1 : Option Addr) (c0_1 : Nat) (l0_1 : List Int) (a0_2 : ByteArray) (a1 : Int) (r1 : Int) (r2 : Bool) (w : World) (hr0_1 : Kd.C (Kd.int .i64) w A0_1 l0_1.length l0_1) (hc0_1 : l0_1.length ≤ c0_1) (h : reredosref05_At.f k a0_0 l0_1 a0_2 a1 = some (r1, r2)) :
    Calls Tryz.prog 14 #[.agg #[.int .i64 a0_0, .slice A0_1 l0_1.length c0_1, .string a0_2], .int .i64 a1] w fun e w' => e = .returned (.tuple #[.int .i64 r1, .bool r2]) ∧ Below w.heap.size w w' := by
  have hu24 := Tryz.underlying24
  have HR0_1 := Aside0.mk hr0_1
  have HC0_1 := Aside0.mk hc0_1
  clear hr0_1 hc0_1
  have HB := Aside0.mk (Below.refl w.heap.size w)
  have H : ((reredosref05_May.f k a0_0 l0_1 a0_2).bind fun t102 => (if t102 = true then (if a1 < 0 then (reredosref05_At.j0 k a1 true a0_0 l0_1 a0_2) else ((reredosref05_Many.f k a0_0 l0_1 a0_2).bind fun t103 => (reredosref05_At.j0 k a1 (decide (a1 ≥ t103)) a0_0 l0_1 a0_2))) else (reredosref05_At.j0 k a1 true a0_0 l0_1 a0_2))) = some (r1, r2) := h
  clear h
  have HC3 := Aside0.mk H
  clear H
  go_enter Tryz.func14, Tryz.ntmps14
  go_upto_region 1 with (first | ((with_reducible refine gate_dst (N := 2) rfl ?_); refine bx_ 2 #[.int .i64 a0_0, .slice A0_1 l0_1.length c0_1, .string a0_2] 24 ?_; intro gb101 hg w4 hbox hb; have BK101 := Aside0.mk (hbox); have GW101 := (Bg_ hg : Aside0 (w.heap.size ≤ gb101)); have GE101 := (Bg_ hg : Aside0 (w.heap.size ≤ gb101)); replace HB := Bs_ hb; clear hb hbox hg))
  (try simp only [Act.put, List.setIfInBounds_toArray, List.set_cons_zero, List.set_cons_succ])
  go_cut [22] (fun v22 wc => ∃ (kq : Nat) (x22_2 : Bool), v22 = .bool x22_2 ∧ Aside0 (reredosref05_At.j0 kq a1 x22_2 a0_0 l0_1 a0_2 = some (r1, r2)) ∧ Aside0 (kq ≤ k) ∧ Aside0 (wc.heap[gb101]? = some (.cells #[.int .i64 a0_0, (.slice A0_1 l0_1.length c0_1), .string a0_2] 24 (0, 0))) ∧ Aside0 (Below w.heap.size w wc))
  case first =>
    have H := HC3.out
    clear HC3
    obtain ⟨t102, A5, H⟩ := bnd_ H
    try dsimp -simprocs only at H
    by_cases c6 : t102 = true
    · subst c6
      have H1 : (if a1 < 0 then (reredosref05_At.j0 k a1 true a0_0 l0_1 a0_2) else ((reredosref05_Many.f k a0_0 l0_1 a0_2).bind fun t103 => (reredosref05_At.j0 k a1 (decide (a1 ≥ t103)) a0_0 l0_1 a0_2))) = some (r1, r2) := by rw [if_pos rfl] at H; exact H
      clear H
      have H := H1
      clear H1
      by_cases c7 : a1 < 0
      · rw [if_pos c7] at H
        have c7b0 : decide (a1 < 0) = true := decide_eq_true c7
        clear c7
        (first | rw [c7b0] | (simp only [i64_w, i32_w]; rw [c7b0]) | skip)
        have H' := Aside0.mk H
        clear H
        obtain ⟨hcz8_0, hcz8_1, hcz8_2⟩ := c3_ BK101
        obtain ⟨hfz8_0, hfz8_1, hfz8_2⟩ := f3_ BK101
        go_wp2_with (first | ((with_reducible refine gate_callee (f := 20) rfl ?_); refine goesL_ (some 11) rfl rfl Tryz.func20 (by kernel_rfl) rfl #[.agg #[.int .i64 a0_0, .slice A0_1 l0_1.length c0_1, .string a0_2]] rfl Ga_ ?_; (with_reducible refine (reredosref05_May.calls k a0_0 _ _ l0_1 a0_2 true _ ?side1 ?side2 A5.out).mono ?_); (case side1 => exact Pc_ (Kd.C_below HR0_1.out HB.out)); (case side2 => exact HC0_1.out); rintro e w9 ⟨rfl, hb⟩; refine ⟨_, rfl, ?_⟩; replace BK101 := kb_ BK101 hb; replace HB := Bs_ hb; (try clear hb); (try clear hb2); (try clear hk); (try clear hi)))
        go_meet
        case rel => exact ⟨_, (true), Rf_, H', ⟨by first | omega | exact Nat.le_refl _⟩, ⟨by (with_reducible repeat (first | refine blk_drewN ?_ _ | refine blk_drew ?_ | refine blk_alloc ?_ _)); exact BK101.out⟩, ⟨Bl_⟩⟩
      · rw [if_neg c7] at H
        have c7b0 : decide (a1 < 0) = false := decide_eq_false c7
        clear c7
        (first | rw [c7b0] | (simp only [i64_w, i32_w]; rw [c7b0]) | skip)
        obtain ⟨t103, A10, H⟩ := bnd_ H
        try dsimp -simprocs only at H
        have H' := Aside0.mk H
        clear H
        obtain ⟨hcz11_0, hcz11_1, hcz11_2⟩ := c3_ BK101
        obtain ⟨hfz11_0, hfz11_1, hfz11_2⟩ := f3_ BK101
        go_wp2_with (first | ((with_reducible refine gate_callee (f := 20) rfl ?_); refine goesL_ (some 11) rfl rfl Tryz.func20 (by kernel_rfl) rfl #[.agg #[.int .i64 a0_0, .slice A0_1 l0_1.length c0_1, .string a0_2]] rfl Ga_ ?_; (with_reducible refine (reredosref05_May.calls k a0_0 _ _ l0_1 a0_2 true _ ?side1 ?side2 A5.out).mono ?_); (case side1 => exact Pc_ (Kd.C_below HR0_1.out HB.out)); (case side2 => exact HC0_1.out); rintro e w12 ⟨rfl, hb⟩; refine ⟨_, rfl, ?_⟩; replace BK101 := kb_ BK101 hb; replace HB := Bs_ hb; (try clear hb); (try clear hb2); (try clear hk); (try clear hi); obtain ⟨hcz13_0, hcz13_1, hcz13_2⟩ := c3_ BK101; obtain ⟨hfz13_0, hfz13_1, hfz13_2⟩ := f3_ BK101) | (go_at_call 22; (with_reducible refine (reredosref05_Many.calls k a0_0 _ _ l0_1 a0_2 t103 _ ?side1 ?side2 A10.out).mono ?_); (case side1 => exact Pc_ (Kd.C_below HR0_1.out HB.out)); (case side2 => exact HC0_1.out); rintro e w14 ⟨rfl, hb⟩; replace BK101 := kb_ BK101 hb; replace HB := Bs_ hb; (try clear hb); (try clear hb2); (try clear hk); (try clear hi)))
        go_meet
        case rel => exact ⟨_, (decide (a1 ≥ t103)), Rf_, H', ⟨by first | omega | exact Nat.le_refl _⟩, ⟨by (with_reducible repeat (first | refine blk_drewN ?_ _ | refine blk_drew ?_ | refine blk_alloc ?_ _)); exact BK101.out⟩, ⟨Bl_⟩⟩
    · replace c6 := Bool.eq_false_iff.mpr c6
      subst c6
      have H1 : (reredosref05_At.j0 k a1 true a0_0 l0_1 a0_2) = some (r1, r2) := by rw [if_neg (show ¬ (false = true) by decide)] at H; exact H
      clear H
      have H := H1
      clear H1
      have H' := Aside0.mk H
      clear H
      obtain ⟨hcz15_0, hcz15_1, hcz15_2⟩ := c3_ BK101
      obtain ⟨hfz15_0, hfz15_1, hfz15_2⟩ := f3_ BK101
      go_wp2_with (first | ((with_reducible refine gate_callee (f := 20) rfl ?_); refine goesL_ (some 11) rfl rfl Tryz.func20 (by kernel_rfl) rfl #[.agg #[.int .i64 a0_0, .slice A0_1 l0_1.length c0_1, .string a0_2]] rfl Ga_ ?_; (with_reducible refine (reredosref05_May.calls k a0_0 _ _ l0_1 a0_2 false _ ?side1 ?side2 A5.out).mono ?_); (case side1 => exact Pc_ (Kd.C_below HR0_1.out HB.out)); (case side2 => exact HC0_1.out); rintro e w16 ⟨rfl, hb⟩; refine ⟨_, rfl, ?_⟩; replace BK101 := kb_ BK101 hb; replace HB := Bs_ hb; (try clear hb); (try clear hb2); (try clear hk); (try clear hi)))
      go_meet
      case rel => exact ⟨_, (true), Rf_, H', ⟨by first | omega | exact Nat.le_refl _⟩, ⟨by (with_reducible repeat (first | refine blk_drewN ?_ _ | refine blk_drew ?_ | refine blk_alloc ?_ _)); exact BK101.out⟩, ⟨Bl_⟩⟩
  case rest =>
    clear HC3
    try clear c1
    try clear c2
    try clear p2
    try clear c6
    try clear c7
    try clear c7b0
    try clear c14
    try clear hcz11_0
    try clear hcz11_1
    try clear hcz11_2
    try clear hcz13_0
    try clear hcz13_1
    try clear hcz13_2
    try clear hcz15_0
    try clear hcz15_1
    try clear hcz15_2
    try clear hcz8_0
    try clear hcz8_1
    try clear hcz8_2
    try clear hfz11_0
    try clear hfz11_1
    try clear hfz11_2
    try clear hfz13_0
    try clear hfz13_1
    try clear hfz13_2
    try clear hfz15_0
    try clear hfz15_1
    try clear hfz15_2
    try clear hfz8_0
    try clear hfz8_1
    try clear hfz8_2
    obtain ⟨kq, x22_2, rfl, HA, HJ2, BK101, HB⟩ := hcut
    cases kq with
    | zero => exact absurd HA.out (by simp [reredosref05_At.j0])
    | succ kj2 =>
      have H := HA.out
      clear HA
      simp only [reredosref05_At.j0] at H
      by_cases c17 : x22_2 = true
      · subst c17
        have H1 : (some (0, false)) = some (r1, r2) := by rw [if_pos rfl] at H; exact H
        clear H
        have H := H1
        clear H1
        simp only [Option.some.injEq, Prod.mk.injEq] at H
        obtain ⟨rfl, rfl⟩ := H
        go_wp2
        go_ret2
        exact ⟨Re_, Bl_⟩
      · replace c17 := Bool.eq_false_iff.mpr c17
        subst c17
        have H1 : (if 0 ≤ (wrap64 (a1 * (wrap64 (Int.tdiv a0_0 8)))) then (if (wrap64 (a1 * (wrap64 (Int.tdiv a0_0 8)))) ≤ (wrap64 ((wrap64 (a1 + 1)) * (wrap64 (Int.tdiv a0_0 8)))) then (if (wrap64 ((wrap64 (a1 + 1)) * (wrap64 (Int.tdiv a0_0 8)))) ≤ (a0_2.size : Int) then (reredosref05_At.l0 kj2 (wrap64 (Int.tdiv a0_0 8)) (a0_2.extract ((wrap64 (a1 * (wrap64 (Int.tdiv a0_0 8)))) : Int).toNat ((wrap64 ((wrap64 (a1 + 1)) * (wrap64 (Int.tdiv a0_0 8)))) : Int).toNat) 0 0) else (none)) else (none)) else (none)) = some (r1, r2) := by rw [if_neg (show ¬ (false = true) by decide)] at H; exact H
        clear H
        have H := H1
        clear H1
        obtain ⟨ji18, hji18⟩ : ∃ j_ : Int, (wrap64 (a1 * (wrap64 (Int.tdiv a0_0 8)))) = j_ := ⟨_, rfl⟩
        replace H : (if 0 ≤ (ji18) then (if (ji18) ≤ (wrap64 ((wrap64 (a1 + 1)) * (wrap64 (Int.tdiv a0_0 8)))) then (if (wrap64 ((wrap64 (a1 + 1)) * (wrap64 (Int.tdiv a0_0 8)))) ≤ (a0_2.size : Int) then (reredosref05_At.l0 kj2 (wrap64 (Int.tdiv a0_0 8)) (a0_2.extract ((ji18) : Int).toNat ((wrap64 ((wrap64 (a1 + 1)) * (wrap64 (Int.tdiv a0_0 8)))) : Int).toNat) 0 0) else (none)) else (none)) else (none)) = some (r1, r2) := by first | (rw [hji18] at H; exact H) | (simp only [hji18] at H ⊢; exact H)
        have hji18w : (IntKind.i64.wrap (a1 * (wrap64 (Int.tdiv a0_0 8)))) = ji18 := (i64_w _).trans hji18
        by_cases c19 : 0 ≤ (ji18)
        · rw [if_pos c19] at H
          have c19b0 := eq_true c19
          have c19b1 : decide (0 ≤ (ji18)) = true := decide_eq_true c19
          clear c19
          by_cases c20 : (ji18) ≤ (wrap64 ((wrap64 (a1 + 1)) * (wrap64 (Int.tdiv a0_0 8))))
          · rw [if_pos c20] at H
            have c20b0 := eq_true c20
            have c20b1 : decide ((ji18) ≤ (wrap64 ((wrap64 (a1 + 1)) * (wrap64 (Int.tdiv a0_0 8))))) = true := decide_eq_true c20
            by_cases c21 : (wrap64 ((wrap64 (a1 + 1)) * (wrap64 (Int.tdiv a0_0 8)))) ≤ (a0_2.size : Int)
            · rw [if_pos c21] at H
              have c21b0 := eq_true c21
              have c21b1 : decide ((wrap64 ((wrap64 (a1 + 1)) * (wrap64 (Int.tdiv a0_0 8)))) ≤ (a0_2.size : Int)) = true := decide_eq_true c21
              have H' := Aside0.mk H
              clear H
              obtain ⟨hcz22_0, hcz22_1, hcz22_2⟩ := c3_ BK101
              obtain ⟨hfz22_0, hfz22_1, hfz22_2⟩ := f3_ BK101
              go_wp2
              go_loopg [8, 9] kj2 (fun kq v8 v9 w' => ∃ (x8_2 : Int) (x9_2 : Int), v8 = .int .i64 x8_2 ∧ v9 = .int .i64 x9_2 ∧ Aside0 (reredosref05_At.l0 kq (wrap64 (Int.tdiv a0_0 8)) (a0_2.extract ((ji18) : Int).toNat ((wrap64 ((wrap64 (a1 + 1)) * (wrap64 (Int.tdiv a0_0 8)))) : Int).toNat) x8_2 x9_2 = some (r1, r2)) ∧ Aside0 (kq ≤ kj2) ∧ Aside0 (w'.heap[gb101]? = some (.cells #[.int .i64 a0_0, (.slice A0_1 l0_1.length c0_1), .string a0_2] 24 (0, 0))) ∧ Aside0 (Below w.heap.size w w'))
              case atStart => exact ⟨(0), (0), Rf_, Rf_, H', ⟨Nat.le_refl _⟩, ⟨by (with_reducible repeat (first | refine blk_drewN ?_ _ | refine blk_drew ?_ | refine blk_alloc ?_ _)); exact BK101.out⟩, ⟨Bl_⟩⟩
              case round =>
                clear H'
                try clear c1
                try clear c2
                try clear p2
                try clear c6
                try clear p6
                try clear c7
                try clear c7b0
                try clear c14
                try clear c17
                try clear c19
                try clear c19b0
                try clear c19b1
                try clear c20
                try clear c20b0
                try clear c20b1
                try clear c21
                try clear c21b0
                try clear c21b1
                try clear hcz11_0
                try clear hcz11_1
                try clear hcz11_2
                try clear hcz13_0
                try clear hcz13_1
                try clear hcz13_2
                try clear hcz15_0
                try clear hcz15_1
                try clear hcz15_2
                try clear hcz22_0
                try clear hcz22_1
                try clear hcz22_2
                try clear hcz8_0
                try clear hcz8_1
                try clear hcz8_2
                try clear hfz11_0
                try clear hfz11_1
                try clear hfz11_2
                try clear hfz13_0
                try clear hfz13_1
                try clear hfz13_2
                try clear hfz15_0
                try clear hfz15_1
                try clear hfz15_2
                try clear hfz22_0
                try clear hfz22_1
                try clear hfz22_2
                try clear hfz8_0
                try clear hfz8_1
                try clear hfz8_2
                try clear p2
                obtain ⟨x8_2, x9_2, rfl, rfl, HA, HK2, BK101, HB⟩ := hrel
                cases gk with
                | zero => exact absurd HA.out (by simp [reredosref05_At.l0])
                | succ k2 =>
                  have H := HA.out
                  clear HA
                  simp only [reredosref05_At.l0] at H
                  by_cases c23 : x9_2 < (wrap64 (Int.tdiv a0_0 8))
                  · rw [if_pos c23] at H
                    have c23b0 : decide (x9_2 < (wrap64 (Int.tdiv a0_0 8))) = true := decide_eq_true c23
                    clear c23
                    obtain ⟨t104, A24, H⟩ := bnd_ H
                    try dsimp -simprocs only at H
                    by_cases c25 : t104 = true
                    · subst c25
                      have H1 : (if 0 ≤ x9_2 then (if x9_2 < ((a0_2.extract ((ji18) : Int).toNat ((wrap64 ((wrap64 (a1 + 1)) * (wrap64 (Int.tdiv a0_0 8)))) : Int).toNat).size : Int) then (reredosref05_At.l0 k2 (wrap64 (Int.tdiv a0_0 8)) (a0_2.extract ((ji18) : Int).toNat ((wrap64 ((wrap64 (a1 + 1)) * (wrap64 (Int.tdiv a0_0 8)))) : Int).toNat) (wrap64 ((wrap64 (256 * x8_2)) - (wrap64 (255 - (wrap64 (bt (a0_2.extract ((ji18) : Int).toNat ((wrap64 ((wrap64 (a1 + 1)) * (wrap64 (Int.tdiv a0_0 8)))) : Int).toNat) x9_2)))))) (wrap64 (x9_2 + 1))) else (none)) else (none)) = some (r1, r2) := by rw [if_pos rfl] at H; exact H
                      clear H
                      have H := H1
                      clear H1
                      by_cases c26 : 0 ≤ x9_2
                      · rw [if_pos c26] at H
                        have c26b0 : decide (0 ≤ x9_2) = true := decide_eq_true c26
                        clear c26
                        by_cases c27 : x9_2 < ((a0_2.extract ((ji18) : Int).toNat ((wrap64 ((wrap64 (a1 + 1)) * (wrap64 (Int.tdiv a0_0 8)))) : Int).toNat).size : Int)
                        · rw [if_pos c27] at H
                          have c27b0 : decide (x9_2 < ((a0_2.extract ((ji18) : Int).toNat ((wrap64 ((wrap64 (a1 + 1)) * (wrap64 (Int.tdiv a0_0 8)))) : Int).toNat).size : Int)) = true := decide_eq_true c27
                          have c27e := c27
                          rw [ByteArray.size_extract] at c27e
                          have c27e0 := decide_eq_true c27e
                          clear c27
                          have H' := Aside0.mk H
                          clear H
                          go_wp2_with (first | ((with_reducible refine gate_callee (f := 65) rfl ?_); refine goesL_ (some 42) rfl rfl Tryz.func65 (by kernel_rfl) rfl #[.string (a0_2.extract ((ji18) : Int).toNat ((wrap64 ((wrap64 (a1 + 1)) * (wrap64 (Int.tdiv a0_0 8)))) : Int).toNat)] rfl (by (try simp only [List.map_toArray, List.map_cons, List.map_nil]); first | done | (simp only [hji18]; rfl) | rfl | (simp only [List.length_drop, List.length_take]; rfl)) ?_; (with_reducible refine (reredosref05_low.calls (a0_2.extract ((ji18) : Int).toNat ((wrap64 ((wrap64 (a1 + 1)) * (wrap64 (Int.tdiv a0_0 8)))) : Int).toNat) true _ A24.out).mono ?_); rintro e w' ⟨rfl, ⟨nd, rfl⟩⟩; refine ⟨_, rfl, ?_⟩; have p28 : 0 ≤ (x9_2 : Int) := of_decide_eq_true As_; have q28 : x9_2 < ((a0_2.extract ((ji18) : Int).toNat ((wrap64 ((wrap64 (a1 + 1)) * (wrap64 (Int.tdiv a0_0 8)))) : Int).toNat).size : Int) := of_decide_eq_true As_; have hx28 := bt_at (a0_2.extract ((ji18) : Int).toNat ((wrap64 ((wrap64 (a1 + 1)) * (wrap64 (Int.tdiv a0_0 8)))) : Int).toNat) x9_2; replace p28 := eq_true p28; replace q28 := eq_true q28))
                          go_roundg k2
                          case measure => have := HJ2.out; have := HK2.out; omega
                          case rel => exact ⟨(wrap64 ((wrap64 (256 * x8_2)) - (wrap64 (255 - (wrap64 (bt (a0_2.extract ((ji18) : Int).toNat ((wrap64 ((wrap64 (a1 + 1)) * (wrap64 (Int.tdiv a0_0 8)))) : Int).toNat) x9_2)))))), (wrap64 (x9_2 + 1)), (by first | rfl | (simp; done) | (simp only [← hji18] <;> (first | rfl | simp)) | (simp [*]; done)), Rf_, H', ⟨by have := HJ2.out; have := HK2.out; omega⟩, ⟨by (with_reducible repeat (first | refine blk_drewN ?_ _ | refine blk_drew ?_ | refine blk_alloc ?_ _)); exact BK101.out⟩, ⟨Bl_⟩⟩
                        · rw [if_neg c27] at H
                          exact absurd H (by simp)
                      · rw [if_neg c26] at H
                        exact absurd H (by simp)
                    · replace c25 := Bool.eq_false_iff.mpr c25
                      subst c25
                      have H1 : (if 0 ≤ x9_2 then (if x9_2 < ((a0_2.extract ((ji18) : Int).toNat ((wrap64 ((wrap64 (a1 + 1)) * (wrap64 (Int.tdiv a0_0 8)))) : Int).toNat).size : Int) then (reredosref05_At.l0 k2 (wrap64 (Int.tdiv a0_0 8)) (a0_2.extract ((ji18) : Int).toNat ((wrap64 ((wrap64 (a1 + 1)) * (wrap64 (Int.tdiv a0_0 8)))) : Int).toNat) (wrap64 ((wrap64 (256 * x8_2)) + (wrap64 (bt (a0_2.extract ((ji18) : Int).toNat ((wrap64 ((wrap64 (a1 + 1)) * (wrap64 (Int.tdiv a0_0 8)))) : Int).toNat) x9_2)))) (wrap64 (x9_2 + 1))) else (none)) else (none)) = some (r1, r2) := by rw [if_neg (show ¬ (false = true) by decide)] at H; exact H
                      clear H
                      have H := H1
                      clear H1
                      by_cases c29 : 0 ≤ x9_2
                      · rw [if_pos c29] at H
                        have c29b0 : decide (0 ≤ x9_2) = true := decide_eq_true c29
                        clear c29
                        by_cases c30 : x9_2 < ((a0_2.extract ((ji18) : Int).toNat ((wrap64 ((wrap64 (a1 + 1)) * (wrap64 (Int.tdiv a0_0 8)))) : Int).toNat).size : Int)
                        · rw [if_pos c30] at H
                          have c30b0 : decide (x9_2 < ((a0_2.extract ((ji18) : Int).toNat ((wrap64 ((wrap64 (a1 + 1)) * (wrap64 (Int.tdiv a0_0 8)))) : Int).toNat).size : Int)) = true := decide_eq_true c30
                          have c30e := c30
                          rw [ByteArray.size_extract] at c30e
                          have c30e0 := decide_eq_true c30e
                          clear c30
                          have H' := Aside0.mk H
                          clear H
                          go_wp2_with (first | ((with_reducible refine gate_callee (f := 65) rfl ?_); refine goesL_ (some 42) rfl rfl Tryz.func65 (by kernel_rfl) rfl #[.string (a0_2.extract ((ji18) : Int).toNat ((wrap64 ((wrap64 (a1 + 1)) * (wrap64 (Int.tdiv a0_0 8)))) : Int).toNat)] rfl (by (try simp only [List.map_toArray, List.map_cons, List.map_nil]); first | done | (simp only [hji18]; rfl) | rfl | (simp only [List.length_drop, List.length_take]; rfl)) ?_; (with_reducible refine (reredosref05_low.calls (a0_2.extract ((ji18) : Int).toNat ((wrap64 ((wrap64 (a1 + 1)) * (wrap64 (Int.tdiv a0_0 8)))) : Int).toNat) false _ A24.out).mono ?_); rintro e w' ⟨rfl, ⟨nd, rfl⟩⟩; refine ⟨_, rfl, ?_⟩; have p31 : 0 ≤ (x9_2 : Int) := of_decide_eq_true As_; have q31 : x9_2 < ((a0_2.extract ((ji18) : Int).toNat ((wrap64 ((wrap64 (a1 + 1)) * (wrap64 (Int.tdiv a0_0 8)))) : Int).toNat).size : Int) := of_decide_eq_true As_; have hx31 := bt_at (a0_2.extract ((ji18) : Int).toNat ((wrap64 ((wrap64 (a1 + 1)) * (wrap64 (Int.tdiv a0_0 8)))) : Int).toNat) x9_2; replace p31 := eq_true p31; replace q31 := eq_true q31))
                          go_roundg k2
                          case measure => have := HJ2.out; have := HK2.out; omega
                          case rel => exact ⟨(wrap64 ((wrap64 (256 * x8_2)) + (wrap64 (bt (a0_2.extract ((ji18) : Int).toNat ((wrap64 ((wrap64 (a1 + 1)) * (wrap64 (Int.tdiv a0_0 8)))) : Int).toNat) x9_2)))), (wrap64 (x9_2 + 1)), (by first | rfl | (simp; done) | (simp only [← hji18] <;> (first | rfl | simp)) | (simp [*]; done)), Rf_, H', ⟨by have := HJ2.out; have := HK2.out; omega⟩, ⟨by (with_reducible repeat (first | refine blk_drewN ?_ _ | refine blk_drew ?_ | refine blk_alloc ?_ _)); exact BK101.out⟩, ⟨Bl_⟩⟩
                        · rw [if_neg c30] at H
                          exact absurd H (by simp)
                      · rw [if_neg c29] at H
                        exact absurd H (by simp)
                  · rw [if_neg c23] at H
                    have c23b0 : decide (x9_2 < (wrap64 (Int.tdiv a0_0 8))) = false := decide_eq_false c23
                    clear c23
                    obtain ⟨t105, A32, H⟩ := bnd_ H
                    try dsimp -simprocs only at H
                    by_cases c33 : t105 = true
                    · subst c33
                      have H1 : (some (wrap64 (x8_2 - 1), true)) = some (r1, r2) := by rw [if_pos rfl] at H; exact H
                      clear H
                      have H := H1
                      clear H1
                      simp only [Option.some.injEq, Prod.mk.injEq] at H
                      obtain ⟨rfl, rfl⟩ := H
                      go_wp2_with (first | ((with_reducible refine gate_callee (f := 65) rfl ?_); refine goesL_ (some 59) rfl rfl Tryz.func65 (by kernel_rfl) rfl #[.string (a0_2.extract ((ji18) : Int).toNat ((wrap64 ((wrap64 (a1 + 1)) * (wrap64 (Int.tdiv a0_0 8)))) : Int).toNat)] rfl (by (try simp only [List.map_toArray, List.map_cons, List.map_nil]); first | done | (simp only [hji18]; rfl) | rfl | (simp only [List.length_drop, List.length_take]; rfl)) ?_; (with_reducible refine (reredosref05_low.calls (a0_2.extract ((ji18) : Int).toNat ((wrap64 ((wrap64 (a1 + 1)) * (wrap64 (Int.tdiv a0_0 8)))) : Int).toNat) true _ A32.out).mono ?_); rintro e w' ⟨rfl, ⟨nd, rfl⟩⟩; refine ⟨_, rfl, ?_⟩))
                      go_ret2
                      exact ⟨by first | rfl | (simp [errW_none, errW_some] <;> rfl) | (simp only [← hji18]; first | rfl | (simp [errW_none, errW_some] <;> rfl)) | (simp [*, errW_none, errW_some] <;> rfl), Bl_⟩
                    · replace c33 := Bool.eq_false_iff.mpr c33
                      subst c33
                      have H1 : (some (x8_2, true)) = some (r1, r2) := by rw [if_neg (show ¬ (false = true) by decide)] at H; exact H
                      clear H
                      have H := H1
                      clear H1
                      simp only [Option.some.injEq, Prod.mk.injEq] at H
                      obtain ⟨rfl, rfl⟩ := H
                      go_wp2_with (first | ((with_reducible refine gate_callee (f := 65) rfl ?_); refine goesL_ (some 59) rfl rfl Tryz.func65 (by kernel_rfl) rfl #[.string (a0_2.extract ((ji18) : Int).toNat ((wrap64 ((wrap64 (a1 + 1)) * (wrap64 (Int.tdiv a0_0 8)))) : Int).toNat)] rfl (by (try simp only [List.map_toArray, List.map_cons, List.map_nil]); first | done | (simp only [hji18]; rfl) | rfl | (simp only [List.length_drop, List.length_take]; rfl)) ?_; (with_reducible refine (reredosref05_low.calls (a0_2.extract ((ji18) : Int).toNat ((wrap64 ((wrap64 (a1 + 1)) * (wrap64 (Int.tdiv a0_0 8)))) : Int).toNat) false _ A32.out).mono ?_); rintro e w' ⟨rfl, ⟨nd, rfl⟩⟩; refine ⟨_, rfl, ?_⟩))
                      go_ret2
                      exact ⟨by first | rfl | (simp [errW_none, errW_some] <;> rfl) | (simp only [← hji18]; first | rfl | (simp [errW_none, errW_some] <;> rfl)) | (simp [*, errW_none, errW_some] <;> rfl), Bl_⟩
            · rw [if_neg c21] at H
              exact absurd H (by simp)
          · rw [if_neg c20] at H
            exact absurd H (by simp)
        · rw [if_neg c19] at H
          exact absurd H (by simp)
/-! ### typed_Typed_all: function 67 -/
def typed_Typed_all.l0 : Nat → List Int → Int → Int → Int → List Int → ByteArray → Option (List Int)
  | 0, _, _, _, _, _, _ => none
  | k + 1, x3, x8, x9, x102000, x102001, x102002 => if x9 < x8 then ((typed_Typed_At.f k x102000 x102001 x102002 x9).bind fun bt103 => (if x3.length < 17592186044416 then (typed_Typed_all.l0 k (x3 ++ [bt103.1]) x8 (wrap64 (x9 + 1)) x102000 x102001 x102002) else (none))) else (some x3)
def typed_Typed_all.f (k : Nat) (a0_0 : Int) (l0_1 : List Int) (a0_2 : ByteArray) : Option (List Int) := (typed_Typed_Many.f k a0_0 l0_1 a0_2).bind fun t102 => (typed_Typed_all.l0 k ([] : List Int) t102 0 a0_0 l0_1 a0_2)
set_option maxHeartbeats 8000000 in
set_option maxRecDepth 100000 in
theorem typed_Typed_all.calls (k : Nat) (a0_0 : Int) (A0_1 : Option Addr) (c0_1 : Nat) (l0_1 : List Int) (a0_2 : ByteArray) (r : List Int) (w : World) (hr0_1 : Kd.C (Kd.int .i64) w A0_1 l0_1.length l0_1) (hc0_1 : l0_1.length ≤ c0_1) (h : typed_Typed_all.f k a0_0 l0_1 a0_2 = some r) :
    Calls Tryz.prog 67 #[.agg #[.int .i64 a0_0, .slice A0_1 l0_1.length c0_1, .string a0_2]] w fun e w' => ∃ v0_ : Value, e = .returned (v0_) ∧ Kd.R (Kd.int .i64) 2 w' w.heap.size (fun _ => True) v0_ r ∧ Below w.heap.size w w' := by
  have hu27 := Tryz.underlying27
  have HR0_1 := Aside0.mk hr0_1
  have HC0_1 := Aside0.mk hc0_1
  clear hr0_1 hc0_1
  have HB := Aside0.mk (Below.refl w.heap.size w)
  have H : ((typed_Typed_Many.f k a0_0 l0_1 a0_2).bind fun t102 => (typed_Typed_all.l0 k ([] : List Int) t102 0 a0_0 l0_1 a0_2)) = some r := h
  clear h
  obtain ⟨t102, A2, H⟩ := bnd_ H
  try dsimp -simprocs only at H
  have H' := Aside0.mk H
  clear H
  go_enter Tryz.func67, Tryz.ntmps67
  go_wp2_with (first | ((with_reducible refine gate_dst (N := 1) rfl ?_); refine bx_ 1 #[.int .i64 a0_0, .slice A0_1 l0_1.length c0_1, .string a0_2] 27 ?_; intro gb101 hg w3 hbox hb; have BK101 := Aside0.mk (hbox); have GW101 := (Bg_ hg : Aside0 (w.heap.size ≤ gb101)); have GE101 := (Bg_ hg : Aside0 (w.heap.size ≤ gb101)); replace HB := Bs_ hb; clear hb hbox hg; obtain ⟨hcz4_0, hcz4_1, hcz4_2⟩ := c3_ BK101; obtain ⟨hfz4_0, hfz4_1, hfz4_2⟩ := f3_ BK101) | ((with_reducible refine gate_callee (f := 21) rfl ?_); refine goesL_ (some 8) rfl rfl Tryz.func21 (by kernel_rfl) rfl #[.agg #[.int .i64 a0_0, .slice A0_1 l0_1.length c0_1, .string a0_2]] rfl Ga_ ?_; (with_reducible refine (typed_Typed_Many.calls k a0_0 _ _ l0_1 a0_2 t102 _ ?side1 ?side2 A2.out).mono ?_); (case side1 => exact Pc_ (Kd.C_below HR0_1.out HB.out)); (case side2 => exact HC0_1.out); rintro e w5 ⟨rfl, hb⟩; refine ⟨_, rfl, ?_⟩; replace BK101 := kb_ BK101 hb; replace HB := Bs_ hb; (try clear hb); (try clear hb2); (try clear hk); (try clear hi)))
  go_loopg [3, 9] k (fun kq v3 v9 w' => ∃ (x3_1 : List Int) (x9_1 : Int), v9 = .int .i64 x9_1 ∧ Aside0 (typed_Typed_all.l0 kq x3_1 t102 x9_1 a0_0 l0_1 a0_2 = some r) ∧ Aside0 (kq ≤ k) ∧ Aside0 (Kd.R (Kd.int .i64) 2 w' w.heap.size (fun _ => True) v3 x3_1) ∧ Aside0 (w'.heap[gb101]? = some (.cells #[.int .i64 a0_0, (.slice A0_1 l0_1.length c0_1), .string a0_2] 27 (0, 0))) ∧ Aside0 (Below w.heap.size w w'))
  case atStart => exact ⟨(([] : List Int)), (0), Rf_, H', ⟨Nat.le_refl _⟩, ⟨by first | exact Kd.R_nil _ _ _ _ _ | exact Kd.N_nil _ _ _ _ _ | exact Kd.V_nil _ _ _ _ _ | exact Kd.Q_nil _ _ _ _ _ | exact Kd.S_nil _ _ _ _ _⟩, ⟨by (with_reducible repeat (first | refine blk_drewN ?_ _ | refine blk_drew ?_ | refine blk_alloc ?_ _)); exact BK101.out⟩, ⟨Bl_⟩⟩
  case round =>
    clear H'
    try clear c2
    try clear p2
    try clear hcz4_0
    try clear hcz4_1
    try clear hcz4_2
    try clear hfz4_0
    try clear hfz4_1
    try clear hfz4_2
    obtain ⟨x3_1, x9_1, rfl, HA, HK1, HO_3, BK101, HB⟩ := hrel
    cases gk with
    | zero => exact absurd HA.out (by simp [typed_Typed_all.l0])
    | succ k1 =>
      have H := HA.out
      clear HA
      simp only [typed_Typed_all.l0] at H
      by_cases c6 : x9_1 < t102
      · rw [if_pos c6] at H
        have c6b0 : decide (x9_1 < t102) = true := decide_eq_true c6
        clear c6
        obtain ⟨⟨t103, t104⟩, A7, H⟩ := bnd_ H
        try dsimp -simprocs only at H
        by_cases c8 : x3_1.length < 17592186044416
        · rw [if_pos c8] at H
          have LMc8 := Aside0.mk c8
          clear c8
          obtain ⟨y105, hy105⟩ : ∃ y_ : List Int, y_ = (x3_1 ++ [t103]) := ⟨_, rfl⟩
          replace H : (typed_Typed_all.l0 k1 y105 t102 (wrap64 (x9_1 + 1)) a0_0 l0_1 a0_2) = some r := by first | (rw [hy105]; with_reducible exact H) | (have H2_ := (Option.bind_some _ _).symm.trans H; rw [hy105]; with_reducible exact H2_) | (have H2_ := (Option.bind_some _ _).symm.trans H; with_reducible exact H2_) | with_reducible exact H | (rw [hy105]; exact H) | exact H
          have Ny105 := Aside0.mk hy105
          clear hy105
          have H' := Aside0.mk H
          clear H
          obtain ⟨hcz9_0, hcz9_1, hcz9_2⟩ := c3_ BK101
          obtain ⟨hfz9_0, hfz9_1, hfz9_2⟩ := f3_ BK101
          go_wp2_with (first | ((with_reducible refine gate_callee (f := 13) rfl ?_); refine goesL_ (some 15) rfl rfl Tryz.func13 (by kernel_rfl) rfl #[.agg #[.int .i64 a0_0, .slice A0_1 l0_1.length c0_1, .string a0_2], .int .i64 x9_1] rfl Ga_ ?_; (with_reducible refine (typed_Typed_At.calls k1 a0_0 _ _ l0_1 a0_2 x9_1 t103 t104 _ ?side1 ?side2 A7.out).mono ?_); (case side1 => exact Pc_ (Kd.C_below HR0_1.out HB.out)); (case side2 => exact HC0_1.out); rintro e w10 ⟨rfl, hb⟩; refine ⟨_, rfl, ?_⟩; replace HO_3 := Aside0.mk (Kd.R_below (Pr_ HO_3.out) hb); replace BK101 := kb_ BK101 hb; replace HB := Bs_ hb; (try clear hb); (try clear hb2); (try clear hk); (try clear hi)) | ((with_reducible refine gate_builtin (b := .append) (xs := #[.tmp 18, .tmp 20]) rfl ?_); at_builtin; refine Kd.R_append (Kd.int .i64) (w0 := w) w.heap.size rfl (.tmp 18) (.tmp 20) 69 2 (.int .i64 0) 8 rfl Tryz.underlying69 info2 rfl (by decide) (by omega) u3 x3_1 t103 [.int .i64 t103] (fun _ => True) (fun _ => False) rfl rfl ?aP (fun _ hk => hk.elim) ?aF ?aO ?aB ?aS ?aL ?_; (case aP => exact rfl); (case aB => exact Bl_); (case aF => exact (fun _ _ => trivial)); (case aO => exact (Pr_ HO_3.out)); (case aS => exact Bz_); (case aL => have := LMc8.out; omega); intro v106 w11 ho hb hg hat; rw [← Ny105.out] at ho; replace BK101 := kg_ BK101 hg (Kd.R_ne HO_3.out BK101.out (by decide)); replace HB := Aside0.mk (hb); have HO107 := Aside0.mk (ho); clear HO_3; clear ho hb hg hat))
          go_roundg k1
          case measure => have := HK1.out; omega
          case rel => exact ⟨(y105), (wrap64 (x9_1 + 1)), Rf_, H', ⟨by have := HK1.out; omega⟩, ⟨by (with_reducible repeat (first | apply Kd.R_alloc | apply Kd.R_drewN | apply Kd.R_drew)); exact HO107.out⟩, ⟨by (with_reducible repeat (first | refine blk_drewN ?_ _ | refine blk_drew ?_ | refine blk_alloc ?_ _)); exact BK101.out⟩, ⟨Bl_⟩⟩
        · rw [if_neg c8] at H
          exact absurd H (by simp)
      · rw [if_neg c6] at H
        have c6b0 : decide (x9_1 < t102) = false := decide_eq_false c6
        clear c6
        obtain rfl := Option.some.inj H
        go_wp2
        go_ret
        exact ⟨_, Re_, by (with_reducible repeat (first | apply Kd.R_alloc | apply Kd.R_drewN | apply Kd.R_drew)); exact HO_3.out, Bl_⟩
/-! ### strconv_FormatInt_129: function 129 -/
def strconv_FormatInt_129.f (a0 : Int) (a1 : Int) : Option ByteArray := if a1 = 10 ∧ -9223372036854775808 ≤ a0 ∧ a0 ≤ 9223372036854775807 then some ⟨(Lib.itoa a0).toArray⟩ else none
set_option maxHeartbeats 400000 in
theorem strconv_FormatInt_129.calls (a0 : Int) (a1 : Int) (r : ByteArray) (w : World) (h : strconv_FormatInt_129.f a0 a1 = some r) (hG : Glob w) :
    Calls Tryz.prog 129 #[.int .i64 a0, .int .i64 a1] w fun e w' => e = .returned (.string r) ∧ Below w.heap.size w w' := by
  unfold strconv_FormatInt_129.f at h
  split at h
  case isFalse => cases h
  rename_i hb
  obtain rfl := Option.some.inj h
  obtain ⟨rfl, h0, h1⟩ := hb
  refine (Tryz.strconv_FormatInt_10 a0 h0 h1 w hG.1).mono ?_
  rintro e w' ⟨rfl, k, os, rfl⟩
  exact ⟨rfl, Lib.below_grow _ w (Nat.le_refl _) k os⟩
/-! ### num_Of: function 68 -/
def num_Of.f (a0 : Int) : Option (ByteArray) := (strconv_FormatInt_129.f a0 10).bind fun t101 => (some t101)
set_option maxHeartbeats 8000000 in
set_option maxRecDepth 100000 in
theorem num_Of.calls (a0 : Int) (r : ByteArray) (w : World) (h : num_Of.f a0 = some r) (hG : Glob w) :
    Calls Tryz.prog 68 #[.int .i64 a0] w fun e w' => e = .returned (.string r) ∧ Below w.heap.size w w' := by
  have HB := Aside0.mk (Below.refl w.heap.size w)
  have H : ((strconv_FormatInt_129.f a0 10).bind fun t101 => (some t101)) = some r := h
  clear h
  obtain ⟨t101, A2, H⟩ := bnd_ H
  try dsimp -simprocs only at H
  obtain rfl := Option.some.inj H
  go_enter Tryz.func68, Tryz.ntmps68
  go_wp2_with (first | ((with_reducible refine gate_callee (f := 129) rfl ?_); refine goesL_ (some 4) rfl rfl Tryz.func129 (by kernel_rfl) rfl #[.int .i64 a0, .int .i64 10] rfl Ga_ ?_; (with_reducible refine (strconv_FormatInt_129.calls a0 10 t101 _ A2.out ?side1).mono ?_); (case side1 => first | exact hG | exact Glob.below hG Bl_); rintro e w3 ⟨rfl, hb⟩; refine ⟨_, rfl, ?_⟩; replace HB := Bs_ hb; (try clear hb); (try clear hb2); (try clear hk); (try clear hi)))
  go_ret
  exact ⟨Re_, Bl_⟩
/-! ### typed_Typed_Val: function 15 -/
def typed_Typed_Val.l0 : Nat → List Int → Int → Int → List Int → List ByteArray → Option (List Int × List ByteArray × Bool)
  | 0, _, _, _, _, _ => none
  | k + 1, x16, x17, x18, x108000, x108001 => if x18 < x17 then (if 0 ≤ x18 then (if x18 < (x16.length : Int) then ((num_Of.f (rd x16 x18)).bind fun t112 => (if x108001.length < 8796093022208 then (typed_Typed_Val.l0 k x16 x17 (wrap64 (x18 + 1)) x108000 (x108001 ++ [t112])) else (none))) else (none)) else (none)) else (some (x108000, x108001, true))
def typed_Typed_Val.f (k : Nat) (a0_0 : Int) (l0_1 : List Int) (a0_2 : ByteArray) : Option (List Int × List ByteArray × Bool) := (typed_Typed_May.f k a0_0 l0_1 a0_2).bind fun t103 => (if t103 = true then ((slices_Clone_int_int.f l0_1).bind fun t104 => ((typed_Typed_all.f k a0_0 l0_1 a0_2).bind fun t108 => (typed_Typed_Val.l0 k t108 (t108.length : Int) 0 t104 ([] : List ByteArray)))) else (some (([] : List Int), ([] : List ByteArray), false)))
def typed_Typed_Val.T7 : Bool × List (List Nat × List Nat) := (true, [([], []), ([0], [0]), ([], []), ([2], [2]), ([3], [3]), ([1, 4, 3], [1, 4]), ([0, 1, 2, 3, 4, 5], []), ([6, 5, 5, 0, 1, 2, 3, 4, 5], [5, 6])])
def typed_Typed_Val.B7 : List Nat := [0, 1, 0, 4, 12, 31, 63, 127]
theorem typed_Typed_Val.tab7 : rtab .any (opsOf Tryz.f15 7) = typed_Typed_Val.T7 := by kernel_rfl
theorem typed_Typed_Val.bits7 : waitsOk typed_Typed_Val.T7.2 typed_Typed_Val.B7 = true := by kernel_rfl
set_option maxHeartbeats 8000000 in
set_option maxRecDepth 100000 in
theorem typed_Typed_Val.calls (k : Nat) (a0_0 : Int) (A0_1 : Option Addr) (c0_1 : Nat) (l0_1 : List Int) (a0_2 : ByteArray) (r1 : List Int) (r2 : List ByteArray) (r3 : Bool) (w : World) (hr0_1 : Kd.C (Kd.int .i64) w A0_1 l0_1.length l0_1) (hc0_1 : l0_1.length ≤ c0_1) (h : typed_Typed_Val.f k a0_0 l0_1 a0_2 = some (r1, r2, r3)) (hG : Glob w) :
    Calls Tryz.prog 15 #[.agg #[.int .i64 a0_0, .slice A0_1 l0_1.length c0_1, .string a0_2]] w fun e w' => ∃ v0_ v1_ : Value, e = .returned (.tuple #[.agg #[v0_, v1_], .bool r3]) ∧ Kd.R (Kd.int .i64) 3 w' w.heap.size (fun _ => True) v0_ r1 ∧ Kd.R Kd.string 9 w' w.heap.size (fun _ => True) v1_ r2 ∧ Below w.heap.size w w' := by
  have hu27 := Tryz.underlying27
  have hu34 := Tryz.underlying34
  have HR0_1 := Aside0.mk hr0_1
  have HC0_1 := Aside0.mk hc0_1
  clear hr0_1 hc0_1
  have HB := Aside0.mk (Below.refl w.heap.size w)
  have H : ((typed_Typed_May.f k a0_0 l0_1 a0_2).bind fun t103 => (if t103 = true then ((slices_Clone_int_int.f l0_1).bind fun t104 => ((typed_Typed_all.f k a0_0 l0_1 a0_2).bind fun t108 => (typed_Typed_Val.l0 k t108 (t108.length : Int) 0 t104 ([] : List ByteArray)))) else (some (([] : List Int), ([] : List ByteArray), false)))) = some (r1, r2, r3) := h
  clear h
  obtain ⟨t103, A2, H⟩ := bnd_ H
  try dsimp -simprocs only at H
  by_cases c3 : t103 = true
  · subst c3
    have H1 : ((slices_Clone_int_int.f l0_1).bind fun t104 => ((typed_Typed_all.f k a0_0 l0_1 a0_2).bind fun t108 => (typed_Typed_Val.l0 k t108 (t108.length : Int) 0 t104 ([] : List ByteArray)))) = some (r1, r2, r3) := by rw [if_pos rfl] at H; exact H
    clear H
    have H := H1
    clear H1
    obtain ⟨t104, A4, H⟩ := bnd_ H
    try dsimp -simprocs only at H
    obtain ⟨t108, A5, H⟩ := bnd_ H
    try dsimp -simprocs only at H
    have H' := Aside0.mk H
    clear H
    go_enter Tryz.func15, Tryz.ntmps15
    go_wp2_with (first | ((with_reducible refine gate_dst (N := 1) rfl ?_); refine bx_ 1 #[.int .i64 a0_0, .slice A0_1 l0_1.length c0_1, .string a0_2] 27 ?_; intro gb101 hg w6 hbox hb; have BK101 := Aside0.mk (hbox); have GW101 := (Bg_ hg : Aside0 (w.heap.size ≤ gb101)); have GE101 := (Bg_ hg : Aside0 (w.heap.size ≤ gb101)); replace HB := Bs_ hb; clear hb hbox hg) | ((with_reducible refine gate_dst (N := 2) rfl ?_); refine bx_ 2 #[.slice none 0 0, .slice none 0 0] 34 ?_; intro gb102 hg w7 hbox hb; have BK102 := Aside0.mk (hbox); have GW102 := (Bg_ hg : Aside0 (w.heap.size ≤ gb102)); have GE102 := (Bg_ hg : Aside0 (w.heap.size ≤ gb102)); replace HB := Bs_ hb; have NB101_102 := nl_ hg BK101; have NB102_101 := ng_ hg BK101; replace BK101 := kb_ BK101 hb; clear hb hbox hg; have hnb8 := NB101_102.out; have hnc8 := NB102_101.out; obtain ⟨hcz9_0, hcz9_1, hcz9_2⟩ := c3_ BK101; obtain ⟨hfz9_0, hfz9_1, hfz9_2⟩ := f3_ BK101) | ((with_reducible refine gate_callee (f := 19) rfl ?_); refine goesL_ (some 8) rfl rfl Tryz.func19 (by kernel_rfl) rfl #[.agg #[.int .i64 a0_0, .slice A0_1 l0_1.length c0_1, .string a0_2]] rfl Ga_ ?_; (with_reducible refine (typed_Typed_May.calls k a0_0 _ _ l0_1 a0_2 true _ ?side1 ?side2 A2.out).mono ?_); (case side1 => exact Pc_ (Kd.C_below HR0_1.out HB.out)); (case side2 => exact HC0_1.out); rintro e w10 ⟨rfl, hb⟩; refine ⟨_, rfl, ?_⟩; replace BK101 := kb_ BK101 hb; replace BK102 := kb_ BK102 hb; replace HB := Bs_ hb; (try clear hb); (try clear hb2); (try clear hk); (try clear hi); obtain ⟨hcz11_0, hcz11_1, hcz11_2⟩ := c3_ BK101; obtain ⟨hfz11_0, hfz11_1, hfz11_2⟩ := f3_ BK101) | ((with_reducible refine gate_callee (f := 66) rfl ?_); refine goesL_ (some 13) rfl rfl Tryz.func66 (by kernel_rfl) rfl #[.slice A0_1 l0_1.length c0_1] rfl Ga_ ?_; (with_reducible refine (slices_Clone_int_int.calls _ _ l0_1 t104 _ ?side1 ?side2 A4.out).mono ?_); (case side1 => exact Pc_ (Kd.C_below HR0_1.out HB.out)); (case side2 => exact HC0_1.out); rintro e w12 ⟨v105, rfl, ho0, hb⟩; refine ⟨_, rfl, ?_⟩; have HO106 := Aside0.mk (Kd.R_lower ho0 Bz_); replace BK101 := kb_ BK101 hb; replace BK102 := kb_ BK102 hb; replace HB := Bs_ hb; (try clear hb); (try clear hb2); (try clear hk); (try clear hi); (try clear ho0); obtain ⟨Ao13, co13, eo13⟩ := Kd.R_slice HO106.out; subst eo13) | ((with_reducible refine gate_dst (N := 4) rfl ?_); refine bx_ 4 #[.slice none 0 0, .slice none 0 0] 34 ?_; intro gb107 hg w14 hbox hb; replace HO106 := Aside0.mk (Kd.R_below (Pr_ HO106.out) hb); have BK107 := Aside0.mk (hbox); have GW107 := (Bg_ hg : Aside0 (w.heap.size ≤ gb107)); have GE107 := (Bg_ hg : Aside0 (w.heap.size ≤ gb107)); replace HB := Bs_ hb; have NB101_107 := nl_ hg BK101; have NB107_101 := ng_ hg BK101; replace BK101 := kb_ BK101 hb; have NB102_107 := nl_ hg BK102; have NB107_102 := ng_ hg BK102; replace BK102 := kb_ BK102 hb; clear hb hbox hg; have hnb15 := NB107_101.out; have hnc15 := NB101_107.out; have hnb16 := NB107_102.out; have hnc16 := NB102_107.out; obtain ⟨hcz17_0, hcz17_1⟩ := c2_ BK107; obtain ⟨hfz17_0, hfz17_1⟩ := f2_ BK107; obtain ⟨hcz18_0, hcz18_1, hcz18_2⟩ := c3_ BK101; obtain ⟨hfz18_0, hfz18_1, hfz18_2⟩ := f3_ BK101) | ((with_reducible refine gate_callee (f := 67) rfl ?_); refine goesL_ (some 16) rfl rfl Tryz.func67 (by kernel_rfl) rfl #[.agg #[.int .i64 a0_0, .slice A0_1 l0_1.length c0_1, .string a0_2]] rfl Ga_ ?_; (with_reducible refine (typed_Typed_all.calls k a0_0 _ _ l0_1 a0_2 t108 _ ?side1 ?side2 A5.out).mono ?_); (case side1 => exact Kd.C_below HR0_1.out Bl_); (case side2 => exact HC0_1.out); rintro e w19 ⟨v109, rfl, ho0, hb⟩; refine ⟨_, rfl, ?_⟩; replace HO106 := Aside0.mk (Kd.R_below (by (with_reducible repeat (first | apply Kd.R_alloc | apply Kd.R_drewN | apply Kd.R_drew)); exact (Kd.R_mono (Kd.R_far (p := ⟨gb107, 1, none⟩) (Kd.R_far (p := ⟨gb107, 0, none⟩) (Kd.R_types HO106.out BK107.out (by decide)) (fun _ hk => hk.2) (.slice Ao13 t104.length co13)) (fun _ hk => hk.2) (.slice none 0 0)) (fun _ h_ => h_.1))) hb); have HO110 := Aside0.mk (Kd.R_lower ho0 Bz_); replace BK101 := Aside0.mk (blk_below (g := gb101) (o := .cells #[.int .i64 a0_0, .slice A0_1 l0_1.length c0_1, .string a0_2] 27 (0, 0)) (by (with_reducible repeat (first | refine blk_drewN ?_ _ | refine blk_drew ?_ | refine blk_alloc ?_ _)); refine blk_far ?_ NB101_107.out _; (with_reducible repeat (first | refine blk_drewN ?_ _ | refine blk_drew ?_ | refine blk_alloc ?_ _)); refine blk_far ?_ NB101_107.out _; (with_reducible repeat (first | refine blk_drewN ?_ _ | refine blk_drew ?_ | refine blk_alloc ?_ _)); exact BK101.out) hb); replace BK102 := Aside0.mk (blk_below (g := gb102) (o := .cells #[.slice none 0 0, .slice none 0 0] 34 (0, 0)) (by (with_reducible repeat (first | refine blk_drewN ?_ _ | refine blk_drew ?_ | refine blk_alloc ?_ _)); refine blk_far ?_ NB102_107.out _; (with_reducible repeat (first | refine blk_drewN ?_ _ | refine blk_drew ?_ | refine blk_alloc ?_ _)); refine blk_far ?_ NB102_107.out _; (with_reducible repeat (first | refine blk_drewN ?_ _ | refine blk_drew ?_ | refine blk_alloc ?_ _)); exact BK102.out) hb); replace BK107 := Aside0.mk (blk_below (g := gb107) (o := .cells #[.slice Ao13 t104.length co13, .slice none 0 0] 34 (0, 0)) (by (with_reducible repeat (first | refine blk_drewN ?_ _ | refine blk_drew ?_ | refine blk_alloc ?_ _)); refine blk_put (cs := #[.slice Ao13 t104.length co13, .slice none 0 0]) ?_ 1 _ rfl; (with_reducible repeat (first | refine blk_drewN ?_ _ | refine blk_drew ?_ | refine blk_alloc ?_ _)); refine blk_put (cs := #[.slice none 0 0, .slice none 0 0]) ?_ 0 _ rfl; (with_reducible repeat (first | refine blk_drewN ?_ _ | refine blk_drew ?_ | refine blk_alloc ?_ _)); exact BK107.out) hb); replace HB := Bs_ hb; (try clear hb); (try clear hb2); (try clear hk); (try clear hi); (try clear ho0); obtain ⟨Ao20, co20, eo20⟩ := Kd.R_slice HO110.out; subst eo20))
    go_loopg [18] k (fun kq v18 w' => ∃ (x18_1 : Int) (x108001_1 : List ByteArray) (u108001 : Value), v18 = .int .i64 x18_1 ∧ Aside0 (typed_Typed_Val.l0 kq t108 (t108.length : Int) x18_1 t104 x108001_1 = some (r1, r2, r3)) ∧ Aside0 (kq ≤ k) ∧ Aside0 (Kd.R (Kd.int .i64) 2 w' w.heap.size (fun _ => True) (.slice Ao20 t108.length co20) t108) ∧ Aside0 (Kd.R (Kd.int .i64) 3 w' w.heap.size (fun _ => True) (.slice Ao13 t104.length co13) t104) ∧ Aside0 (Kd.R Kd.string 9 w' w.heap.size (fun _ => True) u108001 x108001_1) ∧ Aside0 (w'.heap[gb101]? = some (.cells #[.int .i64 a0_0, (.slice A0_1 l0_1.length c0_1), .string a0_2] 27 (0, 0))) ∧ Aside0 (w'.heap[gb102]? = some (.cells #[(.slice none 0 0), (.slice none 0 0)] 34 (0, 0))) ∧ Aside0 (w'.heap[gb107]? = some (.cells #[(.slice Ao13 t104.length co13), u108001] 34 (0, 0))) ∧ Aside0 (Below w.heap.size w w'))
    case atStart => exact ⟨(0), (([] : List ByteArray)), (.slice none 0 0), Rf_, H', ⟨Nat.le_refl _⟩, ⟨by (with_reducible repeat (first | apply Kd.R_alloc | apply Kd.R_drewN | apply Kd.R_drew)); exact HO110.out⟩, ⟨by (with_reducible repeat (first | apply Kd.R_alloc | apply Kd.R_drewN | apply Kd.R_drew)); exact HO106.out⟩, ⟨by first | exact Kd.R_nil _ _ _ _ _ | exact Kd.N_nil _ _ _ _ _ | exact Kd.V_nil _ _ _ _ _ | exact Kd.Q_nil _ _ _ _ _ | exact Kd.S_nil _ _ _ _ _⟩, ⟨by (with_reducible repeat (first | refine blk_drewN ?_ _ | refine blk_drew ?_ | refine blk_alloc ?_ _)); exact BK101.out⟩, ⟨by (with_reducible repeat (first | refine blk_drewN ?_ _ | refine blk_drew ?_ | refine blk_alloc ?_ _)); exact BK102.out⟩, ⟨by (with_reducible repeat (first | refine blk_drewN ?_ _ | refine blk_drew ?_ | refine blk_alloc ?_ _)); exact BK107.out⟩, ⟨Bl_⟩⟩
    case round =>
      clear H'
      try clear c1
      try clear p2
      try clear c3
      try clear c6
      try clear c8
      try clear c15
      try clear c16
      try clear c19
      try clear hcz11_0
      try clear hcz11_1
      try clear hcz11_2
      try clear hcz17_0
      try clear hcz17_1
      try clear hcz18_0
      try clear hcz18_1
      try clear hcz18_2
      try clear hcz9_0
      try clear hcz9_1
      try clear hcz9_2
      try clear hfz11_0
      try clear hfz11_1
      try clear hfz11_2
      try clear hfz17_0
      try clear hfz17_1
      try clear hfz18_0
      try clear hfz18_1
      try clear hfz18_2
      try clear hfz9_0
      try clear hfz9_1
      try clear hfz9_2
      obtain ⟨x18_1, x108001_1, u108001, rfl, HA, HK1, HO_16, HO_108000, HO_108001, BK101, BK102, BK107, HB⟩ := hrel
      cases gk with
      | zero => exact absurd HA.out (by simp [typed_Typed_Val.l0])
      | succ k1 =>
        have H := HA.out
        clear HA
        simp only [typed_Typed_Val.l0] at H
        by_cases c21 : x18_1 < (t108.length : Int)
        · rw [if_pos c21] at H
          have c21b0 : decide (x18_1 < (t108.length : Int)) = true := decide_eq_true c21
          clear c21
          by_cases c22 : 0 ≤ x18_1
          · rw [if_pos c22] at H
            have c22b0 : decide (0 ≤ x18_1) = true := decide_eq_true c22
            clear c22
            by_cases c23 : x18_1 < (t108.length : Int)
            · rw [if_pos c23] at H
              have c23b0 : decide (x18_1 < (t108.length : Int)) = true := decide_eq_true c23
              clear c23
              obtain ⟨t112, A24, H⟩ := bnd_ H
              try dsimp -simprocs only at H
              by_cases c25 : x108001_1.length < 8796093022208
              · rw [if_pos c25] at H
                have LMc25 := Aside0.mk c25
                clear c25
                obtain ⟨y113, hy113⟩ : ∃ y_ : List ByteArray, y_ = (x108001_1 ++ [t112]) := ⟨_, rfl⟩
                replace H : (typed_Typed_Val.l0 k1 t108 (t108.length : Int) (wrap64 (x18_1 + 1)) t104 y113) = some (r1, r2, r3) := by first | (rw [hy113]; with_reducible exact H) | (have H2_ := (Option.bind_some _ _).symm.trans H; rw [hy113]; with_reducible exact H2_) | (have H2_ := (Option.bind_some _ _).symm.trans H; with_reducible exact H2_) | with_reducible exact H | (rw [hy113]; exact H) | exact H
                have Ny113 := Aside0.mk hy113
                clear hy113
                have H' := Aside0.mk H
                clear H
                have p111 : 0 ≤ (x18_1 : Int) := of_decide_eq_true As_
                have q111 : x18_1 < (t108.length : Int) := of_decide_eq_true As_
                obtain ⟨ad111, e111, hx111_0⟩ := Kd.at_int (Kd.R_reads' HO_16.out).2.2 x18_1 p111 q111
                cases e111
                replace p111 := eq_true p111
                replace q111 := eq_true q111
                try go_wp2
                replace HO_16 := Aside0.mk (Kd.R_drew HO_16.out)
                replace HO_108000 := Aside0.mk (Kd.R_drew HO_108000.out)
                replace HO_108001 := Aside0.mk (Kd.R_drew HO_108001.out)
                replace BK101 := Aside0.mk (blk_drew BK101.out)
                replace BK102 := Aside0.mk (blk_drew BK102.out)
                replace BK107 := Aside0.mk (blk_drew BK107.out)
                replace HB := Aside0.mk (below_drew1 HB.out)
                refine start_ (n := 8) (S := fun w' => w'.cell? ⟨gb107, 0, none⟩ = some (.slice Ao13 t104.length co13) ∧ w'.cell? ⟨gb107, 1, none⟩ = some (u108001)) (ds := [7]) #[false, false, false, false, false, false, false, false] (by kernel_rfl) rfl rfl ⟨(blk_cell BK107.out 0).trans rfl, (blk_cell BK107.out 1).trans rfl⟩ (fun hHeld => ?_); refine with_tabW typed_Typed_Val.tab7 typed_Typed_Val.bits7 (fun HT_ HW_ => ?_)
                generalize wr.drew = w26 at HO_16 HO_108000 HO_108001 BK101 BK102 BK107 HB hHeld ⊢
                refine pu_ 0 (some 22) HT_ #[true, false, false, false, false, false, false, false] ?_
                refine pu_ 2 (some 24) HT_ #[true, false, true, false, false, false, false, false] ?_
                refine take_ (i := 1) (N := some 23) (v := ?_) (a' := ?_) #[true, true, true, false, false, false, false, false] rfl rfl (take_ofW HT_.out HW_.out (by kernel_rfl)) (fun _ _ _ h => h) (Or.inl ⟨by rfl, ?_⟩) hHeld ?_ ?_
                rotate_left
                · rintro w' ⟨s0, s1⟩
                  go_simp
                  with_reducible rfl
                rotate_left
                · simp only [Act.put, List.setIfInBounds_toArray, List.set_cons_zero, List.set_cons_succ, i64_w, i32_w]
                  rfl
                refine one_ (i := 3) (N := some 25) #[true, true, true, true, false, false, false, false] rfl rfl (one_of HT_.out (by kernel_rfl)) (by decide) (fun K hK => ?_)
                refine goes_ Tryz.func68 (by kernel_rfl) rfl #[.int .i64 (rd t108 x18_1)] (by rfl) rfl rfl Ga_ ?_
                with_reducible refine (num_Of.calls (rd t108 x18_1) t112 _ A24.out ?side1).mono ?_
                (case side1 => first | exact hG | exact Glob.below hG Bl_)
                rintro e w27 ⟨rfl, hb⟩
                refine ⟨_, rfl, ?_⟩
                replace HO_16 := Aside0.mk (Kd.R_below (Pr_ HO_16.out) hb)
                replace HO_108000 := Aside0.mk (Kd.R_below (Pr_ HO_108000.out) hb)
                replace HO_108001 := Aside0.mk (Kd.R_below (Pr_ HO_108001.out) hb)
                replace BK101 := kb_ BK101 hb
                replace BK102 := kb_ BK102 hb
                replace BK107 := kb_ BK107 hb
                replace HB := Bs_ hb
                (try clear hb)
                (try clear hb2)
                (try clear hk)
                (try clear hi)
                refine hK.out _ _ ⟨(blk_cell BK107.out 0).trans rfl, (blk_cell BK107.out 1).trans rfl⟩ (fun hHeld => ?_)
                clear hK K
                refine norm_ (a' := ?_) ?_ ?_
                rotate_left
                · show Act.put _ (some 25) _ = _
                  simp only [Act.put, List.setIfInBounds_toArray, List.set_cons_zero, List.set_cons_succ, i64_w, i32_w]
                  rfl
                refine one_ (i := 4) (N := some 26) #[true, true, true, true, true, false, false, false] rfl rfl (one_of HT_.out (by kernel_rfl)) (by decide) (fun K hK => ?_)
                refine value_ (w1 := ?_) (v := ?_) (by rfl) rfl ?_ ?_
                rotate_left 2
                · go_simp
                  constructor
                  · rfl
                  · rfl
                refine hK.out _ _ ⟨(blk_cell (blk_alloc BK107.out _) 0).trans rfl, (blk_cell (blk_alloc BK107.out _) 1).trans rfl⟩ (fun hHeld => ?_)
                clear hK K
                refine norm_ (a' := ?_) ?_ ?_
                rotate_left
                · show Act.put _ (some 26) _ = _
                  simp only [Act.put, List.setIfInBounds_toArray, List.set_cons_zero, List.set_cons_succ, i64_w, i32_w]
                  rfl
                refine one_ (i := 5) (N := some 27) #[true, true, true, true, true, true, false, false] rfl rfl (one_of HT_.out (by kernel_rfl)) (by decide) (fun K hK => ?_)
                refine Kd.R_append_step Kd.string (w0 := w) w.heap.size (by rfl) (.tmp 23) (.tmp 26) 32 9 (.string ⟨#[]⟩) 16 rfl Tryz.underlying32 info9 rfl (by decide) (by omega) u108001 x108001_1 t112 [.string t112] (fun _ => True) (fun _ => False) rfl rfl ?aP (fun _ hk => hk.elim) ?aF ?aO ?aB ?aS ?aL ?_
                (case aP => exact rfl)
                (case aB => exact Bl_)
                (case aF => exact (fun _ _ => trivial))
                (case aO => exact (Pr_ HO_108001.out))
                (case aS => exact Bz_)
                (case aL => have := LMc25.out; omega)
                intro v114 w28 ho hb hg hat
                rw [← Ny113.out] at ho
                replace HO_16 := Aside0.mk (Kd.R_over' (Pr_ HO_16.out) (Kd.R_typed (Pr_ HO_108001.out)) (by decide) hg)
                replace HO_108000 := Aside0.mk (Kd.R_over' (Pr_ HO_108000.out) (Kd.R_typed (Pr_ HO_108001.out)) (by decide) hg)
                replace BK101 := kg_ BK101 hg (Kd.R_ne HO_108001.out BK101.out (by decide))
                replace BK102 := kg_ BK102 hg (Kd.R_ne HO_108001.out BK102.out (by decide))
                replace BK107 := kg_ BK107 hg (Kd.R_ne HO_108001.out BK107.out (by decide))
                replace HB := Aside0.mk (hb)
                have HO115 := Aside0.mk (ho)
                clear HO_108001
                clear ho hb hg hat
                obtain ⟨Ao29, co29, eo29⟩ := Kd.R_slice HO115.out
                (first | subst eo29 | (injection eo29 with f1_ f2_ f3_; have f4_ := f1_.symm; have f5_ := f3_.symm; clear f1_ f2_ f3_; subst f4_; subst f5_))
                refine hK.out _ _ ⟨(blk_cell BK107.out 0).trans rfl, (blk_cell BK107.out 1).trans rfl⟩ (fun hHeld => ?_)
                clear hK K
                refine norm_ (a' := ?_) ?_ ?_
                rotate_left
                · show Act.put _ (some 27) _ = _
                  simp only [Act.put, List.setIfInBounds_toArray, List.set_cons_zero, List.set_cons_succ, i64_w, i32_w]
                  rfl
                refine pu_ 6 (some 28) HT_ #[true, true, true, true, true, true, true, false] ?_
                refine last_ (i := 7) (N := none) #[true, true, true, true, true, true, true, true] rfl rfl (one_of HT_.out (by kernel_rfl)) (by decide) (fun K hK => ?_)
                have hs30 : w28.cell? ⟨gb107, 1, none⟩ = some (u108001) := (blk_cell BK107.out 1).trans rfl
                have hfs30 := blk_frozen BK107.out 1
                have hns30_0 := NB101_107.out
                have hns30_1 := NB102_107.out
                have hms30_0 := NB107_101.out
                have hms30_1 := NB107_102.out
                refine skip_ (w1 := ?_) (by rfl) rfl ?_ ?_
                rotate_left
                · go_simp
                  rfl
                refine hK.out _ _ ?_
                clear hK K
                refine done_ (done_of HT_.out (by kernel_rfl)) ?_
                try go_wp2
                go_roundg k1
                case measure => have := HK1.out; omega
                case rel => exact ⟨(wrap64 (x18_1 + 1)), (y113), (.slice Ao29 y113.length co29), Rf_, H', ⟨by have := HK1.out; omega⟩, ⟨by (with_reducible repeat (first | apply Kd.R_alloc | apply Kd.R_drewN | apply Kd.R_drew)); exact Kd.R_mono (Kd.R_far (p := ⟨gb107, 1, none⟩) (Kd.R_types HO_16.out BK107.out (by decide)) (fun _ hk => hk.2) (.slice Ao29 y113.length co29)) (fun _ hk => trivial)⟩, ⟨by (with_reducible repeat (first | apply Kd.R_alloc | apply Kd.R_drewN | apply Kd.R_drew)); exact Kd.R_mono (Kd.R_far (p := ⟨gb107, 1, none⟩) (Kd.R_types HO_108000.out BK107.out (by decide)) (fun _ hk => hk.2) (.slice Ao29 y113.length co29)) (fun _ hk => trivial)⟩, ⟨by (with_reducible repeat (first | apply Kd.R_alloc | apply Kd.R_drewN | apply Kd.R_drew)); exact Kd.R_mono (Kd.R_far (p := ⟨gb107, 1, none⟩) (Kd.R_types HO115.out BK107.out (by decide)) (fun _ hk => hk.2) (.slice Ao29 y113.length co29)) (fun _ hk => trivial)⟩, ⟨by (with_reducible repeat (first | refine blk_drewN ?_ _ | refine blk_drew ?_ | refine blk_alloc ?_ _)); refine blk_far ?_ NB101_107.out _; (with_reducible repeat (first | refine blk_drewN ?_ _ | refine blk_drew ?_ | refine blk_alloc ?_ _)); exact BK101.out⟩, ⟨by (with_reducible repeat (first | refine blk_drewN ?_ _ | refine blk_drew ?_ | refine blk_alloc ?_ _)); refine blk_far ?_ NB102_107.out _; (with_reducible repeat (first | refine blk_drewN ?_ _ | refine blk_drew ?_ | refine blk_alloc ?_ _)); exact BK102.out⟩, ⟨by (with_reducible repeat (first | refine blk_drewN ?_ _ | refine blk_drew ?_ | refine blk_alloc ?_ _)); refine blk_put (cs := #[.slice Ao13 t104.length co13, u108001]) ?_ 1 _ rfl; (with_reducible repeat (first | refine blk_drewN ?_ _ | refine blk_drew ?_ | refine blk_alloc ?_ _)); exact BK107.out⟩, ⟨Bl_⟩⟩
              · rw [if_neg c25] at H
                exact absurd H (by simp)
            · rw [if_neg c23] at H
              exact absurd H (by simp)
          · rw [if_neg c22] at H
            exact absurd H (by simp)
        · rw [if_neg c21] at H
          have c21b0 : decide (x18_1 < (t108.length : Int)) = false := decide_eq_false c21
          clear c21
          simp only [Option.some.injEq, Prod.mk.injEq] at H
          obtain ⟨rfl, rfl, rfl⟩ := H
          have hnb31 := NB107_101.out
          have hnc31 := NB101_107.out
          have hnb32 := NB107_102.out
          have hnc32 := NB102_107.out
          obtain ⟨hcz33_0, hcz33_1⟩ := c2_ BK107
          obtain ⟨hfz33_0, hfz33_1⟩ := f2_ BK107
          have hnb34 := NB102_101.out
          have hnc34 := NB101_102.out
          obtain ⟨hcz35_0, hcz35_1⟩ := c2_ BK102
          obtain ⟨hfz35_0, hfz35_1⟩ := f2_ BK102
          obtain ⟨Ao36, co36, eo36⟩ := Kd.R_slice HO_108001.out
          subst eo36
          go_wp2
          refine bodyPost_ret (results_ct rfl _ _ gb102 34 #[.slice Ao13 t104.length co13, .slice Ao36 x108001_1.length co36] (0, 0) _ rfl (by (with_reducible repeat (first | refine blk_drewN ?_ _ | refine blk_drew ?_ | refine blk_alloc ?_ _)); refine blk_put (cs := #[.slice Ao13 t104.length co13, .slice none 0 0]) ?_ 1 _ rfl; (with_reducible repeat (first | refine blk_drewN ?_ _ | refine blk_drew ?_ | refine blk_alloc ?_ _)); refine blk_put (cs := #[.slice none 0 0, .slice none 0 0]) ?_ 0 _ rfl; (with_reducible repeat (first | refine blk_drewN ?_ _ | refine blk_drew ?_ | refine blk_alloc ?_ _)); exact BK102.out) Tryz.underlying34 rfl (by kernel_rfl)) rfl ?_
          exact ⟨_, _, Re_, by (with_reducible repeat (first | apply Kd.R_alloc | apply Kd.R_drewN | apply Kd.R_drew)); exact Kd.R_mono (Kd.R_far (p := ⟨gb102, 1, none⟩) (Kd.R_far (p := ⟨gb102, 0, none⟩) (Kd.R_types HO_108000.out BK102.out (by decide)) (fun _ hk => hk.2) (.slice Ao13 t104.length co13)) (fun _ hk => hk.2) (.slice Ao36 x108001_1.length co36)) (fun _ hk => trivial), by (with_reducible repeat (first | apply Kd.R_alloc | apply Kd.R_drewN | apply Kd.R_drew)); exact Kd.R_mono (Kd.R_far (p := ⟨gb102, 1, none⟩) (Kd.R_far (p := ⟨gb102, 0, none⟩) (Kd.R_types HO_108001.out BK102.out (by decide)) (fun _ hk => hk.2) (.slice Ao13 t104.length co13)) (fun _ hk => hk.2) (.slice Ao36 x108001_1.length co36)) (fun _ hk => trivial), Bl_⟩
  · replace c3 := Bool.eq_false_iff.mpr c3
    subst c3
    have H1 : (some (([] : List Int), ([] : List ByteArray), false)) = some (r1, r2, r3) := by rw [if_neg (show ¬ (false = true) by decide)] at H; exact H
    clear H
    have H := H1
    clear H1
    simp only [Option.some.injEq, Prod.mk.injEq] at H
    obtain ⟨rfl, rfl, rfl⟩ := H
    go_enter Tryz.func15, Tryz.ntmps15
    go_wp2_with (first | ((with_reducible refine gate_dst (N := 1) rfl ?_); refine bx_ 1 #[.int .i64 a0_0, .slice A0_1 l0_1.length c0_1, .string a0_2] 27 ?_; intro gb101 hg w37 hbox hb; have BK101 := Aside0.mk (hbox); have GW101 := (Bg_ hg : Aside0 (w.heap.size ≤ gb101)); have GE101 := (Bg_ hg : Aside0 (w.heap.size ≤ gb101)); replace HB := Bs_ hb; clear hb hbox hg) | ((with_reducible refine gate_dst (N := 2) rfl ?_); refine bx_ 2 #[.slice none 0 0, .slice none 0 0] 34 ?_; intro gb102 hg w38 hbox hb; have BK102 := Aside0.mk (hbox); have GW102 := (Bg_ hg : Aside0 (w.heap.size ≤ gb102)); have GE102 := (Bg_ hg : Aside0 (w.heap.size ≤ gb102)); replace HB := Bs_ hb; have NB101_102 := nl_ hg BK101; have NB102_101 := ng_ hg BK101; replace BK101 := kb_ BK101 hb; clear hb hbox hg; have hnb39 := NB101_102.out; have hnc39 := NB102_101.out; obtain ⟨hcz40_0, hcz40_1, hcz40_2⟩ := c3_ BK101; obtain ⟨hfz40_0, hfz40_1, hfz40_2⟩ := f3_ BK101) | ((with_reducible refine gate_callee (f := 19) rfl ?_); refine goesL_ (some 8) rfl rfl Tryz.func19 (by kernel_rfl) rfl #[.agg #[.int .i64 a0_0, .slice A0_1 l0_1.length c0_1, .string a0_2]] rfl Ga_ ?_; (with_reducible refine (typed_Typed_May.calls k a0_0 _ _ l0_1 a0_2 false _ ?side1 ?side2 A2.out).mono ?_); (case side1 => exact Pc_ (Kd.C_below HR0_1.out HB.out)); (case side2 => exact HC0_1.out); rintro e w41 ⟨rfl, hb⟩; refine ⟨_, rfl, ?_⟩; replace BK101 := kb_ BK101 hb; replace BK102 := kb_ BK102 hb; replace HB := Bs_ hb; (try clear hb); (try clear hb2); (try clear hk); (try clear hi); obtain ⟨hcz42_0, hcz42_1⟩ := c2_ BK102; obtain ⟨hfz42_0, hfz42_1⟩ := f2_ BK102))
    refine bodyPost_ret (results_ct rfl _ _ gb102 34 #[.slice none 0 0, .slice none 0 0] (0, 0) _ rfl (by (with_reducible repeat (first | refine blk_drewN ?_ _ | refine blk_drew ?_ | refine blk_alloc ?_ _)); refine blk_put (cs := #[.slice none 0 0, .slice none 0 0]) ?_ 1 _ rfl; (with_reducible repeat (first | refine blk_drewN ?_ _ | refine blk_drew ?_ | refine blk_alloc ?_ _)); refine blk_put (cs := #[.slice none 0 0, .slice none 0 0]) ?_ 0 _ rfl; (with_reducible repeat (first | refine blk_drewN ?_ _ | refine blk_drew ?_ | refine blk_alloc ?_ _)); exact BK102.out) Tryz.underlying34 rfl (by kernel_rfl)) rfl ?_
    exact ⟨_, _, Re_, by first | exact Kd.R_nil _ _ _ _ _ | exact Kd.N_nil _ _ _ _ _ | exact Kd.V_nil _ _ _ _ _ | exact Kd.Q_nil _ _ _ _ _ | exact Kd.S_nil _ _ _ _ _, by first | exact Kd.R_nil _ _ _ _ _ | exact Kd.N_nil _ _ _ _ _ | exact Kd.V_nil _ _ _ _ _ | exact Kd.Q_nil _ _ _ _ _ | exact Kd.S_nil _ _ _ _ _, Bl_⟩
/-! ### reredosref01_Of: function 69 -/
def reredosref01_Of.f : Nat → Int → Option (ByteArray)
  | 0, _ => none
  | k + 1, a0 => if a0 < 0 then (if a0 > (-10) then ((some (([(wrap64 (48 - a0)) % 256] : List Int) : List Int)).bind fun y101 => (if 1 + (strOfNums y101).size ≤ 9223372036854775807 then (some ((⟨#[45]⟩ : ByteArray) ++ (strOfNums y101))) else (none))) else ((reredosref01_Of.f k (wrap64 (Int.tdiv a0 10))).bind fun t104 => ((some (([(wrap64 (48 - (Int.tmod a0 10))) % 256] : List Int) : List Int)).bind fun y105 => (if t104.size + (strOfNums y105).size ≤ 9223372036854775807 then (some (t104 ++ (strOfNums y105))) else (none))))) else (if a0 < 10 then (some (strOfNums (([(wrap64 (48 + a0)) % 256] : List Int)))) else ((reredosref01_Of.f k (wrap64 (Int.tdiv a0 10))).bind fun t111 => ((some (([(wrap64 (48 + (Int.tmod a0 10))) % 256] : List Int) : List Int)).bind fun y112 => (if t111.size + (strOfNums y112).size ≤ 9223372036854775807 then (some (t111 ++ (strOfNums y112))) else (none)))))
def reredosref01_Of.T4 : Bool × List (List Nat × List Nat) := (true, [([], []), ([0], [0]), ([1], [1]), ([], []), ([3], [3]), ([4], [4]), ([5], [5]), ([6], [6]), ([7], [7]), ([2, 8], [2, 8]), ([9, 2, 0, 1, 2, 3, 4, 5, 6, 7, 8, 9], [9])])
def reredosref01_Of.B4 : List Nat := [0, 1, 3, 0, 8, 24, 56, 120, 248, 511, 1023]
theorem reredosref01_Of.tab4 : rtab .any (opsOf Tryz.f69 4) = reredosref01_Of.T4 := by kernel_rfl
theorem reredosref01_Of.bits4 : waitsOk reredosref01_Of.T4.2 reredosref01_Of.B4 = true := by kernel_rfl
def reredosref01_Of.T7 : Bool × List (List Nat × List Nat) := (true, [([], []), ([0], [0]), ([1], [1]), ([], []), ([3], [3]), ([4], [4]), ([5], [5]), ([6], [6]), ([7], [7]), ([2, 8], [2, 8]), ([9, 2, 0, 1, 2, 3, 4, 5, 6, 7, 8, 9], [9])])
def reredosref01_Of.B7 : List Nat := [0, 1, 3, 0, 8, 24, 56, 120, 248, 511, 1023]
theorem reredosref01_Of.tab7 : rtab .any (opsOf Tryz.f69 7) = reredosref01_Of.T7 := by kernel_rfl
theorem reredosref01_Of.bits7 : waitsOk reredosref01_Of.T7.2 reredosref01_Of.B7 = true := by kernel_rfl
set_option maxHeartbeats 8000000 in
set_option maxRecDepth 100000 in
theorem reredosref01_Of.calls (k : Nat) : ∀ (a0 : Int) (r : ByteArray) (w : World) (h : reredosref01_Of.f k a0 = some r),
    Calls Tryz.prog 69 #[.int .i64 a0] w fun e w' => e = .returned (.string r) ∧ Below w.heap.size w w' := by
  induction k using Nat.strongRecOn with
  | _ k ih =>
  intro a0 r w h
  cases k with
  | zero => exact absurd h (by simp [reredosref01_Of.f])
  | succ k =>
  simp only [reredosref01_Of.f] at h
  have HB := Aside0.mk (Below.refl w.heap.size w)
  have H : (if a0 < 0 then (if a0 > (-10) then ((some (([(wrap64 (48 - a0)) % 256] : List Int) : List Int)).bind fun y101 => (if 1 + (strOfNums y101).size ≤ 9223372036854775807 then (some ((⟨#[45]⟩ : ByteArray) ++ (strOfNums y101))) else (none))) else ((reredosref01_Of.f k (wrap64 (Int.tdiv a0 10))).bind fun t104 => ((some (([(wrap64 (48 - (Int.tmod a0 10))) % 256] : List Int) : List Int)).bind fun y105 => (if t104.size + (strOfNums y105).size ≤ 9223372036854775807 then (some (t104 ++ (strOfNums y105))) else (none))))) else (if a0 < 10 then (some (strOfNums (([(wrap64 (48 + a0)) % 256] : List Int)))) else ((reredosref01_Of.f k (wrap64 (Int.tdiv a0 10))).bind fun t111 => ((some (([(wrap64 (48 + (Int.tmod a0 10))) % 256] : List Int) : List Int)).bind fun y112 => (if t111.size + (strOfNums y112).size ≤ 9223372036854775807 then (some (t111 ++ (strOfNums y112))) else (none)))))) = some r := h
  clear h
  by_cases c2 : a0 < 0
  · rw [if_pos c2] at H
    have c2b0 : decide (a0 < 0) = true := decide_eq_true c2
    clear c2
    by_cases c3 : a0 > (-10)
    · rw [if_pos c3] at H
      have c3b0 : decide ((-10) < a0) = true := decide_eq_true c3
      clear c3
      obtain ⟨y101, hy101⟩ : ∃ y_ : List Int, y_ = (([(wrap64 (48 - a0)) % 256] : List Int)) := ⟨_, rfl⟩
      replace H : (if 1 + (strOfNums y101).size ≤ 9223372036854775807 then (some ((⟨#[45]⟩ : ByteArray) ++ (strOfNums y101))) else (none)) = some r := by first | (rw [hy101]; with_reducible exact H) | (have H2_ := (Option.bind_some _ _).symm.trans H; rw [hy101]; with_reducible exact H2_) | (have H2_ := (Option.bind_some _ _).symm.trans H; with_reducible exact H2_) | with_reducible exact H | (rw [hy101]; exact H) | exact H
      have Ny101 := Aside0.mk hy101
      clear hy101
      by_cases c4 : 1 + (strOfNums y101).size ≤ 9223372036854775807
      · rw [if_pos c4] at H
        have c4b0 := eq_true c4
        have c4b1 : decide (1 + (strOfNums y101).size ≤ 9223372036854775807) = true := decide_eq_true c4
        try have c4b2 : (9223372036854775807 < 1 + (strOfNums y101).size) = False := eq_false (Nat.not_lt.2 c4)
        obtain rfl := Option.some.inj H
        go_enter Tryz.func69, Tryz.ntmps69
        go_wp2_with (first | ((with_reducible refine gate_dst (N := 10) rfl ?_); refine Kd.R_lit (Kd.int .u8) _ 5 ?hg (N := 10) ?hd (xs := ([(wrap64 (48 - a0)) % 256] : List Int)) (inner := [.int .u8 ((wrap64 (48 - a0)) % 256)]) (ok := fun _ => True) (okp := fun _ => True) ?hr ?hp (fun _ hk => hk) trivial (Below.refl _ _) (Nat.le_refl _) (by simp) ?_; (case hd => rfl); (case hg => rfl); (case hr => first | (go_simp; done) | (go_simp; rfl)); (case hp => exact (Reps.one (show Kd.M (Kd.int .u8) _ _ _ ((wrap64 (48 - a0)) % 256) [.int .u8 ((wrap64 (48 - a0)) % 256)] from rfl) (Reps.none _ _))); intro v102 w5 ho6 hb hg_ hnew_; clear hg_ hnew_; (first | rw [← Ny101.out] at ho6 | (simp only [Int.reduceToNat] at ho6; rw [← Ny101.out] at ho6)); have HO103 := Aside0.mk (Kd.R_lower ho6 Bz_); replace HB := Bs_ hb; clear hb ho6; have hcv7 := own_string (P := Tryz.prog) Tryz.underlying55 Tryz.underlying5 Tryz.underlying9 (Kd.own_of_R HO103.out)))
        go_ret
        exact ⟨Re_, Bl_⟩
      · rw [if_neg c4] at H
        exact absurd H (by simp)
    · rw [if_neg c3] at H
      have c3b0 : decide ((-10) < a0) = false := decide_eq_false c3
      clear c3
      obtain ⟨t104, A8, H⟩ := bnd_ H
      try dsimp -simprocs only at H
      obtain ⟨y105, hy105⟩ : ∃ y_ : List Int, y_ = (([(wrap64 (48 - (Int.tmod a0 10))) % 256] : List Int)) := ⟨_, rfl⟩
      replace H : (if t104.size + (strOfNums y105).size ≤ 9223372036854775807 then (some (t104 ++ (strOfNums y105))) else (none)) = some r := by first | (rw [hy105]; with_reducible exact H) | (have H2_ := (Option.bind_some _ _).symm.trans H; rw [hy105]; with_reducible exact H2_) | (have H2_ := (Option.bind_some _ _).symm.trans H; with_reducible exact H2_) | with_reducible exact H | (rw [hy105]; exact H) | exact H
      have Ny105 := Aside0.mk hy105
      clear hy105
      by_cases c9 : t104.size + (strOfNums y105).size ≤ 9223372036854775807
      · rw [if_pos c9] at H
        have c9b0 := eq_true c9
        have c9b1 : decide (t104.size + (strOfNums y105).size ≤ 9223372036854775807) = true := decide_eq_true c9
        try have c9b2 : (9223372036854775807 < t104.size + (strOfNums y105).size) = False := eq_false (Nat.not_lt.2 c9)
        obtain rfl := Option.some.inj H
        go_enter Tryz.func69, Tryz.ntmps69
        try go_wp2
        replace HB := Aside0.mk (below_drew1 HB.out)
        refine start_ (n := 11) (S := fun w' => True) (ds := []) #[false, false, false, false, false, false, false, false, false, false, false] (by kernel_rfl) rfl rfl trivial (fun hHeld => ?_); refine with_tabW reredosref01_Of.tab4 reredosref01_Of.bits4 (fun HT_ HW_ => ?_)
        generalize w.drew = w10 at HB hHeld ⊢
        refine pu_ 0 (some 13) HT_ #[true, false, false, false, false, false, false, false, false, false, false] ?_
        refine pu_ 1 (some 14) HT_ #[true, true, false, false, false, false, false, false, false, false, false] ?_
        refine pu_ 3 (some 16) HT_ #[true, true, false, true, false, false, false, false, false, false, false] ?_
        refine pu_ 4 (some 17) HT_ #[true, true, false, true, true, false, false, false, false, false, false] ?_
        refine pu_ 5 (some 18) HT_ #[true, true, false, true, true, true, false, false, false, false, false] ?_
        refine pu_ 6 (some 19) HT_ #[true, true, false, true, true, true, true, false, false, false, false] ?_
        refine join_ (σ := Value) 2 #[true, true, true, true, true, true, true, true, true, false, false] (fun s_ => [(15, .string t104), (20, s_), (21, .string (strOfNums y105))]) (fun s_ w' => (Kd.R (Kd.int .u8) 5 w' w.heap.size (fun _ => True) s_ y105) ∧ (Below w.heap.size w w')) ?_ ?_
        rotate_left
        · intro hCont
          refine two_ (i := 2) (j := 7) (Ni := some 15) (Nj := some 20) #[true, true, true, true, true, true, true, false, false, false, false] #[true, true, false, true, true, true, true, true, false, false, false] rfl rfl rfl rfl (two_of HT_.out (by kernel_rfl)) (by decide) (by decide) (fun K hK => ?_) (fun K hK => ?_)
          · skip
            refine goes_ Tryz.func69 (by kernel_rfl) rfl #[.int .i64 (wrap64 (Int.tdiv a0 10))] (by rfl) rfl rfl Ga_ ?_
            with_reducible refine (ih k (by omega) (wrap64 (Int.tdiv a0 10)) t104 _ A8.out).mono ?_
            rintro e w11 ⟨rfl, hb⟩
            refine ⟨_, rfl, ?_⟩
            replace HB := Bs_ hb
            (try clear hb)
            (try clear hb2)
            (try clear hk)
            (try clear hi)
            refine hK.out _ _ trivial (fun hHeld => ?_)
            clear hK K
            refine norm_ (a' := ?_) ?_ ?_
            rotate_left
            · show Act.put _ (some 15) _ = _
              simp only [Act.put, List.setIfInBounds_toArray, List.set_cons_zero, List.set_cons_succ, i64_w, i32_w]
              rfl
            refine one_ (i := 7) (N := some 20) #[true, true, true, true, true, true, true, true, false, false, false] rfl rfl (one_of HT_.out (by kernel_rfl)) (by decide) (fun K hK => ?_)
            refine Kd.R_lit_step (Kd.int .u8) _ 5 ?hg (N := 20) ?hd (xs := ([(wrap64 (48 - (Int.tmod a0 10))) % 256] : List Int)) (inner := [.int .u8 ((wrap64 (48 - (Int.tmod a0 10))) % 256)]) (ok := fun _ => True) (okp := fun _ => True) ?hr ?hp (fun _ hk => hk) trivial (Below.refl _ _) (Nat.le_refl _) (by simp) ?_; (case hd => rfl); (case hg => rfl); (case hr => first | (go_simp; done) | (go_simp; rfl)); (case hp => exact (Reps.one (show Kd.M (Kd.int .u8) _ _ _ ((wrap64 (48 - (Int.tmod a0 10))) % 256) [.int .u8 ((wrap64 (48 - (Int.tmod a0 10))) % 256)] from rfl) (Reps.none _ _)))
            intro v106 w12 ho13 hb hg_ hnew_
            clear hg_ hnew_
            (first | rw [← Ny105.out] at ho13 | (simp only [Int.reduceToNat] at ho13; rw [← Ny105.out] at ho13))
            have HO107 := Aside0.mk (Kd.R_lower ho13 Bz_)
            replace HB := Bs_ hb
            clear hb ho13
            refine hK.out _ _ trivial (fun hHeld => ?_)
            clear hK K
            refine norm_ (a' := ?_) ?_ ?_
            rotate_left
            · show Act.put _ (some 20) _ = _
              simp only [Act.put, List.setIfInBounds_toArray, List.set_cons_zero, List.set_cons_succ, i64_w, i32_w]
              rfl
            refine one_ (i := 8) (N := some 21) #[true, true, true, true, true, true, true, true, true, false, false] rfl rfl (one_of HT_.out (by kernel_rfl)) (by decide) (fun K hK => ?_)
            have hcv14 := own_string (P := Tryz.prog) Tryz.underlying55 Tryz.underlying5 Tryz.underlying9 (Kd.own_of_R HO107.out)
            refine value_ (w1 := ?_) (v := ?_) (by rfl) rfl ?_ ?_
            rotate_left 2
            · go_simp
              constructor
              · rfl
              · rfl
            clear hcv14
            refine hK.out _ _ trivial (fun hHeld => ?_)
            clear hK K
            refine norm_ (a' := ?_) ?_ ?_
            rotate_left
            · show Act.put _ (some 21) _ = _
              simp only [Act.put, List.setIfInBounds_toArray, List.set_cons_zero, List.set_cons_succ, i64_w, i32_w]
              rfl
            exact norm_ (by simp only [putAll, Act.put, List.setIfInBounds_toArray, List.set_cons_zero, List.set_cons_succ]) (hCont (v106) _ ⟨(Pr_ HO107.out), Bl_⟩)
          · skip
            refine Kd.R_lit_step (Kd.int .u8) _ 5 ?hg (N := 20) ?hd (xs := ([(wrap64 (48 - (Int.tmod a0 10))) % 256] : List Int)) (inner := [.int .u8 ((wrap64 (48 - (Int.tmod a0 10))) % 256)]) (ok := fun _ => True) (okp := fun _ => True) ?hr ?hp (fun _ hk => hk) trivial (Below.refl _ _) (Nat.le_refl _) (by simp) ?_; (case hd => rfl); (case hg => rfl); (case hr => first | (go_simp; done) | (go_simp; rfl)); (case hp => exact (Reps.one (show Kd.M (Kd.int .u8) _ _ _ ((wrap64 (48 - (Int.tmod a0 10))) % 256) [.int .u8 ((wrap64 (48 - (Int.tmod a0 10))) % 256)] from rfl) (Reps.none _ _)))
            intro v106 w11 ho12 hb hg_ hnew_
            clear hg_ hnew_
            (first | rw [← Ny105.out] at ho12 | (simp only [Int.reduceToNat] at ho12; rw [← Ny105.out] at ho12))
            have HO107 := Aside0.mk (Kd.R_lower ho12 Bz_)
            replace HB := Bs_ hb
            clear hb ho12
            refine hK.out _ _ trivial (fun hHeld => ?_)
            clear hK K
            refine norm_ (a' := ?_) ?_ ?_
            rotate_left
            · show Act.put _ (some 20) _ = _
              simp only [Act.put, List.setIfInBounds_toArray, List.set_cons_zero, List.set_cons_succ, i64_w, i32_w]
              rfl
            refine two_ (i := 2) (j := 8) (Ni := some 15) (Nj := some 21) #[true, true, true, true, true, true, true, true, false, false, false] #[true, true, false, true, true, true, true, true, true, false, false] rfl rfl rfl rfl (two_of HT_.out (by kernel_rfl)) (by decide) (by decide) (fun K hK => ?_) (fun K hK => ?_)
            · skip
              refine goes_ Tryz.func69 (by kernel_rfl) rfl #[.int .i64 (wrap64 (Int.tdiv a0 10))] (by rfl) rfl rfl Ga_ ?_
              with_reducible refine (ih k (by omega) (wrap64 (Int.tdiv a0 10)) t104 _ A8.out).mono ?_
              rintro e w13 ⟨rfl, hb⟩
              refine ⟨_, rfl, ?_⟩
              replace HO107 := Aside0.mk (Kd.R_below (Pr_ HO107.out) hb)
              replace HB := Bs_ hb
              (try clear hb)
              (try clear hb2)
              (try clear hk)
              (try clear hi)
              refine hK.out _ _ trivial (fun hHeld => ?_)
              clear hK K
              refine norm_ (a' := ?_) ?_ ?_
              rotate_left
              · show Act.put _ (some 15) _ = _
                simp only [Act.put, List.setIfInBounds_toArray, List.set_cons_zero, List.set_cons_succ, i64_w, i32_w]
                rfl
              refine one_ (i := 8) (N := some 21) #[true, true, true, true, true, true, true, true, true, false, false] rfl rfl (one_of HT_.out (by kernel_rfl)) (by decide) (fun K hK => ?_)
              have hcv14 := own_string (P := Tryz.prog) Tryz.underlying55 Tryz.underlying5 Tryz.underlying9 (Kd.own_of_R HO107.out)
              refine value_ (w1 := ?_) (v := ?_) (by rfl) rfl ?_ ?_
              rotate_left 2
              · go_simp
                constructor
                · rfl
                · rfl
              clear hcv14
              refine hK.out _ _ trivial (fun hHeld => ?_)
              clear hK K
              refine norm_ (a' := ?_) ?_ ?_
              rotate_left
              · show Act.put _ (some 21) _ = _
                simp only [Act.put, List.setIfInBounds_toArray, List.set_cons_zero, List.set_cons_succ, i64_w, i32_w]
                rfl
              exact norm_ (by simp only [putAll, Act.put, List.setIfInBounds_toArray, List.set_cons_zero, List.set_cons_succ]) (hCont (v106) _ ⟨(Pr_ HO107.out), Bl_⟩)
            · skip
              have hcv13 := own_string (P := Tryz.prog) Tryz.underlying55 Tryz.underlying5 Tryz.underlying9 (Kd.own_of_R HO107.out)
              refine value_ (w1 := ?_) (v := ?_) (by rfl) rfl ?_ ?_
              rotate_left 2
              · go_simp
                constructor
                · rfl
                · rfl
              clear hcv13
              refine hK.out _ _ trivial (fun hHeld => ?_)
              clear hK K
              refine norm_ (a' := ?_) ?_ ?_
              rotate_left
              · show Act.put _ (some 21) _ = _
                simp only [Act.put, List.setIfInBounds_toArray, List.set_cons_zero, List.set_cons_succ, i64_w, i32_w]
                rfl
              refine one_ (i := 2) (N := some 15) #[true, true, true, true, true, true, true, true, true, false, false] rfl rfl (one_of HT_.out (by kernel_rfl)) (by decide) (fun K hK => ?_)
              refine goes_ Tryz.func69 (by kernel_rfl) rfl #[.int .i64 (wrap64 (Int.tdiv a0 10))] (by rfl) rfl rfl Ga_ ?_
              with_reducible refine (ih k (by omega) (wrap64 (Int.tdiv a0 10)) t104 _ A8.out).mono ?_
              rintro e w14 ⟨rfl, hb⟩
              refine ⟨_, rfl, ?_⟩
              replace HO107 := Aside0.mk (Kd.R_below (Pr_ HO107.out) hb)
              replace HB := Bs_ hb
              (try clear hb)
              (try clear hb2)
              (try clear hk)
              (try clear hi)
              refine hK.out _ _ trivial (fun hHeld => ?_)
              clear hK K
              refine norm_ (a' := ?_) ?_ ?_
              rotate_left
              · show Act.put _ (some 15) _ = _
                simp only [Act.put, List.setIfInBounds_toArray, List.set_cons_zero, List.set_cons_succ, i64_w, i32_w]
                rfl
              exact norm_ (by simp only [putAll, Act.put, List.setIfInBounds_toArray, List.set_cons_zero, List.set_cons_succ]) (hCont (v106) _ ⟨(Pr_ HO107.out), Bl_⟩)
        rintro v106 w15 ⟨h0_, h1_⟩
        have n0_ : Aside0 (Kd.R (Kd.int .u8) 5 w15 w.heap.size (fun _ => True) v106 y105) := ⟨h0_⟩
        have n1_ : Aside0 (Below w.heap.size w w15) := ⟨h1_⟩
        clear HB
        clear h0_ h1_
        have HO107 := n0_
        have HB := n1_
        clear n0_ n1_
        have hHeld := trivial
        refine norm_ (a' := ?_) ?_ ?_
        rotate_left
        · simp only [putAll, Act.put, List.setIfInBounds_toArray, List.set_cons_zero, List.set_cons_succ]
          rfl
        refine pu_ 9 (some 22) HT_ #[true, true, true, true, true, true, true, true, true, true, false] ?_
        refine pu_ 10 (some 2) HT_ #[true, true, true, true, true, true, true, true, true, true, true] ?_
        refine done_ (done_of HT_.out (by kernel_rfl)) ?_
        try go_wp2
        go_ret
        exact ⟨Re_, Bl_⟩
      · rw [if_neg c9] at H
        exact absurd H (by simp)
  · rw [if_neg c2] at H
    have c2b0 : decide (a0 < 0) = false := decide_eq_false c2
    clear c2
    by_cases c16 : a0 < 10
    · rw [if_pos c16] at H
      have c16b0 : decide (a0 < 10) = true := decide_eq_true c16
      clear c16
      obtain ⟨y108, hy108⟩ : ∃ y_ : List Int, y_ = (([(wrap64 (48 + a0)) % 256] : List Int)) := ⟨_, rfl⟩
      replace H : (some (strOfNums y108)) = some r := by first | (rw [hy108]; with_reducible exact H) | (have H2_ := (Option.bind_some _ _).symm.trans H; rw [hy108]; with_reducible exact H2_) | (have H2_ := (Option.bind_some _ _).symm.trans H; with_reducible exact H2_) | with_reducible exact H | (rw [hy108]; exact H) | exact H
      have Ny108 := Aside0.mk hy108
      clear hy108
      obtain rfl := Option.some.inj H
      go_enter Tryz.func69, Tryz.ntmps69
      go_wp2_with (first | ((with_reducible refine gate_dst (N := 28) rfl ?_); refine Kd.R_lit (Kd.int .u8) _ 5 ?hg (N := 28) ?hd (xs := ([(wrap64 (48 + a0)) % 256] : List Int)) (inner := [.int .u8 ((wrap64 (48 + a0)) % 256)]) (ok := fun _ => True) (okp := fun _ => True) ?hr ?hp (fun _ hk => hk) trivial (Below.refl _ _) (Nat.le_refl _) (by simp) ?_; (case hd => rfl); (case hg => rfl); (case hr => first | (go_simp; done) | (go_simp; rfl)); (case hp => exact (Reps.one (show Kd.M (Kd.int .u8) _ _ _ ((wrap64 (48 + a0)) % 256) [.int .u8 ((wrap64 (48 + a0)) % 256)] from rfl) (Reps.none _ _))); intro v109 w17 ho18 hb hg_ hnew_; clear hg_ hnew_; (first | rw [← Ny108.out] at ho18 | (simp only [Int.reduceToNat] at ho18; rw [← Ny108.out] at ho18)); have HO110 := Aside0.mk (Kd.R_lower ho18 Bz_); replace HB := Bs_ hb; clear hb ho18; have hcv19 := own_string (P := Tryz.prog) Tryz.underlying55 Tryz.underlying5 Tryz.underlying9 (Kd.own_of_R HO110.out)))
      go_ret
      exact ⟨Re_, Bl_⟩
    · rw [if_neg c16] at H
      have c16b0 : decide (a0 < 10) = false := decide_eq_false c16
      clear c16
      obtain ⟨t111, A20, H⟩ := bnd_ H
      try dsimp -simprocs only at H
      obtain ⟨y112, hy112⟩ : ∃ y_ : List Int, y_ = (([(wrap64 (48 + (Int.tmod a0 10))) % 256] : List Int)) := ⟨_, rfl⟩
      replace H : (if t111.size + (strOfNums y112).size ≤ 9223372036854775807 then (some (t111 ++ (strOfNums y112))) else (none)) = some r := by first | (rw [hy112]; with_reducible exact H) | (have H2_ := (Option.bind_some _ _).symm.trans H; rw [hy112]; with_reducible exact H2_) | (have H2_ := (Option.bind_some _ _).symm.trans H; with_reducible exact H2_) | with_reducible exact H | (rw [hy112]; exact H) | exact H
      have Ny112 := Aside0.mk hy112
      clear hy112
      by_cases c21 : t111.size + (strOfNums y112).size ≤ 9223372036854775807
      · rw [if_pos c21] at H
        have c21b0 := eq_true c21
        have c21b1 : decide (t111.size + (strOfNums y112).size ≤ 9223372036854775807) = true := decide_eq_true c21
        try have c21b2 : (9223372036854775807 < t111.size + (strOfNums y112).size) = False := eq_false (Nat.not_lt.2 c21)
        obtain rfl := Option.some.inj H
        go_enter Tryz.func69, Tryz.ntmps69
        try go_wp2
        replace HB := Aside0.mk (below_drew1 HB.out)
        refine start_ (n := 11) (S := fun w' => True) (ds := []) #[false, false, false, false, false, false, false, false, false, false, false] (by kernel_rfl) rfl rfl trivial (fun hHeld => ?_); refine with_tabW reredosref01_Of.tab7 reredosref01_Of.bits7 (fun HT_ HW_ => ?_)
        generalize w.drew = w22 at HB hHeld ⊢
        refine pu_ 0 (some 30) HT_ #[true, false, false, false, false, false, false, false, false, false, false] ?_
        refine pu_ 1 (some 31) HT_ #[true, true, false, false, false, false, false, false, false, false, false] ?_
        refine pu_ 3 (some 33) HT_ #[true, true, false, true, false, false, false, false, false, false, false] ?_
        refine pu_ 4 (some 34) HT_ #[true, true, false, true, true, false, false, false, false, false, false] ?_
        refine pu_ 5 (some 35) HT_ #[true, true, false, true, true, true, false, false, false, false, false] ?_
        refine pu_ 6 (some 36) HT_ #[true, true, false, true, true, true, true, false, false, false, false] ?_
        refine join_ (σ := Value) 2 #[true, true, true, true, true, true, true, true, true, false, false] (fun s_ => [(32, .string t111), (37, s_), (38, .string (strOfNums y112))]) (fun s_ w' => (Kd.R (Kd.int .u8) 5 w' w.heap.size (fun _ => True) s_ y112) ∧ (Below w.heap.size w w')) ?_ ?_
        rotate_left
        · intro hCont
          refine two_ (i := 2) (j := 7) (Ni := some 32) (Nj := some 37) #[true, true, true, true, true, true, true, false, false, false, false] #[true, true, false, true, true, true, true, true, false, false, false] rfl rfl rfl rfl (two_of HT_.out (by kernel_rfl)) (by decide) (by decide) (fun K hK => ?_) (fun K hK => ?_)
          · skip
            refine goes_ Tryz.func69 (by kernel_rfl) rfl #[.int .i64 (wrap64 (Int.tdiv a0 10))] (by rfl) rfl rfl Ga_ ?_
            with_reducible refine (ih k (by omega) (wrap64 (Int.tdiv a0 10)) t111 _ A20.out).mono ?_
            rintro e w23 ⟨rfl, hb⟩
            refine ⟨_, rfl, ?_⟩
            replace HB := Bs_ hb
            (try clear hb)
            (try clear hb2)
            (try clear hk)
            (try clear hi)
            refine hK.out _ _ trivial (fun hHeld => ?_)
            clear hK K
            refine norm_ (a' := ?_) ?_ ?_
            rotate_left
            · show Act.put _ (some 32) _ = _
              simp only [Act.put, List.setIfInBounds_toArray, List.set_cons_zero, List.set_cons_succ, i64_w, i32_w]
              rfl
            refine one_ (i := 7) (N := some 37) #[true, true, true, true, true, true, true, true, false, false, false] rfl rfl (one_of HT_.out (by kernel_rfl)) (by decide) (fun K hK => ?_)
            refine Kd.R_lit_step (Kd.int .u8) _ 5 ?hg (N := 37) ?hd (xs := ([(wrap64 (48 + (Int.tmod a0 10))) % 256] : List Int)) (inner := [.int .u8 ((wrap64 (48 + (Int.tmod a0 10))) % 256)]) (ok := fun _ => True) (okp := fun _ => True) ?hr ?hp (fun _ hk => hk) trivial (Below.refl _ _) (Nat.le_refl _) (by simp) ?_; (case hd => rfl); (case hg => rfl); (case hr => first | (go_simp; done) | (go_simp; rfl)); (case hp => exact (Reps.one (show Kd.M (Kd.int .u8) _ _ _ ((wrap64 (48 + (Int.tmod a0 10))) % 256) [.int .u8 ((wrap64 (48 + (Int.tmod a0 10))) % 256)] from rfl) (Reps.none _ _)))
            intro v113 w24 ho25 hb hg_ hnew_
            clear hg_ hnew_
            (first | rw [← Ny112.out] at ho25 | (simp only [Int.reduceToNat] at ho25; rw [← Ny112.out] at ho25))
            have HO114 := Aside0.mk (Kd.R_lower ho25 Bz_)
            replace HB := Bs_ hb
            clear hb ho25
            refine hK.out _ _ trivial (fun hHeld => ?_)
            clear hK K
            refine norm_ (a' := ?_) ?_ ?_
            rotate_left
            · show Act.put _ (some 37) _ = _
              simp only [Act.put, List.setIfInBounds_toArray, List.set_cons_zero, List.set_cons_succ, i64_w, i32_w]
              rfl
            refine one_ (i := 8) (N := some 38) #[true, true, true, true, true, true, true, true, true, false, false] rfl rfl (one_of HT_.out (by kernel_rfl)) (by decide) (fun K hK => ?_)
            have hcv26 := own_string (P := Tryz.prog) Tryz.underlying55 Tryz.underlying5 Tryz.underlying9 (Kd.own_of_R HO114.out)
            refine value_ (w1 := ?_) (v := ?_) (by rfl) rfl ?_ ?_
            rotate_left 2
            · go_simp
              constructor
              · rfl
              · rfl
            clear hcv26
            refine hK.out _ _ trivial (fun hHeld => ?_)
            clear hK K
            refine norm_ (a' := ?_) ?_ ?_
            rotate_left
            · show Act.put _ (some 38) _ = _
              simp only [Act.put, List.setIfInBounds_toArray, List.set_cons_zero, List.set_cons_succ, i64_w, i32_w]
              rfl
            exact norm_ (by simp only [putAll, Act.put, List.setIfInBounds_toArray, List.set_cons_zero, List.set_cons_succ]) (hCont (v113) _ ⟨(Pr_ HO114.out), Bl_⟩)
          · skip
            refine Kd.R_lit_step (Kd.int .u8) _ 5 ?hg (N := 37) ?hd (xs := ([(wrap64 (48 + (Int.tmod a0 10))) % 256] : List Int)) (inner := [.int .u8 ((wrap64 (48 + (Int.tmod a0 10))) % 256)]) (ok := fun _ => True) (okp := fun _ => True) ?hr ?hp (fun _ hk => hk) trivial (Below.refl _ _) (Nat.le_refl _) (by simp) ?_; (case hd => rfl); (case hg => rfl); (case hr => first | (go_simp; done) | (go_simp; rfl)); (case hp => exact (Reps.one (show Kd.M (Kd.int .u8) _ _ _ ((wrap64 (48 + (Int.tmod a0 10))) % 256) [.int .u8 ((wrap64 (48 + (Int.tmod a0 10))) % 256)] from rfl) (Reps.none _ _)))
            intro v113 w23 ho24 hb hg_ hnew_
            clear hg_ hnew_
            (first | rw [← Ny112.out] at ho24 | (simp only [Int.reduceToNat] at ho24; rw [← Ny112.out] at ho24))
            have HO114 := Aside0.mk (Kd.R_lower ho24 Bz_)
            replace HB := Bs_ hb
            clear hb ho24
            refine hK.out _ _ trivial (fun hHeld => ?_)
            clear hK K
            refine norm_ (a' := ?_) ?_ ?_
            rotate_left
            · show Act.put _ (some 37) _ = _
              simp only [Act.put, List.setIfInBounds_toArray, List.set_cons_zero, List.set_cons_succ, i64_w, i32_w]
              rfl
            refine two_ (i := 2) (j := 8) (Ni := some 32) (Nj := some 38) #[true, true, true, true, true, true, true, true, false, false, false] #[true, true, false, true, true, true, true, true, true, false, false] rfl rfl rfl rfl (two_of HT_.out (by kernel_rfl)) (by decide) (by decide) (fun K hK => ?_) (fun K hK => ?_)
            · skip
              refine goes_ Tryz.func69 (by kernel_rfl) rfl #[.int .i64 (wrap64 (Int.tdiv a0 10))] (by rfl) rfl rfl Ga_ ?_
              with_reducible refine (ih k (by omega) (wrap64 (Int.tdiv a0 10)) t111 _ A20.out).mono ?_
              rintro e w25 ⟨rfl, hb⟩
              refine ⟨_, rfl, ?_⟩
              replace HO114 := Aside0.mk (Kd.R_below (Pr_ HO114.out) hb)
              replace HB := Bs_ hb
              (try clear hb)
              (try clear hb2)
              (try clear hk)
              (try clear hi)
              refine hK.out _ _ trivial (fun hHeld => ?_)
              clear hK K
              refine norm_ (a' := ?_) ?_ ?_
              rotate_left
              · show Act.put _ (some 32) _ = _
                simp only [Act.put, List.setIfInBounds_toArray, List.set_cons_zero, List.set_cons_succ, i64_w, i32_w]
                rfl
              refine one_ (i := 8) (N := some 38) #[true, true, true, true, true, true, true, true, true, false, false] rfl rfl (one_of HT_.out (by kernel_rfl)) (by decide) (fun K hK => ?_)
              have hcv26 := own_string (P := Tryz.prog) Tryz.underlying55 Tryz.underlying5 Tryz.underlying9 (Kd.own_of_R HO114.out)
              refine value_ (w1 := ?_) (v := ?_) (by rfl) rfl ?_ ?_
              rotate_left 2
              · go_simp
                constructor
                · rfl
                · rfl
              clear hcv26
              refine hK.out _ _ trivial (fun hHeld => ?_)
              clear hK K
              refine norm_ (a' := ?_) ?_ ?_
              rotate_left
              · show Act.put _ (some 38) _ = _
                simp only [Act.put, List.setIfInBounds_toArray, List.set_cons_zero, List.set_cons_succ, i64_w, i32_w]
                rfl
              exact norm_ (by simp only [putAll, Act.put, List.setIfInBounds_toArray, List.set_cons_zero, List.set_cons_succ]) (hCont (v113) _ ⟨(Pr_ HO114.out), Bl_⟩)
            · skip
              have hcv25 := own_string (P := Tryz.prog) Tryz.underlying55 Tryz.underlying5 Tryz.underlying9 (Kd.own_of_R HO114.out)
              refine value_ (w1 := ?_) (v := ?_) (by rfl) rfl ?_ ?_
              rotate_left 2
              · go_simp
                constructor
                · rfl
                · rfl
              clear hcv25
              refine hK.out _ _ trivial (fun hHeld => ?_)
              clear hK K
              refine norm_ (a' := ?_) ?_ ?_
              rotate_left
              · show Act.put _ (some 38) _ = _
                simp only [Act.put, List.setIfInBounds_toArray, List.set_cons_zero, List.set_cons_succ, i64_w, i32_w]
                rfl
              refine one_ (i := 2) (N := some 32) #[true, true, true, true, true, true, true, true, true, false, false] rfl rfl (one_of HT_.out (by kernel_rfl)) (by decide) (fun K hK => ?_)
              refine goes_ Tryz.func69 (by kernel_rfl) rfl #[.int .i64 (wrap64 (Int.tdiv a0 10))] (by rfl) rfl rfl Ga_ ?_
              with_reducible refine (ih k (by omega) (wrap64 (Int.tdiv a0 10)) t111 _ A20.out).mono ?_
              rintro e w26 ⟨rfl, hb⟩
              refine ⟨_, rfl, ?_⟩
              replace HO114 := Aside0.mk (Kd.R_below (Pr_ HO114.out) hb)
              replace HB := Bs_ hb
              (try clear hb)
              (try clear hb2)
              (try clear hk)
              (try clear hi)
              refine hK.out _ _ trivial (fun hHeld => ?_)
              clear hK K
              refine norm_ (a' := ?_) ?_ ?_
              rotate_left
              · show Act.put _ (some 32) _ = _
                simp only [Act.put, List.setIfInBounds_toArray, List.set_cons_zero, List.set_cons_succ, i64_w, i32_w]
                rfl
              exact norm_ (by simp only [putAll, Act.put, List.setIfInBounds_toArray, List.set_cons_zero, List.set_cons_succ]) (hCont (v113) _ ⟨(Pr_ HO114.out), Bl_⟩)
        rintro v113 w27 ⟨h0_, h1_⟩
        have n0_ : Aside0 (Kd.R (Kd.int .u8) 5 w27 w.heap.size (fun _ => True) v113 y112) := ⟨h0_⟩
        have n1_ : Aside0 (Below w.heap.size w w27) := ⟨h1_⟩
        clear HB
        clear h0_ h1_
        have HO114 := n0_
        have HB := n1_
        clear n0_ n1_
        have hHeld := trivial
        refine norm_ (a' := ?_) ?_ ?_
        rotate_left
        · simp only [putAll, Act.put, List.setIfInBounds_toArray, List.set_cons_zero, List.set_cons_succ]
          rfl
        refine pu_ 9 (some 39) HT_ #[true, true, true, true, true, true, true, true, true, true, false] ?_
        refine pu_ 10 (some 2) HT_ #[true, true, true, true, true, true, true, true, true, true, true] ?_
        refine done_ (done_of HT_.out (by kernel_rfl)) ?_
        try go_wp2
        go_ret
        exact ⟨Re_, Bl_⟩
      · rw [if_neg c21] at H
        exact absurd H (by simp)

end Go.Proofs.YtlemmdfjcnhjkaaGreatDoor.P
