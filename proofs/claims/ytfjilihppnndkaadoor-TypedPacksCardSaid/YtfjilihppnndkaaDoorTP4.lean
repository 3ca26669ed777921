-- Written by drive.py of this claim's own session, by way of the kit's print. Lean checks it.
import Derived.Test.YtfjilihppnndkaaDoorTP1
import Derived.Test.YtfjilihppnndkaaDoorTP3
namespace Go.Proofs.YtfjilihppnndkaaDoor.P
open Go.RowKit Go.Proofs.YtfjilihppnndkaaDoorW.PrintWords Go.Proofs.YtfjilihppnndkaaDoorW.PrintLast Go.Proofs.YtfjilihppnndkaaDoorW.PrintMore
attribute [local go_sem] max2_int min2_int max_two min_two max_three min_three max_four min_four   -- for this text's walks alone
set_option linter.unusedVariables false
set_option linter.unusedSimpArgs false

/-! ### reredoslaw05_shown: function 9 -/
def reredoslaw05_shown.f (k : Nat)  : Option (Bool) := (typed_Pack.f k (([2] : List Int)) (([(⟨#[49]⟩ : ByteArray), (⟨#[45, 49]⟩ : ByteArray)] : List ByteArray))).bind fun bt189 => ((typed_Typed_At.f k bt189.1 bt189.2.1 bt189.2.2.1 1).bind fun bt196 => (if bt189.2.2.2 = 0 then (if bt189.1 = 8 then (if bt189.2.2.1.toList = ([1, 255] : List UInt8) then (if bt196.2 = true then (if bt196.1 = (-1) then ((typed_Typed_Many.f k bt189.1 bt189.2.1 bt189.2.2.1).bind fun t198 => (if t198 = 2 then ((typed_Typed_May.f k bt189.1 bt189.2.1 bt189.2.2.1).bind fun t199 => (some t199)) else (some false))) else (some false)) else (some false)) else (some false)) else (some false)) else (some false)))
theorem reredoslaw05_shown.mono : ∀ k, LeO (reredoslaw05_shown.f k ) (reredoslaw05_shown.f (k + 1) ) := by
  intro  k
  unfold reredoslaw05_shown.f
  repeat' first
      | (with_reducible exact typed_Pack.mono _ _ _)
      | (with_reducible exact typed_Typed_At.mono _ _ _ _ _)
      | (with_reducible exact typed_Typed_Many.mono _ _ _ _)
      | (with_reducible exact typed_Typed_May.mono _ _ _ _)
      | (with_reducible exact LeO.refl _)
      | (with_reducible exact LeO.none _)
      | (with_reducible refine LeO.ite ?_ ?_)
      | (with_reducible refine LeO.bind ?_ (fun _ => ?_))
      | exact typed_Pack.mono _ _ _
      | exact typed_Typed_At.mono _ _ _ _ _
      | exact typed_Typed_Many.mono _ _ _ _
      | exact typed_Typed_May.mono _ _ _ _
      | exact LeO.none _
      | refine LeO.ite ?_ ?_
      | refine LeO.bind ?_ (fun _ => ?_)
set_option maxHeartbeats 8000000 in
set_option maxRecDepth 100000 in
theorem reredoslaw05_shown.calls (k : Nat)  (r : Bool) (w : World) (h : reredoslaw05_shown.f k  = some r) (hG : Glob w) :
    Calls Tryd.prog 9 #[] w fun e w' => e = .returned (.bool r) ∧ Below w.heap.size w w' := by
  have hu25 := Tryd.underlying25
  have hu29 := Tryd.underlying29
  have HB := Aside0.mk (Below.refl w.heap.size w)
  have H : ((typed_Pack.f k (([2] : List Int)) (([(⟨#[49]⟩ : ByteArray), (⟨#[45, 49]⟩ : ByteArray)] : List ByteArray))).bind fun bt189 => ((typed_Typed_At.f k bt189.1 bt189.2.1 bt189.2.2.1 1).bind fun bt196 => (if bt189.2.2.2 = 0 then (if bt189.1 = 8 then (if bt189.2.2.1.toList = ([1, 255] : List UInt8) then (if bt196.2 = true then (if bt196.1 = (-1) then ((typed_Typed_Many.f k bt189.1 bt189.2.1 bt189.2.2.1).bind fun t198 => (if t198 = 2 then ((typed_Typed_May.f k bt189.1 bt189.2.1 bt189.2.2.1).bind fun t199 => (some t199)) else (some false))) else (some false)) else (some false)) else (some false)) else (some false)) else (some false)))) = some r := h
  clear h
  obtain ⟨y183, hy183⟩ : ∃ y_ : List Int, y_ = (([2] : List Int)) := ⟨_, rfl⟩
  replace H : ((typed_Pack.f k y183 (([(⟨#[49]⟩ : ByteArray), (⟨#[45, 49]⟩ : ByteArray)] : List ByteArray))).bind fun bt189 => ((typed_Typed_At.f k bt189.1 bt189.2.1 bt189.2.2.1 1).bind fun bt196 => (if bt189.2.2.2 = 0 then (if bt189.1 = 8 then (if bt189.2.2.1.toList = ([1, 255] : List UInt8) then (if bt196.2 = true then (if bt196.1 = (-1) then ((typed_Typed_Many.f k bt189.1 bt189.2.1 bt189.2.2.1).bind fun t198 => (if t198 = 2 then ((typed_Typed_May.f k bt189.1 bt189.2.1 bt189.2.2.1).bind fun t199 => (some t199)) else (some false))) else (some false)) else (some false)) else (some false)) else (some false)) else (some false)))) = some r := by first | (rw [hy183]; with_reducible exact H) | (have H2_ := (Option.bind_some _ _).symm.trans H; rw [hy183]; with_reducible exact H2_) | (have H2_ := (Option.bind_some _ _).symm.trans H; with_reducible exact H2_) | with_reducible exact H | (rw [hy183]; exact H) | exact H
  have Ny183 := Aside0.mk hy183
  clear hy183
  obtain ⟨y186, hy186⟩ : ∃ y_ : List ByteArray, y_ = (([(⟨#[49]⟩ : ByteArray), (⟨#[45, 49]⟩ : ByteArray)] : List ByteArray)) := ⟨_, rfl⟩
  replace H : ((typed_Pack.f k y183 y186).bind fun bt189 => ((typed_Typed_At.f k bt189.1 bt189.2.1 bt189.2.2.1 1).bind fun bt196 => (if bt189.2.2.2 = 0 then (if bt189.1 = 8 then (if bt189.2.2.1.toList = ([1, 255] : List UInt8) then (if bt196.2 = true then (if bt196.1 = (-1) then ((typed_Typed_Many.f k bt189.1 bt189.2.1 bt189.2.2.1).bind fun t198 => (if t198 = 2 then ((typed_Typed_May.f k bt189.1 bt189.2.1 bt189.2.2.1).bind fun t199 => (some t199)) else (some false))) else (some false)) else (some false)) else (some false)) else (some false)) else (some false)))) = some r := by first | (rw [hy186]; with_reducible exact H) | (have H2_ := (Option.bind_some _ _).symm.trans H; rw [hy186]; with_reducible exact H2_) | (have H2_ := (Option.bind_some _ _).symm.trans H; with_reducible exact H2_) | with_reducible exact H | (rw [hy186]; exact H) | exact H
  have Ny186 := Aside0.mk hy186
  clear hy186
  replace H := Option.bind_eq_some_iff.mp H
  obtain ⟨⟨t189, t190, t193, t194⟩, A10, H⟩ := H
  replace H : ((typed_Typed_At.f k t189 t190 t193 1).bind fun bt196 => (if t194 = 0 then (if t189 = 8 then (if t193.toList = ([1, 255] : List UInt8) then (if bt196.2 = true then (if bt196.1 = (-1) then ((typed_Typed_Many.f k t189 t190 t193).bind fun t198 => (if t198 = 2 then ((typed_Typed_May.f k t189 t190 t193).bind fun t199 => (some t199)) else (some false))) else (some false)) else (some false)) else (some false)) else (some false)) else (some false))) = some r := H
  have A1 := Aside0.mk A10
  clear A10
  replace H := Option.bind_eq_some_iff.mp H
  obtain ⟨⟨t196, t197⟩, A20, H⟩ := H
  replace H : (if t194 = 0 then (if t189 = 8 then (if t193.toList = ([1, 255] : List UInt8) then (if t197 = true then (if t196 = (-1) then ((typed_Typed_Many.f k t189 t190 t193).bind fun t198 => (if t198 = 2 then ((typed_Typed_May.f k t189 t190 t193).bind fun t199 => (some t199)) else (some false))) else (some false)) else (some false)) else (some false)) else (some false)) else (some false)) = some r := H
  have A2 := Aside0.mk A20
  clear A20
  by_cases c3 : t194 = 0
  · rw [if_pos c3] at H
    have c3b0 : (t194 == 0) = true := beq_iff_eq.mpr c3
    have c3b1 : (t194 != 0) = false := bne_eq_false_iff_eq.mpr c3
    clear c3
    by_cases c4 : t189 = 8
    · rw [if_pos c4] at H
      have c4b0 : (t189 == 8) = true := beq_iff_eq.mpr c4
      have c4b1 : (t189 != 8) = false := bne_eq_false_iff_eq.mpr c4
      clear c4
      by_cases c5 : t193.toList = ([1, 255] : List UInt8)
      · rw [if_pos c5] at H
        have c5b0 : (t193.toList == ([1, 255] : List UInt8)) = true := beq_iff_eq.mpr c5
        have c5b1 : (t193.toList != ([1, 255] : List UInt8)) = false := bne_eq_false_iff_eq.mpr c5
        clear c5
        by_cases c6 : t197 = true
        · subst c6
          have H1 : (if t196 = (-1) then ((typed_Typed_Many.f k t189 t190 t193).bind fun t198 => (if t198 = 2 then ((typed_Typed_May.f k t189 t190 t193).bind fun t199 => (some t199)) else (some false))) else (some false)) = some r := by rw [if_pos rfl] at H; exact H
          clear H
          have H := H1
          clear H1
          by_cases c7 : t196 = (-1)
          · rw [if_pos c7] at H
            have c7b0 : (t196 == (-1)) = true := beq_iff_eq.mpr c7
            have c7b1 : (t196 != (-1)) = false := bne_eq_false_iff_eq.mpr c7
            clear c7
            replace H := Option.bind_eq_some_iff.mp H
            obtain ⟨t198, A80, H⟩ := H
            replace H : (if t198 = 2 then ((typed_Typed_May.f k t189 t190 t193).bind fun t199 => (some t199)) else (some false)) = some r := H
            have A8 := Aside0.mk A80
            clear A80
            by_cases c9 : t198 = 2
            · rw [if_pos c9] at H
              have c9b0 : (t198 == 2) = true := beq_iff_eq.mpr c9
              have c9b1 : (t198 != 2) = false := bne_eq_false_iff_eq.mpr c9
              clear c9
              replace H := Option.bind_eq_some_iff.mp H
              obtain ⟨t199, A100, H⟩ := H
              replace H : (some t199) = some r := H
              have A10 := Aside0.mk A100
              clear A100
              obtain rfl := Option.some.inj H
              go_enter Tryd.func9, Tryd.ntmps9
              go_wp2_with (first | ((with_reducible refine gate_dst (N := 6) rfl ?_); refine Kd.R_lit (Kd.int .i64) _ 3 ?hg (N := 6) ?hd (xs := ([2] : List Int)) (inner := [.int .i64 2]) (ok := fun _ => True) (okp := fun _ => True) ?hr ?hp (fun _ hk => hk) trivial (Below.refl _ _) (Nat.le_refl _) (by simp) ?_; (case hd => rfl); (case hg => rfl); (case hr => first | (go_simp; done) | (go_simp; rfl)); (case hp => exact (Reps.one (show Kd.M (Kd.int .i64) _ _ _ 2 [.int .i64 2] from rfl) (Reps.none _ _))); intro v184 w11 ho12 hb hg_ hnew_; clear hg_ hnew_; (first | rw [← Ny183.out] at ho12 | (simp only [Int.reduceToNat] at ho12; rw [← Ny183.out] at ho12)); have n0_ := Aside0.mk (Kd.R_lower ho12 (below_size Bl_)); have n1_ := Aside0.mk (below_step Bl_ hb); clear HB; have HO185 := n0_; have HB := n1_; clear n0_ n1_; clear hb ho12) | ((with_reducible refine gate_dst (N := 7) rfl ?_); refine Kd.R_lit Kd.string _ 9 ?hg (N := 7) ?hd (xs := ([(⟨#[49]⟩ : ByteArray), (⟨#[45, 49]⟩ : ByteArray)] : List ByteArray)) (inner := [.string (⟨#[49]⟩ : ByteArray), .string (⟨#[45, 49]⟩ : ByteArray)]) (ok := fun _ => True) (okp := fun _ => True) ?hr ?hp (fun _ hk => hk) trivial (Below.refl _ _) (Nat.le_refl _) (by simp) ?_; (case hd => rfl); (case hg => rfl); (case hr => first | (go_simp; done) | (go_simp; rfl)); (case hp => exact (Reps.one (show Kd.M Kd.string _ _ _ (⟨#[49]⟩ : ByteArray) [.string (⟨#[49]⟩ : ByteArray)] from rfl) (Reps.one (show Kd.M Kd.string _ _ _ (⟨#[45, 49]⟩ : ByteArray) [.string (⟨#[45, 49]⟩ : ByteArray)] from rfl) (Reps.none _ _)))); intro v187 w13 ho14 hb hg_ hnew_; clear hg_ hnew_; (first | rw [← Ny186.out] at ho14 | (simp only [Int.reduceToNat] at ho14; rw [← Ny186.out] at ho14)); have n0_ := Aside0.mk (Kd.R_below (by (with_reducible repeat (first | apply Kd.R_alloc | apply Kd.R_drewN | apply Kd.R_drew)); exact HO185.out) hb); have n1_ := Aside0.mk (Kd.R_lower ho14 (below_size Bl_)); have n2_ := Aside0.mk (below_step Bl_ hb); clear HO185; clear HB; have HO185 := n0_; have HO188 := n1_; have HB := n2_; clear n0_ n1_ n2_; clear hb ho14; obtain ⟨Ao15, co15, eo15⟩ := Kd.R_slice HO188.out; subst eo15; obtain ⟨Ao16, co16, eo16⟩ := Kd.R_slice HO185.out; subst eo16) | ((with_reducible refine gate_callee (f := 11) rfl ?_); refine goesL_ (some 9) rfl rfl Tryd.func11 (by kernel_rfl) rfl #[.agg #[.slice Ao16 y183.length co16, .slice Ao15 y186.length co15]] rfl Ga_ ?_; (with_reducible refine (typed_Pack.calls k _ _ y183 _ _ y186 t189 t190 t193 t194 _ ?side1 ?side2 ?side3 ?side4 A1.out ?side5).mono ?_); (case side1 => repeat (first | exact (Kd.R_reads' HO185.out).2.2 | (with_reducible refine Kd.C_alloc ?_ _) | (with_reducible refine Kd.C_drewN ?_ _) | (with_reducible refine Kd.C_drew ?_))); (case side2 => exact (Kd.R_reads' HO185.out).2.1); (case side3 => repeat (first | exact (Kd.R_reads' HO188.out).2.2 | (with_reducible refine Kd.C_alloc ?_ _) | (with_reducible refine Kd.C_drewN ?_ _) | (with_reducible refine Kd.C_drew ?_))); (case side4 => exact (Kd.R_reads' HO188.out).2.1); (case side5 => first | exact hG | exact Glob.below hG Bl_); rintro e w17 ⟨v191, rfl, ho0, hb⟩; refine ⟨_, rfl, ?_⟩; have n0_ := Aside0.mk (Kd.R_elder' (by (with_reducible repeat (first | apply Kd.R_alloc | apply Kd.R_drewN | apply Kd.R_drew)); exact HO185.out) (Kd.R_base ho0) hb); have n1_ := Aside0.mk (Kd.R_below (by (with_reducible repeat (first | apply Kd.R_alloc | apply Kd.R_drewN | apply Kd.R_drew)); exact HO188.out) hb); have n2_ := Aside0.mk (Kd.R_lower (Kd.R_new' ho0 (Kd.R_lt (by (with_reducible repeat (first | apply Kd.R_alloc | apply Kd.R_drewN | apply Kd.R_drew)); exact HO185.out))) (below_size Bl_)); have n3_ := Aside0.mk (below_step Bl_ hb); clear HO185; clear HO188; clear HB; have HO185 := n0_; have HO188 := n1_; have HO192 := n2_; have HB := n3_; clear n0_ n1_ n2_ n3_; (try clear hb); (try clear hb2); (try clear hk); (try clear hi); (try clear ho0)) | ((with_reducible refine gate_dst (N := 1) rfl ?_); refine box_event ?hg (N := 1) ?hd (cs := #[.int .i64 0, .slice none 0 0, .string (⟨#[]⟩ : ByteArray)]) (t := 29) ?hr ?_; (case hd => rfl); (case hg => rfl); (case hr => first | (go_simp; done) | (go_simp; rfl)); intro gb195 hg w18 hbox hb; have n0_ := Aside0.mk (Kd.R_below (by (with_reducible repeat (first | apply Kd.R_alloc | apply Kd.R_drewN | apply Kd.R_drew)); exact HO185.out) hb); have n1_ := Aside0.mk (Kd.R_below (by (with_reducible repeat (first | apply Kd.R_alloc | apply Kd.R_drewN | apply Kd.R_drew)); exact HO188.out) hb); have n2_ := Aside0.mk (Kd.R_below (by (with_reducible repeat (first | apply Kd.R_alloc | apply Kd.R_drewN | apply Kd.R_drew)); exact HO192.out) hb); have n3_ := Aside0.mk (below_step Bl_ hb); have n4_ := Aside0.mk (hbox); have n5_ := Aside0.mk ((by rw [hg]; exact (below_size Bl_) : w.heap.size ≤ gb195)); have n6_ := Aside0.mk ((by rw [hg]; exact (below_size Bl_) : w.heap.size ≤ gb195)); clear HO185; clear HO188; clear HO192; clear HB; have HO185 := n0_; have HO188 := n1_; have HO192 := n2_; have HB := n3_; have BK195 := n4_; have GW195 := n5_; have GE195 := n6_; clear n0_ n1_ n2_ n3_ n4_ n5_ n6_; clear hb hbox hg; have hcz19_0 : w18.cell? ⟨gb195, 0, none⟩ = some (.int .i64 0) := (blk_cell BK195.out 0).trans rfl; have hcz19_1 : w18.cell? ⟨gb195, 1, none⟩ = some (.slice none 0 0) := (blk_cell BK195.out 1).trans rfl; have hcz19_2 : w18.cell? ⟨gb195, 2, none⟩ = some (.string (⟨#[]⟩ : ByteArray)) := (blk_cell BK195.out 2).trans rfl; have hfz19_0 := blk_frozen BK195.out 0; have hfz19_1 := blk_frozen BK195.out 1; have hfz19_2 := blk_frozen BK195.out 2; obtain ⟨Ao20, co20, eo20⟩ := Kd.R_slice HO192.out; subst eo20) | ((with_reducible refine gate_callee (f := 19) rfl ?_); refine goesL_ (some 14) rfl rfl Tryd.func19 (by kernel_rfl) rfl #[.agg #[.int .i64 t189, .slice Ao20 t190.length co20, .string t193], .int .i64 1] rfl Ga_ ?_; (with_reducible refine (typed_Typed_At.calls k t189 _ _ t190 t193 1 t196 true _ ?side1 ?side2 A2.out).mono ?_); (case side1 => refine (Kd.R_reads' (e := 3) (base := w.heap.size) (ok := fun k_ => (True ∧ some k_ ≠ (.slice Ao16 y183.length co16 : Value).ownBlock)) (n := t190.length) (c := co20) ?_).2.2; exact (by (with_reducible repeat (first | apply Kd.R_alloc | apply Kd.R_drewN | apply Kd.R_drew)); exact (Kd.R_mono (Kd.R_far (p := ⟨gb195, 2, none⟩) (Kd.R_far (p := ⟨gb195, 1, none⟩) (Kd.R_far (p := ⟨gb195, 0, none⟩) (Kd.R_types HO192.out BK195.out (by decide)) (fun _ hk => hk.2) (.int .i64 t189)) (fun _ hk => hk.2) (.slice Ao20 t190.length co20)) (fun _ hk => hk.2) (.string t193)) (fun _ h_ => h_.1)))); (case side2 => exact (Kd.R_reads' HO192.out).2.1); rintro e w21 ⟨rfl, hb⟩; refine ⟨_, rfl, ?_⟩; have n0_ := Aside0.mk (Kd.R_below (by (with_reducible repeat (first | apply Kd.R_alloc | apply Kd.R_drewN | apply Kd.R_drew)); exact (Kd.R_mono (Kd.R_far (p := ⟨gb195, 2, none⟩) (Kd.R_far (p := ⟨gb195, 1, none⟩) (Kd.R_far (p := ⟨gb195, 0, none⟩) (Kd.R_types HO185.out BK195.out (by decide)) (fun _ hk => hk.2) (.int .i64 t189)) (fun _ hk => hk.2) (.slice Ao20 t190.length co20)) (fun _ hk => hk.2) (.string t193)) (fun _ h_ => h_.1))) hb); have n1_ := Aside0.mk (Kd.R_below (by (with_reducible repeat (first | apply Kd.R_alloc | apply Kd.R_drewN | apply Kd.R_drew)); exact (Kd.R_mono (Kd.R_far (p := ⟨gb195, 2, none⟩) (Kd.R_far (p := ⟨gb195, 1, none⟩) (Kd.R_far (p := ⟨gb195, 0, none⟩) (Kd.R_types HO188.out BK195.out (by decide)) (fun _ hk => hk.2) (.int .i64 t189)) (fun _ hk => hk.2) (.slice Ao20 t190.length co20)) (fun _ hk => hk.2) (.string t193)) (fun _ h_ => h_.1))) hb); have n2_ := Aside0.mk (Kd.R_below (by (with_reducible repeat (first | apply Kd.R_alloc | apply Kd.R_drewN | apply Kd.R_drew)); exact (Kd.R_mono (Kd.R_far (p := ⟨gb195, 2, none⟩) (Kd.R_far (p := ⟨gb195, 1, none⟩) (Kd.R_far (p := ⟨gb195, 0, none⟩) (Kd.R_types HO192.out BK195.out (by decide)) (fun _ hk => hk.2) (.int .i64 t189)) (fun _ hk => hk.2) (.slice Ao20 t190.length co20)) (fun _ hk => hk.2) (.string t193)) (fun _ h_ => h_.1))) hb); have n3_ := Aside0.mk (blk_below (g := gb195) (o := .cells #[.int .i64 t189, .slice Ao20 t190.length co20, .string t193] 29 (0, 0)) (by (with_reducible repeat (first | refine blk_drewN ?_ _ | refine blk_drew ?_ | refine blk_alloc ?_ _)); refine blk_put (cs := #[.int .i64 t189, .slice Ao20 t190.length co20, .string (⟨#[]⟩ : ByteArray)]) ?_ 2 _ rfl; (with_reducible repeat (first | refine blk_drewN ?_ _ | refine blk_drew ?_ | refine blk_alloc ?_ _)); refine blk_put (cs := #[.int .i64 t189, .slice none 0 0, .string (⟨#[]⟩ : ByteArray)]) ?_ 1 _ rfl; (with_reducible repeat (first | refine blk_drewN ?_ _ | refine blk_drew ?_ | refine blk_alloc ?_ _)); refine blk_put (cs := #[.int .i64 0, .slice none 0 0, .string (⟨#[]⟩ : ByteArray)]) ?_ 0 _ rfl; (with_reducible repeat (first | refine blk_drewN ?_ _ | refine blk_drew ?_ | refine blk_alloc ?_ _)); exact BK195.out) hb); have n4_ := Aside0.mk (below_step (by repeat (first | (with_reducible first | exact HB.out | apply below_alloc | apply pw_below_drewN | apply below_drew1 | refine below_set ?_ GE195.out) | exact HB.out)) hb); clear HO185; clear HO188; clear HO192; clear BK195; clear HB; have HO185 := n0_; have HO188 := n1_; have HO192 := n2_; have BK195 := n3_; have HB := n4_; clear n0_ n1_ n2_ n3_ n4_; (try clear hb); (try clear hb2); (try clear hk); (try clear hi); have hcz22_0 : w21.cell? ⟨gb195, 0, none⟩ = some (.int .i64 t189) := (blk_cell BK195.out 0).trans rfl; have hcz22_1 : w21.cell? ⟨gb195, 1, none⟩ = some (.slice Ao20 t190.length co20) := (blk_cell BK195.out 1).trans rfl; have hcz22_2 : w21.cell? ⟨gb195, 2, none⟩ = some (.string t193) := (blk_cell BK195.out 2).trans rfl; have hfz22_0 := blk_frozen BK195.out 0; have hfz22_1 := blk_frozen BK195.out 1; have hfz22_2 := blk_frozen BK195.out 2) | (go_at_call 17; (with_reducible refine (typed_Typed_Many.calls k t189 _ _ t190 t193 t198 _ ?side1 ?side2 A8.out).mono ?_); (case side1 => repeat (first | exact (Kd.R_reads' HO192.out).2.2 | (with_reducible refine Kd.C_alloc ?_ _) | (with_reducible refine Kd.C_drewN ?_ _) | (with_reducible refine Kd.C_drew ?_))); (case side2 => exact (Kd.R_reads' HO192.out).2.1); rintro e w23 ⟨rfl, hb⟩; have n0_ := Aside0.mk (Kd.R_below (by (with_reducible repeat (first | apply Kd.R_alloc | apply Kd.R_drewN | apply Kd.R_drew)); exact HO185.out) hb); have n1_ := Aside0.mk (Kd.R_below (by (with_reducible repeat (first | apply Kd.R_alloc | apply Kd.R_drewN | apply Kd.R_drew)); exact HO188.out) hb); have n2_ := Aside0.mk (Kd.R_below (by (with_reducible repeat (first | apply Kd.R_alloc | apply Kd.R_drewN | apply Kd.R_drew)); exact HO192.out) hb); have n3_ := Aside0.mk (blk_below (g := gb195) (o := .cells #[.int .i64 t189, .slice Ao20 t190.length co20, .string t193] 29 (0, 0)) (Bk_ BK195.out) hb); have n4_ := Aside0.mk (below_step (by repeat (first | (with_reducible first | exact HB.out | apply below_alloc | apply pw_below_drewN | apply below_drew1 | refine below_set ?_ GE195.out) | exact HB.out)) hb); clear HO185; clear HO188; clear HO192; clear BK195; clear HB; have HO185 := n0_; have HO188 := n1_; have HO192 := n2_; have BK195 := n3_; have HB := n4_; clear n0_ n1_ n2_ n3_ n4_; (try clear hb); (try clear hb2); (try clear hk); (try clear hi); have hcz24_0 : w23.cell? ⟨gb195, 0, none⟩ = some (.int .i64 t189) := (blk_cell BK195.out 0).trans rfl; have hcz24_1 : w23.cell? ⟨gb195, 1, none⟩ = some (.slice Ao20 t190.length co20) := (blk_cell BK195.out 1).trans rfl; have hcz24_2 : w23.cell? ⟨gb195, 2, none⟩ = some (.string t193) := (blk_cell BK195.out 2).trans rfl; have hfz24_0 := blk_frozen BK195.out 0; have hfz24_1 := blk_frozen BK195.out 1; have hfz24_2 := blk_frozen BK195.out 2) | (go_at_call 18; (with_reducible refine (typed_Typed_May.calls k t189 _ _ t190 t193 t199 _ ?side1 ?side2 A10.out).mono ?_); (case side1 => repeat (first | exact (Kd.R_reads' HO192.out).2.2 | (with_reducible refine Kd.C_alloc ?_ _) | (with_reducible refine Kd.C_drewN ?_ _) | (with_reducible refine Kd.C_drew ?_))); (case side2 => exact (Kd.R_reads' HO192.out).2.1); rintro e w25 ⟨rfl, hb⟩; have n0_ := Aside0.mk (Kd.R_below (by (with_reducible repeat (first | apply Kd.R_alloc | apply Kd.R_drewN | apply Kd.R_drew)); exact HO185.out) hb); have n1_ := Aside0.mk (Kd.R_below (by (with_reducible repeat (first | apply Kd.R_alloc | apply Kd.R_drewN | apply Kd.R_drew)); exact HO188.out) hb); have n2_ := Aside0.mk (Kd.R_below (by (with_reducible repeat (first | apply Kd.R_alloc | apply Kd.R_drewN | apply Kd.R_drew)); exact HO192.out) hb); have n3_ := Aside0.mk (blk_below (g := gb195) (o := .cells #[.int .i64 t189, .slice Ao20 t190.length co20, .string t193] 29 (0, 0)) (Bk_ BK195.out) hb); have n4_ := Aside0.mk (below_step (by repeat (first | (with_reducible first | exact HB.out | apply below_alloc | apply pw_below_drewN | apply below_drew1 | refine below_set ?_ GE195.out) | exact HB.out)) hb); clear HO185; clear HO188; clear HO192; clear BK195; clear HB; have HO185 := n0_; have HO188 := n1_; have HO192 := n2_; have BK195 := n3_; have HB := n4_; clear n0_ n1_ n2_ n3_ n4_; (try clear hb); (try clear hb2); (try clear hk); (try clear hi)))
              go_ret
              exact ⟨by first | rfl | (simp [errW_none, errW_some] <;> rfl) | (simp [*, errW_none, errW_some] <;> rfl), by repeat (first | (with_reducible first | exact HB.out | apply below_alloc | apply pw_below_drewN | apply below_drew1 | refine below_set ?_ GE195.out) | exact HB.out)⟩
            · rw [if_neg c9] at H
              have c9b0 : (t198 == 2) = false := beq_eq_false_iff_ne.mpr c9
              have c9b1 : (t198 != 2) = true := bne_iff_ne.mpr c9
              obtain rfl := Option.some.inj H
              go_enter Tryd.func9, Tryd.ntmps9
              go_wp2_with (first | ((with_reducible refine gate_dst (N := 6) rfl ?_); refine Kd.R_lit (Kd.int .i64) _ 3 ?hg (N := 6) ?hd (xs := ([2] : List Int)) (inner := [.int .i64 2]) (ok := fun _ => True) (okp := fun _ => True) ?hr ?hp (fun _ hk => hk) trivial (Below.refl _ _) (Nat.le_refl _) (by simp) ?_; (case hd => rfl); (case hg => rfl); (case hr => first | (go_simp; done) | (go_simp; rfl)); (case hp => exact (Reps.one (show Kd.M (Kd.int .i64) _ _ _ 2 [.int .i64 2] from rfl) (Reps.none _ _))); intro v184 w26 ho27 hb hg_ hnew_; clear hg_ hnew_; (first | rw [← Ny183.out] at ho27 | (simp only [Int.reduceToNat] at ho27; rw [← Ny183.out] at ho27)); have n0_ := Aside0.mk (Kd.R_lower ho27 (below_size Bl_)); have n1_ := Aside0.mk (below_step Bl_ hb); clear HB; have HO185 := n0_; have HB := n1_; clear n0_ n1_; clear hb ho27) | ((with_reducible refine gate_dst (N := 7) rfl ?_); refine Kd.R_lit Kd.string _ 9 ?hg (N := 7) ?hd (xs := ([(⟨#[49]⟩ : ByteArray), (⟨#[45, 49]⟩ : ByteArray)] : List ByteArray)) (inner := [.string (⟨#[49]⟩ : ByteArray), .string (⟨#[45, 49]⟩ : ByteArray)]) (ok := fun _ => True) (okp := fun _ => True) ?hr ?hp (fun _ hk => hk) trivial (Below.refl _ _) (Nat.le_refl _) (by simp) ?_; (case hd => rfl); (case hg => rfl); (case hr => first | (go_simp; done) | (go_simp; rfl)); (case hp => exact (Reps.one (show Kd.M Kd.string _ _ _ (⟨#[49]⟩ : ByteArray) [.string (⟨#[49]⟩ : ByteArray)] from rfl) (Reps.one (show Kd.M Kd.string _ _ _ (⟨#[45, 49]⟩ : ByteArray) [.string (⟨#[45, 49]⟩ : ByteArray)] from rfl) (Reps.none _ _)))); intro v187 w28 ho29 hb hg_ hnew_; clear hg_ hnew_; (first | rw [← Ny186.out] at ho29 | (simp only [Int.reduceToNat] at ho29; rw [← Ny186.out] at ho29)); have n0_ := Aside0.mk (Kd.R_below (by (with_reducible repeat (first | apply Kd.R_alloc | apply Kd.R_drewN | apply Kd.R_drew)); exact HO185.out) hb); have n1_ := Aside0.mk (Kd.R_lower ho29 (below_size Bl_)); have n2_ := Aside0.mk (below_step Bl_ hb); clear HO185; clear HB; have HO185 := n0_; have HO188 := n1_; have HB := n2_; clear n0_ n1_ n2_; clear hb ho29; obtain ⟨Ao30, co30, eo30⟩ := Kd.R_slice HO188.out; subst eo30; obtain ⟨Ao31, co31, eo31⟩ := Kd.R_slice HO185.out; subst eo31) | ((with_reducible refine gate_callee (f := 11) rfl ?_); refine goesL_ (some 9) rfl rfl Tryd.func11 (by kernel_rfl) rfl #[.agg #[.slice Ao31 y183.length co31, .slice Ao30 y186.length co30]] rfl Ga_ ?_; (with_reducible refine (typed_Pack.calls k _ _ y183 _ _ y186 t189 t190 t193 t194 _ ?side1 ?side2 ?side3 ?side4 A1.out ?side5).mono ?_); (case side1 => repeat (first | exact (Kd.R_reads' HO185.out).2.2 | (with_reducible refine Kd.C_alloc ?_ _) | (with_reducible refine Kd.C_drewN ?_ _) | (with_reducible refine Kd.C_drew ?_))); (case side2 => exact (Kd.R_reads' HO185.out).2.1); (case side3 => repeat (first | exact (Kd.R_reads' HO188.out).2.2 | (with_reducible refine Kd.C_alloc ?_ _) | (with_reducible refine Kd.C_drewN ?_ _) | (with_reducible refine Kd.C_drew ?_))); (case side4 => exact (Kd.R_reads' HO188.out).2.1); (case side5 => first | exact hG | exact Glob.below hG Bl_); rintro e w32 ⟨v191, rfl, ho0, hb⟩; refine ⟨_, rfl, ?_⟩; have n0_ := Aside0.mk (Kd.R_elder' (by (with_reducible repeat (first | apply Kd.R_alloc | apply Kd.R_drewN | apply Kd.R_drew)); exact HO185.out) (Kd.R_base ho0) hb); have n1_ := Aside0.mk (Kd.R_below (by (with_reducible repeat (first | apply Kd.R_alloc | apply Kd.R_drewN | apply Kd.R_drew)); exact HO188.out) hb); have n2_ := Aside0.mk (Kd.R_lower (Kd.R_new' ho0 (Kd.R_lt (by (with_reducible repeat (first | apply Kd.R_alloc | apply Kd.R_drewN | apply Kd.R_drew)); exact HO185.out))) (below_size Bl_)); have n3_ := Aside0.mk (below_step Bl_ hb); clear HO185; clear HO188; clear HB; have HO185 := n0_; have HO188 := n1_; have HO192 := n2_; have HB := n3_; clear n0_ n1_ n2_ n3_; (try clear hb); (try clear hb2); (try clear hk); (try clear hi); (try clear ho0)) | ((with_reducible refine gate_dst (N := 1) rfl ?_); refine box_event ?hg (N := 1) ?hd (cs := #[.int .i64 0, .slice none 0 0, .string (⟨#[]⟩ : ByteArray)]) (t := 29) ?hr ?_; (case hd => rfl); (case hg => rfl); (case hr => first | (go_simp; done) | (go_simp; rfl)); intro gb195 hg w33 hbox hb; have n0_ := Aside0.mk (Kd.R_below (by (with_reducible repeat (first | apply Kd.R_alloc | apply Kd.R_drewN | apply Kd.R_drew)); exact HO185.out) hb); have n1_ := Aside0.mk (Kd.R_below (by (with_reducible repeat (first | apply Kd.R_alloc | apply Kd.R_drewN | apply Kd.R_drew)); exact HO188.out) hb); have n2_ := Aside0.mk (Kd.R_below (by (with_reducible repeat (first | apply Kd.R_alloc | apply Kd.R_drewN | apply Kd.R_drew)); exact HO192.out) hb); have n3_ := Aside0.mk (below_step Bl_ hb); have n4_ := Aside0.mk (hbox); have n5_ := Aside0.mk ((by rw [hg]; exact (below_size Bl_) : w.heap.size ≤ gb195)); have n6_ := Aside0.mk ((by rw [hg]; exact (below_size Bl_) : w.heap.size ≤ gb195)); clear HO185; clear HO188; clear HO192; clear HB; have HO185 := n0_; have HO188 := n1_; have HO192 := n2_; have HB := n3_; have BK195 := n4_; have GW195 := n5_; have GE195 := n6_; clear n0_ n1_ n2_ n3_ n4_ n5_ n6_; clear hb hbox hg; have hcz34_0 : w33.cell? ⟨gb195, 0, none⟩ = some (.int .i64 0) := (blk_cell BK195.out 0).trans rfl; have hcz34_1 : w33.cell? ⟨gb195, 1, none⟩ = some (.slice none 0 0) := (blk_cell BK195.out 1).trans rfl; have hcz34_2 : w33.cell? ⟨gb195, 2, none⟩ = some (.string (⟨#[]⟩ : ByteArray)) := (blk_cell BK195.out 2).trans rfl; have hfz34_0 := blk_frozen BK195.out 0; have hfz34_1 := blk_frozen BK195.out 1; have hfz34_2 := blk_frozen BK195.out 2; obtain ⟨Ao35, co35, eo35⟩ := Kd.R_slice HO192.out; subst eo35) | ((with_reducible refine gate_callee (f := 19) rfl ?_); refine goesL_ (some 14) rfl rfl Tryd.func19 (by kernel_rfl) rfl #[.agg #[.int .i64 t189, .slice Ao35 t190.length co35, .string t193], .int .i64 1] rfl Ga_ ?_; (with_reducible refine (typed_Typed_At.calls k t189 _ _ t190 t193 1 t196 true _ ?side1 ?side2 A2.out).mono ?_); (case side1 => refine (Kd.R_reads' (e := 3) (base := w.heap.size) (ok := fun k_ => (True ∧ some k_ ≠ (.slice Ao31 y183.length co31 : Value).ownBlock)) (n := t190.length) (c := co35) ?_).2.2; exact (by (with_reducible repeat (first | apply Kd.R_alloc | apply Kd.R_drewN | apply Kd.R_drew)); exact (Kd.R_mono (Kd.R_far (p := ⟨gb195, 2, none⟩) (Kd.R_far (p := ⟨gb195, 1, none⟩) (Kd.R_far (p := ⟨gb195, 0, none⟩) (Kd.R_types HO192.out BK195.out (by decide)) (fun _ hk => hk.2) (.int .i64 t189)) (fun _ hk => hk.2) (.slice Ao35 t190.length co35)) (fun _ hk => hk.2) (.string t193)) (fun _ h_ => h_.1)))); (case side2 => exact (Kd.R_reads' HO192.out).2.1); rintro e w36 ⟨rfl, hb⟩; refine ⟨_, rfl, ?_⟩; have n0_ := Aside0.mk (Kd.R_below (by (with_reducible repeat (first | apply Kd.R_alloc | apply Kd.R_drewN | apply Kd.R_drew)); exact (Kd.R_mono (Kd.R_far (p := ⟨gb195, 2, none⟩) (Kd.R_far (p := ⟨gb195, 1, none⟩) (Kd.R_far (p := ⟨gb195, 0, none⟩) (Kd.R_types HO185.out BK195.out (by decide)) (fun _ hk => hk.2) (.int .i64 t189)) (fun _ hk => hk.2) (.slice Ao35 t190.length co35)) (fun _ hk => hk.2) (.string t193)) (fun _ h_ => h_.1))) hb); have n1_ := Aside0.mk (Kd.R_below (by (with_reducible repeat (first | apply Kd.R_alloc | apply Kd.R_drewN | apply Kd.R_drew)); exact (Kd.R_mono (Kd.R_far (p := ⟨gb195, 2, none⟩) (Kd.R_far (p := ⟨gb195, 1, none⟩) (Kd.R_far (p := ⟨gb195, 0, none⟩) (Kd.R_types HO188.out BK195.out (by decide)) (fun _ hk => hk.2) (.int .i64 t189)) (fun _ hk => hk.2) (.slice Ao35 t190.length co35)) (fun _ hk => hk.2) (.string t193)) (fun _ h_ => h_.1))) hb); have n2_ := Aside0.mk (Kd.R_below (by (with_reducible repeat (first | apply Kd.R_alloc | apply Kd.R_drewN | apply Kd.R_drew)); exact (Kd.R_mono (Kd.R_far (p := ⟨gb195, 2, none⟩) (Kd.R_far (p := ⟨gb195, 1, none⟩) (Kd.R_far (p := ⟨gb195, 0, none⟩) (Kd.R_types HO192.out BK195.out (by decide)) (fun _ hk => hk.2) (.int .i64 t189)) (fun _ hk => hk.2) (.slice Ao35 t190.length co35)) (fun _ hk => hk.2) (.string t193)) (fun _ h_ => h_.1))) hb); have n3_ := Aside0.mk (blk_below (g := gb195) (o := .cells #[.int .i64 t189, .slice Ao35 t190.length co35, .string t193] 29 (0, 0)) (by (with_reducible repeat (first | refine blk_drewN ?_ _ | refine blk_drew ?_ | refine blk_alloc ?_ _)); refine blk_put (cs := #[.int .i64 t189, .slice Ao35 t190.length co35, .string (⟨#[]⟩ : ByteArray)]) ?_ 2 _ rfl; (with_reducible repeat (first | refine blk_drewN ?_ _ | refine blk_drew ?_ | refine blk_alloc ?_ _)); refine blk_put (cs := #[.int .i64 t189, .slice none 0 0, .string (⟨#[]⟩ : ByteArray)]) ?_ 1 _ rfl; (with_reducible repeat (first | refine blk_drewN ?_ _ | refine blk_drew ?_ | refine blk_alloc ?_ _)); refine blk_put (cs := #[.int .i64 0, .slice none 0 0, .string (⟨#[]⟩ : ByteArray)]) ?_ 0 _ rfl; (with_reducible repeat (first | refine blk_drewN ?_ _ | refine blk_drew ?_ | refine blk_alloc ?_ _)); exact BK195.out) hb); have n4_ := Aside0.mk (below_step (by repeat (first | (with_reducible first | exact HB.out | apply below_alloc | apply pw_below_drewN | apply below_drew1 | refine below_set ?_ GE195.out) | exact HB.out)) hb); clear HO185; clear HO188; clear HO192; clear BK195; clear HB; have HO185 := n0_; have HO188 := n1_; have HO192 := n2_; have BK195 := n3_; have HB := n4_; clear n0_ n1_ n2_ n3_ n4_; (try clear hb); (try clear hb2); (try clear hk); (try clear hi); have hcz37_0 : w36.cell? ⟨gb195, 0, none⟩ = some (.int .i64 t189) := (blk_cell BK195.out 0).trans rfl; have hcz37_1 : w36.cell? ⟨gb195, 1, none⟩ = some (.slice Ao35 t190.length co35) := (blk_cell BK195.out 1).trans rfl; have hcz37_2 : w36.cell? ⟨gb195, 2, none⟩ = some (.string t193) := (blk_cell BK195.out 2).trans rfl; have hfz37_0 := blk_frozen BK195.out 0; have hfz37_1 := blk_frozen BK195.out 1; have hfz37_2 := blk_frozen BK195.out 2) | (go_at_call 17; (with_reducible refine (typed_Typed_Many.calls k t189 _ _ t190 t193 t198 _ ?side1 ?side2 A8.out).mono ?_); (case side1 => repeat (first | exact (Kd.R_reads' HO192.out).2.2 | (with_reducible refine Kd.C_alloc ?_ _) | (with_reducible refine Kd.C_drewN ?_ _) | (with_reducible refine Kd.C_drew ?_))); (case side2 => exact (Kd.R_reads' HO192.out).2.1); rintro e w38 ⟨rfl, hb⟩; have n0_ := Aside0.mk (Kd.R_below (by (with_reducible repeat (first | apply Kd.R_alloc | apply Kd.R_drewN | apply Kd.R_drew)); exact HO185.out) hb); have n1_ := Aside0.mk (Kd.R_below (by (with_reducible repeat (first | apply Kd.R_alloc | apply Kd.R_drewN | apply Kd.R_drew)); exact HO188.out) hb); have n2_ := Aside0.mk (Kd.R_below (by (with_reducible repeat (first | apply Kd.R_alloc | apply Kd.R_drewN | apply Kd.R_drew)); exact HO192.out) hb); have n3_ := Aside0.mk (blk_below (g := gb195) (o := .cells #[.int .i64 t189, .slice Ao35 t190.length co35, .string t193] 29 (0, 0)) (Bk_ BK195.out) hb); have n4_ := Aside0.mk (below_step (by repeat (first | (with_reducible first | exact HB.out | apply below_alloc | apply pw_below_drewN | apply below_drew1 | refine below_set ?_ GE195.out) | exact HB.out)) hb); clear HO185; clear HO188; clear HO192; clear BK195; clear HB; have HO185 := n0_; have HO188 := n1_; have HO192 := n2_; have BK195 := n3_; have HB := n4_; clear n0_ n1_ n2_ n3_ n4_; (try clear hb); (try clear hb2); (try clear hk); (try clear hi)))
              go_ret
              exact ⟨by first | rfl | (simp [errW_none, errW_some] <;> rfl) | (simp [*, errW_none, errW_some] <;> rfl), by repeat (first | (with_reducible first | exact HB.out | apply below_alloc | apply pw_below_drewN | apply below_drew1 | refine below_set ?_ GE195.out) | exact HB.out)⟩
          · rw [if_neg c7] at H
            have c7b0 : (t196 == (-1)) = false := beq_eq_false_iff_ne.mpr c7
            have c7b1 : (t196 != (-1)) = true := bne_iff_ne.mpr c7
            obtain rfl := Option.some.inj H
            go_enter Tryd.func9, Tryd.ntmps9
            go_wp2_with (first | ((with_reducible refine gate_dst (N := 6) rfl ?_); refine Kd.R_lit (Kd.int .i64) _ 3 ?hg (N := 6) ?hd (xs := ([2] : List Int)) (inner := [.int .i64 2]) (ok := fun _ => True) (okp := fun _ => True) ?hr ?hp (fun _ hk => hk) trivial (Below.refl _ _) (Nat.le_refl _) (by simp) ?_; (case hd => rfl); (case hg => rfl); (case hr => first | (go_simp; done) | (go_simp; rfl)); (case hp => exact (Reps.one (show Kd.M (Kd.int .i64) _ _ _ 2 [.int .i64 2] from rfl) (Reps.none _ _))); intro v184 w39 ho40 hb hg_ hnew_; clear hg_ hnew_; (first | rw [← Ny183.out] at ho40 | (simp only [Int.reduceToNat] at ho40; rw [← Ny183.out] at ho40)); have n0_ := Aside0.mk (Kd.R_lower ho40 (below_size Bl_)); have n1_ := Aside0.mk (below_step Bl_ hb); clear HB; have HO185 := n0_; have HB := n1_; clear n0_ n1_; clear hb ho40) | ((with_reducible refine gate_dst (N := 7) rfl ?_); refine Kd.R_lit Kd.string _ 9 ?hg (N := 7) ?hd (xs := ([(⟨#[49]⟩ : ByteArray), (⟨#[45, 49]⟩ : ByteArray)] : List ByteArray)) (inner := [.string (⟨#[49]⟩ : ByteArray), .string (⟨#[45, 49]⟩ : ByteArray)]) (ok := fun _ => True) (okp := fun _ => True) ?hr ?hp (fun _ hk => hk) trivial (Below.refl _ _) (Nat.le_refl _) (by simp) ?_; (case hd => rfl); (case hg => rfl); (case hr => first | (go_simp; done) | (go_simp; rfl)); (case hp => exact (Reps.one (show Kd.M Kd.string _ _ _ (⟨#[49]⟩ : ByteArray) [.string (⟨#[49]⟩ : ByteArray)] from rfl) (Reps.one (show Kd.M Kd.string _ _ _ (⟨#[45, 49]⟩ : ByteArray) [.string (⟨#[45, 49]⟩ : ByteArray)] from rfl) (Reps.none _ _)))); intro v187 w41 ho42 hb hg_ hnew_; clear hg_ hnew_; (first | rw [← Ny186.out] at ho42 | (simp only [Int.reduceToNat] at ho42; rw [← Ny186.out] at ho42)); have n0_ := Aside0.mk (Kd.R_below (by (with_reducible repeat (first | apply Kd.R_alloc | apply Kd.R_drewN | apply Kd.R_drew)); exact HO185.out) hb); have n1_ := Aside0.mk (Kd.R_lower ho42 (below_size Bl_)); have n2_ := Aside0.mk (below_step Bl_ hb); clear HO185; clear HB; have HO185 := n0_; have HO188 := n1_; have HB := n2_; clear n0_ n1_ n2_; clear hb ho42; obtain ⟨Ao43, co43, eo43⟩ := Kd.R_slice HO188.out; subst eo43; obtain ⟨Ao44, co44, eo44⟩ := Kd.R_slice HO185.out; subst eo44) | ((with_reducible refine gate_callee (f := 11) rfl ?_); refine goesL_ (some 9) rfl rfl Tryd.func11 (by kernel_rfl) rfl #[.agg #[.slice Ao44 y183.length co44, .slice Ao43 y186.length co43]] rfl Ga_ ?_; (with_reducible refine (typed_Pack.calls k _ _ y183 _ _ y186 t189 t190 t193 t194 _ ?side1 ?side2 ?side3 ?side4 A1.out ?side5).mono ?_); (case side1 => repeat (first | exact (Kd.R_reads' HO185.out).2.2 | (with_reducible refine Kd.C_alloc ?_ _) | (with_reducible refine Kd.C_drewN ?_ _) | (with_reducible refine Kd.C_drew ?_))); (case side2 => exact (Kd.R_reads' HO185.out).2.1); (case side3 => repeat (first | exact (Kd.R_reads' HO188.out).2.2 | (with_reducible refine Kd.C_alloc ?_ _) | (with_reducible refine Kd.C_drewN ?_ _) | (with_reducible refine Kd.C_drew ?_))); (case side4 => exact (Kd.R_reads' HO188.out).2.1); (case side5 => first | exact hG | exact Glob.below hG Bl_); rintro e w45 ⟨v191, rfl, ho0, hb⟩; refine ⟨_, rfl, ?_⟩; have n0_ := Aside0.mk (Kd.R_elder' (by (with_reducible repeat (first | apply Kd.R_alloc | apply Kd.R_drewN | apply Kd.R_drew)); exact HO185.out) (Kd.R_base ho0) hb); have n1_ := Aside0.mk (Kd.R_below (by (with_reducible repeat (first | apply Kd.R_alloc | apply Kd.R_drewN | apply Kd.R_drew)); exact HO188.out) hb); have n2_ := Aside0.mk (Kd.R_lower (Kd.R_new' ho0 (Kd.R_lt (by (with_reducible repeat (first | apply Kd.R_alloc | apply Kd.R_drewN | apply Kd.R_drew)); exact HO185.out))) (below_size Bl_)); have n3_ := Aside0.mk (below_step Bl_ hb); clear HO185; clear HO188; clear HB; have HO185 := n0_; have HO188 := n1_; have HO192 := n2_; have HB := n3_; clear n0_ n1_ n2_ n3_; (try clear hb); (try clear hb2); (try clear hk); (try clear hi); (try clear ho0)) | ((with_reducible refine gate_dst (N := 1) rfl ?_); refine box_event ?hg (N := 1) ?hd (cs := #[.int .i64 0, .slice none 0 0, .string (⟨#[]⟩ : ByteArray)]) (t := 29) ?hr ?_; (case hd => rfl); (case hg => rfl); (case hr => first | (go_simp; done) | (go_simp; rfl)); intro gb195 hg w46 hbox hb; have n0_ := Aside0.mk (Kd.R_below (by (with_reducible repeat (first | apply Kd.R_alloc | apply Kd.R_drewN | apply Kd.R_drew)); exact HO185.out) hb); have n1_ := Aside0.mk (Kd.R_below (by (with_reducible repeat (first | apply Kd.R_alloc | apply Kd.R_drewN | apply Kd.R_drew)); exact HO188.out) hb); have n2_ := Aside0.mk (Kd.R_below (by (with_reducible repeat (first | apply Kd.R_alloc | apply Kd.R_drewN | apply Kd.R_drew)); exact HO192.out) hb); have n3_ := Aside0.mk (below_step Bl_ hb); have n4_ := Aside0.mk (hbox); have n5_ := Aside0.mk ((by rw [hg]; exact (below_size Bl_) : w.heap.size ≤ gb195)); have n6_ := Aside0.mk ((by rw [hg]; exact (below_size Bl_) : w.heap.size ≤ gb195)); clear HO185; clear HO188; clear HO192; clear HB; have HO185 := n0_; have HO188 := n1_; have HO192 := n2_; have HB := n3_; have BK195 := n4_; have GW195 := n5_; have GE195 := n6_; clear n0_ n1_ n2_ n3_ n4_ n5_ n6_; clear hb hbox hg; have hcz47_0 : w46.cell? ⟨gb195, 0, none⟩ = some (.int .i64 0) := (blk_cell BK195.out 0).trans rfl; have hcz47_1 : w46.cell? ⟨gb195, 1, none⟩ = some (.slice none 0 0) := (blk_cell BK195.out 1).trans rfl; have hcz47_2 : w46.cell? ⟨gb195, 2, none⟩ = some (.string (⟨#[]⟩ : ByteArray)) := (blk_cell BK195.out 2).trans rfl; have hfz47_0 := blk_frozen BK195.out 0; have hfz47_1 := blk_frozen BK195.out 1; have hfz47_2 := blk_frozen BK195.out 2; obtain ⟨Ao48, co48, eo48⟩ := Kd.R_slice HO192.out; subst eo48) | ((with_reducible refine gate_callee (f := 19) rfl ?_); refine goesL_ (some 14) rfl rfl Tryd.func19 (by kernel_rfl) rfl #[.agg #[.int .i64 t189, .slice Ao48 t190.length co48, .string t193], .int .i64 1] rfl Ga_ ?_; (with_reducible refine (typed_Typed_At.calls k t189 _ _ t190 t193 1 t196 true _ ?side1 ?side2 A2.out).mono ?_); (case side1 => refine (Kd.R_reads' (e := 3) (base := w.heap.size) (ok := fun k_ => (True ∧ some k_ ≠ (.slice Ao44 y183.length co44 : Value).ownBlock)) (n := t190.length) (c := co48) ?_).2.2; exact (by (with_reducible repeat (first | apply Kd.R_alloc | apply Kd.R_drewN | apply Kd.R_drew)); exact (Kd.R_mono (Kd.R_far (p := ⟨gb195, 2, none⟩) (Kd.R_far (p := ⟨gb195, 1, none⟩) (Kd.R_far (p := ⟨gb195, 0, none⟩) (Kd.R_types HO192.out BK195.out (by decide)) (fun _ hk => hk.2) (.int .i64 t189)) (fun _ hk => hk.2) (.slice Ao48 t190.length co48)) (fun _ hk => hk.2) (.string t193)) (fun _ h_ => h_.1)))); (case side2 => exact (Kd.R_reads' HO192.out).2.1); rintro e w49 ⟨rfl, hb⟩; refine ⟨_, rfl, ?_⟩; have n0_ := Aside0.mk (Kd.R_below (by (with_reducible repeat (first | apply Kd.R_alloc | apply Kd.R_drewN | apply Kd.R_drew)); exact (Kd.R_mono (Kd.R_far (p := ⟨gb195, 2, none⟩) (Kd.R_far (p := ⟨gb195, 1, none⟩) (Kd.R_far (p := ⟨gb195, 0, none⟩) (Kd.R_types HO185.out BK195.out (by decide)) (fun _ hk => hk.2) (.int .i64 t189)) (fun _ hk => hk.2) (.slice Ao48 t190.length co48)) (fun _ hk => hk.2) (.string t193)) (fun _ h_ => h_.1))) hb); have n1_ := Aside0.mk (Kd.R_below (by (with_reducible repeat (first | apply Kd.R_alloc | apply Kd.R_drewN | apply Kd.R_drew)); exact (Kd.R_mono (Kd.R_far (p := ⟨gb195, 2, none⟩) (Kd.R_far (p := ⟨gb195, 1, none⟩) (Kd.R_far (p := ⟨gb195, 0, none⟩) (Kd.R_types HO188.out BK195.out (by decide)) (fun _ hk => hk.2) (.int .i64 t189)) (fun _ hk => hk.2) (.slice Ao48 t190.length co48)) (fun _ hk => hk.2) (.string t193)) (fun _ h_ => h_.1))) hb); have n2_ := Aside0.mk (Kd.R_below (by (with_reducible repeat (first | apply Kd.R_alloc | apply Kd.R_drewN | apply Kd.R_drew)); exact (Kd.R_mono (Kd.R_far (p := ⟨gb195, 2, none⟩) (Kd.R_far (p := ⟨gb195, 1, none⟩) (Kd.R_far (p := ⟨gb195, 0, none⟩) (Kd.R_types HO192.out BK195.out (by decide)) (fun _ hk => hk.2) (.int .i64 t189)) (fun _ hk => hk.2) (.slice Ao48 t190.length co48)) (fun _ hk => hk.2) (.string t193)) (fun _ h_ => h_.1))) hb); have n3_ := Aside0.mk (blk_below (g := gb195) (o := .cells #[.int .i64 t189, .slice Ao48 t190.length co48, .string t193] 29 (0, 0)) (by (with_reducible repeat (first | refine blk_drewN ?_ _ | refine blk_drew ?_ | refine blk_alloc ?_ _)); refine blk_put (cs := #[.int .i64 t189, .slice Ao48 t190.length co48, .string (⟨#[]⟩ : ByteArray)]) ?_ 2 _ rfl; (with_reducible repeat (first | refine blk_drewN ?_ _ | refine blk_drew ?_ | refine blk_alloc ?_ _)); refine blk_put (cs := #[.int .i64 t189, .slice none 0 0, .string (⟨#[]⟩ : ByteArray)]) ?_ 1 _ rfl; (with_reducible repeat (first | refine blk_drewN ?_ _ | refine blk_drew ?_ | refine blk_alloc ?_ _)); refine blk_put (cs := #[.int .i64 0, .slice none 0 0, .string (⟨#[]⟩ : ByteArray)]) ?_ 0 _ rfl; (with_reducible repeat (first | refine blk_drewN ?_ _ | refine blk_drew ?_ | refine blk_alloc ?_ _)); exact BK195.out) hb); have n4_ := Aside0.mk (below_step (by repeat (first | (with_reducible first | exact HB.out | apply below_alloc | apply pw_below_drewN | apply below_drew1 | refine below_set ?_ GE195.out) | exact HB.out)) hb); clear HO185; clear HO188; clear HO192; clear BK195; clear HB; have HO185 := n0_; have HO188 := n1_; have HO192 := n2_; have BK195 := n3_; have HB := n4_; clear n0_ n1_ n2_ n3_ n4_; (try clear hb); (try clear hb2); (try clear hk); (try clear hi); have hcz50_0 : w49.cell? ⟨gb195, 0, none⟩ = some (.int .i64 t189) := (blk_cell BK195.out 0).trans rfl; have hcz50_1 : w49.cell? ⟨gb195, 1, none⟩ = some (.slice Ao48 t190.length co48) := (blk_cell BK195.out 1).trans rfl; have hcz50_2 : w49.cell? ⟨gb195, 2, none⟩ = some (.string t193) := (blk_cell BK195.out 2).trans rfl; have hfz50_0 := blk_frozen BK195.out 0; have hfz50_1 := blk_frozen BK195.out 1; have hfz50_2 := blk_frozen BK195.out 2))
            go_ret
            exact ⟨by first | rfl | (simp [errW_none, errW_some] <;> rfl) | (simp [*, errW_none, errW_some] <;> rfl), by repeat (first | (with_reducible first | exact HB.out | apply below_alloc | apply pw_below_drewN | apply below_drew1 | refine below_set ?_ GE195.out) | exact HB.out)⟩
        · replace c6 := Bool.eq_false_iff.mpr c6
          subst c6
          have H1 : (some false) = some r := by rw [if_neg (show ¬ (false = true) by decide)] at H; exact H
          clear H
          have H := H1
          clear H1
          obtain rfl := Option.some.inj H
          go_enter Tryd.func9, Tryd.ntmps9
          go_wp2_with (first | ((with_reducible refine gate_dst (N := 6) rfl ?_); refine Kd.R_lit (Kd.int .i64) _ 3 ?hg (N := 6) ?hd (xs := ([2] : List Int)) (inner := [.int .i64 2]) (ok := fun _ => True) (okp := fun _ => True) ?hr ?hp (fun _ hk => hk) trivial (Below.refl _ _) (Nat.le_refl _) (by simp) ?_; (case hd => rfl); (case hg => rfl); (case hr => first | (go_simp; done) | (go_simp; rfl)); (case hp => exact (Reps.one (show Kd.M (Kd.int .i64) _ _ _ 2 [.int .i64 2] from rfl) (Reps.none _ _))); intro v184 w51 ho52 hb hg_ hnew_; clear hg_ hnew_; (first | rw [← Ny183.out] at ho52 | (simp only [Int.reduceToNat] at ho52; rw [← Ny183.out] at ho52)); have n0_ := Aside0.mk (Kd.R_lower ho52 (below_size Bl_)); have n1_ := Aside0.mk (below_step Bl_ hb); clear HB; have HO185 := n0_; have HB := n1_; clear n0_ n1_; clear hb ho52) | ((with_reducible refine gate_dst (N := 7) rfl ?_); refine Kd.R_lit Kd.string _ 9 ?hg (N := 7) ?hd (xs := ([(⟨#[49]⟩ : ByteArray), (⟨#[45, 49]⟩ : ByteArray)] : List ByteArray)) (inner := [.string (⟨#[49]⟩ : ByteArray), .string (⟨#[45, 49]⟩ : ByteArray)]) (ok := fun _ => True) (okp := fun _ => True) ?hr ?hp (fun _ hk => hk) trivial (Below.refl _ _) (Nat.le_refl _) (by simp) ?_; (case hd => rfl); (case hg => rfl); (case hr => first | (go_simp; done) | (go_simp; rfl)); (case hp => exact (Reps.one (show Kd.M Kd.string _ _ _ (⟨#[49]⟩ : ByteArray) [.string (⟨#[49]⟩ : ByteArray)] from rfl) (Reps.one (show Kd.M Kd.string _ _ _ (⟨#[45, 49]⟩ : ByteArray) [.string (⟨#[45, 49]⟩ : ByteArray)] from rfl) (Reps.none _ _)))); intro v187 w53 ho54 hb hg_ hnew_; clear hg_ hnew_; (first | rw [← Ny186.out] at ho54 | (simp only [Int.reduceToNat] at ho54; rw [← Ny186.out] at ho54)); have n0_ := Aside0.mk (Kd.R_below (by (with_reducible repeat (first | apply Kd.R_alloc | apply Kd.R_drewN | apply Kd.R_drew)); exact HO185.out) hb); have n1_ := Aside0.mk (Kd.R_lower ho54 (below_size Bl_)); have n2_ := Aside0.mk (below_step Bl_ hb); clear HO185; clear HB; have HO185 := n0_; have HO188 := n1_; have HB := n2_; clear n0_ n1_ n2_; clear hb ho54; obtain ⟨Ao55, co55, eo55⟩ := Kd.R_slice HO188.out; subst eo55; obtain ⟨Ao56, co56, eo56⟩ := Kd.R_slice HO185.out; subst eo56) | ((with_reducible refine gate_callee (f := 11) rfl ?_); refine goesL_ (some 9) rfl rfl Tryd.func11 (by kernel_rfl) rfl #[.agg #[.slice Ao56 y183.length co56, .slice Ao55 y186.length co55]] rfl Ga_ ?_; (with_reducible refine (typed_Pack.calls k _ _ y183 _ _ y186 t189 t190 t193 t194 _ ?side1 ?side2 ?side3 ?side4 A1.out ?side5).mono ?_); (case side1 => repeat (first | exact (Kd.R_reads' HO185.out).2.2 | (with_reducible refine Kd.C_alloc ?_ _) | (with_reducible refine Kd.C_drewN ?_ _) | (with_reducible refine Kd.C_drew ?_))); (case side2 => exact (Kd.R_reads' HO185.out).2.1); (case side3 => repeat (first | exact (Kd.R_reads' HO188.out).2.2 | (with_reducible refine Kd.C_alloc ?_ _) | (with_reducible refine Kd.C_drewN ?_ _) | (with_reducible refine Kd.C_drew ?_))); (case side4 => exact (Kd.R_reads' HO188.out).2.1); (case side5 => first | exact hG | exact Glob.below hG Bl_); rintro e w57 ⟨v191, rfl, ho0, hb⟩; refine ⟨_, rfl, ?_⟩; have n0_ := Aside0.mk (Kd.R_elder' (by (with_reducible repeat (first | apply Kd.R_alloc | apply Kd.R_drewN | apply Kd.R_drew)); exact HO185.out) (Kd.R_base ho0) hb); have n1_ := Aside0.mk (Kd.R_below (by (with_reducible repeat (first | apply Kd.R_alloc | apply Kd.R_drewN | apply Kd.R_drew)); exact HO188.out) hb); have n2_ := Aside0.mk (Kd.R_lower (Kd.R_new' ho0 (Kd.R_lt (by (with_reducible repeat (first | apply Kd.R_alloc | apply Kd.R_drewN | apply Kd.R_drew)); exact HO185.out))) (below_size Bl_)); have n3_ := Aside0.mk (below_step Bl_ hb); clear HO185; clear HO188; clear HB; have HO185 := n0_; have HO188 := n1_; have HO192 := n2_; have HB := n3_; clear n0_ n1_ n2_ n3_; (try clear hb); (try clear hb2); (try clear hk); (try clear hi); (try clear ho0)) | ((with_reducible refine gate_dst (N := 1) rfl ?_); refine box_event ?hg (N := 1) ?hd (cs := #[.int .i64 0, .slice none 0 0, .string (⟨#[]⟩ : ByteArray)]) (t := 29) ?hr ?_; (case hd => rfl); (case hg => rfl); (case hr => first | (go_simp; done) | (go_simp; rfl)); intro gb195 hg w58 hbox hb; have n0_ := Aside0.mk (Kd.R_below (by (with_reducible repeat (first | apply Kd.R_alloc | apply Kd.R_drewN | apply Kd.R_drew)); exact HO185.out) hb); have n1_ := Aside0.mk (Kd.R_below (by (with_reducible repeat (first | apply Kd.R_alloc | apply Kd.R_drewN | apply Kd.R_drew)); exact HO188.out) hb); have n2_ := Aside0.mk (Kd.R_below (by (with_reducible repeat (first | apply Kd.R_alloc | apply Kd.R_drewN | apply Kd.R_drew)); exact HO192.out) hb); have n3_ := Aside0.mk (below_step Bl_ hb); have n4_ := Aside0.mk (hbox); have n5_ := Aside0.mk ((by rw [hg]; exact (below_size Bl_) : w.heap.size ≤ gb195)); have n6_ := Aside0.mk ((by rw [hg]; exact (below_size Bl_) : w.heap.size ≤ gb195)); clear HO185; clear HO188; clear HO192; clear HB; have HO185 := n0_; have HO188 := n1_; have HO192 := n2_; have HB := n3_; have BK195 := n4_; have GW195 := n5_; have GE195 := n6_; clear n0_ n1_ n2_ n3_ n4_ n5_ n6_; clear hb hbox hg; have hcz59_0 : w58.cell? ⟨gb195, 0, none⟩ = some (.int .i64 0) := (blk_cell BK195.out 0).trans rfl; have hcz59_1 : w58.cell? ⟨gb195, 1, none⟩ = some (.slice none 0 0) := (blk_cell BK195.out 1).trans rfl; have hcz59_2 : w58.cell? ⟨gb195, 2, none⟩ = some (.string (⟨#[]⟩ : ByteArray)) := (blk_cell BK195.out 2).trans rfl; have hfz59_0 := blk_frozen BK195.out 0; have hfz59_1 := blk_frozen BK195.out 1; have hfz59_2 := blk_frozen BK195.out 2; obtain ⟨Ao60, co60, eo60⟩ := Kd.R_slice HO192.out; subst eo60) | ((with_reducible refine gate_callee (f := 19) rfl ?_); refine goesL_ (some 14) rfl rfl Tryd.func19 (by kernel_rfl) rfl #[.agg #[.int .i64 t189, .slice Ao60 t190.length co60, .string t193], .int .i64 1] rfl Ga_ ?_; (with_reducible refine (typed_Typed_At.calls k t189 _ _ t190 t193 1 t196 false _ ?side1 ?side2 A2.out).mono ?_); (case side1 => refine (Kd.R_reads' (e := 3) (base := w.heap.size) (ok := fun k_ => (True ∧ some k_ ≠ (.slice Ao56 y183.length co56 : Value).ownBlock)) (n := t190.length) (c := co60) ?_).2.2; exact (by (with_reducible repeat (first | apply Kd.R_alloc | apply Kd.R_drewN | apply Kd.R_drew)); exact (Kd.R_mono (Kd.R_far (p := ⟨gb195, 2, none⟩) (Kd.R_far (p := ⟨gb195, 1, none⟩) (Kd.R_far (p := ⟨gb195, 0, none⟩) (Kd.R_types HO192.out BK195.out (by decide)) (fun _ hk => hk.2) (.int .i64 t189)) (fun _ hk => hk.2) (.slice Ao60 t190.length co60)) (fun _ hk => hk.2) (.string t193)) (fun _ h_ => h_.1)))); (case side2 => exact (Kd.R_reads' HO192.out).2.1); rintro e w61 ⟨rfl, hb⟩; refine ⟨_, rfl, ?_⟩; have n0_ := Aside0.mk (Kd.R_below (by (with_reducible repeat (first | apply Kd.R_alloc | apply Kd.R_drewN | apply Kd.R_drew)); exact (Kd.R_mono (Kd.R_far (p := ⟨gb195, 2, none⟩) (Kd.R_far (p := ⟨gb195, 1, none⟩) (Kd.R_far (p := ⟨gb195, 0, none⟩) (Kd.R_types HO185.out BK195.out (by decide)) (fun _ hk => hk.2) (.int .i64 t189)) (fun _ hk => hk.2) (.slice Ao60 t190.length co60)) (fun _ hk => hk.2) (.string t193)) (fun _ h_ => h_.1))) hb); have n1_ := Aside0.mk (Kd.R_below (by (with_reducible repeat (first | apply Kd.R_alloc | apply Kd.R_drewN | apply Kd.R_drew)); exact (Kd.R_mono (Kd.R_far (p := ⟨gb195, 2, none⟩) (Kd.R_far (p := ⟨gb195, 1, none⟩) (Kd.R_far (p := ⟨gb195, 0, none⟩) (Kd.R_types HO188.out BK195.out (by decide)) (fun _ hk => hk.2) (.int .i64 t189)) (fun _ hk => hk.2) (.slice Ao60 t190.length co60)) (fun _ hk => hk.2) (.string t193)) (fun _ h_ => h_.1))) hb); have n2_ := Aside0.mk (Kd.R_below (by (with_reducible repeat (first | apply Kd.R_alloc | apply Kd.R_drewN | apply Kd.R_drew)); exact (Kd.R_mono (Kd.R_far (p := ⟨gb195, 2, none⟩) (Kd.R_far (p := ⟨gb195, 1, none⟩) (Kd.R_far (p := ⟨gb195, 0, none⟩) (Kd.R_types HO192.out BK195.out (by decide)) (fun _ hk => hk.2) (.int .i64 t189)) (fun _ hk => hk.2) (.slice Ao60 t190.length co60)) (fun _ hk => hk.2) (.string t193)) (fun _ h_ => h_.1))) hb); have n3_ := Aside0.mk (blk_below (g := gb195) (o := .cells #[.int .i64 t189, .slice Ao60 t190.length co60, .string t193] 29 (0, 0)) (by (with_reducible repeat (first | refine blk_drewN ?_ _ | refine blk_drew ?_ | refine blk_alloc ?_ _)); refine blk_put (cs := #[.int .i64 t189, .slice Ao60 t190.length co60, .string (⟨#[]⟩ : ByteArray)]) ?_ 2 _ rfl; (with_reducible repeat (first | refine blk_drewN ?_ _ | refine blk_drew ?_ | refine blk_alloc ?_ _)); refine blk_put (cs := #[.int .i64 t189, .slice none 0 0, .string (⟨#[]⟩ : ByteArray)]) ?_ 1 _ rfl; (with_reducible repeat (first | refine blk_drewN ?_ _ | refine blk_drew ?_ | refine blk_alloc ?_ _)); refine blk_put (cs := #[.int .i64 0, .slice none 0 0, .string (⟨#[]⟩ : ByteArray)]) ?_ 0 _ rfl; (with_reducible repeat (first | refine blk_drewN ?_ _ | refine blk_drew ?_ | refine blk_alloc ?_ _)); exact BK195.out) hb); have n4_ := Aside0.mk (below_step (by repeat (first | (with_reducible first | exact HB.out | apply below_alloc | apply pw_below_drewN | apply below_drew1 | refine below_set ?_ GE195.out) | exact HB.out)) hb); clear HO185; clear HO188; clear HO192; clear BK195; clear HB; have HO185 := n0_; have HO188 := n1_; have HO192 := n2_; have BK195 := n3_; have HB := n4_; clear n0_ n1_ n2_ n3_ n4_; (try clear hb); (try clear hb2); (try clear hk); (try clear hi); have hcz62_0 : w61.cell? ⟨gb195, 0, none⟩ = some (.int .i64 t189) := (blk_cell BK195.out 0).trans rfl; have hcz62_1 : w61.cell? ⟨gb195, 1, none⟩ = some (.slice Ao60 t190.length co60) := (blk_cell BK195.out 1).trans rfl; have hcz62_2 : w61.cell? ⟨gb195, 2, none⟩ = some (.string t193) := (blk_cell BK195.out 2).trans rfl; have hfz62_0 := blk_frozen BK195.out 0; have hfz62_1 := blk_frozen BK195.out 1; have hfz62_2 := blk_frozen BK195.out 2))
          go_ret
          exact ⟨by first | rfl | (simp [errW_none, errW_some] <;> rfl) | (simp [*, errW_none, errW_some] <;> rfl), by repeat (first | (with_reducible first | exact HB.out | apply below_alloc | apply pw_below_drewN | apply below_drew1 | refine below_set ?_ GE195.out) | exact HB.out)⟩
      · rw [if_neg c5] at H
        have c5b0 : (t193.toList == ([1, 255] : List UInt8)) = false := beq_eq_false_iff_ne.mpr c5
        have c5b1 : (t193.toList != ([1, 255] : List UInt8)) = true := bne_iff_ne.mpr c5
        obtain rfl := Option.some.inj H
        go_enter Tryd.func9, Tryd.ntmps9
        go_wp2_with (first | ((with_reducible refine gate_dst (N := 6) rfl ?_); refine Kd.R_lit (Kd.int .i64) _ 3 ?hg (N := 6) ?hd (xs := ([2] : List Int)) (inner := [.int .i64 2]) (ok := fun _ => True) (okp := fun _ => True) ?hr ?hp (fun _ hk => hk) trivial (Below.refl _ _) (Nat.le_refl _) (by simp) ?_; (case hd => rfl); (case hg => rfl); (case hr => first | (go_simp; done) | (go_simp; rfl)); (case hp => exact (Reps.one (show Kd.M (Kd.int .i64) _ _ _ 2 [.int .i64 2] from rfl) (Reps.none _ _))); intro v184 w63 ho64 hb hg_ hnew_; clear hg_ hnew_; (first | rw [← Ny183.out] at ho64 | (simp only [Int.reduceToNat] at ho64; rw [← Ny183.out] at ho64)); have n0_ := Aside0.mk (Kd.R_lower ho64 (below_size Bl_)); have n1_ := Aside0.mk (below_step Bl_ hb); clear HB; have HO185 := n0_; have HB := n1_; clear n0_ n1_; clear hb ho64) | ((with_reducible refine gate_dst (N := 7) rfl ?_); refine Kd.R_lit Kd.string _ 9 ?hg (N := 7) ?hd (xs := ([(⟨#[49]⟩ : ByteArray), (⟨#[45, 49]⟩ : ByteArray)] : List ByteArray)) (inner := [.string (⟨#[49]⟩ : ByteArray), .string (⟨#[45, 49]⟩ : ByteArray)]) (ok := fun _ => True) (okp := fun _ => True) ?hr ?hp (fun _ hk => hk) trivial (Below.refl _ _) (Nat.le_refl _) (by simp) ?_; (case hd => rfl); (case hg => rfl); (case hr => first | (go_simp; done) | (go_simp; rfl)); (case hp => exact (Reps.one (show Kd.M Kd.string _ _ _ (⟨#[49]⟩ : ByteArray) [.string (⟨#[49]⟩ : ByteArray)] from rfl) (Reps.one (show Kd.M Kd.string _ _ _ (⟨#[45, 49]⟩ : ByteArray) [.string (⟨#[45, 49]⟩ : ByteArray)] from rfl) (Reps.none _ _)))); intro v187 w65 ho66 hb hg_ hnew_; clear hg_ hnew_; (first | rw [← Ny186.out] at ho66 | (simp only [Int.reduceToNat] at ho66; rw [← Ny186.out] at ho66)); have n0_ := Aside0.mk (Kd.R_below (by (with_reducible repeat (first | apply Kd.R_alloc | apply Kd.R_drewN | apply Kd.R_drew)); exact HO185.out) hb); have n1_ := Aside0.mk (Kd.R_lower ho66 (below_size Bl_)); have n2_ := Aside0.mk (below_step Bl_ hb); clear HO185; clear HB; have HO185 := n0_; have HO188 := n1_; have HB := n2_; clear n0_ n1_ n2_; clear hb ho66; obtain ⟨Ao67, co67, eo67⟩ := Kd.R_slice HO188.out; subst eo67; obtain ⟨Ao68, co68, eo68⟩ := Kd.R_slice HO185.out; subst eo68) | ((with_reducible refine gate_callee (f := 11) rfl ?_); refine goesL_ (some 9) rfl rfl Tryd.func11 (by kernel_rfl) rfl #[.agg #[.slice Ao68 y183.length co68, .slice Ao67 y186.length co67]] rfl Ga_ ?_; (with_reducible refine (typed_Pack.calls k _ _ y183 _ _ y186 t189 t190 t193 t194 _ ?side1 ?side2 ?side3 ?side4 A1.out ?side5).mono ?_); (case side1 => repeat (first | exact (Kd.R_reads' HO185.out).2.2 | (with_reducible refine Kd.C_alloc ?_ _) | (with_reducible refine Kd.C_drewN ?_ _) | (with_reducible refine Kd.C_drew ?_))); (case side2 => exact (Kd.R_reads' HO185.out).2.1); (case side3 => repeat (first | exact (Kd.R_reads' HO188.out).2.2 | (with_reducible refine Kd.C_alloc ?_ _) | (with_reducible refine Kd.C_drewN ?_ _) | (with_reducible refine Kd.C_drew ?_))); (case side4 => exact (Kd.R_reads' HO188.out).2.1); (case side5 => first | exact hG | exact Glob.below hG Bl_); rintro e w69 ⟨v191, rfl, ho0, hb⟩; refine ⟨_, rfl, ?_⟩; have n0_ := Aside0.mk (Kd.R_elder' (by (with_reducible repeat (first | apply Kd.R_alloc | apply Kd.R_drewN | apply Kd.R_drew)); exact HO185.out) (Kd.R_base ho0) hb); have n1_ := Aside0.mk (Kd.R_below (by (with_reducible repeat (first | apply Kd.R_alloc | apply Kd.R_drewN | apply Kd.R_drew)); exact HO188.out) hb); have n2_ := Aside0.mk (Kd.R_lower (Kd.R_new' ho0 (Kd.R_lt (by (with_reducible repeat (first | apply Kd.R_alloc | apply Kd.R_drewN | apply Kd.R_drew)); exact HO185.out))) (below_size Bl_)); have n3_ := Aside0.mk (below_step Bl_ hb); clear HO185; clear HO188; clear HB; have HO185 := n0_; have HO188 := n1_; have HO192 := n2_; have HB := n3_; clear n0_ n1_ n2_ n3_; (try clear hb); (try clear hb2); (try clear hk); (try clear hi); (try clear ho0)) | ((with_reducible refine gate_dst (N := 1) rfl ?_); refine box_event ?hg (N := 1) ?hd (cs := #[.int .i64 0, .slice none 0 0, .string (⟨#[]⟩ : ByteArray)]) (t := 29) ?hr ?_; (case hd => rfl); (case hg => rfl); (case hr => first | (go_simp; done) | (go_simp; rfl)); intro gb195 hg w70 hbox hb; have n0_ := Aside0.mk (Kd.R_below (by (with_reducible repeat (first | apply Kd.R_alloc | apply Kd.R_drewN | apply Kd.R_drew)); exact HO185.out) hb); have n1_ := Aside0.mk (Kd.R_below (by (with_reducible repeat (first | apply Kd.R_alloc | apply Kd.R_drewN | apply Kd.R_drew)); exact HO188.out) hb); have n2_ := Aside0.mk (Kd.R_below (by (with_reducible repeat (first | apply Kd.R_alloc | apply Kd.R_drewN | apply Kd.R_drew)); exact HO192.out) hb); have n3_ := Aside0.mk (below_step Bl_ hb); have n4_ := Aside0.mk (hbox); have n5_ := Aside0.mk ((by rw [hg]; exact (below_size Bl_) : w.heap.size ≤ gb195)); have n6_ := Aside0.mk ((by rw [hg]; exact (below_size Bl_) : w.heap.size ≤ gb195)); clear HO185; clear HO188; clear HO192; clear HB; have HO185 := n0_; have HO188 := n1_; have HO192 := n2_; have HB := n3_; have BK195 := n4_; have GW195 := n5_; have GE195 := n6_; clear n0_ n1_ n2_ n3_ n4_ n5_ n6_; clear hb hbox hg; have hcz71_0 : w70.cell? ⟨gb195, 0, none⟩ = some (.int .i64 0) := (blk_cell BK195.out 0).trans rfl; have hcz71_1 : w70.cell? ⟨gb195, 1, none⟩ = some (.slice none 0 0) := (blk_cell BK195.out 1).trans rfl; have hcz71_2 : w70.cell? ⟨gb195, 2, none⟩ = some (.string (⟨#[]⟩ : ByteArray)) := (blk_cell BK195.out 2).trans rfl; have hfz71_0 := blk_frozen BK195.out 0; have hfz71_1 := blk_frozen BK195.out 1; have hfz71_2 := blk_frozen BK195.out 2; obtain ⟨Ao72, co72, eo72⟩ := Kd.R_slice HO192.out; subst eo72) | ((with_reducible refine gate_callee (f := 19) rfl ?_); refine goesL_ (some 14) rfl rfl Tryd.func19 (by kernel_rfl) rfl #[.agg #[.int .i64 t189, .slice Ao72 t190.length co72, .string t193], .int .i64 1] rfl Ga_ ?_; (with_reducible refine (typed_Typed_At.calls k t189 _ _ t190 t193 1 t196 t197 _ ?side1 ?side2 A2.out).mono ?_); (case side1 => refine (Kd.R_reads' (e := 3) (base := w.heap.size) (ok := fun k_ => (True ∧ some k_ ≠ (.slice Ao68 y183.length co68 : Value).ownBlock)) (n := t190.length) (c := co72) ?_).2.2; exact (by (with_reducible repeat (first | apply Kd.R_alloc | apply Kd.R_drewN | apply Kd.R_drew)); exact (Kd.R_mono (Kd.R_far (p := ⟨gb195, 2, none⟩) (Kd.R_far (p := ⟨gb195, 1, none⟩) (Kd.R_far (p := ⟨gb195, 0, none⟩) (Kd.R_types HO192.out BK195.out (by decide)) (fun _ hk => hk.2) (.int .i64 t189)) (fun _ hk => hk.2) (.slice Ao72 t190.length co72)) (fun _ hk => hk.2) (.string t193)) (fun _ h_ => h_.1)))); (case side2 => exact (Kd.R_reads' HO192.out).2.1); rintro e w73 ⟨rfl, hb⟩; refine ⟨_, rfl, ?_⟩; have n0_ := Aside0.mk (Kd.R_below (by (with_reducible repeat (first | apply Kd.R_alloc | apply Kd.R_drewN | apply Kd.R_drew)); exact (Kd.R_mono (Kd.R_far (p := ⟨gb195, 2, none⟩) (Kd.R_far (p := ⟨gb195, 1, none⟩) (Kd.R_far (p := ⟨gb195, 0, none⟩) (Kd.R_types HO185.out BK195.out (by decide)) (fun _ hk => hk.2) (.int .i64 t189)) (fun _ hk => hk.2) (.slice Ao72 t190.length co72)) (fun _ hk => hk.2) (.string t193)) (fun _ h_ => h_.1))) hb); have n1_ := Aside0.mk (Kd.R_below (by (with_reducible repeat (first | apply Kd.R_alloc | apply Kd.R_drewN | apply Kd.R_drew)); exact (Kd.R_mono (Kd.R_far (p := ⟨gb195, 2, none⟩) (Kd.R_far (p := ⟨gb195, 1, none⟩) (Kd.R_far (p := ⟨gb195, 0, none⟩) (Kd.R_types HO188.out BK195.out (by decide)) (fun _ hk => hk.2) (.int .i64 t189)) (fun _ hk => hk.2) (.slice Ao72 t190.length co72)) (fun _ hk => hk.2) (.string t193)) (fun _ h_ => h_.1))) hb); have n2_ := Aside0.mk (Kd.R_below (by (with_reducible repeat (first | apply Kd.R_alloc | apply Kd.R_drewN | apply Kd.R_drew)); exact (Kd.R_mono (Kd.R_far (p := ⟨gb195, 2, none⟩) (Kd.R_far (p := ⟨gb195, 1, none⟩) (Kd.R_far (p := ⟨gb195, 0, none⟩) (Kd.R_types HO192.out BK195.out (by decide)) (fun _ hk => hk.2) (.int .i64 t189)) (fun _ hk => hk.2) (.slice Ao72 t190.length co72)) (fun _ hk => hk.2) (.string t193)) (fun _ h_ => h_.1))) hb); have n3_ := Aside0.mk (blk_below (g := gb195) (o := .cells #[.int .i64 t189, .slice Ao72 t190.length co72, .string t193] 29 (0, 0)) (by (with_reducible repeat (first | refine blk_drewN ?_ _ | refine blk_drew ?_ | refine blk_alloc ?_ _)); refine blk_put (cs := #[.int .i64 t189, .slice Ao72 t190.length co72, .string (⟨#[]⟩ : ByteArray)]) ?_ 2 _ rfl; (with_reducible repeat (first | refine blk_drewN ?_ _ | refine blk_drew ?_ | refine blk_alloc ?_ _)); refine blk_put (cs := #[.int .i64 t189, .slice none 0 0, .string (⟨#[]⟩ : ByteArray)]) ?_ 1 _ rfl; (with_reducible repeat (first | refine blk_drewN ?_ _ | refine blk_drew ?_ | refine blk_alloc ?_ _)); refine blk_put (cs := #[.int .i64 0, .slice none 0 0, .string (⟨#[]⟩ : ByteArray)]) ?_ 0 _ rfl; (with_reducible repeat (first | refine blk_drewN ?_ _ | refine blk_drew ?_ | refine blk_alloc ?_ _)); exact BK195.out) hb); have n4_ := Aside0.mk (below_step (by repeat (first | (with_reducible first | exact HB.out | apply below_alloc | apply pw_below_drewN | apply below_drew1 | refine below_set ?_ GE195.out) | exact HB.out)) hb); clear HO185; clear HO188; clear HO192; clear BK195; clear HB; have HO185 := n0_; have HO188 := n1_; have HO192 := n2_; have BK195 := n3_; have HB := n4_; clear n0_ n1_ n2_ n3_ n4_; (try clear hb); (try clear hb2); (try clear hk); (try clear hi); have hcz74_0 : w73.cell? ⟨gb195, 0, none⟩ = some (.int .i64 t189) := (blk_cell BK195.out 0).trans rfl; have hcz74_1 : w73.cell? ⟨gb195, 1, none⟩ = some (.slice Ao72 t190.length co72) := (blk_cell BK195.out 1).trans rfl; have hcz74_2 : w73.cell? ⟨gb195, 2, none⟩ = some (.string t193) := (blk_cell BK195.out 2).trans rfl; have hfz74_0 := blk_frozen BK195.out 0; have hfz74_1 := blk_frozen BK195.out 1; have hfz74_2 := blk_frozen BK195.out 2))
        go_ret
        exact ⟨by first | rfl | (simp [errW_none, errW_some] <;> rfl) | (simp [*, errW_none, errW_some] <;> rfl), by repeat (first | (with_reducible first | exact HB.out | apply below_alloc | apply pw_below_drewN | apply below_drew1 | refine below_set ?_ GE195.out) | exact HB.out)⟩
    · rw [if_neg c4] at H
      have c4b0 : (t189 == 8) = false := beq_eq_false_iff_ne.mpr c4
      have c4b1 : (t189 != 8) = true := bne_iff_ne.mpr c4
      obtain rfl := Option.some.inj H
      go_enter Tryd.func9, Tryd.ntmps9
      go_wp2_with (first | ((with_reducible refine gate_dst (N := 6) rfl ?_); refine Kd.R_lit (Kd.int .i64) _ 3 ?hg (N := 6) ?hd (xs := ([2] : List Int)) (inner := [.int .i64 2]) (ok := fun _ => True) (okp := fun _ => True) ?hr ?hp (fun _ hk => hk) trivial (Below.refl _ _) (Nat.le_refl _) (by simp) ?_; (case hd => rfl); (case hg => rfl); (case hr => first | (go_simp; done) | (go_simp; rfl)); (case hp => exact (Reps.one (show Kd.M (Kd.int .i64) _ _ _ 2 [.int .i64 2] from rfl) (Reps.none _ _))); intro v184 w75 ho76 hb hg_ hnew_; clear hg_ hnew_; (first | rw [← Ny183.out] at ho76 | (simp only [Int.reduceToNat] at ho76; rw [← Ny183.out] at ho76)); have n0_ := Aside0.mk (Kd.R_lower ho76 (below_size Bl_)); have n1_ := Aside0.mk (below_step Bl_ hb); clear HB; have HO185 := n0_; have HB := n1_; clear n0_ n1_; clear hb ho76) | ((with_reducible refine gate_dst (N := 7) rfl ?_); refine Kd.R_lit Kd.string _ 9 ?hg (N := 7) ?hd (xs := ([(⟨#[49]⟩ : ByteArray), (⟨#[45, 49]⟩ : ByteArray)] : List ByteArray)) (inner := [.string (⟨#[49]⟩ : ByteArray), .string (⟨#[45, 49]⟩ : ByteArray)]) (ok := fun _ => True) (okp := fun _ => True) ?hr ?hp (fun _ hk => hk) trivial (Below.refl _ _) (Nat.le_refl _) (by simp) ?_; (case hd => rfl); (case hg => rfl); (case hr => first | (go_simp; done) | (go_simp; rfl)); (case hp => exact (Reps.one (show Kd.M Kd.string _ _ _ (⟨#[49]⟩ : ByteArray) [.string (⟨#[49]⟩ : ByteArray)] from rfl) (Reps.one (show Kd.M Kd.string _ _ _ (⟨#[45, 49]⟩ : ByteArray) [.string (⟨#[45, 49]⟩ : ByteArray)] from rfl) (Reps.none _ _)))); intro v187 w77 ho78 hb hg_ hnew_; clear hg_ hnew_; (first | rw [← Ny186.out] at ho78 | (simp only [Int.reduceToNat] at ho78; rw [← Ny186.out] at ho78)); have n0_ := Aside0.mk (Kd.R_below (by (with_reducible repeat (first | apply Kd.R_alloc | apply Kd.R_drewN | apply Kd.R_drew)); exact HO185.out) hb); have n1_ := Aside0.mk (Kd.R_lower ho78 (below_size Bl_)); have n2_ := Aside0.mk (below_step Bl_ hb); clear HO185; clear HB; have HO185 := n0_; have HO188 := n1_; have HB := n2_; clear n0_ n1_ n2_; clear hb ho78; obtain ⟨Ao79, co79, eo79⟩ := Kd.R_slice HO188.out; subst eo79; obtain ⟨Ao80, co80, eo80⟩ := Kd.R_slice HO185.out; subst eo80) | ((with_reducible refine gate_callee (f := 11) rfl ?_); refine goesL_ (some 9) rfl rfl Tryd.func11 (by kernel_rfl) rfl #[.agg #[.slice Ao80 y183.length co80, .slice Ao79 y186.length co79]] rfl Ga_ ?_; (with_reducible refine (typed_Pack.calls k _ _ y183 _ _ y186 t189 t190 t193 t194 _ ?side1 ?side2 ?side3 ?side4 A1.out ?side5).mono ?_); (case side1 => repeat (first | exact (Kd.R_reads' HO185.out).2.2 | (with_reducible refine Kd.C_alloc ?_ _) | (with_reducible refine Kd.C_drewN ?_ _) | (with_reducible refine Kd.C_drew ?_))); (case side2 => exact (Kd.R_reads' HO185.out).2.1); (case side3 => repeat (first | exact (Kd.R_reads' HO188.out).2.2 | (with_reducible refine Kd.C_alloc ?_ _) | (with_reducible refine Kd.C_drewN ?_ _) | (with_reducible refine Kd.C_drew ?_))); (case side4 => exact (Kd.R_reads' HO188.out).2.1); (case side5 => first | exact hG | exact Glob.below hG Bl_); rintro e w81 ⟨v191, rfl, ho0, hb⟩; refine ⟨_, rfl, ?_⟩; have n0_ := Aside0.mk (Kd.R_elder' (by (with_reducible repeat (first | apply Kd.R_alloc | apply Kd.R_drewN | apply Kd.R_drew)); exact HO185.out) (Kd.R_base ho0) hb); have n1_ := Aside0.mk (Kd.R_below (by (with_reducible repeat (first | apply Kd.R_alloc | apply Kd.R_drewN | apply Kd.R_drew)); exact HO188.out) hb); have n2_ := Aside0.mk (Kd.R_lower (Kd.R_new' ho0 (Kd.R_lt (by (with_reducible repeat (first | apply Kd.R_alloc | apply Kd.R_drewN | apply Kd.R_drew)); exact HO185.out))) (below_size Bl_)); have n3_ := Aside0.mk (below_step Bl_ hb); clear HO185; clear HO188; clear HB; have HO185 := n0_; have HO188 := n1_; have HO192 := n2_; have HB := n3_; clear n0_ n1_ n2_ n3_; (try clear hb); (try clear hb2); (try clear hk); (try clear hi); (try clear ho0)) | ((with_reducible refine gate_dst (N := 1) rfl ?_); refine box_event ?hg (N := 1) ?hd (cs := #[.int .i64 0, .slice none 0 0, .string (⟨#[]⟩ : ByteArray)]) (t := 29) ?hr ?_; (case hd => rfl); (case hg => rfl); (case hr => first | (go_simp; done) | (go_simp; rfl)); intro gb195 hg w82 hbox hb; have n0_ := Aside0.mk (Kd.R_below (by (with_reducible repeat (first | apply Kd.R_alloc | apply Kd.R_drewN | apply Kd.R_drew)); exact HO185.out) hb); have n1_ := Aside0.mk (Kd.R_below (by (with_reducible repeat (first | apply Kd.R_alloc | apply Kd.R_drewN | apply Kd.R_drew)); exact HO188.out) hb); have n2_ := Aside0.mk (Kd.R_below (by (with_reducible repeat (first | apply Kd.R_alloc | apply Kd.R_drewN | apply Kd.R_drew)); exact HO192.out) hb); have n3_ := Aside0.mk (below_step Bl_ hb); have n4_ := Aside0.mk (hbox); have n5_ := Aside0.mk ((by rw [hg]; exact (below_size Bl_) : w.heap.size ≤ gb195)); have n6_ := Aside0.mk ((by rw [hg]; exact (below_size Bl_) : w.heap.size ≤ gb195)); clear HO185; clear HO188; clear HO192; clear HB; have HO185 := n0_; have HO188 := n1_; have HO192 := n2_; have HB := n3_; have BK195 := n4_; have GW195 := n5_; have GE195 := n6_; clear n0_ n1_ n2_ n3_ n4_ n5_ n6_; clear hb hbox hg; have hcz83_0 : w82.cell? ⟨gb195, 0, none⟩ = some (.int .i64 0) := (blk_cell BK195.out 0).trans rfl; have hcz83_1 : w82.cell? ⟨gb195, 1, none⟩ = some (.slice none 0 0) := (blk_cell BK195.out 1).trans rfl; have hcz83_2 : w82.cell? ⟨gb195, 2, none⟩ = some (.string (⟨#[]⟩ : ByteArray)) := (blk_cell BK195.out 2).trans rfl; have hfz83_0 := blk_frozen BK195.out 0; have hfz83_1 := blk_frozen BK195.out 1; have hfz83_2 := blk_frozen BK195.out 2; obtain ⟨Ao84, co84, eo84⟩ := Kd.R_slice HO192.out; subst eo84) | ((with_reducible refine gate_callee (f := 19) rfl ?_); refine goesL_ (some 14) rfl rfl Tryd.func19 (by kernel_rfl) rfl #[.agg #[.int .i64 t189, .slice Ao84 t190.length co84, .string t193], .int .i64 1] rfl Ga_ ?_; (with_reducible refine (typed_Typed_At.calls k t189 _ _ t190 t193 1 t196 t197 _ ?side1 ?side2 A2.out).mono ?_); (case side1 => refine (Kd.R_reads' (e := 3) (base := w.heap.size) (ok := fun k_ => (True ∧ some k_ ≠ (.slice Ao80 y183.length co80 : Value).ownBlock)) (n := t190.length) (c := co84) ?_).2.2; exact (by (with_reducible repeat (first | apply Kd.R_alloc | apply Kd.R_drewN | apply Kd.R_drew)); exact (Kd.R_mono (Kd.R_far (p := ⟨gb195, 2, none⟩) (Kd.R_far (p := ⟨gb195, 1, none⟩) (Kd.R_far (p := ⟨gb195, 0, none⟩) (Kd.R_types HO192.out BK195.out (by decide)) (fun _ hk => hk.2) (.int .i64 t189)) (fun _ hk => hk.2) (.slice Ao84 t190.length co84)) (fun _ hk => hk.2) (.string t193)) (fun _ h_ => h_.1)))); (case side2 => exact (Kd.R_reads' HO192.out).2.1); rintro e w85 ⟨rfl, hb⟩; refine ⟨_, rfl, ?_⟩; have n0_ := Aside0.mk (Kd.R_below (by (with_reducible repeat (first | apply Kd.R_alloc | apply Kd.R_drewN | apply Kd.R_drew)); exact (Kd.R_mono (Kd.R_far (p := ⟨gb195, 2, none⟩) (Kd.R_far (p := ⟨gb195, 1, none⟩) (Kd.R_far (p := ⟨gb195, 0, none⟩) (Kd.R_types HO185.out BK195.out (by decide)) (fun _ hk => hk.2) (.int .i64 t189)) (fun _ hk => hk.2) (.slice Ao84 t190.length co84)) (fun _ hk => hk.2) (.string t193)) (fun _ h_ => h_.1))) hb); have n1_ := Aside0.mk (Kd.R_below (by (with_reducible repeat (first | apply Kd.R_alloc | apply Kd.R_drewN | apply Kd.R_drew)); exact (Kd.R_mono (Kd.R_far (p := ⟨gb195, 2, none⟩) (Kd.R_far (p := ⟨gb195, 1, none⟩) (Kd.R_far (p := ⟨gb195, 0, none⟩) (Kd.R_types HO188.out BK195.out (by decide)) (fun _ hk => hk.2) (.int .i64 t189)) (fun _ hk => hk.2) (.slice Ao84 t190.length co84)) (fun _ hk => hk.2) (.string t193)) (fun _ h_ => h_.1))) hb); have n2_ := Aside0.mk (Kd.R_below (by (with_reducible repeat (first | apply Kd.R_alloc | apply Kd.R_drewN | apply Kd.R_drew)); exact (Kd.R_mono (Kd.R_far (p := ⟨gb195, 2, none⟩) (Kd.R_far (p := ⟨gb195, 1, none⟩) (Kd.R_far (p := ⟨gb195, 0, none⟩) (Kd.R_types HO192.out BK195.out (by decide)) (fun _ hk => hk.2) (.int .i64 t189)) (fun _ hk => hk.2) (.slice Ao84 t190.length co84)) (fun _ hk => hk.2) (.string t193)) (fun _ h_ => h_.1))) hb); have n3_ := Aside0.mk (blk_below (g := gb195) (o := .cells #[.int .i64 t189, .slice Ao84 t190.length co84, .string t193] 29 (0, 0)) (by (with_reducible repeat (first | refine blk_drewN ?_ _ | refine blk_drew ?_ | refine blk_alloc ?_ _)); refine blk_put (cs := #[.int .i64 t189, .slice Ao84 t190.length co84, .string (⟨#[]⟩ : ByteArray)]) ?_ 2 _ rfl; (with_reducible repeat (first | refine blk_drewN ?_ _ | refine blk_drew ?_ | refine blk_alloc ?_ _)); refine blk_put (cs := #[.int .i64 t189, .slice none 0 0, .string (⟨#[]⟩ : ByteArray)]) ?_ 1 _ rfl; (with_reducible repeat (first | refine blk_drewN ?_ _ | refine blk_drew ?_ | refine blk_alloc ?_ _)); refine blk_put (cs := #[.int .i64 0, .slice none 0 0, .string (⟨#[]⟩ : ByteArray)]) ?_ 0 _ rfl; (with_reducible repeat (first | refine blk_drewN ?_ _ | refine blk_drew ?_ | refine blk_alloc ?_ _)); exact BK195.out) hb); have n4_ := Aside0.mk (below_step (by repeat (first | (with_reducible first | exact HB.out | apply below_alloc | apply pw_below_drewN | apply below_drew1 | refine below_set ?_ GE195.out) | exact HB.out)) hb); clear HO185; clear HO188; clear HO192; clear BK195; clear HB; have HO185 := n0_; have HO188 := n1_; have HO192 := n2_; have BK195 := n3_; have HB := n4_; clear n0_ n1_ n2_ n3_ n4_; (try clear hb); (try clear hb2); (try clear hk); (try clear hi); have hcz86_0 : w85.cell? ⟨gb195, 0, none⟩ = some (.int .i64 t189) := (blk_cell BK195.out 0).trans rfl; have hcz86_1 : w85.cell? ⟨gb195, 1, none⟩ = some (.slice Ao84 t190.length co84) := (blk_cell BK195.out 1).trans rfl; have hcz86_2 : w85.cell? ⟨gb195, 2, none⟩ = some (.string t193) := (blk_cell BK195.out 2).trans rfl; have hfz86_0 := blk_frozen BK195.out 0; have hfz86_1 := blk_frozen BK195.out 1; have hfz86_2 := blk_frozen BK195.out 2))
      go_ret
      exact ⟨by first | rfl | (simp [errW_none, errW_some] <;> rfl) | (simp [*, errW_none, errW_some] <;> rfl), by repeat (first | (with_reducible first | exact HB.out | apply below_alloc | apply pw_below_drewN | apply below_drew1 | refine below_set ?_ GE195.out) | exact HB.out)⟩
  · rw [if_neg c3] at H
    have c3b0 : (t194 == 0) = false := beq_eq_false_iff_ne.mpr c3
    have c3b1 : (t194 != 0) = true := bne_iff_ne.mpr c3
    obtain rfl := Option.some.inj H
    go_enter Tryd.func9, Tryd.ntmps9
    go_wp2_with (first | ((with_reducible refine gate_dst (N := 6) rfl ?_); refine Kd.R_lit (Kd.int .i64) _ 3 ?hg (N := 6) ?hd (xs := ([2] : List Int)) (inner := [.int .i64 2]) (ok := fun _ => True) (okp := fun _ => True) ?hr ?hp (fun _ hk => hk) trivial (Below.refl _ _) (Nat.le_refl _) (by simp) ?_; (case hd => rfl); (case hg => rfl); (case hr => first | (go_simp; done) | (go_simp; rfl)); (case hp => exact (Reps.one (show Kd.M (Kd.int .i64) _ _ _ 2 [.int .i64 2] from rfl) (Reps.none _ _))); intro v184 w87 ho88 hb hg_ hnew_; clear hg_ hnew_; (first | rw [← Ny183.out] at ho88 | (simp only [Int.reduceToNat] at ho88; rw [← Ny183.out] at ho88)); have n0_ := Aside0.mk (Kd.R_lower ho88 (below_size Bl_)); have n1_ := Aside0.mk (below_step Bl_ hb); clear HB; have HO185 := n0_; have HB := n1_; clear n0_ n1_; clear hb ho88) | ((with_reducible refine gate_dst (N := 7) rfl ?_); refine Kd.R_lit Kd.string _ 9 ?hg (N := 7) ?hd (xs := ([(⟨#[49]⟩ : ByteArray), (⟨#[45, 49]⟩ : ByteArray)] : List ByteArray)) (inner := [.string (⟨#[49]⟩ : ByteArray), .string (⟨#[45, 49]⟩ : ByteArray)]) (ok := fun _ => True) (okp := fun _ => True) ?hr ?hp (fun _ hk => hk) trivial (Below.refl _ _) (Nat.le_refl _) (by simp) ?_; (case hd => rfl); (case hg => rfl); (case hr => first | (go_simp; done) | (go_simp; rfl)); (case hp => exact (Reps.one (show Kd.M Kd.string _ _ _ (⟨#[49]⟩ : ByteArray) [.string (⟨#[49]⟩ : ByteArray)] from rfl) (Reps.one (show Kd.M Kd.string _ _ _ (⟨#[45, 49]⟩ : ByteArray) [.string (⟨#[45, 49]⟩ : ByteArray)] from rfl) (Reps.none _ _)))); intro v187 w89 ho90 hb hg_ hnew_; clear hg_ hnew_; (first | rw [← Ny186.out] at ho90 | (simp only [Int.reduceToNat] at ho90; rw [← Ny186.out] at ho90)); have n0_ := Aside0.mk (Kd.R_below (by (with_reducible repeat (first | apply Kd.R_alloc | apply Kd.R_drewN | apply Kd.R_drew)); exact HO185.out) hb); have n1_ := Aside0.mk (Kd.R_lower ho90 (below_size Bl_)); have n2_ := Aside0.mk (below_step Bl_ hb); clear HO185; clear HB; have HO185 := n0_; have HO188 := n1_; have HB := n2_; clear n0_ n1_ n2_; clear hb ho90; obtain ⟨Ao91, co91, eo91⟩ := Kd.R_slice HO188.out; subst eo91; obtain ⟨Ao92, co92, eo92⟩ := Kd.R_slice HO185.out; subst eo92) | ((with_reducible refine gate_callee (f := 11) rfl ?_); refine goesL_ (some 9) rfl rfl Tryd.func11 (by kernel_rfl) rfl #[.agg #[.slice Ao92 y183.length co92, .slice Ao91 y186.length co91]] rfl Ga_ ?_; (with_reducible refine (typed_Pack.calls k _ _ y183 _ _ y186 t189 t190 t193 t194 _ ?side1 ?side2 ?side3 ?side4 A1.out ?side5).mono ?_); (case side1 => repeat (first | exact (Kd.R_reads' HO185.out).2.2 | (with_reducible refine Kd.C_alloc ?_ _) | (with_reducible refine Kd.C_drewN ?_ _) | (with_reducible refine Kd.C_drew ?_))); (case side2 => exact (Kd.R_reads' HO185.out).2.1); (case side3 => repeat (first | exact (Kd.R_reads' HO188.out).2.2 | (with_reducible refine Kd.C_alloc ?_ _) | (with_reducible refine Kd.C_drewN ?_ _) | (with_reducible refine Kd.C_drew ?_))); (case side4 => exact (Kd.R_reads' HO188.out).2.1); (case side5 => first | exact hG | exact Glob.below hG Bl_); rintro e w93 ⟨v191, rfl, ho0, hb⟩; refine ⟨_, rfl, ?_⟩; have n0_ := Aside0.mk (Kd.R_elder' (by (with_reducible repeat (first | apply Kd.R_alloc | apply Kd.R_drewN | apply Kd.R_drew)); exact HO185.out) (Kd.R_base ho0) hb); have n1_ := Aside0.mk (Kd.R_below (by (with_reducible repeat (first | apply Kd.R_alloc | apply Kd.R_drewN | apply Kd.R_drew)); exact HO188.out) hb); have n2_ := Aside0.mk (Kd.R_lower (Kd.R_new' ho0 (Kd.R_lt (by (with_reducible repeat (first | apply Kd.R_alloc | apply Kd.R_drewN | apply Kd.R_drew)); exact HO185.out))) (below_size Bl_)); have n3_ := Aside0.mk (below_step Bl_ hb); clear HO185; clear HO188; clear HB; have HO185 := n0_; have HO188 := n1_; have HO192 := n2_; have HB := n3_; clear n0_ n1_ n2_ n3_; (try clear hb); (try clear hb2); (try clear hk); (try clear hi); (try clear ho0)) | ((with_reducible refine gate_dst (N := 1) rfl ?_); refine box_event ?hg (N := 1) ?hd (cs := #[.int .i64 0, .slice none 0 0, .string (⟨#[]⟩ : ByteArray)]) (t := 29) ?hr ?_; (case hd => rfl); (case hg => rfl); (case hr => first | (go_simp; done) | (go_simp; rfl)); intro gb195 hg w94 hbox hb; have n0_ := Aside0.mk (Kd.R_below (by (with_reducible repeat (first | apply Kd.R_alloc | apply Kd.R_drewN | apply Kd.R_drew)); exact HO185.out) hb); have n1_ := Aside0.mk (Kd.R_below (by (with_reducible repeat (first | apply Kd.R_alloc | apply Kd.R_drewN | apply Kd.R_drew)); exact HO188.out) hb); have n2_ := Aside0.mk (Kd.R_below (by (with_reducible repeat (first | apply Kd.R_alloc | apply Kd.R_drewN | apply Kd.R_drew)); exact HO192.out) hb); have n3_ := Aside0.mk (below_step Bl_ hb); have n4_ := Aside0.mk (hbox); have n5_ := Aside0.mk ((by rw [hg]; exact (below_size Bl_) : w.heap.size ≤ gb195)); have n6_ := Aside0.mk ((by rw [hg]; exact (below_size Bl_) : w.heap.size ≤ gb195)); clear HO185; clear HO188; clear HO192; clear HB; have HO185 := n0_; have HO188 := n1_; have HO192 := n2_; have HB := n3_; have BK195 := n4_; have GW195 := n5_; have GE195 := n6_; clear n0_ n1_ n2_ n3_ n4_ n5_ n6_; clear hb hbox hg; have hcz95_0 : w94.cell? ⟨gb195, 0, none⟩ = some (.int .i64 0) := (blk_cell BK195.out 0).trans rfl; have hcz95_1 : w94.cell? ⟨gb195, 1, none⟩ = some (.slice none 0 0) := (blk_cell BK195.out 1).trans rfl; have hcz95_2 : w94.cell? ⟨gb195, 2, none⟩ = some (.string (⟨#[]⟩ : ByteArray)) := (blk_cell BK195.out 2).trans rfl; have hfz95_0 := blk_frozen BK195.out 0; have hfz95_1 := blk_frozen BK195.out 1; have hfz95_2 := blk_frozen BK195.out 2; obtain ⟨Ao96, co96, eo96⟩ := Kd.R_slice HO192.out; subst eo96) | ((with_reducible refine gate_callee (f := 19) rfl ?_); refine goesL_ (some 14) rfl rfl Tryd.func19 (by kernel_rfl) rfl #[.agg #[.int .i64 t189, .slice Ao96 t190.length co96, .string t193], .int .i64 1] rfl Ga_ ?_; (with_reducible refine (typed_Typed_At.calls k t189 _ _ t190 t193 1 t196 t197 _ ?side1 ?side2 A2.out).mono ?_); (case side1 => refine (Kd.R_reads' (e := 3) (base := w.heap.size) (ok := fun k_ => (True ∧ some k_ ≠ (.slice Ao92 y183.length co92 : Value).ownBlock)) (n := t190.length) (c := co96) ?_).2.2; exact (by (with_reducible repeat (first | apply Kd.R_alloc | apply Kd.R_drewN | apply Kd.R_drew)); exact (Kd.R_mono (Kd.R_far (p := ⟨gb195, 2, none⟩) (Kd.R_far (p := ⟨gb195, 1, none⟩) (Kd.R_far (p := ⟨gb195, 0, none⟩) (Kd.R_types HO192.out BK195.out (by decide)) (fun _ hk => hk.2) (.int .i64 t189)) (fun _ hk => hk.2) (.slice Ao96 t190.length co96)) (fun _ hk => hk.2) (.string t193)) (fun _ h_ => h_.1)))); (case side2 => exact (Kd.R_reads' HO192.out).2.1); rintro e w97 ⟨rfl, hb⟩; refine ⟨_, rfl, ?_⟩; have n0_ := Aside0.mk (Kd.R_below (by (with_reducible repeat (first | apply Kd.R_alloc | apply Kd.R_drewN | apply Kd.R_drew)); exact (Kd.R_mono (Kd.R_far (p := ⟨gb195, 2, none⟩) (Kd.R_far (p := ⟨gb195, 1, none⟩) (Kd.R_far (p := ⟨gb195, 0, none⟩) (Kd.R_types HO185.out BK195.out (by decide)) (fun _ hk => hk.2) (.int .i64 t189)) (fun _ hk => hk.2) (.slice Ao96 t190.length co96)) (fun _ hk => hk.2) (.string t193)) (fun _ h_ => h_.1))) hb); have n1_ := Aside0.mk (Kd.R_below (by (with_reducible repeat (first | apply Kd.R_alloc | apply Kd.R_drewN | apply Kd.R_drew)); exact (Kd.R_mono (Kd.R_far (p := ⟨gb195, 2, none⟩) (Kd.R_far (p := ⟨gb195, 1, none⟩) (Kd.R_far (p := ⟨gb195, 0, none⟩) (Kd.R_types HO188.out BK195.out (by decide)) (fun _ hk => hk.2) (.int .i64 t189)) (fun _ hk => hk.2) (.slice Ao96 t190.length co96)) (fun _ hk => hk.2) (.string t193)) (fun _ h_ => h_.1))) hb); have n2_ := Aside0.mk (Kd.R_below (by (with_reducible repeat (first | apply Kd.R_alloc | apply Kd.R_drewN | apply Kd.R_drew)); exact (Kd.R_mono (Kd.R_far (p := ⟨gb195, 2, none⟩) (Kd.R_far (p := ⟨gb195, 1, none⟩) (Kd.R_far (p := ⟨gb195, 0, none⟩) (Kd.R_types HO192.out BK195.out (by decide)) (fun _ hk => hk.2) (.int .i64 t189)) (fun _ hk => hk.2) (.slice Ao96 t190.length co96)) (fun _ hk => hk.2) (.string t193)) (fun _ h_ => h_.1))) hb); have n3_ := Aside0.mk (blk_below (g := gb195) (o := .cells #[.int .i64 t189, .slice Ao96 t190.length co96, .string t193] 29 (0, 0)) (by (with_reducible repeat (first | refine blk_drewN ?_ _ | refine blk_drew ?_ | refine blk_alloc ?_ _)); refine blk_put (cs := #[.int .i64 t189, .slice Ao96 t190.length co96, .string (⟨#[]⟩ : ByteArray)]) ?_ 2 _ rfl; (with_reducible repeat (first | refine blk_drewN ?_ _ | refine blk_drew ?_ | refine blk_alloc ?_ _)); refine blk_put (cs := #[.int .i64 t189, .slice none 0 0, .string (⟨#[]⟩ : ByteArray)]) ?_ 1 _ rfl; (with_reducible repeat (first | refine blk_drewN ?_ _ | refine blk_drew ?_ | refine blk_alloc ?_ _)); refine blk_put (cs := #[.int .i64 0, .slice none 0 0, .string (⟨#[]⟩ : ByteArray)]) ?_ 0 _ rfl; (with_reducible repeat (first | refine blk_drewN ?_ _ | refine blk_drew ?_ | refine blk_alloc ?_ _)); exact BK195.out) hb); have n4_ := Aside0.mk (below_step (by repeat (first | (with_reducible first | exact HB.out | apply below_alloc | apply pw_below_drewN | apply below_drew1 | refine below_set ?_ GE195.out) | exact HB.out)) hb); clear HO185; clear HO188; clear HO192; clear BK195; clear HB; have HO185 := n0_; have HO188 := n1_; have HO192 := n2_; have BK195 := n3_; have HB := n4_; clear n0_ n1_ n2_ n3_ n4_; (try clear hb); (try clear hb2); (try clear hk); (try clear hi)))
    go_ret
    exact ⟨by first | rfl | (simp [errW_none, errW_some] <;> rfl) | (simp [*, errW_none, errW_some] <;> rfl), by repeat (first | (with_reducible first | exact HB.out | apply below_alloc | apply pw_below_drewN | apply below_drew1 | refine below_set ?_ GE195.out) | exact HB.out)⟩
/-! ### reredosref04_Few: function 10 -/
mutual
def reredosref04_Few.l0 : Nat → Int → List Int → List ByteArray → Option (Bool)
  | 0, _, _, _ => none
  | k + 1, x3, x201000, x201001 => if x3 < (x201001.length : Int) then (reredosref04_Few.j1 k x3 (decide (x3 < 301)) x201000 x201001) else (reredosref04_Few.j1 k x3 false x201000 x201001)
def reredosref04_Few.j1 : Nat → Int → Bool → List Int → List ByteArray → Option (Bool)
  | 0, _, _, _, _ => none
  | k + 1, x3, x12, x201000, x201001 => if x12 = true then (if 0 ≤ x3 then (if x3 < (x201001.length : Int) then (if ((rdOf ByteArray.empty x201001 x3).size : Int) > 120 then (some false) else (reredosref04_Few.l0 k (wrap64 (x3 + 1)) x201000 x201001)) else (none)) else (none)) else (if (x201001.length : Int) ≤ 300 then (some (decide ((x201000.length : Int) ≤ 20))) else (some false))
end
def reredosref04_Few.f (k : Nat) (l0_0 : List Int) (l0_1 : List ByteArray) : Option (Bool) := reredosref04_Few.l0 k 0 l0_0 l0_1
theorem reredosref04_Few.mono_l : ∀ k, (∀ y0 y1 y2, LeO (reredosref04_Few.l0 k y0 y1 y2) (reredosref04_Few.l0 (k + 1) y0 y1 y2)) ∧ (∀ y0 y1 y2 y3, LeO (reredosref04_Few.j1 k y0 y1 y2 y3) (reredosref04_Few.j1 (k + 1) y0 y1 y2 y3))
  | 0 => ⟨fun _ _ _ r h => by simp [reredosref04_Few.l0] at h, fun _ _ _ _ r h => by simp [reredosref04_Few.j1] at h⟩
  | k + 1 => by
    obtain ⟨ih0, ih1⟩ := reredosref04_Few.mono_l k
    refine ⟨?_, ?_⟩
    · intro y0 y1 y2
      unfold reredosref04_Few.l0
      repeat' first
      | (with_reducible exact ih0 _ _ _)
      | (with_reducible exact ih1 _ _ _ _)
      | (with_reducible exact LeO.refl _)
      | (with_reducible exact LeO.none _)
      | (with_reducible refine LeO.ite ?_ ?_)
      | (with_reducible refine LeO.bind ?_ (fun _ => ?_))
      | exact ih0 _ _ _
      | exact ih1 _ _ _ _
      | exact LeO.none _
      | refine LeO.ite ?_ ?_
      | refine LeO.bind ?_ (fun _ => ?_)
    · intro y0 y1 y2 y3
      unfold reredosref04_Few.j1
      repeat' first
      | (with_reducible exact ih0 _ _ _)
      | (with_reducible exact ih1 _ _ _ _)
      | (with_reducible exact LeO.refl _)
      | (with_reducible exact LeO.none _)
      | (with_reducible refine LeO.ite ?_ ?_)
      | (with_reducible refine LeO.bind ?_ (fun _ => ?_))
      | exact ih0 _ _ _
      | exact ih1 _ _ _ _
      | exact LeO.none _
      | refine LeO.ite ?_ ?_
      | refine LeO.bind ?_ (fun _ => ?_)
theorem reredosref04_Few.mono : ∀ a0 a1 k, LeO (reredosref04_Few.f k a0 a1) (reredosref04_Few.f (k + 1) a0 a1) := by
  intro a0 a1 k
  obtain ⟨ih0, ih1⟩ := reredosref04_Few.mono_l k
  unfold reredosref04_Few.f
  repeat' first
      | (with_reducible exact ih0 _ _ _)
      | (with_reducible exact ih1 _ _ _ _)
      | (with_reducible exact LeO.refl _)
      | (with_reducible exact LeO.none _)
      | (with_reducible refine LeO.ite ?_ ?_)
      | (with_reducible refine LeO.bind ?_ (fun _ => ?_))
      | exact ih0 _ _ _
      | exact ih1 _ _ _ _
      | exact LeO.none _
      | refine LeO.ite ?_ ?_
      | refine LeO.bind ?_ (fun _ => ?_)
set_option maxHeartbeats 8000000 in
set_option maxRecDepth 100000 in
theorem reredosref04_Few.calls (k : Nat) (A0_0 : Option Addr) (c0_0 : Nat) (l0_0 : List Int) (A0_1 : Option Addr) (c0_1 : Nat) (l0_1 : List ByteArray) (r : Bool) (w : World) (hr0_0 : Kd.C (Kd.int .i64) w A0_0 l0_0.length l0_0) (hc0_0 : l0_0.length ≤ c0_0) (hr0_1 : Kd.C Kd.string w A0_1 l0_1.length l0_1) (hc0_1 : l0_1.length ≤ c0_1) (h : reredosref04_Few.f k l0_0 l0_1 = some r) :
    Calls Tryd.prog 10 #[.agg #[.slice A0_0 l0_0.length c0_0, .slice A0_1 l0_1.length c0_1]] w fun e w' => e = .returned (.bool r) ∧ Below w.heap.size w w' := by
  have hu25 := Tryd.underlying25
  have HR0_0 := Aside0.mk hr0_0
  have HC0_0 := Aside0.mk hc0_0
  clear hr0_0 hc0_0
  have HR0_1 := Aside0.mk hr0_1
  have HC0_1 := Aside0.mk hc0_1
  clear hr0_1 hc0_1
  have HB := Aside0.mk (Below.refl w.heap.size w)
  have H : (reredosref04_Few.l0 k 0 l0_0 l0_1) = some r := h
  clear h
  have H' := Aside0.mk H
  clear H
  go_enter Tryd.func10, Tryd.ntmps10
  go_wp2_with (first | ((with_reducible refine gate_dst (N := 1) rfl ?_); (try (refine gate_guard (by rfl) ?_; dsimp only)); refine box_event ?hg (N := 1) ?hd (cs := #[.slice A0_0 l0_0.length c0_0, .slice A0_1 l0_1.length c0_1]) (t := 25) ?hr ?_; (case hd => rfl); (case hg => rfl); (case hr => first | (go_simp; done) | (go_simp; rfl)); intro gb200 hg w2 hbox hb; have n0_ := Aside0.mk (below_step Bl_ hb); have n1_ := Aside0.mk (hbox); have n2_ := Aside0.mk ((by rw [hg]; exact (below_size Bl_) : w.heap.size ≤ gb200)); have n3_ := Aside0.mk ((by rw [hg]; exact (below_size Bl_) : w.heap.size ≤ gb200)); clear HB; have HB := n0_; have BK200 := n1_; have GW200 := n2_; have GE200 := n3_; clear n0_ n1_ n2_ n3_; clear hb hbox hg))
  go_loopg [3] k (fun kq v3 w' => ∃ (x3_1 : Int), v3 = .int .i64 x3_1 ∧ Aside0 (reredosref04_Few.l0 kq x3_1 l0_0 l0_1 = some r) ∧ Aside0 (kq ≤ k) ∧ Aside0 (w'.heap[gb200]? = some (.cells #[(.slice A0_0 l0_0.length c0_0), (.slice A0_1 l0_1.length c0_1)] 25 (0, 0))) ∧ Aside0 (Below w.heap.size w w'))
  case atStart => exact ⟨(0), (by first | rfl | (simp; done) | (simp [*]; done)), H', ⟨Nat.le_refl _⟩, ⟨by (with_reducible repeat (first | refine blk_drewN ?_ _ | refine blk_drew ?_ | refine blk_alloc ?_ _)); exact BK200.out⟩, ⟨by repeat (first | (with_reducible first | exact HB.out | apply below_alloc | apply pw_below_drewN | apply below_drew1 | refine below_set ?_ GE200.out) | exact HB.out)⟩⟩
  case round =>
    clear H'
    try clear c1
    try clear p2
    obtain ⟨x3_1, rfl, HA, HK1, BK200, HB⟩ := hrel
    cases gk with
    | zero => exact absurd HA.out (by simp [reredosref04_Few.l0])
    | succ k1 =>
      have H := HA.out
      clear HA
      simp only [reredosref04_Few.l0] at H
      have HC3 := Aside0.mk H
      clear H
      go_upto_region 2 with (fail)
      go_cut [12] (fun v12 wc => ∃ (kq : Nat) (x12_2 : Bool), v12 = .bool x12_2 ∧ Aside0 (reredosref04_Few.j1 kq x3_1 x12_2 l0_0 l0_1 = some r) ∧ Aside0 (kq ≤ k1) ∧ Aside0 (wc.heap[gb200]? = some (.cells #[(.slice A0_0 l0_0.length c0_0), (.slice A0_1 l0_1.length c0_1)] 25 (0, 0))) ∧ Aside0 (Below w.heap.size w wc))
      case first =>
        have H := HC3.out
        clear HC3
        by_cases c4 : x3_1 < (l0_1.length : Int)
        · rw [if_pos c4] at H
          have c4b0 : decide (x3_1 < (l0_1.length : Int)) = true := decide_eq_true c4
          clear c4
          (first | rw [c4b0] | (simp only [i64_w, i32_w]; rw [c4b0]) | skip)
          have H' := Aside0.mk H
          clear H
          have hcz5_0 : wr.cell? ⟨gb200, 0, none⟩ = some (.slice A0_0 l0_0.length c0_0) := (blk_cell BK200.out 0).trans rfl
          have hcz5_1 : wr.cell? ⟨gb200, 1, none⟩ = some (.slice A0_1 l0_1.length c0_1) := (blk_cell BK200.out 1).trans rfl
          have hfz5_0 := blk_frozen BK200.out 0
          have hfz5_1 := blk_frozen BK200.out 1
          go_wp2
          go_meet
          case rel => exact ⟨_, (decide (x3_1 < 301)), (by first | rfl | (simp; done) | (simp [*]; done)), H', ⟨by have := HK1.out; first | omega | exact Nat.le_refl _⟩, ⟨by (with_reducible repeat (first | refine blk_drewN ?_ _ | refine blk_drew ?_ | refine blk_alloc ?_ _)); exact BK200.out⟩, ⟨by repeat (first | (with_reducible first | exact HB.out | apply below_alloc | apply pw_below_drewN | apply below_drew1 | refine below_set ?_ GE200.out) | exact HB.out)⟩⟩
        · rw [if_neg c4] at H
          have c4b0 : decide (x3_1 < (l0_1.length : Int)) = false := decide_eq_false c4
          clear c4
          (first | rw [c4b0] | (simp only [i64_w, i32_w]; rw [c4b0]) | skip)
          have H' := Aside0.mk H
          clear H
          have hcz6_0 : wr.cell? ⟨gb200, 0, none⟩ = some (.slice A0_0 l0_0.length c0_0) := (blk_cell BK200.out 0).trans rfl
          have hcz6_1 : wr.cell? ⟨gb200, 1, none⟩ = some (.slice A0_1 l0_1.length c0_1) := (blk_cell BK200.out 1).trans rfl
          have hfz6_0 := blk_frozen BK200.out 0
          have hfz6_1 := blk_frozen BK200.out 1
          go_wp2
          go_meet
          case rel => exact ⟨_, (false), (by first | rfl | (simp; done) | (simp [*]; done)), H', ⟨by have := HK1.out; first | omega | exact Nat.le_refl _⟩, ⟨by (with_reducible repeat (first | refine blk_drewN ?_ _ | refine blk_drew ?_ | refine blk_alloc ?_ _)); exact BK200.out⟩, ⟨by repeat (first | (with_reducible first | exact HB.out | apply below_alloc | apply pw_below_drewN | apply below_drew1 | refine below_set ?_ GE200.out) | exact HB.out)⟩⟩
      case rest =>
        clear HC3
        try clear c1
        try clear p2
        try clear c4
        try clear c4b0
        try clear hcz5_0
        try clear hcz5_1
        try clear hcz6_0
        try clear hcz6_1
        try clear hfz5_0
        try clear hfz5_1
        try clear hfz6_0
        try clear hfz6_1
        try clear p2
        obtain ⟨kq, x12_2, rfl, HA, HJ2, BK200, HB⟩ := hcut
        cases kq with
        | zero => exact absurd HA.out (by simp [reredosref04_Few.j1])
        | succ kj2 =>
          have H := HA.out
          clear HA
          simp only [reredosref04_Few.j1] at H
          by_cases c7 : x12_2 = true
          · subst c7
            have H1 : (if 0 ≤ x3_1 then (if x3_1 < (l0_1.length : Int) then (if ((rdOf ByteArray.empty l0_1 x3_1).size : Int) > 120 then (some false) else (reredosref04_Few.l0 kj2 (wrap64 (x3_1 + 1)) l0_0 l0_1)) else (none)) else (none)) = some r := by rw [if_pos rfl] at H; exact H
            clear H
            have H := H1
            clear H1
            by_cases c8 : 0 ≤ x3_1
            · rw [if_pos c8] at H
              have c8b0 : decide (0 ≤ x3_1) = true := decide_eq_true c8
              clear c8
              by_cases c9 : x3_1 < (l0_1.length : Int)
              · rw [if_pos c9] at H
                have c9b0 : decide (x3_1 < (l0_1.length : Int)) = true := decide_eq_true c9
                clear c9
                by_cases c10 : ((rdOf ByteArray.empty l0_1 x3_1).size : Int) > 120
                · rw [if_pos c10] at H
                  have c10b0 : decide (120 < ((rdOf ByteArray.empty l0_1 x3_1).size : Int)) = true := decide_eq_true c10
                  have c10b1 : decide (120 < (rdOf ByteArray.empty l0_1 x3_1).size) = true := decide_eq_true (by omega)
                  clear c10
                  obtain rfl := Option.some.inj H
                  have hcz11_0 : wc.cell? ⟨gb200, 0, none⟩ = some (.slice A0_0 l0_0.length c0_0) := (blk_cell BK200.out 0).trans rfl
                  have hcz11_1 : wc.cell? ⟨gb200, 1, none⟩ = some (.slice A0_1 l0_1.length c0_1) := (blk_cell BK200.out 1).trans rfl
                  have hfz11_0 := blk_frozen BK200.out 0
                  have hfz11_1 := blk_frozen BK200.out 1
                  have p201 : 0 ≤ (x3_1 : Int) := of_decide_eq_true As_
                  have q201 : x3_1 < (l0_1.length : Int) := of_decide_eq_true As_
                  obtain ⟨ad201, e201, hx201_0⟩ := Kd.at_string HR0_1.out x3_1 p201 q201
                  cases e201
                  replace hx201_0 := (HB.out.cell (World.block_lt_of_cell? w _ hx201_0)).trans hx201_0
                  replace p201 := eq_true p201
                  replace q201 := eq_true q201
                  go_wp2
                  go_ret
                  exact ⟨by first | rfl | (simp [errW_none, errW_some] <;> rfl) | (simp [*, errW_none, errW_some] <;> rfl), by repeat (first | (with_reducible first | exact HB.out | apply below_alloc | apply pw_below_drewN | apply below_drew1 | refine below_set ?_ GE200.out) | exact HB.out)⟩
                · rw [if_neg c10] at H
                  have c10b0 : decide (120 < ((rdOf ByteArray.empty l0_1 x3_1).size : Int)) = false := decide_eq_false c10
                  have c10b1 : decide (120 < (rdOf ByteArray.empty l0_1 x3_1).size) = false := decide_eq_false (by omega)
                  clear c10
                  have H' := Aside0.mk H
                  clear H
                  have hcz12_0 : wc.cell? ⟨gb200, 0, none⟩ = some (.slice A0_0 l0_0.length c0_0) := (blk_cell BK200.out 0).trans rfl
                  have hcz12_1 : wc.cell? ⟨gb200, 1, none⟩ = some (.slice A0_1 l0_1.length c0_1) := (blk_cell BK200.out 1).trans rfl
                  have hfz12_0 := blk_frozen BK200.out 0
                  have hfz12_1 := blk_frozen BK200.out 1
                  have p201 : 0 ≤ (x3_1 : Int) := of_decide_eq_true As_
                  have q201 : x3_1 < (l0_1.length : Int) := of_decide_eq_true As_
                  obtain ⟨ad201, e201, hx201_0⟩ := Kd.at_string HR0_1.out x3_1 p201 q201
                  cases e201
                  replace hx201_0 := (HB.out.cell (World.block_lt_of_cell? w _ hx201_0)).trans hx201_0
                  replace p201 := eq_true p201
                  replace q201 := eq_true q201
                  go_wp2
                  go_roundg kj2
                  case measure => have := HK1.out; have := HJ2.out; omega
                  case rel => exact ⟨(wrap64 (x3_1 + 1)), (by first | rfl | (simp; done) | (simp [*]; done)), H', ⟨by have := HK1.out; have := HJ2.out; omega⟩, ⟨by (with_reducible repeat (first | refine blk_drewN ?_ _ | refine blk_drew ?_ | refine blk_alloc ?_ _)); exact BK200.out⟩, ⟨by repeat (first | (with_reducible first | exact HB.out | apply below_alloc | apply pw_below_drewN | apply below_drew1 | refine below_set ?_ GE200.out) | exact HB.out)⟩⟩
              · rw [if_neg c9] at H
                exact absurd H (by simp)
            · rw [if_neg c8] at H
              exact absurd H (by simp)
          · replace c7 := Bool.eq_false_iff.mpr c7
            subst c7
            have H1 : (if (l0_1.length : Int) ≤ 300 then (some (decide ((l0_0.length : Int) ≤ 20))) else (some false)) = some r := by rw [if_neg (show ¬ (false = true) by decide)] at H; exact H
            clear H
            have H := H1
            clear H1
            by_cases c13 : (l0_1.length : Int) ≤ 300
            · rw [if_pos c13] at H
              have c13b0 : decide ((l0_1.length : Int) ≤ 300) = true := decide_eq_true c13
              have c13b1 : decide (l0_1.length ≤ 300) = true := decide_eq_true (by omega)
              clear c13
              obtain rfl := Option.some.inj H
              have hcz14_0 : wc.cell? ⟨gb200, 0, none⟩ = some (.slice A0_0 l0_0.length c0_0) := (blk_cell BK200.out 0).trans rfl
              have hcz14_1 : wc.cell? ⟨gb200, 1, none⟩ = some (.slice A0_1 l0_1.length c0_1) := (blk_cell BK200.out 1).trans rfl
              have hfz14_0 := blk_frozen BK200.out 0
              have hfz14_1 := blk_frozen BK200.out 1
              go_wp2
              go_ret
              exact ⟨by first | rfl | (simp [errW_none, errW_some] <;> rfl) | (simp [*, errW_none, errW_some] <;> rfl), by repeat (first | (with_reducible first | exact HB.out | apply below_alloc | apply pw_below_drewN | apply below_drew1 | refine below_set ?_ GE200.out) | exact HB.out)⟩
            · rw [if_neg c13] at H
              have c13b0 : decide ((l0_1.length : Int) ≤ 300) = false := decide_eq_false c13
              have c13b1 : decide (l0_1.length ≤ 300) = false := decide_eq_false (by omega)
              clear c13
              obtain rfl := Option.some.inj H
              have hcz15_0 : wc.cell? ⟨gb200, 0, none⟩ = some (.slice A0_0 l0_0.length c0_0) := (blk_cell BK200.out 0).trans rfl
              have hcz15_1 : wc.cell? ⟨gb200, 1, none⟩ = some (.slice A0_1 l0_1.length c0_1) := (blk_cell BK200.out 1).trans rfl
              have hfz15_0 := blk_frozen BK200.out 0
              have hfz15_1 := blk_frozen BK200.out 1
              go_wp2
              go_ret
              exact ⟨by first | rfl | (simp [errW_none, errW_some] <;> rfl) | (simp [*, errW_none, errW_some] <;> rfl), by repeat (first | (with_reducible first | exact HB.out | apply below_alloc | apply pw_below_drewN | apply below_drew1 | refine below_set ?_ GE200.out) | exact HB.out)⟩
/-! ### reredosref03_Size: function 75 -/
mutual
def reredosref03_Size.l0 : Nat → List Int → Bool → Int → Option (Int × Int)
  | 0, _, _, _ => none
  | k + 1, x0, x4, x5 => if x5 < (x0.length : Int) then (if 0 ≤ x5 then (if (rd x0 x5) < 0 then (some (0, 5)) else (if x4 = true then (reredosref03_Size.l0 k x0 true (wrap64 (x5 + 1))) else (reredosref03_Size.l0 k x0 ((rd x0 x5) == 0) (wrap64 (x5 + 1))))) else (none)) else (reredosref03_Size.l1 k x0 x4 0)
def reredosref03_Size.l1 : Nat → List Int → Bool → Int → Option (Int × Int)
  | 0, _, _, _ => none
  | k + 1, x0, x4, x6 => if x6 < (x0.length : Int) then (if 0 ≤ x6 then (if (rd x0 x6) > 1099511627776 then (some (0, 8)) else (reredosref03_Size.l1 k x0 x4 (wrap64 (x6 + 1)))) else (none)) else (if x4 = true then (some (0, 0)) else (reredosref03_Size.l2 k x0 1 0))
def reredosref03_Size.l2 : Nat → List Int → Int → Int → Option (Int × Int)
  | 0, _, _, _ => none
  | k + 1, x0, x7, x8 => if x8 < (x0.length : Int) then (if 0 ≤ x8 then (if (rd x0 x8) > 4096 then (some (0, 8)) else (if (wrap64 (x7 * (rd x0 x8))) > 4096 then (some (0, 8)) else (reredosref03_Size.l2 k x0 (wrap64 (x7 * (rd x0 x8))) (wrap64 (x8 + 1))))) else (none)) else (some (x7, 0))
end
def reredosref03_Size.f (k : Nat) (l0 : List Int) : Option (Int × Int) := if (l0.length : Int) > 3 then (some (0, 3)) else (reredosref03_Size.l0 k l0 false 0)
theorem reredosref03_Size.mono_l : ∀ k, (∀ y0 y1 y2, LeO (reredosref03_Size.l0 k y0 y1 y2) (reredosref03_Size.l0 (k + 1) y0 y1 y2)) ∧ (∀ y0 y1 y2, LeO (reredosref03_Size.l1 k y0 y1 y2) (reredosref03_Size.l1 (k + 1) y0 y1 y2)) ∧ (∀ y0 y1 y2, LeO (reredosref03_Size.l2 k y0 y1 y2) (reredosref03_Size.l2 (k + 1) y0 y1 y2))
  | 0 => ⟨fun _ _ _ r h => by simp [reredosref03_Size.l0] at h, fun _ _ _ r h => by simp [reredosref03_Size.l1] at h, fun _ _ _ r h => by simp [reredosref03_Size.l2] at h⟩
  | k + 1 => by
    obtain ⟨ih0, ih1, ih2⟩ := reredosref03_Size.mono_l k
    refine ⟨?_, ?_, ?_⟩
    · intro y0 y1 y2
      unfold reredosref03_Size.l0
      repeat' first
      | (with_reducible exact ih0 _ _ _)
      | (with_reducible exact ih1 _ _ _)
      | (with_reducible exact ih2 _ _ _)
      | (with_reducible exact LeO.refl _)
      | (with_reducible exact LeO.none _)
      | (with_reducible refine LeO.ite ?_ ?_)
      | (with_reducible refine LeO.bind ?_ (fun _ => ?_))
      | exact ih0 _ _ _
      | exact ih1 _ _ _
      | exact ih2 _ _ _
      | exact LeO.none _
      | refine LeO.ite ?_ ?_
      | refine LeO.bind ?_ (fun _ => ?_)
    · intro y0 y1 y2
      unfold reredosref03_Size.l1
      repeat' first
      | (with_reducible exact ih0 _ _ _)
      | (with_reducible exact ih1 _ _ _)
      | (with_reducible exact ih2 _ _ _)
      | (with_reducible exact LeO.refl _)
      | (with_reducible exact LeO.none _)
      | (with_reducible refine LeO.ite ?_ ?_)
      | (with_reducible refine LeO.bind ?_ (fun _ => ?_))
      | exact ih0 _ _ _
      | exact ih1 _ _ _
      | exact ih2 _ _ _
      | exact LeO.none _
      | refine LeO.ite ?_ ?_
      | refine LeO.bind ?_ (fun _ => ?_)
    · intro y0 y1 y2
      unfold reredosref03_Size.l2
      repeat' first
      | (with_reducible exact ih0 _ _ _)
      | (with_reducible exact ih1 _ _ _)
      | (with_reducible exact ih2 _ _ _)
      | (with_reducible exact LeO.refl _)
      | (with_reducible exact LeO.none _)
      | (with_reducible refine LeO.ite ?_ ?_)
      | (with_reducible refine LeO.bind ?_ (fun _ => ?_))
      | exact ih0 _ _ _
      | exact ih1 _ _ _
      | exact ih2 _ _ _
      | exact LeO.none _
      | refine LeO.ite ?_ ?_
      | refine LeO.bind ?_ (fun _ => ?_)
theorem reredosref03_Size.mono : ∀ a0 k, LeO (reredosref03_Size.f k a0) (reredosref03_Size.f (k + 1) a0) := by
  intro a0 k
  obtain ⟨ih0, ih1, ih2⟩ := reredosref03_Size.mono_l k
  unfold reredosref03_Size.f
  repeat' first
      | (with_reducible exact ih0 _ _ _)
      | (with_reducible exact ih1 _ _ _)
      | (with_reducible exact ih2 _ _ _)
      | (with_reducible exact LeO.refl _)
      | (with_reducible exact LeO.none _)
      | (with_reducible refine LeO.ite ?_ ?_)
      | (with_reducible refine LeO.bind ?_ (fun _ => ?_))
      | exact ih0 _ _ _
      | exact ih1 _ _ _
      | exact ih2 _ _ _
      | exact LeO.none _
      | refine LeO.ite ?_ ?_
      | refine LeO.bind ?_ (fun _ => ?_)
set_option maxHeartbeats 8000000 in
set_option maxRecDepth 100000 in
theorem reredosref03_Size.calls (k : Nat) (A0 : Option Addr) (c0 : Nat) (l0 : List Int) (r1 : Int) (r2 : Int) (w : World) (hr0 : Kd.C (Kd.int .i64) w A0 l0.length l0) (hc0 : l0.length ≤ c0) (h : reredosref03_Size.f k l0 = some (r1, r2)) :
    Calls Tryd.prog 75 #[.slice A0 l0.length c0] w fun e w' => e = .returned (.tuple #[.int .i64 r1, .int .i64 r2]) ∧ Drawn0 w w' := by
  have HR0 := Aside0.mk hr0
  have HC0 := Aside0.mk hc0
  clear hr0 hc0
  have H : (if (l0.length : Int) > 3 then (some (0, 3)) else (reredosref03_Size.l0 k l0 false 0)) = some (r1, r2) := h
  clear h
  by_cases c2 : (l0.length : Int) > 3
  · rw [if_pos c2] at H
    have c2b0 : decide (3 < (l0.length : Int)) = true := decide_eq_true c2
    have c2b1 : decide (3 < l0.length) = true := decide_eq_true (by omega)
    clear c2
    simp only [Option.some.injEq, Prod.mk.injEq] at H
    obtain ⟨rfl, rfl⟩ := H
    go_enter Tryd.func75, Tryd.ntmps75
    go_wp2
    go_ret2
    exact ⟨by first | rfl | (simp; done) | (simp [*]; done), by repeat (first | exact Drawn0.refl _ | apply Drawn0.step)⟩
  · rw [if_neg c2] at H
    have c2b0 : decide (3 < (l0.length : Int)) = false := decide_eq_false c2
    have c2b1 : decide (3 < l0.length) = false := decide_eq_false (by omega)
    clear c2
    have H' := Aside0.mk H
    clear H
    go_enter Tryd.func75, Tryd.ntmps75
    go_wp2
    go_loopg [4, 5] k (fun kq v4 v5 w' => ∃ (x4_1 : Bool) (x5_1 : Int), v4 = .bool x4_1 ∧ v5 = .int .i64 x5_1 ∧ Aside0 (reredosref03_Size.l0 kq l0 x4_1 x5_1 = some (r1, r2)) ∧ Aside0 (kq ≤ k) ∧ Drawn0 w w')
    case atStart => exact ⟨(false), (0), (by first | rfl | (simp; done) | (simp [*]; done)), (by first | rfl | (simp; done) | (simp [*]; done)), H', ⟨Nat.le_refl _⟩, by repeat (first | exact Drawn0.refl _ | apply Drawn0.step)⟩
    case round =>
      clear H'
      try clear c2
      try clear c2b0
      try clear c2b1
      try clear p2
      obtain ⟨x4_1, x5_1, rfl, rfl, HA, HK1, ⟨m1, rfl⟩⟩ := hrel
      cases gk with
      | zero => exact absurd HA.out (by simp [reredosref03_Size.l0])
      | succ k1 =>
        have H := HA.out
        clear HA
        simp only [reredosref03_Size.l0] at H
        by_cases c3 : x5_1 < (l0.length : Int)
        · rw [if_pos c3] at H
          have c3b0 : decide (x5_1 < (l0.length : Int)) = true := decide_eq_true c3
          clear c3
          by_cases c4 : 0 ≤ x5_1
          · rw [if_pos c4] at H
            have c4b0 : decide (0 ≤ x5_1) = true := decide_eq_true c4
            clear c4
            by_cases c5 : (rd l0 x5_1) < 0
            · rw [if_pos c5] at H
              have c5b0 : decide ((rd l0 x5_1) < 0) = true := decide_eq_true c5
              clear c5
              simp only [Option.some.injEq, Prod.mk.injEq] at H
              obtain ⟨rfl, rfl⟩ := H
              have p202 : 0 ≤ (x5_1 : Int) := of_decide_eq_true As_
              have q202 : x5_1 < (l0.length : Int) := of_decide_eq_true As_
              obtain ⟨ad202, e202, hx202_0⟩ := Kd.at_int HR0.out x5_1 p202 q202
              cases e202
              replace p202 := eq_true p202
              replace q202 := eq_true q202
              go_wp2
              go_ret2
              exact ⟨by first | rfl | (simp; done) | (simp [*]; done), by repeat (first | exact Drawn0.refl _ | apply Drawn0.step)⟩
            · rw [if_neg c5] at H
              have c5b0 : decide ((rd l0 x5_1) < 0) = false := decide_eq_false c5
              clear c5
              by_cases c6 : x4_1 = true
              · subst c6
                have H1 : (reredosref03_Size.l0 k1 l0 true (wrap64 (x5_1 + 1))) = some (r1, r2) := by rw [if_pos rfl] at H; exact H
                clear H
                have H := H1
                clear H1
                have H' := Aside0.mk H
                clear H
                have p202 : 0 ≤ (x5_1 : Int) := of_decide_eq_true As_
                have q202 : x5_1 < (l0.length : Int) := of_decide_eq_true As_
                obtain ⟨ad202, e202, hx202_0⟩ := Kd.at_int HR0.out x5_1 p202 q202
                cases e202
                replace p202 := eq_true p202
                replace q202 := eq_true q202
                go_wp2
                go_roundg k1
                case measure => have := HK1.out; omega
                case rel => exact ⟨(true), (wrap64 (x5_1 + 1)), (by first | rfl | (simp; done) | (simp [*]; done)), (by first | rfl | (simp; done) | (simp [*]; done)), H', ⟨by have := HK1.out; omega⟩, by repeat (first | exact Drawn0.refl _ | apply Drawn0.step)⟩
              · replace c6 := Bool.eq_false_iff.mpr c6
                subst c6
                have H1 : (reredosref03_Size.l0 k1 l0 ((rd l0 x5_1) == 0) (wrap64 (x5_1 + 1))) = some (r1, r2) := by rw [if_neg (show ¬ (false = true) by decide)] at H; exact H
                clear H
                have H := H1
                clear H1
                have H' := Aside0.mk H
                clear H
                have p202 : 0 ≤ (x5_1 : Int) := of_decide_eq_true As_
                have q202 : x5_1 < (l0.length : Int) := of_decide_eq_true As_
                obtain ⟨ad202, e202, hx202_0⟩ := Kd.at_int HR0.out x5_1 p202 q202
                cases e202
                replace p202 := eq_true p202
                replace q202 := eq_true q202
                have p203 : 0 ≤ (x5_1 : Int) := of_decide_eq_true As_
                have q203 : x5_1 < (l0.length : Int) := of_decide_eq_true As_
                obtain ⟨ad203, e203, hx203_0⟩ := Kd.at_int HR0.out x5_1 p203 q203
                obtain rfl : ad202 = ad203 := (by injection e203)
                replace p203 := eq_true p203
                replace q203 := eq_true q203
                go_wp2
                go_roundg k1
                case measure => have := HK1.out; omega
                case rel => exact ⟨(((rd l0 x5_1) == 0)), (wrap64 (x5_1 + 1)), (by first | rfl | (simp; done) | (simp [*]; done)), (by first | rfl | (simp; done) | (simp [*]; done)), H', ⟨by have := HK1.out; omega⟩, by repeat (first | exact Drawn0.refl _ | apply Drawn0.step)⟩
          · rw [if_neg c4] at H
            exact absurd H (by simp)
        · rw [if_neg c3] at H
          have c3b0 : decide (x5_1 < (l0.length : Int)) = false := decide_eq_false c3
          clear c3
          have H' := Aside0.mk H
          clear H
          go_wp2
          go_loopg [6] k1 (fun kq v6 w' => ∃ (x6_2 : Int), v6 = .int .i64 x6_2 ∧ Aside0 (reredosref03_Size.l1 kq l0 x4_1 x6_2 = some (r1, r2)) ∧ Aside0 (kq ≤ k1) ∧ Drawn0 w w')
          case atStart => exact ⟨(0), (by first | rfl | (simp; done) | (simp [*]; done)), H', ⟨Nat.le_refl _⟩, by repeat (first | exact Drawn0.refl _ | apply Drawn0.step)⟩
          case round =>
            clear H'
            try clear c2
            try clear c2b0
            try clear c2b1
            try clear p2
            try clear q2
            try clear hx2
            try clear c3
            try clear c3b0
            try clear c4
            try clear c4b0
            try clear c5
            try clear c5b0
            try clear c6
            try clear p6
            try clear hx202_0
            try clear hx203_0
            try clear p2
            try clear p202
            try clear p203
            try clear q202
            try clear q203
            obtain ⟨x6_2, rfl, HA, HK2, ⟨m2, rfl⟩⟩ := hrel
            cases gk with
            | zero => exact absurd HA.out (by simp [reredosref03_Size.l1])
            | succ k2 =>
              have H := HA.out
              clear HA
              simp only [reredosref03_Size.l1] at H
              by_cases c7 : x6_2 < (l0.length : Int)
              · rw [if_pos c7] at H
                have c7b0 : decide (x6_2 < (l0.length : Int)) = true := decide_eq_true c7
                clear c7
                by_cases c8 : 0 ≤ x6_2
                · rw [if_pos c8] at H
                  have c8b0 : decide (0 ≤ x6_2) = true := decide_eq_true c8
                  clear c8
                  by_cases c9 : (rd l0 x6_2) > 1099511627776
                  · rw [if_pos c9] at H
                    have c9b0 : decide (1099511627776 < (rd l0 x6_2)) = true := decide_eq_true c9
                    clear c9
                    simp only [Option.some.injEq, Prod.mk.injEq] at H
                    obtain ⟨rfl, rfl⟩ := H
                    have p204 : 0 ≤ (x6_2 : Int) := of_decide_eq_true As_
                    have q204 : x6_2 < (l0.length : Int) := of_decide_eq_true As_
                    obtain ⟨ad204, e204, hx204_0⟩ := Kd.at_int HR0.out x6_2 p204 q204
                    cases e204
                    replace p204 := eq_true p204
                    replace q204 := eq_true q204
                    go_wp2
                    go_ret2
                    exact ⟨by first | rfl | (simp; done) | (simp [*]; done), by repeat (first | exact Drawn0.refl _ | apply Drawn0.step)⟩
                  · rw [if_neg c9] at H
                    have c9b0 : decide (1099511627776 < (rd l0 x6_2)) = false := decide_eq_false c9
                    clear c9
                    have H' := Aside0.mk H
                    clear H
                    have p204 : 0 ≤ (x6_2 : Int) := of_decide_eq_true As_
                    have q204 : x6_2 < (l0.length : Int) := of_decide_eq_true As_
                    obtain ⟨ad204, e204, hx204_0⟩ := Kd.at_int HR0.out x6_2 p204 q204
                    cases e204
                    replace p204 := eq_true p204
                    replace q204 := eq_true q204
                    go_wp2
                    go_roundg k2
                    case measure => have := HK1.out; have := HK2.out; omega
                    case rel => exact ⟨(wrap64 (x6_2 + 1)), (by first | rfl | (simp; done) | (simp [*]; done)), H', ⟨by have := HK1.out; have := HK2.out; omega⟩, by repeat (first | exact Drawn0.refl _ | apply Drawn0.step)⟩
                · rw [if_neg c8] at H
                  exact absurd H (by simp)
              · rw [if_neg c7] at H
                have c7b0 : decide (x6_2 < (l0.length : Int)) = false := decide_eq_false c7
                clear c7
                by_cases c10 : x4_1 = true
                · subst c10
                  have H1 : (some (0, 0)) = some (r1, r2) := by rw [if_pos rfl] at H; exact H
                  clear H
                  have H := H1
                  clear H1
                  simp only [Option.some.injEq, Prod.mk.injEq] at H
                  obtain ⟨rfl, rfl⟩ := H
                  go_wp2
                  go_ret2
                  exact ⟨by first | rfl | (simp; done) | (simp [*]; done), by repeat (first | exact Drawn0.refl _ | apply Drawn0.step)⟩
                · replace c10 := Bool.eq_false_iff.mpr c10
                  subst c10
                  have H1 : (reredosref03_Size.l2 k2 l0 1 0) = some (r1, r2) := by rw [if_neg (show ¬ (false = true) by decide)] at H; exact H
                  clear H
                  have H := H1
                  clear H1
                  have H' := Aside0.mk H
                  clear H
                  go_wp2
                  go_loopg [7, 8] k2 (fun kq v7 v8 w' => ∃ (x7_3 : Int) (x8_3 : Int), v7 = .int .i64 x7_3 ∧ v8 = .int .i64 x8_3 ∧ Aside0 (reredosref03_Size.l2 kq l0 x7_3 x8_3 = some (r1, r2)) ∧ Aside0 (kq ≤ k2) ∧ Drawn0 w w')
                  case atStart => exact ⟨(1), (0), (by first | rfl | (simp; done) | (simp [*]; done)), (by first | rfl | (simp; done) | (simp [*]; done)), H', ⟨Nat.le_refl _⟩, by repeat (first | exact Drawn0.refl _ | apply Drawn0.step)⟩
                  case round =>
                    clear H'
                    try clear c1
                    try clear c2
                    try clear c2b0
                    try clear c2b1
                    try clear p2
                    try clear q2
                    try clear hx2
                    try clear c3
                    try clear c3b0
                    try clear c4
                    try clear c4b0
                    try clear c5
                    try clear c5b0
                    try clear c6
                    try clear p6
                    try clear c7
                    try clear c7b0
                    try clear c8
                    try clear c8b0
                    try clear c9
                    try clear c9b0
                    try clear c10
                    try clear hx202_0
                    try clear hx203_0
                    try clear hx204_0
                    try clear p2
                    try clear p202
                    try clear p203
                    try clear p204
                    try clear p6
                    try clear q2
                    try clear q202
                    try clear q203
                    try clear q204
                    obtain ⟨x7_3, x8_3, rfl, rfl, HA, HK3, ⟨m3, rfl⟩⟩ := hrel
                    cases gk with
                    | zero => exact absurd HA.out (by simp [reredosref03_Size.l2])
                    | succ k3 =>
                      have H := HA.out
                      clear HA
                      simp only [reredosref03_Size.l2] at H
                      by_cases c11 : x8_3 < (l0.length : Int)
                      · rw [if_pos c11] at H
                        have c11b0 : decide (x8_3 < (l0.length : Int)) = true := decide_eq_true c11
                        clear c11
                        by_cases c12 : 0 ≤ x8_3
                        · rw [if_pos c12] at H
                          have c12b0 : decide (0 ≤ x8_3) = true := decide_eq_true c12
                          clear c12
                          by_cases c13 : (rd l0 x8_3) > 4096
                          · rw [if_pos c13] at H
                            have c13b0 : decide (4096 < (rd l0 x8_3)) = true := decide_eq_true c13
                            clear c13
                            simp only [Option.some.injEq, Prod.mk.injEq] at H
                            obtain ⟨rfl, rfl⟩ := H
                            have p205 : 0 ≤ (x8_3 : Int) := of_decide_eq_true As_
                            have q205 : x8_3 < (l0.length : Int) := of_decide_eq_true As_
                            obtain ⟨ad205, e205, hx205_0⟩ := Kd.at_int HR0.out x8_3 p205 q205
                            cases e205
                            replace p205 := eq_true p205
                            replace q205 := eq_true q205
                            go_wp2
                            go_ret2
                            exact ⟨by first | rfl | (simp; done) | (simp [*]; done), by repeat (first | exact Drawn0.refl _ | apply Drawn0.step)⟩
                          · rw [if_neg c13] at H
                            have c13b0 : decide (4096 < (rd l0 x8_3)) = false := decide_eq_false c13
                            clear c13
                            by_cases c14 : (wrap64 (x7_3 * (rd l0 x8_3))) > 4096
                            · rw [if_pos c14] at H
                              have c14b0 : decide (4096 < (wrap64 (x7_3 * (rd l0 x8_3)))) = true := decide_eq_true c14
                              clear c14
                              simp only [Option.some.injEq, Prod.mk.injEq] at H
                              obtain ⟨rfl, rfl⟩ := H
                              have p205 : 0 ≤ (x8_3 : Int) := of_decide_eq_true As_
                              have q205 : x8_3 < (l0.length : Int) := of_decide_eq_true As_
                              obtain ⟨ad205, e205, hx205_0⟩ := Kd.at_int HR0.out x8_3 p205 q205
                              cases e205
                              replace p205 := eq_true p205
                              replace q205 := eq_true q205
                              have p206 : 0 ≤ (x8_3 : Int) := of_decide_eq_true As_
                              have q206 : x8_3 < (l0.length : Int) := of_decide_eq_true As_
                              obtain ⟨ad206, e206, hx206_0⟩ := Kd.at_int HR0.out x8_3 p206 q206
                              obtain rfl : ad205 = ad206 := (by injection e206)
                              replace p206 := eq_true p206
                              replace q206 := eq_true q206
                              go_wp2
                              go_ret2
                              exact ⟨by first | rfl | (simp; done) | (simp [*]; done), by repeat (first | exact Drawn0.refl _ | apply Drawn0.step)⟩
                            · rw [if_neg c14] at H
                              have c14b0 : decide (4096 < (wrap64 (x7_3 * (rd l0 x8_3)))) = false := decide_eq_false c14
                              clear c14
                              have H' := Aside0.mk H
                              clear H
                              have p205 : 0 ≤ (x8_3 : Int) := of_decide_eq_true As_
                              have q205 : x8_3 < (l0.length : Int) := of_decide_eq_true As_
                              obtain ⟨ad205, e205, hx205_0⟩ := Kd.at_int HR0.out x8_3 p205 q205
                              cases e205
                              replace p205 := eq_true p205
                              replace q205 := eq_true q205
                              have p206 : 0 ≤ (x8_3 : Int) := of_decide_eq_true As_
                              have q206 : x8_3 < (l0.length : Int) := of_decide_eq_true As_
                              obtain ⟨ad206, e206, hx206_0⟩ := Kd.at_int HR0.out x8_3 p206 q206
                              obtain rfl : ad205 = ad206 := (by injection e206)
                              replace p206 := eq_true p206
                              replace q206 := eq_true q206
                              have p207 : 0 ≤ (x8_3 : Int) := of_decide_eq_true As_
                              have q207 : x8_3 < (l0.length : Int) := of_decide_eq_true As_
                              obtain ⟨ad207, e207, hx207_0⟩ := Kd.at_int HR0.out x8_3 p207 q207
                              obtain rfl : ad205 = ad207 := (by injection e207)
                              replace p207 := eq_true p207
                              replace q207 := eq_true q207
                              go_wp2
                              go_roundg k3
                              case measure => have := HK1.out; have := HK2.out; have := HK3.out; omega
                              case rel => exact ⟨(wrap64 (x7_3 * (rd l0 x8_3))), (wrap64 (x8_3 + 1)), (by first | rfl | (simp; done) | (simp [*]; done)), (by first | rfl | (simp; done) | (simp [*]; done)), H', ⟨by have := HK1.out; have := HK2.out; have := HK3.out; omega⟩, by repeat (first | exact Drawn0.refl _ | apply Drawn0.step)⟩
                        · rw [if_neg c12] at H
                          exact absurd H (by simp)
                      · rw [if_neg c11] at H
                        have c11b0 : decide (x8_3 < (l0.length : Int)) = false := decide_eq_false c11
                        clear c11
                        simp only [Option.some.injEq, Prod.mk.injEq] at H
                        obtain ⟨rfl, rfl⟩ := H
                        go_wp2
                        go_ret2
                        exact ⟨by first | rfl | (simp; done) | (simp [*]; done), by repeat (first | exact Drawn0.refl _ | apply Drawn0.step)⟩
/-! ### reredosref01_May: function 76 -/
mutual
def reredosref01_May.j0 : Nat → ByteArray → Int → Bool → Option (Bool)
  | 0, _, _, _ => none
  | k + 1, x0, x3, x13 => if x13 = true then (reredosref01_May.j1 k x0 1) else (reredosref01_May.j1 k x0 x3)
def reredosref01_May.j1 : Nat → ByteArray → Int → Option (Bool)
  | 0, _, _ => none
  | k + 1, x0, x3 => if (wrap64 ((x0.size : Int) - x3)) < 1 then (reredosref01_May.j2 k x0 x3 true) else (if (wrap64 ((x0.size : Int) - x3)) > 100 then (reredosref01_May.j2 k x0 x3 true) else (if 0 ≤ x3 then (if x3 < (x0.size : Int) then (reredosref01_May.j2 k x0 x3 ((bt x0 x3) == 48)) else (none)) else (none)))
def reredosref01_May.j2 : Nat → ByteArray → Int → Bool → Option (Bool)
  | 0, _, _, _ => none
  | k + 1, x0, x3, x31 => if x31 = true then (some false) else (reredosref01_May.l0 k x0 x3)
def reredosref01_May.l0 : Nat → ByteArray → Int → Option (Bool)
  | 0, _, _ => none
  | k + 1, x0, x4 => if x4 < (x0.size : Int) then (if 0 ≤ x4 then (if (bt x0 x4) < 48 then (some false) else (if (bt x0 x4) > 57 then (some false) else (reredosref01_May.l0 k x0 (wrap64 (x4 + 1))))) else (none)) else (some true)
end
def reredosref01_May.f (k : Nat) (a0 : ByteArray) : Option (Bool) := if a0.toList = ([48] : List UInt8) then (some true) else (if a0.toList = ([] : List UInt8) then (reredosref01_May.j0 k a0 0 false) else (if 0 < (a0.size : Int) then (reredosref01_May.j0 k a0 0 ((bt a0 0) == 45)) else (none)))
theorem reredosref01_May.mono_l : ∀ k, (∀ y0 y1 y2, LeO (reredosref01_May.j0 k y0 y1 y2) (reredosref01_May.j0 (k + 1) y0 y1 y2)) ∧ (∀ y0 y1, LeO (reredosref01_May.j1 k y0 y1) (reredosref01_May.j1 (k + 1) y0 y1)) ∧ (∀ y0 y1 y2, LeO (reredosref01_May.j2 k y0 y1 y2) (reredosref01_May.j2 (k + 1) y0 y1 y2)) ∧ (∀ y0 y1, LeO (reredosref01_May.l0 k y0 y1) (reredosref01_May.l0 (k + 1) y0 y1))
  | 0 => ⟨fun _ _ _ r h => by simp [reredosref01_May.j0] at h, fun _ _ r h => by simp [reredosref01_May.j1] at h, fun _ _ _ r h => by simp [reredosref01_May.j2] at h, fun _ _ r h => by simp [reredosref01_May.l0] at h⟩
  | k + 1 => by
    obtain ⟨ih0, ih1, ih2, ih3⟩ := reredosref01_May.mono_l k
    refine ⟨?_, ?_, ?_, ?_⟩
    · intro y0 y1 y2
      unfold reredosref01_May.j0
      repeat' first
      | (with_reducible exact ih0 _ _ _)
      | (with_reducible exact ih1 _ _)
      | (with_reducible exact ih2 _ _ _)
      | (with_reducible exact ih3 _ _)
      | (with_reducible exact LeO.refl _)
      | (with_reducible exact LeO.none _)
      | (with_reducible refine LeO.ite ?_ ?_)
      | (with_reducible refine LeO.bind ?_ (fun _ => ?_))
      | exact ih0 _ _ _
      | exact ih1 _ _
      | exact ih2 _ _ _
      | exact ih3 _ _
      | exact LeO.none _
      | refine LeO.ite ?_ ?_
      | refine LeO.bind ?_ (fun _ => ?_)
    · intro y0 y1
      unfold reredosref01_May.j1
      repeat' first
      | (with_reducible exact ih0 _ _ _)
      | (with_reducible exact ih1 _ _)
      | (with_reducible exact ih2 _ _ _)
      | (with_reducible exact ih3 _ _)
      | (with_reducible exact LeO.refl _)
      | (with_reducible exact LeO.none _)
      | (with_reducible refine LeO.ite ?_ ?_)
      | (with_reducible refine LeO.bind ?_ (fun _ => ?_))
      | exact ih0 _ _ _
      | exact ih1 _ _
      | exact ih2 _ _ _
      | exact ih3 _ _
      | exact LeO.none _
      | refine LeO.ite ?_ ?_
      | refine LeO.bind ?_ (fun _ => ?_)
    · intro y0 y1 y2
      unfold reredosref01_May.j2
      repeat' first
      | (with_reducible exact ih0 _ _ _)
      | (with_reducible exact ih1 _ _)
      | (with_reducible exact ih2 _ _ _)
      | (with_reducible exact ih3 _ _)
      | (with_reducible exact LeO.refl _)
      | (with_reducible exact LeO.none _)
      | (with_reducible refine LeO.ite ?_ ?_)
      | (with_reducible refine LeO.bind ?_ (fun _ => ?_))
      | exact ih0 _ _ _
      | exact ih1 _ _
      | exact ih2 _ _ _
      | exact ih3 _ _
      | exact LeO.none _
      | refine LeO.ite ?_ ?_
      | refine LeO.bind ?_ (fun _ => ?_)
    · intro y0 y1
      unfold reredosref01_May.l0
      repeat' first
      | (with_reducible exact ih0 _ _ _)
      | (with_reducible exact ih1 _ _)
      | (with_reducible exact ih2 _ _ _)
      | (with_reducible exact ih3 _ _)
      | (with_reducible exact LeO.refl _)
      | (with_reducible exact LeO.none _)
      | (with_reducible refine LeO.ite ?_ ?_)
      | (with_reducible refine LeO.bind ?_ (fun _ => ?_))
      | exact ih0 _ _ _
      | exact ih1 _ _
      | exact ih2 _ _ _
      | exact ih3 _ _
      | exact LeO.none _
      | refine LeO.ite ?_ ?_
      | refine LeO.bind ?_ (fun _ => ?_)
theorem reredosref01_May.mono : ∀ a0 k, LeO (reredosref01_May.f k a0) (reredosref01_May.f (k + 1) a0) := by
  intro a0 k
  obtain ⟨ih0, ih1, ih2, ih3⟩ := reredosref01_May.mono_l k
  unfold reredosref01_May.f
  repeat' first
      | (with_reducible exact ih0 _ _ _)
      | (with_reducible exact ih1 _ _)
      | (with_reducible exact ih2 _ _ _)
      | (with_reducible exact ih3 _ _)
      | (with_reducible exact LeO.refl _)
      | (with_reducible exact LeO.none _)
      | (with_reducible refine LeO.ite ?_ ?_)
      | (with_reducible refine LeO.bind ?_ (fun _ => ?_))
      | exact ih0 _ _ _
      | exact ih1 _ _
      | exact ih2 _ _ _
      | exact ih3 _ _
      | exact LeO.none _
      | refine LeO.ite ?_ ?_
      | refine LeO.bind ?_ (fun _ => ?_)
set_option maxHeartbeats 8000000 in
set_option maxRecDepth 100000 in
theorem reredosref01_May.calls (k : Nat) (a0 : ByteArray) (r : Bool) (w : World) (h : reredosref01_May.f k a0 = some r) :
    Calls Tryd.prog 76 #[.string a0] w fun e w' => e = .returned (.bool r) ∧ Drawn0 w w' := by
  have H : (if a0.toList = ([48] : List UInt8) then (some true) else (if a0.toList = ([] : List UInt8) then (reredosref01_May.j0 k a0 0 false) else (if 0 < (a0.size : Int) then (reredosref01_May.j0 k a0 0 ((bt a0 0) == 45)) else (none)))) = some r := h
  clear h
  by_cases c2 : a0.toList = ([48] : List UInt8)
  · rw [if_pos c2] at H
    have c2b0 : (a0.toList == ([48] : List UInt8)) = true := beq_iff_eq.mpr c2
    have c2b1 : (a0.toList != ([48] : List UInt8)) = false := bne_eq_false_iff_eq.mpr c2
    clear c2
    obtain rfl := Option.some.inj H
    go_enter Tryd.func76, Tryd.ntmps76
    go_wp2
    go_ret
    exact ⟨by first | rfl | (simp; done) | (simp [*]; done), by repeat (first | exact Drawn0.refl _ | apply Drawn0.step)⟩
  · rw [if_neg c2] at H
    have c2b0 : (a0.toList == ([48] : List UInt8)) = false := beq_eq_false_iff_ne.mpr c2
    have c2b1 : (a0.toList != ([48] : List UInt8)) = true := bne_iff_ne.mpr c2
    have HC3 := Aside0.mk H
    clear H
    go_enter Tryd.func76, Tryd.ntmps76
    go_upto_region 4 with (fail)
    go_cut [13] (fun v13 wc => ∃ (kq : Nat) (x13_2 : Bool), v13 = .bool x13_2 ∧ Aside0 (reredosref01_May.j0 kq a0 0 x13_2 = some r) ∧ Aside0 (kq ≤ k) ∧ Drawn0 w wc)
    case first =>
      have H := HC3.out
      clear HC3
      by_cases c4 : a0.toList = ([] : List UInt8)
      · rw [if_pos c4] at H
        have c4b0 : (a0.toList == ([] : List UInt8)) = true := beq_iff_eq.mpr c4
        have c4b1 : (a0.toList != ([] : List UInt8)) = false := bne_eq_false_iff_eq.mpr c4
        clear c4
        (first | rw [c4b0] | (simp only [i64_w, i32_w]; rw [c4b0]) | skip)
        have H' := Aside0.mk H
        clear H
        go_wp2
        go_meet
        case rel => exact ⟨_, (false), (by first | rfl | (simp; done) | (simp [*]; done)), H', ⟨by first | omega | exact Nat.le_refl _⟩, by repeat (first | exact Drawn0.refl _ | apply Drawn0.step)⟩
      · rw [if_neg c4] at H
        have c4b0 : (a0.toList == ([] : List UInt8)) = false := beq_eq_false_iff_ne.mpr c4
        have c4b1 : (a0.toList != ([] : List UInt8)) = true := bne_iff_ne.mpr c4
        (first | rw [c4b0] | (simp only [i64_w, i32_w]; rw [c4b0]) | skip)
        by_cases c5 : 0 < (a0.size : Int)
        · rw [if_pos c5] at H
          have c5b0 : decide (0 < (a0.size : Int)) = true := decide_eq_true c5
          have c5b1 : decide (0 < a0.size) = true := decide_eq_true (by omega)
          clear c5
          have H' := Aside0.mk H
          clear H
          have p6 : 0 ≤ (0 : Int) := (by omega)
          have q6 : 0 < a0.size := (by have : (0 : Int) < (a0.size : Int) := of_decide_eq_true As_; omega)
          have hx6 : ∀ h : 0 < a0.size, ((a0[0]'h).toNat : Int) = bt a0 0 := bt_at a0 0
          clear p6
          have qi6 : (0 < (a0.size : Int)) = True := eq_true (of_decide_eq_true As_)
          replace q6 := eq_true q6
          go_wp2
          go_meet
          case rel => exact ⟨_, (((bt a0 0) == 45)), (by first | rfl | (simp; done) | (simp [*]; done)), H', ⟨by first | omega | exact Nat.le_refl _⟩, by repeat (first | exact Drawn0.refl _ | apply Drawn0.step)⟩
        · rw [if_neg c5] at H
          exact absurd H (by simp)
    case rest =>
      clear HC3
      try clear c2
      try clear c2b0
      try clear c2b1
      try clear p2
      try clear c4
      try clear c4b0
      try clear c4b1
      try clear c5
      try clear c5b0
      try clear c5b1
      try clear p6
      try clear q6
      try clear hx6
      try clear qi6
      try clear p6
      try clear q6
      obtain ⟨kq, x13_2, rfl, HA, HJ2, ⟨mc2, rfl⟩⟩ := hcut
      cases kq with
      | zero => exact absurd HA.out (by simp [reredosref01_May.j0])
      | succ kj2 =>
        have H := HA.out
        clear HA
        simp only [reredosref01_May.j0] at H
        have HC7 := Aside0.mk H
        clear H
        go_upto_if 13 with (fail)
        go_cut [3] (fun v3 wc => ∃ (kq : Nat) (x3_6 : Int), v3 = .int .i64 x3_6 ∧ Aside0 (reredosref01_May.j1 kq a0 x3_6 = some r) ∧ Aside0 (kq ≤ kj2) ∧ Drawn0 w wc)
        case first =>
          have H := HC7.out
          clear HC7
          by_cases c8 : x13_2 = true
          · subst c8
            have H1 : (reredosref01_May.j1 kj2 a0 1) = some r := by rw [if_pos rfl] at H; exact H
            clear H
            have H := H1
            clear H1
            have H' := Aside0.mk H
            clear H
            go_wp2
            go_meet
            case rel => exact ⟨_, (1), (by first | rfl | (simp; done) | (simp [*]; done)), H', ⟨by have := HJ2.out; first | omega | exact Nat.le_refl _⟩, by repeat (first | exact Drawn0.refl _ | apply Drawn0.step)⟩
          · replace c8 := Bool.eq_false_iff.mpr c8
            subst c8
            have H1 : (reredosref01_May.j1 kj2 a0 0) = some r := by rw [if_neg (show ¬ (false = true) by decide)] at H; exact H
            clear H
            have H := H1
            clear H1
            have H' := Aside0.mk H
            clear H
            go_wp2
            go_meet
            case rel => exact ⟨_, (0), (by first | rfl | (simp; done) | (simp [*]; done)), H', ⟨by have := HJ2.out; first | omega | exact Nat.le_refl _⟩, by repeat (first | exact Drawn0.refl _ | apply Drawn0.step)⟩
        case rest =>
          clear HC7
          try clear c2
          try clear c2b0
          try clear c2b1
          try clear p2
          try clear c4
          try clear c4b0
          try clear c4b1
          try clear c5
          try clear c5b0
          try clear c5b1
          try clear p6
          try clear q6
          try clear hx6
          try clear qi6
          try clear c7
          try clear c8
          try clear p2
          try clear p6
          try clear q6
          obtain ⟨kq, x3_6, rfl, HA, HJ6, ⟨mc6, rfl⟩⟩ := hcut
          cases kq with
          | zero => exact absurd HA.out (by simp [reredosref01_May.j1])
          | succ kj6 =>
            have H := HA.out
            clear HA
            simp only [reredosref01_May.j1] at H
            have HC9 := Aside0.mk H
            clear H
            go_upto_region 6 with (fail)
            go_cut [31] (fun v31 wc => ∃ (kq : Nat) (x31_8 : Bool), v31 = .bool x31_8 ∧ Aside0 (reredosref01_May.j2 kq a0 x3_6 x31_8 = some r) ∧ Aside0 (kq ≤ kj6) ∧ Drawn0 w wc)
            case first =>
              have H := HC9.out
              clear HC9
              by_cases c10 : (wrap64 ((a0.size : Int) - x3_6)) < 1
              · rw [if_pos c10] at H
                have c10b0 : decide ((wrap64 ((a0.size : Int) - x3_6)) < 1) = true := decide_eq_true c10
                clear c10
                (first | rw [c10b0] | (simp only [i64_w, i32_w]; rw [c10b0]) | skip)
                have H' := Aside0.mk H
                clear H
                go_wp2
                go_meet
                case rel => exact ⟨_, (true), (by first | rfl | (simp; done) | (simp [*]; done)), H', ⟨by have := HJ2.out; have := HJ6.out; first | omega | exact Nat.le_refl _⟩, by repeat (first | exact Drawn0.refl _ | apply Drawn0.step)⟩
              · rw [if_neg c10] at H
                have c10b0 : decide ((wrap64 ((a0.size : Int) - x3_6)) < 1) = false := decide_eq_false c10
                clear c10
                (first | rw [c10b0] | (simp only [i64_w, i32_w]; rw [c10b0]) | skip)
                by_cases c11 : (wrap64 ((a0.size : Int) - x3_6)) > 100
                · rw [if_pos c11] at H
                  have c11b0 : decide (100 < (wrap64 ((a0.size : Int) - x3_6))) = true := decide_eq_true c11
                  clear c11
                  have H' := Aside0.mk H
                  clear H
                  go_wp2
                  go_meet
                  case rel => exact ⟨_, (true), (by first | rfl | (simp; done) | (simp [*]; done)), H', ⟨by have := HJ2.out; have := HJ6.out; first | omega | exact Nat.le_refl _⟩, by repeat (first | exact Drawn0.refl _ | apply Drawn0.step)⟩
                · rw [if_neg c11] at H
                  have c11b0 : decide (100 < (wrap64 ((a0.size : Int) - x3_6))) = false := decide_eq_false c11
                  clear c11
                  by_cases c12 : 0 ≤ x3_6
                  · rw [if_pos c12] at H
                    have c12b0 : decide (0 ≤ x3_6) = true := decide_eq_true c12
                    clear c12
                    by_cases c13 : x3_6 < (a0.size : Int)
                    · rw [if_pos c13] at H
                      have c13b0 : decide (x3_6 < (a0.size : Int)) = true := decide_eq_true c13
                      clear c13
                      have H' := Aside0.mk H
                      clear H
                      have p14 : 0 ≤ (x3_6 : Int) := of_decide_eq_true As_
                      have q14 : x3_6 < (a0.size : Int) := of_decide_eq_true As_
                      have hx14 := bt_at a0 x3_6
                      replace p14 := eq_true p14
                      replace q14 := eq_true q14
                      go_wp2
                      go_meet
                      case rel => exact ⟨_, (((bt a0 x3_6) == 48)), (by first | rfl | (simp; done) | (simp [*]; done)), H', ⟨by have := HJ2.out; have := HJ6.out; first | omega | exact Nat.le_refl _⟩, by repeat (first | exact Drawn0.refl _ | apply Drawn0.step)⟩
                    · rw [if_neg c13] at H
                      exact absurd H (by simp)
                  · rw [if_neg c12] at H
                    exact absurd H (by simp)
            case rest =>
              clear HC9
              try clear c1
              try clear p1
              try clear q1
              try clear hx1
              try clear c2
              try clear c2b0
              try clear c2b1
              try clear p2
              try clear c4
              try clear c4b0
              try clear c4b1
              try clear c5
              try clear c5b0
              try clear c5b1
              try clear c6
              try clear p6
              try clear q6
              try clear hx6
              try clear qi6
              try clear c7
              try clear c8
              try clear c10
              try clear c10b0
              try clear c11
              try clear c11b0
              try clear c12
              try clear c12b0
              try clear c13
              try clear c13b0
              try clear p14
              try clear q14
              try clear hx14
              try clear p14
              try clear p2
              try clear p6
              try clear q14
              try clear q6
              obtain ⟨kq, x31_8, rfl, HA, HJ8, ⟨mc8, rfl⟩⟩ := hcut
              cases kq with
              | zero => exact absurd HA.out (by simp [reredosref01_May.j2])
              | succ kj8 =>
                have H := HA.out
                clear HA
                simp only [reredosref01_May.j2] at H
                by_cases c15 : x31_8 = true
                · subst c15
                  have H1 : (some false) = some r := by rw [if_pos rfl] at H; exact H
                  clear H
                  have H := H1
                  clear H1
                  obtain rfl := Option.some.inj H
                  go_wp2
                  go_ret
                  exact ⟨by first | rfl | (simp; done) | (simp [*]; done), by repeat (first | exact Drawn0.refl _ | apply Drawn0.step)⟩
                · replace c15 := Bool.eq_false_iff.mpr c15
                  subst c15
                  have H1 : (reredosref01_May.l0 kj8 a0 x3_6) = some r := by rw [if_neg (show ¬ (false = true) by decide)] at H; exact H
                  clear H
                  have H := H1
                  clear H1
                  have H' := Aside0.mk H
                  clear H
                  go_wp2
                  go_loopg [4] kj8 (fun kq v4 w' => ∃ (x4_4 : Int), v4 = .int .i64 x4_4 ∧ Aside0 (reredosref01_May.l0 kq a0 x4_4 = some r) ∧ Aside0 (kq ≤ kj8) ∧ Drawn0 w w')
                  case atStart => exact ⟨(x3_6), (by first | rfl | (simp; done) | (simp [*]; done)), H', ⟨Nat.le_refl _⟩, by repeat (first | exact Drawn0.refl _ | apply Drawn0.step)⟩
                  case round =>
                    clear H'
                    try clear c1
                    try clear p1
                    try clear q1
                    try clear hx1
                    try clear c2
                    try clear c2b0
                    try clear c2b1
                    try clear p2
                    try clear c4
                    try clear c4b0
                    try clear c4b1
                    try clear c5
                    try clear c5b0
                    try clear c5b1
                    try clear c6
                    try clear p6
                    try clear q6
                    try clear hx6
                    try clear qi6
                    try clear c7
                    try clear c8
                    try clear c10
                    try clear c10b0
                    try clear c11
                    try clear c11b0
                    try clear c12
                    try clear c12b0
                    try clear c13
                    try clear c13b0
                    try clear p14
                    try clear q14
                    try clear hx14
                    try clear c15
                    try clear p1
                    try clear p14
                    try clear p2
                    try clear p6
                    try clear q1
                    try clear q14
                    try clear q6
                    obtain ⟨x4_4, rfl, HA, HK4, ⟨m4, rfl⟩⟩ := hrel
                    cases gk with
                    | zero => exact absurd HA.out (by simp [reredosref01_May.l0])
                    | succ k4 =>
                      have H := HA.out
                      clear HA
                      simp only [reredosref01_May.l0] at H
                      by_cases c16 : x4_4 < (a0.size : Int)
                      · rw [if_pos c16] at H
                        have c16b0 : decide (x4_4 < (a0.size : Int)) = true := decide_eq_true c16
                        clear c16
                        by_cases c17 : 0 ≤ x4_4
                        · rw [if_pos c17] at H
                          have c17b0 : decide (0 ≤ x4_4) = true := decide_eq_true c17
                          clear c17
                          by_cases c19 : (bt a0 x4_4) < 48
                          · rw [if_pos c19] at H
                            have c19b0 : decide ((bt a0 x4_4) < 48) = true := decide_eq_true c19
                            clear c19
                            obtain rfl := Option.some.inj H
                            have p18 : 0 ≤ (x4_4 : Int) := of_decide_eq_true As_
                            have q18 : x4_4 < (a0.size : Int) := of_decide_eq_true As_
                            have hx18 := bt_at a0 x4_4
                            replace p18 := eq_true p18
                            replace q18 := eq_true q18
                            go_wp2
                            go_ret
                            exact ⟨by first | rfl | (simp; done) | (simp [*]; done), by repeat (first | exact Drawn0.refl _ | apply Drawn0.step)⟩
                          · rw [if_neg c19] at H
                            have c19b0 : decide ((bt a0 x4_4) < 48) = false := decide_eq_false c19
                            clear c19
                            by_cases c21 : (bt a0 x4_4) > 57
                            · rw [if_pos c21] at H
                              have c21b0 : decide (57 < (bt a0 x4_4)) = true := decide_eq_true c21
                              clear c21
                              obtain rfl := Option.some.inj H
                              have p18 : 0 ≤ (x4_4 : Int) := of_decide_eq_true As_
                              have q18 : x4_4 < (a0.size : Int) := of_decide_eq_true As_
                              have hx18 := bt_at a0 x4_4
                              replace p18 := eq_true p18
                              replace q18 := eq_true q18
                              have p20 : 0 ≤ (x4_4 : Int) := of_decide_eq_true As_
                              have q20 : x4_4 < (a0.size : Int) := of_decide_eq_true As_
                              have hx20 := bt_at a0 x4_4
                              replace p20 := eq_true p20
                              replace q20 := eq_true q20
                              go_wp2
                              go_ret
                              exact ⟨by first | rfl | (simp; done) | (simp [*]; done), by repeat (first | exact Drawn0.refl _ | apply Drawn0.step)⟩
                            · rw [if_neg c21] at H
                              have c21b0 : decide (57 < (bt a0 x4_4)) = false := decide_eq_false c21
                              clear c21
                              have H' := Aside0.mk H
                              clear H
                              have p18 : 0 ≤ (x4_4 : Int) := of_decide_eq_true As_
                              have q18 : x4_4 < (a0.size : Int) := of_decide_eq_true As_
                              have hx18 := bt_at a0 x4_4
                              replace p18 := eq_true p18
                              replace q18 := eq_true q18
                              have p20 : 0 ≤ (x4_4 : Int) := of_decide_eq_true As_
                              have q20 : x4_4 < (a0.size : Int) := of_decide_eq_true As_
                              have hx20 := bt_at a0 x4_4
                              replace p20 := eq_true p20
                              replace q20 := eq_true q20
                              go_wp2
                              go_roundg k4
                              case measure => have := HJ2.out; have := HJ6.out; have := HJ8.out; have := HK4.out; omega
                              case rel => exact ⟨(wrap64 (x4_4 + 1)), (by first | rfl | (simp; done) | (simp [*]; done)), H', ⟨by have := HJ2.out; have := HJ6.out; have := HJ8.out; have := HK4.out; omega⟩, by repeat (first | exact Drawn0.refl _ | apply Drawn0.step)⟩
                        · rw [if_neg c17] at H
                          exact absurd H (by simp)
                      · rw [if_neg c16] at H
                        have c16b0 : decide (x4_4 < (a0.size : Int)) = false := decide_eq_false c16
                        clear c16
                        obtain rfl := Option.some.inj H
                        go_wp2
                        go_ret
                        exact ⟨by first | rfl | (simp; done) | (simp [*]; done), by repeat (first | exact Drawn0.refl _ | apply Drawn0.step)⟩
/-! ### reredosref04_May: function 39 -/
mutual
def reredosref04_May.j0 : Nat → Bool → List Int → List ByteArray → Option (Bool)
  | 0, _, _, _ => none
  | k + 1, x20, x209000, x209001 => if x20 = true then (some false) else (reredosref04_May.l0 k 0 x209000 x209001)
def reredosref04_May.l0 : Nat → Int → List Int → List ByteArray → Option (Bool)
  | 0, _, _, _ => none
  | k + 1, x5, x209000, x209001 => if x5 < (x209001.length : Int) then (if 0 ≤ x5 then ((reredosref01_May.f k (rdOf ByteArray.empty x209001 x5)).bind fun t212 => (if t212 = true then (reredosref04_May.l0 k (wrap64 (x5 + 1)) x209000 x209001) else (some false))) else (none)) else (some true)
end
def reredosref04_May.f (k : Nat) (l0_0 : List Int) (l0_1 : List ByteArray) : Option (Bool) := (reredosref03_Size.f k l0_0).bind fun bt209 => (if bt209.2 = 0 then (reredosref04_May.j0 k (bt209.1 != (l0_1.length : Int)) l0_0 l0_1) else (reredosref04_May.j0 k true l0_0 l0_1))
theorem reredosref04_May.mono_l : ∀ k, (∀ y0 y1 y2, LeO (reredosref04_May.j0 k y0 y1 y2) (reredosref04_May.j0 (k + 1) y0 y1 y2)) ∧ (∀ y0 y1 y2, LeO (reredosref04_May.l0 k y0 y1 y2) (reredosref04_May.l0 (k + 1) y0 y1 y2))
  | 0 => ⟨fun _ _ _ r h => by simp [reredosref04_May.j0] at h, fun _ _ _ r h => by simp [reredosref04_May.l0] at h⟩
  | k + 1 => by
    obtain ⟨ih0, ih1⟩ := reredosref04_May.mono_l k
    refine ⟨?_, ?_⟩
    · intro y0 y1 y2
      unfold reredosref04_May.j0
      repeat' first
      | (with_reducible exact ih0 _ _ _)
      | (with_reducible exact ih1 _ _ _)
      | (with_reducible exact reredosref01_May.mono _ _)
      | (with_reducible exact reredosref03_Size.mono _ _)
      | (with_reducible exact LeO.refl _)
      | (with_reducible exact LeO.none _)
      | (with_reducible refine LeO.ite ?_ ?_)
      | (with_reducible refine LeO.bind ?_ (fun _ => ?_))
      | exact ih0 _ _ _
      | exact ih1 _ _ _
      | exact reredosref01_May.mono _ _
      | exact reredosref03_Size.mono _ _
      | exact LeO.none _
      | refine LeO.ite ?_ ?_
      | refine LeO.bind ?_ (fun _ => ?_)
    · intro y0 y1 y2
      unfold reredosref04_May.l0
      repeat' first
      | (with_reducible exact ih0 _ _ _)
      | (with_reducible exact ih1 _ _ _)
      | (with_reducible exact reredosref01_May.mono _ _)
      | (with_reducible exact reredosref03_Size.mono _ _)
      | (with_reducible exact LeO.refl _)
      | (with_reducible exact LeO.none _)
      | (with_reducible refine LeO.ite ?_ ?_)
      | (with_reducible refine LeO.bind ?_ (fun _ => ?_))
      | exact ih0 _ _ _
      | exact ih1 _ _ _
      | exact reredosref01_May.mono _ _
      | exact reredosref03_Size.mono _ _
      | exact LeO.none _
      | refine LeO.ite ?_ ?_
      | refine LeO.bind ?_ (fun _ => ?_)
theorem reredosref04_May.mono : ∀ a0 a1 k, LeO (reredosref04_May.f k a0 a1) (reredosref04_May.f (k + 1) a0 a1) := by
  intro a0 a1 k
  obtain ⟨ih0, ih1⟩ := reredosref04_May.mono_l k
  unfold reredosref04_May.f
  repeat' first
      | (with_reducible exact ih0 _ _ _)
      | (with_reducible exact ih1 _ _ _)
      | (with_reducible exact reredosref01_May.mono _ _)
      | (with_reducible exact reredosref03_Size.mono _ _)
      | (with_reducible exact LeO.refl _)
      | (with_reducible exact LeO.none _)
      | (with_reducible refine LeO.ite ?_ ?_)
      | (with_reducible refine LeO.bind ?_ (fun _ => ?_))
      | exact ih0 _ _ _
      | exact ih1 _ _ _
      | exact reredosref01_May.mono _ _
      | exact reredosref03_Size.mono _ _
      | exact LeO.none _
      | refine LeO.ite ?_ ?_
      | refine LeO.bind ?_ (fun _ => ?_)
set_option maxHeartbeats 8000000 in
set_option maxRecDepth 100000 in
theorem reredosref04_May.calls (k : Nat) (A0_0 : Option Addr) (c0_0 : Nat) (l0_0 : List Int) (A0_1 : Option Addr) (c0_1 : Nat) (l0_1 : List ByteArray) (r : Bool) (w : World) (hr0_0 : Kd.C (Kd.int .i64) w A0_0 l0_0.length l0_0) (hc0_0 : l0_0.length ≤ c0_0) (hr0_1 : Kd.C Kd.string w A0_1 l0_1.length l0_1) (hc0_1 : l0_1.length ≤ c0_1) (h : reredosref04_May.f k l0_0 l0_1 = some r) :
    Calls Tryd.prog 39 #[.agg #[.slice A0_0 l0_0.length c0_0, .slice A0_1 l0_1.length c0_1]] w fun e w' => e = .returned (.bool r) ∧ Below w.heap.size w w' := by
  have hu25 := Tryd.underlying25
  have HR0_0 := Aside0.mk hr0_0
  have HC0_0 := Aside0.mk hc0_0
  clear hr0_0 hc0_0
  have HR0_1 := Aside0.mk hr0_1
  have HC0_1 := Aside0.mk hc0_1
  clear hr0_1 hc0_1
  have HB := Aside0.mk (Below.refl w.heap.size w)
  have H : ((reredosref03_Size.f k l0_0).bind fun bt209 => (if bt209.2 = 0 then (reredosref04_May.j0 k (bt209.1 != (l0_1.length : Int)) l0_0 l0_1) else (reredosref04_May.j0 k true l0_0 l0_1))) = some r := h
  clear h
  replace H := Option.bind_eq_some_iff.mp H
  obtain ⟨⟨t209, t210⟩, A20, H⟩ := H
  replace H : (if t210 = 0 then (reredosref04_May.j0 k (t209 != (l0_1.length : Int)) l0_0 l0_1) else (reredosref04_May.j0 k true l0_0 l0_1)) = some r := H
  have A2 := Aside0.mk A20
  clear A20
  have HC3 := Aside0.mk H
  clear H
  go_enter Tryd.func39, Tryd.ntmps39
  go_upto_region 2 with (first | ((with_reducible refine gate_dst (N := 1) rfl ?_); (try (refine gate_guard (by rfl) ?_; dsimp only)); refine box_event ?hg (N := 1) ?hd (cs := #[.slice A0_0 l0_0.length c0_0, .slice A0_1 l0_1.length c0_1]) (t := 25) ?hr ?_; (case hd => rfl); (case hg => rfl); (case hr => first | (go_simp; done) | (go_simp; rfl)); intro gb208 hg w4 hbox hb; have n0_ := Aside0.mk (below_step Bl_ hb); have n1_ := Aside0.mk (hbox); have n2_ := Aside0.mk ((by rw [hg]; exact (below_size Bl_) : w.heap.size ≤ gb208)); have n3_ := Aside0.mk ((by rw [hg]; exact (below_size Bl_) : w.heap.size ≤ gb208)); clear HB; have HB := n0_; have BK208 := n1_; have GW208 := n2_; have GE208 := n3_; clear n0_ n1_ n2_ n3_; clear hb hbox hg; have hcz5_0 : w4.cell? ⟨gb208, 0, none⟩ = some (.slice A0_0 l0_0.length c0_0) := (blk_cell BK208.out 0).trans rfl; have hcz5_1 : w4.cell? ⟨gb208, 1, none⟩ = some (.slice A0_1 l0_1.length c0_1) := (blk_cell BK208.out 1).trans rfl; have hfz5_0 := blk_frozen BK208.out 0; have hfz5_1 := blk_frozen BK208.out 1) | ((with_reducible refine gate_callee (f := 75) rfl ?_); refine goesL_ (some 9) rfl rfl Tryd.func75 (by kernel_rfl) rfl #[.slice A0_0 l0_0.length c0_0] rfl Ga_ ?_; (with_reducible refine (reredosref03_Size.calls k _ _ l0_0 t209 t210 _ ?side1 ?side2 A2.out).mono ?_); (case side1 => repeat (first | exact (Kd.C_below HR0_0.out HB.out) | (with_reducible refine Kd.C_alloc ?_ _) | (with_reducible refine Kd.C_drewN ?_ _) | (with_reducible refine Kd.C_drew ?_))); (case side2 => exact HC0_0.out); rintro e w' ⟨rfl, ⟨nd, rfl⟩⟩; refine ⟨_, rfl, ?_⟩))
  (try simp only [Act.put, List.setIfInBounds_toArray, List.set_cons_zero, List.set_cons_succ])
  go_cut [20] (fun v20 wc => ∃ (kq : Nat) (x20_2 : Bool), v20 = .bool x20_2 ∧ Aside0 (reredosref04_May.j0 kq x20_2 l0_0 l0_1 = some r) ∧ Aside0 (kq ≤ k) ∧ Aside0 (wc.heap[gb208]? = some (.cells #[(.slice A0_0 l0_0.length c0_0), (.slice A0_1 l0_1.length c0_1)] 25 (0, 0))) ∧ Aside0 (Below w.heap.size w wc))
  case first =>
    have H := HC3.out
    clear HC3
    by_cases c6 : t210 = 0
    · rw [if_pos c6] at H
      have c6b0 : (t210 == 0) = true := beq_iff_eq.mpr c6
      have c6b1 : (t210 != 0) = false := bne_eq_false_iff_eq.mpr c6
      clear c6
      (first | rw [c6b0] | (simp only [i64_w, i32_w]; rw [c6b0]) | skip)
      have H' := Aside0.mk H
      clear H
      have hcz7_0 : w4.cell? ⟨gb208, 0, none⟩ = some (.slice A0_0 l0_0.length c0_0) := (blk_cell BK208.out 0).trans rfl
      have hcz7_1 : w4.cell? ⟨gb208, 1, none⟩ = some (.slice A0_1 l0_1.length c0_1) := (blk_cell BK208.out 1).trans rfl
      have hfz7_0 := blk_frozen BK208.out 0
      have hfz7_1 := blk_frozen BK208.out 1
      go_wp2
      go_meet
      case rel => exact ⟨_, ((t209 != (l0_1.length : Int))), (by first | rfl | (simp; done) | (simp [*]; done)), H', ⟨by first | omega | exact Nat.le_refl _⟩, ⟨by (with_reducible repeat (first | refine blk_drewN ?_ _ | refine blk_drew ?_ | refine blk_alloc ?_ _)); exact BK208.out⟩, ⟨by repeat (first | (with_reducible first | exact HB.out | apply below_alloc | apply pw_below_drewN | apply below_drew1 | refine below_set ?_ GE208.out) | exact HB.out)⟩⟩
    · rw [if_neg c6] at H
      have c6b0 : (t210 == 0) = false := beq_eq_false_iff_ne.mpr c6
      have c6b1 : (t210 != 0) = true := bne_iff_ne.mpr c6
      (first | rw [c6b0] | (simp only [i64_w, i32_w]; rw [c6b0]) | skip)
      have H' := Aside0.mk H
      clear H
      go_wp2
      go_meet
      case rel => exact ⟨_, (true), (by first | rfl | (simp; done) | (simp [*]; done)), H', ⟨by first | omega | exact Nat.le_refl _⟩, ⟨by (with_reducible repeat (first | refine blk_drewN ?_ _ | refine blk_drew ?_ | refine blk_alloc ?_ _)); exact BK208.out⟩, ⟨by repeat (first | (with_reducible first | exact HB.out | apply below_alloc | apply pw_below_drewN | apply below_drew1 | refine below_set ?_ GE208.out) | exact HB.out)⟩⟩
  case rest =>
    clear HC3
    try clear p2
    try clear c3
    try clear c6
    try clear c6b0
    try clear c6b1
    try clear c7
    try clear hcz5_0
    try clear hcz5_1
    try clear hcz7_0
    try clear hcz7_1
    try clear hfz5_0
    try clear hfz5_1
    try clear hfz7_0
    try clear hfz7_1
    obtain ⟨kq, x20_2, rfl, HA, HJ2, BK208, HB⟩ := hcut
    cases kq with
    | zero => exact absurd HA.out (by simp [reredosref04_May.j0])
    | succ kj2 =>
      have H := HA.out
      clear HA
      simp only [reredosref04_May.j0] at H
      by_cases c8 : x20_2 = true
      · subst c8
        have H1 : (some false) = some r := by rw [if_pos rfl] at H; exact H
        clear H
        have H := H1
        clear H1
        obtain rfl := Option.some.inj H
        go_wp2
        go_ret
        exact ⟨by first | rfl | (simp [errW_none, errW_some] <;> rfl) | (simp [*, errW_none, errW_some] <;> rfl), by repeat (first | (with_reducible first | exact HB.out | apply below_alloc | apply pw_below_drewN | apply below_drew1 | refine below_set ?_ GE208.out) | exact HB.out)⟩
      · replace c8 := Bool.eq_false_iff.mpr c8
        subst c8
        have H1 : (reredosref04_May.l0 kj2 0 l0_0 l0_1) = some r := by rw [if_neg (show ¬ (false = true) by decide)] at H; exact H
        clear H
        have H := H1
        clear H1
        have H' := Aside0.mk H
        clear H
        go_wp2
        go_loopg [5] kj2 (fun kq v5 w' => ∃ (x5_2 : Int), v5 = .int .i64 x5_2 ∧ Aside0 (reredosref04_May.l0 kq x5_2 l0_0 l0_1 = some r) ∧ Aside0 (kq ≤ kj2) ∧ Aside0 (w'.heap[gb208]? = some (.cells #[(.slice A0_0 l0_0.length c0_0), (.slice A0_1 l0_1.length c0_1)] 25 (0, 0))) ∧ Aside0 (Below w.heap.size w w'))
        case atStart => exact ⟨(0), (by first | rfl | (simp; done) | (simp [*]; done)), H', ⟨Nat.le_refl _⟩, ⟨by (with_reducible repeat (first | refine blk_drewN ?_ _ | refine blk_drew ?_ | refine blk_alloc ?_ _)); exact BK208.out⟩, ⟨by repeat (first | (with_reducible first | exact HB.out | apply below_alloc | apply pw_below_drewN | apply below_drew1 | refine below_set ?_ GE208.out) | exact HB.out)⟩⟩
        case round =>
          clear H'
          try clear p2
          try clear c3
          try clear c6
          try clear c6b0
          try clear c6b1
          try clear c7
          try clear c8
          try clear hcz5_0
          try clear hcz5_1
          try clear hcz7_0
          try clear hcz7_1
          try clear hfz5_0
          try clear hfz5_1
          try clear hfz7_0
          try clear hfz7_1
          try clear p2
          obtain ⟨x5_2, rfl, HA, HK2, BK208, HB⟩ := hrel
          cases gk with
          | zero => exact absurd HA.out (by simp [reredosref04_May.l0])
          | succ k2 =>
            have H := HA.out
            clear HA
            simp only [reredosref04_May.l0] at H
            by_cases c9 : x5_2 < (l0_1.length : Int)
            · rw [if_pos c9] at H
              have c9b0 : decide (x5_2 < (l0_1.length : Int)) = true := decide_eq_true c9
              clear c9
              by_cases c10 : 0 ≤ x5_2
              · rw [if_pos c10] at H
                have c10b0 : decide (0 ≤ x5_2) = true := decide_eq_true c10
                clear c10
                replace H := Option.bind_eq_some_iff.mp H
                obtain ⟨t212, A110, H⟩ := H
                replace H : (if t212 = true then (reredosref04_May.l0 k2 (wrap64 (x5_2 + 1)) l0_0 l0_1) else (some false)) = some r := H
                have A11 := Aside0.mk A110
                clear A110
                by_cases c12 : t212 = true
                · subst c12
                  have H1 : (reredosref04_May.l0 k2 (wrap64 (x5_2 + 1)) l0_0 l0_1) = some r := by rw [if_pos rfl] at H; exact H
                  clear H
                  have H := H1
                  clear H1
                  have H' := Aside0.mk H
                  clear H
                  have hcz13_0 : wr.cell? ⟨gb208, 0, none⟩ = some (.slice A0_0 l0_0.length c0_0) := (blk_cell BK208.out 0).trans rfl
                  have hcz13_1 : wr.cell? ⟨gb208, 1, none⟩ = some (.slice A0_1 l0_1.length c0_1) := (blk_cell BK208.out 1).trans rfl
                  have hfz13_0 := blk_frozen BK208.out 0
                  have hfz13_1 := blk_frozen BK208.out 1
                  have p211 : 0 ≤ (x5_2 : Int) := of_decide_eq_true As_
                  have q211 : x5_2 < (l0_1.length : Int) := of_decide_eq_true As_
                  obtain ⟨ad211, e211, hx211_0⟩ := Kd.at_string HR0_1.out x5_2 p211 q211
                  cases e211
                  replace hx211_0 := (HB.out.cell (World.block_lt_of_cell? w _ hx211_0)).trans hx211_0
                  replace p211 := eq_true p211
                  replace q211 := eq_true q211
                  go_wp2_with (first | ((with_reducible refine gate_callee (f := 76) rfl ?_); refine goesL_ (some 33) rfl rfl Tryd.func76 (by kernel_rfl) rfl #[.string (rdOf ByteArray.empty l0_1 x5_2)] rfl Ga_ ?_; (with_reducible refine (reredosref01_May.calls k2 (rdOf ByteArray.empty l0_1 x5_2) true _ A11.out).mono ?_); rintro e w' ⟨rfl, ⟨nd, rfl⟩⟩; refine ⟨_, rfl, ?_⟩))
                  go_roundg k2
                  case measure => have := HJ2.out; have := HK2.out; omega
                  case rel => exact ⟨(wrap64 (x5_2 + 1)), (by first | rfl | (simp; done) | (simp [*]; done)), H', ⟨by have := HJ2.out; have := HK2.out; omega⟩, ⟨by (with_reducible repeat (first | refine blk_drewN ?_ _ | refine blk_drew ?_ | refine blk_alloc ?_ _)); exact BK208.out⟩, ⟨by repeat (first | (with_reducible first | exact HB.out | apply below_alloc | apply pw_below_drewN | apply below_drew1 | refine below_set ?_ GE208.out) | exact HB.out)⟩⟩
                · replace c12 := Bool.eq_false_iff.mpr c12
                  subst c12
                  have H1 : (some false) = some r := by rw [if_neg (show ¬ (false = true) by decide)] at H; exact H
                  clear H
                  have H := H1
                  clear H1
                  obtain rfl := Option.some.inj H
                  have hcz14_0 : wr.cell? ⟨gb208, 0, none⟩ = some (.slice A0_0 l0_0.length c0_0) := (blk_cell BK208.out 0).trans rfl
                  have hcz14_1 : wr.cell? ⟨gb208, 1, none⟩ = some (.slice A0_1 l0_1.length c0_1) := (blk_cell BK208.out 1).trans rfl
                  have hfz14_0 := blk_frozen BK208.out 0
                  have hfz14_1 := blk_frozen BK208.out 1
                  have p211 : 0 ≤ (x5_2 : Int) := of_decide_eq_true As_
                  have q211 : x5_2 < (l0_1.length : Int) := of_decide_eq_true As_
                  obtain ⟨ad211, e211, hx211_0⟩ := Kd.at_string HR0_1.out x5_2 p211 q211
                  cases e211
                  replace hx211_0 := (HB.out.cell (World.block_lt_of_cell? w _ hx211_0)).trans hx211_0
                  replace p211 := eq_true p211
                  replace q211 := eq_true q211
                  go_wp2_with (first | ((with_reducible refine gate_callee (f := 76) rfl ?_); refine goesL_ (some 33) rfl rfl Tryd.func76 (by kernel_rfl) rfl #[.string (rdOf ByteArray.empty l0_1 x5_2)] rfl Ga_ ?_; (with_reducible refine (reredosref01_May.calls k2 (rdOf ByteArray.empty l0_1 x5_2) false _ A11.out).mono ?_); rintro e w' ⟨rfl, ⟨nd, rfl⟩⟩; refine ⟨_, rfl, ?_⟩))
                  go_ret
                  exact ⟨by first | rfl | (simp [errW_none, errW_some] <;> rfl) | (simp [*, errW_none, errW_some] <;> rfl), by repeat (first | (with_reducible first | exact HB.out | apply below_alloc | apply pw_below_drewN | apply below_drew1 | refine below_set ?_ GE208.out) | exact HB.out)⟩
              · rw [if_neg c10] at H
                exact absurd H (by simp)
            · rw [if_neg c9] at H
              have c9b0 : decide (x5_2 < (l0_1.length : Int)) = false := decide_eq_false c9
              clear c9
              obtain rfl := Option.some.inj H
              have hcz15_0 : wr.cell? ⟨gb208, 0, none⟩ = some (.slice A0_0 l0_0.length c0_0) := (blk_cell BK208.out 0).trans rfl
              have hcz15_1 : wr.cell? ⟨gb208, 1, none⟩ = some (.slice A0_1 l0_1.length c0_1) := (blk_cell BK208.out 1).trans rfl
              have hfz15_0 := blk_frozen BK208.out 0
              have hfz15_1 := blk_frozen BK208.out 1
              go_wp2
              go_ret
              exact ⟨by first | rfl | (simp [errW_none, errW_some] <;> rfl) | (simp [*, errW_none, errW_some] <;> rfl), by repeat (first | (with_reducible first | exact HB.out | apply below_alloc | apply pw_below_drewN | apply below_drew1 | refine below_set ?_ GE208.out) | exact HB.out)⟩
/-! ### reredosref01_low: function 105 -/
def reredosref01_low.f (a0 : ByteArray) : Option (Bool) := if a0.toList = ([] : List UInt8) then (some false) else (if 0 < (a0.size : Int) then (some ((bt a0 0) == 45)) else (none))
set_option maxHeartbeats 8000000 in
set_option maxRecDepth 100000 in
theorem reredosref01_low.calls (a0 : ByteArray) (r : Bool) (w : World) (h : reredosref01_low.f a0 = some r) :
    Calls Tryd.prog 105 #[.string a0] w fun e w' => e = .returned (.bool r) ∧ Drawn0 w w' := by
  have H : (if a0.toList = ([] : List UInt8) then (some false) else (if 0 < (a0.size : Int) then (some ((bt a0 0) == 45)) else (none))) = some r := h
  clear h
  by_cases c2 : a0.toList = ([] : List UInt8)
  · rw [if_pos c2] at H
    have c2b0 : (a0.toList == ([] : List UInt8)) = true := beq_iff_eq.mpr c2
    have c2b1 : (a0.toList != ([] : List UInt8)) = false := bne_eq_false_iff_eq.mpr c2
    clear c2
    obtain rfl := Option.some.inj H
    go_enter Tryd.func105, Tryd.ntmps105
    go_wp2
    go_ret
    exact ⟨by first | rfl | (simp; done) | (simp [*]; done), by repeat (first | exact Drawn0.refl _ | apply Drawn0.step)⟩
  · rw [if_neg c2] at H
    have c2b0 : (a0.toList == ([] : List UInt8)) = false := beq_eq_false_iff_ne.mpr c2
    have c2b1 : (a0.toList != ([] : List UInt8)) = true := bne_iff_ne.mpr c2
    by_cases c3 : 0 < (a0.size : Int)
    · rw [if_pos c3] at H
      have c3b0 : decide (0 < (a0.size : Int)) = true := decide_eq_true c3
      have c3b1 : decide (0 < a0.size) = true := decide_eq_true (by omega)
      clear c3
      obtain rfl := Option.some.inj H
      have p4 : 0 ≤ (0 : Int) := (by omega)
      have q4 : 0 < a0.size := (by have : (0 : Int) < (a0.size : Int) := of_decide_eq_true As_; omega)
      have hx4 : ∀ h : 0 < a0.size, ((a0[0]'h).toNat : Int) = bt a0 0 := bt_at a0 0
      clear p4
      have qi4 : (0 < (a0.size : Int)) = True := eq_true (of_decide_eq_true As_)
      replace q4 := eq_true q4
      go_enter Tryd.func105, Tryd.ntmps105
      go_wp2
      go_ret
      exact ⟨by first | rfl | (simp; done) | (simp [*]; done), by repeat (first | exact Drawn0.refl _ | apply Drawn0.step)⟩
    · rw [if_neg c3] at H
      exact absurd H (by simp)
/-! ### reredosref01_Sign: function 124 -/
def reredosref01_Sign.j0 : Nat → ByteArray → Bool → Option (Int)
  | 0, _, _ => none
  | k + 1, x0, x9 => if x9 = true then (some 0) else ((reredosref01_low.f x0).bind fun t214 => (if t214 = true then (some (-1)) else (some 1)))
def reredosref01_Sign.f (k : Nat) (a0 : ByteArray) : Option (Int) := (reredosref01_May.f k a0).bind fun t213 => (if t213 = true then (reredosref01_Sign.j0 k a0 (a0.toList == ([48] : List UInt8))) else (reredosref01_Sign.j0 k a0 true))
theorem reredosref01_Sign.mono_l : ∀ k, (∀ y0 y1, LeO (reredosref01_Sign.j0 k y0 y1) (reredosref01_Sign.j0 (k + 1) y0 y1))
  | 0 => fun _ _ r h => by simp [reredosref01_Sign.j0] at h
  | k + 1 => by
    have ih0 := reredosref01_Sign.mono_l k
    · intro y0 y1
      unfold reredosref01_Sign.j0
      repeat' first
      | (with_reducible exact ih0 _ _)
      | (with_reducible exact reredosref01_May.mono _ _)
      | (with_reducible exact LeO.refl _)
      | (with_reducible exact LeO.none _)
      | (with_reducible refine LeO.ite ?_ ?_)
      | (with_reducible refine LeO.bind ?_ (fun _ => ?_))
      | exact ih0 _ _
      | exact reredosref01_May.mono _ _
      | exact LeO.none _
      | refine LeO.ite ?_ ?_
      | refine LeO.bind ?_ (fun _ => ?_)
theorem reredosref01_Sign.mono : ∀ a0 k, LeO (reredosref01_Sign.f k a0) (reredosref01_Sign.f (k + 1) a0) := by
  intro a0 k
  have ih0 := reredosref01_Sign.mono_l k
  unfold reredosref01_Sign.f
  repeat' first
      | (with_reducible exact ih0 _ _)
      | (with_reducible exact reredosref01_May.mono _ _)
      | (with_reducible exact LeO.refl _)
      | (with_reducible exact LeO.none _)
      | (with_reducible refine LeO.ite ?_ ?_)
      | (with_reducible refine LeO.bind ?_ (fun _ => ?_))
      | exact ih0 _ _
      | exact reredosref01_May.mono _ _
      | exact LeO.none _
      | refine LeO.ite ?_ ?_
      | refine LeO.bind ?_ (fun _ => ?_)
set_option maxHeartbeats 8000000 in
set_option maxRecDepth 100000 in
theorem reredosref01_Sign.calls (k : Nat) (a0 : ByteArray) (r : Int) (w : World) (h : reredosref01_Sign.f k a0 = some r) :
    Calls Tryd.prog 124 #[.string a0] w fun e w' => e = .returned (.int .i64 r) ∧ Drawn0 w w' := by
  have H : ((reredosref01_May.f k a0).bind fun t213 => (if t213 = true then (reredosref01_Sign.j0 k a0 (a0.toList == ([48] : List UInt8))) else (reredosref01_Sign.j0 k a0 true))) = some r := h
  clear h
  have HC2 := Aside0.mk H
  clear H
  go_enter Tryd.func124, Tryd.ntmps124
  go_upto_region 1 with (fail)
  go_cut [9] (fun v9 wc => ∃ (kq : Nat) (x9_1 : Bool), v9 = .bool x9_1 ∧ Aside0 (reredosref01_Sign.j0 kq a0 x9_1 = some r) ∧ Aside0 (kq ≤ k) ∧ Drawn0 w wc)
  case first =>
    have H := HC2.out
    clear HC2
    replace H := Option.bind_eq_some_iff.mp H
    obtain ⟨t213, A30, H⟩ := H
    replace H : (if t213 = true then (reredosref01_Sign.j0 k a0 (a0.toList == ([48] : List UInt8))) else (reredosref01_Sign.j0 k a0 true)) = some r := H
    have A3 := Aside0.mk A30
    clear A30
    by_cases c4 : t213 = true
    · subst c4
      have H1 : (reredosref01_Sign.j0 k a0 (a0.toList == ([48] : List UInt8))) = some r := by rw [if_pos rfl] at H; exact H
      clear H
      have H := H1
      clear H1
      have H' := Aside0.mk H
      clear H
      go_wp2_with (first | ((with_reducible refine gate_callee (f := 76) rfl ?_); refine goesL_ (some 4) rfl rfl Tryd.func76 (by kernel_rfl) rfl #[.string a0] rfl Ga_ ?_; (with_reducible refine (reredosref01_May.calls k a0 true _ A3.out).mono ?_); rintro e w' ⟨rfl, ⟨nd, rfl⟩⟩; refine ⟨_, rfl, ?_⟩))
      go_meet
      case rel => exact ⟨_, ((a0.toList == ([48] : List UInt8))), (by first | rfl | (simp; done) | (simp [*]; done)), H', ⟨by first | omega | exact Nat.le_refl _⟩, by repeat (first | exact Drawn0.refl _ | apply Drawn0.step)⟩
    · replace c4 := Bool.eq_false_iff.mpr c4
      subst c4
      have H1 : (reredosref01_Sign.j0 k a0 true) = some r := by rw [if_neg (show ¬ (false = true) by decide)] at H; exact H
      clear H
      have H := H1
      clear H1
      have H' := Aside0.mk H
      clear H
      go_wp2_with (first | ((with_reducible refine gate_callee (f := 76) rfl ?_); refine goesL_ (some 4) rfl rfl Tryd.func76 (by kernel_rfl) rfl #[.string a0] rfl Ga_ ?_; (with_reducible refine (reredosref01_May.calls k a0 false _ A3.out).mono ?_); rintro e w' ⟨rfl, ⟨nd, rfl⟩⟩; refine ⟨_, rfl, ?_⟩))
      go_meet
      case rel => exact ⟨_, (true), (by first | rfl | (simp; done) | (simp [*]; done)), H', ⟨by first | omega | exact Nat.le_refl _⟩, by repeat (first | exact Drawn0.refl _ | apply Drawn0.step)⟩
  case rest =>
    clear HC2
    try clear c1
    try clear p2
    try clear c4
    obtain ⟨kq, x9_1, rfl, HA, HJ1, ⟨mc1, rfl⟩⟩ := hcut
    cases kq with
    | zero => exact absurd HA.out (by simp [reredosref01_Sign.j0])
    | succ kj1 =>
      have H := HA.out
      clear HA
      simp only [reredosref01_Sign.j0] at H
      by_cases c5 : x9_1 = true
      · subst c5
        have H1 : (some 0) = some r := by rw [if_pos rfl] at H; exact H
        clear H
        have H := H1
        clear H1
        obtain rfl := Option.some.inj H
        go_wp2
        go_ret
        exact ⟨by first | rfl | (simp; done) | (simp [*]; done), by repeat (first | exact Drawn0.refl _ | apply Drawn0.step)⟩
      · replace c5 := Bool.eq_false_iff.mpr c5
        subst c5
        have H1 : ((reredosref01_low.f a0).bind fun t214 => (if t214 = true then (some (-1)) else (some 1))) = some r := by rw [if_neg (show ¬ (false = true) by decide)] at H; exact H
        clear H
        have H := H1
        clear H1
        replace H := Option.bind_eq_some_iff.mp H
        obtain ⟨t214, A60, H⟩ := H
        replace H : (if t214 = true then (some (-1)) else (some 1)) = some r := H
        have A6 := Aside0.mk A60
        clear A60
        by_cases c7 : t214 = true
        · subst c7
          have H1 : (some (-1)) = some r := by rw [if_pos rfl] at H; exact H
          clear H
          have H := H1
          clear H1
          obtain rfl := Option.some.inj H
          go_wp2_with (first | ((with_reducible refine gate_callee (f := 105) rfl ?_); refine goesL_ (some 11) rfl rfl Tryd.func105 (by kernel_rfl) rfl #[.string a0] rfl Ga_ ?_; (with_reducible refine (reredosref01_low.calls a0 true _ A6.out).mono ?_); rintro e w' ⟨rfl, ⟨nd, rfl⟩⟩; refine ⟨_, rfl, ?_⟩))
          go_ret
          exact ⟨by first | rfl | (simp; done) | (simp [*]; done), by repeat (first | exact Drawn0.refl _ | apply Drawn0.step)⟩
        · replace c7 := Bool.eq_false_iff.mpr c7
          subst c7
          have H1 : (some 1) = some r := by rw [if_neg (show ¬ (false = true) by decide)] at H; exact H
          clear H
          have H := H1
          clear H1
          obtain rfl := Option.some.inj H
          go_wp2_with (first | ((with_reducible refine gate_callee (f := 105) rfl ?_); refine goesL_ (some 11) rfl rfl Tryd.func105 (by kernel_rfl) rfl #[.string a0] rfl Ga_ ?_; (with_reducible refine (reredosref01_low.calls a0 false _ A6.out).mono ?_); rintro e w' ⟨rfl, ⟨nd, rfl⟩⟩; refine ⟨_, rfl, ?_⟩))
          go_ret
          exact ⟨by first | rfl | (simp; done) | (simp [*]; done), by repeat (first | exact Drawn0.refl _ | apply Drawn0.step)⟩
/-! ### reredosref01_size: function 104 -/
def reredosref01_size.f (a0 : ByteArray) : Option (ByteArray) := (reredosref01_low.f a0).bind fun t215 => (if t215 = true then (if 1 ≤ (a0.size : Int) then (some (a0.extract 1 a0.size)) else (none)) else (some a0))
set_option maxHeartbeats 8000000 in
set_option maxRecDepth 100000 in
theorem reredosref01_size.calls (a0 : ByteArray) (r : ByteArray) (w : World) (h : reredosref01_size.f a0 = some r) :
    Calls Tryd.prog 104 #[.string a0] w fun e w' => e = .returned (.string r) ∧ Drawn0 w w' := by
  have H : ((reredosref01_low.f a0).bind fun t215 => (if t215 = true then (if 1 ≤ (a0.size : Int) then (some (a0.extract 1 a0.size)) else (none)) else (some a0))) = some r := h
  clear h
  replace H := Option.bind_eq_some_iff.mp H
  obtain ⟨t215, A20, H⟩ := H
  replace H : (if t215 = true then (if 1 ≤ (a0.size : Int) then (some (a0.extract 1 a0.size)) else (none)) else (some a0)) = some r := H
  have A2 := Aside0.mk A20
  clear A20
  by_cases c3 : t215 = true
  · subst c3
    have H1 : (if 1 ≤ (a0.size : Int) then (some (a0.extract 1 a0.size)) else (none)) = some r := by rw [if_pos rfl] at H; exact H
    clear H
    have H := H1
    clear H1
    by_cases c4 : 1 ≤ (a0.size : Int)
    · rw [if_pos c4] at H
      have c4b0 := eq_true c4
      have c4b1 : decide (1 ≤ (a0.size : Int)) = true := decide_eq_true c4
      clear c4
      obtain rfl := Option.some.inj H
      go_enter Tryd.func104, Tryd.ntmps104
      go_wp2_with (first | ((with_reducible refine gate_callee (f := 105) rfl ?_); refine goesL_ (some 4) rfl rfl Tryd.func105 (by kernel_rfl) rfl #[.string a0] rfl Ga_ ?_; (with_reducible refine (reredosref01_low.calls a0 true _ A2.out).mono ?_); rintro e w' ⟨rfl, ⟨nd, rfl⟩⟩; refine ⟨_, rfl, ?_⟩))
      go_ret
      exact ⟨by first | rfl | (simp; done) | (simp [*]; done), by repeat (first | exact Drawn0.refl _ | apply Drawn0.step)⟩
    · rw [if_neg c4] at H
      exact absurd H (by simp)
  · replace c3 := Bool.eq_false_iff.mpr c3
    subst c3
    have H1 : (some a0) = some r := by rw [if_neg (show ¬ (false = true) by decide)] at H; exact H
    clear H
    have H := H1
    clear H1
    obtain rfl := Option.some.inj H
    go_enter Tryd.func104, Tryd.ntmps104
    go_wp2_with (first | ((with_reducible refine gate_callee (f := 105) rfl ?_); refine goesL_ (some 4) rfl rfl Tryd.func105 (by kernel_rfl) rfl #[.string a0] rfl Ga_ ?_; (with_reducible refine (reredosref01_low.calls a0 false _ A2.out).mono ?_); rintro e w' ⟨rfl, ⟨nd, rfl⟩⟩; refine ⟨_, rfl, ?_⟩))
    go_ret
    exact ⟨by first | rfl | (simp; done) | (simp [*]; done), by repeat (first | exact Drawn0.refl _ | apply Drawn0.step)⟩
/-! ### reredosref01_bare: function 148 -/
def reredosref01_bare.l0 : Nat → ByteArray → Option (ByteArray)
  | 0, _ => none
  | k + 1, x0 => if (x0.size : Int) > 1 then (if 0 < (x0.size : Int) then (if (bt x0 0) = 48 then (if 1 ≤ (x0.size : Int) then (reredosref01_bare.l0 k (x0.extract 1 x0.size)) else (none)) else (if x0.toList = ([] : List UInt8) then (some (⟨#[48]⟩ : ByteArray)) else (some x0))) else (none)) else (if x0.toList = ([] : List UInt8) then (some (⟨#[48]⟩ : ByteArray)) else (some x0))
def reredosref01_bare.f (k : Nat) (a0 : ByteArray) : Option (ByteArray) := reredosref01_bare.l0 k a0
theorem reredosref01_bare.mono_l : ∀ k, (∀ y0, LeO (reredosref01_bare.l0 k y0) (reredosref01_bare.l0 (k + 1) y0))
  | 0 => fun _ r h => by simp [reredosref01_bare.l0] at h
  | k + 1 => by
    have ih0 := reredosref01_bare.mono_l k
    · intro y0
      unfold reredosref01_bare.l0
      repeat' first
      | (with_reducible exact ih0 _)
      | (with_reducible exact LeO.refl _)
      | (with_reducible exact LeO.none _)
      | (with_reducible refine LeO.ite ?_ ?_)
      | (with_reducible refine LeO.bind ?_ (fun _ => ?_))
      | exact ih0 _
      | exact LeO.none _
      | refine LeO.ite ?_ ?_
      | refine LeO.bind ?_ (fun _ => ?_)
theorem reredosref01_bare.mono : ∀ a0 k, LeO (reredosref01_bare.f k a0) (reredosref01_bare.f (k + 1) a0) := by
  intro a0 k
  have ih0 := reredosref01_bare.mono_l k
  unfold reredosref01_bare.f
  repeat' first
      | (with_reducible exact ih0 _)
      | (with_reducible exact LeO.refl _)
      | (with_reducible exact LeO.none _)
      | (with_reducible refine LeO.ite ?_ ?_)
      | (with_reducible refine LeO.bind ?_ (fun _ => ?_))
      | exact ih0 _
      | exact LeO.none _
      | refine LeO.ite ?_ ?_
      | refine LeO.bind ?_ (fun _ => ?_)
set_option maxHeartbeats 8000000 in
set_option maxRecDepth 100000 in
theorem reredosref01_bare.calls (k : Nat) (a0 : ByteArray) (r : ByteArray) (w : World) (h : reredosref01_bare.f k a0 = some r) :
    Calls Tryd.prog 148 #[.string a0] w fun e w' => e = .returned (.string r) ∧ Drawn0 w w' := by
  have H : (reredosref01_bare.l0 k a0) = some r := h
  clear h
  have H' := Aside0.mk H
  clear H
  go_enter Tryd.func148, Tryd.ntmps148
  go_wp2
  go_loopg [0] k (fun kq v0 w' => ∃ (x0_1 : ByteArray), v0 = .string x0_1 ∧ Aside0 (reredosref01_bare.l0 kq x0_1 = some r) ∧ Aside0 (kq ≤ k) ∧ Drawn0 w w')
  case atStart => exact ⟨(a0), (by first | rfl | (simp; done) | (simp [*]; done)), H', ⟨Nat.le_refl _⟩, by repeat (first | exact Drawn0.refl _ | apply Drawn0.step)⟩
  case round =>
    clear H'
    try clear c1
    obtain ⟨x0_1, rfl, HA, HK1, ⟨m1, rfl⟩⟩ := hrel
    cases gk with
    | zero => exact absurd HA.out (by simp [reredosref01_bare.l0])
    | succ k1 =>
      have H := HA.out
      clear HA
      simp only [reredosref01_bare.l0] at H
      by_cases c2 : (x0_1.size : Int) > 1
      · rw [if_pos c2] at H
        have c2b0 : decide (1 < (x0_1.size : Int)) = true := decide_eq_true c2
        have c2b1 : decide (1 < x0_1.size) = true := decide_eq_true (by omega)
        clear c2
        by_cases c3 : 0 < (x0_1.size : Int)
        · rw [if_pos c3] at H
          have c3b0 : decide (0 < (x0_1.size : Int)) = true := decide_eq_true c3
          have c3b1 : decide (0 < x0_1.size) = true := decide_eq_true (by omega)
          clear c3
          by_cases c5 : (bt x0_1 0) = 48
          · rw [if_pos c5] at H
            have c5b0 : ((bt x0_1 0) == 48) = true := beq_iff_eq.mpr c5
            have c5b1 : ((bt x0_1 0) != 48) = false := bne_eq_false_iff_eq.mpr c5
            clear c5
            by_cases c6 : 1 ≤ (x0_1.size : Int)
            · rw [if_pos c6] at H
              have c6b0 := eq_true c6
              have c6b1 : decide (1 ≤ (x0_1.size : Int)) = true := decide_eq_true c6
              clear c6
              have H' := Aside0.mk H
              clear H
              have p4 : 0 ≤ (0 : Int) := (by omega)
              have q4 : 0 < x0_1.size := (by have : (0 : Int) < (x0_1.size : Int) := of_decide_eq_true As_; omega)
              have hx4 : ∀ h : 0 < x0_1.size, ((x0_1[0]'h).toNat : Int) = bt x0_1 0 := bt_at x0_1 0
              clear p4
              have qi4 : (0 < (x0_1.size : Int)) = True := eq_true (of_decide_eq_true As_)
              replace q4 := eq_true q4
              go_wp2
              go_roundg k1
              case measure => have := HK1.out; omega
              case rel => exact ⟨(x0_1.extract 1 x0_1.size), (by first | rfl | (simp; done) | (simp [*]; done)), H', ⟨by have := HK1.out; omega⟩, by repeat (first | exact Drawn0.refl _ | apply Drawn0.step)⟩
            · rw [if_neg c6] at H
              exact absurd H (by simp)
          · rw [if_neg c5] at H
            have c5b0 : ((bt x0_1 0) == 48) = false := beq_eq_false_iff_ne.mpr c5
            have c5b1 : ((bt x0_1 0) != 48) = true := bne_iff_ne.mpr c5
            by_cases c7 : x0_1.toList = ([] : List UInt8)
            · rw [if_pos c7] at H
              have c7b0 : (x0_1.toList == ([] : List UInt8)) = true := beq_iff_eq.mpr c7
              have c7b1 : (x0_1.toList != ([] : List UInt8)) = false := bne_eq_false_iff_eq.mpr c7
              clear c7
              obtain rfl := Option.some.inj H
              have p4 : 0 ≤ (0 : Int) := (by omega)
              have q4 : 0 < x0_1.size := (by have : (0 : Int) < (x0_1.size : Int) := of_decide_eq_true As_; omega)
              have hx4 : ∀ h : 0 < x0_1.size, ((x0_1[0]'h).toNat : Int) = bt x0_1 0 := bt_at x0_1 0
              clear p4
              have qi4 : (0 < (x0_1.size : Int)) = True := eq_true (of_decide_eq_true As_)
              replace q4 := eq_true q4
              go_wp2
              go_ret
              exact ⟨by first | rfl | (simp; done) | (simp [*]; done), by repeat (first | exact Drawn0.refl _ | apply Drawn0.step)⟩
            · rw [if_neg c7] at H
              have c7b0 : (x0_1.toList == ([] : List UInt8)) = false := beq_eq_false_iff_ne.mpr c7
              have c7b1 : (x0_1.toList != ([] : List UInt8)) = true := bne_iff_ne.mpr c7
              obtain rfl := Option.some.inj H
              have p4 : 0 ≤ (0 : Int) := (by omega)
              have q4 : 0 < x0_1.size := (by have : (0 : Int) < (x0_1.size : Int) := of_decide_eq_true As_; omega)
              have hx4 : ∀ h : 0 < x0_1.size, ((x0_1[0]'h).toNat : Int) = bt x0_1 0 := bt_at x0_1 0
              clear p4
              have qi4 : (0 < (x0_1.size : Int)) = True := eq_true (of_decide_eq_true As_)
              replace q4 := eq_true q4
              go_wp2
              go_ret
              exact ⟨by first | rfl | (simp; done) | (simp [*]; done), by repeat (first | exact Drawn0.refl _ | apply Drawn0.step)⟩
        · rw [if_neg c3] at H
          exact absurd H (by simp)
      · rw [if_neg c2] at H
        have c2b0 : decide (1 < (x0_1.size : Int)) = false := decide_eq_false c2
        have c2b1 : decide (1 < x0_1.size) = false := decide_eq_false (by omega)
        clear c2
        by_cases c8 : x0_1.toList = ([] : List UInt8)
        · rw [if_pos c8] at H
          have c8b0 : (x0_1.toList == ([] : List UInt8)) = true := beq_iff_eq.mpr c8
          have c8b1 : (x0_1.toList != ([] : List UInt8)) = false := bne_eq_false_iff_eq.mpr c8
          clear c8
          obtain rfl := Option.some.inj H
          go_wp2
          go_ret
          exact ⟨by first | rfl | (simp; done) | (simp [*]; done), by repeat (first | exact Drawn0.refl _ | apply Drawn0.step)⟩
        · rw [if_neg c8] at H
          have c8b0 : (x0_1.toList == ([] : List UInt8)) = false := beq_eq_false_iff_ne.mpr c8
          have c8b1 : (x0_1.toList != ([] : List UInt8)) = true := bne_iff_ne.mpr c8
          obtain rfl := Option.some.inj H
          go_wp2
          go_ret
          exact ⟨by first | rfl | (simp; done) | (simp [*]; done), by repeat (first | exact Drawn0.refl _ | apply Drawn0.step)⟩

end Go.Proofs.YtfjilihppnndkaaDoor.P
