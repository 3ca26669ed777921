-- Written by drive.py of this claim's own session, by way of the kit's print. Lean checks it.
import Derived.Test.YtfjilihppnndkaaDoorMT1
import Derived.Test.YtfjilihppnndkaaDoorMT3
import Derived.Test.YtfjilihppnndkaaDoorMT2
namespace Go.Proofs.YtfjilihppnndkaaDoor.P
open Go.RowKit Go.Proofs.YtfjilihppnndkaaDoorW.PrintWords Go.Proofs.YtfjilihppnndkaaDoorW.PrintLast Go.Proofs.YtfjilihppnndkaaDoorW.PrintMore
attribute [local go_sem] max2_int min2_int max_two min_two max_three min_three max_four min_four   -- for this text's walks alone
set_option linter.unusedVariables false
set_option linter.unusedSimpArgs false

/-! ### mould_Iota: function 21 -/
def mould_Iota.l0 : Nat → List Int → Int → Int → Option (List Int × List ByteArray × Int)
  | 0, _, _, _ => none
  | k + 1, x6, x34, x35 => if x35 < x34 then (if 0 ≤ x35 then (if x35 < (x6.length : Int) then (mould_Iota.l0 k (x6.set (x35 : Int).toNat x35) x34 (wrap64 (x35 + 1))) else (none)) else (none)) else ((val_Ints.f k x6).bind fun bt113 => (some (bt113.1, bt113.2, 0)))
def mould_Iota.f (k : Nat) (l0_0 : List Int) (l0_1 : List ByteArray) : Option (List Int × List ByteArray × Int) := (mould_fine.f k (([(⟨l0_0, l0_1⟩ : S25)] : List (S25)))).bind fun t106 => (if t106 = true then ((val_Int.f l0_0 l0_1).bind fun bt107 => (if bt107.2 = 0 then (if bt107.1 < 0 then (some (([] : List Int), ([] : List ByteArray), 5)) else (if bt107.1 > 4096 then (some (([] : List Int), ([] : List ByteArray), 8)) else (if 0 ≤ bt107.1 then (if (bt107.1 : Int).toNat ≤ 35184372088832 then ((some (List.replicate (bt107.1 : Int).toNat 0 : List Int)).bind fun y109 => (mould_Iota.l0 k y109 (y109.length : Int) 0)) else (none)) else (none)))) else (some (([] : List Int), ([] : List ByteArray), bt107.2)))) else (some (([] : List Int), ([] : List ByteArray), 1)))
set_option maxHeartbeats 8000000 in
set_option maxRecDepth 100000 in
theorem mould_Iota.calls (k : Nat) (P0_0_ : Nat → Prop) (A0_0 : Option Addr) (c0_0 : Nat) (l0_0 : List Int) (P0_1_ : Nat → Prop) (A0_1 : Option Addr) (c0_1 : Nat) (l0_1 : List ByteArray) (r1 : List Int) (r2 : List ByteArray) (r3 : Int) (w : World) (hs0_0 : Kd.V (Kd.int .i64) 3 w w.heap.size (fun k_ => P0_0_ k_) (.slice A0_0 l0_0.length c0_0) l0_0) (hs0_1 : Kd.V Kd.string 9 w w.heap.size (fun k_ => P0_1_ k_) (.slice A0_1 l0_1.length c0_1) l0_1) (h : mould_Iota.f k l0_0 l0_1 = some (r1, r2, r3)) (hG : Glob w) :
    Calls Tryd.prog 21 #[.agg #[.slice A0_0 l0_0.length c0_0, .slice A0_1 l0_1.length c0_1]] w fun e w' => ∃ v0_ v1_ : Value, e = .returned (.tuple #[.agg #[v0_, v1_], .int .i64 r3]) ∧ Kd.R (Kd.int .i64) 3 w' w.heap.size (fun k_ => (w.heap.size ≤ k_)) v0_ r1 ∧ Kd.R Kd.string 9 w' w.heap.size (fun k_ => (w.heap.size ≤ k_)) v1_ r2 ∧ Below w.heap.size w w' := by
  have hu25 := Tryd.underlying25
  have HO0_0 := Aside0.mk (show Kd.V (Kd.int .i64) 3 w w.heap.size (fun k_ => ((P0_0_ k_ ∨ P0_1_ k_) ∨ w.heap.size ≤ k_)) (.slice A0_0 l0_0.length c0_0) l0_0 from Kd.V_mono hs0_0 (fun k_ hk => .inl (.inl hk)))
  have HO0_1 := Aside0.mk (show Kd.V Kd.string 9 w w.heap.size (fun k_ => ((P0_0_ k_ ∨ P0_1_ k_) ∨ w.heap.size ≤ k_)) (.slice A0_1 l0_1.length c0_1) l0_1 from Kd.V_mono hs0_1 (fun k_ hk => .inl (.inr hk)))
  have HB := Aside0.mk (Below.refl w.heap.size w)
  have H : ((mould_fine.f k (([(⟨l0_0, l0_1⟩ : S25)] : List (S25)))).bind fun t106 => (if t106 = true then ((val_Int.f l0_0 l0_1).bind fun bt107 => (if bt107.2 = 0 then (if bt107.1 < 0 then (some (([] : List Int), ([] : List ByteArray), 5)) else (if bt107.1 > 4096 then (some (([] : List Int), ([] : List ByteArray), 8)) else (if 0 ≤ bt107.1 then (if (bt107.1 : Int).toNat ≤ 35184372088832 then ((some (List.replicate (bt107.1 : Int).toNat 0 : List Int)).bind fun y109 => (mould_Iota.l0 k y109 (y109.length : Int) 0)) else (none)) else (none)))) else (some (([] : List Int), ([] : List ByteArray), bt107.2)))) else (some (([] : List Int), ([] : List ByteArray), 1)))) = some (r1, r2, r3) := h
  clear h
  obtain ⟨y103, hy103⟩ : ∃ y_ : List (S25), y_ = (([(⟨l0_0, l0_1⟩ : S25)] : List (S25))) := ⟨_, rfl⟩
  replace H : ((mould_fine.f k y103).bind fun t106 => (if t106 = true then ((val_Int.f l0_0 l0_1).bind fun bt107 => (if bt107.2 = 0 then (if bt107.1 < 0 then (some (([] : List Int), ([] : List ByteArray), 5)) else (if bt107.1 > 4096 then (some (([] : List Int), ([] : List ByteArray), 8)) else (if 0 ≤ bt107.1 then (if (bt107.1 : Int).toNat ≤ 35184372088832 then ((some (List.replicate (bt107.1 : Int).toNat 0 : List Int)).bind fun y109 => (mould_Iota.l0 k y109 (y109.length : Int) 0)) else (none)) else (none)))) else (some (([] : List Int), ([] : List ByteArray), bt107.2)))) else (some (([] : List Int), ([] : List ByteArray), 1)))) = some (r1, r2, r3) := by first | (rw [hy103]; with_reducible exact H) | (have H2_ := (Option.bind_some _ _).symm.trans H; rw [hy103]; with_reducible exact H2_) | (have H2_ := (Option.bind_some _ _).symm.trans H; with_reducible exact H2_) | with_reducible exact H | (rw [hy103]; exact H) | exact H
  have Ny103 := Aside0.mk hy103
  clear hy103
  obtain ⟨t106, A2, H⟩ := bnd_ H
  try dsimp -simprocs only at H
  by_cases c3 : t106 = true
  · subst c3
    have H1 : ((val_Int.f l0_0 l0_1).bind fun bt107 => (if bt107.2 = 0 then (if bt107.1 < 0 then (some (([] : List Int), ([] : List ByteArray), 5)) else (if bt107.1 > 4096 then (some (([] : List Int), ([] : List ByteArray), 8)) else (if 0 ≤ bt107.1 then (if (bt107.1 : Int).toNat ≤ 35184372088832 then ((some (List.replicate (bt107.1 : Int).toNat 0 : List Int)).bind fun y109 => (mould_Iota.l0 k y109 (y109.length : Int) 0)) else (none)) else (none)))) else (some (([] : List Int), ([] : List ByteArray), bt107.2)))) = some (r1, r2, r3) := by rw [if_pos rfl] at H; exact H
    clear H
    have H := H1
    clear H1
    obtain ⟨⟨t107, t108⟩, A4, H⟩ := bnd_ H
    try dsimp -simprocs only at H
    by_cases c5 : t108 = 0
    · rw [if_pos c5] at H
      have c5b0 : (t108 == 0) = true := beq_iff_eq.mpr c5
      have c5b1 : (t108 != 0) = false := bne_eq_false_iff_eq.mpr c5
      clear c5
      by_cases c6 : t107 < 0
      · rw [if_pos c6] at H
        have c6b0 : decide (t107 < 0) = true := decide_eq_true c6
        clear c6
        simp only [Option.some.injEq, Prod.mk.injEq] at H
        obtain ⟨rfl, rfl, rfl⟩ := H
        go_enter Tryd.func21, Tryd.ntmps21
        go_wp2_with (first | ((with_reducible refine gate_dst (N := 1) rfl ?_); refine bx_ 1 #[.slice A0_0 l0_0.length c0_0, .slice A0_1 l0_1.length c0_1] 25 ?_; intro gb101 hg w7 hbox hb; replace HO0_0 := Aside0.mk (Kd.V_below (Kd.V_elderB (Pv_ HO0_0.out) gb101 (Nat.le_of_eq hg.symm)) hb); replace HO0_1 := Aside0.mk (Kd.V_below (Kd.V_elderB (Pv_ HO0_1.out) gb101 (Nat.le_of_eq hg.symm)) hb); have BK101 := Aside0.mk (hbox); have GW101 := (Bg_ hg : Aside0 (w.heap.size ≤ gb101)); have GE101 := (Bg_ hg : Aside0 (w.heap.size ≤ gb101)); replace HB := Bs_ hb; clear hb hbox hg) | ((with_reducible refine gate_dst (N := 2) rfl ?_); refine bx_ 2 #[.slice none 0 0, .slice none 0 0] 25 ?_; intro gb102 hg w8 hbox hb; replace HO0_0 := Aside0.mk (Kd.V_below (Kd.V_elderB (Pv_ HO0_0.out) gb102 (Nat.le_of_eq hg.symm)) hb); replace HO0_1 := Aside0.mk (Kd.V_below (Kd.V_elderB (Pv_ HO0_1.out) gb102 (Nat.le_of_eq hg.symm)) hb); have BK102 := Aside0.mk (hbox); have GW102 := (Bg_ hg : Aside0 (w.heap.size ≤ gb102)); have GE102 := (Bg_ hg : Aside0 (w.heap.size ≤ gb102)); replace HB := Bs_ hb; have NB101_102 := nl_ hg BK101; have NB102_101 := ng_ hg BK101; replace BK101 := kb_ BK101 hb; clear hb hbox hg; have hnb9 := NB101_102.out; have hnc9 := NB102_101.out; obtain ⟨hcz10_0, hcz10_1⟩ := c2_ BK101; obtain ⟨hfz10_0, hfz10_1⟩ := f2_ BK101) | ((with_reducible refine gate_dst (N := 9) rfl ?_); refine Kd.N_lit k25 _ 25 ?hg (N' := 9) ?hd (xs := ([(⟨l0_0, l0_1⟩ : S25)] : List (S25))) (inner := [.slice A0_0 l0_0.length c0_0, .slice A0_1 l0_1.length c0_1]) (ok := (fun k_ => ((P0_0_ k_ ∨ P0_1_ k_) ∨ w.heap.size ≤ k_) ∧ k_ ≠ gb101 ∧ k_ ≠ gb102)) (okp := (fun k_ => ((P0_0_ k_ ∨ P0_1_ k_) ∨ w.heap.size ≤ k_) ∧ k_ ≠ gb101 ∧ k_ ≠ gb102)) ?hr ?hp (fun _ hk => hk) ((show ∀ k_, w8.heap.size ≤ k_ → (fun k_ => ((P0_0_ k_ ∨ P0_1_ k_) ∨ w.heap.size ≤ k_) ∧ k_ ≠ gb101 ∧ k_ ≠ gb102) k_ from fun k_ hk => ⟨(.inr (Nat.le_trans Bz_ hk)), Kd.freshB (g := gb101) (o := .cells #[.slice A0_0 l0_0.length c0_0, .slice A0_1 l0_1.length c0_1] 25 (0, 0)) (Bk_ BK101.out) k_ hk, Kd.freshB (g := gb102) (o := .cells #[.slice none 0 0, .slice none 0 0] 25 (0, 0)) (Bk_ BK102.out) k_ hk⟩) _ (Nat.le_refl _)) (Below.refl _ _) (Nat.le_refl _) (by simp) ?_; (case hd => rfl); (case hg => rfl); (case hr => first | (go_simp; done) | (go_simp; rfl)); (case hp => exact (Reps.c2 (show Kd.FK k25 _ _ (⟨l0_0, l0_1⟩ : S25) [.slice A0_0 l0_0.length c0_0, .slice A0_1 l0_1.length c0_1] from (k25_mkF _ _ (⟨l0_0, l0_1⟩ : S25) (Kd.V_reads' (Kd.V_mono (ok' := (fun k_ => ((P0_0_ k_ ∨ P0_1_ k_) ∨ w.heap.size ≤ k_) ∧ k_ ≠ gb101 ∧ k_ ≠ gb102)) (HO0_0.out) (fun k_ hk => ⟨hk.1.1, ⟨hk.1.2, hk.2⟩⟩))).2.1 (Kd.V_F (Kd.V_mono (ok' := (fun k_ => ((P0_0_ k_ ∨ P0_1_ k_) ∨ w.heap.size ≤ k_) ∧ k_ ≠ gb101 ∧ k_ ≠ gb102)) (HO0_0.out) (fun k_ hk => ⟨hk.1.1, ⟨hk.1.2, hk.2⟩⟩))) (Kd.V_reads' (Kd.V_mono (ok' := (fun k_ => ((P0_0_ k_ ∨ P0_1_ k_) ∨ w.heap.size ≤ k_) ∧ k_ ≠ gb101 ∧ k_ ≠ gb102)) (HO0_1.out) (fun k_ hk => ⟨hk.1.1, ⟨hk.1.2, hk.2⟩⟩))).2.1 (Kd.V_F (Kd.V_mono (ok' := (fun k_ => ((P0_0_ k_ ∨ P0_1_ k_) ∨ w.heap.size ≤ k_) ∧ k_ ≠ gb101 ∧ k_ ≠ gb102)) (HO0_1.out) (fun k_ hk => ⟨hk.1.1, ⟨hk.1.2, hk.2⟩⟩))))) (Reps.none _ _))); intro v104 w11 ho12 hb hg_ hnew_; clear hg_ hnew_; (first | rw [← Ny103.out] at ho12 | (simp only [Int.reduceToNat] at ho12; rw [← Ny103.out] at ho12)); replace HO0_0 := Aside0.mk (Kd.V_elder' (Pv_ HO0_0.out) (Kd.N_base ho12) hb); replace HO0_1 := Aside0.mk (Kd.V_elder' (Pv_ HO0_1.out) (Kd.N_base ho12) hb); have HO105 := Aside0.mk (Kd.N_lower ho12 Bz_); replace BK101 := kb_ BK101 hb; replace BK102 := kb_ BK102 hb; replace HB := Bs_ hb; clear hb ho12; obtain ⟨Ao13, co13, eo13⟩ := Kd.N_slice HO105.out; subst eo13) | ((with_reducible refine gate_callee (f := 50) rfl ?_); refine goesL_ (some 10) rfl rfl Tryd.func50 (by kernel_rfl) rfl #[.slice Ao13 y103.length co13] rfl Ga_ ?_; (with_reducible refine (mould_fine.calls k _ _ y103 true _ ?side1 ?side2 A2.out).mono ?_); (case side1 => exact Pc_ ((Kd.N_reads' HO105.out).2.2)); (case side2 => exact (Kd.N_reads' HO105.out).2.1); rintro e w14 ⟨rfl, hb⟩; refine ⟨_, rfl, ?_⟩; replace HO0_0 := Aside0.mk (Kd.V_below (Pv_ HO0_0.out) hb); replace HO0_1 := Aside0.mk (Kd.V_below (Pv_ HO0_1.out) hb); replace HO105 := Aside0.mk (Kd.N_below (by (with_reducible repeat (first | apply Kd.N_alloc | apply Kd.N_drewN | apply Kd.N_drew)); exact HO105.out) hb); replace BK101 := kb_ BK101 hb; replace BK102 := kb_ BK102 hb; replace HB := Bs_ hb; (try clear hb); (try clear hb2); (try clear hk); (try clear hi); obtain ⟨hcz15_0, hcz15_1⟩ := c2_ BK101; obtain ⟨hfz15_0, hfz15_1⟩ := f2_ BK101) | ((with_reducible refine gate_callee (f := 51) rfl ?_); refine goesL_ (some 15) rfl rfl Tryd.func51 (by kernel_rfl) rfl #[.agg #[.slice A0_0 l0_0.length c0_0, .slice A0_1 l0_1.length c0_1]] rfl Ga_ ?_; (with_reducible refine (val_Int.calls _ _ l0_0 _ _ l0_1 t107 t108 _ ?side1 ?side2 ?side3 ?side4 A4.out ?side5).mono ?_); (case side1 => exact Pc_ ((Kd.V_reads' HO0_0.out).2.2)); (case side2 => exact (Kd.V_reads' HO0_0.out).2.1); (case side3 => exact Pc_ ((Kd.V_reads' HO0_1.out).2.2)); (case side4 => exact (Kd.V_reads' HO0_1.out).2.1); (case side5 => first | exact hG | exact Glob.below hG Bl_); rintro e w16 ⟨rfl, hb⟩; refine ⟨_, rfl, ?_⟩; replace HO0_0 := Aside0.mk (Kd.V_below (Pv_ HO0_0.out) hb); replace HO0_1 := Aside0.mk (Kd.V_below (Pv_ HO0_1.out) hb); replace HO105 := Aside0.mk (Kd.N_below (by (with_reducible repeat (first | apply Kd.N_alloc | apply Kd.N_drewN | apply Kd.N_drew)); exact HO105.out) hb); replace BK101 := kb_ BK101 hb; replace BK102 := kb_ BK102 hb; replace HB := Bs_ hb; (try clear hb); (try clear hb2); (try clear hk); (try clear hi); obtain ⟨hcz17_0, hcz17_1⟩ := c2_ BK102; obtain ⟨hfz17_0, hfz17_1⟩ := f2_ BK102))
        refine bodyPost_ret (results_ct rfl _ _ gb102 25 #[.slice none 0 0, .slice none 0 0] (0, 0) _ rfl (by (with_reducible repeat (first | refine blk_drewN ?_ _ | refine blk_drew ?_ | refine blk_alloc ?_ _)); refine blk_put (cs := #[.slice none 0 0, .slice none 0 0]) ?_ 1 _ rfl; (with_reducible repeat (first | refine blk_drewN ?_ _ | refine blk_drew ?_ | refine blk_alloc ?_ _)); refine blk_put (cs := #[.slice none 0 0, .slice none 0 0]) ?_ 0 _ rfl; (with_reducible repeat (first | refine blk_drewN ?_ _ | refine blk_drew ?_ | refine blk_alloc ?_ _)); exact BK102.out) Tryd.underlying25 rfl (by kernel_rfl)) rfl ?_
        exact ⟨_, _, Re_, by first | exact Kd.R_nil _ _ _ _ _ | exact Kd.N_nil _ _ _ _ _ | exact Kd.V_nil _ _ _ _ _ | exact Kd.Q_nil _ _ _ _ _ | exact Kd.S_nil _ _ _ _ _, by first | exact Kd.R_nil _ _ _ _ _ | exact Kd.N_nil _ _ _ _ _ | exact Kd.V_nil _ _ _ _ _ | exact Kd.Q_nil _ _ _ _ _ | exact Kd.S_nil _ _ _ _ _, Bl_⟩
      · rw [if_neg c6] at H
        have c6b0 : decide (t107 < 0) = false := decide_eq_false c6
        clear c6
        by_cases c18 : t107 > 4096
        · rw [if_pos c18] at H
          have c18b0 : decide (4096 < t107) = true := decide_eq_true c18
          clear c18
          simp only [Option.some.injEq, Prod.mk.injEq] at H
          obtain ⟨rfl, rfl, rfl⟩ := H
          go_enter Tryd.func21, Tryd.ntmps21
          go_wp2_with (first | ((with_reducible refine gate_dst (N := 1) rfl ?_); refine bx_ 1 #[.slice A0_0 l0_0.length c0_0, .slice A0_1 l0_1.length c0_1] 25 ?_; intro gb101 hg w19 hbox hb; replace HO0_0 := Aside0.mk (Kd.V_below (Kd.V_elderB (Pv_ HO0_0.out) gb101 (Nat.le_of_eq hg.symm)) hb); replace HO0_1 := Aside0.mk (Kd.V_below (Kd.V_elderB (Pv_ HO0_1.out) gb101 (Nat.le_of_eq hg.symm)) hb); have BK101 := Aside0.mk (hbox); have GW101 := (Bg_ hg : Aside0 (w.heap.size ≤ gb101)); have GE101 := (Bg_ hg : Aside0 (w.heap.size ≤ gb101)); replace HB := Bs_ hb; clear hb hbox hg) | ((with_reducible refine gate_dst (N := 2) rfl ?_); refine bx_ 2 #[.slice none 0 0, .slice none 0 0] 25 ?_; intro gb102 hg w20 hbox hb; replace HO0_0 := Aside0.mk (Kd.V_below (Kd.V_elderB (Pv_ HO0_0.out) gb102 (Nat.le_of_eq hg.symm)) hb); replace HO0_1 := Aside0.mk (Kd.V_below (Kd.V_elderB (Pv_ HO0_1.out) gb102 (Nat.le_of_eq hg.symm)) hb); have BK102 := Aside0.mk (hbox); have GW102 := (Bg_ hg : Aside0 (w.heap.size ≤ gb102)); have GE102 := (Bg_ hg : Aside0 (w.heap.size ≤ gb102)); replace HB := Bs_ hb; have NB101_102 := nl_ hg BK101; have NB102_101 := ng_ hg BK101; replace BK101 := kb_ BK101 hb; clear hb hbox hg; have hnb21 := NB101_102.out; have hnc21 := NB102_101.out; obtain ⟨hcz22_0, hcz22_1⟩ := c2_ BK101; obtain ⟨hfz22_0, hfz22_1⟩ := f2_ BK101) | ((with_reducible refine gate_dst (N := 9) rfl ?_); refine Kd.N_lit k25 _ 25 ?hg (N' := 9) ?hd (xs := ([(⟨l0_0, l0_1⟩ : S25)] : List (S25))) (inner := [.slice A0_0 l0_0.length c0_0, .slice A0_1 l0_1.length c0_1]) (ok := (fun k_ => ((P0_0_ k_ ∨ P0_1_ k_) ∨ w.heap.size ≤ k_) ∧ k_ ≠ gb101 ∧ k_ ≠ gb102)) (okp := (fun k_ => ((P0_0_ k_ ∨ P0_1_ k_) ∨ w.heap.size ≤ k_) ∧ k_ ≠ gb101 ∧ k_ ≠ gb102)) ?hr ?hp (fun _ hk => hk) ((show ∀ k_, w20.heap.size ≤ k_ → (fun k_ => ((P0_0_ k_ ∨ P0_1_ k_) ∨ w.heap.size ≤ k_) ∧ k_ ≠ gb101 ∧ k_ ≠ gb102) k_ from fun k_ hk => ⟨(.inr (Nat.le_trans Bz_ hk)), Kd.freshB (g := gb101) (o := .cells #[.slice A0_0 l0_0.length c0_0, .slice A0_1 l0_1.length c0_1] 25 (0, 0)) (Bk_ BK101.out) k_ hk, Kd.freshB (g := gb102) (o := .cells #[.slice none 0 0, .slice none 0 0] 25 (0, 0)) (Bk_ BK102.out) k_ hk⟩) _ (Nat.le_refl _)) (Below.refl _ _) (Nat.le_refl _) (by simp) ?_; (case hd => rfl); (case hg => rfl); (case hr => first | (go_simp; done) | (go_simp; rfl)); (case hp => exact (Reps.c2 (show Kd.FK k25 _ _ (⟨l0_0, l0_1⟩ : S25) [.slice A0_0 l0_0.length c0_0, .slice A0_1 l0_1.length c0_1] from (k25_mkF _ _ (⟨l0_0, l0_1⟩ : S25) (Kd.V_reads' (Kd.V_mono (ok' := (fun k_ => ((P0_0_ k_ ∨ P0_1_ k_) ∨ w.heap.size ≤ k_) ∧ k_ ≠ gb101 ∧ k_ ≠ gb102)) (HO0_0.out) (fun k_ hk => ⟨hk.1.1, ⟨hk.1.2, hk.2⟩⟩))).2.1 (Kd.V_F (Kd.V_mono (ok' := (fun k_ => ((P0_0_ k_ ∨ P0_1_ k_) ∨ w.heap.size ≤ k_) ∧ k_ ≠ gb101 ∧ k_ ≠ gb102)) (HO0_0.out) (fun k_ hk => ⟨hk.1.1, ⟨hk.1.2, hk.2⟩⟩))) (Kd.V_reads' (Kd.V_mono (ok' := (fun k_ => ((P0_0_ k_ ∨ P0_1_ k_) ∨ w.heap.size ≤ k_) ∧ k_ ≠ gb101 ∧ k_ ≠ gb102)) (HO0_1.out) (fun k_ hk => ⟨hk.1.1, ⟨hk.1.2, hk.2⟩⟩))).2.1 (Kd.V_F (Kd.V_mono (ok' := (fun k_ => ((P0_0_ k_ ∨ P0_1_ k_) ∨ w.heap.size ≤ k_) ∧ k_ ≠ gb101 ∧ k_ ≠ gb102)) (HO0_1.out) (fun k_ hk => ⟨hk.1.1, ⟨hk.1.2, hk.2⟩⟩))))) (Reps.none _ _))); intro v104 w23 ho24 hb hg_ hnew_; clear hg_ hnew_; (first | rw [← Ny103.out] at ho24 | (simp only [Int.reduceToNat] at ho24; rw [← Ny103.out] at ho24)); replace HO0_0 := Aside0.mk (Kd.V_elder' (Pv_ HO0_0.out) (Kd.N_base ho24) hb); replace HO0_1 := Aside0.mk (Kd.V_elder' (Pv_ HO0_1.out) (Kd.N_base ho24) hb); have HO105 := Aside0.mk (Kd.N_lower ho24 Bz_); replace BK101 := kb_ BK101 hb; replace BK102 := kb_ BK102 hb; replace HB := Bs_ hb; clear hb ho24; obtain ⟨Ao25, co25, eo25⟩ := Kd.N_slice HO105.out; subst eo25) | ((with_reducible refine gate_callee (f := 50) rfl ?_); refine goesL_ (some 10) rfl rfl Tryd.func50 (by kernel_rfl) rfl #[.slice Ao25 y103.length co25] rfl Ga_ ?_; (with_reducible refine (mould_fine.calls k _ _ y103 true _ ?side1 ?side2 A2.out).mono ?_); (case side1 => exact Pc_ ((Kd.N_reads' HO105.out).2.2)); (case side2 => exact (Kd.N_reads' HO105.out).2.1); rintro e w26 ⟨rfl, hb⟩; refine ⟨_, rfl, ?_⟩; replace HO0_0 := Aside0.mk (Kd.V_below (Pv_ HO0_0.out) hb); replace HO0_1 := Aside0.mk (Kd.V_below (Pv_ HO0_1.out) hb); replace HO105 := Aside0.mk (Kd.N_below (by (with_reducible repeat (first | apply Kd.N_alloc | apply Kd.N_drewN | apply Kd.N_drew)); exact HO105.out) hb); replace BK101 := kb_ BK101 hb; replace BK102 := kb_ BK102 hb; replace HB := Bs_ hb; (try clear hb); (try clear hb2); (try clear hk); (try clear hi); obtain ⟨hcz27_0, hcz27_1⟩ := c2_ BK101; obtain ⟨hfz27_0, hfz27_1⟩ := f2_ BK101) | ((with_reducible refine gate_callee (f := 51) rfl ?_); refine goesL_ (some 15) rfl rfl Tryd.func51 (by kernel_rfl) rfl #[.agg #[.slice A0_0 l0_0.length c0_0, .slice A0_1 l0_1.length c0_1]] rfl Ga_ ?_; (with_reducible refine (val_Int.calls _ _ l0_0 _ _ l0_1 t107 t108 _ ?side1 ?side2 ?side3 ?side4 A4.out ?side5).mono ?_); (case side1 => exact Pc_ ((Kd.V_reads' HO0_0.out).2.2)); (case side2 => exact (Kd.V_reads' HO0_0.out).2.1); (case side3 => exact Pc_ ((Kd.V_reads' HO0_1.out).2.2)); (case side4 => exact (Kd.V_reads' HO0_1.out).2.1); (case side5 => first | exact hG | exact Glob.below hG Bl_); rintro e w28 ⟨rfl, hb⟩; refine ⟨_, rfl, ?_⟩; replace HO0_0 := Aside0.mk (Kd.V_below (Pv_ HO0_0.out) hb); replace HO0_1 := Aside0.mk (Kd.V_below (Pv_ HO0_1.out) hb); replace HO105 := Aside0.mk (Kd.N_below (by (with_reducible repeat (first | apply Kd.N_alloc | apply Kd.N_drewN | apply Kd.N_drew)); exact HO105.out) hb); replace BK101 := kb_ BK101 hb; replace BK102 := kb_ BK102 hb; replace HB := Bs_ hb; (try clear hb); (try clear hb2); (try clear hk); (try clear hi); obtain ⟨hcz29_0, hcz29_1⟩ := c2_ BK102; obtain ⟨hfz29_0, hfz29_1⟩ := f2_ BK102))
          refine bodyPost_ret (results_ct rfl _ _ gb102 25 #[.slice none 0 0, .slice none 0 0] (0, 0) _ rfl (by (with_reducible repeat (first | refine blk_drewN ?_ _ | refine blk_drew ?_ | refine blk_alloc ?_ _)); refine blk_put (cs := #[.slice none 0 0, .slice none 0 0]) ?_ 1 _ rfl; (with_reducible repeat (first | refine blk_drewN ?_ _ | refine blk_drew ?_ | refine blk_alloc ?_ _)); refine blk_put (cs := #[.slice none 0 0, .slice none 0 0]) ?_ 0 _ rfl; (with_reducible repeat (first | refine blk_drewN ?_ _ | refine blk_drew ?_ | refine blk_alloc ?_ _)); exact BK102.out) Tryd.underlying25 rfl (by kernel_rfl)) rfl ?_
          exact ⟨_, _, Re_, by first | exact Kd.R_nil _ _ _ _ _ | exact Kd.N_nil _ _ _ _ _ | exact Kd.V_nil _ _ _ _ _ | exact Kd.Q_nil _ _ _ _ _ | exact Kd.S_nil _ _ _ _ _, by first | exact Kd.R_nil _ _ _ _ _ | exact Kd.N_nil _ _ _ _ _ | exact Kd.V_nil _ _ _ _ _ | exact Kd.Q_nil _ _ _ _ _ | exact Kd.S_nil _ _ _ _ _, Bl_⟩
        · rw [if_neg c18] at H
          have c18b0 : decide (4096 < t107) = false := decide_eq_false c18
          clear c18
          by_cases c30 : 0 ≤ t107
          · rw [if_pos c30] at H
            have c30b0 := eq_true c30
            have c30b1 : decide (0 ≤ t107) = true := decide_eq_true c30
            clear c30
            by_cases c31 : (t107 : Int).toNat ≤ 35184372088832
            · rw [if_pos c31] at H
              have c31b0 := eq_true c31
              have c31b1 : decide ((t107 : Int).toNat ≤ 35184372088832) = true := decide_eq_true c31
              clear c31
              obtain ⟨y109, hy109⟩ : ∃ y_ : List Int, y_ = (List.replicate (t107 : Int).toNat 0) := ⟨_, rfl⟩
              replace H : (mould_Iota.l0 k y109 (y109.length : Int) 0) = some (r1, r2, r3) := by first | (rw [hy109]; with_reducible exact H) | (have H2_ := (Option.bind_some _ _).symm.trans H; rw [hy109]; with_reducible exact H2_) | (have H2_ := (Option.bind_some _ _).symm.trans H; with_reducible exact H2_) | with_reducible exact H | (rw [hy109]; exact H) | exact H
              have Ny109 := Aside0.mk hy109
              clear hy109
              have H' := Aside0.mk H
              clear H
              go_enter Tryd.func21, Tryd.ntmps21
              go_wp2_with (first | ((with_reducible refine gate_dst (N := 1) rfl ?_); refine bx_ 1 #[.slice A0_0 l0_0.length c0_0, .slice A0_1 l0_1.length c0_1] 25 ?_; intro gb101 hg w32 hbox hb; replace HO0_0 := Aside0.mk (Kd.V_below (Kd.V_elderB (Pv_ HO0_0.out) gb101 (Nat.le_of_eq hg.symm)) hb); replace HO0_1 := Aside0.mk (Kd.V_below (Kd.V_elderB (Pv_ HO0_1.out) gb101 (Nat.le_of_eq hg.symm)) hb); have BK101 := Aside0.mk (hbox); have GW101 := (Bg_ hg : Aside0 (w.heap.size ≤ gb101)); have GE101 := (Bg_ hg : Aside0 (w.heap.size ≤ gb101)); replace HB := Bs_ hb; clear hb hbox hg) | ((with_reducible refine gate_dst (N := 2) rfl ?_); refine bx_ 2 #[.slice none 0 0, .slice none 0 0] 25 ?_; intro gb102 hg w33 hbox hb; replace HO0_0 := Aside0.mk (Kd.V_below (Kd.V_elderB (Pv_ HO0_0.out) gb102 (Nat.le_of_eq hg.symm)) hb); replace HO0_1 := Aside0.mk (Kd.V_below (Kd.V_elderB (Pv_ HO0_1.out) gb102 (Nat.le_of_eq hg.symm)) hb); have BK102 := Aside0.mk (hbox); have GW102 := (Bg_ hg : Aside0 (w.heap.size ≤ gb102)); have GE102 := (Bg_ hg : Aside0 (w.heap.size ≤ gb102)); replace HB := Bs_ hb; have NB101_102 := nl_ hg BK101; have NB102_101 := ng_ hg BK101; replace BK101 := kb_ BK101 hb; clear hb hbox hg; have hnb34 := NB101_102.out; have hnc34 := NB102_101.out; obtain ⟨hcz35_0, hcz35_1⟩ := c2_ BK101; obtain ⟨hfz35_0, hfz35_1⟩ := f2_ BK101) | ((with_reducible refine gate_dst (N := 9) rfl ?_); refine Kd.N_lit k25 _ 25 ?hg (N' := 9) ?hd (xs := ([(⟨l0_0, l0_1⟩ : S25)] : List (S25))) (inner := [.slice A0_0 l0_0.length c0_0, .slice A0_1 l0_1.length c0_1]) (ok := (fun k_ => ((P0_0_ k_ ∨ P0_1_ k_) ∨ w.heap.size ≤ k_) ∧ k_ ≠ gb101 ∧ k_ ≠ gb102)) (okp := (fun k_ => ((P0_0_ k_ ∨ P0_1_ k_) ∨ w.heap.size ≤ k_) ∧ k_ ≠ gb101 ∧ k_ ≠ gb102)) ?hr ?hp (fun _ hk => hk) ((show ∀ k_, w33.heap.size ≤ k_ → (fun k_ => ((P0_0_ k_ ∨ P0_1_ k_) ∨ w.heap.size ≤ k_) ∧ k_ ≠ gb101 ∧ k_ ≠ gb102) k_ from fun k_ hk => ⟨(.inr (Nat.le_trans Bz_ hk)), Kd.freshB (g := gb101) (o := .cells #[.slice A0_0 l0_0.length c0_0, .slice A0_1 l0_1.length c0_1] 25 (0, 0)) (Bk_ BK101.out) k_ hk, Kd.freshB (g := gb102) (o := .cells #[.slice none 0 0, .slice none 0 0] 25 (0, 0)) (Bk_ BK102.out) k_ hk⟩) _ (Nat.le_refl _)) (Below.refl _ _) (Nat.le_refl _) (by simp) ?_; (case hd => rfl); (case hg => rfl); (case hr => first | (go_simp; done) | (go_simp; rfl)); (case hp => exact (Reps.c2 (show Kd.FK k25 _ _ (⟨l0_0, l0_1⟩ : S25) [.slice A0_0 l0_0.length c0_0, .slice A0_1 l0_1.length c0_1] from (k25_mkF _ _ (⟨l0_0, l0_1⟩ : S25) (Kd.V_reads' (Kd.V_mono (ok' := (fun k_ => ((P0_0_ k_ ∨ P0_1_ k_) ∨ w.heap.size ≤ k_) ∧ k_ ≠ gb101 ∧ k_ ≠ gb102)) (HO0_0.out) (fun k_ hk => ⟨hk.1.1, ⟨hk.1.2, hk.2⟩⟩))).2.1 (Kd.V_F (Kd.V_mono (ok' := (fun k_ => ((P0_0_ k_ ∨ P0_1_ k_) ∨ w.heap.size ≤ k_) ∧ k_ ≠ gb101 ∧ k_ ≠ gb102)) (HO0_0.out) (fun k_ hk => ⟨hk.1.1, ⟨hk.1.2, hk.2⟩⟩))) (Kd.V_reads' (Kd.V_mono (ok' := (fun k_ => ((P0_0_ k_ ∨ P0_1_ k_) ∨ w.heap.size ≤ k_) ∧ k_ ≠ gb101 ∧ k_ ≠ gb102)) (HO0_1.out) (fun k_ hk => ⟨hk.1.1, ⟨hk.1.2, hk.2⟩⟩))).2.1 (Kd.V_F (Kd.V_mono (ok' := (fun k_ => ((P0_0_ k_ ∨ P0_1_ k_) ∨ w.heap.size ≤ k_) ∧ k_ ≠ gb101 ∧ k_ ≠ gb102)) (HO0_1.out) (fun k_ hk => ⟨hk.1.1, ⟨hk.1.2, hk.2⟩⟩))))) (Reps.none _ _))); intro v104 w36 ho37 hb hg_ hnew_; clear hg_ hnew_; (first | rw [← Ny103.out] at ho37 | (simp only [Int.reduceToNat] at ho37; rw [← Ny103.out] at ho37)); replace HO0_0 := Aside0.mk (Kd.V_elder' (Pv_ HO0_0.out) (Kd.N_base ho37) hb); replace HO0_1 := Aside0.mk (Kd.V_elder' (Pv_ HO0_1.out) (Kd.N_base ho37) hb); have HO105 := Aside0.mk (Kd.N_lower ho37 Bz_); replace BK101 := kb_ BK101 hb; replace BK102 := kb_ BK102 hb; replace HB := Bs_ hb; clear hb ho37; obtain ⟨Ao38, co38, eo38⟩ := Kd.N_slice HO105.out; subst eo38) | ((with_reducible refine gate_callee (f := 50) rfl ?_); refine goesL_ (some 10) rfl rfl Tryd.func50 (by kernel_rfl) rfl #[.slice Ao38 y103.length co38] rfl Ga_ ?_; (with_reducible refine (mould_fine.calls k _ _ y103 true _ ?side1 ?side2 A2.out).mono ?_); (case side1 => exact Pc_ ((Kd.N_reads' HO105.out).2.2)); (case side2 => exact (Kd.N_reads' HO105.out).2.1); rintro e w39 ⟨rfl, hb⟩; refine ⟨_, rfl, ?_⟩; replace HO0_0 := Aside0.mk (Kd.V_below (Pv_ HO0_0.out) hb); replace HO0_1 := Aside0.mk (Kd.V_below (Pv_ HO0_1.out) hb); replace HO105 := Aside0.mk (Kd.N_below (by (with_reducible repeat (first | apply Kd.N_alloc | apply Kd.N_drewN | apply Kd.N_drew)); exact HO105.out) hb); replace BK101 := kb_ BK101 hb; replace BK102 := kb_ BK102 hb; replace HB := Bs_ hb; (try clear hb); (try clear hb2); (try clear hk); (try clear hi); obtain ⟨hcz40_0, hcz40_1⟩ := c2_ BK101; obtain ⟨hfz40_0, hfz40_1⟩ := f2_ BK101) | ((with_reducible refine gate_callee (f := 51) rfl ?_); refine goesL_ (some 15) rfl rfl Tryd.func51 (by kernel_rfl) rfl #[.agg #[.slice A0_0 l0_0.length c0_0, .slice A0_1 l0_1.length c0_1]] rfl Ga_ ?_; (with_reducible refine (val_Int.calls _ _ l0_0 _ _ l0_1 t107 t108 _ ?side1 ?side2 ?side3 ?side4 A4.out ?side5).mono ?_); (case side1 => exact Pc_ ((Kd.V_reads' HO0_0.out).2.2)); (case side2 => exact (Kd.V_reads' HO0_0.out).2.1); (case side3 => exact Pc_ ((Kd.V_reads' HO0_1.out).2.2)); (case side4 => exact (Kd.V_reads' HO0_1.out).2.1); (case side5 => first | exact hG | exact Glob.below hG Bl_); rintro e w41 ⟨rfl, hb⟩; refine ⟨_, rfl, ?_⟩; replace HO0_0 := Aside0.mk (Kd.V_below (Pv_ HO0_0.out) hb); replace HO0_1 := Aside0.mk (Kd.V_below (Pv_ HO0_1.out) hb); replace HO105 := Aside0.mk (Kd.N_below (by (with_reducible repeat (first | apply Kd.N_alloc | apply Kd.N_drewN | apply Kd.N_drew)); exact HO105.out) hb); replace BK101 := kb_ BK101 hb; replace BK102 := kb_ BK102 hb; replace HB := Bs_ hb; (try clear hb); (try clear hb2); (try clear hk); (try clear hi)) | ((with_reducible refine gate_dst (N := 32) rfl ?_); refine Kd.R_make (Kd.int .i64) _ 3 rfl (N := 32) rfl 22 _ _ rfl t107 rfl rfl Tryd.underlying22 (.int .i64 0) 8 info3 rfl (by decide) (by omega) 0 (ok := fun _ => True) (okp := fun _ => True) rfl (fun _ hk => hk) trivial (of_decide_eq_true As_) (Nat.le_trans (Nat.mul_le_mul_right _ (of_decide_eq_true As_ : t107.toNat ≤ 35184372088832)) (by omega)) (Below.refl _ _) (Nat.le_refl _) ?_; intro v110 w42 ho43 hb hg_ hnew_; clear hg_ hnew_; (first | rw [← Ny109.out] at ho43 | (simp only [Int.reduceToNat] at ho43; rw [← Ny109.out] at ho43)); replace HO0_0 := Aside0.mk (Kd.V_elder' (Pv_ HO0_0.out) (Kd.R_base ho43) hb); replace HO0_1 := Aside0.mk (Kd.V_elder' (Pv_ HO0_1.out) (Kd.R_base ho43) hb); replace HO105 := Aside0.mk (Kd.N_elder' (by (with_reducible repeat (first | apply Kd.N_alloc | apply Kd.N_drewN | apply Kd.N_drew)); exact HO105.out) (Kd.R_base ho43) hb); have HO111 := Aside0.mk (Kd.R_lower (Kd.R_newM (M := fun k_ => (w.heap.size ≤ k_)) ho43 Bz_ (fun k_ h_ => h_)) Bz_); replace BK101 := kb_ BK101 hb; replace BK102 := kb_ BK102 hb; replace HB := Bs_ hb; clear hb ho43; obtain ⟨Ao44, co44, eo44⟩ := Kd.R_slice HO111.out; subst eo44))
              go_loopg [35] k (fun kq v35 w' => ∃ (x6_1 : List Int) (x35_1 : Int), v35 = .int .i64 x35_1 ∧ Aside0 (mould_Iota.l0 kq x6_1 (y109.length : Int) x35_1 = some (r1, r2, r3)) ∧ Aside0 (kq ≤ k) ∧ Aside0 (Kd.R (Kd.int .i64) 3 w' w.heap.size (fun k_ => (w.heap.size ≤ k_)) (.slice Ao44 y109.length co44) x6_1) ∧ Aside0 (Kd.V (Kd.int .i64) 3 w' w.heap.size (fun k_ => ((P0_0_ k_ ∨ P0_1_ k_) ∨ w.heap.size ≤ k_) ∧ some k_ ≠ ((.slice Ao44 y109.length co44) : Value).ownBlock ∧ k_ ≠ gb101 ∧ k_ ≠ gb102) (.slice A0_0 l0_0.length c0_0) l0_0) ∧ Aside0 (Kd.V Kd.string 9 w' w.heap.size (fun k_ => ((P0_0_ k_ ∨ P0_1_ k_) ∨ w.heap.size ≤ k_) ∧ some k_ ≠ ((.slice Ao44 y109.length co44) : Value).ownBlock ∧ k_ ≠ gb101 ∧ k_ ≠ gb102) (.slice A0_1 l0_1.length c0_1) l0_1) ∧ Aside0 (w'.heap[gb101]? = some (.cells #[(.slice A0_0 l0_0.length c0_0), (.slice A0_1 l0_1.length c0_1)] 25 (0, 0))) ∧ Aside0 (w'.heap[gb102]? = some (.cells #[(.slice none 0 0), (.slice none 0 0)] 25 (0, 0))) ∧ Aside0 (Below w.heap.size w w'))
              case atStart => exact ⟨(y109), (0), Rf_, H', ⟨Nat.le_refl _⟩, ⟨by (with_reducible repeat (first | apply Kd.R_alloc | apply Kd.R_drewN | apply Kd.R_drew)); exact Kd.R_mono HO111.out (fun _ hk => hk.1)⟩, ⟨by (with_reducible repeat (first | apply Kd.V_alloc | apply Kd.V_drewN | apply Kd.V_drew)); exact Kd.V_mono HO0_0.out (fun _ hk => ⟨hk.1.1.1.1, ⟨hk.2, ⟨hk.1.1.1.2, hk.1.1.2⟩⟩⟩)⟩, ⟨by (with_reducible repeat (first | apply Kd.V_alloc | apply Kd.V_drewN | apply Kd.V_drew)); exact Kd.V_mono HO0_1.out (fun _ hk => ⟨hk.1.1.1.1, ⟨hk.2, ⟨hk.1.1.1.2, hk.1.1.2⟩⟩⟩)⟩, ⟨by (with_reducible repeat (first | refine blk_drewN ?_ _ | refine blk_drew ?_ | refine blk_alloc ?_ _)); exact BK101.out⟩, ⟨by (with_reducible repeat (first | refine blk_drewN ?_ _ | refine blk_drew ?_ | refine blk_alloc ?_ _)); exact BK102.out⟩, ⟨Bl_⟩⟩
              case round =>
                clear H'
                try clear c1
                try clear c2
                try clear p2
                try clear c3
                try clear c5
                try clear c5b0
                try clear c5b1
                try clear c6
                try clear c6b0
                try clear c9
                try clear c18
                try clear c18b0
                try clear c21
                try clear c30
                try clear c30b0
                try clear c30b1
                try clear c31
                try clear c31b0
                try clear c31b1
                try clear c34
                try clear hcz10_0
                try clear hcz10_1
                try clear hcz15_0
                try clear hcz15_1
                try clear hcz17_0
                try clear hcz17_1
                try clear hcz22_0
                try clear hcz22_1
                try clear hcz27_0
                try clear hcz27_1
                try clear hcz29_0
                try clear hcz29_1
                try clear hcz35_0
                try clear hcz35_1
                try clear hcz40_0
                try clear hcz40_1
                try clear hfz10_0
                try clear hfz10_1
                try clear hfz15_0
                try clear hfz15_1
                try clear hfz17_0
                try clear hfz17_1
                try clear hfz22_0
                try clear hfz22_1
                try clear hfz27_0
                try clear hfz27_1
                try clear hfz29_0
                try clear hfz29_1
                try clear hfz35_0
                try clear hfz35_1
                try clear hfz40_0
                try clear hfz40_1
                obtain ⟨x6_1, x35_1, rfl, HA, HK1, HO_6, HO_102000, HO_102001, BK101, BK102, HB⟩ := hrel
                have hl6_1 := (Kd.R_reads' HO_6.out).1
                rw [hl6_1] at HO_6
                (try simp only [hl6_1])
                (try simp only [hl6_1] at BK101)
                (try simp only [hl6_1] at BK102)
                (try simp only [hl6_1] at HO_102000)
                (try simp only [hl6_1] at HO_102001)
                cases gk with
                | zero => exact absurd HA.out (by simp [mould_Iota.l0])
                | succ k1 =>
                  have H := HA.out
                  clear HA
                  simp only [mould_Iota.l0] at H
                  by_cases c45 : x35_1 < (y109.length : Int)
                  · rw [if_pos c45] at H
                    have c45b0 : decide (x35_1 < (y109.length : Int)) = true := decide_eq_true c45
                    (try simp only [hl6_1] at c45b0)
                    clear c45
                    by_cases c46 : 0 ≤ x35_1
                    · rw [if_pos c46] at H
                      have c46b0 : decide (0 ≤ x35_1) = true := decide_eq_true c46
                      (try simp only [hl6_1] at c46b0)
                      clear c46
                      by_cases c47 : x35_1 < (x6_1.length : Int)
                      · rw [if_pos c47] at H
                        have c47b0 : decide (x35_1 < (x6_1.length : Int)) = true := decide_eq_true c47
                        (try simp only [hl6_1] at c47b0)
                        clear c47
                        obtain ⟨y112, hy112⟩ : ∃ y_ : List Int, y_ = (x6_1.set (x35_1 : Int).toNat x35_1) := ⟨_, rfl⟩
                        replace H : (mould_Iota.l0 k1 y112 (y109.length : Int) (wrap64 (x35_1 + 1))) = some (r1, r2, r3) := by first | (rw [hy112]; with_reducible exact H) | (have H2_ := (Option.bind_some _ _).symm.trans H; rw [hy112]; with_reducible exact H2_) | (have H2_ := (Option.bind_some _ _).symm.trans H; with_reducible exact H2_) | with_reducible exact H | (rw [hy112]; exact H) | exact H
                        have Ny112 := Aside0.mk hy112
                        clear hy112
                        have H' := Aside0.mk H
                        clear H
                        have p48 : 0 ≤ (x35_1 : Int) := of_decide_eq_true As_
                        have q48 : (x35_1 : Int) < ((x6_1.length : Int) : Int) := of_decide_eq_true As_
                        obtain ⟨go48, co48, eo48, gb48, gl48, cl48, HG48⟩ := Kd.R_form HO_6.out (by omega)
                        (first | cases eo48 | (injection eo48 with ea_ en_ ec_; (first | subst ea_ | (injection ea_ with ea_; subst ea_)); subst ec_; clear en_))
                        have GB48 := Aside0.mk gb48
                        have GG48 := Aside0.mk HG48
                        clear gb48 gl48 HG48
                        obtain ⟨hx48_0, hf48_0⟩ := Kd.R_celln 0 HO_6.out (x35_1 : Int) p48 q48
                        replace p48 := eq_true p48
                        replace q48 := eq_true q48
                        have HP49 := Kd.R_putg HO_6.out (x35_1 : Int) x35_1
                        go_wp2_with (first | ((with_reducible refine gate_store (t := 3) (p := 41) rfl ?_); refine store_event (t := 3) (p := 41) (v := ?vo_w50) (w1 := (wr.setCell ⟨go48, (x35_1 : Int).toNat, none⟩ (.int .i64 x35_1))) ?hg ?ho ?hn ?hr ?_; (case ho => rfl); (case hg => rfl); (case hn => rfl); (case hr => first | (go_simp; done) | (go_simp; rfl)); intro w50 hw; have hg : wr.grownBy w50 (some go48) := (by rw [hw]; exact HP49.2); have hp_ : Kd.R (Kd.int .i64) 3 w50 w.heap.size (fun k_ => (w.heap.size ≤ k_)) (.slice (some ⟨go48, 0, none⟩) x6_1.length co44) y112 := (by rw [hw, Ny112.out]; exact HP49.1); clear HP49; replace HO_102000 := Aside0.mk (Kd.V_afterv (v := (.slice (some ⟨go48, 0, none⟩) x6_1.length co44)) (v1 := (.slice (some ⟨go48, 0, none⟩) x6_1.length co44)) (ok := (fun k_ => ((P0_0_ k_ ∨ P0_1_ k_) ∨ w.heap.size ≤ k_) ∧ k_ ≠ gb101 ∧ k_ ≠ gb102)) (by (with_reducible repeat (first | apply Kd.V_alloc | apply Kd.V_drewN | apply Kd.V_drew)); exact Kd.V_mono HO_102000.out (fun _ hk => ⟨⟨hk.1, ⟨hk.2.2.1, hk.2.2.2⟩⟩, hk.2.1⟩)) hg (.inl rfl)); replace HO_102001 := Aside0.mk (Kd.V_afterv (v := (.slice (some ⟨go48, 0, none⟩) x6_1.length co44)) (v1 := (.slice (some ⟨go48, 0, none⟩) x6_1.length co44)) (ok := (fun k_ => ((P0_0_ k_ ∨ P0_1_ k_) ∨ w.heap.size ≤ k_) ∧ k_ ≠ gb101 ∧ k_ ≠ gb102)) (by (with_reducible repeat (first | apply Kd.V_alloc | apply Kd.V_drewN | apply Kd.V_drew)); exact Kd.V_mono HO_102001.out (fun _ hk => ⟨⟨hk.1, ⟨hk.2.2.1, hk.2.2.2⟩⟩, hk.2.1⟩)) hg (.inl rfl)); replace BK101 := kg_ BK101 hg (Kd.R_ne HO_6.out BK101.out (by decide)); replace BK102 := kg_ BK102 hg (Kd.R_ne HO_6.out BK102.out (by decide)); replace HO_6 := Aside0.mk (hp_); replace HB := Aside0.mk ((by rw [hw]; exact below_set (HB.out) GB48.out : Below w.heap.size w w50)); clear hg hw hp_))
                        (try simp only [← hl6_1])
                        go_roundg k1
                        case measure => have := HK1.out; omega
                        case rel => exact ⟨(y112), (wrap64 (x35_1 + 1)), Rf_, H', ⟨by have := HK1.out; omega⟩, ⟨by (try simp only [hl6_1]); (with_reducible repeat (first | apply Kd.R_alloc | apply Kd.R_drewN | apply Kd.R_drew)); exact HO_6.out⟩, ⟨by (try simp only [hl6_1]); (with_reducible repeat (first | apply Kd.V_alloc | apply Kd.V_drewN | apply Kd.V_drew)); exact Kd.V_mono HO_102000.out (fun _ hk => ⟨hk.1.1, ⟨hk.2, ⟨hk.1.2.1, hk.1.2.2⟩⟩⟩)⟩, ⟨by (try simp only [hl6_1]); (with_reducible repeat (first | apply Kd.V_alloc | apply Kd.V_drewN | apply Kd.V_drew)); exact Kd.V_mono HO_102001.out (fun _ hk => ⟨hk.1.1, ⟨hk.2, ⟨hk.1.2.1, hk.1.2.2⟩⟩⟩)⟩, ⟨by (try simp only [hl6_1]); (with_reducible repeat (first | refine blk_drewN ?_ _ | refine blk_drew ?_ | refine blk_alloc ?_ _)); exact BK101.out⟩, ⟨by (try simp only [hl6_1]); (with_reducible repeat (first | refine blk_drewN ?_ _ | refine blk_drew ?_ | refine blk_alloc ?_ _)); exact BK102.out⟩, ⟨Bl_⟩⟩
                      · rw [if_neg c47] at H
                        exact absurd H (by simp)
                    · rw [if_neg c46] at H
                      exact absurd H (by simp)
                  · rw [if_neg c45] at H
                    have c45b0 : decide (x35_1 < (y109.length : Int)) = false := decide_eq_false c45
                    (try simp only [hl6_1] at c45b0)
                    clear c45
                    obtain ⟨⟨t113, t116⟩, A51, H⟩ := bnd_ H
                    try dsimp -simprocs only at H
                    simp only [Option.some.injEq, Prod.mk.injEq] at H
                    obtain ⟨rfl, rfl, rfl⟩ := H
                    go_wp2_with (first | ((with_reducible refine gate_callee (f := 49) rfl ?_); refine goesL_ (some 44) rfl rfl Tryd.func49 (by kernel_rfl) rfl #[.slice Ao44 x6_1.length co44] rfl Ga_ ?_; (with_reducible refine (val_Ints.calls k1 _ _ x6_1 t113 t116 _ ?side1 ?side2 A51.out ?side3).mono ?_); (case side1 => exact Pc_ ((Kd.R_reads' HO_6.out).2.2)); (case side2 => exact (Kd.R_reads' HO_6.out).2.1); (case side3 => first | exact hG | exact Glob.below hG Bl_); rintro e w52 ⟨v114, v117, rfl, ho0, ho1, hb⟩; refine ⟨_, rfl, ?_⟩; replace HO_102000 := Aside0.mk (Kd.V_mono (Kd.V_told (Kd.V_told (Kd.V_old (Pv_ HO_102000.out) hb) (Kd.R_base ho0)) (Kd.R_base ho1)) (fun _ h_ => h_.1)); replace HO_102001 := Aside0.mk (Kd.V_mono (Kd.V_told (Kd.V_told (Kd.V_old (Pv_ HO_102001.out) hb) (Kd.R_base ho0)) (Kd.R_base ho1)) (fun _ h_ => h_.1)); have HO115 := Aside0.mk (Kd.R_lower (Kd.R_new' (Kd.R_newM (M := fun k_ => (w.heap.size ≤ k_)) ho0 Bz_ (fun k_ h_ => h_)) (Kd.R_lt (Pr_ HO_6.out))) Bz_); replace HO_6 := Aside0.mk (Kd.R_elder' (Pr_ HO_6.out) (Kd.R_base ho0) hb); have HO118 := Aside0.mk (Kd.R_lower (Kd.R_newM (M := fun k_ => (w.heap.size ≤ k_)) ho1 Bz_ (fun k_ h_ => h_)) Bz_); replace BK101 := kb_ BK101 hb; replace BK102 := kb_ BK102 hb; replace HB := Bs_ hb; (try clear hb); (try clear hb2); (try clear hk); (try clear hi); (try clear ho0); (try clear ho1); obtain ⟨Ao53, co53, eo53⟩ := Kd.R_slice HO115.out; subst eo53; have hnb54 := NB102_101.out; have hnc54 := NB101_102.out; obtain ⟨hcz55_0, hcz55_1⟩ := c2_ BK102; obtain ⟨hfz55_0, hfz55_1⟩ := f2_ BK102; obtain ⟨Ao56, co56, eo56⟩ := Kd.R_slice HO118.out; subst eo56))
                    refine bodyPost_ret (results_ct rfl _ _ gb102 25 #[.slice Ao53 t113.length co53, .slice Ao56 t116.length co56] (0, 0) _ rfl (by (with_reducible repeat (first | refine blk_drewN ?_ _ | refine blk_drew ?_ | refine blk_alloc ?_ _)); refine blk_put (cs := #[.slice Ao53 t113.length co53, .slice none 0 0]) ?_ 1 _ rfl; (with_reducible repeat (first | refine blk_drewN ?_ _ | refine blk_drew ?_ | refine blk_alloc ?_ _)); refine blk_put (cs := #[.slice none 0 0, .slice none 0 0]) ?_ 0 _ rfl; (with_reducible repeat (first | refine blk_drewN ?_ _ | refine blk_drew ?_ | refine blk_alloc ?_ _)); exact BK102.out) Tryd.underlying25 rfl (by kernel_rfl)) rfl ?_
                    exact ⟨_, _, Re_, by (with_reducible repeat (first | apply Kd.R_alloc | apply Kd.R_drewN | apply Kd.R_drew)); exact Kd.R_mono (Kd.R_far (p := ⟨gb102, 1, none⟩) (Kd.R_far (p := ⟨gb102, 0, none⟩) (Kd.R_types HO115.out BK102.out (by decide)) (fun _ hk => hk.2) (.slice Ao53 t113.length co53)) (fun _ hk => hk.2) (.slice Ao56 t116.length co56)) (fun _ hk => hk.1.1.1), by (with_reducible repeat (first | apply Kd.R_alloc | apply Kd.R_drewN | apply Kd.R_drew)); exact Kd.R_mono (Kd.R_far (p := ⟨gb102, 1, none⟩) (Kd.R_far (p := ⟨gb102, 0, none⟩) (Kd.R_types HO118.out BK102.out (by decide)) (fun _ hk => hk.2) (.slice Ao53 t113.length co53)) (fun _ hk => hk.2) (.slice Ao56 t116.length co56)) (fun _ hk => hk.1.1), Bl_⟩
            · rw [if_neg c31] at H
              exact absurd H (by simp)
          · rw [if_neg c30] at H
            exact absurd H (by simp)
    · rw [if_neg c5] at H
      have c5b0 : (t108 == 0) = false := beq_eq_false_iff_ne.mpr c5
      have c5b1 : (t108 != 0) = true := bne_iff_ne.mpr c5
      simp only [Option.some.injEq, Prod.mk.injEq] at H
      obtain ⟨rfl, rfl, rfl⟩ := H
      go_enter Tryd.func21, Tryd.ntmps21
      go_wp2_with (first | ((with_reducible refine gate_dst (N := 1) rfl ?_); refine bx_ 1 #[.slice A0_0 l0_0.length c0_0, .slice A0_1 l0_1.length c0_1] 25 ?_; intro gb101 hg w57 hbox hb; replace HO0_0 := Aside0.mk (Kd.V_below (Kd.V_elderB (Pv_ HO0_0.out) gb101 (Nat.le_of_eq hg.symm)) hb); replace HO0_1 := Aside0.mk (Kd.V_below (Kd.V_elderB (Pv_ HO0_1.out) gb101 (Nat.le_of_eq hg.symm)) hb); have BK101 := Aside0.mk (hbox); have GW101 := (Bg_ hg : Aside0 (w.heap.size ≤ gb101)); have GE101 := (Bg_ hg : Aside0 (w.heap.size ≤ gb101)); replace HB := Bs_ hb; clear hb hbox hg) | ((with_reducible refine gate_dst (N := 2) rfl ?_); refine bx_ 2 #[.slice none 0 0, .slice none 0 0] 25 ?_; intro gb102 hg w58 hbox hb; replace HO0_0 := Aside0.mk (Kd.V_below (Kd.V_elderB (Pv_ HO0_0.out) gb102 (Nat.le_of_eq hg.symm)) hb); replace HO0_1 := Aside0.mk (Kd.V_below (Kd.V_elderB (Pv_ HO0_1.out) gb102 (Nat.le_of_eq hg.symm)) hb); have BK102 := Aside0.mk (hbox); have GW102 := (Bg_ hg : Aside0 (w.heap.size ≤ gb102)); have GE102 := (Bg_ hg : Aside0 (w.heap.size ≤ gb102)); replace HB := Bs_ hb; have NB101_102 := nl_ hg BK101; have NB102_101 := ng_ hg BK101; replace BK101 := kb_ BK101 hb; clear hb hbox hg; have hnb59 := NB101_102.out; have hnc59 := NB102_101.out; obtain ⟨hcz60_0, hcz60_1⟩ := c2_ BK101; obtain ⟨hfz60_0, hfz60_1⟩ := f2_ BK101) | ((with_reducible refine gate_dst (N := 9) rfl ?_); refine Kd.N_lit k25 _ 25 ?hg (N' := 9) ?hd (xs := ([(⟨l0_0, l0_1⟩ : S25)] : List (S25))) (inner := [.slice A0_0 l0_0.length c0_0, .slice A0_1 l0_1.length c0_1]) (ok := (fun k_ => ((P0_0_ k_ ∨ P0_1_ k_) ∨ w.heap.size ≤ k_) ∧ k_ ≠ gb101 ∧ k_ ≠ gb102)) (okp := (fun k_ => ((P0_0_ k_ ∨ P0_1_ k_) ∨ w.heap.size ≤ k_) ∧ k_ ≠ gb101 ∧ k_ ≠ gb102)) ?hr ?hp (fun _ hk => hk) ((show ∀ k_, w58.heap.size ≤ k_ → (fun k_ => ((P0_0_ k_ ∨ P0_1_ k_) ∨ w.heap.size ≤ k_) ∧ k_ ≠ gb101 ∧ k_ ≠ gb102) k_ from fun k_ hk => ⟨(.inr (Nat.le_trans Bz_ hk)), Kd.freshB (g := gb101) (o := .cells #[.slice A0_0 l0_0.length c0_0, .slice A0_1 l0_1.length c0_1] 25 (0, 0)) (Bk_ BK101.out) k_ hk, Kd.freshB (g := gb102) (o := .cells #[.slice none 0 0, .slice none 0 0] 25 (0, 0)) (Bk_ BK102.out) k_ hk⟩) _ (Nat.le_refl _)) (Below.refl _ _) (Nat.le_refl _) (by simp) ?_; (case hd => rfl); (case hg => rfl); (case hr => first | (go_simp; done) | (go_simp; rfl)); (case hp => exact (Reps.c2 (show Kd.FK k25 _ _ (⟨l0_0, l0_1⟩ : S25) [.slice A0_0 l0_0.length c0_0, .slice A0_1 l0_1.length c0_1] from (k25_mkF _ _ (⟨l0_0, l0_1⟩ : S25) (Kd.V_reads' (Kd.V_mono (ok' := (fun k_ => ((P0_0_ k_ ∨ P0_1_ k_) ∨ w.heap.size ≤ k_) ∧ k_ ≠ gb101 ∧ k_ ≠ gb102)) (HO0_0.out) (fun k_ hk => ⟨hk.1.1, ⟨hk.1.2, hk.2⟩⟩))).2.1 (Kd.V_F (Kd.V_mono (ok' := (fun k_ => ((P0_0_ k_ ∨ P0_1_ k_) ∨ w.heap.size ≤ k_) ∧ k_ ≠ gb101 ∧ k_ ≠ gb102)) (HO0_0.out) (fun k_ hk => ⟨hk.1.1, ⟨hk.1.2, hk.2⟩⟩))) (Kd.V_reads' (Kd.V_mono (ok' := (fun k_ => ((P0_0_ k_ ∨ P0_1_ k_) ∨ w.heap.size ≤ k_) ∧ k_ ≠ gb101 ∧ k_ ≠ gb102)) (HO0_1.out) (fun k_ hk => ⟨hk.1.1, ⟨hk.1.2, hk.2⟩⟩))).2.1 (Kd.V_F (Kd.V_mono (ok' := (fun k_ => ((P0_0_ k_ ∨ P0_1_ k_) ∨ w.heap.size ≤ k_) ∧ k_ ≠ gb101 ∧ k_ ≠ gb102)) (HO0_1.out) (fun k_ hk => ⟨hk.1.1, ⟨hk.1.2, hk.2⟩⟩))))) (Reps.none _ _))); intro v104 w61 ho62 hb hg_ hnew_; clear hg_ hnew_; (first | rw [← Ny103.out] at ho62 | (simp only [Int.reduceToNat] at ho62; rw [← Ny103.out] at ho62)); replace HO0_0 := Aside0.mk (Kd.V_elder' (Pv_ HO0_0.out) (Kd.N_base ho62) hb); replace HO0_1 := Aside0.mk (Kd.V_elder' (Pv_ HO0_1.out) (Kd.N_base ho62) hb); have HO105 := Aside0.mk (Kd.N_lower ho62 Bz_); replace BK101 := kb_ BK101 hb; replace BK102 := kb_ BK102 hb; replace HB := Bs_ hb; clear hb ho62; obtain ⟨Ao63, co63, eo63⟩ := Kd.N_slice HO105.out; subst eo63) | ((with_reducible refine gate_callee (f := 50) rfl ?_); refine goesL_ (some 10) rfl rfl Tryd.func50 (by kernel_rfl) rfl #[.slice Ao63 y103.length co63] rfl Ga_ ?_; (with_reducible refine (mould_fine.calls k _ _ y103 true _ ?side1 ?side2 A2.out).mono ?_); (case side1 => exact Pc_ ((Kd.N_reads' HO105.out).2.2)); (case side2 => exact (Kd.N_reads' HO105.out).2.1); rintro e w64 ⟨rfl, hb⟩; refine ⟨_, rfl, ?_⟩; replace HO0_0 := Aside0.mk (Kd.V_below (Pv_ HO0_0.out) hb); replace HO0_1 := Aside0.mk (Kd.V_below (Pv_ HO0_1.out) hb); replace HO105 := Aside0.mk (Kd.N_below (by (with_reducible repeat (first | apply Kd.N_alloc | apply Kd.N_drewN | apply Kd.N_drew)); exact HO105.out) hb); replace BK101 := kb_ BK101 hb; replace BK102 := kb_ BK102 hb; replace HB := Bs_ hb; (try clear hb); (try clear hb2); (try clear hk); (try clear hi); obtain ⟨hcz65_0, hcz65_1⟩ := c2_ BK101; obtain ⟨hfz65_0, hfz65_1⟩ := f2_ BK101) | ((with_reducible refine gate_callee (f := 51) rfl ?_); refine goesL_ (some 15) rfl rfl Tryd.func51 (by kernel_rfl) rfl #[.agg #[.slice A0_0 l0_0.length c0_0, .slice A0_1 l0_1.length c0_1]] rfl Ga_ ?_; (with_reducible refine (val_Int.calls _ _ l0_0 _ _ l0_1 t107 t108 _ ?side1 ?side2 ?side3 ?side4 A4.out ?side5).mono ?_); (case side1 => exact Pc_ ((Kd.V_reads' HO0_0.out).2.2)); (case side2 => exact (Kd.V_reads' HO0_0.out).2.1); (case side3 => exact Pc_ ((Kd.V_reads' HO0_1.out).2.2)); (case side4 => exact (Kd.V_reads' HO0_1.out).2.1); (case side5 => first | exact hG | exact Glob.below hG Bl_); rintro e w66 ⟨rfl, hb⟩; refine ⟨_, rfl, ?_⟩; replace HO0_0 := Aside0.mk (Kd.V_below (Pv_ HO0_0.out) hb); replace HO0_1 := Aside0.mk (Kd.V_below (Pv_ HO0_1.out) hb); replace HO105 := Aside0.mk (Kd.N_below (by (with_reducible repeat (first | apply Kd.N_alloc | apply Kd.N_drewN | apply Kd.N_drew)); exact HO105.out) hb); replace BK101 := kb_ BK101 hb; replace BK102 := kb_ BK102 hb; replace HB := Bs_ hb; (try clear hb); (try clear hb2); (try clear hk); (try clear hi); obtain ⟨hcz67_0, hcz67_1⟩ := c2_ BK102; obtain ⟨hfz67_0, hfz67_1⟩ := f2_ BK102))
      refine bodyPost_ret (results_ct rfl _ _ gb102 25 #[.slice none 0 0, .slice none 0 0] (0, 0) _ rfl (by (with_reducible repeat (first | refine blk_drewN ?_ _ | refine blk_drew ?_ | refine blk_alloc ?_ _)); refine blk_put (cs := #[.slice none 0 0, .slice none 0 0]) ?_ 1 _ rfl; (with_reducible repeat (first | refine blk_drewN ?_ _ | refine blk_drew ?_ | refine blk_alloc ?_ _)); refine blk_put (cs := #[.slice none 0 0, .slice none 0 0]) ?_ 0 _ rfl; (with_reducible repeat (first | refine blk_drewN ?_ _ | refine blk_drew ?_ | refine blk_alloc ?_ _)); exact BK102.out) Tryd.underlying25 rfl (by kernel_rfl)) rfl ?_
      exact ⟨_, _, Re_, by first | exact Kd.R_nil _ _ _ _ _ | exact Kd.N_nil _ _ _ _ _ | exact Kd.V_nil _ _ _ _ _ | exact Kd.Q_nil _ _ _ _ _ | exact Kd.S_nil _ _ _ _ _, by first | exact Kd.R_nil _ _ _ _ _ | exact Kd.N_nil _ _ _ _ _ | exact Kd.V_nil _ _ _ _ _ | exact Kd.Q_nil _ _ _ _ _ | exact Kd.S_nil _ _ _ _ _, Bl_⟩
  · replace c3 := Bool.eq_false_iff.mpr c3
    subst c3
    have H1 : (some (([] : List Int), ([] : List ByteArray), 1)) = some (r1, r2, r3) := by rw [if_neg (show ¬ (false = true) by decide)] at H; exact H
    clear H
    have H := H1
    clear H1
    simp only [Option.some.injEq, Prod.mk.injEq] at H
    obtain ⟨rfl, rfl, rfl⟩ := H
    go_enter Tryd.func21, Tryd.ntmps21
    go_wp2_with (first | ((with_reducible refine gate_dst (N := 1) rfl ?_); refine bx_ 1 #[.slice A0_0 l0_0.length c0_0, .slice A0_1 l0_1.length c0_1] 25 ?_; intro gb101 hg w68 hbox hb; replace HO0_0 := Aside0.mk (Kd.V_below (Kd.V_elderB (Pv_ HO0_0.out) gb101 (Nat.le_of_eq hg.symm)) hb); replace HO0_1 := Aside0.mk (Kd.V_below (Kd.V_elderB (Pv_ HO0_1.out) gb101 (Nat.le_of_eq hg.symm)) hb); have BK101 := Aside0.mk (hbox); have GW101 := (Bg_ hg : Aside0 (w.heap.size ≤ gb101)); have GE101 := (Bg_ hg : Aside0 (w.heap.size ≤ gb101)); replace HB := Bs_ hb; clear hb hbox hg) | ((with_reducible refine gate_dst (N := 2) rfl ?_); refine bx_ 2 #[.slice none 0 0, .slice none 0 0] 25 ?_; intro gb102 hg w69 hbox hb; replace HO0_0 := Aside0.mk (Kd.V_below (Kd.V_elderB (Pv_ HO0_0.out) gb102 (Nat.le_of_eq hg.symm)) hb); replace HO0_1 := Aside0.mk (Kd.V_below (Kd.V_elderB (Pv_ HO0_1.out) gb102 (Nat.le_of_eq hg.symm)) hb); have BK102 := Aside0.mk (hbox); have GW102 := (Bg_ hg : Aside0 (w.heap.size ≤ gb102)); have GE102 := (Bg_ hg : Aside0 (w.heap.size ≤ gb102)); replace HB := Bs_ hb; have NB101_102 := nl_ hg BK101; have NB102_101 := ng_ hg BK101; replace BK101 := kb_ BK101 hb; clear hb hbox hg; have hnb70 := NB101_102.out; have hnc70 := NB102_101.out; obtain ⟨hcz71_0, hcz71_1⟩ := c2_ BK101; obtain ⟨hfz71_0, hfz71_1⟩ := f2_ BK101) | ((with_reducible refine gate_dst (N := 9) rfl ?_); refine Kd.N_lit k25 _ 25 ?hg (N' := 9) ?hd (xs := ([(⟨l0_0, l0_1⟩ : S25)] : List (S25))) (inner := [.slice A0_0 l0_0.length c0_0, .slice A0_1 l0_1.length c0_1]) (ok := (fun k_ => ((P0_0_ k_ ∨ P0_1_ k_) ∨ w.heap.size ≤ k_) ∧ k_ ≠ gb101 ∧ k_ ≠ gb102)) (okp := (fun k_ => ((P0_0_ k_ ∨ P0_1_ k_) ∨ w.heap.size ≤ k_) ∧ k_ ≠ gb101 ∧ k_ ≠ gb102)) ?hr ?hp (fun _ hk => hk) ((show ∀ k_, w69.heap.size ≤ k_ → (fun k_ => ((P0_0_ k_ ∨ P0_1_ k_) ∨ w.heap.size ≤ k_) ∧ k_ ≠ gb101 ∧ k_ ≠ gb102) k_ from fun k_ hk => ⟨(.inr (Nat.le_trans Bz_ hk)), Kd.freshB (g := gb101) (o := .cells #[.slice A0_0 l0_0.length c0_0, .slice A0_1 l0_1.length c0_1] 25 (0, 0)) (Bk_ BK101.out) k_ hk, Kd.freshB (g := gb102) (o := .cells #[.slice none 0 0, .slice none 0 0] 25 (0, 0)) (Bk_ BK102.out) k_ hk⟩) _ (Nat.le_refl _)) (Below.refl _ _) (Nat.le_refl _) (by simp) ?_; (case hd => rfl); (case hg => rfl); (case hr => first | (go_simp; done) | (go_simp; rfl)); (case hp => exact (Reps.c2 (show Kd.FK k25 _ _ (⟨l0_0, l0_1⟩ : S25) [.slice A0_0 l0_0.length c0_0, .slice A0_1 l0_1.length c0_1] from (k25_mkF _ _ (⟨l0_0, l0_1⟩ : S25) (Kd.V_reads' (Kd.V_mono (ok' := (fun k_ => ((P0_0_ k_ ∨ P0_1_ k_) ∨ w.heap.size ≤ k_) ∧ k_ ≠ gb101 ∧ k_ ≠ gb102)) (HO0_0.out) (fun k_ hk => ⟨hk.1.1, ⟨hk.1.2, hk.2⟩⟩))).2.1 (Kd.V_F (Kd.V_mono (ok' := (fun k_ => ((P0_0_ k_ ∨ P0_1_ k_) ∨ w.heap.size ≤ k_) ∧ k_ ≠ gb101 ∧ k_ ≠ gb102)) (HO0_0.out) (fun k_ hk => ⟨hk.1.1, ⟨hk.1.2, hk.2⟩⟩))) (Kd.V_reads' (Kd.V_mono (ok' := (fun k_ => ((P0_0_ k_ ∨ P0_1_ k_) ∨ w.heap.size ≤ k_) ∧ k_ ≠ gb101 ∧ k_ ≠ gb102)) (HO0_1.out) (fun k_ hk => ⟨hk.1.1, ⟨hk.1.2, hk.2⟩⟩))).2.1 (Kd.V_F (Kd.V_mono (ok' := (fun k_ => ((P0_0_ k_ ∨ P0_1_ k_) ∨ w.heap.size ≤ k_) ∧ k_ ≠ gb101 ∧ k_ ≠ gb102)) (HO0_1.out) (fun k_ hk => ⟨hk.1.1, ⟨hk.1.2, hk.2⟩⟩))))) (Reps.none _ _))); intro v104 w72 ho73 hb hg_ hnew_; clear hg_ hnew_; (first | rw [← Ny103.out] at ho73 | (simp only [Int.reduceToNat] at ho73; rw [← Ny103.out] at ho73)); replace HO0_0 := Aside0.mk (Kd.V_elder' (Pv_ HO0_0.out) (Kd.N_base ho73) hb); replace HO0_1 := Aside0.mk (Kd.V_elder' (Pv_ HO0_1.out) (Kd.N_base ho73) hb); have HO105 := Aside0.mk (Kd.N_lower ho73 Bz_); replace BK101 := kb_ BK101 hb; replace BK102 := kb_ BK102 hb; replace HB := Bs_ hb; clear hb ho73; obtain ⟨Ao74, co74, eo74⟩ := Kd.N_slice HO105.out; subst eo74) | ((with_reducible refine gate_callee (f := 50) rfl ?_); refine goesL_ (some 10) rfl rfl Tryd.func50 (by kernel_rfl) rfl #[.slice Ao74 y103.length co74] rfl Ga_ ?_; (with_reducible refine (mould_fine.calls k _ _ y103 false _ ?side1 ?side2 A2.out).mono ?_); (case side1 => exact Pc_ ((Kd.N_reads' HO105.out).2.2)); (case side2 => exact (Kd.N_reads' HO105.out).2.1); rintro e w75 ⟨rfl, hb⟩; refine ⟨_, rfl, ?_⟩; replace HO0_0 := Aside0.mk (Kd.V_below (Pv_ HO0_0.out) hb); replace HO0_1 := Aside0.mk (Kd.V_below (Pv_ HO0_1.out) hb); replace HO105 := Aside0.mk (Kd.N_below (by (with_reducible repeat (first | apply Kd.N_alloc | apply Kd.N_drewN | apply Kd.N_drew)); exact HO105.out) hb); replace BK101 := kb_ BK101 hb; replace BK102 := kb_ BK102 hb; replace HB := Bs_ hb; (try clear hb); (try clear hb2); (try clear hk); (try clear hi); obtain ⟨hcz76_0, hcz76_1⟩ := c2_ BK102; obtain ⟨hfz76_0, hfz76_1⟩ := f2_ BK102))
    refine bodyPost_ret (results_ct rfl _ _ gb102 25 #[.slice none 0 0, .slice none 0 0] (0, 0) _ rfl (by (with_reducible repeat (first | refine blk_drewN ?_ _ | refine blk_drew ?_ | refine blk_alloc ?_ _)); refine blk_put (cs := #[.slice none 0 0, .slice none 0 0]) ?_ 1 _ rfl; (with_reducible repeat (first | refine blk_drewN ?_ _ | refine blk_drew ?_ | refine blk_alloc ?_ _)); refine blk_put (cs := #[.slice none 0 0, .slice none 0 0]) ?_ 0 _ rfl; (with_reducible repeat (first | refine blk_drewN ?_ _ | refine blk_drew ?_ | refine blk_alloc ?_ _)); exact BK102.out) Tryd.underlying25 rfl (by kernel_rfl)) rfl ?_
    exact ⟨_, _, Re_, by first | exact Kd.R_nil _ _ _ _ _ | exact Kd.N_nil _ _ _ _ _ | exact Kd.V_nil _ _ _ _ _ | exact Kd.Q_nil _ _ _ _ _ | exact Kd.S_nil _ _ _ _ _, by first | exact Kd.R_nil _ _ _ _ _ | exact Kd.N_nil _ _ _ _ _ | exact Kd.V_nil _ _ _ _ _ | exact Kd.Q_nil _ _ _ _ _ | exact Kd.S_nil _ _ _ _ _, Bl_⟩
/-! ### val_Scalar: function 22 -/
def val_Scalar.f (a0 : ByteArray) : Option (List Int × List ByteArray) := some (([] : List Int), (([a0] : List ByteArray)))
set_option maxHeartbeats 8000000 in
set_option maxRecDepth 100000 in
theorem val_Scalar.calls (a0 : ByteArray) (r1 : List Int) (r2 : List ByteArray) (w : World) (h : val_Scalar.f a0 = some (r1, r2)) :
    Calls Tryd.prog 22 #[.string a0] w fun e w' => ∃ v0_ v1_ : Value, e = .returned (.agg #[v0_, v1_]) ∧ Kd.R (Kd.int .i64) 3 w' w.heap.size (fun _ => True) v0_ r1 ∧ Kd.R Kd.string 9 w' w.heap.size (fun _ => True) v1_ r2 ∧ Below w.heap.size w w' := by
  have hu25 := Tryd.underlying25
  have HB := Aside0.mk (Below.refl w.heap.size w)
  have H : (some (([] : List Int), (([a0] : List ByteArray)))) = some (r1, r2) := h
  clear h
  obtain ⟨y102, hy102⟩ : ∃ y_ : List ByteArray, y_ = (([a0] : List ByteArray)) := ⟨_, rfl⟩
  replace H : (some (([] : List Int), y102)) = some (r1, r2) := by first | (rw [hy102]; with_reducible exact H) | (have H2_ := (Option.bind_some _ _).symm.trans H; rw [hy102]; with_reducible exact H2_) | (have H2_ := (Option.bind_some _ _).symm.trans H; with_reducible exact H2_) | with_reducible exact H | (rw [hy102]; exact H) | exact H
  have Ny102 := Aside0.mk hy102
  clear hy102
  simp only [Option.some.injEq, Prod.mk.injEq] at H
  obtain ⟨rfl, rfl⟩ := H
  go_enter Tryd.func22, Tryd.ntmps22
  go_wp2_with (first | ((with_reducible refine gate_dst (N := 2) rfl ?_); refine bx_ 2 #[.slice none 0 0, .slice none 0 0] 25 ?_; intro gb101 hg w2 hbox hb; have BK101 := Aside0.mk (hbox); have GW101 := (Bg_ hg : Aside0 (w.heap.size ≤ gb101)); have GE101 := (Bg_ hg : Aside0 (w.heap.size ≤ gb101)); replace HB := Bs_ hb; clear hb hbox hg) | ((with_reducible refine gate_dst (N := 4) rfl ?_); refine Kd.R_lit Kd.string _ 9 ?hg (N := 4) ?hd (xs := ([a0] : List ByteArray)) (inner := [.string a0]) (ok := fun _ => True) (okp := fun _ => True) ?hr ?hp (fun _ hk => hk) trivial (Below.refl _ _) (Nat.le_refl _) (by simp) ?_; (case hd => rfl); (case hg => rfl); (case hr => first | (go_simp; done) | (go_simp; rfl)); (case hp => exact (Reps.one (show Kd.M Kd.string _ _ _ a0 [.string a0] from rfl) (Reps.none _ _))); intro v103 w3 ho4 hb hg_ hnew_; clear hg_ hnew_; (first | rw [← Ny102.out] at ho4 | (simp only [Int.reduceToNat] at ho4; rw [← Ny102.out] at ho4)); have HO104 := Aside0.mk (Kd.R_lower ho4 Bz_); replace BK101 := kb_ BK101 hb; replace HB := Bs_ hb; clear hb ho4; obtain ⟨Ao5, co5, eo5⟩ := Kd.R_slice HO104.out; subst eo5; obtain ⟨hcz6_0, hcz6_1⟩ := c2_ BK101; obtain ⟨hfz6_0, hfz6_1⟩ := f2_ BK101))
  refine bodyPost_ret (results_cell_row rfl _ _ gb101 25 #[.slice none 0 0, .slice Ao5 y102.length co5] (0, 0) _ rfl (by (with_reducible repeat (first | refine blk_drewN ?_ _ | refine blk_drew ?_ | refine blk_alloc ?_ _)); refine blk_put (cs := #[.slice none 0 0, .slice none 0 0]) ?_ 1 _ rfl; (with_reducible repeat (first | refine blk_drewN ?_ _ | refine blk_drew ?_ | refine blk_alloc ?_ _)); refine blk_put (cs := #[.slice none 0 0, .slice none 0 0]) ?_ 0 _ rfl; (with_reducible repeat (first | refine blk_drewN ?_ _ | refine blk_drew ?_ | refine blk_alloc ?_ _)); exact BK101.out) Tryd.underlying25 rfl (by kernel_rfl)) rfl ?_
  exact ⟨_, _, Re_, by first | exact Kd.R_nil _ _ _ _ _ | exact Kd.N_nil _ _ _ _ _ | exact Kd.V_nil _ _ _ _ _ | exact Kd.Q_nil _ _ _ _ _ | exact Kd.S_nil _ _ _ _ _, by (with_reducible repeat (first | apply Kd.R_alloc | apply Kd.R_drewN | apply Kd.R_drew)); exact Kd.R_mono (Kd.R_far (p := ⟨gb101, 1, none⟩) (Kd.R_far (p := ⟨gb101, 0, none⟩) (Kd.R_types HO104.out BK101.out (by decide)) (fun _ hk => hk.2) (.slice none 0 0)) (fun _ hk => hk.2) (.slice Ao5 y102.length co5)) (fun _ hk => trivial), Bl_⟩
/-! ### reredoslaw14_shown: function 20 -/
def reredoslaw14_shown.f (k : Nat)  : Option (Bool) := (val_Scalar.f (⟨#[54]⟩ : ByteArray)).bind fun bt101 => ((mould_Iota.f k bt101.1 bt101.2).bind fun bt107 => ((val_Ints.f k (([2, 3] : List Int))).bind fun bt118 => ((mould_Reshape.f k bt118.1 bt118.2 bt107.1 bt107.2.1).bind fun bt124 => ((mould_Flip.f k bt124.1 bt124.2.1).bind fun bt132 => (if bt107.2.2 = 0 then (if bt124.2.2 = 0 then (if bt132.2.2 = 0 then ((val_Same.f k bt132.1 bt132.2.1 (([3, 2] : List Int)) (([(⟨#[48]⟩ : ByteArray), (⟨#[51]⟩ : ByteArray), (⟨#[49]⟩ : ByteArray), (⟨#[52]⟩ : ByteArray), (⟨#[50]⟩ : ByteArray), (⟨#[53]⟩ : ByteArray)] : List ByteArray))).bind fun t146 => (some t146)) else (none)) else (none)) else (none))))))
def reredoslaw14_shown.T2 : Bool × List (List Nat × List Nat) := (true, [([], []), ([0], [0]), ([], []), ([1, 2, 1], [1, 2]), ([3], [3]), ([4], [4]), ([4], [4]), ([], []), ([7, 5, 3, 0, 1, 2, 3, 4, 5, 7], [5, 7]), ([6, 8, 0, 1, 2, 3, 4, 5, 6, 7, 8], [6])])
def reredoslaw14_shown.B2 : List Nat := [0, 1, 0, 7, 15, 31, 31, 0, 191, 511]
theorem reredoslaw14_shown.tab2 : rtab .any (opsOf Tryd.f20 2) = reredoslaw14_shown.T2 := by kernel_rfl
theorem reredoslaw14_shown.bits2 : waitsOk reredoslaw14_shown.T2.2 reredoslaw14_shown.B2 = true := by kernel_rfl
set_option maxHeartbeats 8000000 in
set_option maxRecDepth 100000 in
theorem reredoslaw14_shown.calls (k : Nat)  (r : Bool) (w : World) (h : reredoslaw14_shown.f k  = some r) (hG : Glob w) :
    Calls Tryd.prog 20 #[] w fun e w' => e = .returned (.bool r) ∧ Below w.heap.size w w' := by
  have hu25 := Tryd.underlying25
  have HB := Aside0.mk (Below.refl w.heap.size w)
  have H : ((val_Scalar.f (⟨#[54]⟩ : ByteArray)).bind fun bt101 => ((mould_Iota.f k bt101.1 bt101.2).bind fun bt107 => ((val_Ints.f k (([2, 3] : List Int))).bind fun bt118 => ((mould_Reshape.f k bt118.1 bt118.2 bt107.1 bt107.2.1).bind fun bt124 => ((mould_Flip.f k bt124.1 bt124.2.1).bind fun bt132 => (if bt107.2.2 = 0 then (if bt124.2.2 = 0 then (if bt132.2.2 = 0 then ((val_Same.f k bt132.1 bt132.2.1 (([3, 2] : List Int)) (([(⟨#[48]⟩ : ByteArray), (⟨#[51]⟩ : ByteArray), (⟨#[49]⟩ : ByteArray), (⟨#[52]⟩ : ByteArray), (⟨#[50]⟩ : ByteArray), (⟨#[53]⟩ : ByteArray)] : List ByteArray))).bind fun t146 => (some t146)) else (none)) else (none)) else (none))))))) = some r := h
  clear h
  obtain ⟨⟨t101, t104⟩, A1, H⟩ := bnd_ H
  try dsimp -simprocs only at H
  obtain ⟨⟨t107, t110, t113⟩, A2, H⟩ := bnd_ H
  try dsimp -simprocs only at H
  obtain ⟨y115, hy115⟩ : ∃ y_ : List Int, y_ = (([2, 3] : List Int)) := ⟨_, rfl⟩
  replace H : ((val_Ints.f k y115).bind fun bt118 => ((mould_Reshape.f k bt118.1 bt118.2 t107 t110).bind fun bt124 => ((mould_Flip.f k bt124.1 bt124.2.1).bind fun bt132 => (if t113 = 0 then (if bt124.2.2 = 0 then (if bt132.2.2 = 0 then ((val_Same.f k bt132.1 bt132.2.1 (([3, 2] : List Int)) (([(⟨#[48]⟩ : ByteArray), (⟨#[51]⟩ : ByteArray), (⟨#[49]⟩ : ByteArray), (⟨#[52]⟩ : ByteArray), (⟨#[50]⟩ : ByteArray), (⟨#[53]⟩ : ByteArray)] : List ByteArray))).bind fun t146 => (some t146)) else (none)) else (none)) else (none))))) = some r := by first | (rw [hy115]; with_reducible exact H) | (have H2_ := (Option.bind_some _ _).symm.trans H; rw [hy115]; with_reducible exact H2_) | (have H2_ := (Option.bind_some _ _).symm.trans H; with_reducible exact H2_) | with_reducible exact H | (rw [hy115]; exact H) | exact H
  have Ny115 := Aside0.mk hy115
  clear hy115
  obtain ⟨⟨t118, t121⟩, A3, H⟩ := bnd_ H
  try dsimp -simprocs only at H
  obtain ⟨⟨t124, t127, t130⟩, A4, H⟩ := bnd_ H
  try dsimp -simprocs only at H
  obtain ⟨⟨t132, t135, t138⟩, A5, H⟩ := bnd_ H
  try dsimp -simprocs only at H
  by_cases c6 : t113 = 0
  · rw [if_pos c6] at H
    have c6b0 : (t113 == 0) = true := beq_iff_eq.mpr c6
    have c6b1 : (t113 != 0) = false := bne_eq_false_iff_eq.mpr c6
    clear c6
    by_cases c7 : t130 = 0
    · rw [if_pos c7] at H
      have c7b0 : (t130 == 0) = true := beq_iff_eq.mpr c7
      have c7b1 : (t130 != 0) = false := bne_eq_false_iff_eq.mpr c7
      clear c7
      by_cases c8 : t138 = 0
      · rw [if_pos c8] at H
        have c8b0 : (t138 == 0) = true := beq_iff_eq.mpr c8
        have c8b1 : (t138 != 0) = false := bne_eq_false_iff_eq.mpr c8
        clear c8
        obtain ⟨y140, hy140⟩ : ∃ y_ : List Int, y_ = (([3, 2] : List Int)) := ⟨_, rfl⟩
        replace H : ((val_Same.f k t132 t135 y140 (([(⟨#[48]⟩ : ByteArray), (⟨#[51]⟩ : ByteArray), (⟨#[49]⟩ : ByteArray), (⟨#[52]⟩ : ByteArray), (⟨#[50]⟩ : ByteArray), (⟨#[53]⟩ : ByteArray)] : List ByteArray))).bind fun t146 => (some t146)) = some r := by first | (rw [hy140]; with_reducible exact H) | (have H2_ := (Option.bind_some _ _).symm.trans H; rw [hy140]; with_reducible exact H2_) | (have H2_ := (Option.bind_some _ _).symm.trans H; with_reducible exact H2_) | with_reducible exact H | (rw [hy140]; exact H) | exact H
        have Ny140 := Aside0.mk hy140
        clear hy140
        obtain ⟨y143, hy143⟩ : ∃ y_ : List ByteArray, y_ = (([(⟨#[48]⟩ : ByteArray), (⟨#[51]⟩ : ByteArray), (⟨#[49]⟩ : ByteArray), (⟨#[52]⟩ : ByteArray), (⟨#[50]⟩ : ByteArray), (⟨#[53]⟩ : ByteArray)] : List ByteArray)) := ⟨_, rfl⟩
        replace H : ((val_Same.f k t132 t135 y140 y143).bind fun t146 => (some t146)) = some r := by first | (rw [hy143]; with_reducible exact H) | (have H2_ := (Option.bind_some _ _).symm.trans H; rw [hy143]; with_reducible exact H2_) | (have H2_ := (Option.bind_some _ _).symm.trans H; with_reducible exact H2_) | with_reducible exact H | (rw [hy143]; exact H) | exact H
        have Ny143 := Aside0.mk hy143
        clear hy143
        obtain ⟨t146, A9, H⟩ := bnd_ H
        try dsimp -simprocs only at H
        obtain rfl := Option.some.inj H
        go_enter Tryd.func20, Tryd.ntmps20
        try go_wp2_with (first | ((with_reducible refine gate_callee (f := 22) rfl ?_); refine goesL_ (some 8) rfl rfl Tryd.func22 (by kernel_rfl) rfl #[.string (⟨#[54]⟩ : ByteArray)] rfl Ga_ ?_; (with_reducible refine (val_Scalar.calls (⟨#[54]⟩ : ByteArray) t101 t104 _ A1.out).mono ?_); rintro e w10 ⟨v102, v105, rfl, ho0, ho1, hb⟩; refine ⟨_, rfl, ?_⟩; have HO103 := Aside0.mk (Kd.R_lower ho0 Bz_); have HO106 := Aside0.mk (Kd.R_lower ho1 Bz_); replace HB := Bs_ hb; (try clear hb); (try clear hb2); (try clear hk); (try clear hi); (try clear ho0); (try clear ho1); obtain ⟨Ao11, co11, eo11⟩ := Kd.R_slice HO103.out; subst eo11; obtain ⟨Ao12, co12, eo12⟩ := Kd.R_slice HO106.out; subst eo12) | ((with_reducible refine gate_callee (f := 21) rfl ?_); refine goesL_ (some 9) rfl rfl Tryd.func21 (by kernel_rfl) rfl #[.agg #[.slice Ao11 t101.length co11, .slice Ao12 t104.length co12]] rfl Ga_ ?_; (with_reducible refine (mould_Iota.calls k (fun k_ => some k_ = (.slice Ao11 t101.length co11 : Value).ownBlock) _ _ t101 (fun k_ => some k_ = (.slice Ao12 t104.length co12 : Value).ownBlock) _ _ t104 t107 t110 t113 _ ?side1 ?side2 A2.out ?side3).mono ?_); (case side1 => exact Kd.R_V (Kd.R_tight rfl (Kd.R_apart' (HO103.out) (Kd.R_typed HO106.out) (by decide)))); (case side2 => exact Kd.R_V (Kd.R_tight rfl (Kd.R_apart' (HO106.out) (Kd.R_typed HO103.out) (by decide)))); (case side3 => first | exact hG | exact Glob.below hG Bl_); rintro e w13 ⟨v108, v111, rfl, ho0, ho1, hb⟩; refine ⟨_, rfl, ?_⟩; have HO109 := Aside0.mk (Kd.R_lower (Kd.R_new' (Kd.R_mono (ok' := fun k_ => True) ho0 (fun _ hk_ => trivial)) (Kd.R_lt (Pr_ HO103.out))) Bz_); replace HO103 := Aside0.mk (Kd.R_elder' (Pr_ HO103.out) (Kd.R_base ho0) hb); have HO112 := Aside0.mk (Kd.R_lower (Kd.R_new' (Kd.R_mono (ok' := fun k_ => True) ho1 (fun _ hk_ => trivial)) (Kd.R_lt (Pr_ HO106.out))) Bz_); replace HO106 := Aside0.mk (Kd.R_elder' (Pr_ HO106.out) (Kd.R_base ho1) hb); replace HB := Bs_ hb; (try clear hb); (try clear hb2); (try clear hk); (try clear hi); (try clear ho0); (try clear ho1)) | ((with_reducible refine gate_dst (N := 1) rfl ?_); (try (refine gate_guard (by rfl) ?_; dsimp only)); refine bx_ 1 #[.slice none 0 0, .slice none 0 0] 25 ?_; intro gb114 hg w14 hbox hb; replace HO103 := Aside0.mk (Kd.R_below (Pr_ HO103.out) hb); replace HO106 := Aside0.mk (Kd.R_below (Pr_ HO106.out) hb); replace HO109 := Aside0.mk (Kd.R_below (Pr_ HO109.out) hb); replace HO112 := Aside0.mk (Kd.R_below (Pr_ HO112.out) hb); have BK114 := Aside0.mk (hbox); have GW114 := (Bg_ hg : Aside0 (w.heap.size ≤ gb114)); have GE114 := (Bg_ hg : Aside0 (w.heap.size ≤ gb114)); replace HB := Bs_ hb; clear hb hbox hg; obtain ⟨Ao15, co15, eo15⟩ := Kd.R_slice HO109.out; subst eo15; obtain ⟨hcz16_0, hcz16_1⟩ := c2_ BK114; obtain ⟨hfz16_0, hfz16_1⟩ := f2_ BK114; obtain ⟨Ao17, co17, eo17⟩ := Kd.R_slice HO112.out; subst eo17))
        have n0_ : Aside0 (Kd.R (Kd.int .i64) 3 ((w14.setCell ⟨gb114, 0, none⟩ (.slice Ao15 t107.length co15)).setCell ⟨gb114, 1, none⟩ (.slice Ao17 t110.length co17)) w.heap.size (fun k_ => some k_ ≠ (.slice Ao15 t107.length co15 : Value).ownBlock) (.slice Ao11 t101.length co11) t101) := ⟨by (with_reducible repeat (first | apply Kd.R_alloc | apply Kd.R_drewN | apply Kd.R_drew)); exact Kd.R_mono (Kd.R_far (p := ⟨gb114, 1, none⟩) (Kd.R_far (p := ⟨gb114, 0, none⟩) (Kd.R_types HO103.out BK114.out (by decide)) (fun _ hk => hk.2) (.slice Ao15 t107.length co15)) (fun _ hk => hk.2) (.slice Ao17 t110.length co17)) (fun _ hk => hk.1.2)⟩
        have n1_ : Aside0 (Kd.R Kd.string 9 ((w14.setCell ⟨gb114, 0, none⟩ (.slice Ao15 t107.length co15)).setCell ⟨gb114, 1, none⟩ (.slice Ao17 t110.length co17)) w.heap.size (fun k_ => some k_ ≠ (.slice Ao17 t110.length co17 : Value).ownBlock) (.slice Ao12 t104.length co12) t104) := ⟨by (with_reducible repeat (first | apply Kd.R_alloc | apply Kd.R_drewN | apply Kd.R_drew)); exact Kd.R_mono (Kd.R_far (p := ⟨gb114, 1, none⟩) (Kd.R_far (p := ⟨gb114, 0, none⟩) (Kd.R_types HO106.out BK114.out (by decide)) (fun _ hk => hk.2) (.slice Ao15 t107.length co15)) (fun _ hk => hk.2) (.slice Ao17 t110.length co17)) (fun _ hk => hk.1.2)⟩
        have n2_ : Aside0 (Kd.R (Kd.int .i64) 3 ((w14.setCell ⟨gb114, 0, none⟩ (.slice Ao15 t107.length co15)).setCell ⟨gb114, 1, none⟩ (.slice Ao17 t110.length co17)) w.heap.size (fun k_ => some k_ ≠ (.slice Ao11 t101.length co11 : Value).ownBlock) (.slice Ao15 t107.length co15) t107) := ⟨by (with_reducible repeat (first | apply Kd.R_alloc | apply Kd.R_drewN | apply Kd.R_drew)); exact Kd.R_mono (Kd.R_far (p := ⟨gb114, 1, none⟩) (Kd.R_far (p := ⟨gb114, 0, none⟩) (Kd.R_types HO109.out BK114.out (by decide)) (fun _ hk => hk.2) (.slice Ao15 t107.length co15)) (fun _ hk => hk.2) (.slice Ao17 t110.length co17)) (fun _ hk => hk.1.2)⟩
        have n3_ : Aside0 (Kd.R Kd.string 9 ((w14.setCell ⟨gb114, 0, none⟩ (.slice Ao15 t107.length co15)).setCell ⟨gb114, 1, none⟩ (.slice Ao17 t110.length co17)) w.heap.size (fun k_ => some k_ ≠ (.slice Ao12 t104.length co12 : Value).ownBlock) (.slice Ao17 t110.length co17) t110) := ⟨by (with_reducible repeat (first | apply Kd.R_alloc | apply Kd.R_drewN | apply Kd.R_drew)); exact Kd.R_mono (Kd.R_far (p := ⟨gb114, 1, none⟩) (Kd.R_far (p := ⟨gb114, 0, none⟩) (Kd.R_types HO112.out BK114.out (by decide)) (fun _ hk => hk.2) (.slice Ao15 t107.length co15)) (fun _ hk => hk.2) (.slice Ao17 t110.length co17)) (fun _ hk => hk.1.2)⟩
        have n4_ : Aside0 (((w14.setCell ⟨gb114, 0, none⟩ (.slice Ao15 t107.length co15)).setCell ⟨gb114, 1, none⟩ (.slice Ao17 t110.length co17)).heap[gb114]? = some (.cells #[.slice Ao15 t107.length co15, .slice Ao17 t110.length co17] 25 (0, 0))) := ⟨by (with_reducible repeat (first | refine blk_drewN ?_ _ | refine blk_drew ?_ | refine blk_alloc ?_ _)); refine blk_put (cs := #[.slice Ao15 t107.length co15, .slice none 0 0]) ?_ 1 _ rfl; (with_reducible repeat (first | refine blk_drewN ?_ _ | refine blk_drew ?_ | refine blk_alloc ?_ _)); refine blk_put (cs := #[.slice none 0 0, .slice none 0 0]) ?_ 0 _ rfl; (with_reducible repeat (first | refine blk_drewN ?_ _ | refine blk_drew ?_ | refine blk_alloc ?_ _)); exact BK114.out⟩
        have n5_ : Aside0 (Below w.heap.size w ((w14.setCell ⟨gb114, 0, none⟩ (.slice Ao15 t107.length co15)).setCell ⟨gb114, 1, none⟩ (.slice Ao17 t110.length co17))) := ⟨Bl_⟩
        (try clear HO103)
        (try clear HO106)
        (try clear HO109)
        (try clear HO112)
        (try clear BK114)
        (try clear HB)
        generalize ((w14.setCell ⟨gb114, 0, none⟩ (.slice Ao15 t107.length co15)).setCell ⟨gb114, 1, none⟩ (.slice Ao17 t110.length co17)) = w18 at n0_ n1_ n2_ n3_ n4_ n5_ ⊢
        have HO103 := n0_
        have HO106 := n1_
        have HO109 := n2_
        have HO112 := n3_
        have BK114 := n4_
        have HB := n5_
        clear n0_ n1_ n2_ n3_ n4_ n5_
        replace HO103 := Aside0.mk (Kd.R_drew HO103.out)
        replace HO106 := Aside0.mk (Kd.R_drew HO106.out)
        replace HO109 := Aside0.mk (Kd.R_drew HO109.out)
        replace HO112 := Aside0.mk (Kd.R_drew HO112.out)
        replace BK114 := Aside0.mk (blk_drew BK114.out)
        replace HB := Aside0.mk (below_drew1 HB.out)
        refine start_ (n := 10) (S := fun w' => w'.cell? ⟨gb114, 0, none⟩ = some (.slice Ao15 t107.length co15) ∧ w'.cell? ⟨gb114, 1, none⟩ = some (.slice Ao17 t110.length co17)) (ds := []) #[false, false, false, false, false, false, false, false, false, false] (by kernel_rfl) rfl rfl ⟨(blk_cell BK114.out 0).trans rfl, (blk_cell BK114.out 1).trans rfl⟩ (fun hHeld => ?_); refine with_tabW reredoslaw14_shown.tab2 reredoslaw14_shown.bits2 (fun HT_ HW_ => ?_)
        generalize w18.drew = w19 at HO103 HO106 HO109 HO112 BK114 HB hHeld ⊢
        refine take_ (i := 2) (N := some 15) (v := ?_) (a' := ?_) #[false, false, true, false, false, false, false, false, false, false] rfl rfl (take_ofW HT_.out HW_.out (by kernel_rfl)) (fun _ _ _ h => h) (Or.inl ⟨by rfl, ?_⟩) hHeld ?_ ?_
        rotate_left
        · rintro w' ⟨s0, s1⟩
          go_simp
          with_reducible rfl
        rotate_left
        · simp only [Act.put, List.setIfInBounds_toArray, List.set_cons_zero, List.set_cons_succ, i64_w, i32_w]
          rfl
        refine join_ (σ := Value × Value × Value × Value × Value × Nat) 2 #[true, true, true, true, true, true, true, true, false, false] (fun s_ => [(13, s_.1), (14, .agg #[s_.2.1, s_.2.2.1]), (16, .tuple #[.agg #[s_.2.2.2.1, s_.2.2.2.2.1], .int .i64 t130]), (3, .pointer (some ⟨s_.2.2.2.2.2, 0, none⟩)), (12, .tuple #[.agg #[s_.2.2.2.1, s_.2.2.2.2.1], .int .i64 t130]), (17, .agg #[s_.2.2.2.1, s_.2.2.2.2.1]), (18, .int .i64 t130)]) (fun s_ w' => (w'.cell? ⟨gb114, 0, none⟩ = some (.slice Ao15 t107.length co15) ∧ w'.cell? ⟨gb114, 1, none⟩ = some (.slice Ao17 t110.length co17)) ∧ (Kd.R (Kd.int .i64) 3 w' w.heap.size (fun k_ => some k_ ≠ (.slice Ao15 t107.length co15 : Value).ownBlock ∧ some k_ ≠ (s_.1 : Value).ownBlock ∧ some k_ ≠ (s_.2.1 : Value).ownBlock ∧ some k_ ≠ (s_.2.2.2.1 : Value).ownBlock) (.slice Ao11 t101.length co11) t101) ∧ (Kd.R Kd.string 9 w' w.heap.size (fun k_ => some k_ ≠ (.slice Ao17 t110.length co17 : Value).ownBlock ∧ some k_ ≠ (s_.2.2.1 : Value).ownBlock ∧ some k_ ≠ (s_.2.2.2.2.1 : Value).ownBlock) (.slice Ao12 t104.length co12) t104) ∧ (Kd.R (Kd.int .i64) 3 w' w.heap.size (fun k_ => some k_ ≠ (.slice Ao11 t101.length co11 : Value).ownBlock ∧ some k_ ≠ (s_.1 : Value).ownBlock ∧ some k_ ≠ (s_.2.1 : Value).ownBlock ∧ some k_ ≠ (s_.2.2.2.1 : Value).ownBlock) (.slice Ao15 t107.length co15) t107) ∧ (Kd.R Kd.string 9 w' w.heap.size (fun k_ => some k_ ≠ (.slice Ao12 t104.length co12 : Value).ownBlock ∧ some k_ ≠ (s_.2.2.1 : Value).ownBlock ∧ some k_ ≠ (s_.2.2.2.2.1 : Value).ownBlock) (.slice Ao17 t110.length co17) t110) ∧ (Kd.R (Kd.int .i64) 3 w' w.heap.size (fun k_ => some k_ ≠ (.slice Ao11 t101.length co11 : Value).ownBlock ∧ some k_ ≠ (.slice Ao15 t107.length co15 : Value).ownBlock ∧ some k_ ≠ (s_.2.1 : Value).ownBlock ∧ some k_ ≠ (s_.2.2.2.1 : Value).ownBlock) s_.1 y115) ∧ (Kd.R (Kd.int .i64) 3 w' w.heap.size (fun k_ => some k_ ≠ (.slice Ao11 t101.length co11 : Value).ownBlock ∧ some k_ ≠ (.slice Ao15 t107.length co15 : Value).ownBlock ∧ some k_ ≠ (s_.1 : Value).ownBlock ∧ some k_ ≠ (s_.2.2.2.1 : Value).ownBlock) s_.2.1 t118) ∧ (Kd.R Kd.string 9 w' w.heap.size (fun k_ => some k_ ≠ (.slice Ao12 t104.length co12 : Value).ownBlock ∧ some k_ ≠ (.slice Ao17 t110.length co17 : Value).ownBlock ∧ some k_ ≠ (s_.2.2.2.2.1 : Value).ownBlock) s_.2.2.1 t121) ∧ (Kd.R (Kd.int .i64) 3 w' w.heap.size (fun k_ => some k_ ≠ (.slice Ao11 t101.length co11 : Value).ownBlock ∧ some k_ ≠ (.slice Ao15 t107.length co15 : Value).ownBlock ∧ some k_ ≠ (s_.1 : Value).ownBlock ∧ some k_ ≠ (s_.2.1 : Value).ownBlock) s_.2.2.2.1 t124) ∧ (Kd.R Kd.string 9 w' w.heap.size (fun k_ => some k_ ≠ (.slice Ao12 t104.length co12 : Value).ownBlock ∧ some k_ ≠ (.slice Ao17 t110.length co17 : Value).ownBlock ∧ some k_ ≠ (s_.2.2.1 : Value).ownBlock) s_.2.2.2.2.1 t127) ∧ (w'.heap[gb114]? = some (.cells #[.slice Ao15 t107.length co15, .slice Ao17 t110.length co17] 25 (0, 0))) ∧ (w'.heap[s_.2.2.2.2.2]? = some (.cells #[.slice none 0 0, .slice none 0 0] 25 (0, 0))) ∧ (w.heap.size ≤ s_.2.2.2.2.2) ∧ (w.heap.size ≤ s_.2.2.2.2.2) ∧ (gb114 ≠ s_.2.2.2.2.2) ∧ (s_.2.2.2.2.2 ≠ gb114) ∧ (Below w.heap.size w w')) ?_ ?_
        rotate_left
        · intro hCont
          refine two_ (i := 0) (j := 7) (Ni := some 13) (Nj := some 3) #[true, false, true, false, false, false, false, false, false, false] #[false, false, true, false, false, false, false, true, false, false] rfl rfl rfl rfl (two_of HT_.out (by kernel_rfl)) (by decide) (by decide) (fun K hK => ?_) (fun K hK => ?_)
          · skip
            refine Kd.R_lit_step (Kd.int .i64) _ 3 ?hg (N := 13) ?hd (xs := ([2, 3] : List Int)) (inner := [.int .i64 2, .int .i64 3]) (ok := fun _ => True) (okp := fun _ => True) ?hr ?hp (fun _ hk => hk) trivial (Below.refl _ _) (Nat.le_refl _) (by simp) ?_; (case hd => rfl); (case hg => rfl); (case hr => first | (go_simp; done) | (go_simp; rfl)); (case hp => exact (Reps.one (show Kd.M (Kd.int .i64) _ _ _ 2 [.int .i64 2] from rfl) (Reps.one (show Kd.M (Kd.int .i64) _ _ _ 3 [.int .i64 3] from rfl) (Reps.none _ _))))
            intro v116 w20 ho21 hb hg_ hnew_
            clear hg_ hnew_
            (first | rw [← Ny115.out] at ho21 | (simp only [Int.reduceToNat] at ho21; rw [← Ny115.out] at ho21))
            replace HO106 := Aside0.mk (Kd.R_below (Pr_ HO106.out) hb)
            replace HO112 := Aside0.mk (Kd.R_below (Pr_ HO112.out) hb)
            have HO117 := Aside0.mk (Kd.R_lower (Kd.R_new' (Kd.R_new' ho21 (Kd.R_lt (Pr_ HO103.out))) (Kd.R_lt (Pr_ HO109.out))) Bz_)
            replace HO103 := Aside0.mk (Kd.R_elder' (Pr_ HO103.out) (Kd.R_base ho21) hb)
            replace HO109 := Aside0.mk (Kd.R_elder' (Pr_ HO109.out) (Kd.R_base ho21) hb)
            replace BK114 := kb_ BK114 hb
            replace HB := Bs_ hb
            clear hb ho21
            obtain ⟨Ao22, co22, eo22⟩ := Kd.R_slice HO117.out
            (first | subst eo22 | (injection eo22 with f1_ f2_ f3_; have f4_ := f1_.symm; have f5_ := f3_.symm; clear f1_ f2_ f3_; subst f4_; subst f5_))
            refine hK.out _ _ ⟨(blk_cell BK114.out 0).trans rfl, (blk_cell BK114.out 1).trans rfl⟩ (fun hHeld => ?_)
            clear hK K
            refine norm_ (a' := ?_) ?_ ?_
            rotate_left
            · show Act.put _ (some 13) _ = _
              simp only [Act.put, List.setIfInBounds_toArray, List.set_cons_zero, List.set_cons_succ, i64_w, i32_w]
              rfl
            refine two_ (i := 1) (j := 7) (Ni := some 14) (Nj := some 3) #[true, true, true, false, false, false, false, false, false, false] #[true, false, true, false, false, false, false, true, false, false] rfl rfl rfl rfl (two_of HT_.out (by kernel_rfl)) (by decide) (by decide) (fun K hK => ?_) (fun K hK => ?_)
            · skip
              refine goes_ Tryd.func49 (by kernel_rfl) rfl #[.slice Ao22 y115.length co22] (by rfl) rfl rfl Ga_ ?_
              with_reducible refine (val_Ints.calls k _ _ y115 t118 t121 _ ?side1 ?side2 A3.out ?side3).mono ?_
              (case side1 => exact Pc_ ((Kd.R_reads' HO117.out).2.2))
              (case side2 => exact (Kd.R_reads' HO117.out).2.1)
              (case side3 => first | exact hG | exact Glob.below hG Bl_)
              rintro e w23 ⟨v119, v122, rfl, ho0, ho1, hb⟩
              refine ⟨_, rfl, ?_⟩
              have HO120 := Aside0.mk (Kd.R_lower (Kd.R_new' (Kd.R_new' (Kd.R_new' ho0 (Kd.R_lt (Pr_ HO103.out))) (Kd.R_lt (Pr_ HO109.out))) (Kd.R_lt (Pr_ HO117.out))) Bz_)
              replace HO103 := Aside0.mk (Kd.R_elder' (Pr_ HO103.out) (Kd.R_base ho0) hb)
              replace HO109 := Aside0.mk (Kd.R_elder' (Pr_ HO109.out) (Kd.R_base ho0) hb)
              replace HO117 := Aside0.mk (Kd.R_elder' (Pr_ HO117.out) (Kd.R_base ho0) hb)
              have HO123 := Aside0.mk (Kd.R_lower (Kd.R_new' (Kd.R_new' ho1 (Kd.R_lt (Pr_ HO106.out))) (Kd.R_lt (Pr_ HO112.out))) Bz_)
              replace HO106 := Aside0.mk (Kd.R_elder' (Pr_ HO106.out) (Kd.R_base ho1) hb)
              replace HO112 := Aside0.mk (Kd.R_elder' (Pr_ HO112.out) (Kd.R_base ho1) hb)
              replace BK114 := kb_ BK114 hb
              replace HB := Bs_ hb
              (try clear hb)
              (try clear hb2)
              (try clear hk)
              (try clear hi)
              (try clear ho0)
              (try clear ho1)
              obtain ⟨Ao24, co24, eo24⟩ := Kd.R_slice HO120.out
              (first | subst eo24 | (injection eo24 with f1_ f2_ f3_; have f4_ := f1_.symm; have f5_ := f3_.symm; clear f1_ f2_ f3_; subst f4_; subst f5_))
              obtain ⟨Ao25, co25, eo25⟩ := Kd.R_slice HO123.out
              (first | subst eo25 | (injection eo25 with f1_ f2_ f3_; have f4_ := f1_.symm; have f5_ := f3_.symm; clear f1_ f2_ f3_; subst f4_; subst f5_))
              refine hK.out _ _ ⟨(blk_cell BK114.out 0).trans rfl, (blk_cell BK114.out 1).trans rfl⟩ (fun hHeld => ?_)
              clear hK K
              refine norm_ (a' := ?_) ?_ ?_
              rotate_left
              · show Act.put _ (some 14) _ = _
                simp only [Act.put, List.setIfInBounds_toArray, List.set_cons_zero, List.set_cons_succ, i64_w, i32_w]
                rfl
              refine two_ (i := 3) (j := 7) (Ni := some 16) (Nj := some 3) #[true, true, true, true, false, false, false, false, false, false] #[true, true, true, false, false, false, false, true, false, false] rfl rfl rfl rfl (two_of HT_.out (by kernel_rfl)) (by decide) (by decide) (fun K hK => ?_) (fun K hK => ?_)
              · skip
                refine goes_ Tryd.func30 (by kernel_rfl) rfl #[.agg #[.slice Ao24 t118.length co24, .slice Ao25 t121.length co25], .agg #[.slice Ao15 t107.length co15, .slice Ao17 t110.length co17]] (by rfl) rfl rfl Ga_ ?_
                with_reducible refine (mould_Reshape.calls k (fun k_ => some k_ = (.slice Ao24 t118.length co24 : Value).ownBlock) _ _ t118 (fun k_ => some k_ = (.slice Ao25 t121.length co25 : Value).ownBlock) _ _ t121 (fun k_ => some k_ = (.slice Ao15 t107.length co15 : Value).ownBlock) _ _ t107 (fun k_ => some k_ = (.slice Ao17 t110.length co17 : Value).ownBlock) _ _ t110 t124 t127 t130 _ ?side1 ?side2 ?side3 ?side4 A4.out ?side5).mono ?_
                (case side1 => exact Kd.R_V (Kd.R_tight rfl (Kd.R_types (Kd.R_apart' (Kd.R_apart' (Kd.R_apart' (HO120.out) (Kd.R_typed HO106.out) (by decide)) (Kd.R_typed HO112.out) (by decide)) (Kd.R_typed HO123.out) (by decide)) BK114.out (by decide))))
                (case side2 => exact Kd.R_V (Kd.R_tight rfl (Kd.R_types (Kd.R_apart' (Kd.R_apart' (Kd.R_apart' (Kd.R_apart' (HO123.out) (Kd.R_typed HO103.out) (by decide)) (Kd.R_typed HO109.out) (by decide)) (Kd.R_typed HO117.out) (by decide)) (Kd.R_typed HO120.out) (by decide)) BK114.out (by decide))))
                (case side3 => exact Kd.R_V (Kd.R_tight rfl (Kd.R_types (Kd.R_apart' (Kd.R_apart' (Kd.R_apart' (HO109.out) (Kd.R_typed HO106.out) (by decide)) (Kd.R_typed HO112.out) (by decide)) (Kd.R_typed HO123.out) (by decide)) BK114.out (by decide))))
                (case side4 => exact Kd.R_V (Kd.R_tight rfl (Kd.R_types (Kd.R_apart' (Kd.R_apart' (Kd.R_apart' (Kd.R_apart' (HO112.out) (Kd.R_typed HO103.out) (by decide)) (Kd.R_typed HO109.out) (by decide)) (Kd.R_typed HO117.out) (by decide)) (Kd.R_typed HO120.out) (by decide)) BK114.out (by decide))))
                (case side5 => first | exact hG | exact Glob.below hG Bl_)
                rintro e w26 ⟨v125, v128, rfl, ho0, ho1, hb⟩
                refine ⟨_, rfl, ?_⟩
                have HO126 := Aside0.mk (Kd.R_lower (Kd.R_new' (Kd.R_new' (Kd.R_new' (Kd.R_new' (Kd.R_mono (ok' := fun k_ => True) ho0 (fun _ hk_ => trivial)) (Kd.R_lt (Pr_ HO103.out))) (Kd.R_lt (Pr_ HO109.out))) (Kd.R_lt (Pr_ HO117.out))) (Kd.R_lt (Pr_ HO120.out))) Bz_)
                replace HO103 := Aside0.mk (Kd.R_elder' (Pr_ HO103.out) (Kd.R_base ho0) hb)
                replace HO109 := Aside0.mk (Kd.R_elder' (Pr_ HO109.out) (Kd.R_base ho0) hb)
                replace HO117 := Aside0.mk (Kd.R_elder' (Pr_ HO117.out) (Kd.R_base ho0) hb)
                replace HO120 := Aside0.mk (Kd.R_elder' (Pr_ HO120.out) (Kd.R_base ho0) hb)
                have HO129 := Aside0.mk (Kd.R_lower (Kd.R_new' (Kd.R_new' (Kd.R_new' (Kd.R_mono (ok' := fun k_ => True) ho1 (fun _ hk_ => trivial)) (Kd.R_lt (Pr_ HO106.out))) (Kd.R_lt (Pr_ HO112.out))) (Kd.R_lt (Pr_ HO123.out))) Bz_)
                replace HO106 := Aside0.mk (Kd.R_elder' (Pr_ HO106.out) (Kd.R_base ho1) hb)
                replace HO112 := Aside0.mk (Kd.R_elder' (Pr_ HO112.out) (Kd.R_base ho1) hb)
                replace HO123 := Aside0.mk (Kd.R_elder' (Pr_ HO123.out) (Kd.R_base ho1) hb)
                replace BK114 := kb_ BK114 hb
                replace HB := Bs_ hb
                (try clear hb)
                (try clear hb2)
                (try clear hk)
                (try clear hi)
                (try clear ho0)
                (try clear ho1)
                refine hK.out _ _ ⟨(blk_cell BK114.out 0).trans rfl, (blk_cell BK114.out 1).trans rfl⟩ (fun hHeld => ?_)
                clear hK K
                refine norm_ (a' := ?_) ?_ ?_
                rotate_left
                · show Act.put _ (some 16) _ = _
                  simp only [Act.put, List.setIfInBounds_toArray, List.set_cons_zero, List.set_cons_succ, i64_w, i32_w]
                  rfl
                refine pu_ 4 (some 12) HT_ #[true, true, true, true, true, false, false, false, false, false] ?_
                refine pu_ 5 (some 17) HT_ #[true, true, true, true, true, true, false, false, false, false] ?_
                refine pu_ 6 (some 18) HT_ #[true, true, true, true, true, true, true, false, false, false] ?_
                refine one_ (i := 7) (N := some 3) #[true, true, true, true, true, true, true, true, false, false] rfl rfl (one_of HT_.out (by kernel_rfl)) (by decide) (fun K hK => ?_)
                refine box_step ?hg (N := 3) ?hd (cs := #[.slice none 0 0, .slice none 0 0]) (t := 25) ?hr ?_; (case hd => rfl); (case hg => rfl); (case hr => first | (go_simp; done) | (go_simp; rfl))
                intro gb131 hg w27 hbox hb
                replace HO103 := Aside0.mk (Kd.R_below (Pr_ HO103.out) hb)
                replace HO106 := Aside0.mk (Kd.R_below (Pr_ HO106.out) hb)
                replace HO109 := Aside0.mk (Kd.R_below (Pr_ HO109.out) hb)
                replace HO112 := Aside0.mk (Kd.R_below (Pr_ HO112.out) hb)
                replace HO117 := Aside0.mk (Kd.R_below (Pr_ HO117.out) hb)
                replace HO120 := Aside0.mk (Kd.R_below (Pr_ HO120.out) hb)
                replace HO123 := Aside0.mk (Kd.R_below (Pr_ HO123.out) hb)
                replace HO126 := Aside0.mk (Kd.R_below (Pr_ HO126.out) hb)
                replace HO129 := Aside0.mk (Kd.R_below (Pr_ HO129.out) hb)
                have BK131 := Aside0.mk (hbox)
                have GW131 := (Bg_ hg : Aside0 (w.heap.size ≤ gb131))
                have GE131 := (Bg_ hg : Aside0 (w.heap.size ≤ gb131))
                replace HB := Bs_ hb
                have NB114_131 := nl_ hg BK114
                have NB131_114 := ng_ hg BK114
                replace BK114 := kb_ BK114 hb
                clear hb hbox hg
                refine hK.out _ _ ⟨(blk_cell BK114.out 0).trans rfl, (blk_cell BK114.out 1).trans rfl⟩ (fun hHeld => ?_)
                clear hK K
                refine norm_ (a' := ?_) ?_ ?_
                rotate_left
                · show Act.put _ (some 3) _ = _
                  simp only [Act.put, List.setIfInBounds_toArray, List.set_cons_zero, List.set_cons_succ, i64_w, i32_w]
                  rfl
                exact norm_ (by simp only [putAll, Act.put, List.setIfInBounds_toArray, List.set_cons_zero, List.set_cons_succ]) (hCont (.slice Ao22 y115.length co22, .slice Ao24 t118.length co24, .slice Ao25 t121.length co25, v125, v128, gb131) _ ⟨hHeld, (by (with_reducible repeat (first | apply Kd.R_alloc | apply Kd.R_drewN | apply Kd.R_drew)); exact Kd.R_mono HO103.out (fun _ hk => ⟨hk.1.1.1, ⟨hk.1.1.2, ⟨hk.1.2, hk.2⟩⟩⟩)), (by (with_reducible repeat (first | apply Kd.R_alloc | apply Kd.R_drewN | apply Kd.R_drew)); exact Kd.R_mono HO106.out (fun _ hk => ⟨hk.1.1, ⟨hk.1.2, hk.2⟩⟩)), (by (with_reducible repeat (first | apply Kd.R_alloc | apply Kd.R_drewN | apply Kd.R_drew)); exact Kd.R_mono HO109.out (fun _ hk => ⟨hk.1.1.1, ⟨hk.1.1.2, ⟨hk.1.2, hk.2⟩⟩⟩)), (by (with_reducible repeat (first | apply Kd.R_alloc | apply Kd.R_drewN | apply Kd.R_drew)); exact Kd.R_mono HO112.out (fun _ hk => ⟨hk.1.1, ⟨hk.1.2, hk.2⟩⟩)), (by (with_reducible repeat (first | apply Kd.R_alloc | apply Kd.R_drewN | apply Kd.R_drew)); exact Kd.R_mono HO117.out (fun _ hk => ⟨hk.1.1.1.2, ⟨hk.1.1.2, ⟨hk.1.2, hk.2⟩⟩⟩)), (by (with_reducible repeat (first | apply Kd.R_alloc | apply Kd.R_drewN | apply Kd.R_drew)); exact Kd.R_mono HO120.out (fun _ hk => ⟨hk.1.1.1.2, ⟨hk.1.1.2, ⟨hk.1.2, hk.2⟩⟩⟩)), (by (with_reducible repeat (first | apply Kd.R_alloc | apply Kd.R_drewN | apply Kd.R_drew)); exact Kd.R_mono HO123.out (fun _ hk => ⟨hk.1.1.2, ⟨hk.1.2, hk.2⟩⟩)), (by (with_reducible repeat (first | apply Kd.R_alloc | apply Kd.R_drewN | apply Kd.R_drew)); exact Kd.R_mono HO126.out (fun _ hk => ⟨hk.1.1.1.2, ⟨hk.1.1.2, ⟨hk.1.2, hk.2⟩⟩⟩)), (by (with_reducible repeat (first | apply Kd.R_alloc | apply Kd.R_drewN | apply Kd.R_drew)); exact Kd.R_mono HO129.out (fun _ hk => ⟨hk.1.1.2, ⟨hk.1.2, hk.2⟩⟩)), (Bk_ BK114.out), (Bk_ BK131.out), GW131.out, GE131.out, NB114_131.out, NB131_114.out, Bl_⟩)
              · skip
                refine box_step ?hg (N := 3) ?hd (cs := #[.slice none 0 0, .slice none 0 0]) (t := 25) ?hr ?_; (case hd => rfl); (case hg => rfl); (case hr => first | (go_simp; done) | (go_simp; rfl))
                intro gb131 hg w24 hbox hb
                replace HO103 := Aside0.mk (Kd.R_below (Pr_ HO103.out) hb)
                replace HO106 := Aside0.mk (Kd.R_below (Pr_ HO106.out) hb)
                replace HO109 := Aside0.mk (Kd.R_below (Pr_ HO109.out) hb)
                replace HO112 := Aside0.mk (Kd.R_below (Pr_ HO112.out) hb)
                replace HO117 := Aside0.mk (Kd.R_below (Pr_ HO117.out) hb)
                replace HO120 := Aside0.mk (Kd.R_below (Pr_ HO120.out) hb)
                replace HO123 := Aside0.mk (Kd.R_below (Pr_ HO123.out) hb)
                have BK131 := Aside0.mk (hbox)
                have GW131 := (Bg_ hg : Aside0 (w.heap.size ≤ gb131))
                have GE131 := (Bg_ hg : Aside0 (w.heap.size ≤ gb131))
                replace HB := Bs_ hb
                have NB114_131 := nl_ hg BK114
                have NB131_114 := ng_ hg BK114
                replace BK114 := kb_ BK114 hb
                clear hb hbox hg
                obtain ⟨Ao25, co25, eo25⟩ := Kd.R_slice HO120.out
                (first | subst eo25 | (injection eo25 with f1_ f2_ f3_; have f4_ := f1_.symm; have f5_ := f3_.symm; clear f1_ f2_ f3_; subst f4_; subst f5_))
                obtain ⟨Ao26, co26, eo26⟩ := Kd.R_slice HO123.out
                (first | subst eo26 | (injection eo26 with f1_ f2_ f3_; have f4_ := f1_.symm; have f5_ := f3_.symm; clear f1_ f2_ f3_; subst f4_; subst f5_))
                refine hK.out _ _ ⟨(blk_cell BK114.out 0).trans rfl, (blk_cell BK114.out 1).trans rfl⟩ (fun hHeld => ?_)
                clear hK K
                refine norm_ (a' := ?_) ?_ ?_
                rotate_left
                · show Act.put _ (some 3) _ = _
                  simp only [Act.put, List.setIfInBounds_toArray, List.set_cons_zero, List.set_cons_succ, i64_w, i32_w]
                  rfl
                refine one_ (i := 3) (N := some 16) #[true, true, true, true, false, false, false, true, false, false] rfl rfl (one_of HT_.out (by kernel_rfl)) (by decide) (fun K hK => ?_)
                refine goes_ Tryd.func30 (by kernel_rfl) rfl #[.agg #[.slice Ao25 t118.length co25, .slice Ao26 t121.length co26], .agg #[.slice Ao15 t107.length co15, .slice Ao17 t110.length co17]] (by rfl) rfl rfl Ga_ ?_
                with_reducible refine (mould_Reshape.calls k (fun k_ => some k_ = (.slice Ao25 t118.length co25 : Value).ownBlock) _ _ t118 (fun k_ => some k_ = (.slice Ao26 t121.length co26 : Value).ownBlock) _ _ t121 (fun k_ => some k_ = (.slice Ao15 t107.length co15 : Value).ownBlock) _ _ t107 (fun k_ => some k_ = (.slice Ao17 t110.length co17 : Value).ownBlock) _ _ t110 t124 t127 t130 _ ?side1 ?side2 ?side3 ?side4 A4.out ?side5).mono ?_
                (case side1 => exact Kd.R_V (Kd.R_tight rfl (Kd.R_types (Kd.R_types (Kd.R_apart' (Kd.R_apart' (Kd.R_apart' (HO120.out) (Kd.R_typed HO106.out) (by decide)) (Kd.R_typed HO112.out) (by decide)) (Kd.R_typed HO123.out) (by decide)) BK114.out (by decide)) BK131.out (by decide))))
                (case side2 => exact Kd.R_V (Kd.R_tight rfl (Kd.R_types (Kd.R_types (Kd.R_apart' (Kd.R_apart' (Kd.R_apart' (Kd.R_apart' (HO123.out) (Kd.R_typed HO103.out) (by decide)) (Kd.R_typed HO109.out) (by decide)) (Kd.R_typed HO117.out) (by decide)) (Kd.R_typed HO120.out) (by decide)) BK114.out (by decide)) BK131.out (by decide))))
                (case side3 => exact Kd.R_V (Kd.R_tight rfl (Kd.R_types (Kd.R_types (Kd.R_apart' (Kd.R_apart' (Kd.R_apart' (HO109.out) (Kd.R_typed HO106.out) (by decide)) (Kd.R_typed HO112.out) (by decide)) (Kd.R_typed HO123.out) (by decide)) BK114.out (by decide)) BK131.out (by decide))))
                (case side4 => exact Kd.R_V (Kd.R_tight rfl (Kd.R_types (Kd.R_types (Kd.R_apart' (Kd.R_apart' (Kd.R_apart' (Kd.R_apart' (HO112.out) (Kd.R_typed HO103.out) (by decide)) (Kd.R_typed HO109.out) (by decide)) (Kd.R_typed HO117.out) (by decide)) (Kd.R_typed HO120.out) (by decide)) BK114.out (by decide)) BK131.out (by decide))))
                (case side5 => first | exact hG | exact Glob.below hG Bl_)
                rintro e w27 ⟨v125, v128, rfl, ho0, ho1, hb⟩
                refine ⟨_, rfl, ?_⟩
                have HO126 := Aside0.mk (Kd.R_lower (Kd.R_new' (Kd.R_new' (Kd.R_new' (Kd.R_new' (Kd.R_mono (ok' := fun k_ => True) ho0 (fun _ hk_ => trivial)) (Kd.R_lt (Pr_ HO103.out))) (Kd.R_lt (Pr_ HO109.out))) (Kd.R_lt (Pr_ HO117.out))) (Kd.R_lt (Pr_ HO120.out))) Bz_)
                replace HO103 := Aside0.mk (Kd.R_elder' (Pr_ HO103.out) (Kd.R_base ho0) hb)
                replace HO109 := Aside0.mk (Kd.R_elder' (Pr_ HO109.out) (Kd.R_base ho0) hb)
                replace HO117 := Aside0.mk (Kd.R_elder' (Pr_ HO117.out) (Kd.R_base ho0) hb)
                replace HO120 := Aside0.mk (Kd.R_elder' (Pr_ HO120.out) (Kd.R_base ho0) hb)
                have HO129 := Aside0.mk (Kd.R_lower (Kd.R_new' (Kd.R_new' (Kd.R_new' (Kd.R_mono (ok' := fun k_ => True) ho1 (fun _ hk_ => trivial)) (Kd.R_lt (Pr_ HO106.out))) (Kd.R_lt (Pr_ HO112.out))) (Kd.R_lt (Pr_ HO123.out))) Bz_)
                replace HO106 := Aside0.mk (Kd.R_elder' (Pr_ HO106.out) (Kd.R_base ho1) hb)
                replace HO112 := Aside0.mk (Kd.R_elder' (Pr_ HO112.out) (Kd.R_base ho1) hb)
                replace HO123 := Aside0.mk (Kd.R_elder' (Pr_ HO123.out) (Kd.R_base ho1) hb)
                replace BK114 := kb_ BK114 hb
                replace BK131 := kb_ BK131 hb
                replace HB := Bs_ hb
                (try clear hb)
                (try clear hb2)
                (try clear hk)
                (try clear hi)
                (try clear ho0)
                (try clear ho1)
                refine hK.out _ _ ⟨(blk_cell BK114.out 0).trans rfl, (blk_cell BK114.out 1).trans rfl⟩ (fun hHeld => ?_)
                clear hK K
                refine norm_ (a' := ?_) ?_ ?_
                rotate_left
                · show Act.put _ (some 16) _ = _
                  simp only [Act.put, List.setIfInBounds_toArray, List.set_cons_zero, List.set_cons_succ, i64_w, i32_w]
                  rfl
                refine pu_ 4 (some 12) HT_ #[true, true, true, true, true, false, false, true, false, false] ?_
                refine pu_ 5 (some 17) HT_ #[true, true, true, true, true, true, false, true, false, false] ?_
                refine pu_ 6 (some 18) HT_ #[true, true, true, true, true, true, true, true, false, false] ?_
                exact norm_ (by simp only [putAll, Act.put, List.setIfInBounds_toArray, List.set_cons_zero, List.set_cons_succ]) (hCont (.slice Ao22 y115.length co22, .slice Ao25 t118.length co25, .slice Ao26 t121.length co26, v125, v128, gb131) _ ⟨hHeld, (by (with_reducible repeat (first | apply Kd.R_alloc | apply Kd.R_drewN | apply Kd.R_drew)); exact Kd.R_mono HO103.out (fun _ hk => ⟨hk.1.1.1, ⟨hk.1.1.2, ⟨hk.1.2, hk.2⟩⟩⟩)), (by (with_reducible repeat (first | apply Kd.R_alloc | apply Kd.R_drewN | apply Kd.R_drew)); exact Kd.R_mono HO106.out (fun _ hk => ⟨hk.1.1, ⟨hk.1.2, hk.2⟩⟩)), (by (with_reducible repeat (first | apply Kd.R_alloc | apply Kd.R_drewN | apply Kd.R_drew)); exact Kd.R_mono HO109.out (fun _ hk => ⟨hk.1.1.1, ⟨hk.1.1.2, ⟨hk.1.2, hk.2⟩⟩⟩)), (by (with_reducible repeat (first | apply Kd.R_alloc | apply Kd.R_drewN | apply Kd.R_drew)); exact Kd.R_mono HO112.out (fun _ hk => ⟨hk.1.1, ⟨hk.1.2, hk.2⟩⟩)), (by (with_reducible repeat (first | apply Kd.R_alloc | apply Kd.R_drewN | apply Kd.R_drew)); exact Kd.R_mono HO117.out (fun _ hk => ⟨hk.1.1.1.2, ⟨hk.1.1.2, ⟨hk.1.2, hk.2⟩⟩⟩)), (by (with_reducible repeat (first | apply Kd.R_alloc | apply Kd.R_drewN | apply Kd.R_drew)); exact Kd.R_mono HO120.out (fun _ hk => ⟨hk.1.1.1.2, ⟨hk.1.1.2, ⟨hk.1.2, hk.2⟩⟩⟩)), (by (with_reducible repeat (first | apply Kd.R_alloc | apply Kd.R_drewN | apply Kd.R_drew)); exact Kd.R_mono HO123.out (fun _ hk => ⟨hk.1.1.2, ⟨hk.1.2, hk.2⟩⟩)), (by (with_reducible repeat (first | apply Kd.R_alloc | apply Kd.R_drewN | apply Kd.R_drew)); exact Kd.R_mono HO126.out (fun _ hk => ⟨hk.1.1.1.2, ⟨hk.1.1.2, ⟨hk.1.2, hk.2⟩⟩⟩)), (by (with_reducible repeat (first | apply Kd.R_alloc | apply Kd.R_drewN | apply Kd.R_drew)); exact Kd.R_mono HO129.out (fun _ hk => ⟨hk.1.1.2, ⟨hk.1.2, hk.2⟩⟩)), (Bk_ BK114.out), (Bk_ BK131.out), GW131.out, GE131.out, NB114_131.out, NB131_114.out, Bl_⟩)
            · skip
              refine box_step ?hg (N := 3) ?hd (cs := #[.slice none 0 0, .slice none 0 0]) (t := 25) ?hr ?_; (case hd => rfl); (case hg => rfl); (case hr => first | (go_simp; done) | (go_simp; rfl))
              intro gb131 hg w22 hbox hb
              replace HO103 := Aside0.mk (Kd.R_below (Pr_ HO103.out) hb)
              replace HO106 := Aside0.mk (Kd.R_below (Pr_ HO106.out) hb)
              replace HO109 := Aside0.mk (Kd.R_below (Pr_ HO109.out) hb)
              replace HO112 := Aside0.mk (Kd.R_below (Pr_ HO112.out) hb)
              replace HO117 := Aside0.mk (Kd.R_below (Pr_ HO117.out) hb)
              have BK131 := Aside0.mk (hbox)
              have GW131 := (Bg_ hg : Aside0 (w.heap.size ≤ gb131))
              have GE131 := (Bg_ hg : Aside0 (w.heap.size ≤ gb131))
              replace HB := Bs_ hb
              have NB114_131 := nl_ hg BK114
              have NB131_114 := ng_ hg BK114
              replace BK114 := kb_ BK114 hb
              clear hb hbox hg
              obtain ⟨Ao23, co23, eo23⟩ := Kd.R_slice HO117.out
              (first | subst eo23 | (injection eo23 with f1_ f2_ f3_; have f4_ := f1_.symm; have f5_ := f3_.symm; clear f1_ f2_ f3_; subst f4_; subst f5_))
              refine hK.out _ _ ⟨(blk_cell BK114.out 0).trans rfl, (blk_cell BK114.out 1).trans rfl⟩ (fun hHeld => ?_)
              clear hK K
              refine norm_ (a' := ?_) ?_ ?_
              rotate_left
              · show Act.put _ (some 3) _ = _
                simp only [Act.put, List.setIfInBounds_toArray, List.set_cons_zero, List.set_cons_succ, i64_w, i32_w]
                rfl
              refine one_ (i := 1) (N := some 14) #[true, true, true, false, false, false, false, true, false, false] rfl rfl (one_of HT_.out (by kernel_rfl)) (by decide) (fun K hK => ?_)
              refine goes_ Tryd.func49 (by kernel_rfl) rfl #[.slice Ao23 y115.length co23] (by rfl) rfl rfl Ga_ ?_
              with_reducible refine (val_Ints.calls k _ _ y115 t118 t121 _ ?side1 ?side2 A3.out ?side3).mono ?_
              (case side1 => exact Pc_ ((Kd.R_reads' HO117.out).2.2))
              (case side2 => exact (Kd.R_reads' HO117.out).2.1)
              (case side3 => first | exact hG | exact Glob.below hG Bl_)
              rintro e w24 ⟨v119, v122, rfl, ho0, ho1, hb⟩
              refine ⟨_, rfl, ?_⟩
              have HO120 := Aside0.mk (Kd.R_lower (Kd.R_new' (Kd.R_new' (Kd.R_new' ho0 (Kd.R_lt (Pr_ HO103.out))) (Kd.R_lt (Pr_ HO109.out))) (Kd.R_lt (Pr_ HO117.out))) Bz_)
              replace HO103 := Aside0.mk (Kd.R_elder' (Pr_ HO103.out) (Kd.R_base ho0) hb)
              replace HO109 := Aside0.mk (Kd.R_elder' (Pr_ HO109.out) (Kd.R_base ho0) hb)
              replace HO117 := Aside0.mk (Kd.R_elder' (Pr_ HO117.out) (Kd.R_base ho0) hb)
              have HO123 := Aside0.mk (Kd.R_lower (Kd.R_new' (Kd.R_new' ho1 (Kd.R_lt (Pr_ HO106.out))) (Kd.R_lt (Pr_ HO112.out))) Bz_)
              replace HO106 := Aside0.mk (Kd.R_elder' (Pr_ HO106.out) (Kd.R_base ho1) hb)
              replace HO112 := Aside0.mk (Kd.R_elder' (Pr_ HO112.out) (Kd.R_base ho1) hb)
              replace BK114 := kb_ BK114 hb
              replace BK131 := kb_ BK131 hb
              replace HB := Bs_ hb
              (try clear hb)
              (try clear hb2)
              (try clear hk)
              (try clear hi)
              (try clear ho0)
              (try clear ho1)
              obtain ⟨Ao25, co25, eo25⟩ := Kd.R_slice HO120.out
              (first | subst eo25 | (injection eo25 with f1_ f2_ f3_; have f4_ := f1_.symm; have f5_ := f3_.symm; clear f1_ f2_ f3_; subst f4_; subst f5_))
              obtain ⟨Ao26, co26, eo26⟩ := Kd.R_slice HO123.out
              (first | subst eo26 | (injection eo26 with f1_ f2_ f3_; have f4_ := f1_.symm; have f5_ := f3_.symm; clear f1_ f2_ f3_; subst f4_; subst f5_))
              refine hK.out _ _ ⟨(blk_cell BK114.out 0).trans rfl, (blk_cell BK114.out 1).trans rfl⟩ (fun hHeld => ?_)
              clear hK K
              refine norm_ (a' := ?_) ?_ ?_
              rotate_left
              · show Act.put _ (some 14) _ = _
                simp only [Act.put, List.setIfInBounds_toArray, List.set_cons_zero, List.set_cons_succ, i64_w, i32_w]
                rfl
              refine one_ (i := 3) (N := some 16) #[true, true, true, true, false, false, false, true, false, false] rfl rfl (one_of HT_.out (by kernel_rfl)) (by decide) (fun K hK => ?_)
              refine goes_ Tryd.func30 (by kernel_rfl) rfl #[.agg #[.slice Ao25 t118.length co25, .slice Ao26 t121.length co26], .agg #[.slice Ao15 t107.length co15, .slice Ao17 t110.length co17]] (by rfl) rfl rfl Ga_ ?_
              with_reducible refine (mould_Reshape.calls k (fun k_ => some k_ = (.slice Ao25 t118.length co25 : Value).ownBlock) _ _ t118 (fun k_ => some k_ = (.slice Ao26 t121.length co26 : Value).ownBlock) _ _ t121 (fun k_ => some k_ = (.slice Ao15 t107.length co15 : Value).ownBlock) _ _ t107 (fun k_ => some k_ = (.slice Ao17 t110.length co17 : Value).ownBlock) _ _ t110 t124 t127 t130 _ ?side1 ?side2 ?side3 ?side4 A4.out ?side5).mono ?_
              (case side1 => exact Kd.R_V (Kd.R_tight rfl (Kd.R_types (Kd.R_types (Kd.R_apart' (Kd.R_apart' (Kd.R_apart' (HO120.out) (Kd.R_typed HO106.out) (by decide)) (Kd.R_typed HO112.out) (by decide)) (Kd.R_typed HO123.out) (by decide)) BK114.out (by decide)) BK131.out (by decide))))
              (case side2 => exact Kd.R_V (Kd.R_tight rfl (Kd.R_types (Kd.R_types (Kd.R_apart' (Kd.R_apart' (Kd.R_apart' (Kd.R_apart' (HO123.out) (Kd.R_typed HO103.out) (by decide)) (Kd.R_typed HO109.out) (by decide)) (Kd.R_typed HO117.out) (by decide)) (Kd.R_typed HO120.out) (by decide)) BK114.out (by decide)) BK131.out (by decide))))
              (case side3 => exact Kd.R_V (Kd.R_tight rfl (Kd.R_types (Kd.R_types (Kd.R_apart' (Kd.R_apart' (Kd.R_apart' (HO109.out) (Kd.R_typed HO106.out) (by decide)) (Kd.R_typed HO112.out) (by decide)) (Kd.R_typed HO123.out) (by decide)) BK114.out (by decide)) BK131.out (by decide))))
              (case side4 => exact Kd.R_V (Kd.R_tight rfl (Kd.R_types (Kd.R_types (Kd.R_apart' (Kd.R_apart' (Kd.R_apart' (Kd.R_apart' (HO112.out) (Kd.R_typed HO103.out) (by decide)) (Kd.R_typed HO109.out) (by decide)) (Kd.R_typed HO117.out) (by decide)) (Kd.R_typed HO120.out) (by decide)) BK114.out (by decide)) BK131.out (by decide))))
              (case side5 => first | exact hG | exact Glob.below hG Bl_)
              rintro e w27 ⟨v125, v128, rfl, ho0, ho1, hb⟩
              refine ⟨_, rfl, ?_⟩
              have HO126 := Aside0.mk (Kd.R_lower (Kd.R_new' (Kd.R_new' (Kd.R_new' (Kd.R_new' (Kd.R_mono (ok' := fun k_ => True) ho0 (fun _ hk_ => trivial)) (Kd.R_lt (Pr_ HO103.out))) (Kd.R_lt (Pr_ HO109.out))) (Kd.R_lt (Pr_ HO117.out))) (Kd.R_lt (Pr_ HO120.out))) Bz_)
              replace HO103 := Aside0.mk (Kd.R_elder' (Pr_ HO103.out) (Kd.R_base ho0) hb)
              replace HO109 := Aside0.mk (Kd.R_elder' (Pr_ HO109.out) (Kd.R_base ho0) hb)
              replace HO117 := Aside0.mk (Kd.R_elder' (Pr_ HO117.out) (Kd.R_base ho0) hb)
              replace HO120 := Aside0.mk (Kd.R_elder' (Pr_ HO120.out) (Kd.R_base ho0) hb)
              have HO129 := Aside0.mk (Kd.R_lower (Kd.R_new' (Kd.R_new' (Kd.R_new' (Kd.R_mono (ok' := fun k_ => True) ho1 (fun _ hk_ => trivial)) (Kd.R_lt (Pr_ HO106.out))) (Kd.R_lt (Pr_ HO112.out))) (Kd.R_lt (Pr_ HO123.out))) Bz_)
              replace HO106 := Aside0.mk (Kd.R_elder' (Pr_ HO106.out) (Kd.R_base ho1) hb)
              replace HO112 := Aside0.mk (Kd.R_elder' (Pr_ HO112.out) (Kd.R_base ho1) hb)
              replace HO123 := Aside0.mk (Kd.R_elder' (Pr_ HO123.out) (Kd.R_base ho1) hb)
              replace BK114 := kb_ BK114 hb
              replace BK131 := kb_ BK131 hb
              replace HB := Bs_ hb
              (try clear hb)
              (try clear hb2)
              (try clear hk)
              (try clear hi)
              (try clear ho0)
              (try clear ho1)
              refine hK.out _ _ ⟨(blk_cell BK114.out 0).trans rfl, (blk_cell BK114.out 1).trans rfl⟩ (fun hHeld => ?_)
              clear hK K
              refine norm_ (a' := ?_) ?_ ?_
              rotate_left
              · show Act.put _ (some 16) _ = _
                simp only [Act.put, List.setIfInBounds_toArray, List.set_cons_zero, List.set_cons_succ, i64_w, i32_w]
                rfl
              refine pu_ 4 (some 12) HT_ #[true, true, true, true, true, false, false, true, false, false] ?_
              refine pu_ 5 (some 17) HT_ #[true, true, true, true, true, true, false, true, false, false] ?_
              refine pu_ 6 (some 18) HT_ #[true, true, true, true, true, true, true, true, false, false] ?_
              exact norm_ (by simp only [putAll, Act.put, List.setIfInBounds_toArray, List.set_cons_zero, List.set_cons_succ]) (hCont (.slice Ao23 y115.length co23, .slice Ao25 t118.length co25, .slice Ao26 t121.length co26, v125, v128, gb131) _ ⟨hHeld, (by (with_reducible repeat (first | apply Kd.R_alloc | apply Kd.R_drewN | apply Kd.R_drew)); exact Kd.R_mono HO103.out (fun _ hk => ⟨hk.1.1.1, ⟨hk.1.1.2, ⟨hk.1.2, hk.2⟩⟩⟩)), (by (with_reducible repeat (first | apply Kd.R_alloc | apply Kd.R_drewN | apply Kd.R_drew)); exact Kd.R_mono HO106.out (fun _ hk => ⟨hk.1.1, ⟨hk.1.2, hk.2⟩⟩)), (by (with_reducible repeat (first | apply Kd.R_alloc | apply Kd.R_drewN | apply Kd.R_drew)); exact Kd.R_mono HO109.out (fun _ hk => ⟨hk.1.1.1, ⟨hk.1.1.2, ⟨hk.1.2, hk.2⟩⟩⟩)), (by (with_reducible repeat (first | apply Kd.R_alloc | apply Kd.R_drewN | apply Kd.R_drew)); exact Kd.R_mono HO112.out (fun _ hk => ⟨hk.1.1, ⟨hk.1.2, hk.2⟩⟩)), (by (with_reducible repeat (first | apply Kd.R_alloc | apply Kd.R_drewN | apply Kd.R_drew)); exact Kd.R_mono HO117.out (fun _ hk => ⟨hk.1.1.1.2, ⟨hk.1.1.2, ⟨hk.1.2, hk.2⟩⟩⟩)), (by (with_reducible repeat (first | apply Kd.R_alloc | apply Kd.R_drewN | apply Kd.R_drew)); exact Kd.R_mono HO120.out (fun _ hk => ⟨hk.1.1.1.2, ⟨hk.1.1.2, ⟨hk.1.2, hk.2⟩⟩⟩)), (by (with_reducible repeat (first | apply Kd.R_alloc | apply Kd.R_drewN | apply Kd.R_drew)); exact Kd.R_mono HO123.out (fun _ hk => ⟨hk.1.1.2, ⟨hk.1.2, hk.2⟩⟩)), (by (with_reducible repeat (first | apply Kd.R_alloc | apply Kd.R_drewN | apply Kd.R_drew)); exact Kd.R_mono HO126.out (fun _ hk => ⟨hk.1.1.1.2, ⟨hk.1.1.2, ⟨hk.1.2, hk.2⟩⟩⟩)), (by (with_reducible repeat (first | apply Kd.R_alloc | apply Kd.R_drewN | apply Kd.R_drew)); exact Kd.R_mono HO129.out (fun _ hk => ⟨hk.1.1.2, ⟨hk.1.2, hk.2⟩⟩)), (Bk_ BK114.out), (Bk_ BK131.out), GW131.out, GE131.out, NB114_131.out, NB131_114.out, Bl_⟩)
          · skip
            refine box_step ?hg (N := 3) ?hd (cs := #[.slice none 0 0, .slice none 0 0]) (t := 25) ?hr ?_; (case hd => rfl); (case hg => rfl); (case hr => first | (go_simp; done) | (go_simp; rfl))
            intro gb131 hg w20 hbox hb
            replace HO103 := Aside0.mk (Kd.R_below (Pr_ HO103.out) hb)
            replace HO106 := Aside0.mk (Kd.R_below (Pr_ HO106.out) hb)
            replace HO109 := Aside0.mk (Kd.R_below (Pr_ HO109.out) hb)
            replace HO112 := Aside0.mk (Kd.R_below (Pr_ HO112.out) hb)
            have BK131 := Aside0.mk (hbox)
            have GW131 := (Bg_ hg : Aside0 (w.heap.size ≤ gb131))
            have GE131 := (Bg_ hg : Aside0 (w.heap.size ≤ gb131))
            replace HB := Bs_ hb
            have NB114_131 := nl_ hg BK114
            have NB131_114 := ng_ hg BK114
            replace BK114 := kb_ BK114 hb
            clear hb hbox hg
            refine hK.out _ _ ⟨(blk_cell BK114.out 0).trans rfl, (blk_cell BK114.out 1).trans rfl⟩ (fun hHeld => ?_)
            clear hK K
            refine norm_ (a' := ?_) ?_ ?_
            rotate_left
            · show Act.put _ (some 3) _ = _
              simp only [Act.put, List.setIfInBounds_toArray, List.set_cons_zero, List.set_cons_succ, i64_w, i32_w]
              rfl
            refine one_ (i := 0) (N := some 13) #[true, false, true, false, false, false, false, true, false, false] rfl rfl (one_of HT_.out (by kernel_rfl)) (by decide) (fun K hK => ?_)
            refine Kd.R_lit_step (Kd.int .i64) _ 3 ?hg (N := 13) ?hd (xs := ([2, 3] : List Int)) (inner := [.int .i64 2, .int .i64 3]) (ok := fun _ => True) (okp := fun _ => True) ?hr ?hp (fun _ hk => hk) trivial (Below.refl _ _) (Nat.le_refl _) (by simp) ?_; (case hd => rfl); (case hg => rfl); (case hr => first | (go_simp; done) | (go_simp; rfl)); (case hp => exact (Reps.one (show Kd.M (Kd.int .i64) _ _ _ 2 [.int .i64 2] from rfl) (Reps.one (show Kd.M (Kd.int .i64) _ _ _ 3 [.int .i64 3] from rfl) (Reps.none _ _))))
            intro v116 w21 ho22 hb hg_ hnew_
            clear hg_ hnew_
            (first | rw [← Ny115.out] at ho22 | (simp only [Int.reduceToNat] at ho22; rw [← Ny115.out] at ho22))
            replace HO106 := Aside0.mk (Kd.R_below (Pr_ HO106.out) hb)
            replace HO112 := Aside0.mk (Kd.R_below (Pr_ HO112.out) hb)
            have HO117 := Aside0.mk (Kd.R_lower (Kd.R_new' (Kd.R_new' ho22 (Kd.R_lt (Pr_ HO103.out))) (Kd.R_lt (Pr_ HO109.out))) Bz_)
            replace HO103 := Aside0.mk (Kd.R_elder' (Pr_ HO103.out) (Kd.R_base ho22) hb)
            replace HO109 := Aside0.mk (Kd.R_elder' (Pr_ HO109.out) (Kd.R_base ho22) hb)
            replace BK114 := kb_ BK114 hb
            replace BK131 := kb_ BK131 hb
            replace HB := Bs_ hb
            clear hb ho22
            obtain ⟨Ao23, co23, eo23⟩ := Kd.R_slice HO117.out
            (first | subst eo23 | (injection eo23 with f1_ f2_ f3_; have f4_ := f1_.symm; have f5_ := f3_.symm; clear f1_ f2_ f3_; subst f4_; subst f5_))
            refine hK.out _ _ ⟨(blk_cell BK114.out 0).trans rfl, (blk_cell BK114.out 1).trans rfl⟩ (fun hHeld => ?_)
            clear hK K
            refine norm_ (a' := ?_) ?_ ?_
            rotate_left
            · show Act.put _ (some 13) _ = _
              simp only [Act.put, List.setIfInBounds_toArray, List.set_cons_zero, List.set_cons_succ, i64_w, i32_w]
              rfl
            refine one_ (i := 1) (N := some 14) #[true, true, true, false, false, false, false, true, false, false] rfl rfl (one_of HT_.out (by kernel_rfl)) (by decide) (fun K hK => ?_)
            refine goes_ Tryd.func49 (by kernel_rfl) rfl #[.slice Ao23 y115.length co23] (by rfl) rfl rfl Ga_ ?_
            with_reducible refine (val_Ints.calls k _ _ y115 t118 t121 _ ?side1 ?side2 A3.out ?side3).mono ?_
            (case side1 => exact Pc_ ((Kd.R_reads' HO117.out).2.2))
            (case side2 => exact (Kd.R_reads' HO117.out).2.1)
            (case side3 => first | exact hG | exact Glob.below hG Bl_)
            rintro e w24 ⟨v119, v122, rfl, ho0, ho1, hb⟩
            refine ⟨_, rfl, ?_⟩
            have HO120 := Aside0.mk (Kd.R_lower (Kd.R_new' (Kd.R_new' (Kd.R_new' ho0 (Kd.R_lt (Pr_ HO103.out))) (Kd.R_lt (Pr_ HO109.out))) (Kd.R_lt (Pr_ HO117.out))) Bz_)
            replace HO103 := Aside0.mk (Kd.R_elder' (Pr_ HO103.out) (Kd.R_base ho0) hb)
            replace HO109 := Aside0.mk (Kd.R_elder' (Pr_ HO109.out) (Kd.R_base ho0) hb)
            replace HO117 := Aside0.mk (Kd.R_elder' (Pr_ HO117.out) (Kd.R_base ho0) hb)
            have HO123 := Aside0.mk (Kd.R_lower (Kd.R_new' (Kd.R_new' ho1 (Kd.R_lt (Pr_ HO106.out))) (Kd.R_lt (Pr_ HO112.out))) Bz_)
            replace HO106 := Aside0.mk (Kd.R_elder' (Pr_ HO106.out) (Kd.R_base ho1) hb)
            replace HO112 := Aside0.mk (Kd.R_elder' (Pr_ HO112.out) (Kd.R_base ho1) hb)
            replace BK114 := kb_ BK114 hb
            replace BK131 := kb_ BK131 hb
            replace HB := Bs_ hb
            (try clear hb)
            (try clear hb2)
            (try clear hk)
            (try clear hi)
            (try clear ho0)
            (try clear ho1)
            obtain ⟨Ao25, co25, eo25⟩ := Kd.R_slice HO120.out
            (first | subst eo25 | (injection eo25 with f1_ f2_ f3_; have f4_ := f1_.symm; have f5_ := f3_.symm; clear f1_ f2_ f3_; subst f4_; subst f5_))
            obtain ⟨Ao26, co26, eo26⟩ := Kd.R_slice HO123.out
            (first | subst eo26 | (injection eo26 with f1_ f2_ f3_; have f4_ := f1_.symm; have f5_ := f3_.symm; clear f1_ f2_ f3_; subst f4_; subst f5_))
            refine hK.out _ _ ⟨(blk_cell BK114.out 0).trans rfl, (blk_cell BK114.out 1).trans rfl⟩ (fun hHeld => ?_)
            clear hK K
            refine norm_ (a' := ?_) ?_ ?_
            rotate_left
            · show Act.put _ (some 14) _ = _
              simp only [Act.put, List.setIfInBounds_toArray, List.set_cons_zero, List.set_cons_succ, i64_w, i32_w]
              rfl
            refine one_ (i := 3) (N := some 16) #[true, true, true, true, false, false, false, true, false, false] rfl rfl (one_of HT_.out (by kernel_rfl)) (by decide) (fun K hK => ?_)
            refine goes_ Tryd.func30 (by kernel_rfl) rfl #[.agg #[.slice Ao25 t118.length co25, .slice Ao26 t121.length co26], .agg #[.slice Ao15 t107.length co15, .slice Ao17 t110.length co17]] (by rfl) rfl rfl Ga_ ?_
            with_reducible refine (mould_Reshape.calls k (fun k_ => some k_ = (.slice Ao25 t118.length co25 : Value).ownBlock) _ _ t118 (fun k_ => some k_ = (.slice Ao26 t121.length co26 : Value).ownBlock) _ _ t121 (fun k_ => some k_ = (.slice Ao15 t107.length co15 : Value).ownBlock) _ _ t107 (fun k_ => some k_ = (.slice Ao17 t110.length co17 : Value).ownBlock) _ _ t110 t124 t127 t130 _ ?side1 ?side2 ?side3 ?side4 A4.out ?side5).mono ?_
            (case side1 => exact Kd.R_V (Kd.R_tight rfl (Kd.R_types (Kd.R_types (Kd.R_apart' (Kd.R_apart' (Kd.R_apart' (HO120.out) (Kd.R_typed HO106.out) (by decide)) (Kd.R_typed HO112.out) (by decide)) (Kd.R_typed HO123.out) (by decide)) BK114.out (by decide)) BK131.out (by decide))))
            (case side2 => exact Kd.R_V (Kd.R_tight rfl (Kd.R_types (Kd.R_types (Kd.R_apart' (Kd.R_apart' (Kd.R_apart' (Kd.R_apart' (HO123.out) (Kd.R_typed HO103.out) (by decide)) (Kd.R_typed HO109.out) (by decide)) (Kd.R_typed HO117.out) (by decide)) (Kd.R_typed HO120.out) (by decide)) BK114.out (by decide)) BK131.out (by decide))))
            (case side3 => exact Kd.R_V (Kd.R_tight rfl (Kd.R_types (Kd.R_types (Kd.R_apart' (Kd.R_apart' (Kd.R_apart' (HO109.out) (Kd.R_typed HO106.out) (by decide)) (Kd.R_typed HO112.out) (by decide)) (Kd.R_typed HO123.out) (by decide)) BK114.out (by decide)) BK131.out (by decide))))
            (case side4 => exact Kd.R_V (Kd.R_tight rfl (Kd.R_types (Kd.R_types (Kd.R_apart' (Kd.R_apart' (Kd.R_apart' (Kd.R_apart' (HO112.out) (Kd.R_typed HO103.out) (by decide)) (Kd.R_typed HO109.out) (by decide)) (Kd.R_typed HO117.out) (by decide)) (Kd.R_typed HO120.out) (by decide)) BK114.out (by decide)) BK131.out (by decide))))
            (case side5 => first | exact hG | exact Glob.below hG Bl_)
            rintro e w27 ⟨v125, v128, rfl, ho0, ho1, hb⟩
            refine ⟨_, rfl, ?_⟩
            have HO126 := Aside0.mk (Kd.R_lower (Kd.R_new' (Kd.R_new' (Kd.R_new' (Kd.R_new' (Kd.R_mono (ok' := fun k_ => True) ho0 (fun _ hk_ => trivial)) (Kd.R_lt (Pr_ HO103.out))) (Kd.R_lt (Pr_ HO109.out))) (Kd.R_lt (Pr_ HO117.out))) (Kd.R_lt (Pr_ HO120.out))) Bz_)
            replace HO103 := Aside0.mk (Kd.R_elder' (Pr_ HO103.out) (Kd.R_base ho0) hb)
            replace HO109 := Aside0.mk (Kd.R_elder' (Pr_ HO109.out) (Kd.R_base ho0) hb)
            replace HO117 := Aside0.mk (Kd.R_elder' (Pr_ HO117.out) (Kd.R_base ho0) hb)
            replace HO120 := Aside0.mk (Kd.R_elder' (Pr_ HO120.out) (Kd.R_base ho0) hb)
            have HO129 := Aside0.mk (Kd.R_lower (Kd.R_new' (Kd.R_new' (Kd.R_new' (Kd.R_mono (ok' := fun k_ => True) ho1 (fun _ hk_ => trivial)) (Kd.R_lt (Pr_ HO106.out))) (Kd.R_lt (Pr_ HO112.out))) (Kd.R_lt (Pr_ HO123.out))) Bz_)
            replace HO106 := Aside0.mk (Kd.R_elder' (Pr_ HO106.out) (Kd.R_base ho1) hb)
            replace HO112 := Aside0.mk (Kd.R_elder' (Pr_ HO112.out) (Kd.R_base ho1) hb)
            replace HO123 := Aside0.mk (Kd.R_elder' (Pr_ HO123.out) (Kd.R_base ho1) hb)
            replace BK114 := kb_ BK114 hb
            replace BK131 := kb_ BK131 hb
            replace HB := Bs_ hb
            (try clear hb)
            (try clear hb2)
            (try clear hk)
            (try clear hi)
            (try clear ho0)
            (try clear ho1)
            refine hK.out _ _ ⟨(blk_cell BK114.out 0).trans rfl, (blk_cell BK114.out 1).trans rfl⟩ (fun hHeld => ?_)
            clear hK K
            refine norm_ (a' := ?_) ?_ ?_
            rotate_left
            · show Act.put _ (some 16) _ = _
              simp only [Act.put, List.setIfInBounds_toArray, List.set_cons_zero, List.set_cons_succ, i64_w, i32_w]
              rfl
            refine pu_ 4 (some 12) HT_ #[true, true, true, true, true, false, false, true, false, false] ?_
            refine pu_ 5 (some 17) HT_ #[true, true, true, true, true, true, false, true, false, false] ?_
            refine pu_ 6 (some 18) HT_ #[true, true, true, true, true, true, true, true, false, false] ?_
            exact norm_ (by simp only [putAll, Act.put, List.setIfInBounds_toArray, List.set_cons_zero, List.set_cons_succ]) (hCont (.slice Ao23 y115.length co23, .slice Ao25 t118.length co25, .slice Ao26 t121.length co26, v125, v128, gb131) _ ⟨hHeld, (by (with_reducible repeat (first | apply Kd.R_alloc | apply Kd.R_drewN | apply Kd.R_drew)); exact Kd.R_mono HO103.out (fun _ hk => ⟨hk.1.1.1, ⟨hk.1.1.2, ⟨hk.1.2, hk.2⟩⟩⟩)), (by (with_reducible repeat (first | apply Kd.R_alloc | apply Kd.R_drewN | apply Kd.R_drew)); exact Kd.R_mono HO106.out (fun _ hk => ⟨hk.1.1, ⟨hk.1.2, hk.2⟩⟩)), (by (with_reducible repeat (first | apply Kd.R_alloc | apply Kd.R_drewN | apply Kd.R_drew)); exact Kd.R_mono HO109.out (fun _ hk => ⟨hk.1.1.1, ⟨hk.1.1.2, ⟨hk.1.2, hk.2⟩⟩⟩)), (by (with_reducible repeat (first | apply Kd.R_alloc | apply Kd.R_drewN | apply Kd.R_drew)); exact Kd.R_mono HO112.out (fun _ hk => ⟨hk.1.1, ⟨hk.1.2, hk.2⟩⟩)), (by (with_reducible repeat (first | apply Kd.R_alloc | apply Kd.R_drewN | apply Kd.R_drew)); exact Kd.R_mono HO117.out (fun _ hk => ⟨hk.1.1.1.2, ⟨hk.1.1.2, ⟨hk.1.2, hk.2⟩⟩⟩)), (by (with_reducible repeat (first | apply Kd.R_alloc | apply Kd.R_drewN | apply Kd.R_drew)); exact Kd.R_mono HO120.out (fun _ hk => ⟨hk.1.1.1.2, ⟨hk.1.1.2, ⟨hk.1.2, hk.2⟩⟩⟩)), (by (with_reducible repeat (first | apply Kd.R_alloc | apply Kd.R_drewN | apply Kd.R_drew)); exact Kd.R_mono HO123.out (fun _ hk => ⟨hk.1.1.2, ⟨hk.1.2, hk.2⟩⟩)), (by (with_reducible repeat (first | apply Kd.R_alloc | apply Kd.R_drewN | apply Kd.R_drew)); exact Kd.R_mono HO126.out (fun _ hk => ⟨hk.1.1.1.2, ⟨hk.1.1.2, ⟨hk.1.2, hk.2⟩⟩⟩)), (by (with_reducible repeat (first | apply Kd.R_alloc | apply Kd.R_drewN | apply Kd.R_drew)); exact Kd.R_mono HO129.out (fun _ hk => ⟨hk.1.1.2, ⟨hk.1.2, hk.2⟩⟩)), (Bk_ BK114.out), (Bk_ BK131.out), GW131.out, GE131.out, NB114_131.out, NB131_114.out, Bl_⟩)
        rintro ⟨v116, v119, v122, v125, v128, gb131⟩ w28 ⟨hS_, h0_, h1_, h2_, h3_, h4_, h5_, h6_, h7_, h8_, h9_, h10_, h11_, h12_, h13_, h14_, h15_⟩
        have n0_ : Aside0 (Kd.R (Kd.int .i64) 3 w28 w.heap.size (fun k_ => some k_ ≠ (.slice Ao15 t107.length co15 : Value).ownBlock ∧ some k_ ≠ (v116 : Value).ownBlock ∧ some k_ ≠ (v119 : Value).ownBlock ∧ some k_ ≠ (v125 : Value).ownBlock) (.slice Ao11 t101.length co11) t101) := ⟨h0_⟩
        have n1_ : Aside0 (Kd.R Kd.string 9 w28 w.heap.size (fun k_ => some k_ ≠ (.slice Ao17 t110.length co17 : Value).ownBlock ∧ some k_ ≠ (v122 : Value).ownBlock ∧ some k_ ≠ (v128 : Value).ownBlock) (.slice Ao12 t104.length co12) t104) := ⟨h1_⟩
        have n2_ : Aside0 (Kd.R (Kd.int .i64) 3 w28 w.heap.size (fun k_ => some k_ ≠ (.slice Ao11 t101.length co11 : Value).ownBlock ∧ some k_ ≠ (v116 : Value).ownBlock ∧ some k_ ≠ (v119 : Value).ownBlock ∧ some k_ ≠ (v125 : Value).ownBlock) (.slice Ao15 t107.length co15) t107) := ⟨h2_⟩
        have n3_ : Aside0 (Kd.R Kd.string 9 w28 w.heap.size (fun k_ => some k_ ≠ (.slice Ao12 t104.length co12 : Value).ownBlock ∧ some k_ ≠ (v122 : Value).ownBlock ∧ some k_ ≠ (v128 : Value).ownBlock) (.slice Ao17 t110.length co17) t110) := ⟨h3_⟩
        have n4_ : Aside0 (Kd.R (Kd.int .i64) 3 w28 w.heap.size (fun k_ => some k_ ≠ (.slice Ao11 t101.length co11 : Value).ownBlock ∧ some k_ ≠ (.slice Ao15 t107.length co15 : Value).ownBlock ∧ some k_ ≠ (v119 : Value).ownBlock ∧ some k_ ≠ (v125 : Value).ownBlock) v116 y115) := ⟨h4_⟩
        have n5_ : Aside0 (Kd.R (Kd.int .i64) 3 w28 w.heap.size (fun k_ => some k_ ≠ (.slice Ao11 t101.length co11 : Value).ownBlock ∧ some k_ ≠ (.slice Ao15 t107.length co15 : Value).ownBlock ∧ some k_ ≠ (v116 : Value).ownBlock ∧ some k_ ≠ (v125 : Value).ownBlock) v119 t118) := ⟨h5_⟩
        have n6_ : Aside0 (Kd.R Kd.string 9 w28 w.heap.size (fun k_ => some k_ ≠ (.slice Ao12 t104.length co12 : Value).ownBlock ∧ some k_ ≠ (.slice Ao17 t110.length co17 : Value).ownBlock ∧ some k_ ≠ (v128 : Value).ownBlock) v122 t121) := ⟨h6_⟩
        have n7_ : Aside0 (Kd.R (Kd.int .i64) 3 w28 w.heap.size (fun k_ => some k_ ≠ (.slice Ao11 t101.length co11 : Value).ownBlock ∧ some k_ ≠ (.slice Ao15 t107.length co15 : Value).ownBlock ∧ some k_ ≠ (v116 : Value).ownBlock ∧ some k_ ≠ (v119 : Value).ownBlock) v125 t124) := ⟨h7_⟩
        have n8_ : Aside0 (Kd.R Kd.string 9 w28 w.heap.size (fun k_ => some k_ ≠ (.slice Ao12 t104.length co12 : Value).ownBlock ∧ some k_ ≠ (.slice Ao17 t110.length co17 : Value).ownBlock ∧ some k_ ≠ (v122 : Value).ownBlock) v128 t127) := ⟨h8_⟩
        have n9_ : Aside0 (w28.heap[gb114]? = some (.cells #[.slice Ao15 t107.length co15, .slice Ao17 t110.length co17] 25 (0, 0))) := ⟨h9_⟩
        have n10_ : Aside0 (w28.heap[gb131]? = some (.cells #[.slice none 0 0, .slice none 0 0] 25 (0, 0))) := ⟨h10_⟩
        have n11_ : Aside0 (w.heap.size ≤ gb131) := ⟨h11_⟩
        have n12_ : Aside0 (w.heap.size ≤ gb131) := ⟨h12_⟩
        have n13_ : Aside0 (gb114 ≠ gb131) := ⟨h13_⟩
        have n14_ : Aside0 (gb131 ≠ gb114) := ⟨h14_⟩
        have n15_ : Aside0 (Below w.heap.size w w28) := ⟨h15_⟩
        clear HO103
        clear HO106
        clear HO109
        clear HO112
        clear BK114
        clear HB
        clear h0_ h1_ h2_ h3_ h4_ h5_ h6_ h7_ h8_ h9_ h10_ h11_ h12_ h13_ h14_ h15_
        have HO103 := n0_
        have HO106 := n1_
        have HO109 := n2_
        have HO112 := n3_
        have HO117 := n4_
        have HO120 := n5_
        have HO123 := n6_
        have HO126 := n7_
        have HO129 := n8_
        have BK114 := n9_
        have BK131 := n10_
        have GW131 := n11_
        have GE131 := n12_
        have NB114_131 := n13_
        have NB131_114 := n14_
        have HB := n15_
        clear n0_ n1_ n2_ n3_ n4_ n5_ n6_ n7_ n8_ n9_ n10_ n11_ n12_ n13_ n14_ n15_
        have hHeld : w28.cell? ⟨gb114, 0, none⟩ = some (.slice Ao15 t107.length co15) ∧ w28.cell? ⟨gb114, 1, none⟩ = some (.slice Ao17 t110.length co17) := hS_
        obtain ⟨Ao29, co29, eo29⟩ := Kd.R_slice HO126.out
        (first | subst eo29 | (injection eo29 with f1_ f2_ f3_; have f4_ := f1_.symm; have f5_ := f3_.symm; clear f1_ f2_ f3_; subst f4_; subst f5_))
        obtain ⟨Ao31, co31, eo31⟩ := Kd.R_slice HO129.out
        (first | subst eo31 | (injection eo31 with f1_ f2_ f3_; have f4_ := f1_.symm; have f5_ := f3_.symm; clear f1_ f2_ f3_; subst f4_; subst f5_))
        refine norm_ (a' := ?_) ?_ ?_
        rotate_left
        · simp only [putAll, Act.put, List.setIfInBounds_toArray, List.set_cons_zero, List.set_cons_succ]
          rfl
        refine one_ (i := 8) (N := none) #[true, true, true, true, true, true, true, true, true, false] rfl rfl (one_of HT_.out (by kernel_rfl)) (by decide) (fun K hK => ?_)
        have hs30 : w28.cell? ⟨gb131, 0, none⟩ = some (.slice none 0 0) := (blk_cell BK131.out 0).trans rfl
        have hfs30 := blk_frozen BK131.out 0
        have hns30_0 := NB114_131.out
        have hms30_0 := NB131_114.out
        have hs32 : w28.cell? ⟨gb131, 1, none⟩ = some (.slice none 0 0) := (blk_cell BK131.out 1).trans rfl
        have hfs32 := blk_frozen BK131.out 1
        have hns32_0 := NB114_131.out
        have hms32_0 := NB131_114.out
        refine skip_ (w1 := ?_) (by rfl) rfl ?_ ?_
        rotate_left
        · go_simp
          rfl
        refine hK.out _ _ ⟨((cell_far (p := ⟨gb131, _, none⟩) NB114_131.out _).trans (((cell_far (p := ⟨gb131, _, none⟩) NB114_131.out _).trans (hHeld.1)))), ((cell_far (p := ⟨gb131, _, none⟩) NB114_131.out _).trans (((cell_far (p := ⟨gb131, _, none⟩) NB114_131.out _).trans (hHeld.2))))⟩ (fun hHeld => ?_)
        clear hK K
        refine pu_ 9 (some 4) HT_ #[true, true, true, true, true, true, true, true, true, true] ?_
        refine done_ (done_of HT_.out (by kernel_rfl)) ?_
        have n0_ : Aside0 (Kd.R (Kd.int .i64) 3 ((w28.setCell ⟨gb131, 0, none⟩ (.slice Ao29 t124.length co29)).setCell ⟨gb131, 1, none⟩ (.slice Ao31 t127.length co31)) w.heap.size (fun k_ => some k_ ≠ (.slice Ao15 t107.length co15 : Value).ownBlock ∧ some k_ ≠ (v116 : Value).ownBlock ∧ some k_ ≠ (v119 : Value).ownBlock ∧ some k_ ≠ (.slice Ao29 t124.length co29 : Value).ownBlock) (.slice Ao11 t101.length co11) t101) := ⟨by (with_reducible repeat (first | apply Kd.R_alloc | apply Kd.R_drewN | apply Kd.R_drew)); exact Kd.R_mono (Kd.R_far (p := ⟨gb131, 1, none⟩) (Kd.R_far (p := ⟨gb131, 0, none⟩) (Kd.R_types HO103.out BK131.out (by decide)) (fun _ hk => hk.2) (.slice Ao29 t124.length co29)) (fun _ hk => hk.2) (.slice Ao31 t127.length co31)) (fun _ hk => ⟨hk.1.1, ⟨hk.1.2.1, ⟨hk.1.2.2.1, hk.1.2.2.2⟩⟩⟩)⟩
        have n1_ : Aside0 (Kd.R Kd.string 9 ((w28.setCell ⟨gb131, 0, none⟩ (.slice Ao29 t124.length co29)).setCell ⟨gb131, 1, none⟩ (.slice Ao31 t127.length co31)) w.heap.size (fun k_ => some k_ ≠ (.slice Ao17 t110.length co17 : Value).ownBlock ∧ some k_ ≠ (v122 : Value).ownBlock ∧ some k_ ≠ (.slice Ao31 t127.length co31 : Value).ownBlock) (.slice Ao12 t104.length co12) t104) := ⟨by (with_reducible repeat (first | apply Kd.R_alloc | apply Kd.R_drewN | apply Kd.R_drew)); exact Kd.R_mono (Kd.R_far (p := ⟨gb131, 1, none⟩) (Kd.R_far (p := ⟨gb131, 0, none⟩) (Kd.R_types HO106.out BK131.out (by decide)) (fun _ hk => hk.2) (.slice Ao29 t124.length co29)) (fun _ hk => hk.2) (.slice Ao31 t127.length co31)) (fun _ hk => ⟨hk.1.1, ⟨hk.1.2.1, hk.1.2.2⟩⟩)⟩
        have n2_ : Aside0 (Kd.R (Kd.int .i64) 3 ((w28.setCell ⟨gb131, 0, none⟩ (.slice Ao29 t124.length co29)).setCell ⟨gb131, 1, none⟩ (.slice Ao31 t127.length co31)) w.heap.size (fun k_ => some k_ ≠ (.slice Ao11 t101.length co11 : Value).ownBlock ∧ some k_ ≠ (v116 : Value).ownBlock ∧ some k_ ≠ (v119 : Value).ownBlock ∧ some k_ ≠ (.slice Ao29 t124.length co29 : Value).ownBlock) (.slice Ao15 t107.length co15) t107) := ⟨by (with_reducible repeat (first | apply Kd.R_alloc | apply Kd.R_drewN | apply Kd.R_drew)); exact Kd.R_mono (Kd.R_far (p := ⟨gb131, 1, none⟩) (Kd.R_far (p := ⟨gb131, 0, none⟩) (Kd.R_types HO109.out BK131.out (by decide)) (fun _ hk => hk.2) (.slice Ao29 t124.length co29)) (fun _ hk => hk.2) (.slice Ao31 t127.length co31)) (fun _ hk => ⟨hk.1.1, ⟨hk.1.2.1, ⟨hk.1.2.2.1, hk.1.2.2.2⟩⟩⟩)⟩
        have n3_ : Aside0 (Kd.R Kd.string 9 ((w28.setCell ⟨gb131, 0, none⟩ (.slice Ao29 t124.length co29)).setCell ⟨gb131, 1, none⟩ (.slice Ao31 t127.length co31)) w.heap.size (fun k_ => some k_ ≠ (.slice Ao12 t104.length co12 : Value).ownBlock ∧ some k_ ≠ (v122 : Value).ownBlock ∧ some k_ ≠ (.slice Ao31 t127.length co31 : Value).ownBlock) (.slice Ao17 t110.length co17) t110) := ⟨by (with_reducible repeat (first | apply Kd.R_alloc | apply Kd.R_drewN | apply Kd.R_drew)); exact Kd.R_mono (Kd.R_far (p := ⟨gb131, 1, none⟩) (Kd.R_far (p := ⟨gb131, 0, none⟩) (Kd.R_types HO112.out BK131.out (by decide)) (fun _ hk => hk.2) (.slice Ao29 t124.length co29)) (fun _ hk => hk.2) (.slice Ao31 t127.length co31)) (fun _ hk => ⟨hk.1.1, ⟨hk.1.2.1, hk.1.2.2⟩⟩)⟩
        have n4_ : Aside0 (Kd.R (Kd.int .i64) 3 ((w28.setCell ⟨gb131, 0, none⟩ (.slice Ao29 t124.length co29)).setCell ⟨gb131, 1, none⟩ (.slice Ao31 t127.length co31)) w.heap.size (fun k_ => some k_ ≠ (.slice Ao11 t101.length co11 : Value).ownBlock ∧ some k_ ≠ (.slice Ao15 t107.length co15 : Value).ownBlock ∧ some k_ ≠ (v119 : Value).ownBlock ∧ some k_ ≠ (.slice Ao29 t124.length co29 : Value).ownBlock) v116 y115) := ⟨by (with_reducible repeat (first | apply Kd.R_alloc | apply Kd.R_drewN | apply Kd.R_drew)); exact Kd.R_mono (Kd.R_far (p := ⟨gb131, 1, none⟩) (Kd.R_far (p := ⟨gb131, 0, none⟩) (Kd.R_types HO117.out BK131.out (by decide)) (fun _ hk => hk.2) (.slice Ao29 t124.length co29)) (fun _ hk => hk.2) (.slice Ao31 t127.length co31)) (fun _ hk => ⟨hk.1.1, ⟨hk.1.2.1, ⟨hk.1.2.2.1, hk.1.2.2.2⟩⟩⟩)⟩
        have n5_ : Aside0 (Kd.R (Kd.int .i64) 3 ((w28.setCell ⟨gb131, 0, none⟩ (.slice Ao29 t124.length co29)).setCell ⟨gb131, 1, none⟩ (.slice Ao31 t127.length co31)) w.heap.size (fun k_ => some k_ ≠ (.slice Ao11 t101.length co11 : Value).ownBlock ∧ some k_ ≠ (.slice Ao15 t107.length co15 : Value).ownBlock ∧ some k_ ≠ (v116 : Value).ownBlock ∧ some k_ ≠ (.slice Ao29 t124.length co29 : Value).ownBlock) v119 t118) := ⟨by (with_reducible repeat (first | apply Kd.R_alloc | apply Kd.R_drewN | apply Kd.R_drew)); exact Kd.R_mono (Kd.R_far (p := ⟨gb131, 1, none⟩) (Kd.R_far (p := ⟨gb131, 0, none⟩) (Kd.R_types HO120.out BK131.out (by decide)) (fun _ hk => hk.2) (.slice Ao29 t124.length co29)) (fun _ hk => hk.2) (.slice Ao31 t127.length co31)) (fun _ hk => ⟨hk.1.1, ⟨hk.1.2.1, ⟨hk.1.2.2.1, hk.1.2.2.2⟩⟩⟩)⟩
        have n6_ : Aside0 (Kd.R Kd.string 9 ((w28.setCell ⟨gb131, 0, none⟩ (.slice Ao29 t124.length co29)).setCell ⟨gb131, 1, none⟩ (.slice Ao31 t127.length co31)) w.heap.size (fun k_ => some k_ ≠ (.slice Ao12 t104.length co12 : Value).ownBlock ∧ some k_ ≠ (.slice Ao17 t110.length co17 : Value).ownBlock ∧ some k_ ≠ (.slice Ao31 t127.length co31 : Value).ownBlock) v122 t121) := ⟨by (with_reducible repeat (first | apply Kd.R_alloc | apply Kd.R_drewN | apply Kd.R_drew)); exact Kd.R_mono (Kd.R_far (p := ⟨gb131, 1, none⟩) (Kd.R_far (p := ⟨gb131, 0, none⟩) (Kd.R_types HO123.out BK131.out (by decide)) (fun _ hk => hk.2) (.slice Ao29 t124.length co29)) (fun _ hk => hk.2) (.slice Ao31 t127.length co31)) (fun _ hk => ⟨hk.1.1, ⟨hk.1.2.1, hk.1.2.2⟩⟩)⟩
        have n7_ : Aside0 (Kd.R (Kd.int .i64) 3 ((w28.setCell ⟨gb131, 0, none⟩ (.slice Ao29 t124.length co29)).setCell ⟨gb131, 1, none⟩ (.slice Ao31 t127.length co31)) w.heap.size (fun k_ => some k_ ≠ (.slice Ao11 t101.length co11 : Value).ownBlock ∧ some k_ ≠ (.slice Ao15 t107.length co15 : Value).ownBlock ∧ some k_ ≠ (v116 : Value).ownBlock ∧ some k_ ≠ (v119 : Value).ownBlock) (.slice Ao29 t124.length co29) t124) := ⟨by (with_reducible repeat (first | apply Kd.R_alloc | apply Kd.R_drewN | apply Kd.R_drew)); exact Kd.R_mono (Kd.R_far (p := ⟨gb131, 1, none⟩) (Kd.R_far (p := ⟨gb131, 0, none⟩) (Kd.R_types HO126.out BK131.out (by decide)) (fun _ hk => hk.2) (.slice Ao29 t124.length co29)) (fun _ hk => hk.2) (.slice Ao31 t127.length co31)) (fun _ hk => ⟨hk.1.1, ⟨hk.1.2.1, ⟨hk.1.2.2.1, hk.1.2.2.2⟩⟩⟩)⟩
        have n8_ : Aside0 (Kd.R Kd.string 9 ((w28.setCell ⟨gb131, 0, none⟩ (.slice Ao29 t124.length co29)).setCell ⟨gb131, 1, none⟩ (.slice Ao31 t127.length co31)) w.heap.size (fun k_ => some k_ ≠ (.slice Ao12 t104.length co12 : Value).ownBlock ∧ some k_ ≠ (.slice Ao17 t110.length co17 : Value).ownBlock ∧ some k_ ≠ (v122 : Value).ownBlock) (.slice Ao31 t127.length co31) t127) := ⟨by (with_reducible repeat (first | apply Kd.R_alloc | apply Kd.R_drewN | apply Kd.R_drew)); exact Kd.R_mono (Kd.R_far (p := ⟨gb131, 1, none⟩) (Kd.R_far (p := ⟨gb131, 0, none⟩) (Kd.R_types HO129.out BK131.out (by decide)) (fun _ hk => hk.2) (.slice Ao29 t124.length co29)) (fun _ hk => hk.2) (.slice Ao31 t127.length co31)) (fun _ hk => ⟨hk.1.1, ⟨hk.1.2.1, hk.1.2.2⟩⟩)⟩
        have n9_ : Aside0 (((w28.setCell ⟨gb131, 0, none⟩ (.slice Ao29 t124.length co29)).setCell ⟨gb131, 1, none⟩ (.slice Ao31 t127.length co31)).heap[gb114]? = some (.cells #[.slice Ao15 t107.length co15, .slice Ao17 t110.length co17] 25 (0, 0))) := ⟨by (with_reducible repeat (first | refine blk_drewN ?_ _ | refine blk_drew ?_ | refine blk_alloc ?_ _)); refine blk_far ?_ NB114_131.out _; (with_reducible repeat (first | refine blk_drewN ?_ _ | refine blk_drew ?_ | refine blk_alloc ?_ _)); refine blk_far ?_ NB114_131.out _; (with_reducible repeat (first | refine blk_drewN ?_ _ | refine blk_drew ?_ | refine blk_alloc ?_ _)); exact BK114.out⟩
        have n10_ : Aside0 (((w28.setCell ⟨gb131, 0, none⟩ (.slice Ao29 t124.length co29)).setCell ⟨gb131, 1, none⟩ (.slice Ao31 t127.length co31)).heap[gb131]? = some (.cells #[.slice Ao29 t124.length co29, .slice Ao31 t127.length co31] 25 (0, 0))) := ⟨by (with_reducible repeat (first | refine blk_drewN ?_ _ | refine blk_drew ?_ | refine blk_alloc ?_ _)); refine blk_put (cs := #[.slice Ao29 t124.length co29, .slice none 0 0]) ?_ 1 _ rfl; (with_reducible repeat (first | refine blk_drewN ?_ _ | refine blk_drew ?_ | refine blk_alloc ?_ _)); refine blk_put (cs := #[.slice none 0 0, .slice none 0 0]) ?_ 0 _ rfl; (with_reducible repeat (first | refine blk_drewN ?_ _ | refine blk_drew ?_ | refine blk_alloc ?_ _)); exact BK131.out⟩
        have n11_ : Aside0 (Below w.heap.size w ((w28.setCell ⟨gb131, 0, none⟩ (.slice Ao29 t124.length co29)).setCell ⟨gb131, 1, none⟩ (.slice Ao31 t127.length co31))) := ⟨Bl_⟩
        (try clear HO103)
        (try clear HO106)
        (try clear HO109)
        (try clear HO112)
        (try clear HO117)
        (try clear HO120)
        (try clear HO123)
        (try clear HO126)
        (try clear HO129)
        (try clear BK114)
        (try clear BK131)
        (try clear HB)
        generalize ((w28.setCell ⟨gb131, 0, none⟩ (.slice Ao29 t124.length co29)).setCell ⟨gb131, 1, none⟩ (.slice Ao31 t127.length co31)) = w33 at n0_ n1_ n2_ n3_ n4_ n5_ n6_ n7_ n8_ n9_ n10_ n11_ ⊢
        have HO103 := n0_
        have HO106 := n1_
        have HO109 := n2_
        have HO112 := n3_
        have HO117 := n4_
        have HO120 := n5_
        have HO123 := n6_
        have HO126 := n7_
        have HO129 := n8_
        have BK114 := n9_
        have BK131 := n10_
        have HB := n11_
        clear n0_ n1_ n2_ n3_ n4_ n5_ n6_ n7_ n8_ n9_ n10_ n11_
        have hnb34 := NB131_114.out
        have hnc34 := NB114_131.out
        obtain ⟨hcz35_0, hcz35_1⟩ := c2_ BK131
        obtain ⟨hfz35_0, hfz35_1⟩ := f2_ BK131
        try go_wp2_with (first | ((with_reducible refine gate_callee (f := 27) rfl ?_); refine goesL_ (some 21) rfl rfl Tryd.func27 (by kernel_rfl) rfl #[.agg #[.slice Ao29 t124.length co29, .slice Ao31 t127.length co31]] rfl Ga_ ?_; (with_reducible refine (mould_Flip.calls k (fun k_ => some k_ = (.slice Ao29 t124.length co29 : Value).ownBlock) _ _ t124 (fun k_ => some k_ = (.slice Ao31 t127.length co31 : Value).ownBlock) _ _ t127 t132 t135 t138 _ ?side1 ?side2 A5.out).mono ?_); (case side1 => exact Kd.R_V (Kd.R_tight rfl (Kd.R_types (Kd.R_types (Kd.R_apart' (Kd.R_apart' (Kd.R_apart' (Kd.R_apart' (HO126.out) (Kd.R_typed HO106.out) (by decide)) (Kd.R_typed HO112.out) (by decide)) (Kd.R_typed HO123.out) (by decide)) (Kd.R_typed HO129.out) (by decide)) BK114.out (by decide)) BK131.out (by decide)))); (case side2 => exact Kd.R_V (Kd.R_tight rfl (Kd.R_types (Kd.R_types (Kd.R_apart' (Kd.R_apart' (Kd.R_apart' (Kd.R_apart' (Kd.R_apart' (HO129.out) (Kd.R_typed HO103.out) (by decide)) (Kd.R_typed HO109.out) (by decide)) (Kd.R_typed HO117.out) (by decide)) (Kd.R_typed HO120.out) (by decide)) (Kd.R_typed HO126.out) (by decide)) BK114.out (by decide)) BK131.out (by decide)))); rintro e w36 ⟨v133, v136, rfl, ho0, ho1, hb⟩; refine ⟨_, rfl, ?_⟩; have HO134 := Aside0.mk (Kd.R_lower (Kd.R_new' (Kd.R_new' (Kd.R_new' (Kd.R_new' (Kd.R_new' (Kd.R_mono (ok' := fun k_ => True) ho0 (fun _ hk_ => trivial)) (Kd.R_lt (Pr_ HO103.out))) (Kd.R_lt (Pr_ HO109.out))) (Kd.R_lt (Pr_ HO117.out))) (Kd.R_lt (Pr_ HO120.out))) (Kd.R_lt (Pr_ HO126.out))) Bz_); replace HO103 := Aside0.mk (Kd.R_elder' (Pr_ HO103.out) (Kd.R_base ho0) hb); replace HO109 := Aside0.mk (Kd.R_elder' (Pr_ HO109.out) (Kd.R_base ho0) hb); replace HO117 := Aside0.mk (Kd.R_elder' (Pr_ HO117.out) (Kd.R_base ho0) hb); replace HO120 := Aside0.mk (Kd.R_elder' (Pr_ HO120.out) (Kd.R_base ho0) hb); replace HO126 := Aside0.mk (Kd.R_elder' (Pr_ HO126.out) (Kd.R_base ho0) hb); have HO137 := Aside0.mk (Kd.R_lower (Kd.R_new' (Kd.R_new' (Kd.R_new' (Kd.R_new' (Kd.R_mono (ok' := fun k_ => True) ho1 (fun _ hk_ => trivial)) (Kd.R_lt (Pr_ HO106.out))) (Kd.R_lt (Pr_ HO112.out))) (Kd.R_lt (Pr_ HO123.out))) (Kd.R_lt (Pr_ HO129.out))) Bz_); replace HO106 := Aside0.mk (Kd.R_elder' (Pr_ HO106.out) (Kd.R_base ho1) hb); replace HO112 := Aside0.mk (Kd.R_elder' (Pr_ HO112.out) (Kd.R_base ho1) hb); replace HO123 := Aside0.mk (Kd.R_elder' (Pr_ HO123.out) (Kd.R_base ho1) hb); replace HO129 := Aside0.mk (Kd.R_elder' (Pr_ HO129.out) (Kd.R_base ho1) hb); replace BK114 := kb_ BK114 hb; replace BK131 := kb_ BK131 hb; replace HB := Bs_ hb; (try clear hb); (try clear hb2); (try clear hk); (try clear hi); (try clear ho0); (try clear ho1)) | ((with_reducible refine gate_dst (N := 5) rfl ?_); (try (refine gate_guard (by rfl) ?_; dsimp only)); refine bx_ 5 #[.slice none 0 0, .slice none 0 0] 25 ?_; intro gb139 hg w37 hbox hb; replace HO103 := Aside0.mk (Kd.R_below (Pr_ HO103.out) hb); replace HO106 := Aside0.mk (Kd.R_below (Pr_ HO106.out) hb); replace HO109 := Aside0.mk (Kd.R_below (Pr_ HO109.out) hb); replace HO112 := Aside0.mk (Kd.R_below (Pr_ HO112.out) hb); replace HO117 := Aside0.mk (Kd.R_below (Pr_ HO117.out) hb); replace HO120 := Aside0.mk (Kd.R_below (Pr_ HO120.out) hb); replace HO123 := Aside0.mk (Kd.R_below (Pr_ HO123.out) hb); replace HO126 := Aside0.mk (Kd.R_below (Pr_ HO126.out) hb); replace HO129 := Aside0.mk (Kd.R_below (Pr_ HO129.out) hb); replace HO134 := Aside0.mk (Kd.R_below (Pr_ HO134.out) hb); replace HO137 := Aside0.mk (Kd.R_below (Pr_ HO137.out) hb); have BK139 := Aside0.mk (hbox); have GW139 := (Bg_ hg : Aside0 (w.heap.size ≤ gb139)); have GE139 := (Bg_ hg : Aside0 (w.heap.size ≤ gb139)); replace HB := Bs_ hb; have NB114_139 := nl_ hg BK114; have NB139_114 := ng_ hg BK114; replace BK114 := kb_ BK114 hb; have NB131_139 := nl_ hg BK131; have NB139_131 := ng_ hg BK131; replace BK131 := kb_ BK131 hb; clear hb hbox hg; obtain ⟨Ao38, co38, eo38⟩ := Kd.R_slice HO134.out; subst eo38; have hnb39 := NB139_114.out; have hnc39 := NB114_139.out; have hnb40 := NB139_131.out; have hnc40 := NB131_139.out; obtain ⟨hcz41_0, hcz41_1⟩ := c2_ BK139; obtain ⟨hfz41_0, hfz41_1⟩ := f2_ BK139; obtain ⟨Ao42, co42, eo42⟩ := Kd.R_slice HO137.out; subst eo42) | ((with_reducible refine gate_dst (N := 36) rfl ?_); (try (refine gate_guard (by rfl) ?_; dsimp only)); refine Kd.R_lit (Kd.int .i64) _ 3 ?hg (N := 36) ?hd (xs := ([3, 2] : List Int)) (inner := [.int .i64 3, .int .i64 2]) (ok := fun _ => True) (okp := fun _ => True) ?hr ?hp (fun _ hk => hk) trivial (Below.refl _ _) (Nat.le_refl _) (by simp) ?_; (case hd => rfl); (case hg => rfl); (case hr => first | (go_simp; done) | (go_simp; rfl)); (case hp => exact (Reps.one (show Kd.M (Kd.int .i64) _ _ _ 3 [.int .i64 3] from rfl) (Reps.one (show Kd.M (Kd.int .i64) _ _ _ 2 [.int .i64 2] from rfl) (Reps.none _ _)))); intro v141 w43 ho44 hb hg_ hnew_; clear hg_ hnew_; (first | rw [← Ny140.out] at ho44 | (simp only [Int.reduceToNat] at ho44; rw [← Ny140.out] at ho44)); replace HO106 := Aside0.mk (Kd.R_below (by (with_reducible repeat (first | apply Kd.R_alloc | apply Kd.R_drewN | apply Kd.R_drew)); exact (Kd.R_mono (Kd.R_far (p := ⟨gb139, 1, none⟩) (Kd.R_far (p := ⟨gb139, 0, none⟩) (Kd.R_types HO106.out BK139.out (by decide)) (fun _ hk => hk.2) (.slice Ao38 t132.length co38)) (fun _ hk => hk.2) (.slice Ao42 t135.length co42)) (fun _ h_ => h_.1))) hb); replace HO112 := Aside0.mk (Kd.R_below (by (with_reducible repeat (first | apply Kd.R_alloc | apply Kd.R_drewN | apply Kd.R_drew)); exact (Kd.R_mono (Kd.R_far (p := ⟨gb139, 1, none⟩) (Kd.R_far (p := ⟨gb139, 0, none⟩) (Kd.R_types HO112.out BK139.out (by decide)) (fun _ hk => hk.2) (.slice Ao38 t132.length co38)) (fun _ hk => hk.2) (.slice Ao42 t135.length co42)) (fun _ h_ => h_.1))) hb); replace HO123 := Aside0.mk (Kd.R_below (by (with_reducible repeat (first | apply Kd.R_alloc | apply Kd.R_drewN | apply Kd.R_drew)); exact (Kd.R_mono (Kd.R_far (p := ⟨gb139, 1, none⟩) (Kd.R_far (p := ⟨gb139, 0, none⟩) (Kd.R_types HO123.out BK139.out (by decide)) (fun _ hk => hk.2) (.slice Ao38 t132.length co38)) (fun _ hk => hk.2) (.slice Ao42 t135.length co42)) (fun _ h_ => h_.1))) hb); replace HO129 := Aside0.mk (Kd.R_below (by (with_reducible repeat (first | apply Kd.R_alloc | apply Kd.R_drewN | apply Kd.R_drew)); exact (Kd.R_mono (Kd.R_far (p := ⟨gb139, 1, none⟩) (Kd.R_far (p := ⟨gb139, 0, none⟩) (Kd.R_types HO129.out BK139.out (by decide)) (fun _ hk => hk.2) (.slice Ao38 t132.length co38)) (fun _ hk => hk.2) (.slice Ao42 t135.length co42)) (fun _ h_ => h_.1))) hb); replace HO137 := Aside0.mk (Kd.R_below (by (with_reducible repeat (first | apply Kd.R_alloc | apply Kd.R_drewN | apply Kd.R_drew)); exact (Kd.R_mono (Kd.R_far (p := ⟨gb139, 1, none⟩) (Kd.R_far (p := ⟨gb139, 0, none⟩) (Kd.R_types HO137.out BK139.out (by decide)) (fun _ hk => hk.2) (.slice Ao38 t132.length co38)) (fun _ hk => hk.2) (.slice Ao42 t135.length co42)) (fun _ h_ => h_.1))) hb); have HO142 := Aside0.mk (Kd.R_lower (Kd.R_new' (Kd.R_new' (Kd.R_new' (Kd.R_new' (Kd.R_new' (Kd.R_new' ho44 (Kd.R_lt (by (with_reducible repeat (first | apply Kd.R_alloc | apply Kd.R_drewN | apply Kd.R_drew)); exact (Kd.R_mono (Kd.R_far (p := ⟨gb139, 1, none⟩) (Kd.R_far (p := ⟨gb139, 0, none⟩) (Kd.R_types HO103.out BK139.out (by decide)) (fun _ hk => hk.2) (.slice Ao38 t132.length co38)) (fun _ hk => hk.2) (.slice Ao42 t135.length co42)) (fun _ h_ => h_.1))))) (Kd.R_lt (by (with_reducible repeat (first | apply Kd.R_alloc | apply Kd.R_drewN | apply Kd.R_drew)); exact (Kd.R_mono (Kd.R_far (p := ⟨gb139, 1, none⟩) (Kd.R_far (p := ⟨gb139, 0, none⟩) (Kd.R_types HO109.out BK139.out (by decide)) (fun _ hk => hk.2) (.slice Ao38 t132.length co38)) (fun _ hk => hk.2) (.slice Ao42 t135.length co42)) (fun _ h_ => h_.1))))) (Kd.R_lt (by (with_reducible repeat (first | apply Kd.R_alloc | apply Kd.R_drewN | apply Kd.R_drew)); exact (Kd.R_mono (Kd.R_far (p := ⟨gb139, 1, none⟩) (Kd.R_far (p := ⟨gb139, 0, none⟩) (Kd.R_types HO117.out BK139.out (by decide)) (fun _ hk => hk.2) (.slice Ao38 t132.length co38)) (fun _ hk => hk.2) (.slice Ao42 t135.length co42)) (fun _ h_ => h_.1))))) (Kd.R_lt (by (with_reducible repeat (first | apply Kd.R_alloc | apply Kd.R_drewN | apply Kd.R_drew)); exact (Kd.R_mono (Kd.R_far (p := ⟨gb139, 1, none⟩) (Kd.R_far (p := ⟨gb139, 0, none⟩) (Kd.R_types HO120.out BK139.out (by decide)) (fun _ hk => hk.2) (.slice Ao38 t132.length co38)) (fun _ hk => hk.2) (.slice Ao42 t135.length co42)) (fun _ h_ => h_.1))))) (Kd.R_lt (by (with_reducible repeat (first | apply Kd.R_alloc | apply Kd.R_drewN | apply Kd.R_drew)); exact (Kd.R_mono (Kd.R_far (p := ⟨gb139, 1, none⟩) (Kd.R_far (p := ⟨gb139, 0, none⟩) (Kd.R_types HO126.out BK139.out (by decide)) (fun _ hk => hk.2) (.slice Ao38 t132.length co38)) (fun _ hk => hk.2) (.slice Ao42 t135.length co42)) (fun _ h_ => h_.1))))) (Kd.R_lt (by (with_reducible repeat (first | apply Kd.R_alloc | apply Kd.R_drewN | apply Kd.R_drew)); exact (Kd.R_mono (Kd.R_far (p := ⟨gb139, 1, none⟩) (Kd.R_far (p := ⟨gb139, 0, none⟩) (Kd.R_types HO134.out BK139.out (by decide)) (fun _ hk => hk.2) (.slice Ao38 t132.length co38)) (fun _ hk => hk.2) (.slice Ao42 t135.length co42)) (fun _ h_ => h_.1))))) Bz_); replace HO103 := Aside0.mk (Kd.R_elder' (by (with_reducible repeat (first | apply Kd.R_alloc | apply Kd.R_drewN | apply Kd.R_drew)); exact (Kd.R_mono (Kd.R_far (p := ⟨gb139, 1, none⟩) (Kd.R_far (p := ⟨gb139, 0, none⟩) (Kd.R_types HO103.out BK139.out (by decide)) (fun _ hk => hk.2) (.slice Ao38 t132.length co38)) (fun _ hk => hk.2) (.slice Ao42 t135.length co42)) (fun _ h_ => h_.1))) (Kd.R_base ho44) hb); replace HO109 := Aside0.mk (Kd.R_elder' (by (with_reducible repeat (first | apply Kd.R_alloc | apply Kd.R_drewN | apply Kd.R_drew)); exact (Kd.R_mono (Kd.R_far (p := ⟨gb139, 1, none⟩) (Kd.R_far (p := ⟨gb139, 0, none⟩) (Kd.R_types HO109.out BK139.out (by decide)) (fun _ hk => hk.2) (.slice Ao38 t132.length co38)) (fun _ hk => hk.2) (.slice Ao42 t135.length co42)) (fun _ h_ => h_.1))) (Kd.R_base ho44) hb); replace HO117 := Aside0.mk (Kd.R_elder' (by (with_reducible repeat (first | apply Kd.R_alloc | apply Kd.R_drewN | apply Kd.R_drew)); exact (Kd.R_mono (Kd.R_far (p := ⟨gb139, 1, none⟩) (Kd.R_far (p := ⟨gb139, 0, none⟩) (Kd.R_types HO117.out BK139.out (by decide)) (fun _ hk => hk.2) (.slice Ao38 t132.length co38)) (fun _ hk => hk.2) (.slice Ao42 t135.length co42)) (fun _ h_ => h_.1))) (Kd.R_base ho44) hb); replace HO120 := Aside0.mk (Kd.R_elder' (by (with_reducible repeat (first | apply Kd.R_alloc | apply Kd.R_drewN | apply Kd.R_drew)); exact (Kd.R_mono (Kd.R_far (p := ⟨gb139, 1, none⟩) (Kd.R_far (p := ⟨gb139, 0, none⟩) (Kd.R_types HO120.out BK139.out (by decide)) (fun _ hk => hk.2) (.slice Ao38 t132.length co38)) (fun _ hk => hk.2) (.slice Ao42 t135.length co42)) (fun _ h_ => h_.1))) (Kd.R_base ho44) hb); replace HO126 := Aside0.mk (Kd.R_elder' (by (with_reducible repeat (first | apply Kd.R_alloc | apply Kd.R_drewN | apply Kd.R_drew)); exact (Kd.R_mono (Kd.R_far (p := ⟨gb139, 1, none⟩) (Kd.R_far (p := ⟨gb139, 0, none⟩) (Kd.R_types HO126.out BK139.out (by decide)) (fun _ hk => hk.2) (.slice Ao38 t132.length co38)) (fun _ hk => hk.2) (.slice Ao42 t135.length co42)) (fun _ h_ => h_.1))) (Kd.R_base ho44) hb); replace HO134 := Aside0.mk (Kd.R_elder' (by (with_reducible repeat (first | apply Kd.R_alloc | apply Kd.R_drewN | apply Kd.R_drew)); exact (Kd.R_mono (Kd.R_far (p := ⟨gb139, 1, none⟩) (Kd.R_far (p := ⟨gb139, 0, none⟩) (Kd.R_types HO134.out BK139.out (by decide)) (fun _ hk => hk.2) (.slice Ao38 t132.length co38)) (fun _ hk => hk.2) (.slice Ao42 t135.length co42)) (fun _ h_ => h_.1))) (Kd.R_base ho44) hb); replace BK114 := Aside0.mk (blk_below (g := gb114) (o := .cells #[.slice Ao15 t107.length co15, .slice Ao17 t110.length co17] 25 (0, 0)) (by (with_reducible repeat (first | refine blk_drewN ?_ _ | refine blk_drew ?_ | refine blk_alloc ?_ _)); refine blk_far ?_ NB114_139.out _; (with_reducible repeat (first | refine blk_drewN ?_ _ | refine blk_drew ?_ | refine blk_alloc ?_ _)); refine blk_far ?_ NB114_139.out _; (with_reducible repeat (first | refine blk_drewN ?_ _ | refine blk_drew ?_ | refine blk_alloc ?_ _)); exact BK114.out) hb); replace BK131 := Aside0.mk (blk_below (g := gb131) (o := .cells #[.slice Ao29 t124.length co29, .slice Ao31 t127.length co31] 25 (0, 0)) (by (with_reducible repeat (first | refine blk_drewN ?_ _ | refine blk_drew ?_ | refine blk_alloc ?_ _)); refine blk_far ?_ NB131_139.out _; (with_reducible repeat (first | refine blk_drewN ?_ _ | refine blk_drew ?_ | refine blk_alloc ?_ _)); refine blk_far ?_ NB131_139.out _; (with_reducible repeat (first | refine blk_drewN ?_ _ | refine blk_drew ?_ | refine blk_alloc ?_ _)); exact BK131.out) hb); replace BK139 := Aside0.mk (blk_below (g := gb139) (o := .cells #[.slice Ao38 t132.length co38, .slice Ao42 t135.length co42] 25 (0, 0)) (by (with_reducible repeat (first | refine blk_drewN ?_ _ | refine blk_drew ?_ | refine blk_alloc ?_ _)); refine blk_put (cs := #[.slice Ao38 t132.length co38, .slice none 0 0]) ?_ 1 _ rfl; (with_reducible repeat (first | refine blk_drewN ?_ _ | refine blk_drew ?_ | refine blk_alloc ?_ _)); refine blk_put (cs := #[.slice none 0 0, .slice none 0 0]) ?_ 0 _ rfl; (with_reducible repeat (first | refine blk_drewN ?_ _ | refine blk_drew ?_ | refine blk_alloc ?_ _)); exact BK139.out) hb); replace HB := Bs_ hb; clear hb ho44) | ((with_reducible refine gate_dst (N := 37) rfl ?_); (try (refine gate_guard (by rfl) ?_; dsimp only)); refine Kd.R_lit Kd.string _ 9 ?hg (N := 37) ?hd (xs := ([(⟨#[48]⟩ : ByteArray), (⟨#[51]⟩ : ByteArray), (⟨#[49]⟩ : ByteArray), (⟨#[52]⟩ : ByteArray), (⟨#[50]⟩ : ByteArray), (⟨#[53]⟩ : ByteArray)] : List ByteArray)) (inner := [.string (⟨#[48]⟩ : ByteArray), .string (⟨#[51]⟩ : ByteArray), .string (⟨#[49]⟩ : ByteArray), .string (⟨#[52]⟩ : ByteArray), .string (⟨#[50]⟩ : ByteArray), .string (⟨#[53]⟩ : ByteArray)]) (ok := fun _ => True) (okp := fun _ => True) ?hr ?hp (fun _ hk => hk) trivial (Below.refl _ _) (Nat.le_refl _) (by simp) ?_; (case hd => rfl); (case hg => rfl); (case hr => first | (go_simp; done) | (go_simp; rfl)); (case hp => exact (Reps.one (show Kd.M Kd.string _ _ _ (⟨#[48]⟩ : ByteArray) [.string (⟨#[48]⟩ : ByteArray)] from rfl) (Reps.one (show Kd.M Kd.string _ _ _ (⟨#[51]⟩ : ByteArray) [.string (⟨#[51]⟩ : ByteArray)] from rfl) (Reps.one (show Kd.M Kd.string _ _ _ (⟨#[49]⟩ : ByteArray) [.string (⟨#[49]⟩ : ByteArray)] from rfl) (Reps.one (show Kd.M Kd.string _ _ _ (⟨#[52]⟩ : ByteArray) [.string (⟨#[52]⟩ : ByteArray)] from rfl) (Reps.one (show Kd.M Kd.string _ _ _ (⟨#[50]⟩ : ByteArray) [.string (⟨#[50]⟩ : ByteArray)] from rfl) (Reps.one (show Kd.M Kd.string _ _ _ (⟨#[53]⟩ : ByteArray) [.string (⟨#[53]⟩ : ByteArray)] from rfl) (Reps.none _ _)))))))); intro v144 w45 ho46 hb hg_ hnew_; clear hg_ hnew_; (first | rw [← Ny143.out] at ho46 | (simp only [Int.reduceToNat] at ho46; rw [← Ny143.out] at ho46)); replace HO103 := Aside0.mk (Kd.R_below (Pr_ HO103.out) hb); replace HO109 := Aside0.mk (Kd.R_below (Pr_ HO109.out) hb); replace HO117 := Aside0.mk (Kd.R_below (Pr_ HO117.out) hb); replace HO120 := Aside0.mk (Kd.R_below (Pr_ HO120.out) hb); replace HO126 := Aside0.mk (Kd.R_below (Pr_ HO126.out) hb); replace HO134 := Aside0.mk (Kd.R_below (Pr_ HO134.out) hb); replace HO142 := Aside0.mk (Kd.R_below (Pr_ HO142.out) hb); have HO145 := Aside0.mk (Kd.R_lower (Kd.R_new' (Kd.R_new' (Kd.R_new' (Kd.R_new' (Kd.R_new' ho46 (Kd.R_lt (Pr_ HO106.out))) (Kd.R_lt (Pr_ HO112.out))) (Kd.R_lt (Pr_ HO123.out))) (Kd.R_lt (Pr_ HO129.out))) (Kd.R_lt (Pr_ HO137.out))) Bz_); replace HO106 := Aside0.mk (Kd.R_elder' (Pr_ HO106.out) (Kd.R_base ho46) hb); replace HO112 := Aside0.mk (Kd.R_elder' (Pr_ HO112.out) (Kd.R_base ho46) hb); replace HO123 := Aside0.mk (Kd.R_elder' (Pr_ HO123.out) (Kd.R_base ho46) hb); replace HO129 := Aside0.mk (Kd.R_elder' (Pr_ HO129.out) (Kd.R_base ho46) hb); replace HO137 := Aside0.mk (Kd.R_elder' (Pr_ HO137.out) (Kd.R_base ho46) hb); replace BK114 := kb_ BK114 hb; replace BK131 := kb_ BK131 hb; replace BK139 := kb_ BK139 hb; replace HB := Bs_ hb; clear hb ho46; obtain ⟨Ao47, co47, eo47⟩ := Kd.R_slice HO145.out; subst eo47; obtain ⟨Ao48, co48, eo48⟩ := Kd.R_slice HO142.out; subst eo48) | (go_at_call 24; (with_reducible refine (val_Same.calls k _ _ t132 _ _ t135 _ _ y140 _ _ y143 t146 _ ?side1 ?side2 ?side3 ?side4 ?side5 ?side6 ?side7 ?side8 A9.out).mono ?_); (case side1 => exact Pc_ ((Kd.R_reads' HO134.out).2.2)); (case side2 => exact (Kd.R_reads' HO134.out).2.1); (case side3 => exact Pc_ ((Kd.R_reads' HO137.out).2.2)); (case side4 => exact (Kd.R_reads' HO137.out).2.1); (case side5 => exact Pc_ ((Kd.R_reads' HO142.out).2.2)); (case side6 => exact (Kd.R_reads' HO142.out).2.1); (case side7 => exact Pc_ ((Kd.R_reads' HO145.out).2.2)); (case side8 => exact (Kd.R_reads' HO145.out).2.1); rintro e w49 ⟨rfl, hb⟩; replace HO103 := Aside0.mk (Kd.R_below (Pr_ HO103.out) hb); replace HO106 := Aside0.mk (Kd.R_below (Pr_ HO106.out) hb); replace HO109 := Aside0.mk (Kd.R_below (Pr_ HO109.out) hb); replace HO112 := Aside0.mk (Kd.R_below (Pr_ HO112.out) hb); replace HO117 := Aside0.mk (Kd.R_below (Pr_ HO117.out) hb); replace HO120 := Aside0.mk (Kd.R_below (Pr_ HO120.out) hb); replace HO123 := Aside0.mk (Kd.R_below (Pr_ HO123.out) hb); replace HO126 := Aside0.mk (Kd.R_below (Pr_ HO126.out) hb); replace HO129 := Aside0.mk (Kd.R_below (Pr_ HO129.out) hb); replace HO134 := Aside0.mk (Kd.R_below (Pr_ HO134.out) hb); replace HO137 := Aside0.mk (Kd.R_below (Pr_ HO137.out) hb); replace HO142 := Aside0.mk (Kd.R_below (Pr_ HO142.out) hb); replace HO145 := Aside0.mk (Kd.R_below (Pr_ HO145.out) hb); replace BK114 := kb_ BK114 hb; replace BK131 := kb_ BK131 hb; replace BK139 := kb_ BK139 hb; replace HB := Bs_ hb; (try clear hb); (try clear hb2); (try clear hk); (try clear hi)))
        go_ret
        exact ⟨Re_, Bl_⟩
      · rw [if_neg c8] at H
        exact absurd H (by simp)
    · rw [if_neg c7] at H
      exact absurd H (by simp)
  · rw [if_neg c6] at H
    exact absurd H (by simp)

theorem reredoslaw14_shown.told : reredoslaw14_shown.f 40 = some true := by decide +kernel
def reredoslaw14_shownC.f : Option Bool := some true
theorem reredoslaw14_shownC.calls (r : Bool) (w : World) (h : reredoslaw14_shownC.f = some r) (hG : Glob w) : Calls Tryd.prog 20 #[] w fun e w' => e = .returned (.bool r) ∧ Below w.heap.size w w' := by
  obtain rfl := Option.some.inj h
  exact reredoslaw14_shown.calls 40 true w reredoslaw14_shown.told hG
/-! ### shape_Items: function 68 -/
def shape_Items.f (l0 : List Int) : Option (Int × List Int) := if (l0.length : Int) = 0 then (some (1, ([] : List Int))) else (if 0 < (l0.length : Int) then (if 1 ≤ (l0.length : Int) then ((slices_Clone_int_int.f (l0.drop 1)).bind fun t103 => (some (rd l0 0, t103))) else (none)) else (none))
def shape_Items.T3 : Bool × List (List Nat × List Nat) := (true, [([], []), ([0], [0]), ([1], [1]), ([], []), ([3], [3]), ([4], [4]), ([2, 5, 0, 1, 2], [2]), ([5, 6, 0, 1, 2, 3, 4, 5, 6], [5])])
def shape_Items.B3 : List Nat := [0, 1, 3, 0, 8, 24, 63, 127]
theorem shape_Items.tab3 : rtab .any (opsOf Tryd.f68 3) = shape_Items.T3 := by kernel_rfl
theorem shape_Items.bits3 : waitsOk shape_Items.T3.2 shape_Items.B3 = true := by kernel_rfl
set_option maxHeartbeats 8000000 in
set_option maxRecDepth 100000 in
theorem shape_Items.calls (A0 : Option Addr) (c0 : Nat) (l0 : List Int) (r1 : Int) (r2 : List Int) (w : World) (hr0 : Kd.C (Kd.int .i64) w A0 l0.length l0) (hc0 : l0.length ≤ c0) (h : shape_Items.f l0 = some (r1, r2)) :
    Calls Tryd.prog 68 #[.slice A0 l0.length c0] w fun e w' => ∃ v1_ : Value, e = .returned (.tuple #[.int .i64 r1, v1_]) ∧ Kd.R (Kd.int .i64) 3 w' w.heap.size (fun _ => True) v1_ r2 ∧ Below w.heap.size w w' := by
  have HR0 := Aside0.mk hr0
  have HC0 := Aside0.mk hc0
  clear hr0 hc0
  have HB := Aside0.mk (Below.refl w.heap.size w)
  have H : (if (l0.length : Int) = 0 then (some (1, ([] : List Int))) else (if 0 < (l0.length : Int) then (if 1 ≤ (l0.length : Int) then ((slices_Clone_int_int.f (l0.drop 1)).bind fun t103 => (some (rd l0 0, t103))) else (none)) else (none))) = some (r1, r2) := h
  clear h
  by_cases c2 : (l0.length : Int) = 0
  · rw [if_pos c2] at H
    have c2b0 : ((l0.length : Int) == 0) = true := beq_iff_eq.mpr c2
    have c2b1 : ((l0.length : Int) != 0) = false := bne_eq_false_iff_eq.mpr c2
    clear c2
    simp only [Option.some.injEq, Prod.mk.injEq] at H
    obtain ⟨rfl, rfl⟩ := H
    go_enter Tryd.func68, Tryd.ntmps68
    go_wp2
    go_ret2
    exact ⟨_, Re_, by first | exact Kd.R_nil _ _ _ _ _ | exact Kd.N_nil _ _ _ _ _ | exact Kd.V_nil _ _ _ _ _ | exact Kd.Q_nil _ _ _ _ _ | exact Kd.S_nil _ _ _ _ _, Bl_⟩
  · rw [if_neg c2] at H
    have c2b0 : ((l0.length : Int) == 0) = false := beq_eq_false_iff_ne.mpr c2
    have c2b1 : ((l0.length : Int) != 0) = true := bne_iff_ne.mpr c2
    have c2b2 : ¬ (l0 = []) := fun h_ => c2 (by rw [h_]; rfl)
    by_cases c3 : 0 < (l0.length : Int)
    · rw [if_pos c3] at H
      have c3b0 : decide (0 < (l0.length : Int)) = true := decide_eq_true c3
      have c3b1 : decide (0 < l0.length) = true := decide_eq_true (by omega)
      clear c3
      by_cases c4 : 1 ≤ (l0.length : Int)
      · rw [if_pos c4] at H
        have c4b0 := eq_true c4
        have c4b1 : decide (1 ≤ (l0.length : Int)) = true := decide_eq_true c4
        clear c4
        obtain ⟨t103, A5, H⟩ := bnd_ H
        try dsimp -simprocs only at H
        simp only [Option.some.injEq, Prod.mk.injEq] at H
        obtain ⟨rfl, rfl⟩ := H
        go_enter Tryd.func68, Tryd.ntmps68
        try go_wp2
        replace HB := Aside0.mk (below_drew1 HB.out)
        have p101 : 0 ≤ (0 : Int) := (by omega)
        have q101 : 0 < (l0.length : Int) := of_decide_eq_true As_
        obtain ⟨ad101, e101, hx101_0⟩ := Kd.at_int HR0.out 0 p101 q101
        have hw101_0 := hx101_0
        (try rw [show ((0 : Int)).toNat = 0 from rfl] at hw101_0)
        (try rw [show 0 * 1 = 0 from rfl] at hw101_0)
        (try rw [Addr.add_zero'] at hw101_0)
        cases e101
        have qi101 : (0 < l0.length) = True := eq_true (by omega)
        (try rw [show ((0 : Int)).toNat = 0 from rfl] at hx101_0)
        (try rw [Addr.add_zero'] at hx101_0)
        replace hx101_0 := (HB.out.cell (World.block_lt_of_cell? w _ hx101_0)).trans hx101_0
        replace p101 := eq_true p101
        replace q101 := eq_true q101
        obtain ⟨i07, hi07, _, hsz7, _⟩ := info_parts info3
        obtain ⟨A7, hcut7, hA7, hC7⟩ := print_drop_of (P := Tryd.prog) (Value.int .i64) 0 22 3 .i64 Tryd.underlying22 hi07 hsz7 (some ad101) c0 l0 1 (by omega) (of_decide_eq_true As_) HC0.out
        have HR102 := Aside0.mk (Kd.C_of_reads (h1 := fun _ => rfl) (hA7 _ (Kd.reads_of_C HR0.out)))
        have HC102 := Aside0.mk hC7
        clear hA7 hC7 hi07 hsz7
        refine start_ (n := 8) (S := fun w' => w'.cell? ad101 = some (.int .i64 (rd l0 0))) (ds := []) #[false, false, false, false, false, false, false, false] (by kernel_rfl) rfl rfl (((HB.out.cell (World.block_lt_of_cell? w _ hw101_0)).trans hw101_0)) (fun hHeld => ?_); refine with_tabW shape_Items.tab3 shape_Items.bits3 (fun HT_ HW_ => ?_)
        generalize w.drew = w6 at HB HR102 hx101_0 hHeld ⊢
        refine pu_ 0 (some 7) HT_ #[true, false, false, false, false, false, false, false] ?_
        refine pu_ 1 (some 8) HT_ #[true, true, false, false, false, false, false, false] ?_
        refine pu_ 3 (some 10) HT_ #[true, true, false, true, false, false, false, false] ?_
        refine pu_ 4 (some 11) HT_ #[true, true, false, true, true, false, false, false] ?_
        refine take_ (i := 2) (N := some 9) (v := ?_) (a' := ?_) #[true, true, true, true, true, false, false, false] rfl rfl (take_ofW HT_.out HW_.out (by kernel_rfl)) (fun _ _ _ h => h) (Or.inl ⟨by rfl, ?_⟩) hHeld ?_ ?_
        rotate_left
        · intro w' s0
          go_simp
          with_reducible rfl
        rotate_left
        · simp only [Act.put, List.setIfInBounds_toArray, List.set_cons_zero, List.set_cons_succ, i64_w, i32_w]
          rfl
        refine one_ (i := 5) (N := some 12) #[true, true, true, true, true, true, false, false] rfl rfl (one_of HT_.out (by kernel_rfl)) (by decide) (fun K hK => ?_)
        refine goes_ Tryd.func55 (by kernel_rfl) rfl #[.slice A7 (l0.drop 1).length (c0 - 1)] (by rfl) rfl rfl (by (try simp only [List.map_toArray, List.map_cons, List.map_nil]); first | done | (rw [show (l0.drop 1).length = (l0.length - 1) from List.length_drop] <;> rfl) | rfl | (simp only [List.length_drop, List.length_take]; rfl)) ?_
        with_reducible refine (slices_Clone_int_int.calls _ _ (l0.drop 1) t103 _ ?side1 ?side2 A5.out).mono ?_
        (case side1 => exact Pc_ (Kd.C_below HR102.out HB.out))
        (case side2 => exact HC102.out)
        rintro e w8 ⟨v104, rfl, ho0, hb⟩
        refine ⟨_, rfl, ?_⟩
        have HO105 := Aside0.mk (Kd.R_lower ho0 Bz_)
        replace HB := Bs_ hb
        (try clear hb)
        (try clear hb2)
        (try clear hk)
        (try clear hi)
        (try clear ho0)
        refine hK.out _ _ (((HB.out.cell (World.block_lt_of_cell? w _ hw101_0)).trans hw101_0)) (fun hHeld => ?_)
        clear hK K
        refine norm_ (a' := ?_) ?_ ?_
        rotate_left
        · show Act.put _ (some 12) _ = _
          simp only [Act.put, List.setIfInBounds_toArray, List.set_cons_zero, List.set_cons_succ, i64_w, i32_w]
          rfl
        refine pu_ 6 (some 2) HT_ #[true, true, true, true, true, true, true, false] ?_
        refine pu_ 7 (some 3) HT_ #[true, true, true, true, true, true, true, true] ?_
        refine done_ (done_of HT_.out (by kernel_rfl)) ?_
        try go_wp2
        go_ret2
        exact ⟨_, Re_, by (with_reducible repeat (first | apply Kd.R_alloc | apply Kd.R_drewN | apply Kd.R_drew)); exact HO105.out, Bl_⟩
      · rw [if_neg c4] at H
        exact absurd H (by simp)
    · rw [if_neg c3] at H
      exact absurd H (by simp)
/-! ### val_Many: function 32 -/
def val_Many.f (l0_0 : List Int) (l0_1 : List ByteArray) : Option (Int) := (shape_Items.f l0_0).bind fun bt102 => (some bt102.1)
set_option maxHeartbeats 8000000 in
set_option maxRecDepth 100000 in
theorem val_Many.calls (A0_0 : Option Addr) (c0_0 : Nat) (l0_0 : List Int) (A0_1 : Option Addr) (c0_1 : Nat) (l0_1 : List ByteArray) (r : Int) (w : World) (hr0_0 : Kd.C (Kd.int .i64) w A0_0 l0_0.length l0_0) (hc0_0 : l0_0.length ≤ c0_0) (hr0_1 : Kd.C Kd.string w A0_1 l0_1.length l0_1) (hc0_1 : l0_1.length ≤ c0_1) (h : val_Many.f l0_0 l0_1 = some r) :
    Calls Tryd.prog 32 #[.agg #[.slice A0_0 l0_0.length c0_0, .slice A0_1 l0_1.length c0_1]] w fun e w' => e = .returned (.int .i64 r) ∧ Below w.heap.size w w' := by
  have hu25 := Tryd.underlying25
  have HR0_0 := Aside0.mk hr0_0
  have HC0_0 := Aside0.mk hc0_0
  clear hr0_0 hc0_0
  have HR0_1 := Aside0.mk hr0_1
  have HC0_1 := Aside0.mk hc0_1
  clear hr0_1 hc0_1
  have HB := Aside0.mk (Below.refl w.heap.size w)
  have H : ((shape_Items.f l0_0).bind fun bt102 => (some bt102.1)) = some r := h
  clear h
  obtain ⟨⟨t102, t103⟩, A2, H⟩ := bnd_ H
  try dsimp -simprocs only at H
  obtain rfl := Option.some.inj H
  go_enter Tryd.func32, Tryd.ntmps32
  go_wp2_with (first | ((with_reducible refine gate_dst (N := 1) rfl ?_); refine bx_ 1 #[.slice A0_0 l0_0.length c0_0, .slice A0_1 l0_1.length c0_1] 25 ?_; intro gb101 hg w3 hbox hb; have BK101 := Aside0.mk (hbox); have GW101 := (Bg_ hg : Aside0 (w.heap.size ≤ gb101)); have GE101 := (Bg_ hg : Aside0 (w.heap.size ≤ gb101)); replace HB := Bs_ hb; clear hb hbox hg; obtain ⟨hcz4_0, hcz4_1⟩ := c2_ BK101; obtain ⟨hfz4_0, hfz4_1⟩ := f2_ BK101) | ((with_reducible refine gate_callee (f := 68) rfl ?_); refine goesL_ (some 8) rfl rfl Tryd.func68 (by kernel_rfl) rfl #[.slice A0_0 l0_0.length c0_0] rfl Ga_ ?_; (with_reducible refine (shape_Items.calls _ _ l0_0 t102 t103 _ ?side1 ?side2 A2.out).mono ?_); (case side1 => exact Pc_ (Kd.C_below HR0_0.out HB.out)); (case side2 => exact HC0_0.out); rintro e w5 ⟨v104, rfl, ho0, hb⟩; refine ⟨_, rfl, ?_⟩; have HO105 := Aside0.mk (Kd.R_lower ho0 Bz_); replace BK101 := kb_ BK101 hb; replace HB := Bs_ hb; (try clear hb); (try clear hb2); (try clear hk); (try clear hi); (try clear ho0)))
  go_ret
  exact ⟨Re_, Bl_⟩
/-! ### mould_part_string: function 89 -/
def mould_part_string.f (l0 : List ByteArray) (a1 : Int) (a2 : Int) : Option (List ByteArray) := if 0 ≤ a1 ∧ a1 ≤ a2 ∧ a2 ≤ (l0.length : Int) then slices_Clone_string_string.f ((l0.drop a1.toNat).take (a2.toNat - a1.toNat)) else none
set_option maxHeartbeats 1000000 in
theorem mould_part_string.calls (A0 : Option Addr) (c0 : Nat) (l0 : List ByteArray) (a1 : Int) (a2 : Int) (r : List ByteArray) (w : World) (hr0 : Kd.C Kd.string w A0 l0.length l0) (hc0 : l0.length ≤ c0) (h : mould_part_string.f l0 a1 a2 = some r) :
    Calls Tryd.prog 89 #[.slice A0 l0.length c0, .int .i64 a1, .int .i64 a2] w fun e w' => ∃ v0_ : Value, e = .returned (v0_) ∧ Kd.R Kd.string 9 w' w.heap.size (fun _ => True) v0_ r ∧ Below w.heap.size w w' := by
  unfold mould_part_string.f at h
  split at h
  case isFalse => cases h
  rename_i hg
  obtain ⟨h0, h1, h2⟩ := hg
  obtain ⟨a, rfl⟩ := Int.eq_ofNat_of_zero_le h0
  obtain ⟨b, rfl⟩ := Int.eq_ofNat_of_zero_le (Int.le_trans h0 h1)
  simp only [Int.toNat_natCast] at h
  have q0 : ((b : Nat) : Int) ≤ (c0 : Int) := by omega
  by_cases hab : a = b
  · subst hab
    rw [Nat.sub_self] at h
    have hr : Kd.C Kd.string w A0 ((l0.drop a).take 0).length ((l0.drop a).take 0) := by simpa using Kd.C_take hr0 (m := 0) (by omega)
    rw [List.take_zero] at hr h
    have HH := Aside0.mk h
    have HR := Aside0.mk hr
    clear h hr hr0
    go_enter Tryd.func89, Tryd.ntmps89
    go_wp2_with (go_at_call 56; refine (slices_Clone_string_string.calls A0 0 [] r w HR.out (Nat.le_refl _) HH.out).mono ?_; rintro e w' ⟨v, rfl, ho, hb⟩)
    go_ret
    exact ⟨_, rfl, ho, hb⟩
  · have hlt : a < b := by omega
    have hnc : ¬ c0 = a := by omega
    have hd := Kd.C_drop hr0 (m := a) (c := c0) (by omega) hc0
    rw [if_neg hnc] at hd
    have hr := Kd.C_take hd (m := b - a) (by rw [List.length_drop]; omega)
    have hl : ((l0.drop a).take (b - a)).length = b - a := by rw [List.length_take, List.length_drop]; omega
    have e1 : Option.map (fun x : Addr => x.add (a * Kd.string.sz)) A0 = Option.map (fun x => x.add a) A0 := by simp [Kd.string, Kd.scalar]
    rw [e1] at hr
    have HH := Aside0.mk h
    have HR := Aside0.mk hr
    have HL := Aside0.mk hl
    clear h hr hr0 hd hl e1
    go_enter Tryd.func89, Tryd.ntmps89
    go_wp2_with fail
    all_goals first
      | omega
      | (have hcl := slices_Clone_string_string.calls (Option.map (fun x => x.add a) A0) (b - a) _ r w HR.out (by rw [HL.out]; exact Nat.le_refl _) HH.out
         rw [HL.out] at hcl
         refine hcl.mono ?_
         clear hcl
         rintro e w' ⟨v, rfl, ho, hb⟩
         go_wp2
         go_ret
         exact ⟨_, rfl, ho, hb⟩)

end Go.Proofs.YtfjilihppnndkaaDoor.P
