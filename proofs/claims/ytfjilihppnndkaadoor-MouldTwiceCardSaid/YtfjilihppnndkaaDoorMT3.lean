-- Written by drive.py of this claim's own session, by way of the kit's print. Lean checks it.
import Derived.Test.YtfjilihppnndkaaDoorMT1
import Derived.Test.YtfjilihppnndkaaDoorMT2
namespace Go.Proofs.YtfjilihppnndkaaDoor.P
open Go.RowKit Go.Proofs.YtfjilihppnndkaaDoorW.PrintWords Go.Proofs.YtfjilihppnndkaaDoorW.PrintLast Go.Proofs.YtfjilihppnndkaaDoorW.PrintMore
attribute [local go_sem] max2_int min2_int max_two min_two max_three min_three max_four min_four   -- for this text's walks alone
set_option linter.unusedVariables false
set_option linter.unusedSimpArgs false

/-! ### mould_Flip: function 27 -/
def mould_Flip.l0 : Nat → Int → Int → List Int → List ByteArray → List Int → List ByteArray → Option (List Int × List ByteArray × Int)
  | 0, _, _, _, _, _, _ => none
  | k + 1, x24, x25, x102000, x102001, x111000, x111001 => if x25 < x24 then ((shape_Place.f k x111000 x25).bind fun bt112 => ((slices_Reverse_int_int.f k bt112.1).bind fun t116 => ((shape_Offset.f k x102000 t116).bind fun bt117 => (if 0 ≤ bt117.1 then (if bt117.1 < (x102001.length : Int) then (if x111001.length < 8796093022208 then (mould_Flip.l0 k x24 (wrap64 (x25 + 1)) x102000 x102001 x111000 (x111001 ++ [rdOf ByteArray.empty x102001 bt117.1])) else (none)) else (none)) else (none))))) else (some (x111000, x111001, 0))
def mould_Flip.f (k : Nat) (l0_0 : List Int) (l0_1 : List ByteArray) : Option (List Int × List ByteArray × Int) := (mould_fine.f k (([(⟨l0_0, l0_1⟩ : S25)] : List (S25)))).bind fun t106 => (if t106 = true then ((slices_Clone_int_int.f l0_0).bind fun t107 => ((slices_Reverse_int_int.f k t107).bind fun t111 => (mould_Flip.l0 k (l0_1.length : Int) 0 l0_0 l0_1 t111 ([] : List ByteArray)))) else (some (([] : List Int), ([] : List ByteArray), 1)))
def mould_Flip.T11 : Bool × List (List Nat × List Nat) := (true, [([], []), ([0], [0]), ([], []), ([2], [2]), ([], []), ([3, 4], [3, 4]), ([5], [5]), ([6], [6]), ([1, 7], [1, 7]), ([0, 1, 2, 3, 4, 5, 6, 7, 8], []), ([9, 8, 8, 0, 1, 2, 3, 4, 5, 6, 7, 8], [8, 9])])
def mould_Flip.B11 : List Nat := [0, 1, 0, 4, 0, 28, 60, 124, 255, 511, 1023]
theorem mould_Flip.tab11 : rtab .any (opsOf Tryd.f27 11) = mould_Flip.T11 := by kernel_rfl
theorem mould_Flip.bits11 : waitsOk mould_Flip.T11.2 mould_Flip.B11 = true := by kernel_rfl
set_option maxHeartbeats 8000000 in
set_option maxRecDepth 100000 in
theorem mould_Flip.calls (k : Nat) (P0_0_ : Nat → Prop) (A0_0 : Option Addr) (c0_0 : Nat) (l0_0 : List Int) (P0_1_ : Nat → Prop) (A0_1 : Option Addr) (c0_1 : Nat) (l0_1 : List ByteArray) (r1 : List Int) (r2 : List ByteArray) (r3 : Int) (w : World) (hs0_0 : Kd.V (Kd.int .i64) 3 w w.heap.size (fun k_ => P0_0_ k_) (.slice A0_0 l0_0.length c0_0) l0_0) (hs0_1 : Kd.V Kd.string 9 w w.heap.size (fun k_ => P0_1_ k_) (.slice A0_1 l0_1.length c0_1) l0_1) (h : mould_Flip.f k l0_0 l0_1 = some (r1, r2, r3)) :
    Calls Tryd.prog 27 #[.agg #[.slice A0_0 l0_0.length c0_0, .slice A0_1 l0_1.length c0_1]] w fun e w' => ∃ v0_ v1_ : Value, e = .returned (.tuple #[.agg #[v0_, v1_], .int .i64 r3]) ∧ Kd.R (Kd.int .i64) 3 w' w.heap.size (fun k_ => (w.heap.size ≤ k_)) v0_ r1 ∧ Kd.R Kd.string 9 w' w.heap.size (fun k_ => (w.heap.size ≤ k_)) v1_ r2 ∧ Below w.heap.size w w' := by
  have hu25 := Tryd.underlying25
  have HO0_0 := Aside0.mk (show Kd.V (Kd.int .i64) 3 w w.heap.size (fun k_ => ((P0_0_ k_ ∨ P0_1_ k_) ∨ w.heap.size ≤ k_)) (.slice A0_0 l0_0.length c0_0) l0_0 from Kd.V_mono hs0_0 (fun k_ hk => .inl (.inl hk)))
  have HO0_1 := Aside0.mk (show Kd.V Kd.string 9 w w.heap.size (fun k_ => ((P0_0_ k_ ∨ P0_1_ k_) ∨ w.heap.size ≤ k_)) (.slice A0_1 l0_1.length c0_1) l0_1 from Kd.V_mono hs0_1 (fun k_ hk => .inl (.inr hk)))
  have HB := Aside0.mk (Below.refl w.heap.size w)
  have H : ((mould_fine.f k (([(⟨l0_0, l0_1⟩ : S25)] : List (S25)))).bind fun t106 => (if t106 = true then ((slices_Clone_int_int.f l0_0).bind fun t107 => ((slices_Reverse_int_int.f k t107).bind fun t111 => (mould_Flip.l0 k (l0_1.length : Int) 0 l0_0 l0_1 t111 ([] : List ByteArray)))) else (some (([] : List Int), ([] : List ByteArray), 1)))) = some (r1, r2, r3) := h
  clear h
  obtain ⟨y103, hy103⟩ : ∃ y_ : List (S25), y_ = (([(⟨l0_0, l0_1⟩ : S25)] : List (S25))) := ⟨_, rfl⟩
  replace H : ((mould_fine.f k y103).bind fun t106 => (if t106 = true then ((slices_Clone_int_int.f l0_0).bind fun t107 => ((slices_Reverse_int_int.f k t107).bind fun t111 => (mould_Flip.l0 k (l0_1.length : Int) 0 l0_0 l0_1 t111 ([] : List ByteArray)))) else (some (([] : List Int), ([] : List ByteArray), 1)))) = some (r1, r2, r3) := by first | (rw [hy103]; with_reducible exact H) | (have H2_ := (Option.bind_some _ _).symm.trans H; rw [hy103]; with_reducible exact H2_) | (have H2_ := (Option.bind_some _ _).symm.trans H; with_reducible exact H2_) | with_reducible exact H | (rw [hy103]; exact H) | exact H
  have Ny103 := Aside0.mk hy103
  clear hy103
  obtain ⟨t106, A2, H⟩ := bnd_ H
  try dsimp -simprocs only at H
  by_cases c3 : t106 = true
  · subst c3
    have H1 : ((slices_Clone_int_int.f l0_0).bind fun t107 => ((slices_Reverse_int_int.f k t107).bind fun t111 => (mould_Flip.l0 k (l0_1.length : Int) 0 l0_0 l0_1 t111 ([] : List ByteArray)))) = some (r1, r2, r3) := by rw [if_pos rfl] at H; exact H
    clear H
    have H := H1
    clear H1
    obtain ⟨t107, A4, H⟩ := bnd_ H
    try dsimp -simprocs only at H
    obtain ⟨t111, A5, H⟩ := bnd_ H
    try dsimp -simprocs only at H
    have H' := Aside0.mk H
    clear H
    go_enter Tryd.func27, Tryd.ntmps27
    go_wp2_with (first | ((with_reducible refine gate_dst (N := 1) rfl ?_); refine bx_ 1 #[.slice A0_0 l0_0.length c0_0, .slice A0_1 l0_1.length c0_1] 25 ?_; intro gb101 hg w6 hbox hb; replace HO0_0 := Aside0.mk (Kd.V_below (Kd.V_elderB (Pv_ HO0_0.out) gb101 (Nat.le_of_eq hg.symm)) hb); replace HO0_1 := Aside0.mk (Kd.V_below (Kd.V_elderB (Pv_ HO0_1.out) gb101 (Nat.le_of_eq hg.symm)) hb); have BK101 := Aside0.mk (hbox); have GW101 := (Bg_ hg : Aside0 (w.heap.size ≤ gb101)); have GE101 := (Bg_ hg : Aside0 (w.heap.size ≤ gb101)); replace HB := Bs_ hb; clear hb hbox hg) | ((with_reducible refine gate_dst (N := 2) rfl ?_); refine bx_ 2 #[.slice none 0 0, .slice none 0 0] 25 ?_; intro gb102 hg w7 hbox hb; replace HO0_0 := Aside0.mk (Kd.V_below (Kd.V_elderB (Pv_ HO0_0.out) gb102 (Nat.le_of_eq hg.symm)) hb); replace HO0_1 := Aside0.mk (Kd.V_below (Kd.V_elderB (Pv_ HO0_1.out) gb102 (Nat.le_of_eq hg.symm)) hb); have BK102 := Aside0.mk (hbox); have GW102 := (Bg_ hg : Aside0 (w.heap.size ≤ gb102)); have GE102 := (Bg_ hg : Aside0 (w.heap.size ≤ gb102)); replace HB := Bs_ hb; have NB101_102 := nl_ hg BK101; have NB102_101 := ng_ hg BK101; replace BK101 := kb_ BK101 hb; clear hb hbox hg; have hnb8 := NB101_102.out; have hnc8 := NB102_101.out; obtain ⟨hcz9_0, hcz9_1⟩ := c2_ BK101; obtain ⟨hfz9_0, hfz9_1⟩ := f2_ BK101) | ((with_reducible refine gate_dst (N := 11) rfl ?_); refine Kd.N_lit k25 _ 25 ?hg (N' := 11) ?hd (xs := ([(⟨l0_0, l0_1⟩ : S25)] : List (S25))) (inner := [.slice A0_0 l0_0.length c0_0, .slice A0_1 l0_1.length c0_1]) (ok := (fun k_ => ((P0_0_ k_ ∨ P0_1_ k_) ∨ w.heap.size ≤ k_) ∧ k_ ≠ gb101 ∧ k_ ≠ gb102)) (okp := (fun k_ => ((P0_0_ k_ ∨ P0_1_ k_) ∨ w.heap.size ≤ k_) ∧ k_ ≠ gb101 ∧ k_ ≠ gb102)) ?hr ?hp (fun _ hk => hk) ((show ∀ k_, w7.heap.size ≤ k_ → (fun k_ => ((P0_0_ k_ ∨ P0_1_ k_) ∨ w.heap.size ≤ k_) ∧ k_ ≠ gb101 ∧ k_ ≠ gb102) k_ from fun k_ hk => ⟨(.inr (Nat.le_trans Bz_ hk)), Kd.freshB (g := gb101) (o := .cells #[.slice A0_0 l0_0.length c0_0, .slice A0_1 l0_1.length c0_1] 25 (0, 0)) (Bk_ BK101.out) k_ hk, Kd.freshB (g := gb102) (o := .cells #[.slice none 0 0, .slice none 0 0] 25 (0, 0)) (Bk_ BK102.out) k_ hk⟩) _ (Nat.le_refl _)) (Below.refl _ _) (Nat.le_refl _) (by simp) ?_; (case hd => rfl); (case hg => rfl); (case hr => first | (go_simp; done) | (go_simp; rfl)); (case hp => exact (Reps.c2 (show Kd.FK k25 _ _ (⟨l0_0, l0_1⟩ : S25) [.slice A0_0 l0_0.length c0_0, .slice A0_1 l0_1.length c0_1] from (k25_mkF _ _ (⟨l0_0, l0_1⟩ : S25) (Kd.V_reads' (Kd.V_mono (ok' := (fun k_ => ((P0_0_ k_ ∨ P0_1_ k_) ∨ w.heap.size ≤ k_) ∧ k_ ≠ gb101 ∧ k_ ≠ gb102)) (HO0_0.out) (fun k_ hk => ⟨hk.1.1, ⟨hk.1.2, hk.2⟩⟩))).2.1 (Kd.V_F (Kd.V_mono (ok' := (fun k_ => ((P0_0_ k_ ∨ P0_1_ k_) ∨ w.heap.size ≤ k_) ∧ k_ ≠ gb101 ∧ k_ ≠ gb102)) (HO0_0.out) (fun k_ hk => ⟨hk.1.1, ⟨hk.1.2, hk.2⟩⟩))) (Kd.V_reads' (Kd.V_mono (ok' := (fun k_ => ((P0_0_ k_ ∨ P0_1_ k_) ∨ w.heap.size ≤ k_) ∧ k_ ≠ gb101 ∧ k_ ≠ gb102)) (HO0_1.out) (fun k_ hk => ⟨hk.1.1, ⟨hk.1.2, hk.2⟩⟩))).2.1 (Kd.V_F (Kd.V_mono (ok' := (fun k_ => ((P0_0_ k_ ∨ P0_1_ k_) ∨ w.heap.size ≤ k_) ∧ k_ ≠ gb101 ∧ k_ ≠ gb102)) (HO0_1.out) (fun k_ hk => ⟨hk.1.1, ⟨hk.1.2, hk.2⟩⟩))))) (Reps.none _ _))); intro v104 w10 ho11 hb hg_ hnew_; clear hg_ hnew_; (first | rw [← Ny103.out] at ho11 | (simp only [Int.reduceToNat] at ho11; rw [← Ny103.out] at ho11)); replace HO0_0 := Aside0.mk (Kd.V_elder' (Pv_ HO0_0.out) (Kd.N_base ho11) hb); replace HO0_1 := Aside0.mk (Kd.V_elder' (Pv_ HO0_1.out) (Kd.N_base ho11) hb); have HO105 := Aside0.mk (Kd.N_lower ho11 Bz_); replace BK101 := kb_ BK101 hb; replace BK102 := kb_ BK102 hb; replace HB := Bs_ hb; clear hb ho11; obtain ⟨Ao12, co12, eo12⟩ := Kd.N_slice HO105.out; subst eo12) | ((with_reducible refine gate_callee (f := 50) rfl ?_); refine goesL_ (some 12) rfl rfl Tryd.func50 (by kernel_rfl) rfl #[.slice Ao12 y103.length co12] rfl Ga_ ?_; (with_reducible refine (mould_fine.calls k _ _ y103 true _ ?side1 ?side2 A2.out).mono ?_); (case side1 => exact Pc_ ((Kd.N_reads' HO105.out).2.2)); (case side2 => exact (Kd.N_reads' HO105.out).2.1); rintro e w13 ⟨rfl, hb⟩; refine ⟨_, rfl, ?_⟩; replace HO0_0 := Aside0.mk (Kd.V_below (Pv_ HO0_0.out) hb); replace HO0_1 := Aside0.mk (Kd.V_below (Pv_ HO0_1.out) hb); replace HO105 := Aside0.mk (Kd.N_below (by (with_reducible repeat (first | apply Kd.N_alloc | apply Kd.N_drewN | apply Kd.N_drew)); exact HO105.out) hb); replace BK101 := kb_ BK101 hb; replace BK102 := kb_ BK102 hb; replace HB := Bs_ hb; (try clear hb); (try clear hb2); (try clear hk); (try clear hi); obtain ⟨hcz14_0, hcz14_1⟩ := c2_ BK101; obtain ⟨hfz14_0, hfz14_1⟩ := f2_ BK101) | ((with_reducible refine gate_callee (f := 55) rfl ?_); refine goesL_ (some 17) rfl rfl Tryd.func55 (by kernel_rfl) rfl #[.slice A0_0 l0_0.length c0_0] rfl Ga_ ?_; (with_reducible refine (slices_Clone_int_int.calls _ _ l0_0 t107 _ ?side1 ?side2 A4.out).mono ?_); (case side1 => exact Pc_ ((Kd.V_reads' HO0_0.out).2.2)); (case side2 => exact (Kd.V_reads' HO0_0.out).2.1); rintro e w15 ⟨v108, rfl, ho0, hb⟩; refine ⟨_, rfl, ?_⟩; replace HO0_0 := Aside0.mk (Kd.V_elder' (Pv_ HO0_0.out) (Kd.R_base ho0) hb); replace HO0_1 := Aside0.mk (Kd.V_elder' (Pv_ HO0_1.out) (Kd.R_base ho0) hb); replace HO105 := Aside0.mk (Kd.N_elder' (by (with_reducible repeat (first | apply Kd.N_alloc | apply Kd.N_drewN | apply Kd.N_drew)); exact HO105.out) (Kd.R_base ho0) hb); have HO109 := Aside0.mk (Kd.R_lower (Kd.R_newM (M := fun k_ => (w.heap.size ≤ k_)) ho0 Bz_ (fun k_ h_ => h_)) Bz_); replace BK101 := kb_ BK101 hb; replace BK102 := kb_ BK102 hb; replace HB := Bs_ hb; (try clear hb); (try clear hb2); (try clear hk); (try clear hi); (try clear ho0); obtain ⟨Ao16, co16, eo16⟩ := Kd.R_slice HO109.out; subst eo16) | ((with_reducible refine gate_dst (N := 4) rfl ?_); refine bx_ 4 #[.slice none 0 0, .slice none 0 0] 25 ?_; intro gb110 hg w17 hbox hb; replace HO0_0 := Aside0.mk (Kd.V_below (Kd.V_elderB (Pv_ HO0_0.out) gb110 (Nat.le_of_eq hg.symm)) hb); replace HO0_1 := Aside0.mk (Kd.V_below (Kd.V_elderB (Pv_ HO0_1.out) gb110 (Nat.le_of_eq hg.symm)) hb); replace HO105 := Aside0.mk (Kd.N_below (Kd.N_elderB (by (with_reducible repeat (first | apply Kd.N_alloc | apply Kd.N_drewN | apply Kd.N_drew)); exact HO105.out) gb110 (Nat.le_of_eq hg.symm)) hb); replace HO109 := Aside0.mk (Kd.R_below (Pr_ HO109.out) hb); have BK110 := Aside0.mk (hbox); have GW110 := (Bg_ hg : Aside0 (w.heap.size ≤ gb110)); have GE110 := (Bg_ hg : Aside0 (w.heap.size ≤ gb110)); replace HB := Bs_ hb; have NB101_110 := nl_ hg BK101; have NB110_101 := ng_ hg BK101; replace BK101 := kb_ BK101 hb; have NB102_110 := nl_ hg BK102; have NB110_102 := ng_ hg BK102; replace BK102 := kb_ BK102 hb; clear hb hbox hg; have hnb18 := NB110_101.out; have hnc18 := NB101_110.out; have hnb19 := NB110_102.out; have hnc19 := NB102_110.out; obtain ⟨hcz20_0, hcz20_1⟩ := c2_ BK110; obtain ⟨hfz20_0, hfz20_1⟩ := f2_ BK110) | ((with_reducible refine gate_store (t := 25) (p := 4) rfl ?_); refine store_event (t := 25) (p := 4) (v := ?vo_w21) (w1 := ((w17.setCell ⟨gb110, 0, none⟩ (.slice Ao16 t107.length co16)).setCell ⟨gb110, 1, none⟩ (.slice none 0 0))) ?hg ?ho ?hn ?hr ?_; (case ho => rfl); (case hg => rfl); (case hn => rfl); (case hr => first | (go_simp; done) | (go_simp; rfl)); intro w21 hw; have n0_ : Aside0 (Kd.V (Kd.int .i64) 3 w21 w.heap.size (fun k_ => ((P0_0_ k_ ∨ P0_1_ k_) ∨ w.heap.size ≤ k_) ∧ some k_ ≠ (.slice Ao12 y103.length co12 : Value).ownBlock ∧ some k_ ≠ (.slice Ao16 t107.length co16 : Value).ownBlock ∧ k_ ≠ gb101 ∧ k_ ≠ gb102 ∧ k_ ≠ gb110) (.slice A0_0 l0_0.length c0_0) l0_0) := ⟨(by rw [hw]; exact (by (with_reducible repeat (first | apply Kd.V_alloc | apply Kd.V_drewN | apply Kd.V_drew)); exact Kd.V_mono (Kd.V_far (p := ⟨gb110, 1, none⟩) (Kd.V_far (p := ⟨gb110, 0, none⟩) (Kd.V_mono HO0_0.out (fun k_ hk => (⟨hk, hk.2⟩ : _ ∧ k_ ≠ gb110))) (fun _ hk => hk.2) (.slice Ao16 t107.length co16)) (fun _ hk => hk.2) (.slice none 0 0)) (fun _ hk => ⟨hk.1.1.1.1.1.1, ⟨hk.1.1.1.2, ⟨hk.1.1.2, ⟨hk.1.1.1.1.1.2, ⟨hk.1.1.1.1.2, hk.1.2⟩⟩⟩⟩⟩)))⟩; have n1_ : Aside0 (Kd.V Kd.string 9 w21 w.heap.size (fun k_ => ((P0_0_ k_ ∨ P0_1_ k_) ∨ w.heap.size ≤ k_) ∧ some k_ ≠ (.slice Ao12 y103.length co12 : Value).ownBlock ∧ some k_ ≠ (.slice Ao16 t107.length co16 : Value).ownBlock ∧ k_ ≠ gb101 ∧ k_ ≠ gb102 ∧ k_ ≠ gb110) (.slice A0_1 l0_1.length c0_1) l0_1) := ⟨(by rw [hw]; exact (by (with_reducible repeat (first | apply Kd.V_alloc | apply Kd.V_drewN | apply Kd.V_drew)); exact Kd.V_mono (Kd.V_far (p := ⟨gb110, 1, none⟩) (Kd.V_far (p := ⟨gb110, 0, none⟩) (Kd.V_mono HO0_1.out (fun k_ hk => (⟨hk, hk.2⟩ : _ ∧ k_ ≠ gb110))) (fun _ hk => hk.2) (.slice Ao16 t107.length co16)) (fun _ hk => hk.2) (.slice none 0 0)) (fun _ hk => ⟨hk.1.1.1.1.1.1, ⟨hk.1.1.1.2, ⟨hk.1.1.2, ⟨hk.1.1.1.1.1.2, ⟨hk.1.1.1.1.2, hk.1.2⟩⟩⟩⟩⟩)))⟩; have n2_ : Aside0 (Kd.N k25 25 w21 w.heap.size (fun k_ => ((P0_0_ k_ ∨ P0_1_ k_) ∨ w.heap.size ≤ k_) ∧ some k_ ≠ (.slice Ao16 t107.length co16 : Value).ownBlock ∧ k_ ≠ gb101 ∧ k_ ≠ gb102 ∧ k_ ≠ gb110) (.slice Ao12 y103.length co12) y103) := ⟨(by rw [hw]; exact (by (with_reducible repeat (first | apply Kd.N_alloc | apply Kd.N_drewN | apply Kd.N_drew)); exact Kd.N_mono (Kd.N_far (p := ⟨gb110, 1, none⟩) (Kd.N_far (p := ⟨gb110, 0, none⟩) (Kd.N_mono HO105.out (fun k_ hk => (⟨hk, hk.2⟩ : _ ∧ k_ ≠ gb110))) (fun _ hk => hk.2) (.slice Ao16 t107.length co16)) (fun _ hk => hk.2) (.slice none 0 0)) (fun _ hk => ⟨hk.1.1.1.1, ⟨hk.1.1.2, ⟨hk.1.1.1.2.1, ⟨hk.1.1.1.2.2, hk.1.2⟩⟩⟩⟩)))⟩; have n3_ : Aside0 (Kd.R (Kd.int .i64) 3 w21 w.heap.size (fun k_ => (w.heap.size ≤ k_)) (.slice Ao16 t107.length co16) t107) := ⟨(by rw [hw]; exact (by (with_reducible repeat (first | apply Kd.R_alloc | apply Kd.R_drewN | apply Kd.R_drew)); exact Kd.R_mono (Kd.R_far (p := ⟨gb110, 1, none⟩) (Kd.R_far (p := ⟨gb110, 0, none⟩) (Kd.R_types HO109.out BK110.out (by decide)) (fun _ hk => hk.2) (.slice Ao16 t107.length co16)) (fun _ hk => hk.2) (.slice none 0 0)) (fun _ hk => hk.1.1)))⟩; have n4_ : Aside0 (w21.heap[gb101]? = some (.cells #[.slice A0_0 l0_0.length c0_0, .slice A0_1 l0_1.length c0_1] 25 (0, 0))) := ⟨(by rw [hw]; exact (by (with_reducible repeat (first | refine blk_drewN ?_ _ | refine blk_drew ?_ | refine blk_alloc ?_ _)); refine blk_far ?_ NB101_110.out _; (with_reducible repeat (first | refine blk_drewN ?_ _ | refine blk_drew ?_ | refine blk_alloc ?_ _)); refine blk_far ?_ NB101_110.out _; (with_reducible repeat (first | refine blk_drewN ?_ _ | refine blk_drew ?_ | refine blk_alloc ?_ _)); exact BK101.out))⟩; have n5_ : Aside0 (w21.heap[gb102]? = some (.cells #[.slice none 0 0, .slice none 0 0] 25 (0, 0))) := ⟨(by rw [hw]; exact (by (with_reducible repeat (first | refine blk_drewN ?_ _ | refine blk_drew ?_ | refine blk_alloc ?_ _)); refine blk_far ?_ NB102_110.out _; (with_reducible repeat (first | refine blk_drewN ?_ _ | refine blk_drew ?_ | refine blk_alloc ?_ _)); refine blk_far ?_ NB102_110.out _; (with_reducible repeat (first | refine blk_drewN ?_ _ | refine blk_drew ?_ | refine blk_alloc ?_ _)); exact BK102.out))⟩; have n6_ : Aside0 (w21.heap[gb110]? = some (.cells #[.slice Ao16 t107.length co16, .slice none 0 0] 25 (0, 0))) := ⟨(by rw [hw]; exact (by (with_reducible repeat (first | refine blk_drewN ?_ _ | refine blk_drew ?_ | refine blk_alloc ?_ _)); refine blk_put (cs := #[.slice Ao16 t107.length co16, .slice none 0 0]) ?_ 1 _ rfl; (with_reducible repeat (first | refine blk_drewN ?_ _ | refine blk_drew ?_ | refine blk_alloc ?_ _)); refine blk_put (cs := #[.slice none 0 0, .slice none 0 0]) ?_ 0 _ rfl; (with_reducible repeat (first | refine blk_drewN ?_ _ | refine blk_drew ?_ | refine blk_alloc ?_ _)); exact BK110.out))⟩; have n7_ : Aside0 (Below w.heap.size w w21) := ⟨(by rw [hw]; exact Bl_)⟩; clear hw; clear HO0_0; clear HO0_1; clear HO105; clear HO109; clear BK101; clear BK102; clear BK110; clear HB; have HO0_0 := n0_; have HO0_1 := n1_; have HO105 := n2_; have HO109 := n3_; have BK101 := n4_; have BK102 := n5_; have BK110 := n6_; have HB := n7_; clear n0_ n1_ n2_ n3_ n4_ n5_ n6_ n7_; obtain ⟨hcz22_0, hcz22_1⟩ := c2_ BK110; obtain ⟨hfz22_0, hfz22_1⟩ := f2_ BK110) | ((with_reducible refine gate_callee (f := 61) rfl ?_); refine goesL_ (some 21) rfl rfl Tryd.func61 (by kernel_rfl) rfl #[.slice Ao16 t107.length co16] rfl Ga_ ?_; (with_reducible refine (slices_Reverse_int_int.calls k (fun k_ => some k_ = (.slice Ao16 t107.length co16 : Value).ownBlock) (.slice Ao16 t107.length co16) t107 t111 w _ ?side1 ?side2 A5.out).mono ?_); (case side1 => repeat (first | (with_reducible first | exact HB.out | apply below_alloc | apply pw_below_drewN | apply below_drew1 | refine below_set ?_ GE101.out | refine below_set ?_ GE102.out | refine below_set ?_ GE110.out) | exact HB.out)); (case side2 => exact Kd.R_tight rfl HO109.out); rintro e w23 ⟨rfl, hy0, hb, hkp⟩; refine ⟨_, rfl, ?_⟩; replace HO0_0 := Aside0.mk (Kd.V_mono (ok' := fun k_ => ((P0_0_ k_ ∨ P0_1_ k_) ∨ w.heap.size ≤ k_) ∧ some k_ ≠ (.slice Ao12 y103.length co12 : Value).ownBlock ∧ some k_ ≠ (.slice Ao16 t107.length co16 : Value).ownBlock ∧ k_ ≠ gb101 ∧ k_ ≠ gb102 ∧ k_ ≠ gb110) (Kd.V_keptB (HO0_0.out) hkp (fun k_ hk_ hs_ => (hk_.2.2.1) hs_)) (fun k_ hk_ => ⟨hk_.1.1, hk_.1.2.1, hk_.1.2.2.1, hk_.1.2.2.2.1, hk_.1.2.2.2.2.1, hk_.1.2.2.2.2.2⟩)); replace HO0_1 := Aside0.mk (Kd.V_mono (ok' := fun k_ => ((P0_0_ k_ ∨ P0_1_ k_) ∨ w.heap.size ≤ k_) ∧ some k_ ≠ (.slice Ao12 y103.length co12 : Value).ownBlock ∧ some k_ ≠ (.slice Ao16 t107.length co16 : Value).ownBlock ∧ k_ ≠ gb101 ∧ k_ ≠ gb102 ∧ k_ ≠ gb110) (Kd.V_keptB (HO0_1.out) hkp (fun k_ hk_ hs_ => (hk_.2.2.1) hs_)) (fun k_ hk_ => ⟨hk_.1.1, hk_.1.2.1, hk_.1.2.2.1, hk_.1.2.2.2.1, hk_.1.2.2.2.2.1, hk_.1.2.2.2.2.2⟩)); replace BK101 := Aside0.mk (blk_kept (Bk_ BK101.out) hkp (fun hs_ => (fun e_ => (Kd.R_ne HO109.out BK101.out (by decide)) e_) hs_)); replace BK102 := Aside0.mk (blk_kept (Bk_ BK102.out) hkp (fun hs_ => (fun e_ => (Kd.R_ne HO109.out BK102.out (by decide)) e_) hs_)); replace HO105 := Aside0.mk (Kd.N_mono (ok' := fun k_ => ((P0_0_ k_ ∨ P0_1_ k_) ∨ w.heap.size ≤ k_) ∧ some k_ ≠ (.slice Ao16 t107.length co16 : Value).ownBlock ∧ k_ ≠ gb101 ∧ k_ ≠ gb102 ∧ k_ ≠ gb110) (Kd.N_keptB (HO105.out) hkp (fun k_ hk_ hs_ => (hk_.2.1) hs_)) (fun k_ hk_ => ⟨hk_.1.1, hk_.1.2.1, hk_.1.2.2.1, hk_.1.2.2.2.1, hk_.1.2.2.2.2⟩)); replace BK110 := Aside0.mk (blk_kept (Bk_ BK110.out) hkp (fun hs_ => (fun e_ => (Kd.R_ne HO109.out BK110.out (by decide)) e_) hs_)); replace HO109 := Aside0.mk (Kd.R_reok rfl hy0 (fun k_ e_ => HO109.out.1 k_ e_)); replace HB := Aside0.mk (hb); (try clear hb); (try clear hkp); (try clear hy0); obtain ⟨hcz24_0, hcz24_1⟩ := c2_ BK101; obtain ⟨hfz24_0, hfz24_1⟩ := f2_ BK101))
    go_loopg [25] k (fun kq v25 w' => ∃ (x25_1 : Int) (x102000_1 : List Int) (x111000_1 : List Int) (x111001_1 : List ByteArray) (u102000 : Value) (u111000 : Value) (u111001 : Value), v25 = .int .i64 x25_1 ∧ Aside0 (mould_Flip.l0 kq (l0_1.length : Int) x25_1 x102000_1 l0_1 x111000_1 x111001_1 = some (r1, r2, r3)) ∧ Aside0 (kq ≤ k) ∧ Aside0 (Kd.V (Kd.int .i64) 3 w' w.heap.size (fun k_ => ((P0_0_ k_ ∨ P0_1_ k_) ∨ w.heap.size ≤ k_) ∧ some k_ ≠ (u111000 : Value).ownBlock ∧ some k_ ≠ (u111001 : Value).ownBlock ∧ k_ ≠ gb101 ∧ k_ ≠ gb102 ∧ k_ ≠ gb110) u102000 x102000_1) ∧ Aside0 (Kd.V Kd.string 9 w' w.heap.size (fun k_ => ((P0_0_ k_ ∨ P0_1_ k_) ∨ w.heap.size ≤ k_) ∧ some k_ ≠ (u111000 : Value).ownBlock ∧ some k_ ≠ (u111001 : Value).ownBlock ∧ k_ ≠ gb101 ∧ k_ ≠ gb102 ∧ k_ ≠ gb110) (.slice A0_1 l0_1.length c0_1) l0_1) ∧ Aside0 (Kd.R (Kd.int .i64) 3 w' w.heap.size (fun k_ => (w.heap.size ≤ k_)) u111000 x111000_1) ∧ Aside0 (Kd.R Kd.string 9 w' w.heap.size (fun k_ => (w.heap.size ≤ k_)) u111001 x111001_1) ∧ Aside0 (w'.heap[gb101]? = some (.cells #[u102000, (.slice A0_1 l0_1.length c0_1)] 25 (0, 0))) ∧ Aside0 (w'.heap[gb102]? = some (.cells #[(.slice none 0 0), (.slice none 0 0)] 25 (0, 0))) ∧ Aside0 (w'.heap[gb110]? = some (.cells #[u111000, u111001] 25 (0, 0))) ∧ Aside0 (Below w.heap.size w w'))
    case atStart => exact ⟨(0), (l0_0), (t111), (([] : List ByteArray)), (.slice A0_0 l0_0.length c0_0), (.slice Ao16 t107.length co16), (.slice none 0 0), Rf_, H', ⟨Nat.le_refl _⟩, ⟨by (with_reducible repeat (first | apply Kd.V_alloc | apply Kd.V_drewN | apply Kd.V_drew)); exact Kd.V_mono HO0_0.out (fun _ hk => ⟨hk.1, ⟨hk.2.2.1, ⟨(by simp [Value.ownBlock]), ⟨hk.2.2.2.1, ⟨hk.2.2.2.2.1, hk.2.2.2.2.2⟩⟩⟩⟩⟩)⟩, ⟨by (with_reducible repeat (first | apply Kd.V_alloc | apply Kd.V_drewN | apply Kd.V_drew)); exact Kd.V_mono HO0_1.out (fun _ hk => ⟨hk.1, ⟨hk.2.2.1, ⟨(by simp [Value.ownBlock]), ⟨hk.2.2.2.1, ⟨hk.2.2.2.2.1, hk.2.2.2.2.2⟩⟩⟩⟩⟩)⟩, ⟨by (with_reducible repeat (first | apply Kd.R_alloc | apply Kd.R_drewN | apply Kd.R_drew)); exact HO109.out⟩, ⟨by first | exact Kd.R_nil _ _ _ _ _ | exact Kd.N_nil _ _ _ _ _ | exact Kd.V_nil _ _ _ _ _ | exact Kd.Q_nil _ _ _ _ _ | exact Kd.S_nil _ _ _ _ _⟩, ⟨by (with_reducible repeat (first | refine blk_drewN ?_ _ | refine blk_drew ?_ | refine blk_alloc ?_ _)); exact BK101.out⟩, ⟨by (with_reducible repeat (first | refine blk_drewN ?_ _ | refine blk_drew ?_ | refine blk_alloc ?_ _)); exact BK102.out⟩, ⟨by (with_reducible repeat (first | refine blk_drewN ?_ _ | refine blk_drew ?_ | refine blk_alloc ?_ _)); exact BK110.out⟩, ⟨Bl_⟩⟩
    case round =>
      clear H'
      try clear c1
      try clear c2
      try clear p2
      try clear c3
      try clear c5
      try clear c6
      try clear c8
      try clear c18
      try clear c19
      try clear hcz14_0
      try clear hcz14_1
      try clear hcz20_0
      try clear hcz20_1
      try clear hcz22_0
      try clear hcz22_1
      try clear hcz24_0
      try clear hcz24_1
      try clear hcz9_0
      try clear hcz9_1
      try clear hfz14_0
      try clear hfz14_1
      try clear hfz20_0
      try clear hfz20_1
      try clear hfz22_0
      try clear hfz22_1
      try clear hfz24_0
      try clear hfz24_1
      try clear hfz9_0
      try clear hfz9_1
      obtain ⟨x25_1, x102000_1, x111000_1, x111001_1, u102000, u111000, u111001, rfl, HA, HK1, HO_102000, HO_102001, HO_111000, HO_111001, BK101, BK102, BK110, HB⟩ := hrel
      cases gk with
      | zero => exact absurd HA.out (by simp [mould_Flip.l0])
      | succ k1 =>
        have H := HA.out
        clear HA
        simp only [mould_Flip.l0] at H
        by_cases c25 : x25_1 < (l0_1.length : Int)
        · rw [if_pos c25] at H
          have c25b0 : decide (x25_1 < (l0_1.length : Int)) = true := decide_eq_true c25
          clear c25
          obtain ⟨⟨t112, t113⟩, A26, H⟩ := bnd_ H
          try dsimp -simprocs only at H
          obtain ⟨t116, A27, H⟩ := bnd_ H
          try dsimp -simprocs only at H
          obtain ⟨⟨t117, t118⟩, A28, H⟩ := bnd_ H
          try dsimp -simprocs only at H
          by_cases c29 : 0 ≤ t117
          · rw [if_pos c29] at H
            have c29b0 : decide (0 ≤ t117) = true := decide_eq_true c29
            clear c29
            by_cases c30 : t117 < (l0_1.length : Int)
            · rw [if_pos c30] at H
              have c30b0 : decide (t117 < (l0_1.length : Int)) = true := decide_eq_true c30
              clear c30
              by_cases c31 : x111001_1.length < 8796093022208
              · rw [if_pos c31] at H
                have LMc31 := Aside0.mk c31
                clear c31
                obtain ⟨y120, hy120⟩ : ∃ y_ : List ByteArray, y_ = (x111001_1 ++ [rdOf ByteArray.empty l0_1 t117]) := ⟨_, rfl⟩
                replace H : (mould_Flip.l0 k1 (l0_1.length : Int) (wrap64 (x25_1 + 1)) x102000_1 l0_1 x111000_1 y120) = some (r1, r2, r3) := by first | (rw [hy120]; with_reducible exact H) | (have H2_ := (Option.bind_some _ _).symm.trans H; rw [hy120]; with_reducible exact H2_) | (have H2_ := (Option.bind_some _ _).symm.trans H; with_reducible exact H2_) | with_reducible exact H | (rw [hy120]; exact H) | exact H
                have Ny120 := Aside0.mk hy120
                clear hy120
                have H' := Aside0.mk H
                clear H
                have hnb32 := NB110_101.out
                have hnc32 := NB101_110.out
                have hnb33 := NB110_102.out
                have hnc33 := NB102_110.out
                obtain ⟨hcz34_0, hcz34_1⟩ := c2_ BK110
                obtain ⟨hfz34_0, hfz34_1⟩ := f2_ BK110
                obtain ⟨Ao35, co35, eo35⟩ := Kd.R_slice HO_111000.out
                subst eo35
                try go_wp2_with (first | ((with_reducible refine gate_callee (f := 62) rfl ?_); refine goesL_ (some 32) rfl rfl Tryd.func62 (by kernel_rfl) rfl #[.slice Ao35 x111000_1.length co35, .int .i64 x25_1] rfl Ga_ ?_; (with_reducible refine (shape_Place.calls k1 _ _ x111000_1 x25_1 t112 t113 _ ?side1 ?side2 A26.out).mono ?_); (case side1 => exact Pc_ ((Kd.R_reads' HO_111000.out).2.2)); (case side2 => exact (Kd.R_reads' HO_111000.out).2.1); rintro e w36 ⟨v114, rfl, ho0, hb⟩; refine ⟨_, rfl, ?_⟩; replace HO_102000 := Aside0.mk (Kd.V_elder' (Pv_ HO_102000.out) (Kd.R_base ho0) hb); replace HO_102001 := Aside0.mk (Kd.V_elder' (Pv_ HO_102001.out) (Kd.R_base ho0) hb); replace HO_111001 := Aside0.mk (Kd.R_below (Pr_ HO_111001.out) hb); have HO115 := Aside0.mk (Kd.R_lower (Kd.R_new' (Kd.R_newM (M := fun k_ => (w.heap.size ≤ k_)) ho0 Bz_ (fun k_ h_ => h_)) (Kd.R_lt (Pr_ HO_111000.out))) Bz_); replace HO_111000 := Aside0.mk (Kd.R_elder' (Pr_ HO_111000.out) (Kd.R_base ho0) hb); replace BK101 := kb_ BK101 hb; replace BK102 := kb_ BK102 hb; replace BK110 := kb_ BK110 hb; replace HB := Bs_ hb; (try clear hb); (try clear hb2); (try clear hk); (try clear hi); (try clear ho0); obtain ⟨Ao37, co37, eo37⟩ := Kd.R_slice HO115.out; subst eo37) | ((with_reducible refine gate_callee (f := 61) rfl ?_); refine goesL_ (some 36) rfl rfl Tryd.func61 (by kernel_rfl) rfl #[.slice Ao37 t112.length co37] rfl Ga_ ?_; (with_reducible refine (slices_Reverse_int_int.calls k1 (fun k_ => some k_ = (.slice Ao37 t112.length co37 : Value).ownBlock) (.slice Ao37 t112.length co37) t112 t116 w _ ?side1 ?side2 A27.out).mono ?_); (case side1 => repeat (first | (with_reducible first | exact HB.out | apply below_alloc | apply pw_below_drewN | apply below_drew1 | refine below_set ?_ GE101.out | refine below_set ?_ GE102.out | refine below_set ?_ GE110.out) | exact HB.out)); (case side2 => exact Kd.R_tight rfl HO115.out); rintro e w38 ⟨rfl, hy0, hb, hkp⟩; refine ⟨_, rfl, ?_⟩; replace HO_102000 := Aside0.mk (Kd.V_mono (ok' := fun k_ => ((P0_0_ k_ ∨ P0_1_ k_) ∨ w.heap.size ≤ k_) ∧ some k_ ≠ (.slice Ao35 x111000_1.length co35 : Value).ownBlock ∧ some k_ ≠ (u111001 : Value).ownBlock ∧ some k_ ≠ (.slice Ao37 t112.length co37 : Value).ownBlock ∧ k_ ≠ gb101 ∧ k_ ≠ gb102 ∧ k_ ≠ gb110) (Kd.V_keptB (HO_102000.out) hkp (fun k_ hk_ hs_ => (hk_.2) hs_)) (fun k_ hk_ => ⟨hk_.1.1.1, hk_.1.1.2.1, hk_.1.1.2.2.1, hk_.1.2, hk_.1.1.2.2.2.1, hk_.1.1.2.2.2.2.1, hk_.1.1.2.2.2.2.2⟩)); replace HO_102001 := Aside0.mk (Kd.V_mono (ok' := fun k_ => ((P0_0_ k_ ∨ P0_1_ k_) ∨ w.heap.size ≤ k_) ∧ some k_ ≠ (.slice Ao35 x111000_1.length co35 : Value).ownBlock ∧ some k_ ≠ (u111001 : Value).ownBlock ∧ some k_ ≠ (.slice Ao37 t112.length co37 : Value).ownBlock ∧ k_ ≠ gb101 ∧ k_ ≠ gb102 ∧ k_ ≠ gb110) (Kd.V_keptB (HO_102001.out) hkp (fun k_ hk_ hs_ => (hk_.2) hs_)) (fun k_ hk_ => ⟨hk_.1.1.1, hk_.1.1.2.1, hk_.1.1.2.2.1, hk_.1.2, hk_.1.1.2.2.2.1, hk_.1.1.2.2.2.2.1, hk_.1.1.2.2.2.2.2⟩)); replace HO_111000 := Aside0.mk (Kd.R_mono (ok' := fun k_ => (w.heap.size ≤ k_) ∧ some k_ ≠ (.slice Ao37 t112.length co37 : Value).ownBlock) (Kd.R_keptB (HO_111000.out) hkp (fun k_ hk_ hs_ => (hk_.2) hs_)) (fun k_ hk_ => ⟨hk_.1.1, hk_.1.2⟩)); replace HO_111001 := Aside0.mk (Kd.R_mono (ok' := fun k_ => (w.heap.size ≤ k_)) (Kd.R_keptB ((Kd.R_apart' HO_111001.out (Kd.R_typed HO115.out) (by decide))) hkp (fun k_ hk_ hs_ => (hk_.2) hs_)) (fun k_ hk_ => hk_.1.1)); replace BK101 := Aside0.mk (blk_kept (Bk_ BK101.out) hkp (fun hs_ => (fun e_ => (Kd.R_ne HO115.out BK101.out (by decide)) e_) hs_)); replace BK102 := Aside0.mk (blk_kept (Bk_ BK102.out) hkp (fun hs_ => (fun e_ => (Kd.R_ne HO115.out BK102.out (by decide)) e_) hs_)); replace BK110 := Aside0.mk (blk_kept (Bk_ BK110.out) hkp (fun hs_ => (fun e_ => (Kd.R_ne HO115.out BK110.out (by decide)) e_) hs_)); replace HO115 := Aside0.mk (Kd.R_reok rfl hy0 (fun k_ e_ => HO115.out.1 k_ e_)); replace HB := Aside0.mk (hb); (try clear hb); (try clear hkp); (try clear hy0); have hnb39 := NB101_102.out; have hnc39 := NB102_101.out; obtain ⟨hcz40_0, hcz40_1⟩ := c2_ BK101; obtain ⟨hfz40_0, hfz40_1⟩ := f2_ BK101; obtain ⟨Ao41, co41, eo41⟩ := Kd.V_slice HO_102000.out; subst eo41) | ((with_reducible refine gate_callee (f := 63) rfl ?_); refine goesL_ (some 41) rfl rfl Tryd.func63 (by kernel_rfl) rfl #[.slice Ao41 x102000_1.length co41, .slice Ao37 t116.length co37] rfl (by (try simp only [List.map_toArray, List.map_cons, List.map_nil]); first | done | (rw [show t116.length = t112.length from (Kd.R_reads' HO115.out).1.symm] <;> rfl) | rfl | (simp only [List.length_drop, List.length_take]; rfl)) ?_; (with_reducible refine (shape_Offset.calls k1 _ _ x102000_1 _ _ t116 t117 t118 _ ?side1 ?side2 ?side3 ?side4 A28.out).mono ?_); (case side1 => exact Pc_ ((Kd.V_reads' HO_102000.out).2.2)); (case side2 => exact (Kd.V_reads' HO_102000.out).2.1); (case side3 => exact Pc_ ((Kd.R_reads' HO115.out).2.2)); (case side4 => rw [show t116.length = t112.length from (Kd.R_reads' HO115.out).1.symm]; exact (Kd.R_reads' HO115.out).2.1); rintro e w42 ⟨rfl, hb⟩; refine ⟨_, rfl, ?_⟩; replace HO_102000 := Aside0.mk (Kd.V_below (Pv_ HO_102000.out) hb); replace HO_102001 := Aside0.mk (Kd.V_below (Pv_ HO_102001.out) hb); replace HO_111000 := Aside0.mk (Kd.R_below (Pr_ HO_111000.out) hb); replace HO_111001 := Aside0.mk (Kd.R_below (Pr_ HO_111001.out) hb); replace HO115 := Aside0.mk (Kd.R_below (Pr_ HO115.out) hb); replace BK101 := kb_ BK101 hb; replace BK102 := kb_ BK102 hb; replace BK110 := kb_ BK110 hb; replace HB := Bs_ hb; (try clear hb); (try clear hb2); (try clear hk); (try clear hi)))
                replace HO_102000 := Aside0.mk (Kd.V_drew HO_102000.out)
                replace HO_102001 := Aside0.mk (Kd.V_drew HO_102001.out)
                replace HO_111000 := Aside0.mk (Kd.R_drew HO_111000.out)
                replace HO_111001 := Aside0.mk (Kd.R_drew HO_111001.out)
                replace HO115 := Aside0.mk (Kd.R_drew HO115.out)
                replace BK101 := Aside0.mk (blk_drew BK101.out)
                replace BK102 := Aside0.mk (blk_drew BK102.out)
                replace BK110 := Aside0.mk (blk_drew BK110.out)
                replace HB := Aside0.mk (below_drew1 HB.out)
                have p119 : 0 ≤ (t117 : Int) := of_decide_eq_true As_
                have q119 : t117 < (l0_1.length : Int) := of_decide_eq_true As_
                obtain ⟨ad119, e119, hx119_0⟩ := Kd.at_string (Kd.V_reads' HO_102001.out).2.2 t117 p119 q119
                cases e119
                replace p119 := eq_true p119
                replace q119 := eq_true q119
                refine start_ (n := 11) (S := fun w' => w'.cell? ⟨gb110, 0, none⟩ = some (.slice Ao35 x111000_1.length co35) ∧ w'.cell? ⟨gb110, 1, none⟩ = some (u111001) ∧ w'.cell? ⟨gb101, 0, none⟩ = some (.slice Ao41 x102000_1.length co41) ∧ w'.cell? ⟨gb101, 1, none⟩ = some (.slice (some ad119) l0_1.length c0_1) ∧ w'.cell? (ad119.add (t117).toNat) = some (.string (rdOf ByteArray.empty l0_1 t117))) (ds := [8, 10]) #[false, false, false, false, false, false, false, false, false, false, false] (by kernel_rfl) rfl rfl ⟨(blk_cell BK110.out 0).trans rfl, (blk_cell BK110.out 1).trans rfl, (blk_cell BK101.out 0).trans rfl, (blk_cell BK101.out 1).trans rfl, hx119_0⟩ (fun hHeld => ?_); refine with_tabW mould_Flip.tab11 mould_Flip.bits11 (fun HT_ HW_ => ?_)
                generalize w42.drew = w43 at HO_102000 HO_102001 HO_111000 HO_111001 HO115 BK101 BK102 BK110 HB hx119_0 hHeld ⊢
                refine pu_ 0 (some 44) HT_ #[true, false, false, false, false, false, false, false, false, false, false] ?_
                refine pu_ 2 (some 46) HT_ #[true, false, true, false, false, false, false, false, false, false, false] ?_
                refine pu_ 4 (some 48) HT_ #[true, false, true, false, true, false, false, false, false, false, false] ?_
                refine take_ (i := 1) (N := some 45) (v := ?_) (a' := ?_) #[true, true, true, false, true, false, false, false, false, false, false] rfl rfl (take_ofW HT_.out HW_.out (by kernel_rfl)) (fun _ _ _ h => h) (Or.inl ⟨by rfl, ?_⟩) hHeld ?_ ?_
                rotate_left
                · rintro w' ⟨s0, s1, s2, s3, s4⟩
                  go_simp
                  with_reducible rfl
                rotate_left
                · simp only [Act.put, List.setIfInBounds_toArray, List.set_cons_zero, List.set_cons_succ, i64_w, i32_w]
                  rfl
                refine take_ (i := 3) (N := some 47) (v := ?_) (a' := ?_) #[true, true, true, true, true, false, false, false, false, false, false] rfl rfl (take_ofW HT_.out HW_.out (by kernel_rfl)) (fun _ _ _ h => h) (Or.inl ⟨by rfl, ?_⟩) hHeld ?_ ?_
                rotate_left
                · rintro w' ⟨s0, s1, s2, s3, s4⟩
                  go_simp
                  with_reducible rfl
                rotate_left
                · simp only [Act.put, List.setIfInBounds_toArray, List.set_cons_zero, List.set_cons_succ, i64_w, i32_w]
                  rfl
                refine pu_ 5 (some 49) HT_ #[true, true, true, true, true, true, false, false, false, false, false] ?_
                refine take_ (i := 6) (N := some 50) (v := ?_) (a' := ?_) #[true, true, true, true, true, true, true, false, false, false, false] rfl rfl (take_ofW HT_.out HW_.out (by kernel_rfl)) (fun _ _ _ h => h) (Or.inl ⟨by rfl, ?_⟩) hHeld ?_ ?_
                rotate_left
                · rintro w' ⟨s0, s1, s2, s3, s4⟩
                  go_simp
                  with_reducible rfl
                rotate_left
                · simp only [Act.put, List.setIfInBounds_toArray, List.set_cons_zero, List.set_cons_succ, i64_w, i32_w]
                  rfl
                refine one_ (i := 7) (N := some 51) #[true, true, true, true, true, true, true, true, false, false, false] rfl rfl (one_of HT_.out (by kernel_rfl)) (by decide) (fun K hK => ?_)
                refine value_ (w1 := ?_) (v := ?_) (by rfl) rfl ?_ ?_
                rotate_left 2
                · go_simp
                  constructor
                  · rfl
                  · rfl
                refine hK.out _ _ ⟨(blk_cell (blk_alloc BK110.out _) 0).trans rfl, (blk_cell (blk_alloc BK110.out _) 1).trans rfl, (blk_cell (blk_alloc BK101.out _) 0).trans rfl, (blk_cell (blk_alloc BK101.out _) 1).trans rfl, (World.cell?_alloc_lt _ _ _ (World.block_lt_of_cell? _ _ (hHeld.2.2.2.2))).trans (hHeld.2.2.2.2)⟩ (fun hHeld => ?_)
                clear hK K
                refine norm_ (a' := ?_) ?_ ?_
                rotate_left
                · show Act.put _ (some 51) _ = _
                  simp only [Act.put, List.setIfInBounds_toArray, List.set_cons_zero, List.set_cons_succ, i64_w, i32_w]
                  rfl
                refine last_ (i := 8) (N := some 52) #[true, true, true, true, true, true, true, true, true, false, false] rfl rfl (one_of HT_.out (by kernel_rfl)) (by decide) (fun K hK => ?_)
                refine Kd.R_append_step Kd.string (w0 := w) w.heap.size (by rfl) (.tmp 45) (.tmp 51) 23 9 (.string ⟨#[]⟩) 16 rfl Tryd.underlying23 info9 rfl (by decide) (by omega) u111001 x111001_1 (rdOf ByteArray.empty l0_1 t117) [.string (rdOf ByteArray.empty l0_1 t117)] (fun k_ => (w.heap.size ≤ k_)) (fun _ => False) rfl rfl ?aP (fun _ hk => hk.elim) ?aF ?aO ?aB ?aS ?aL ?_
                (case aP => exact rfl)
                (case aB => exact Bl_)
                (case aF => exact (fun k_ hk => (Nat.le_trans Bz_ hk)))
                (case aO => exact (Pr_ HO_111001.out))
                (case aS => exact Bz_)
                (case aL => have := LMc31.out; omega)
                intro v121 w44 ho hb hg hat
                rw [← Ny120.out] at ho
                replace HO_102000 := Aside0.mk (Kd.V_afterv (ok := (fun k_ => ((P0_0_ k_ ∨ P0_1_ k_) ∨ w.heap.size ≤ k_) ∧ some k_ ≠ (.slice Ao35 x111000_1.length co35 : Value).ownBlock ∧ some k_ ≠ (.slice Ao37 t112.length co37 : Value).ownBlock ∧ k_ ≠ gb101 ∧ k_ ≠ gb102 ∧ k_ ≠ gb110)) (by (with_reducible repeat (first | apply Kd.V_alloc | apply Kd.V_drewN | apply Kd.V_drew)); exact Kd.V_mono HO_102000.out (fun _ hk => ⟨⟨hk.1, ⟨hk.2.1, ⟨hk.2.2.2.1, ⟨hk.2.2.2.2.1, ⟨hk.2.2.2.2.2.1, hk.2.2.2.2.2.2⟩⟩⟩⟩⟩, hk.2.2.1⟩)) hg hat)
                replace HO_102001 := Aside0.mk (Kd.V_afterv (ok := (fun k_ => ((P0_0_ k_ ∨ P0_1_ k_) ∨ w.heap.size ≤ k_) ∧ some k_ ≠ (.slice Ao35 x111000_1.length co35 : Value).ownBlock ∧ some k_ ≠ (.slice Ao37 t112.length co37 : Value).ownBlock ∧ k_ ≠ gb101 ∧ k_ ≠ gb102 ∧ k_ ≠ gb110)) (by (with_reducible repeat (first | apply Kd.V_alloc | apply Kd.V_drewN | apply Kd.V_drew)); exact Kd.V_mono HO_102001.out (fun _ hk => ⟨⟨hk.1, ⟨hk.2.1, ⟨hk.2.2.2.1, ⟨hk.2.2.2.2.1, ⟨hk.2.2.2.2.2.1, hk.2.2.2.2.2.2⟩⟩⟩⟩⟩, hk.2.2.1⟩)) hg hat)
                replace HO_111000 := Aside0.mk (Kd.R_over' (Pr_ HO_111000.out) (Kd.R_typed (Pr_ HO_111001.out)) (by decide) hg)
                replace BK101 := kg_ BK101 hg (Kd.R_ne HO_111001.out BK101.out (by decide))
                replace BK102 := kg_ BK102 hg (Kd.R_ne HO_111001.out BK102.out (by decide))
                replace BK110 := kg_ BK110 hg (Kd.R_ne HO_111001.out BK110.out (by decide))
                replace HO115 := Aside0.mk (Kd.R_over' (Pr_ HO115.out) (Kd.R_typed (Pr_ HO_111001.out)) (by decide) hg)
                replace HB := Aside0.mk (hb)
                have HO122 := Aside0.mk (ho)
                clear HO_111001
                clear ho hb hg hat
                obtain ⟨Ao45, co45, eo45⟩ := Kd.R_slice HO122.out
                (first | subst eo45 | (injection eo45 with f1_ f2_ f3_; have f4_ := f1_.symm; have f5_ := f3_.symm; clear f1_ f2_ f3_; subst f4_; subst f5_))
                refine hK.out _ _ ?_
                clear hK K
                refine norm_ (a' := ?_) ?_ ?_
                rotate_left
                · show Act.put _ (some 52) _ = _
                  simp only [Act.put, List.setIfInBounds_toArray, List.set_cons_zero, List.set_cons_succ, i64_w, i32_w]
                  rfl
                refine pu_ 9 (some 53) HT_ #[true, true, true, true, true, true, true, true, true, true, false] ?_
                refine last_ (i := 10) (N := none) #[true, true, true, true, true, true, true, true, true, true, true] rfl rfl (one_of HT_.out (by kernel_rfl)) (by decide) (fun K hK => ?_)
                have hs46 : w44.cell? ⟨gb110, 1, none⟩ = some (u111001) := (blk_cell BK110.out 1).trans rfl
                have hfs46 := blk_frozen BK110.out 1
                have hns46_0 := NB101_110.out
                have hns46_1 := NB102_110.out
                have hms46_0 := NB110_101.out
                have hms46_1 := NB110_102.out
                refine skip_ (w1 := ?_) (by rfl) rfl ?_ ?_
                rotate_left
                · go_simp
                  rfl
                refine hK.out _ _ ?_
                clear hK K
                refine done_ (done_of HT_.out (by kernel_rfl)) ?_
                try go_wp2
                go_roundg k1
                case measure => have := HK1.out; omega
                case rel => exact ⟨(wrap64 (x25_1 + 1)), (x102000_1), (x111000_1), (y120), (.slice Ao41 x102000_1.length co41), (.slice Ao35 x111000_1.length co35), (.slice Ao45 y120.length co45), Rf_, H', ⟨by have := HK1.out; omega⟩, ⟨by (with_reducible repeat (first | apply Kd.V_alloc | apply Kd.V_drewN | apply Kd.V_drew)); exact Kd.V_mono (Kd.V_far (p := ⟨gb110, 1, none⟩) (Kd.V_mono HO_102000.out (fun k_ hk => (⟨hk, hk.1.2.2.2.2.2⟩ : _ ∧ k_ ≠ gb110))) (fun _ hk => hk.2) (.slice Ao45 y120.length co45)) (fun _ hk => ⟨hk.1.1.1, ⟨hk.1.1.2.1, ⟨hk.1.2, ⟨hk.1.1.2.2.2.1, ⟨hk.1.1.2.2.2.2.1, hk.1.1.2.2.2.2.2⟩⟩⟩⟩⟩)⟩, ⟨by (with_reducible repeat (first | apply Kd.V_alloc | apply Kd.V_drewN | apply Kd.V_drew)); exact Kd.V_mono (Kd.V_far (p := ⟨gb110, 1, none⟩) (Kd.V_mono HO_102001.out (fun k_ hk => (⟨hk, hk.1.2.2.2.2.2⟩ : _ ∧ k_ ≠ gb110))) (fun _ hk => hk.2) (.slice Ao45 y120.length co45)) (fun _ hk => ⟨hk.1.1.1, ⟨hk.1.1.2.1, ⟨hk.1.2, ⟨hk.1.1.2.2.2.1, ⟨hk.1.1.2.2.2.2.1, hk.1.1.2.2.2.2.2⟩⟩⟩⟩⟩)⟩, ⟨by (with_reducible repeat (first | apply Kd.R_alloc | apply Kd.R_drewN | apply Kd.R_drew)); exact Kd.R_mono (Kd.R_far (p := ⟨gb110, 1, none⟩) (Kd.R_types HO_111000.out BK110.out (by decide)) (fun _ hk => hk.2) (.slice Ao45 y120.length co45)) (fun _ hk => hk.1.1)⟩, ⟨by (with_reducible repeat (first | apply Kd.R_alloc | apply Kd.R_drewN | apply Kd.R_drew)); exact Kd.R_mono (Kd.R_far (p := ⟨gb110, 1, none⟩) (Kd.R_types HO122.out BK110.out (by decide)) (fun _ hk => hk.2) (.slice Ao45 y120.length co45)) (fun _ hk => hk.1)⟩, ⟨by (with_reducible repeat (first | refine blk_drewN ?_ _ | refine blk_drew ?_ | refine blk_alloc ?_ _)); refine blk_far ?_ NB101_110.out _; (with_reducible repeat (first | refine blk_drewN ?_ _ | refine blk_drew ?_ | refine blk_alloc ?_ _)); exact BK101.out⟩, ⟨by (with_reducible repeat (first | refine blk_drewN ?_ _ | refine blk_drew ?_ | refine blk_alloc ?_ _)); refine blk_far ?_ NB102_110.out _; (with_reducible repeat (first | refine blk_drewN ?_ _ | refine blk_drew ?_ | refine blk_alloc ?_ _)); exact BK102.out⟩, ⟨by (with_reducible repeat (first | refine blk_drewN ?_ _ | refine blk_drew ?_ | refine blk_alloc ?_ _)); refine blk_put (cs := #[.slice Ao35 x111000_1.length co35, u111001]) ?_ 1 _ rfl; (with_reducible repeat (first | refine blk_drewN ?_ _ | refine blk_drew ?_ | refine blk_alloc ?_ _)); exact BK110.out⟩, ⟨Bl_⟩⟩
              · rw [if_neg c31] at H
                exact absurd H (by simp)
            · rw [if_neg c30] at H
              exact absurd H (by simp)
          · rw [if_neg c29] at H
            exact absurd H (by simp)
        · rw [if_neg c25] at H
          have c25b0 : decide (x25_1 < (l0_1.length : Int)) = false := decide_eq_false c25
          clear c25
          simp only [Option.some.injEq, Prod.mk.injEq] at H
          obtain ⟨rfl, rfl, rfl⟩ := H
          have hnb47 := NB110_101.out
          have hnc47 := NB101_110.out
          have hnb48 := NB110_102.out
          have hnc48 := NB102_110.out
          obtain ⟨hcz49_0, hcz49_1⟩ := c2_ BK110
          obtain ⟨hfz49_0, hfz49_1⟩ := f2_ BK110
          obtain ⟨Ao50, co50, eo50⟩ := Kd.R_slice HO_111000.out
          subst eo50
          have hnb51 := NB102_101.out
          have hnc51 := NB101_102.out
          obtain ⟨hcz52_0, hcz52_1⟩ := c2_ BK102
          obtain ⟨hfz52_0, hfz52_1⟩ := f2_ BK102
          obtain ⟨Ao53, co53, eo53⟩ := Kd.R_slice HO_111001.out
          subst eo53
          go_wp2
          refine bodyPost_ret (results_ct rfl _ _ gb102 25 #[.slice Ao50 x111000_1.length co50, .slice Ao53 x111001_1.length co53] (0, 0) _ rfl (by (with_reducible repeat (first | refine blk_drewN ?_ _ | refine blk_drew ?_ | refine blk_alloc ?_ _)); refine blk_put (cs := #[.slice Ao50 x111000_1.length co50, .slice none 0 0]) ?_ 1 _ rfl; (with_reducible repeat (first | refine blk_drewN ?_ _ | refine blk_drew ?_ | refine blk_alloc ?_ _)); refine blk_put (cs := #[.slice none 0 0, .slice none 0 0]) ?_ 0 _ rfl; (with_reducible repeat (first | refine blk_drewN ?_ _ | refine blk_drew ?_ | refine blk_alloc ?_ _)); exact BK102.out) Tryd.underlying25 rfl (by kernel_rfl)) rfl ?_
          exact ⟨_, _, Re_, by (with_reducible repeat (first | apply Kd.R_alloc | apply Kd.R_drewN | apply Kd.R_drew)); exact Kd.R_mono (Kd.R_far (p := ⟨gb102, 1, none⟩) (Kd.R_far (p := ⟨gb102, 0, none⟩) (Kd.R_types HO_111000.out BK102.out (by decide)) (fun _ hk => hk.2) (.slice Ao50 x111000_1.length co50)) (fun _ hk => hk.2) (.slice Ao53 x111001_1.length co53)) (fun _ hk => hk.1), by (with_reducible repeat (first | apply Kd.R_alloc | apply Kd.R_drewN | apply Kd.R_drew)); exact Kd.R_mono (Kd.R_far (p := ⟨gb102, 1, none⟩) (Kd.R_far (p := ⟨gb102, 0, none⟩) (Kd.R_types HO_111001.out BK102.out (by decide)) (fun _ hk => hk.2) (.slice Ao50 x111000_1.length co50)) (fun _ hk => hk.2) (.slice Ao53 x111001_1.length co53)) (fun _ hk => hk.1), Bl_⟩
  · replace c3 := Bool.eq_false_iff.mpr c3
    subst c3
    have H1 : (some (([] : List Int), ([] : List ByteArray), 1)) = some (r1, r2, r3) := by rw [if_neg (show ¬ (false = true) by decide)] at H; exact H
    clear H
    have H := H1
    clear H1
    simp only [Option.some.injEq, Prod.mk.injEq] at H
    obtain ⟨rfl, rfl, rfl⟩ := H
    go_enter Tryd.func27, Tryd.ntmps27
    go_wp2_with (first | ((with_reducible refine gate_dst (N := 1) rfl ?_); refine bx_ 1 #[.slice A0_0 l0_0.length c0_0, .slice A0_1 l0_1.length c0_1] 25 ?_; intro gb101 hg w54 hbox hb; replace HO0_0 := Aside0.mk (Kd.V_below (Kd.V_elderB (Pv_ HO0_0.out) gb101 (Nat.le_of_eq hg.symm)) hb); replace HO0_1 := Aside0.mk (Kd.V_below (Kd.V_elderB (Pv_ HO0_1.out) gb101 (Nat.le_of_eq hg.symm)) hb); have BK101 := Aside0.mk (hbox); have GW101 := (Bg_ hg : Aside0 (w.heap.size ≤ gb101)); have GE101 := (Bg_ hg : Aside0 (w.heap.size ≤ gb101)); replace HB := Bs_ hb; clear hb hbox hg) | ((with_reducible refine gate_dst (N := 2) rfl ?_); refine bx_ 2 #[.slice none 0 0, .slice none 0 0] 25 ?_; intro gb102 hg w55 hbox hb; replace HO0_0 := Aside0.mk (Kd.V_below (Kd.V_elderB (Pv_ HO0_0.out) gb102 (Nat.le_of_eq hg.symm)) hb); replace HO0_1 := Aside0.mk (Kd.V_below (Kd.V_elderB (Pv_ HO0_1.out) gb102 (Nat.le_of_eq hg.symm)) hb); have BK102 := Aside0.mk (hbox); have GW102 := (Bg_ hg : Aside0 (w.heap.size ≤ gb102)); have GE102 := (Bg_ hg : Aside0 (w.heap.size ≤ gb102)); replace HB := Bs_ hb; have NB101_102 := nl_ hg BK101; have NB102_101 := ng_ hg BK101; replace BK101 := kb_ BK101 hb; clear hb hbox hg; have hnb56 := NB101_102.out; have hnc56 := NB102_101.out; obtain ⟨hcz57_0, hcz57_1⟩ := c2_ BK101; obtain ⟨hfz57_0, hfz57_1⟩ := f2_ BK101) | ((with_reducible refine gate_dst (N := 11) rfl ?_); refine Kd.N_lit k25 _ 25 ?hg (N' := 11) ?hd (xs := ([(⟨l0_0, l0_1⟩ : S25)] : List (S25))) (inner := [.slice A0_0 l0_0.length c0_0, .slice A0_1 l0_1.length c0_1]) (ok := (fun k_ => ((P0_0_ k_ ∨ P0_1_ k_) ∨ w.heap.size ≤ k_) ∧ k_ ≠ gb101 ∧ k_ ≠ gb102)) (okp := (fun k_ => ((P0_0_ k_ ∨ P0_1_ k_) ∨ w.heap.size ≤ k_) ∧ k_ ≠ gb101 ∧ k_ ≠ gb102)) ?hr ?hp (fun _ hk => hk) ((show ∀ k_, w55.heap.size ≤ k_ → (fun k_ => ((P0_0_ k_ ∨ P0_1_ k_) ∨ w.heap.size ≤ k_) ∧ k_ ≠ gb101 ∧ k_ ≠ gb102) k_ from fun k_ hk => ⟨(.inr (Nat.le_trans Bz_ hk)), Kd.freshB (g := gb101) (o := .cells #[.slice A0_0 l0_0.length c0_0, .slice A0_1 l0_1.length c0_1] 25 (0, 0)) (Bk_ BK101.out) k_ hk, Kd.freshB (g := gb102) (o := .cells #[.slice none 0 0, .slice none 0 0] 25 (0, 0)) (Bk_ BK102.out) k_ hk⟩) _ (Nat.le_refl _)) (Below.refl _ _) (Nat.le_refl _) (by simp) ?_; (case hd => rfl); (case hg => rfl); (case hr => first | (go_simp; done) | (go_simp; rfl)); (case hp => exact (Reps.c2 (show Kd.FK k25 _ _ (⟨l0_0, l0_1⟩ : S25) [.slice A0_0 l0_0.length c0_0, .slice A0_1 l0_1.length c0_1] from (k25_mkF _ _ (⟨l0_0, l0_1⟩ : S25) (Kd.V_reads' (Kd.V_mono (ok' := (fun k_ => ((P0_0_ k_ ∨ P0_1_ k_) ∨ w.heap.size ≤ k_) ∧ k_ ≠ gb101 ∧ k_ ≠ gb102)) (HO0_0.out) (fun k_ hk => ⟨hk.1.1, ⟨hk.1.2, hk.2⟩⟩))).2.1 (Kd.V_F (Kd.V_mono (ok' := (fun k_ => ((P0_0_ k_ ∨ P0_1_ k_) ∨ w.heap.size ≤ k_) ∧ k_ ≠ gb101 ∧ k_ ≠ gb102)) (HO0_0.out) (fun k_ hk => ⟨hk.1.1, ⟨hk.1.2, hk.2⟩⟩))) (Kd.V_reads' (Kd.V_mono (ok' := (fun k_ => ((P0_0_ k_ ∨ P0_1_ k_) ∨ w.heap.size ≤ k_) ∧ k_ ≠ gb101 ∧ k_ ≠ gb102)) (HO0_1.out) (fun k_ hk => ⟨hk.1.1, ⟨hk.1.2, hk.2⟩⟩))).2.1 (Kd.V_F (Kd.V_mono (ok' := (fun k_ => ((P0_0_ k_ ∨ P0_1_ k_) ∨ w.heap.size ≤ k_) ∧ k_ ≠ gb101 ∧ k_ ≠ gb102)) (HO0_1.out) (fun k_ hk => ⟨hk.1.1, ⟨hk.1.2, hk.2⟩⟩))))) (Reps.none _ _))); intro v104 w58 ho59 hb hg_ hnew_; clear hg_ hnew_; (first | rw [← Ny103.out] at ho59 | (simp only [Int.reduceToNat] at ho59; rw [← Ny103.out] at ho59)); replace HO0_0 := Aside0.mk (Kd.V_elder' (Pv_ HO0_0.out) (Kd.N_base ho59) hb); replace HO0_1 := Aside0.mk (Kd.V_elder' (Pv_ HO0_1.out) (Kd.N_base ho59) hb); have HO105 := Aside0.mk (Kd.N_lower ho59 Bz_); replace BK101 := kb_ BK101 hb; replace BK102 := kb_ BK102 hb; replace HB := Bs_ hb; clear hb ho59; obtain ⟨Ao60, co60, eo60⟩ := Kd.N_slice HO105.out; subst eo60) | ((with_reducible refine gate_callee (f := 50) rfl ?_); refine goesL_ (some 12) rfl rfl Tryd.func50 (by kernel_rfl) rfl #[.slice Ao60 y103.length co60] rfl Ga_ ?_; (with_reducible refine (mould_fine.calls k _ _ y103 false _ ?side1 ?side2 A2.out).mono ?_); (case side1 => exact Pc_ ((Kd.N_reads' HO105.out).2.2)); (case side2 => exact (Kd.N_reads' HO105.out).2.1); rintro e w61 ⟨rfl, hb⟩; refine ⟨_, rfl, ?_⟩; replace HO0_0 := Aside0.mk (Kd.V_below (Pv_ HO0_0.out) hb); replace HO0_1 := Aside0.mk (Kd.V_below (Pv_ HO0_1.out) hb); replace HO105 := Aside0.mk (Kd.N_below (by (with_reducible repeat (first | apply Kd.N_alloc | apply Kd.N_drewN | apply Kd.N_drew)); exact HO105.out) hb); replace BK101 := kb_ BK101 hb; replace BK102 := kb_ BK102 hb; replace HB := Bs_ hb; (try clear hb); (try clear hb2); (try clear hk); (try clear hi); obtain ⟨hcz62_0, hcz62_1⟩ := c2_ BK102; obtain ⟨hfz62_0, hfz62_1⟩ := f2_ BK102))
    refine bodyPost_ret (results_ct rfl _ _ gb102 25 #[.slice none 0 0, .slice none 0 0] (0, 0) _ rfl (by (with_reducible repeat (first | refine blk_drewN ?_ _ | refine blk_drew ?_ | refine blk_alloc ?_ _)); refine blk_put (cs := #[.slice none 0 0, .slice none 0 0]) ?_ 1 _ rfl; (with_reducible repeat (first | refine blk_drewN ?_ _ | refine blk_drew ?_ | refine blk_alloc ?_ _)); refine blk_put (cs := #[.slice none 0 0, .slice none 0 0]) ?_ 0 _ rfl; (with_reducible repeat (first | refine blk_drewN ?_ _ | refine blk_drew ?_ | refine blk_alloc ?_ _)); exact BK102.out) Tryd.underlying25 rfl (by kernel_rfl)) rfl ?_
    exact ⟨_, _, Re_, by first | exact Kd.R_nil _ _ _ _ _ | exact Kd.N_nil _ _ _ _ _ | exact Kd.V_nil _ _ _ _ _ | exact Kd.Q_nil _ _ _ _ _ | exact Kd.S_nil _ _ _ _ _, by first | exact Kd.R_nil _ _ _ _ _ | exact Kd.N_nil _ _ _ _ _ | exact Kd.V_nil _ _ _ _ _ | exact Kd.Q_nil _ _ _ _ _ | exact Kd.S_nil _ _ _ _ _, Bl_⟩
/-! ### num_Int: function 37 -/
def num_Int.f (a0 : ByteArray) : Option (Int × Bool) := if a0.size ≤ 281474976710656 then (num_May.f a0).bind fun m => if m = true then (match Lib.parseIntB 64 a0.data.toList with | .ok v => some (v, true) | .range => some (0, false) | _ => none) else some (0, false) else none
set_option maxHeartbeats 1000000 in
theorem num_Int.calls (a0 : ByteArray) (r1 : Int) (r2 : Bool) (w : World) (h : num_Int.f a0 = some (r1, r2)) (hG : Glob w) :
    Calls Tryd.prog 37 #[.string a0] w fun e w' => e = .returned (.tuple #[.int .i64 r1, .bool r2]) ∧ Below w.heap.size w w' := by
  unfold num_Int.f at h
  by_cases hs : a0.size ≤ 281474976710656
  case neg => rw [if_neg hs] at h; cases h
  rw [if_pos hs] at h
  obtain ⟨m, hm, h⟩ := Option.bind_eq_some_iff.mp h
  have HM := Aside0.mk hm
  clear hm
  cases m with
  | false =>
    rw [if_neg (by simp)] at h
    simp only [Option.some.injEq, Prod.mk.injEq] at h
    obtain ⟨rfl, rfl⟩ := h
    go_enter Tryd.func37, Tryd.ntmps37
    go_wp2_with (go_at_call 60; refine (num_May.calls a0 _ _ HM.out).mono ?_; rintro e w1 ⟨rfl, hb⟩)
    go_ret2
    exact ⟨rfl, hb⟩
  | true =>
    rw [if_pos rfl] at h
    cases hp : Lib.parseIntB 64 a0.data.toList
    case ok v =>
      rw [hp] at h
      simp only [Option.some.injEq, Prod.mk.injEq] at h
      obtain ⟨rfl, rfl⟩ := h
      have HP := Aside0.mk hp
      clear hp
      go_enter Tryd.func37, Tryd.ntmps37
      go_wp2_with (first | (go_at_call 60; refine (num_May.calls a0 _ _ HM.out).mono ?_; rintro e w1 ⟨rfl, hb⟩) | (go_at_call 73; refine (Tryd.strconv_ParseInt_10_at64_ok a0 (by omega) _ HP.out _).mono ?_; rintro e w2 ⟨rfl, hw2⟩))
      go_ret2
      refine ⟨rfl, ?_⟩
      rcases hw2 with rfl | ⟨t, rfl⟩
      · exact hb
      · exact bytes_below hb hb.size _ _
    case range =>
      rw [hp] at h
      simp only [Option.some.injEq, Prod.mk.injEq] at h
      obtain ⟨rfl, rfl⟩ := h
      have HP := Aside0.mk hp
      clear hp
      obtain ⟨_, tp, p, hv⟩ := hG
      have HV := Aside0.mk hv
      clear hv
      go_enter Tryd.func37, Tryd.ntmps37
      go_wp2_with (first | (go_at_call 60; refine (num_May.calls a0 _ _ HM.out).mono ?_; rintro e w1 ⟨rfl, hb⟩) | (go_at_call 73; refine (Tryd.strconv_ParseInt_10_at64_range_var a0 hs HP.out tp p _ (var_keeps hb HV.out)).mono ?_; rintro e w2 ⟨N, rfl, hN, hc, hb2⟩))
      go_ret2
      exact ⟨rfl, below_then hb hb.size hb2⟩
    · rw [hp] at h; cases h
/-! ### val_one: function 86 -/
def val_one.f (a0 : ByteArray) : Option (Int × Int) := (num_Int.f a0).bind fun bt101 => (if bt101.2 = true then (if bt101.1 < (-1099511627776) then (some (0, 5)) else (if bt101.1 > 1099511627776 then (some (0, 5)) else (some (bt101.1, 0)))) else (some (0, 5)))
set_option maxHeartbeats 8000000 in
set_option maxRecDepth 100000 in
theorem val_one.calls (a0 : ByteArray) (r1 : Int) (r2 : Int) (w : World) (h : val_one.f a0 = some (r1, r2)) (hG : Glob w) :
    Calls Tryd.prog 86 #[.string a0] w fun e w' => e = .returned (.tuple #[.int .i64 r1, .int .i64 r2]) ∧ Below w.heap.size w w' := by
  have HB := Aside0.mk (Below.refl w.heap.size w)
  have H : ((num_Int.f a0).bind fun bt101 => (if bt101.2 = true then (if bt101.1 < (-1099511627776) then (some (0, 5)) else (if bt101.1 > 1099511627776 then (some (0, 5)) else (some (bt101.1, 0)))) else (some (0, 5)))) = some (r1, r2) := h
  clear h
  obtain ⟨⟨t101, t102⟩, A2, H⟩ := bnd_ H
  try dsimp -simprocs only at H
  by_cases c3 : t102 = true
  · subst c3
    have H1 : (if t101 < (-1099511627776) then (some (0, 5)) else (if t101 > 1099511627776 then (some (0, 5)) else (some (t101, 0)))) = some (r1, r2) := by rw [if_pos rfl] at H; exact H
    clear H
    have H := H1
    clear H1
    by_cases c4 : t101 < (-1099511627776)
    · rw [if_pos c4] at H
      have c4b0 : decide (t101 < (-1099511627776)) = true := decide_eq_true c4
      clear c4
      simp only [Option.some.injEq, Prod.mk.injEq] at H
      obtain ⟨rfl, rfl⟩ := H
      go_enter Tryd.func86, Tryd.ntmps86
      go_wp2_with (first | ((with_reducible refine gate_callee (f := 37) rfl ?_); refine goesL_ (some 8) rfl rfl Tryd.func37 (by kernel_rfl) rfl #[.string a0] rfl Ga_ ?_; (with_reducible refine (num_Int.calls a0 t101 true _ A2.out ?side1).mono ?_); (case side1 => first | exact hG | exact Glob.below hG Bl_); rintro e w5 ⟨rfl, hb⟩; refine ⟨_, rfl, ?_⟩; replace HB := Bs_ hb; (try clear hb); (try clear hb2); (try clear hk); (try clear hi)))
      go_ret2
      exact ⟨Re_, Bl_⟩
    · rw [if_neg c4] at H
      have c4b0 : decide (t101 < (-1099511627776)) = false := decide_eq_false c4
      clear c4
      by_cases c6 : t101 > 1099511627776
      · rw [if_pos c6] at H
        have c6b0 : decide (1099511627776 < t101) = true := decide_eq_true c6
        clear c6
        simp only [Option.some.injEq, Prod.mk.injEq] at H
        obtain ⟨rfl, rfl⟩ := H
        go_enter Tryd.func86, Tryd.ntmps86
        go_wp2_with (first | ((with_reducible refine gate_callee (f := 37) rfl ?_); refine goesL_ (some 8) rfl rfl Tryd.func37 (by kernel_rfl) rfl #[.string a0] rfl Ga_ ?_; (with_reducible refine (num_Int.calls a0 t101 true _ A2.out ?side1).mono ?_); (case side1 => first | exact hG | exact Glob.below hG Bl_); rintro e w7 ⟨rfl, hb⟩; refine ⟨_, rfl, ?_⟩; replace HB := Bs_ hb; (try clear hb); (try clear hb2); (try clear hk); (try clear hi)))
        go_ret2
        exact ⟨Re_, Bl_⟩
      · rw [if_neg c6] at H
        have c6b0 : decide (1099511627776 < t101) = false := decide_eq_false c6
        clear c6
        simp only [Option.some.injEq, Prod.mk.injEq] at H
        obtain ⟨rfl, rfl⟩ := H
        go_enter Tryd.func86, Tryd.ntmps86
        go_wp2_with (first | ((with_reducible refine gate_callee (f := 37) rfl ?_); refine goesL_ (some 8) rfl rfl Tryd.func37 (by kernel_rfl) rfl #[.string a0] rfl Ga_ ?_; (with_reducible refine (num_Int.calls a0 t101 true _ A2.out ?side1).mono ?_); (case side1 => first | exact hG | exact Glob.below hG Bl_); rintro e w8 ⟨rfl, hb⟩; refine ⟨_, rfl, ?_⟩; replace HB := Bs_ hb; (try clear hb); (try clear hb2); (try clear hk); (try clear hi)))
        go_ret2
        exact ⟨Re_, Bl_⟩
  · replace c3 := Bool.eq_false_iff.mpr c3
    subst c3
    have H1 : (some (0, 5)) = some (r1, r2) := by rw [if_neg (show ¬ (false = true) by decide)] at H; exact H
    clear H
    have H := H1
    clear H1
    simp only [Option.some.injEq, Prod.mk.injEq] at H
    obtain ⟨rfl, rfl⟩ := H
    go_enter Tryd.func86, Tryd.ntmps86
    go_wp2_with (first | ((with_reducible refine gate_callee (f := 37) rfl ?_); refine goesL_ (some 8) rfl rfl Tryd.func37 (by kernel_rfl) rfl #[.string a0] rfl Ga_ ?_; (with_reducible refine (num_Int.calls a0 t101 false _ A2.out ?side1).mono ?_); (case side1 => first | exact hG | exact Glob.below hG Bl_); rintro e w9 ⟨rfl, hb⟩; refine ⟨_, rfl, ?_⟩; replace HB := Bs_ hb; (try clear hb); (try clear hb2); (try clear hk); (try clear hi)))
    go_ret2
    exact ⟨Re_, Bl_⟩
/-! ### val_All: function 65 -/
def val_All.l0 : Nat → List Int → List ByteArray → Int → Int → Option (List Int × Int)
  | 0, _, _, _, _ => none
  | k + 1, x4, x10, x11, x12 => if x12 < x11 then (if 0 ≤ x12 then (if x12 < (x10.length : Int) then ((val_one.f (rdOf ByteArray.empty x10 x12)).bind fun bt103 => (if bt103.2 = 0 then (if x4.length < 17592186044416 then (val_All.l0 k (x4 ++ [bt103.1]) x10 x11 (wrap64 (x12 + 1))) else (none)) else (some (([] : List Int), bt103.2)))) else (none)) else (none)) else (some (x4, 0))
def val_All.f (k : Nat) (l0_0 : List Int) (l0_1 : List ByteArray) : Option (List Int × Int) := val_All.l0 k ([] : List Int) l0_1 (l0_1.length : Int) 0
set_option maxHeartbeats 8000000 in
set_option maxRecDepth 100000 in
theorem val_All.calls (k : Nat) (A0_0 : Option Addr) (c0_0 : Nat) (l0_0 : List Int) (A0_1 : Option Addr) (c0_1 : Nat) (l0_1 : List ByteArray) (r1 : List Int) (r2 : Int) (w : World) (hr0_0 : Kd.C (Kd.int .i64) w A0_0 l0_0.length l0_0) (hc0_0 : l0_0.length ≤ c0_0) (hr0_1 : Kd.C Kd.string w A0_1 l0_1.length l0_1) (hc0_1 : l0_1.length ≤ c0_1) (h : val_All.f k l0_0 l0_1 = some (r1, r2)) (hG : Glob w) :
    Calls Tryd.prog 65 #[.agg #[.slice A0_0 l0_0.length c0_0, .slice A0_1 l0_1.length c0_1]] w fun e w' => ∃ v0_ : Value, e = .returned (.tuple #[v0_, .int .i64 r2]) ∧ Kd.R (Kd.int .i64) 3 w' w.heap.size (fun _ => True) v0_ r1 ∧ Below w.heap.size w w' := by
  have hu25 := Tryd.underlying25
  have HR0_0 := Aside0.mk hr0_0
  have HC0_0 := Aside0.mk hc0_0
  clear hr0_0 hc0_0
  have HR0_1 := Aside0.mk hr0_1
  have HC0_1 := Aside0.mk hc0_1
  clear hr0_1 hc0_1
  have HB := Aside0.mk (Below.refl w.heap.size w)
  have H : (val_All.l0 k ([] : List Int) l0_1 (l0_1.length : Int) 0) = some (r1, r2) := h
  clear h
  have H' := Aside0.mk H
  clear H
  go_enter Tryd.func65, Tryd.ntmps65
  go_wp2_with (first | ((with_reducible refine gate_dst (N := 1) rfl ?_); refine bx_ 1 #[.slice A0_0 l0_0.length c0_0, .slice A0_1 l0_1.length c0_1] 25 ?_; intro gb101 hg w2 hbox hb; have BK101 := Aside0.mk (hbox); have GW101 := (Bg_ hg : Aside0 (w.heap.size ≤ gb101)); have GE101 := (Bg_ hg : Aside0 (w.heap.size ≤ gb101)); replace HB := Bs_ hb; clear hb hbox hg; obtain ⟨hcz3_0, hcz3_1⟩ := c2_ BK101; obtain ⟨hfz3_0, hfz3_1⟩ := f2_ BK101))
  go_loopg [4, 12] k (fun kq v4 v12 w' => ∃ (x4_1 : List Int) (x12_1 : Int), v12 = .int .i64 x12_1 ∧ Aside0 (val_All.l0 kq x4_1 l0_1 (l0_1.length : Int) x12_1 = some (r1, r2)) ∧ Aside0 (kq ≤ k) ∧ Aside0 (Kd.R (Kd.int .i64) 3 w' w.heap.size (fun _ => True) v4 x4_1) ∧ Aside0 (w'.heap[gb101]? = some (.cells #[(.slice A0_0 l0_0.length c0_0), (.slice A0_1 l0_1.length c0_1)] 25 (0, 0))) ∧ Aside0 (Below w.heap.size w w'))
  case atStart => exact ⟨(([] : List Int)), (0), Rf_, H', ⟨Nat.le_refl _⟩, ⟨by first | exact Kd.R_nil _ _ _ _ _ | exact Kd.N_nil _ _ _ _ _ | exact Kd.V_nil _ _ _ _ _ | exact Kd.Q_nil _ _ _ _ _ | exact Kd.S_nil _ _ _ _ _⟩, ⟨by (with_reducible repeat (first | refine blk_drewN ?_ _ | refine blk_drew ?_ | refine blk_alloc ?_ _)); exact BK101.out⟩, ⟨Bl_⟩⟩
  case round =>
    clear H'
    try clear p2
    try clear hcz3_0
    try clear hcz3_1
    try clear hfz3_0
    try clear hfz3_1
    obtain ⟨x4_1, x12_1, rfl, HA, HK1, HO_4, BK101, HB⟩ := hrel
    cases gk with
    | zero => exact absurd HA.out (by simp [val_All.l0])
    | succ k1 =>
      have H := HA.out
      clear HA
      simp only [val_All.l0] at H
      by_cases c4 : x12_1 < (l0_1.length : Int)
      · rw [if_pos c4] at H
        have c4b0 : decide (x12_1 < (l0_1.length : Int)) = true := decide_eq_true c4
        clear c4
        by_cases c5 : 0 ≤ x12_1
        · rw [if_pos c5] at H
          have c5b0 : decide (0 ≤ x12_1) = true := decide_eq_true c5
          clear c5
          by_cases c6 : x12_1 < (l0_1.length : Int)
          · rw [if_pos c6] at H
            have c6b0 : decide (x12_1 < (l0_1.length : Int)) = true := decide_eq_true c6
            clear c6
            obtain ⟨⟨t103, t104⟩, A7, H⟩ := bnd_ H
            try dsimp -simprocs only at H
            by_cases c8 : t104 = 0
            · rw [if_pos c8] at H
              have c8b0 : (t104 == 0) = true := beq_iff_eq.mpr c8
              have c8b1 : (t104 != 0) = false := bne_eq_false_iff_eq.mpr c8
              clear c8
              by_cases c9 : x4_1.length < 17592186044416
              · rw [if_pos c9] at H
                have LMc9 := Aside0.mk c9
                clear c9
                obtain ⟨y105, hy105⟩ : ∃ y_ : List Int, y_ = (x4_1 ++ [t103]) := ⟨_, rfl⟩
                replace H : (val_All.l0 k1 y105 l0_1 (l0_1.length : Int) (wrap64 (x12_1 + 1))) = some (r1, r2) := by first | (rw [hy105]; with_reducible exact H) | (have H2_ := (Option.bind_some _ _).symm.trans H; rw [hy105]; with_reducible exact H2_) | (have H2_ := (Option.bind_some _ _).symm.trans H; with_reducible exact H2_) | with_reducible exact H | (rw [hy105]; exact H) | exact H
                have Ny105 := Aside0.mk hy105
                clear hy105
                have H' := Aside0.mk H
                clear H
                have p102 : 0 ≤ (x12_1 : Int) := of_decide_eq_true As_
                have q102 : x12_1 < (l0_1.length : Int) := of_decide_eq_true As_
                obtain ⟨ad102, e102, hx102_0⟩ := Kd.at_string HR0_1.out x12_1 p102 q102
                cases e102
                replace hx102_0 := (HB.out.cell (World.block_lt_of_cell? w _ hx102_0)).trans hx102_0
                replace p102 := eq_true p102
                replace q102 := eq_true q102
                go_wp2_with (first | ((with_reducible refine gate_callee (f := 86) rfl ?_); refine goesL_ (some 18) rfl rfl Tryd.func86 (by kernel_rfl) rfl #[.string (rdOf ByteArray.empty l0_1 x12_1)] rfl Ga_ ?_; (with_reducible refine (val_one.calls (rdOf ByteArray.empty l0_1 x12_1) t103 t104 _ A7.out ?side1).mono ?_); (case side1 => first | exact hG | exact Glob.below hG Bl_); rintro e w10 ⟨rfl, hb⟩; refine ⟨_, rfl, ?_⟩; replace HO_4 := Aside0.mk (Kd.R_below (Pr_ HO_4.out) hb); replace BK101 := kb_ BK101 hb; replace HB := Bs_ hb; (try clear hb); (try clear hb2); (try clear hk); (try clear hi)) | ((with_reducible refine gate_builtin (b := .append) (xs := #[.tmp 24, .tmp 26]) rfl ?_); at_builtin; refine Kd.R_append (Kd.int .i64) (w0 := w) w.heap.size rfl (.tmp 24) (.tmp 26) 22 3 (.int .i64 0) 8 rfl Tryd.underlying22 info3 rfl (by decide) (by omega) u4 x4_1 t103 [.int .i64 t103] (fun _ => True) (fun _ => False) rfl rfl ?aP (fun _ hk => hk.elim) ?aF ?aO ?aB ?aS ?aL ?_; (case aP => exact rfl); (case aB => exact Bl_); (case aF => exact (fun _ _ => trivial)); (case aO => exact (Pr_ HO_4.out)); (case aS => exact Bz_); (case aL => have := LMc9.out; omega); intro v106 w11 ho hb hg hat; rw [← Ny105.out] at ho; replace BK101 := kg_ BK101 hg (Kd.R_ne HO_4.out BK101.out (by decide)); replace HB := Aside0.mk (hb); have HO107 := Aside0.mk (ho); clear HO_4; clear ho hb hg hat))
                go_roundg k1
                case measure => have := HK1.out; omega
                case rel => exact ⟨(y105), (wrap64 (x12_1 + 1)), Rf_, H', ⟨by have := HK1.out; omega⟩, ⟨by (with_reducible repeat (first | apply Kd.R_alloc | apply Kd.R_drewN | apply Kd.R_drew)); exact HO107.out⟩, ⟨by (with_reducible repeat (first | refine blk_drewN ?_ _ | refine blk_drew ?_ | refine blk_alloc ?_ _)); exact BK101.out⟩, ⟨Bl_⟩⟩
              · rw [if_neg c9] at H
                exact absurd H (by simp)
            · rw [if_neg c8] at H
              have c8b0 : (t104 == 0) = false := beq_eq_false_iff_ne.mpr c8
              have c8b1 : (t104 != 0) = true := bne_iff_ne.mpr c8
              simp only [Option.some.injEq, Prod.mk.injEq] at H
              obtain ⟨rfl, rfl⟩ := H
              have p102 : 0 ≤ (x12_1 : Int) := of_decide_eq_true As_
              have q102 : x12_1 < (l0_1.length : Int) := of_decide_eq_true As_
              obtain ⟨ad102, e102, hx102_0⟩ := Kd.at_string HR0_1.out x12_1 p102 q102
              cases e102
              replace hx102_0 := (HB.out.cell (World.block_lt_of_cell? w _ hx102_0)).trans hx102_0
              replace p102 := eq_true p102
              replace q102 := eq_true q102
              go_wp2_with (first | ((with_reducible refine gate_callee (f := 86) rfl ?_); refine goesL_ (some 18) rfl rfl Tryd.func86 (by kernel_rfl) rfl #[.string (rdOf ByteArray.empty l0_1 x12_1)] rfl Ga_ ?_; (with_reducible refine (val_one.calls (rdOf ByteArray.empty l0_1 x12_1) t103 t104 _ A7.out ?side1).mono ?_); (case side1 => first | exact hG | exact Glob.below hG Bl_); rintro e w12 ⟨rfl, hb⟩; refine ⟨_, rfl, ?_⟩; replace HO_4 := Aside0.mk (Kd.R_below (Pr_ HO_4.out) hb); replace BK101 := kb_ BK101 hb; replace HB := Bs_ hb; (try clear hb); (try clear hb2); (try clear hk); (try clear hi)))
              go_ret2
              exact ⟨_, Re_, by first | exact Kd.R_nil _ _ _ _ _ | exact Kd.N_nil _ _ _ _ _ | exact Kd.V_nil _ _ _ _ _ | exact Kd.Q_nil _ _ _ _ _ | exact Kd.S_nil _ _ _ _ _, Bl_⟩
          · rw [if_neg c6] at H
            exact absurd H (by simp)
        · rw [if_neg c5] at H
          exact absurd H (by simp)
      · rw [if_neg c4] at H
        have c4b0 : decide (x12_1 < (l0_1.length : Int)) = false := decide_eq_false c4
        clear c4
        simp only [Option.some.injEq, Prod.mk.injEq] at H
        obtain ⟨rfl, rfl⟩ := H
        go_wp2
        go_ret2
        exact ⟨_, Re_, by (with_reducible repeat (first | apply Kd.R_alloc | apply Kd.R_drewN | apply Kd.R_drew)); exact HO_4.out, Bl_⟩
/-! ### mould_Reshape: function 30 -/
mutual
def mould_Reshape.j0 : Nat → List Int → Int → List Int → List ByteArray → Option (List Int × List ByteArray × Int)
  | 0, _, _, _, _ => none
  | k + 1, x6, x8, x103000, x103001 => mould_Reshape.l0 k x8 0 x103000 x103001 x6 ([] : List ByteArray)
def mould_Reshape.l0 : Nat → Int → Int → List Int → List ByteArray → List Int → List ByteArray → Option (List Int × List ByteArray × Int)
  | 0, _, _, _, _, _, _ => none
  | k + 1, x55, x56, x103000, x103001, x115000, x115001 => if x56 < x55 then (if (x103001.length : Int) = 0 then (none) else (if 0 ≤ (Int.tmod x56 (x103001.length : Int)) then (if (Int.tmod x56 (x103001.length : Int)) < (x103001.length : Int) then (if x115001.length < 8796093022208 then (mould_Reshape.l0 k x55 (wrap64 (x56 + 1)) x103000 x103001 x115000 (x115001 ++ [rdOf ByteArray.empty x103001 (Int.tmod x56 (x103001.length : Int))])) else (none)) else (none)) else (none))) else (some (x115000, x115001, 0))
end
def mould_Reshape.f (k : Nat) (l0_0 : List Int) (l0_1 : List ByteArray) (l1_0 : List Int) (l1_1 : List ByteArray) : Option (List Int × List ByteArray × Int) := (mould_fine.f k (([(⟨l0_0, l0_1⟩ : S25), (⟨l1_0, l1_1⟩ : S25)] : List (S25)))).bind fun t107 => (if t107 = true then (if (l0_0.length : Int) > 1 then (some (([] : List Int), ([] : List ByteArray), 3)) else ((val_All.f k l0_0 l0_1).bind fun bt108 => (if bt108.2 = 0 then ((shape_Size.f k bt108.1).bind fun bt112 => (if bt112.2 = 0 then (if bt112.1 > 0 then (if (l1_1.length : Int) = 0 then (some (([] : List Int), ([] : List ByteArray), 5)) else (mould_Reshape.j0 k bt108.1 bt112.1 l1_0 l1_1)) else (mould_Reshape.j0 k bt108.1 bt112.1 l1_0 l1_1)) else (some (([] : List Int), ([] : List ByteArray), bt112.2)))) else (some (([] : List Int), ([] : List ByteArray), bt108.2))))) else (some (([] : List Int), ([] : List ByteArray), 1)))
def mould_Reshape.T17 : Bool × List (List Nat × List Nat) := (true, [([], []), ([0], [0]), ([], []), ([2], [2]), ([], []), ([], []), ([5], [5]), ([6], [6]), ([4, 7], [4, 7]), ([3, 8], [3, 8]), ([9], [9]), ([10], [10]), ([1, 11], [1, 11]), ([0, 1, 2, 3, 4, 5, 6, 7, 8, 9, 10, 11, 12], []), ([13, 12, 12, 0, 1, 2, 3, 4, 5, 6, 7, 8, 9, 10, 11, 12], [12, 13])])
def mould_Reshape.B17 : List Nat := [0, 1, 0, 4, 0, 0, 32, 96, 240, 508, 1020, 2044, 4095, 8191, 16383]
theorem mould_Reshape.tab17 : rtab .any (opsOf Tryd.f30 17) = mould_Reshape.T17 := by kernel_rfl
theorem mould_Reshape.bits17 : waitsOk mould_Reshape.T17.2 mould_Reshape.B17 = true := by kernel_rfl
set_option maxHeartbeats 8000000 in
set_option maxRecDepth 100000 in
theorem mould_Reshape.calls (k : Nat) (P0_0_ : Nat → Prop) (A0_0 : Option Addr) (c0_0 : Nat) (l0_0 : List Int) (P0_1_ : Nat → Prop) (A0_1 : Option Addr) (c0_1 : Nat) (l0_1 : List ByteArray) (P1_0_ : Nat → Prop) (A1_0 : Option Addr) (c1_0 : Nat) (l1_0 : List Int) (P1_1_ : Nat → Prop) (A1_1 : Option Addr) (c1_1 : Nat) (l1_1 : List ByteArray) (r1 : List Int) (r2 : List ByteArray) (r3 : Int) (w : World) (hs0_0 : Kd.V (Kd.int .i64) 3 w w.heap.size (fun k_ => P0_0_ k_) (.slice A0_0 l0_0.length c0_0) l0_0) (hs0_1 : Kd.V Kd.string 9 w w.heap.size (fun k_ => P0_1_ k_) (.slice A0_1 l0_1.length c0_1) l0_1) (hs1_0 : Kd.V (Kd.int .i64) 3 w w.heap.size (fun k_ => P1_0_ k_) (.slice A1_0 l1_0.length c1_0) l1_0) (hs1_1 : Kd.V Kd.string 9 w w.heap.size (fun k_ => P1_1_ k_) (.slice A1_1 l1_1.length c1_1) l1_1) (h : mould_Reshape.f k l0_0 l0_1 l1_0 l1_1 = some (r1, r2, r3)) (hG : Glob w) :
    Calls Tryd.prog 30 #[.agg #[.slice A0_0 l0_0.length c0_0, .slice A0_1 l0_1.length c0_1], .agg #[.slice A1_0 l1_0.length c1_0, .slice A1_1 l1_1.length c1_1]] w fun e w' => ∃ v0_ v1_ : Value, e = .returned (.tuple #[.agg #[v0_, v1_], .int .i64 r3]) ∧ Kd.R (Kd.int .i64) 3 w' w.heap.size (fun k_ => (w.heap.size ≤ k_)) v0_ r1 ∧ Kd.R Kd.string 9 w' w.heap.size (fun k_ => (w.heap.size ≤ k_)) v1_ r2 ∧ Below w.heap.size w w' := by
  have hu25 := Tryd.underlying25
  have HO0_0 := Aside0.mk (show Kd.V (Kd.int .i64) 3 w w.heap.size (fun k_ => ((P0_0_ k_ ∨ P0_1_ k_ ∨ P1_0_ k_ ∨ P1_1_ k_) ∨ w.heap.size ≤ k_)) (.slice A0_0 l0_0.length c0_0) l0_0 from Kd.V_mono hs0_0 (fun k_ hk => .inl (.inl hk)))
  have HO0_1 := Aside0.mk (show Kd.V Kd.string 9 w w.heap.size (fun k_ => ((P0_0_ k_ ∨ P0_1_ k_ ∨ P1_0_ k_ ∨ P1_1_ k_) ∨ w.heap.size ≤ k_)) (.slice A0_1 l0_1.length c0_1) l0_1 from Kd.V_mono hs0_1 (fun k_ hk => .inl (.inr (.inl hk))))
  have HO1_0 := Aside0.mk (show Kd.V (Kd.int .i64) 3 w w.heap.size (fun k_ => ((P0_0_ k_ ∨ P0_1_ k_ ∨ P1_0_ k_ ∨ P1_1_ k_) ∨ w.heap.size ≤ k_)) (.slice A1_0 l1_0.length c1_0) l1_0 from Kd.V_mono hs1_0 (fun k_ hk => .inl (.inr (.inr (.inl hk)))))
  have HO1_1 := Aside0.mk (show Kd.V Kd.string 9 w w.heap.size (fun k_ => ((P0_0_ k_ ∨ P0_1_ k_ ∨ P1_0_ k_ ∨ P1_1_ k_) ∨ w.heap.size ≤ k_)) (.slice A1_1 l1_1.length c1_1) l1_1 from Kd.V_mono hs1_1 (fun k_ hk => .inl (.inr (.inr (.inr hk)))))
  have HB := Aside0.mk (Below.refl w.heap.size w)
  have H : ((mould_fine.f k (([(⟨l0_0, l0_1⟩ : S25), (⟨l1_0, l1_1⟩ : S25)] : List (S25)))).bind fun t107 => (if t107 = true then (if (l0_0.length : Int) > 1 then (some (([] : List Int), ([] : List ByteArray), 3)) else ((val_All.f k l0_0 l0_1).bind fun bt108 => (if bt108.2 = 0 then ((shape_Size.f k bt108.1).bind fun bt112 => (if bt112.2 = 0 then (if bt112.1 > 0 then (if (l1_1.length : Int) = 0 then (some (([] : List Int), ([] : List ByteArray), 5)) else (mould_Reshape.j0 k bt108.1 bt112.1 l1_0 l1_1)) else (mould_Reshape.j0 k bt108.1 bt112.1 l1_0 l1_1)) else (some (([] : List Int), ([] : List ByteArray), bt112.2)))) else (some (([] : List Int), ([] : List ByteArray), bt108.2))))) else (some (([] : List Int), ([] : List ByteArray), 1)))) = some (r1, r2, r3) := h
  clear h
  obtain ⟨y104, hy104⟩ : ∃ y_ : List (S25), y_ = (([(⟨l0_0, l0_1⟩ : S25), (⟨l1_0, l1_1⟩ : S25)] : List (S25))) := ⟨_, rfl⟩
  replace H : ((mould_fine.f k y104).bind fun t107 => (if t107 = true then (if (l0_0.length : Int) > 1 then (some (([] : List Int), ([] : List ByteArray), 3)) else ((val_All.f k l0_0 l0_1).bind fun bt108 => (if bt108.2 = 0 then ((shape_Size.f k bt108.1).bind fun bt112 => (if bt112.2 = 0 then (if bt112.1 > 0 then (if (l1_1.length : Int) = 0 then (some (([] : List Int), ([] : List ByteArray), 5)) else (mould_Reshape.j0 k bt108.1 bt112.1 l1_0 l1_1)) else (mould_Reshape.j0 k bt108.1 bt112.1 l1_0 l1_1)) else (some (([] : List Int), ([] : List ByteArray), bt112.2)))) else (some (([] : List Int), ([] : List ByteArray), bt108.2))))) else (some (([] : List Int), ([] : List ByteArray), 1)))) = some (r1, r2, r3) := by first | (rw [hy104]; with_reducible exact H) | (have H2_ := (Option.bind_some _ _).symm.trans H; rw [hy104]; with_reducible exact H2_) | (have H2_ := (Option.bind_some _ _).symm.trans H; with_reducible exact H2_) | with_reducible exact H | (rw [hy104]; exact H) | exact H
  have Ny104 := Aside0.mk hy104
  clear hy104
  obtain ⟨t107, A3, H⟩ := bnd_ H
  try dsimp -simprocs only at H
  by_cases c4 : t107 = true
  · subst c4
    have H1 : (if (l0_0.length : Int) > 1 then (some (([] : List Int), ([] : List ByteArray), 3)) else ((val_All.f k l0_0 l0_1).bind fun bt108 => (if bt108.2 = 0 then ((shape_Size.f k bt108.1).bind fun bt112 => (if bt112.2 = 0 then (if bt112.1 > 0 then (if (l1_1.length : Int) = 0 then (some (([] : List Int), ([] : List ByteArray), 5)) else (mould_Reshape.j0 k bt108.1 bt112.1 l1_0 l1_1)) else (mould_Reshape.j0 k bt108.1 bt112.1 l1_0 l1_1)) else (some (([] : List Int), ([] : List ByteArray), bt112.2)))) else (some (([] : List Int), ([] : List ByteArray), bt108.2))))) = some (r1, r2, r3) := by rw [if_pos rfl] at H; exact H
    clear H
    have H := H1
    clear H1
    by_cases c5 : (l0_0.length : Int) > 1
    · rw [if_pos c5] at H
      have c5b0 : decide (1 < (l0_0.length : Int)) = true := decide_eq_true c5
      have c5b1 : decide (1 < l0_0.length) = true := decide_eq_true (by omega)
      clear c5
      simp only [Option.some.injEq, Prod.mk.injEq] at H
      obtain ⟨rfl, rfl, rfl⟩ := H
      go_enter Tryd.func30, Tryd.ntmps30
      go_wp2_with (first | ((with_reducible refine gate_dst (N := 2) rfl ?_); (try (refine gate_guard (by rfl) ?_; dsimp only)); refine bx_ 2 #[.slice A0_0 l0_0.length c0_0, .slice A0_1 l0_1.length c0_1] 25 ?_; intro gb101 hg w6 hbox hb; replace HO0_0 := Aside0.mk (Kd.V_below (Kd.V_elderB (Pv_ HO0_0.out) gb101 (Nat.le_of_eq hg.symm)) hb); replace HO0_1 := Aside0.mk (Kd.V_below (Kd.V_elderB (Pv_ HO0_1.out) gb101 (Nat.le_of_eq hg.symm)) hb); replace HO1_0 := Aside0.mk (Kd.V_below (Kd.V_elderB (Pv_ HO1_0.out) gb101 (Nat.le_of_eq hg.symm)) hb); replace HO1_1 := Aside0.mk (Kd.V_below (Kd.V_elderB (Pv_ HO1_1.out) gb101 (Nat.le_of_eq hg.symm)) hb); have BK101 := Aside0.mk (hbox); have GW101 := (Bg_ hg : Aside0 (w.heap.size ≤ gb101)); have GE101 := (Bg_ hg : Aside0 (w.heap.size ≤ gb101)); replace HB := Bs_ hb; clear hb hbox hg) | ((with_reducible refine gate_dst (N := 3) rfl ?_); (try (refine gate_guard (by rfl) ?_; dsimp only)); refine bx_ 3 #[.slice A1_0 l1_0.length c1_0, .slice A1_1 l1_1.length c1_1] 25 ?_; intro gb102 hg w7 hbox hb; replace HO0_0 := Aside0.mk (Kd.V_below (Kd.V_elderB (Pv_ HO0_0.out) gb102 (Nat.le_of_eq hg.symm)) hb); replace HO0_1 := Aside0.mk (Kd.V_below (Kd.V_elderB (Pv_ HO0_1.out) gb102 (Nat.le_of_eq hg.symm)) hb); replace HO1_0 := Aside0.mk (Kd.V_below (Kd.V_elderB (Pv_ HO1_0.out) gb102 (Nat.le_of_eq hg.symm)) hb); replace HO1_1 := Aside0.mk (Kd.V_below (Kd.V_elderB (Pv_ HO1_1.out) gb102 (Nat.le_of_eq hg.symm)) hb); have BK102 := Aside0.mk (hbox); have GW102 := (Bg_ hg : Aside0 (w.heap.size ≤ gb102)); have GE102 := (Bg_ hg : Aside0 (w.heap.size ≤ gb102)); replace HB := Bs_ hb; have NB101_102 := nl_ hg BK101; have NB102_101 := ng_ hg BK101; replace BK101 := kb_ BK101 hb; clear hb hbox hg) | ((with_reducible refine gate_dst (N := 4) rfl ?_); (try (refine gate_guard (by rfl) ?_; dsimp only)); refine bx_ 4 #[.slice none 0 0, .slice none 0 0] 25 ?_; intro gb103 hg w8 hbox hb; replace HO0_0 := Aside0.mk (Kd.V_below (Kd.V_elderB (Pv_ HO0_0.out) gb103 (Nat.le_of_eq hg.symm)) hb); replace HO0_1 := Aside0.mk (Kd.V_below (Kd.V_elderB (Pv_ HO0_1.out) gb103 (Nat.le_of_eq hg.symm)) hb); replace HO1_0 := Aside0.mk (Kd.V_below (Kd.V_elderB (Pv_ HO1_0.out) gb103 (Nat.le_of_eq hg.symm)) hb); replace HO1_1 := Aside0.mk (Kd.V_below (Kd.V_elderB (Pv_ HO1_1.out) gb103 (Nat.le_of_eq hg.symm)) hb); have BK103 := Aside0.mk (hbox); have GW103 := (Bg_ hg : Aside0 (w.heap.size ≤ gb103)); have GE103 := (Bg_ hg : Aside0 (w.heap.size ≤ gb103)); replace HB := Bs_ hb; have NB101_103 := nl_ hg BK101; have NB103_101 := ng_ hg BK101; replace BK101 := kb_ BK101 hb; have NB102_103 := nl_ hg BK102; have NB103_102 := ng_ hg BK102; replace BK102 := kb_ BK102 hb; clear hb hbox hg; have hnb9 := NB101_102.out; have hnc9 := NB102_101.out; have hnb10 := NB101_103.out; have hnc10 := NB103_101.out; obtain ⟨hcz11_0, hcz11_1⟩ := c2_ BK101; obtain ⟨hfz11_0, hfz11_1⟩ := f2_ BK101; have hnb12 := NB102_103.out; have hnc12 := NB103_102.out; obtain ⟨hcz13_0, hcz13_1⟩ := c2_ BK102; obtain ⟨hfz13_0, hfz13_1⟩ := f2_ BK102) | ((with_reducible refine gate_dst (N := 14) rfl ?_); (try (refine gate_guard (by rfl) ?_; dsimp only)); refine Kd.N_lit k25 _ 25 ?hg (N' := 14) ?hd (xs := ([(⟨l0_0, l0_1⟩ : S25), (⟨l1_0, l1_1⟩ : S25)] : List (S25))) (inner := [.slice A0_0 l0_0.length c0_0, .slice A0_1 l0_1.length c0_1, .slice A1_0 l1_0.length c1_0, .slice A1_1 l1_1.length c1_1]) (ok := (fun k_ => ((P0_0_ k_ ∨ P0_1_ k_ ∨ P1_0_ k_ ∨ P1_1_ k_) ∨ w.heap.size ≤ k_) ∧ k_ ≠ gb101 ∧ k_ ≠ gb102 ∧ k_ ≠ gb103)) (okp := (fun k_ => ((P0_0_ k_ ∨ P0_1_ k_ ∨ P1_0_ k_ ∨ P1_1_ k_) ∨ w.heap.size ≤ k_) ∧ k_ ≠ gb101 ∧ k_ ≠ gb102 ∧ k_ ≠ gb103)) ?hr ?hp (fun _ hk => hk) ((show ∀ k_, w8.heap.size ≤ k_ → (fun k_ => ((P0_0_ k_ ∨ P0_1_ k_ ∨ P1_0_ k_ ∨ P1_1_ k_) ∨ w.heap.size ≤ k_) ∧ k_ ≠ gb101 ∧ k_ ≠ gb102 ∧ k_ ≠ gb103) k_ from fun k_ hk => ⟨(.inr (Nat.le_trans Bz_ hk)), Kd.freshB (g := gb101) (o := .cells #[.slice A0_0 l0_0.length c0_0, .slice A0_1 l0_1.length c0_1] 25 (0, 0)) (Bk_ BK101.out) k_ hk, Kd.freshB (g := gb102) (o := .cells #[.slice A1_0 l1_0.length c1_0, .slice A1_1 l1_1.length c1_1] 25 (0, 0)) (Bk_ BK102.out) k_ hk, Kd.freshB (g := gb103) (o := .cells #[.slice none 0 0, .slice none 0 0] 25 (0, 0)) (Bk_ BK103.out) k_ hk⟩) _ (Nat.le_refl _)) (Below.refl _ _) (Nat.le_refl _) (by simp) ?_; (case hd => rfl); (case hg => rfl); (case hr => first | (go_simp; done) | (go_simp; rfl)); (case hp => exact (Reps.c2 (show Kd.FK k25 _ _ (⟨l0_0, l0_1⟩ : S25) [.slice A0_0 l0_0.length c0_0, .slice A0_1 l0_1.length c0_1] from (k25_mkF _ _ (⟨l0_0, l0_1⟩ : S25) (Kd.V_reads' (Kd.V_mono (ok' := (fun k_ => ((P0_0_ k_ ∨ P0_1_ k_ ∨ P1_0_ k_ ∨ P1_1_ k_) ∨ w.heap.size ≤ k_) ∧ k_ ≠ gb101 ∧ k_ ≠ gb102 ∧ k_ ≠ gb103)) (HO0_0.out) (fun k_ hk => ⟨hk.1.1.1, ⟨hk.1.1.2, ⟨hk.1.2, hk.2⟩⟩⟩))).2.1 (Kd.V_F (Kd.V_mono (ok' := (fun k_ => ((P0_0_ k_ ∨ P0_1_ k_ ∨ P1_0_ k_ ∨ P1_1_ k_) ∨ w.heap.size ≤ k_) ∧ k_ ≠ gb101 ∧ k_ ≠ gb102 ∧ k_ ≠ gb103)) (HO0_0.out) (fun k_ hk => ⟨hk.1.1.1, ⟨hk.1.1.2, ⟨hk.1.2, hk.2⟩⟩⟩))) (Kd.V_reads' (Kd.V_mono (ok' := (fun k_ => ((P0_0_ k_ ∨ P0_1_ k_ ∨ P1_0_ k_ ∨ P1_1_ k_) ∨ w.heap.size ≤ k_) ∧ k_ ≠ gb101 ∧ k_ ≠ gb102 ∧ k_ ≠ gb103)) (HO0_1.out) (fun k_ hk => ⟨hk.1.1.1, ⟨hk.1.1.2, ⟨hk.1.2, hk.2⟩⟩⟩))).2.1 (Kd.V_F (Kd.V_mono (ok' := (fun k_ => ((P0_0_ k_ ∨ P0_1_ k_ ∨ P1_0_ k_ ∨ P1_1_ k_) ∨ w.heap.size ≤ k_) ∧ k_ ≠ gb101 ∧ k_ ≠ gb102 ∧ k_ ≠ gb103)) (HO0_1.out) (fun k_ hk => ⟨hk.1.1.1, ⟨hk.1.1.2, ⟨hk.1.2, hk.2⟩⟩⟩))))) (Reps.c2 (show Kd.FK k25 _ _ (⟨l1_0, l1_1⟩ : S25) [.slice A1_0 l1_0.length c1_0, .slice A1_1 l1_1.length c1_1] from (k25_mkF _ _ (⟨l1_0, l1_1⟩ : S25) (Kd.V_reads' (Kd.V_mono (ok' := (fun k_ => ((P0_0_ k_ ∨ P0_1_ k_ ∨ P1_0_ k_ ∨ P1_1_ k_) ∨ w.heap.size ≤ k_) ∧ k_ ≠ gb101 ∧ k_ ≠ gb102 ∧ k_ ≠ gb103)) (HO1_0.out) (fun k_ hk => ⟨hk.1.1.1, ⟨hk.1.1.2, ⟨hk.1.2, hk.2⟩⟩⟩))).2.1 (Kd.V_F (Kd.V_mono (ok' := (fun k_ => ((P0_0_ k_ ∨ P0_1_ k_ ∨ P1_0_ k_ ∨ P1_1_ k_) ∨ w.heap.size ≤ k_) ∧ k_ ≠ gb101 ∧ k_ ≠ gb102 ∧ k_ ≠ gb103)) (HO1_0.out) (fun k_ hk => ⟨hk.1.1.1, ⟨hk.1.1.2, ⟨hk.1.2, hk.2⟩⟩⟩))) (Kd.V_reads' (Kd.V_mono (ok' := (fun k_ => ((P0_0_ k_ ∨ P0_1_ k_ ∨ P1_0_ k_ ∨ P1_1_ k_) ∨ w.heap.size ≤ k_) ∧ k_ ≠ gb101 ∧ k_ ≠ gb102 ∧ k_ ≠ gb103)) (HO1_1.out) (fun k_ hk => ⟨hk.1.1.1, ⟨hk.1.1.2, ⟨hk.1.2, hk.2⟩⟩⟩))).2.1 (Kd.V_F (Kd.V_mono (ok' := (fun k_ => ((P0_0_ k_ ∨ P0_1_ k_ ∨ P1_0_ k_ ∨ P1_1_ k_) ∨ w.heap.size ≤ k_) ∧ k_ ≠ gb101 ∧ k_ ≠ gb102 ∧ k_ ≠ gb103)) (HO1_1.out) (fun k_ hk => ⟨hk.1.1.1, ⟨hk.1.1.2, ⟨hk.1.2, hk.2⟩⟩⟩))))) (Reps.none _ _)))); intro v105 w14 ho15 hb hg_ hnew_; clear hg_ hnew_; (first | rw [← Ny104.out] at ho15 | (simp only [Int.reduceToNat] at ho15; rw [← Ny104.out] at ho15)); replace HO0_0 := Aside0.mk (Kd.V_elder' (Pv_ HO0_0.out) (Kd.N_base ho15) hb); replace HO0_1 := Aside0.mk (Kd.V_elder' (Pv_ HO0_1.out) (Kd.N_base ho15) hb); replace HO1_0 := Aside0.mk (Kd.V_elder' (Pv_ HO1_0.out) (Kd.N_base ho15) hb); replace HO1_1 := Aside0.mk (Kd.V_elder' (Pv_ HO1_1.out) (Kd.N_base ho15) hb); have HO106 := Aside0.mk (Kd.N_lower ho15 Bz_); replace BK101 := kb_ BK101 hb; replace BK102 := kb_ BK102 hb; replace BK103 := kb_ BK103 hb; replace HB := Bs_ hb; clear hb ho15; obtain ⟨Ao16, co16, eo16⟩ := Kd.N_slice HO106.out; subst eo16) | ((with_reducible refine gate_callee (f := 50) rfl ?_); refine goesL_ (some 15) rfl rfl Tryd.func50 (by kernel_rfl) rfl #[.slice Ao16 y104.length co16] rfl Ga_ ?_; (with_reducible refine (mould_fine.calls k _ _ y104 true _ ?side1 ?side2 A3.out).mono ?_); (case side1 => exact Pc_ ((Kd.N_reads' HO106.out).2.2)); (case side2 => exact (Kd.N_reads' HO106.out).2.1); rintro e w17 ⟨rfl, hb⟩; refine ⟨_, rfl, ?_⟩; replace HO0_0 := Aside0.mk (Kd.V_below (Pv_ HO0_0.out) hb); replace HO0_1 := Aside0.mk (Kd.V_below (Pv_ HO0_1.out) hb); replace HO1_0 := Aside0.mk (Kd.V_below (Pv_ HO1_0.out) hb); replace HO1_1 := Aside0.mk (Kd.V_below (Pv_ HO1_1.out) hb); replace HO106 := Aside0.mk (Kd.N_below (by (with_reducible repeat (first | apply Kd.N_alloc | apply Kd.N_drewN | apply Kd.N_drew)); exact HO106.out) hb); replace BK101 := kb_ BK101 hb; replace BK102 := kb_ BK102 hb; replace BK103 := kb_ BK103 hb; replace HB := Bs_ hb; (try clear hb); (try clear hb2); (try clear hk); (try clear hi); obtain ⟨hcz18_0, hcz18_1⟩ := c2_ BK101; obtain ⟨hfz18_0, hfz18_1⟩ := f2_ BK101; obtain ⟨hcz19_0, hcz19_1⟩ := c2_ BK103; obtain ⟨hfz19_0, hfz19_1⟩ := f2_ BK103))
      refine bodyPost_ret (results_ct rfl _ _ gb103 25 #[.slice none 0 0, .slice none 0 0] (0, 0) _ rfl (by (with_reducible repeat (first | refine blk_drewN ?_ _ | refine blk_drew ?_ | refine blk_alloc ?_ _)); refine blk_put (cs := #[.slice none 0 0, .slice none 0 0]) ?_ 1 _ rfl; (with_reducible repeat (first | refine blk_drewN ?_ _ | refine blk_drew ?_ | refine blk_alloc ?_ _)); refine blk_put (cs := #[.slice none 0 0, .slice none 0 0]) ?_ 0 _ rfl; (with_reducible repeat (first | refine blk_drewN ?_ _ | refine blk_drew ?_ | refine blk_alloc ?_ _)); exact BK103.out) Tryd.underlying25 rfl (by kernel_rfl)) rfl ?_
      exact ⟨_, _, Re_, by first | exact Kd.R_nil _ _ _ _ _ | exact Kd.N_nil _ _ _ _ _ | exact Kd.V_nil _ _ _ _ _ | exact Kd.Q_nil _ _ _ _ _ | exact Kd.S_nil _ _ _ _ _, by first | exact Kd.R_nil _ _ _ _ _ | exact Kd.N_nil _ _ _ _ _ | exact Kd.V_nil _ _ _ _ _ | exact Kd.Q_nil _ _ _ _ _ | exact Kd.S_nil _ _ _ _ _, Bl_⟩
    · rw [if_neg c5] at H
      have c5b0 : decide (1 < (l0_0.length : Int)) = false := decide_eq_false c5
      have c5b1 : decide (1 < l0_0.length) = false := decide_eq_false (by omega)
      clear c5
      obtain ⟨⟨t108, t111⟩, A20, H⟩ := bnd_ H
      try dsimp -simprocs only at H
      by_cases c21 : t111 = 0
      · rw [if_pos c21] at H
        have c21b0 : (t111 == 0) = true := beq_iff_eq.mpr c21
        have c21b1 : (t111 != 0) = false := bne_eq_false_iff_eq.mpr c21
        clear c21
        obtain ⟨⟨t112, t113⟩, A22, H⟩ := bnd_ H
        try dsimp -simprocs only at H
        have HC23 := Aside0.mk H
        clear H
        go_enter Tryd.func30, Tryd.ntmps30
        go_upto_block 1 with (first | ((with_reducible refine gate_dst (N := 2) rfl ?_); (try (refine gate_guard (by rfl) ?_; dsimp only)); refine bx_ 2 #[.slice A0_0 l0_0.length c0_0, .slice A0_1 l0_1.length c0_1] 25 ?_; intro gb101 hg w24 hbox hb; replace HO0_0 := Aside0.mk (Kd.V_below (Kd.V_elderB (Pv_ HO0_0.out) gb101 (Nat.le_of_eq hg.symm)) hb); replace HO0_1 := Aside0.mk (Kd.V_below (Kd.V_elderB (Pv_ HO0_1.out) gb101 (Nat.le_of_eq hg.symm)) hb); replace HO1_0 := Aside0.mk (Kd.V_below (Kd.V_elderB (Pv_ HO1_0.out) gb101 (Nat.le_of_eq hg.symm)) hb); replace HO1_1 := Aside0.mk (Kd.V_below (Kd.V_elderB (Pv_ HO1_1.out) gb101 (Nat.le_of_eq hg.symm)) hb); have BK101 := Aside0.mk (hbox); have GW101 := (Bg_ hg : Aside0 (w.heap.size ≤ gb101)); have GE101 := (Bg_ hg : Aside0 (w.heap.size ≤ gb101)); replace HB := Bs_ hb; clear hb hbox hg) | ((with_reducible refine gate_dst (N := 3) rfl ?_); (try (refine gate_guard (by rfl) ?_; dsimp only)); refine bx_ 3 #[.slice A1_0 l1_0.length c1_0, .slice A1_1 l1_1.length c1_1] 25 ?_; intro gb102 hg w25 hbox hb; replace HO0_0 := Aside0.mk (Kd.V_below (Kd.V_elderB (Pv_ HO0_0.out) gb102 (Nat.le_of_eq hg.symm)) hb); replace HO0_1 := Aside0.mk (Kd.V_below (Kd.V_elderB (Pv_ HO0_1.out) gb102 (Nat.le_of_eq hg.symm)) hb); replace HO1_0 := Aside0.mk (Kd.V_below (Kd.V_elderB (Pv_ HO1_0.out) gb102 (Nat.le_of_eq hg.symm)) hb); replace HO1_1 := Aside0.mk (Kd.V_below (Kd.V_elderB (Pv_ HO1_1.out) gb102 (Nat.le_of_eq hg.symm)) hb); have BK102 := Aside0.mk (hbox); have GW102 := (Bg_ hg : Aside0 (w.heap.size ≤ gb102)); have GE102 := (Bg_ hg : Aside0 (w.heap.size ≤ gb102)); replace HB := Bs_ hb; have NB101_102 := nl_ hg BK101; have NB102_101 := ng_ hg BK101; replace BK101 := kb_ BK101 hb; clear hb hbox hg) | ((with_reducible refine gate_dst (N := 4) rfl ?_); (try (refine gate_guard (by rfl) ?_; dsimp only)); refine bx_ 4 #[.slice none 0 0, .slice none 0 0] 25 ?_; intro gb103 hg w26 hbox hb; replace HO0_0 := Aside0.mk (Kd.V_below (Kd.V_elderB (Pv_ HO0_0.out) gb103 (Nat.le_of_eq hg.symm)) hb); replace HO0_1 := Aside0.mk (Kd.V_below (Kd.V_elderB (Pv_ HO0_1.out) gb103 (Nat.le_of_eq hg.symm)) hb); replace HO1_0 := Aside0.mk (Kd.V_below (Kd.V_elderB (Pv_ HO1_0.out) gb103 (Nat.le_of_eq hg.symm)) hb); replace HO1_1 := Aside0.mk (Kd.V_below (Kd.V_elderB (Pv_ HO1_1.out) gb103 (Nat.le_of_eq hg.symm)) hb); have BK103 := Aside0.mk (hbox); have GW103 := (Bg_ hg : Aside0 (w.heap.size ≤ gb103)); have GE103 := (Bg_ hg : Aside0 (w.heap.size ≤ gb103)); replace HB := Bs_ hb; have NB101_103 := nl_ hg BK101; have NB103_101 := ng_ hg BK101; replace BK101 := kb_ BK101 hb; have NB102_103 := nl_ hg BK102; have NB103_102 := ng_ hg BK102; replace BK102 := kb_ BK102 hb; clear hb hbox hg; have hnb27 := NB101_102.out; have hnc27 := NB102_101.out; have hnb28 := NB101_103.out; have hnc28 := NB103_101.out; obtain ⟨hcz29_0, hcz29_1⟩ := c2_ BK101; obtain ⟨hfz29_0, hfz29_1⟩ := f2_ BK101; have hnb30 := NB102_103.out; have hnc30 := NB103_102.out; obtain ⟨hcz31_0, hcz31_1⟩ := c2_ BK102; obtain ⟨hfz31_0, hfz31_1⟩ := f2_ BK102) | ((with_reducible refine gate_dst (N := 14) rfl ?_); (try (refine gate_guard (by rfl) ?_; dsimp only)); refine Kd.N_lit k25 _ 25 ?hg (N' := 14) ?hd (xs := ([(⟨l0_0, l0_1⟩ : S25), (⟨l1_0, l1_1⟩ : S25)] : List (S25))) (inner := [.slice A0_0 l0_0.length c0_0, .slice A0_1 l0_1.length c0_1, .slice A1_0 l1_0.length c1_0, .slice A1_1 l1_1.length c1_1]) (ok := (fun k_ => ((P0_0_ k_ ∨ P0_1_ k_ ∨ P1_0_ k_ ∨ P1_1_ k_) ∨ w.heap.size ≤ k_) ∧ k_ ≠ gb101 ∧ k_ ≠ gb102 ∧ k_ ≠ gb103)) (okp := (fun k_ => ((P0_0_ k_ ∨ P0_1_ k_ ∨ P1_0_ k_ ∨ P1_1_ k_) ∨ w.heap.size ≤ k_) ∧ k_ ≠ gb101 ∧ k_ ≠ gb102 ∧ k_ ≠ gb103)) ?hr ?hp (fun _ hk => hk) ((show ∀ k_, w26.heap.size ≤ k_ → (fun k_ => ((P0_0_ k_ ∨ P0_1_ k_ ∨ P1_0_ k_ ∨ P1_1_ k_) ∨ w.heap.size ≤ k_) ∧ k_ ≠ gb101 ∧ k_ ≠ gb102 ∧ k_ ≠ gb103) k_ from fun k_ hk => ⟨(.inr (Nat.le_trans Bz_ hk)), Kd.freshB (g := gb101) (o := .cells #[.slice A0_0 l0_0.length c0_0, .slice A0_1 l0_1.length c0_1] 25 (0, 0)) (Bk_ BK101.out) k_ hk, Kd.freshB (g := gb102) (o := .cells #[.slice A1_0 l1_0.length c1_0, .slice A1_1 l1_1.length c1_1] 25 (0, 0)) (Bk_ BK102.out) k_ hk, Kd.freshB (g := gb103) (o := .cells #[.slice none 0 0, .slice none 0 0] 25 (0, 0)) (Bk_ BK103.out) k_ hk⟩) _ (Nat.le_refl _)) (Below.refl _ _) (Nat.le_refl _) (by simp) ?_; (case hd => rfl); (case hg => rfl); (case hr => first | (go_simp; done) | (go_simp; rfl)); (case hp => exact (Reps.c2 (show Kd.FK k25 _ _ (⟨l0_0, l0_1⟩ : S25) [.slice A0_0 l0_0.length c0_0, .slice A0_1 l0_1.length c0_1] from (k25_mkF _ _ (⟨l0_0, l0_1⟩ : S25) (Kd.V_reads' (Kd.V_mono (ok' := (fun k_ => ((P0_0_ k_ ∨ P0_1_ k_ ∨ P1_0_ k_ ∨ P1_1_ k_) ∨ w.heap.size ≤ k_) ∧ k_ ≠ gb101 ∧ k_ ≠ gb102 ∧ k_ ≠ gb103)) (HO0_0.out) (fun k_ hk => ⟨hk.1.1.1, ⟨hk.1.1.2, ⟨hk.1.2, hk.2⟩⟩⟩))).2.1 (Kd.V_F (Kd.V_mono (ok' := (fun k_ => ((P0_0_ k_ ∨ P0_1_ k_ ∨ P1_0_ k_ ∨ P1_1_ k_) ∨ w.heap.size ≤ k_) ∧ k_ ≠ gb101 ∧ k_ ≠ gb102 ∧ k_ ≠ gb103)) (HO0_0.out) (fun k_ hk => ⟨hk.1.1.1, ⟨hk.1.1.2, ⟨hk.1.2, hk.2⟩⟩⟩))) (Kd.V_reads' (Kd.V_mono (ok' := (fun k_ => ((P0_0_ k_ ∨ P0_1_ k_ ∨ P1_0_ k_ ∨ P1_1_ k_) ∨ w.heap.size ≤ k_) ∧ k_ ≠ gb101 ∧ k_ ≠ gb102 ∧ k_ ≠ gb103)) (HO0_1.out) (fun k_ hk => ⟨hk.1.1.1, ⟨hk.1.1.2, ⟨hk.1.2, hk.2⟩⟩⟩))).2.1 (Kd.V_F (Kd.V_mono (ok' := (fun k_ => ((P0_0_ k_ ∨ P0_1_ k_ ∨ P1_0_ k_ ∨ P1_1_ k_) ∨ w.heap.size ≤ k_) ∧ k_ ≠ gb101 ∧ k_ ≠ gb102 ∧ k_ ≠ gb103)) (HO0_1.out) (fun k_ hk => ⟨hk.1.1.1, ⟨hk.1.1.2, ⟨hk.1.2, hk.2⟩⟩⟩))))) (Reps.c2 (show Kd.FK k25 _ _ (⟨l1_0, l1_1⟩ : S25) [.slice A1_0 l1_0.length c1_0, .slice A1_1 l1_1.length c1_1] from (k25_mkF _ _ (⟨l1_0, l1_1⟩ : S25) (Kd.V_reads' (Kd.V_mono (ok' := (fun k_ => ((P0_0_ k_ ∨ P0_1_ k_ ∨ P1_0_ k_ ∨ P1_1_ k_) ∨ w.heap.size ≤ k_) ∧ k_ ≠ gb101 ∧ k_ ≠ gb102 ∧ k_ ≠ gb103)) (HO1_0.out) (fun k_ hk => ⟨hk.1.1.1, ⟨hk.1.1.2, ⟨hk.1.2, hk.2⟩⟩⟩))).2.1 (Kd.V_F (Kd.V_mono (ok' := (fun k_ => ((P0_0_ k_ ∨ P0_1_ k_ ∨ P1_0_ k_ ∨ P1_1_ k_) ∨ w.heap.size ≤ k_) ∧ k_ ≠ gb101 ∧ k_ ≠ gb102 ∧ k_ ≠ gb103)) (HO1_0.out) (fun k_ hk => ⟨hk.1.1.1, ⟨hk.1.1.2, ⟨hk.1.2, hk.2⟩⟩⟩))) (Kd.V_reads' (Kd.V_mono (ok' := (fun k_ => ((P0_0_ k_ ∨ P0_1_ k_ ∨ P1_0_ k_ ∨ P1_1_ k_) ∨ w.heap.size ≤ k_) ∧ k_ ≠ gb101 ∧ k_ ≠ gb102 ∧ k_ ≠ gb103)) (HO1_1.out) (fun k_ hk => ⟨hk.1.1.1, ⟨hk.1.1.2, ⟨hk.1.2, hk.2⟩⟩⟩))).2.1 (Kd.V_F (Kd.V_mono (ok' := (fun k_ => ((P0_0_ k_ ∨ P0_1_ k_ ∨ P1_0_ k_ ∨ P1_1_ k_) ∨ w.heap.size ≤ k_) ∧ k_ ≠ gb101 ∧ k_ ≠ gb102 ∧ k_ ≠ gb103)) (HO1_1.out) (fun k_ hk => ⟨hk.1.1.1, ⟨hk.1.1.2, ⟨hk.1.2, hk.2⟩⟩⟩))))) (Reps.none _ _)))); intro v105 w32 ho33 hb hg_ hnew_; clear hg_ hnew_; (first | rw [← Ny104.out] at ho33 | (simp only [Int.reduceToNat] at ho33; rw [← Ny104.out] at ho33)); replace HO0_0 := Aside0.mk (Kd.V_elder' (Pv_ HO0_0.out) (Kd.N_base ho33) hb); replace HO0_1 := Aside0.mk (Kd.V_elder' (Pv_ HO0_1.out) (Kd.N_base ho33) hb); replace HO1_0 := Aside0.mk (Kd.V_elder' (Pv_ HO1_0.out) (Kd.N_base ho33) hb); replace HO1_1 := Aside0.mk (Kd.V_elder' (Pv_ HO1_1.out) (Kd.N_base ho33) hb); have HO106 := Aside0.mk (Kd.N_lower ho33 Bz_); replace BK101 := kb_ BK101 hb; replace BK102 := kb_ BK102 hb; replace BK103 := kb_ BK103 hb; replace HB := Bs_ hb; clear hb ho33; obtain ⟨Ao34, co34, eo34⟩ := Kd.N_slice HO106.out; subst eo34) | ((with_reducible refine gate_callee (f := 50) rfl ?_); refine goesL_ (some 15) rfl rfl Tryd.func50 (by kernel_rfl) rfl #[.slice Ao34 y104.length co34] rfl Ga_ ?_; (with_reducible refine (mould_fine.calls k _ _ y104 true _ ?side1 ?side2 A3.out).mono ?_); (case side1 => exact Pc_ ((Kd.N_reads' HO106.out).2.2)); (case side2 => exact (Kd.N_reads' HO106.out).2.1); rintro e w35 ⟨rfl, hb⟩; refine ⟨_, rfl, ?_⟩; replace HO0_0 := Aside0.mk (Kd.V_below (Pv_ HO0_0.out) hb); replace HO0_1 := Aside0.mk (Kd.V_below (Pv_ HO0_1.out) hb); replace HO1_0 := Aside0.mk (Kd.V_below (Pv_ HO1_0.out) hb); replace HO1_1 := Aside0.mk (Kd.V_below (Pv_ HO1_1.out) hb); replace HO106 := Aside0.mk (Kd.N_below (by (with_reducible repeat (first | apply Kd.N_alloc | apply Kd.N_drewN | apply Kd.N_drew)); exact HO106.out) hb); replace BK101 := kb_ BK101 hb; replace BK102 := kb_ BK102 hb; replace BK103 := kb_ BK103 hb; replace HB := Bs_ hb; (try clear hb); (try clear hb2); (try clear hk); (try clear hi); obtain ⟨hcz36_0, hcz36_1⟩ := c2_ BK101; obtain ⟨hfz36_0, hfz36_1⟩ := f2_ BK101) | ((with_reducible refine gate_callee (f := 65) rfl ?_); refine goesL_ (some 26) rfl rfl Tryd.func65 (by kernel_rfl) rfl #[.agg #[.slice A0_0 l0_0.length c0_0, .slice A0_1 l0_1.length c0_1]] rfl Ga_ ?_; (with_reducible refine (val_All.calls k _ _ l0_0 _ _ l0_1 t108 t111 _ ?side1 ?side2 ?side3 ?side4 A20.out ?side5).mono ?_); (case side1 => exact Pc_ ((Kd.V_reads' HO0_0.out).2.2)); (case side2 => exact (Kd.V_reads' HO0_0.out).2.1); (case side3 => exact Pc_ ((Kd.V_reads' HO0_1.out).2.2)); (case side4 => exact (Kd.V_reads' HO0_1.out).2.1); (case side5 => first | exact hG | exact Glob.below hG Bl_); rintro e w37 ⟨v109, rfl, ho0, hb⟩; refine ⟨_, rfl, ?_⟩; replace HO0_0 := Aside0.mk (Kd.V_elder' (Pv_ HO0_0.out) (Kd.R_base ho0) hb); replace HO0_1 := Aside0.mk (Kd.V_elder' (Pv_ HO0_1.out) (Kd.R_base ho0) hb); replace HO1_0 := Aside0.mk (Kd.V_elder' (Pv_ HO1_0.out) (Kd.R_base ho0) hb); replace HO1_1 := Aside0.mk (Kd.V_elder' (Pv_ HO1_1.out) (Kd.R_base ho0) hb); replace HO106 := Aside0.mk (Kd.N_elder' (by (with_reducible repeat (first | apply Kd.N_alloc | apply Kd.N_drewN | apply Kd.N_drew)); exact HO106.out) (Kd.R_base ho0) hb); have HO110 := Aside0.mk (Kd.R_lower (Kd.R_newM (M := fun k_ => (w.heap.size ≤ k_)) ho0 Bz_ (fun k_ h_ => h_)) Bz_); replace BK101 := kb_ BK101 hb; replace BK102 := kb_ BK102 hb; replace BK103 := kb_ BK103 hb; replace HB := Bs_ hb; (try clear hb); (try clear hb2); (try clear hk); (try clear hi); (try clear ho0); obtain ⟨Ao38, co38, eo38⟩ := Kd.R_slice HO110.out; subst eo38) | ((with_reducible refine gate_callee (f := 47) rfl ?_); refine goesL_ (some 35) rfl rfl Tryd.func47 (by kernel_rfl) rfl #[.slice Ao38 t108.length co38] rfl Ga_ ?_; (with_reducible refine (shape_Size.calls k _ _ t108 t112 t113 _ ?side1 ?side2 A22.out).mono ?_); (case side1 => exact Pc_ ((Kd.R_reads' HO110.out).2.2)); (case side2 => exact (Kd.R_reads' HO110.out).2.1); rintro e w39 ⟨rfl, hb⟩; refine ⟨_, rfl, ?_⟩; replace HO0_0 := Aside0.mk (Kd.V_below (Pv_ HO0_0.out) hb); replace HO0_1 := Aside0.mk (Kd.V_below (Pv_ HO0_1.out) hb); replace HO1_0 := Aside0.mk (Kd.V_below (Pv_ HO1_0.out) hb); replace HO1_1 := Aside0.mk (Kd.V_below (Pv_ HO1_1.out) hb); replace HO106 := Aside0.mk (Kd.N_below (by (with_reducible repeat (first | apply Kd.N_alloc | apply Kd.N_drewN | apply Kd.N_drew)); exact HO106.out) hb); replace HO110 := Aside0.mk (Kd.R_below (Pr_ HO110.out) hb); replace BK101 := kb_ BK101 hb; replace BK102 := kb_ BK102 hb; replace BK103 := kb_ BK103 hb; replace HB := Bs_ hb; (try clear hb); (try clear hb2); (try clear hk); (try clear hi)))
        (try simp only [Act.put, List.setIfInBounds_toArray, List.set_cons_zero, List.set_cons_succ])
        go_cut [] (fun wc => ∃ (kq : Nat), Aside0 (mould_Reshape.j0 kq t108 t112 l1_0 l1_1 = some (r1, r2, r3)) ∧ Aside0 (kq ≤ k) ∧ Aside0 (Kd.R (Kd.int .i64) 3 wc w.heap.size (fun k_ => (w.heap.size ≤ k_)) (.slice Ao38 t108.length co38) t108) ∧ Aside0 (Kd.V (Kd.int .i64) 3 wc w.heap.size (fun k_ => ((P0_0_ k_ ∨ P0_1_ k_ ∨ P1_0_ k_ ∨ P1_1_ k_) ∨ w.heap.size ≤ k_) ∧ some k_ ≠ ((.slice Ao38 t108.length co38) : Value).ownBlock ∧ k_ ≠ gb101 ∧ k_ ≠ gb102 ∧ k_ ≠ gb103) (.slice A0_0 l0_0.length c0_0) l0_0) ∧ Aside0 (Kd.V Kd.string 9 wc w.heap.size (fun k_ => ((P0_0_ k_ ∨ P0_1_ k_ ∨ P1_0_ k_ ∨ P1_1_ k_) ∨ w.heap.size ≤ k_) ∧ some k_ ≠ ((.slice Ao38 t108.length co38) : Value).ownBlock ∧ k_ ≠ gb101 ∧ k_ ≠ gb102 ∧ k_ ≠ gb103) (.slice A0_1 l0_1.length c0_1) l0_1) ∧ Aside0 (Kd.V (Kd.int .i64) 3 wc w.heap.size (fun k_ => ((P0_0_ k_ ∨ P0_1_ k_ ∨ P1_0_ k_ ∨ P1_1_ k_) ∨ w.heap.size ≤ k_) ∧ some k_ ≠ ((.slice Ao38 t108.length co38) : Value).ownBlock ∧ k_ ≠ gb101 ∧ k_ ≠ gb102 ∧ k_ ≠ gb103) (.slice A1_0 l1_0.length c1_0) l1_0) ∧ Aside0 (Kd.V Kd.string 9 wc w.heap.size (fun k_ => ((P0_0_ k_ ∨ P0_1_ k_ ∨ P1_0_ k_ ∨ P1_1_ k_) ∨ w.heap.size ≤ k_) ∧ some k_ ≠ ((.slice Ao38 t108.length co38) : Value).ownBlock ∧ k_ ≠ gb101 ∧ k_ ≠ gb102 ∧ k_ ≠ gb103) (.slice A1_1 l1_1.length c1_1) l1_1) ∧ Aside0 (wc.heap[gb101]? = some (.cells #[(.slice A0_0 l0_0.length c0_0), (.slice A0_1 l0_1.length c0_1)] 25 (0, 0))) ∧ Aside0 (wc.heap[gb102]? = some (.cells #[(.slice A1_0 l1_0.length c1_0), (.slice A1_1 l1_1.length c1_1)] 25 (0, 0))) ∧ Aside0 (wc.heap[gb103]? = some (.cells #[(.slice none 0 0), (.slice none 0 0)] 25 (0, 0))) ∧ Aside0 (Below w.heap.size w wc))
        case first =>
          have H := HC23.out
          clear HC23
          by_cases c40 : t113 = 0
          · rw [if_pos c40] at H
            have c40b0 : (t113 == 0) = true := beq_iff_eq.mpr c40
            have c40b1 : (t113 != 0) = false := bne_eq_false_iff_eq.mpr c40
            clear c40
            (first | rw [c40b0] | (simp only [i64_w, i32_w]; rw [c40b0]) | skip)
            by_cases c41 : t112 > 0
            · rw [if_pos c41] at H
              have c41b0 : decide (0 < t112) = true := decide_eq_true c41
              clear c41
              by_cases c42 : (l1_1.length : Int) = 0
              · rw [if_pos c42] at H
                have c42b0 : ((l1_1.length : Int) == 0) = true := beq_iff_eq.mpr c42
                have c42b1 : ((l1_1.length : Int) != 0) = false := bne_eq_false_iff_eq.mpr c42
                clear c42
                simp only [Option.some.injEq, Prod.mk.injEq] at H
                obtain ⟨rfl, rfl, rfl⟩ := H
                have hnb43 := NB102_101.out
                have hnc43 := NB101_102.out
                have hnb44 := NB102_103.out
                have hnc44 := NB103_102.out
                obtain ⟨hcz45_0, hcz45_1⟩ := c2_ BK102
                obtain ⟨hfz45_0, hfz45_1⟩ := f2_ BK102
                have hnb46 := NB103_101.out
                have hnc46 := NB101_103.out
                obtain ⟨hcz47_0, hcz47_1⟩ := c2_ BK103
                obtain ⟨hfz47_0, hfz47_1⟩ := f2_ BK103
                go_wp2
                refine bodyPost_ret (results_ct rfl _ _ gb103 25 #[.slice none 0 0, .slice none 0 0] (0, 0) _ rfl (by (with_reducible repeat (first | refine blk_drewN ?_ _ | refine blk_drew ?_ | refine blk_alloc ?_ _)); refine blk_put (cs := #[.slice none 0 0, .slice none 0 0]) ?_ 1 _ rfl; (with_reducible repeat (first | refine blk_drewN ?_ _ | refine blk_drew ?_ | refine blk_alloc ?_ _)); refine blk_put (cs := #[.slice none 0 0, .slice none 0 0]) ?_ 0 _ rfl; (with_reducible repeat (first | refine blk_drewN ?_ _ | refine blk_drew ?_ | refine blk_alloc ?_ _)); exact BK103.out) Tryd.underlying25 rfl (by kernel_rfl)) rfl ?_
                exact ⟨_, _, Re_, by first | exact Kd.R_nil _ _ _ _ _ | exact Kd.N_nil _ _ _ _ _ | exact Kd.V_nil _ _ _ _ _ | exact Kd.Q_nil _ _ _ _ _ | exact Kd.S_nil _ _ _ _ _, by first | exact Kd.R_nil _ _ _ _ _ | exact Kd.N_nil _ _ _ _ _ | exact Kd.V_nil _ _ _ _ _ | exact Kd.Q_nil _ _ _ _ _ | exact Kd.S_nil _ _ _ _ _, Bl_⟩
              · rw [if_neg c42] at H
                have c42b0 : ((l1_1.length : Int) == 0) = false := beq_eq_false_iff_ne.mpr c42
                have c42b1 : ((l1_1.length : Int) != 0) = true := bne_iff_ne.mpr c42
                have c42b2 : ¬ (l1_1 = []) := fun h_ => c42 (by rw [h_]; rfl)
                have H' := Aside0.mk H
                clear H
                have hnb48 := NB102_101.out
                have hnc48 := NB101_102.out
                have hnb49 := NB102_103.out
                have hnc49 := NB103_102.out
                obtain ⟨hcz50_0, hcz50_1⟩ := c2_ BK102
                obtain ⟨hfz50_0, hfz50_1⟩ := f2_ BK102
                go_wp2
                go_meet
                case rel => exact ⟨_, H', ⟨by first | omega | exact Nat.le_refl _⟩, ⟨by (with_reducible repeat (first | apply Kd.R_alloc | apply Kd.R_drewN | apply Kd.R_drew)); exact Kd.R_mono HO110.out (fun _ hk => hk.1)⟩, ⟨by (with_reducible repeat (first | apply Kd.V_alloc | apply Kd.V_drewN | apply Kd.V_drew)); exact Kd.V_mono HO0_0.out (fun _ hk => ⟨hk.1.1.1.1.1, ⟨hk.2, ⟨hk.1.1.1.1.2, ⟨hk.1.1.1.2, hk.1.1.2⟩⟩⟩⟩)⟩, ⟨by (with_reducible repeat (first | apply Kd.V_alloc | apply Kd.V_drewN | apply Kd.V_drew)); exact Kd.V_mono HO0_1.out (fun _ hk => ⟨hk.1.1.1.1.1, ⟨hk.2, ⟨hk.1.1.1.1.2, ⟨hk.1.1.1.2, hk.1.1.2⟩⟩⟩⟩)⟩, ⟨by (with_reducible repeat (first | apply Kd.V_alloc | apply Kd.V_drewN | apply Kd.V_drew)); exact Kd.V_mono HO1_0.out (fun _ hk => ⟨hk.1.1.1.1.1, ⟨hk.2, ⟨hk.1.1.1.1.2, ⟨hk.1.1.1.2, hk.1.1.2⟩⟩⟩⟩)⟩, ⟨by (with_reducible repeat (first | apply Kd.V_alloc | apply Kd.V_drewN | apply Kd.V_drew)); exact Kd.V_mono HO1_1.out (fun _ hk => ⟨hk.1.1.1.1.1, ⟨hk.2, ⟨hk.1.1.1.1.2, ⟨hk.1.1.1.2, hk.1.1.2⟩⟩⟩⟩)⟩, ⟨by (with_reducible repeat (first | refine blk_drewN ?_ _ | refine blk_drew ?_ | refine blk_alloc ?_ _)); exact BK101.out⟩, ⟨by (with_reducible repeat (first | refine blk_drewN ?_ _ | refine blk_drew ?_ | refine blk_alloc ?_ _)); exact BK102.out⟩, ⟨by (with_reducible repeat (first | refine blk_drewN ?_ _ | refine blk_drew ?_ | refine blk_alloc ?_ _)); exact BK103.out⟩, ⟨Bl_⟩⟩
            · rw [if_neg c41] at H
              have c41b0 : decide (0 < t112) = false := decide_eq_false c41
              clear c41
              have H' := Aside0.mk H
              clear H
              go_wp2
              go_meet
              case rel => exact ⟨_, H', ⟨by first | omega | exact Nat.le_refl _⟩, ⟨by (with_reducible repeat (first | apply Kd.R_alloc | apply Kd.R_drewN | apply Kd.R_drew)); exact Kd.R_mono HO110.out (fun _ hk => hk.1)⟩, ⟨by (with_reducible repeat (first | apply Kd.V_alloc | apply Kd.V_drewN | apply Kd.V_drew)); exact Kd.V_mono HO0_0.out (fun _ hk => ⟨hk.1.1.1.1.1, ⟨hk.2, ⟨hk.1.1.1.1.2, ⟨hk.1.1.1.2, hk.1.1.2⟩⟩⟩⟩)⟩, ⟨by (with_reducible repeat (first | apply Kd.V_alloc | apply Kd.V_drewN | apply Kd.V_drew)); exact Kd.V_mono HO0_1.out (fun _ hk => ⟨hk.1.1.1.1.1, ⟨hk.2, ⟨hk.1.1.1.1.2, ⟨hk.1.1.1.2, hk.1.1.2⟩⟩⟩⟩)⟩, ⟨by (with_reducible repeat (first | apply Kd.V_alloc | apply Kd.V_drewN | apply Kd.V_drew)); exact Kd.V_mono HO1_0.out (fun _ hk => ⟨hk.1.1.1.1.1, ⟨hk.2, ⟨hk.1.1.1.1.2, ⟨hk.1.1.1.2, hk.1.1.2⟩⟩⟩⟩)⟩, ⟨by (with_reducible repeat (first | apply Kd.V_alloc | apply Kd.V_drewN | apply Kd.V_drew)); exact Kd.V_mono HO1_1.out (fun _ hk => ⟨hk.1.1.1.1.1, ⟨hk.2, ⟨hk.1.1.1.1.2, ⟨hk.1.1.1.2, hk.1.1.2⟩⟩⟩⟩)⟩, ⟨by (with_reducible repeat (first | refine blk_drewN ?_ _ | refine blk_drew ?_ | refine blk_alloc ?_ _)); exact BK101.out⟩, ⟨by (with_reducible repeat (first | refine blk_drewN ?_ _ | refine blk_drew ?_ | refine blk_alloc ?_ _)); exact BK102.out⟩, ⟨by (with_reducible repeat (first | refine blk_drewN ?_ _ | refine blk_drew ?_ | refine blk_alloc ?_ _)); exact BK103.out⟩, ⟨Bl_⟩⟩
          · rw [if_neg c40] at H
            have c40b0 : (t113 == 0) = false := beq_eq_false_iff_ne.mpr c40
            have c40b1 : (t113 != 0) = true := bne_iff_ne.mpr c40
            (first | rw [c40b0] | (simp only [i64_w, i32_w]; rw [c40b0]) | skip)
            simp only [Option.some.injEq, Prod.mk.injEq] at H
            obtain ⟨rfl, rfl, rfl⟩ := H
            have hnb51 := NB103_101.out
            have hnc51 := NB101_103.out
            have hnb52 := NB103_102.out
            have hnc52 := NB102_103.out
            obtain ⟨hcz53_0, hcz53_1⟩ := c2_ BK103
            obtain ⟨hfz53_0, hfz53_1⟩ := f2_ BK103
            go_wp2
            refine bodyPost_ret (results_ct rfl _ _ gb103 25 #[.slice none 0 0, .slice none 0 0] (0, 0) _ rfl (by (with_reducible repeat (first | refine blk_drewN ?_ _ | refine blk_drew ?_ | refine blk_alloc ?_ _)); refine blk_put (cs := #[.slice none 0 0, .slice none 0 0]) ?_ 1 _ rfl; (with_reducible repeat (first | refine blk_drewN ?_ _ | refine blk_drew ?_ | refine blk_alloc ?_ _)); refine blk_put (cs := #[.slice none 0 0, .slice none 0 0]) ?_ 0 _ rfl; (with_reducible repeat (first | refine blk_drewN ?_ _ | refine blk_drew ?_ | refine blk_alloc ?_ _)); exact BK103.out) Tryd.underlying25 rfl (by kernel_rfl)) rfl ?_
            exact ⟨_, _, Re_, by first | exact Kd.R_nil _ _ _ _ _ | exact Kd.N_nil _ _ _ _ _ | exact Kd.V_nil _ _ _ _ _ | exact Kd.Q_nil _ _ _ _ _ | exact Kd.S_nil _ _ _ _ _, by first | exact Kd.R_nil _ _ _ _ _ | exact Kd.N_nil _ _ _ _ _ | exact Kd.V_nil _ _ _ _ _ | exact Kd.Q_nil _ _ _ _ _ | exact Kd.S_nil _ _ _ _ _, Bl_⟩
        case rest =>
          clear HC23
          try clear c1
          try clear c2
          try clear p2
          try clear c3
          try clear c4
          try clear c5
          try clear c5b0
          try clear c5b1
          try clear c6
          try clear c9
          try clear c10
          try clear c12
          try clear c21
          try clear c21b0
          try clear c21b1
          try clear c27
          try clear c28
          try clear c30
          try clear c40
          try clear c40b0
          try clear c40b1
          try clear c41
          try clear c41b0
          try clear c42
          try clear c42b0
          try clear c42b1
          try clear c42b2
          try clear c43
          try clear c44
          try clear c46
          try clear c47
          try clear c48
          try clear c49
          try clear c50
          try clear c51
          try clear c52
          try clear hcz11_0
          try clear hcz11_1
          try clear hcz13_0
          try clear hcz13_1
          try clear hcz18_0
          try clear hcz18_1
          try clear hcz19_0
          try clear hcz19_1
          try clear hcz29_0
          try clear hcz29_1
          try clear hcz31_0
          try clear hcz31_1
          try clear hcz36_0
          try clear hcz36_1
          try clear hcz45_0
          try clear hcz45_1
          try clear hcz47_0
          try clear hcz47_1
          try clear hcz50_0
          try clear hcz50_1
          try clear hcz53_0
          try clear hcz53_1
          try clear hfz11_0
          try clear hfz11_1
          try clear hfz13_0
          try clear hfz13_1
          try clear hfz18_0
          try clear hfz18_1
          try clear hfz19_0
          try clear hfz19_1
          try clear hfz29_0
          try clear hfz29_1
          try clear hfz31_0
          try clear hfz31_1
          try clear hfz36_0
          try clear hfz36_1
          try clear hfz45_0
          try clear hfz45_1
          try clear hfz47_0
          try clear hfz47_1
          try clear hfz50_0
          try clear hfz50_1
          try clear hfz53_0
          try clear hfz53_1
          obtain ⟨kq, HA, HJ22, HO_6, HO_102000, HO_102001, HO_103000, HO_103001, BK101, BK102, BK103, HB⟩ := hcut
          cases kq with
          | zero => exact absurd HA.out (by simp [mould_Reshape.j0])
          | succ kj22 =>
            have H := HA.out
            clear HA
            simp only [mould_Reshape.j0] at H
            have H' := Aside0.mk H
            clear H
            go_wp2_with (first | ((with_reducible refine gate_dst (N := 9) rfl ?_); (try (refine gate_guard (by rfl) ?_; dsimp only)); refine bx_ 9 #[.slice none 0 0, .slice none 0 0] 25 ?_; intro gb114 hg w54 hbox hb; replace HO_6 := Aside0.mk (Kd.R_below (Pr_ HO_6.out) hb); replace HO_102000 := Aside0.mk (Kd.V_below (Kd.V_elderB (Pv_ HO_102000.out) gb114 (Nat.le_of_eq hg.symm)) hb); replace HO_102001 := Aside0.mk (Kd.V_below (Kd.V_elderB (Pv_ HO_102001.out) gb114 (Nat.le_of_eq hg.symm)) hb); replace HO_103000 := Aside0.mk (Kd.V_below (Kd.V_elderB (Pv_ HO_103000.out) gb114 (Nat.le_of_eq hg.symm)) hb); replace HO_103001 := Aside0.mk (Kd.V_below (Kd.V_elderB (Pv_ HO_103001.out) gb114 (Nat.le_of_eq hg.symm)) hb); have BK114 := Aside0.mk (hbox); have GW114 := (Bg_ hg : Aside0 (w.heap.size ≤ gb114)); have GE114 := (Bg_ hg : Aside0 (w.heap.size ≤ gb114)); replace HB := Bs_ hb; have NB101_114 := nl_ hg BK101; have NB114_101 := ng_ hg BK101; replace BK101 := kb_ BK101 hb; have NB102_114 := nl_ hg BK102; have NB114_102 := ng_ hg BK102; replace BK102 := kb_ BK102 hb; have NB103_114 := nl_ hg BK103; have NB114_103 := ng_ hg BK103; replace BK103 := kb_ BK103 hb; clear hb hbox hg; have hnb55 := NB114_101.out; have hnc55 := NB101_114.out; have hnb56 := NB114_102.out; have hnc56 := NB102_114.out; have hnb57 := NB114_103.out; have hnc57 := NB103_114.out; obtain ⟨hcz58_0, hcz58_1⟩ := c2_ BK114; obtain ⟨hfz58_0, hfz58_1⟩ := f2_ BK114))
            go_loopg [56] kj22 (fun kq v56 w' => ∃ (x56_2 : Int) (x115001_2 : List ByteArray) (u115001 : Value), v56 = .int .i64 x56_2 ∧ Aside0 (mould_Reshape.l0 kq t112 x56_2 l1_0 l1_1 t108 x115001_2 = some (r1, r2, r3)) ∧ Aside0 (kq ≤ kj22) ∧ Aside0 (Kd.V (Kd.int .i64) 3 w' w.heap.size (fun k_ => ((P0_0_ k_ ∨ P0_1_ k_ ∨ P1_0_ k_ ∨ P1_1_ k_) ∨ w.heap.size ≤ k_) ∧ some k_ ≠ ((.slice Ao38 t108.length co38) : Value).ownBlock ∧ some k_ ≠ (u115001 : Value).ownBlock ∧ k_ ≠ gb101 ∧ k_ ≠ gb102 ∧ k_ ≠ gb103 ∧ k_ ≠ gb114) (.slice A0_0 l0_0.length c0_0) l0_0) ∧ Aside0 (Kd.V Kd.string 9 w' w.heap.size (fun k_ => ((P0_0_ k_ ∨ P0_1_ k_ ∨ P1_0_ k_ ∨ P1_1_ k_) ∨ w.heap.size ≤ k_) ∧ some k_ ≠ ((.slice Ao38 t108.length co38) : Value).ownBlock ∧ some k_ ≠ (u115001 : Value).ownBlock ∧ k_ ≠ gb101 ∧ k_ ≠ gb102 ∧ k_ ≠ gb103 ∧ k_ ≠ gb114) (.slice A0_1 l0_1.length c0_1) l0_1) ∧ Aside0 (Kd.V (Kd.int .i64) 3 w' w.heap.size (fun k_ => ((P0_0_ k_ ∨ P0_1_ k_ ∨ P1_0_ k_ ∨ P1_1_ k_) ∨ w.heap.size ≤ k_) ∧ some k_ ≠ ((.slice Ao38 t108.length co38) : Value).ownBlock ∧ some k_ ≠ (u115001 : Value).ownBlock ∧ k_ ≠ gb101 ∧ k_ ≠ gb102 ∧ k_ ≠ gb103 ∧ k_ ≠ gb114) (.slice A1_0 l1_0.length c1_0) l1_0) ∧ Aside0 (Kd.V Kd.string 9 w' w.heap.size (fun k_ => ((P0_0_ k_ ∨ P0_1_ k_ ∨ P1_0_ k_ ∨ P1_1_ k_) ∨ w.heap.size ≤ k_) ∧ some k_ ≠ ((.slice Ao38 t108.length co38) : Value).ownBlock ∧ some k_ ≠ (u115001 : Value).ownBlock ∧ k_ ≠ gb101 ∧ k_ ≠ gb102 ∧ k_ ≠ gb103 ∧ k_ ≠ gb114) (.slice A1_1 l1_1.length c1_1) l1_1) ∧ Aside0 (Kd.R (Kd.int .i64) 3 w' w.heap.size (fun k_ => (w.heap.size ≤ k_)) (.slice Ao38 t108.length co38) t108) ∧ Aside0 (Kd.R Kd.string 9 w' w.heap.size (fun k_ => (w.heap.size ≤ k_)) u115001 x115001_2) ∧ Aside0 (w'.heap[gb101]? = some (.cells #[(.slice A0_0 l0_0.length c0_0), (.slice A0_1 l0_1.length c0_1)] 25 (0, 0))) ∧ Aside0 (w'.heap[gb102]? = some (.cells #[(.slice A1_0 l1_0.length c1_0), (.slice A1_1 l1_1.length c1_1)] 25 (0, 0))) ∧ Aside0 (w'.heap[gb103]? = some (.cells #[(.slice none 0 0), (.slice none 0 0)] 25 (0, 0))) ∧ Aside0 (w'.heap[gb114]? = some (.cells #[(.slice Ao38 t108.length co38), u115001] 25 (0, 0))) ∧ Aside0 (Below w.heap.size w w'))
            case atStart => exact ⟨(0), (([] : List ByteArray)), (.slice none 0 0), Rf_, H', ⟨Nat.le_refl _⟩, ⟨by (with_reducible repeat (first | apply Kd.V_alloc | apply Kd.V_drewN | apply Kd.V_drew)); exact Kd.V_mono (Kd.V_far (p := ⟨gb114, 1, none⟩) (Kd.V_far (p := ⟨gb114, 0, none⟩) (Kd.V_mono HO_102000.out (fun k_ hk => (⟨hk, hk.2⟩ : _ ∧ k_ ≠ gb114))) (fun _ hk => hk.2) (.slice Ao38 t108.length co38)) (fun _ hk => hk.2) (.slice none 0 0)) (fun _ hk => ⟨hk.1.1.1, ⟨hk.1.1.2.1, ⟨(by simp [Value.ownBlock]), ⟨hk.1.1.2.2.1, ⟨hk.1.1.2.2.2.1, ⟨hk.1.1.2.2.2.2, hk.1.2⟩⟩⟩⟩⟩⟩)⟩, ⟨by (with_reducible repeat (first | apply Kd.V_alloc | apply Kd.V_drewN | apply Kd.V_drew)); exact Kd.V_mono (Kd.V_far (p := ⟨gb114, 1, none⟩) (Kd.V_far (p := ⟨gb114, 0, none⟩) (Kd.V_mono HO_102001.out (fun k_ hk => (⟨hk, hk.2⟩ : _ ∧ k_ ≠ gb114))) (fun _ hk => hk.2) (.slice Ao38 t108.length co38)) (fun _ hk => hk.2) (.slice none 0 0)) (fun _ hk => ⟨hk.1.1.1, ⟨hk.1.1.2.1, ⟨(by simp [Value.ownBlock]), ⟨hk.1.1.2.2.1, ⟨hk.1.1.2.2.2.1, ⟨hk.1.1.2.2.2.2, hk.1.2⟩⟩⟩⟩⟩⟩)⟩, ⟨by (with_reducible repeat (first | apply Kd.V_alloc | apply Kd.V_drewN | apply Kd.V_drew)); exact Kd.V_mono (Kd.V_far (p := ⟨gb114, 1, none⟩) (Kd.V_far (p := ⟨gb114, 0, none⟩) (Kd.V_mono HO_103000.out (fun k_ hk => (⟨hk, hk.2⟩ : _ ∧ k_ ≠ gb114))) (fun _ hk => hk.2) (.slice Ao38 t108.length co38)) (fun _ hk => hk.2) (.slice none 0 0)) (fun _ hk => ⟨hk.1.1.1, ⟨hk.1.1.2.1, ⟨(by simp [Value.ownBlock]), ⟨hk.1.1.2.2.1, ⟨hk.1.1.2.2.2.1, ⟨hk.1.1.2.2.2.2, hk.1.2⟩⟩⟩⟩⟩⟩)⟩, ⟨by (with_reducible repeat (first | apply Kd.V_alloc | apply Kd.V_drewN | apply Kd.V_drew)); exact Kd.V_mono (Kd.V_far (p := ⟨gb114, 1, none⟩) (Kd.V_far (p := ⟨gb114, 0, none⟩) (Kd.V_mono HO_103001.out (fun k_ hk => (⟨hk, hk.2⟩ : _ ∧ k_ ≠ gb114))) (fun _ hk => hk.2) (.slice Ao38 t108.length co38)) (fun _ hk => hk.2) (.slice none 0 0)) (fun _ hk => ⟨hk.1.1.1, ⟨hk.1.1.2.1, ⟨(by simp [Value.ownBlock]), ⟨hk.1.1.2.2.1, ⟨hk.1.1.2.2.2.1, ⟨hk.1.1.2.2.2.2, hk.1.2⟩⟩⟩⟩⟩⟩)⟩, ⟨by (with_reducible repeat (first | apply Kd.R_alloc | apply Kd.R_drewN | apply Kd.R_drew)); exact Kd.R_mono (Kd.R_far (p := ⟨gb114, 1, none⟩) (Kd.R_far (p := ⟨gb114, 0, none⟩) (Kd.R_types HO_6.out BK114.out (by decide)) (fun _ hk => hk.2) (.slice Ao38 t108.length co38)) (fun _ hk => hk.2) (.slice none 0 0)) (fun _ hk => hk.1)⟩, ⟨by first | exact Kd.R_nil _ _ _ _ _ | exact Kd.N_nil _ _ _ _ _ | exact Kd.V_nil _ _ _ _ _ | exact Kd.Q_nil _ _ _ _ _ | exact Kd.S_nil _ _ _ _ _⟩, ⟨by (with_reducible repeat (first | refine blk_drewN ?_ _ | refine blk_drew ?_ | refine blk_alloc ?_ _)); refine blk_far ?_ NB101_114.out _; (with_reducible repeat (first | refine blk_drewN ?_ _ | refine blk_drew ?_ | refine blk_alloc ?_ _)); refine blk_far ?_ NB101_114.out _; (with_reducible repeat (first | refine blk_drewN ?_ _ | refine blk_drew ?_ | refine blk_alloc ?_ _)); exact BK101.out⟩, ⟨by (with_reducible repeat (first | refine blk_drewN ?_ _ | refine blk_drew ?_ | refine blk_alloc ?_ _)); refine blk_far ?_ NB102_114.out _; (with_reducible repeat (first | refine blk_drewN ?_ _ | refine blk_drew ?_ | refine blk_alloc ?_ _)); refine blk_far ?_ NB102_114.out _; (with_reducible repeat (first | refine blk_drewN ?_ _ | refine blk_drew ?_ | refine blk_alloc ?_ _)); exact BK102.out⟩, ⟨by (with_reducible repeat (first | refine blk_drewN ?_ _ | refine blk_drew ?_ | refine blk_alloc ?_ _)); refine blk_far ?_ NB103_114.out _; (with_reducible repeat (first | refine blk_drewN ?_ _ | refine blk_drew ?_ | refine blk_alloc ?_ _)); refine blk_far ?_ NB103_114.out _; (with_reducible repeat (first | refine blk_drewN ?_ _ | refine blk_drew ?_ | refine blk_alloc ?_ _)); exact BK103.out⟩, ⟨by (with_reducible repeat (first | refine blk_drewN ?_ _ | refine blk_drew ?_ | refine blk_alloc ?_ _)); refine blk_put (cs := #[.slice Ao38 t108.length co38, .slice none 0 0]) ?_ 1 _ rfl; (with_reducible repeat (first | refine blk_drewN ?_ _ | refine blk_drew ?_ | refine blk_alloc ?_ _)); refine blk_put (cs := #[.slice none 0 0, .slice none 0 0]) ?_ 0 _ rfl; (with_reducible repeat (first | refine blk_drewN ?_ _ | refine blk_drew ?_ | refine blk_alloc ?_ _)); exact BK114.out⟩, ⟨Bl_⟩⟩
            case round =>
              clear H'
              try clear c1
              try clear c2
              try clear p2
              try clear c3
              try clear c4
              try clear c5
              try clear c5b0
              try clear c5b1
              try clear c6
              try clear c9
              try clear c10
              try clear c12
              try clear c21
              try clear c21b0
              try clear c21b1
              try clear c27
              try clear c28
              try clear c30
              try clear c40
              try clear c40b0
              try clear c40b1
              try clear c41
              try clear c41b0
              try clear c42
              try clear c42b0
              try clear c42b1
              try clear c42b2
              try clear c43
              try clear c44
              try clear c46
              try clear c47
              try clear c48
              try clear c49
              try clear c50
              try clear c51
              try clear c52
              try clear c55
              try clear c56
              try clear c57
              try clear hcz11_0
              try clear hcz11_1
              try clear hcz13_0
              try clear hcz13_1
              try clear hcz18_0
              try clear hcz18_1
              try clear hcz19_0
              try clear hcz19_1
              try clear hcz29_0
              try clear hcz29_1
              try clear hcz31_0
              try clear hcz31_1
              try clear hcz36_0
              try clear hcz36_1
              try clear hcz45_0
              try clear hcz45_1
              try clear hcz47_0
              try clear hcz47_1
              try clear hcz50_0
              try clear hcz50_1
              try clear hcz53_0
              try clear hcz53_1
              try clear hcz58_0
              try clear hcz58_1
              try clear hfz11_0
              try clear hfz11_1
              try clear hfz13_0
              try clear hfz13_1
              try clear hfz18_0
              try clear hfz18_1
              try clear hfz19_0
              try clear hfz19_1
              try clear hfz29_0
              try clear hfz29_1
              try clear hfz31_0
              try clear hfz31_1
              try clear hfz36_0
              try clear hfz36_1
              try clear hfz45_0
              try clear hfz45_1
              try clear hfz47_0
              try clear hfz47_1
              try clear hfz50_0
              try clear hfz50_1
              try clear hfz53_0
              try clear hfz53_1
              try clear hfz58_0
              try clear hfz58_1
              try clear p2
              obtain ⟨x56_2, x115001_2, u115001, rfl, HA, HK2, HO_102000, HO_102001, HO_103000, HO_103001, HO_115000, HO_115001, BK101, BK102, BK103, BK114, HB⟩ := hrel
              cases gk with
              | zero => exact absurd HA.out (by simp [mould_Reshape.l0])
              | succ k2 =>
                have H := HA.out
                clear HA
                simp only [mould_Reshape.l0] at H
                by_cases c59 : x56_2 < t112
                · rw [if_pos c59] at H
                  have c59b0 : decide (x56_2 < t112) = true := decide_eq_true c59
                  clear c59
                  by_cases c60 : (l1_1.length : Int) = 0
                  · rw [if_pos c60] at H
                    exact absurd H (by simp)
                  · rw [if_neg c60] at H
                    have c60b0 : ((l1_1.length : Int) == 0) = false := beq_eq_false_iff_ne.mpr c60
                    have c60b1 : ((l1_1.length : Int) != 0) = true := bne_iff_ne.mpr c60
                    have c60b2 : ¬ (l1_1 = []) := fun h_ => c60 (by rw [h_]; rfl)
                    obtain ⟨ji61, hji61⟩ : ∃ j_ : Int, (Int.tmod x56_2 (l1_1.length : Int)) = j_ := ⟨_, rfl⟩
                    replace H : (if 0 ≤ (ji61) then (if (ji61) < (l1_1.length : Int) then (if x115001_2.length < 8796093022208 then (mould_Reshape.l0 k2 t112 (wrap64 (x56_2 + 1)) l1_0 l1_1 t108 (x115001_2 ++ [rdOf ByteArray.empty l1_1 (ji61)])) else (none)) else (none)) else (none)) = some (r1, r2, r3) := by first | (rw [hji61] at H; exact H) | (simp only [hji61] at H ⊢; exact H)
                    by_cases c62 : 0 ≤ (ji61)
                    · rw [if_pos c62] at H
                      have c62b0 : decide (0 ≤ (ji61)) = true := decide_eq_true c62
                      clear c62
                      by_cases c63 : (ji61) < (l1_1.length : Int)
                      · rw [if_pos c63] at H
                        have c63b0 : decide ((ji61) < (l1_1.length : Int)) = true := decide_eq_true c63
                        clear c63
                        by_cases c64 : x115001_2.length < 8796093022208
                        · rw [if_pos c64] at H
                          have LMc64 := Aside0.mk c64
                          clear c64
                          obtain ⟨y116, hy116⟩ : ∃ y_ : List ByteArray, y_ = (x115001_2 ++ [rdOf ByteArray.empty l1_1 (ji61)]) := ⟨_, rfl⟩
                          replace H : (mould_Reshape.l0 k2 t112 (wrap64 (x56_2 + 1)) l1_0 l1_1 t108 y116) = some (r1, r2, r3) := by first | (rw [hy116]; with_reducible exact H) | (have H2_ := (Option.bind_some _ _).symm.trans H; rw [hy116]; with_reducible exact H2_) | (have H2_ := (Option.bind_some _ _).symm.trans H; with_reducible exact H2_) | with_reducible exact H | (rw [hy116]; exact H) | exact H
                          have Ny116 := Aside0.mk hy116
                          clear hy116
                          have H' := Aside0.mk H
                          clear H
                          try go_wp2
                          replace HO_102000 := Aside0.mk (Kd.V_drew HO_102000.out)
                          replace HO_102001 := Aside0.mk (Kd.V_drew HO_102001.out)
                          replace HO_103000 := Aside0.mk (Kd.V_drew HO_103000.out)
                          replace HO_103001 := Aside0.mk (Kd.V_drew HO_103001.out)
                          replace HO_115000 := Aside0.mk (Kd.R_drew HO_115000.out)
                          replace HO_115001 := Aside0.mk (Kd.R_drew HO_115001.out)
                          replace BK101 := Aside0.mk (blk_drew BK101.out)
                          replace BK102 := Aside0.mk (blk_drew BK102.out)
                          replace BK103 := Aside0.mk (blk_drew BK103.out)
                          replace BK114 := Aside0.mk (blk_drew BK114.out)
                          replace HB := Aside0.mk (below_drew1 HB.out)
                          have p115 : 0 ≤ ((ji61) : Int) := of_decide_eq_true As_
                          have q115 : (ji61) < (l1_1.length : Int) := of_decide_eq_true As_
                          obtain ⟨ad115, e115, hx115_0⟩ := Kd.at_string (Kd.V_reads' HO_103001.out).2.2 (ji61) p115 q115
                          cases e115
                          replace p115 := eq_true p115
                          replace q115 := eq_true q115
                          refine start_ (n := 15) (S := fun w' => w'.cell? ⟨gb114, 0, none⟩ = some (.slice Ao38 t108.length co38) ∧ w'.cell? ⟨gb114, 1, none⟩ = some (u115001) ∧ w'.cell? ⟨gb102, 0, none⟩ = some (.slice A1_0 l1_0.length c1_0) ∧ w'.cell? ⟨gb102, 1, none⟩ = some (.slice (some ad115) l1_1.length c1_1) ∧ w'.cell? (ad115.add ((ji61)).toNat) = some (.string (rdOf ByteArray.empty l1_1 (ji61)))) (ds := [12, 14]) #[false, false, false, false, false, false, false, false, false, false, false, false, false, false, false] (by kernel_rfl) rfl rfl ⟨(blk_cell BK114.out 0).trans rfl, (blk_cell BK114.out 1).trans rfl, (blk_cell BK102.out 0).trans rfl, (blk_cell BK102.out 1).trans rfl, hx115_0⟩ (fun hHeld => ?_); refine with_tabW mould_Reshape.tab17 mould_Reshape.bits17 (fun HT_ HW_ => ?_)
                          generalize wr.drew = w65 at HO_102000 HO_102001 HO_103000 HO_103001 HO_115000 HO_115001 BK101 BK102 BK103 BK114 HB hx115_0 hHeld ⊢
                          refine pu_ 0 (some 59) HT_ #[true, false, false, false, false, false, false, false, false, false, false, false, false, false, false] ?_
                          refine pu_ 2 (some 61) HT_ #[true, false, true, false, false, false, false, false, false, false, false, false, false, false, false] ?_
                          refine pu_ 4 (some 63) HT_ #[true, false, true, false, true, false, false, false, false, false, false, false, false, false, false] ?_
                          refine pu_ 5 (some 64) HT_ #[true, false, true, false, true, true, false, false, false, false, false, false, false, false, false] ?_
                          refine take_ (i := 1) (N := some 60) (v := ?_) (a' := ?_) #[true, true, true, false, true, true, false, false, false, false, false, false, false, false, false] rfl rfl (take_ofW HT_.out HW_.out (by kernel_rfl)) (fun _ _ _ h => h) (Or.inl ⟨by rfl, ?_⟩) hHeld ?_ ?_
                          rotate_left
                          · rintro w' ⟨s0, s1, s2, s3, s4⟩
                            go_simp
                            with_reducible rfl
                          rotate_left
                          · simp only [Act.put, List.setIfInBounds_toArray, List.set_cons_zero, List.set_cons_succ, i64_w, i32_w]
                            rfl
                          refine take_ (i := 3) (N := some 62) (v := ?_) (a' := ?_) #[true, true, true, true, true, true, false, false, false, false, false, false, false, false, false] rfl rfl (take_ofW HT_.out HW_.out (by kernel_rfl)) (fun _ _ _ h => h) (Or.inl ⟨by rfl, ?_⟩) hHeld ?_ ?_
                          rotate_left
                          · rintro w' ⟨s0, s1, s2, s3, s4⟩
                            go_simp
                            with_reducible rfl
                          rotate_left
                          · simp only [Act.put, List.setIfInBounds_toArray, List.set_cons_zero, List.set_cons_succ, i64_w, i32_w]
                            rfl
                          refine take_ (i := 6) (N := some 65) (v := ?_) (a' := ?_) #[true, true, true, true, true, true, true, false, false, false, false, false, false, false, false] rfl rfl (take_ofW HT_.out HW_.out (by kernel_rfl)) (fun _ _ _ h => h) (Or.inl ⟨by rfl, ?_⟩) hHeld ?_ ?_
                          rotate_left
                          · rintro w' ⟨s0, s1, s2, s3, s4⟩
                            go_simp
                            with_reducible rfl
                          rotate_left
                          · simp only [Act.put, List.setIfInBounds_toArray, List.set_cons_zero, List.set_cons_succ, i64_w, i32_w]
                            rfl
                          refine pu_ 7 (some 66) HT_ #[true, true, true, true, true, true, true, true, false, false, false, false, false, false, false] ?_
                          refine pu_ 8 (some 67) HT_ #[true, true, true, true, true, true, true, true, true, false, false, false, false, false, false] ?_
                          refine pu_ 9 (some 68) HT_ #[true, true, true, true, true, true, true, true, true, true, false, false, false, false, false] ?_
                          refine take_ (i := 10) (N := some 69) (v := ?_) (a' := ?_) #[true, true, true, true, true, true, true, true, true, true, true, false, false, false, false] rfl rfl (take_ofW HT_.out HW_.out (by kernel_rfl)) (fun _ _ _ h => h) (Or.inl ⟨by rfl, ?_⟩) hHeld ?_ ?_
                          rotate_left
                          · rintro w' ⟨s0, s1, s2, s3, s4⟩
                            go_simp
                            with_reducible rfl
                          rotate_left
                          · simp only [Act.put, List.setIfInBounds_toArray, List.set_cons_zero, List.set_cons_succ, i64_w, i32_w]
                            rfl
                          refine one_ (i := 11) (N := some 70) #[true, true, true, true, true, true, true, true, true, true, true, true, false, false, false] rfl rfl (one_of HT_.out (by kernel_rfl)) (by decide) (fun K hK => ?_)
                          refine value_ (w1 := ?_) (v := ?_) (by rfl) rfl ?_ ?_
                          rotate_left 2
                          · go_simp
                            constructor
                            · rfl
                            · rfl
                          refine hK.out _ _ ⟨(blk_cell (blk_alloc BK114.out _) 0).trans rfl, (blk_cell (blk_alloc BK114.out _) 1).trans rfl, (blk_cell (blk_alloc BK102.out _) 0).trans rfl, (blk_cell (blk_alloc BK102.out _) 1).trans rfl, (World.cell?_alloc_lt _ _ _ (World.block_lt_of_cell? _ _ (hHeld.2.2.2.2))).trans (hHeld.2.2.2.2)⟩ (fun hHeld => ?_)
                          clear hK K
                          refine norm_ (a' := ?_) ?_ ?_
                          rotate_left
                          · show Act.put _ (some 70) _ = _
                            simp only [Act.put, List.setIfInBounds_toArray, List.set_cons_zero, List.set_cons_succ, i64_w, i32_w]
                            rfl
                          refine last_ (i := 12) (N := some 71) #[true, true, true, true, true, true, true, true, true, true, true, true, true, false, false] rfl rfl (one_of HT_.out (by kernel_rfl)) (by decide) (fun K hK => ?_)
                          refine Kd.R_append_step Kd.string (w0 := w) w.heap.size (by rfl) (.tmp 60) (.tmp 70) 23 9 (.string ⟨#[]⟩) 16 rfl Tryd.underlying23 info9 rfl (by decide) (by omega) u115001 x115001_2 (rdOf ByteArray.empty l1_1 (ji61)) [.string (rdOf ByteArray.empty l1_1 (ji61))] (fun k_ => (w.heap.size ≤ k_)) (fun _ => False) rfl rfl ?aP (fun _ hk => hk.elim) ?aF ?aO ?aB ?aS ?aL ?_
                          (case aP => exact rfl)
                          (case aB => exact Bl_)
                          (case aF => exact (fun k_ hk => (Nat.le_trans Bz_ hk)))
                          (case aO => exact (Pr_ HO_115001.out))
                          (case aS => exact Bz_)
                          (case aL => have := LMc64.out; omega)
                          intro v117 w66 ho hb hg hat
                          rw [← Ny116.out] at ho
                          replace HO_102000 := Aside0.mk (Kd.V_afterv (ok := (fun k_ => ((P0_0_ k_ ∨ P0_1_ k_ ∨ P1_0_ k_ ∨ P1_1_ k_) ∨ w.heap.size ≤ k_) ∧ some k_ ≠ (.slice Ao38 t108.length co38 : Value).ownBlock ∧ k_ ≠ gb101 ∧ k_ ≠ gb102 ∧ k_ ≠ gb103 ∧ k_ ≠ gb114)) (by (with_reducible repeat (first | apply Kd.V_alloc | apply Kd.V_drewN | apply Kd.V_drew)); exact Kd.V_mono HO_102000.out (fun _ hk => ⟨⟨hk.1, ⟨hk.2.1, ⟨hk.2.2.2.1, ⟨hk.2.2.2.2.1, ⟨hk.2.2.2.2.2.1, hk.2.2.2.2.2.2⟩⟩⟩⟩⟩, hk.2.2.1⟩)) hg hat)
                          replace HO_102001 := Aside0.mk (Kd.V_afterv (ok := (fun k_ => ((P0_0_ k_ ∨ P0_1_ k_ ∨ P1_0_ k_ ∨ P1_1_ k_) ∨ w.heap.size ≤ k_) ∧ some k_ ≠ (.slice Ao38 t108.length co38 : Value).ownBlock ∧ k_ ≠ gb101 ∧ k_ ≠ gb102 ∧ k_ ≠ gb103 ∧ k_ ≠ gb114)) (by (with_reducible repeat (first | apply Kd.V_alloc | apply Kd.V_drewN | apply Kd.V_drew)); exact Kd.V_mono HO_102001.out (fun _ hk => ⟨⟨hk.1, ⟨hk.2.1, ⟨hk.2.2.2.1, ⟨hk.2.2.2.2.1, ⟨hk.2.2.2.2.2.1, hk.2.2.2.2.2.2⟩⟩⟩⟩⟩, hk.2.2.1⟩)) hg hat)
                          replace HO_103000 := Aside0.mk (Kd.V_afterv (ok := (fun k_ => ((P0_0_ k_ ∨ P0_1_ k_ ∨ P1_0_ k_ ∨ P1_1_ k_) ∨ w.heap.size ≤ k_) ∧ some k_ ≠ (.slice Ao38 t108.length co38 : Value).ownBlock ∧ k_ ≠ gb101 ∧ k_ ≠ gb102 ∧ k_ ≠ gb103 ∧ k_ ≠ gb114)) (by (with_reducible repeat (first | apply Kd.V_alloc | apply Kd.V_drewN | apply Kd.V_drew)); exact Kd.V_mono HO_103000.out (fun _ hk => ⟨⟨hk.1, ⟨hk.2.1, ⟨hk.2.2.2.1, ⟨hk.2.2.2.2.1, ⟨hk.2.2.2.2.2.1, hk.2.2.2.2.2.2⟩⟩⟩⟩⟩, hk.2.2.1⟩)) hg hat)
                          replace HO_103001 := Aside0.mk (Kd.V_afterv (ok := (fun k_ => ((P0_0_ k_ ∨ P0_1_ k_ ∨ P1_0_ k_ ∨ P1_1_ k_) ∨ w.heap.size ≤ k_) ∧ some k_ ≠ (.slice Ao38 t108.length co38 : Value).ownBlock ∧ k_ ≠ gb101 ∧ k_ ≠ gb102 ∧ k_ ≠ gb103 ∧ k_ ≠ gb114)) (by (with_reducible repeat (first | apply Kd.V_alloc | apply Kd.V_drewN | apply Kd.V_drew)); exact Kd.V_mono HO_103001.out (fun _ hk => ⟨⟨hk.1, ⟨hk.2.1, ⟨hk.2.2.2.1, ⟨hk.2.2.2.2.1, ⟨hk.2.2.2.2.2.1, hk.2.2.2.2.2.2⟩⟩⟩⟩⟩, hk.2.2.1⟩)) hg hat)
                          replace HO_115000 := Aside0.mk (Kd.R_over' (Pr_ HO_115000.out) (Kd.R_typed (Pr_ HO_115001.out)) (by decide) hg)
                          replace BK101 := kg_ BK101 hg (Kd.R_ne HO_115001.out BK101.out (by decide))
                          replace BK102 := kg_ BK102 hg (Kd.R_ne HO_115001.out BK102.out (by decide))
                          replace BK103 := kg_ BK103 hg (Kd.R_ne HO_115001.out BK103.out (by decide))
                          replace BK114 := kg_ BK114 hg (Kd.R_ne HO_115001.out BK114.out (by decide))
                          replace HB := Aside0.mk (hb)
                          have HO118 := Aside0.mk (ho)
                          clear HO_115001
                          clear ho hb hg hat
                          obtain ⟨Ao67, co67, eo67⟩ := Kd.R_slice HO118.out
                          (first | subst eo67 | (injection eo67 with f1_ f2_ f3_; have f4_ := f1_.symm; have f5_ := f3_.symm; clear f1_ f2_ f3_; subst f4_; subst f5_))
                          refine hK.out _ _ ?_
                          clear hK K
                          refine norm_ (a' := ?_) ?_ ?_
                          rotate_left
                          · show Act.put _ (some 71) _ = _
                            simp only [Act.put, List.setIfInBounds_toArray, List.set_cons_zero, List.set_cons_succ, i64_w, i32_w]
                            rfl
                          refine pu_ 13 (some 72) HT_ #[true, true, true, true, true, true, true, true, true, true, true, true, true, true, false] ?_
                          refine last_ (i := 14) (N := none) #[true, true, true, true, true, true, true, true, true, true, true, true, true, true, true] rfl rfl (one_of HT_.out (by kernel_rfl)) (by decide) (fun K hK => ?_)
                          have hs68 : w66.cell? ⟨gb114, 1, none⟩ = some (u115001) := (blk_cell BK114.out 1).trans rfl
                          have hfs68 := blk_frozen BK114.out 1
                          have hns68_0 := NB101_114.out
                          have hns68_1 := NB102_114.out
                          have hns68_2 := NB103_114.out
                          have hms68_0 := NB114_101.out
                          have hms68_1 := NB114_102.out
                          have hms68_2 := NB114_103.out
                          refine skip_ (w1 := ?_) (by rfl) rfl ?_ ?_
                          rotate_left
                          · go_simp
                            rfl
                          refine hK.out _ _ ?_
                          clear hK K
                          refine done_ (done_of HT_.out (by kernel_rfl)) ?_
                          try go_wp2
                          go_roundg k2
                          case measure => have := HJ22.out; have := HK2.out; omega
                          case rel => exact ⟨(wrap64 (x56_2 + 1)), (y116), (.slice Ao67 y116.length co67), Rf_, H', ⟨by have := HJ22.out; have := HK2.out; omega⟩, ⟨by (with_reducible repeat (first | apply Kd.V_alloc | apply Kd.V_drewN | apply Kd.V_drew)); exact Kd.V_mono (Kd.V_far (p := ⟨gb114, 1, none⟩) (Kd.V_mono HO_102000.out (fun k_ hk => (⟨hk, hk.1.2.2.2.2.2⟩ : _ ∧ k_ ≠ gb114))) (fun _ hk => hk.2) (.slice Ao67 y116.length co67)) (fun _ hk => ⟨hk.1.1.1, ⟨hk.1.1.2.1, ⟨hk.1.2, ⟨hk.1.1.2.2.1, ⟨hk.1.1.2.2.2.1, ⟨hk.1.1.2.2.2.2.1, hk.1.1.2.2.2.2.2⟩⟩⟩⟩⟩⟩)⟩, ⟨by (with_reducible repeat (first | apply Kd.V_alloc | apply Kd.V_drewN | apply Kd.V_drew)); exact Kd.V_mono (Kd.V_far (p := ⟨gb114, 1, none⟩) (Kd.V_mono HO_102001.out (fun k_ hk => (⟨hk, hk.1.2.2.2.2.2⟩ : _ ∧ k_ ≠ gb114))) (fun _ hk => hk.2) (.slice Ao67 y116.length co67)) (fun _ hk => ⟨hk.1.1.1, ⟨hk.1.1.2.1, ⟨hk.1.2, ⟨hk.1.1.2.2.1, ⟨hk.1.1.2.2.2.1, ⟨hk.1.1.2.2.2.2.1, hk.1.1.2.2.2.2.2⟩⟩⟩⟩⟩⟩)⟩, ⟨by (with_reducible repeat (first | apply Kd.V_alloc | apply Kd.V_drewN | apply Kd.V_drew)); exact Kd.V_mono (Kd.V_far (p := ⟨gb114, 1, none⟩) (Kd.V_mono HO_103000.out (fun k_ hk => (⟨hk, hk.1.2.2.2.2.2⟩ : _ ∧ k_ ≠ gb114))) (fun _ hk => hk.2) (.slice Ao67 y116.length co67)) (fun _ hk => ⟨hk.1.1.1, ⟨hk.1.1.2.1, ⟨hk.1.2, ⟨hk.1.1.2.2.1, ⟨hk.1.1.2.2.2.1, ⟨hk.1.1.2.2.2.2.1, hk.1.1.2.2.2.2.2⟩⟩⟩⟩⟩⟩)⟩, ⟨by (with_reducible repeat (first | apply Kd.V_alloc | apply Kd.V_drewN | apply Kd.V_drew)); exact Kd.V_mono (Kd.V_far (p := ⟨gb114, 1, none⟩) (Kd.V_mono HO_103001.out (fun k_ hk => (⟨hk, hk.1.2.2.2.2.2⟩ : _ ∧ k_ ≠ gb114))) (fun _ hk => hk.2) (.slice Ao67 y116.length co67)) (fun _ hk => ⟨hk.1.1.1, ⟨hk.1.1.2.1, ⟨hk.1.2, ⟨hk.1.1.2.2.1, ⟨hk.1.1.2.2.2.1, ⟨hk.1.1.2.2.2.2.1, hk.1.1.2.2.2.2.2⟩⟩⟩⟩⟩⟩)⟩, ⟨by (with_reducible repeat (first | apply Kd.R_alloc | apply Kd.R_drewN | apply Kd.R_drew)); exact Kd.R_mono (Kd.R_far (p := ⟨gb114, 1, none⟩) (Kd.R_types HO_115000.out BK114.out (by decide)) (fun _ hk => hk.2) (.slice Ao67 y116.length co67)) (fun _ hk => hk.1)⟩, ⟨by (with_reducible repeat (first | apply Kd.R_alloc | apply Kd.R_drewN | apply Kd.R_drew)); exact Kd.R_mono (Kd.R_far (p := ⟨gb114, 1, none⟩) (Kd.R_types HO118.out BK114.out (by decide)) (fun _ hk => hk.2) (.slice Ao67 y116.length co67)) (fun _ hk => hk.1)⟩, ⟨by (with_reducible repeat (first | refine blk_drewN ?_ _ | refine blk_drew ?_ | refine blk_alloc ?_ _)); refine blk_far ?_ NB101_114.out _; (with_reducible repeat (first | refine blk_drewN ?_ _ | refine blk_drew ?_ | refine blk_alloc ?_ _)); exact BK101.out⟩, ⟨by (with_reducible repeat (first | refine blk_drewN ?_ _ | refine blk_drew ?_ | refine blk_alloc ?_ _)); refine blk_far ?_ NB102_114.out _; (with_reducible repeat (first | refine blk_drewN ?_ _ | refine blk_drew ?_ | refine blk_alloc ?_ _)); exact BK102.out⟩, ⟨by (with_reducible repeat (first | refine blk_drewN ?_ _ | refine blk_drew ?_ | refine blk_alloc ?_ _)); refine blk_far ?_ NB103_114.out _; (with_reducible repeat (first | refine blk_drewN ?_ _ | refine blk_drew ?_ | refine blk_alloc ?_ _)); exact BK103.out⟩, ⟨by (with_reducible repeat (first | refine blk_drewN ?_ _ | refine blk_drew ?_ | refine blk_alloc ?_ _)); refine blk_put (cs := #[.slice Ao38 t108.length co38, u115001]) ?_ 1 _ rfl; (with_reducible repeat (first | refine blk_drewN ?_ _ | refine blk_drew ?_ | refine blk_alloc ?_ _)); exact BK114.out⟩, ⟨Bl_⟩⟩
                        · rw [if_neg c64] at H
                          exact absurd H (by simp)
                      · rw [if_neg c63] at H
                        exact absurd H (by simp)
                    · rw [if_neg c62] at H
                      exact absurd H (by simp)
                · rw [if_neg c59] at H
                  have c59b0 : decide (x56_2 < t112) = false := decide_eq_false c59
                  clear c59
                  simp only [Option.some.injEq, Prod.mk.injEq] at H
                  obtain ⟨rfl, rfl, rfl⟩ := H
                  have hnb69 := NB114_101.out
                  have hnc69 := NB101_114.out
                  have hnb70 := NB114_102.out
                  have hnc70 := NB102_114.out
                  have hnb71 := NB114_103.out
                  have hnc71 := NB103_114.out
                  obtain ⟨hcz72_0, hcz72_1⟩ := c2_ BK114
                  obtain ⟨hfz72_0, hfz72_1⟩ := f2_ BK114
                  have hnb73 := NB103_101.out
                  have hnc73 := NB101_103.out
                  have hnb74 := NB103_102.out
                  have hnc74 := NB102_103.out
                  obtain ⟨hcz75_0, hcz75_1⟩ := c2_ BK103
                  obtain ⟨hfz75_0, hfz75_1⟩ := f2_ BK103
                  obtain ⟨Ao76, co76, eo76⟩ := Kd.R_slice HO_115001.out
                  subst eo76
                  go_wp2
                  refine bodyPost_ret (results_ct rfl _ _ gb103 25 #[.slice Ao38 t108.length co38, .slice Ao76 x115001_2.length co76] (0, 0) _ rfl (by (with_reducible repeat (first | refine blk_drewN ?_ _ | refine blk_drew ?_ | refine blk_alloc ?_ _)); refine blk_put (cs := #[.slice Ao38 t108.length co38, .slice none 0 0]) ?_ 1 _ rfl; (with_reducible repeat (first | refine blk_drewN ?_ _ | refine blk_drew ?_ | refine blk_alloc ?_ _)); refine blk_put (cs := #[.slice none 0 0, .slice none 0 0]) ?_ 0 _ rfl; (with_reducible repeat (first | refine blk_drewN ?_ _ | refine blk_drew ?_ | refine blk_alloc ?_ _)); exact BK103.out) Tryd.underlying25 rfl (by kernel_rfl)) rfl ?_
                  exact ⟨_, _, Re_, by (with_reducible repeat (first | apply Kd.R_alloc | apply Kd.R_drewN | apply Kd.R_drew)); exact Kd.R_mono (Kd.R_far (p := ⟨gb103, 1, none⟩) (Kd.R_far (p := ⟨gb103, 0, none⟩) (Kd.R_types HO_115000.out BK103.out (by decide)) (fun _ hk => hk.2) (.slice Ao38 t108.length co38)) (fun _ hk => hk.2) (.slice Ao76 x115001_2.length co76)) (fun _ hk => hk.1), by (with_reducible repeat (first | apply Kd.R_alloc | apply Kd.R_drewN | apply Kd.R_drew)); exact Kd.R_mono (Kd.R_far (p := ⟨gb103, 1, none⟩) (Kd.R_far (p := ⟨gb103, 0, none⟩) (Kd.R_types HO_115001.out BK103.out (by decide)) (fun _ hk => hk.2) (.slice Ao38 t108.length co38)) (fun _ hk => hk.2) (.slice Ao76 x115001_2.length co76)) (fun _ hk => hk.1), Bl_⟩
      · rw [if_neg c21] at H
        have c21b0 : (t111 == 0) = false := beq_eq_false_iff_ne.mpr c21
        have c21b1 : (t111 != 0) = true := bne_iff_ne.mpr c21
        simp only [Option.some.injEq, Prod.mk.injEq] at H
        obtain ⟨rfl, rfl, rfl⟩ := H
        go_enter Tryd.func30, Tryd.ntmps30
        go_wp2_with (first | ((with_reducible refine gate_dst (N := 2) rfl ?_); (try (refine gate_guard (by rfl) ?_; dsimp only)); refine bx_ 2 #[.slice A0_0 l0_0.length c0_0, .slice A0_1 l0_1.length c0_1] 25 ?_; intro gb101 hg w77 hbox hb; replace HO0_0 := Aside0.mk (Kd.V_below (Kd.V_elderB (Pv_ HO0_0.out) gb101 (Nat.le_of_eq hg.symm)) hb); replace HO0_1 := Aside0.mk (Kd.V_below (Kd.V_elderB (Pv_ HO0_1.out) gb101 (Nat.le_of_eq hg.symm)) hb); replace HO1_0 := Aside0.mk (Kd.V_below (Kd.V_elderB (Pv_ HO1_0.out) gb101 (Nat.le_of_eq hg.symm)) hb); replace HO1_1 := Aside0.mk (Kd.V_below (Kd.V_elderB (Pv_ HO1_1.out) gb101 (Nat.le_of_eq hg.symm)) hb); have BK101 := Aside0.mk (hbox); have GW101 := (Bg_ hg : Aside0 (w.heap.size ≤ gb101)); have GE101 := (Bg_ hg : Aside0 (w.heap.size ≤ gb101)); replace HB := Bs_ hb; clear hb hbox hg) | ((with_reducible refine gate_dst (N := 3) rfl ?_); (try (refine gate_guard (by rfl) ?_; dsimp only)); refine bx_ 3 #[.slice A1_0 l1_0.length c1_0, .slice A1_1 l1_1.length c1_1] 25 ?_; intro gb102 hg w78 hbox hb; replace HO0_0 := Aside0.mk (Kd.V_below (Kd.V_elderB (Pv_ HO0_0.out) gb102 (Nat.le_of_eq hg.symm)) hb); replace HO0_1 := Aside0.mk (Kd.V_below (Kd.V_elderB (Pv_ HO0_1.out) gb102 (Nat.le_of_eq hg.symm)) hb); replace HO1_0 := Aside0.mk (Kd.V_below (Kd.V_elderB (Pv_ HO1_0.out) gb102 (Nat.le_of_eq hg.symm)) hb); replace HO1_1 := Aside0.mk (Kd.V_below (Kd.V_elderB (Pv_ HO1_1.out) gb102 (Nat.le_of_eq hg.symm)) hb); have BK102 := Aside0.mk (hbox); have GW102 := (Bg_ hg : Aside0 (w.heap.size ≤ gb102)); have GE102 := (Bg_ hg : Aside0 (w.heap.size ≤ gb102)); replace HB := Bs_ hb; have NB101_102 := nl_ hg BK101; have NB102_101 := ng_ hg BK101; replace BK101 := kb_ BK101 hb; clear hb hbox hg) | ((with_reducible refine gate_dst (N := 4) rfl ?_); (try (refine gate_guard (by rfl) ?_; dsimp only)); refine bx_ 4 #[.slice none 0 0, .slice none 0 0] 25 ?_; intro gb103 hg w79 hbox hb; replace HO0_0 := Aside0.mk (Kd.V_below (Kd.V_elderB (Pv_ HO0_0.out) gb103 (Nat.le_of_eq hg.symm)) hb); replace HO0_1 := Aside0.mk (Kd.V_below (Kd.V_elderB (Pv_ HO0_1.out) gb103 (Nat.le_of_eq hg.symm)) hb); replace HO1_0 := Aside0.mk (Kd.V_below (Kd.V_elderB (Pv_ HO1_0.out) gb103 (Nat.le_of_eq hg.symm)) hb); replace HO1_1 := Aside0.mk (Kd.V_below (Kd.V_elderB (Pv_ HO1_1.out) gb103 (Nat.le_of_eq hg.symm)) hb); have BK103 := Aside0.mk (hbox); have GW103 := (Bg_ hg : Aside0 (w.heap.size ≤ gb103)); have GE103 := (Bg_ hg : Aside0 (w.heap.size ≤ gb103)); replace HB := Bs_ hb; have NB101_103 := nl_ hg BK101; have NB103_101 := ng_ hg BK101; replace BK101 := kb_ BK101 hb; have NB102_103 := nl_ hg BK102; have NB103_102 := ng_ hg BK102; replace BK102 := kb_ BK102 hb; clear hb hbox hg; have hnb80 := NB101_102.out; have hnc80 := NB102_101.out; have hnb81 := NB101_103.out; have hnc81 := NB103_101.out; obtain ⟨hcz82_0, hcz82_1⟩ := c2_ BK101; obtain ⟨hfz82_0, hfz82_1⟩ := f2_ BK101; have hnb83 := NB102_103.out; have hnc83 := NB103_102.out; obtain ⟨hcz84_0, hcz84_1⟩ := c2_ BK102; obtain ⟨hfz84_0, hfz84_1⟩ := f2_ BK102) | ((with_reducible refine gate_dst (N := 14) rfl ?_); (try (refine gate_guard (by rfl) ?_; dsimp only)); refine Kd.N_lit k25 _ 25 ?hg (N' := 14) ?hd (xs := ([(⟨l0_0, l0_1⟩ : S25), (⟨l1_0, l1_1⟩ : S25)] : List (S25))) (inner := [.slice A0_0 l0_0.length c0_0, .slice A0_1 l0_1.length c0_1, .slice A1_0 l1_0.length c1_0, .slice A1_1 l1_1.length c1_1]) (ok := (fun k_ => ((P0_0_ k_ ∨ P0_1_ k_ ∨ P1_0_ k_ ∨ P1_1_ k_) ∨ w.heap.size ≤ k_) ∧ k_ ≠ gb101 ∧ k_ ≠ gb102 ∧ k_ ≠ gb103)) (okp := (fun k_ => ((P0_0_ k_ ∨ P0_1_ k_ ∨ P1_0_ k_ ∨ P1_1_ k_) ∨ w.heap.size ≤ k_) ∧ k_ ≠ gb101 ∧ k_ ≠ gb102 ∧ k_ ≠ gb103)) ?hr ?hp (fun _ hk => hk) ((show ∀ k_, w79.heap.size ≤ k_ → (fun k_ => ((P0_0_ k_ ∨ P0_1_ k_ ∨ P1_0_ k_ ∨ P1_1_ k_) ∨ w.heap.size ≤ k_) ∧ k_ ≠ gb101 ∧ k_ ≠ gb102 ∧ k_ ≠ gb103) k_ from fun k_ hk => ⟨(.inr (Nat.le_trans Bz_ hk)), Kd.freshB (g := gb101) (o := .cells #[.slice A0_0 l0_0.length c0_0, .slice A0_1 l0_1.length c0_1] 25 (0, 0)) (Bk_ BK101.out) k_ hk, Kd.freshB (g := gb102) (o := .cells #[.slice A1_0 l1_0.length c1_0, .slice A1_1 l1_1.length c1_1] 25 (0, 0)) (Bk_ BK102.out) k_ hk, Kd.freshB (g := gb103) (o := .cells #[.slice none 0 0, .slice none 0 0] 25 (0, 0)) (Bk_ BK103.out) k_ hk⟩) _ (Nat.le_refl _)) (Below.refl _ _) (Nat.le_refl _) (by simp) ?_; (case hd => rfl); (case hg => rfl); (case hr => first | (go_simp; done) | (go_simp; rfl)); (case hp => exact (Reps.c2 (show Kd.FK k25 _ _ (⟨l0_0, l0_1⟩ : S25) [.slice A0_0 l0_0.length c0_0, .slice A0_1 l0_1.length c0_1] from (k25_mkF _ _ (⟨l0_0, l0_1⟩ : S25) (Kd.V_reads' (Kd.V_mono (ok' := (fun k_ => ((P0_0_ k_ ∨ P0_1_ k_ ∨ P1_0_ k_ ∨ P1_1_ k_) ∨ w.heap.size ≤ k_) ∧ k_ ≠ gb101 ∧ k_ ≠ gb102 ∧ k_ ≠ gb103)) (HO0_0.out) (fun k_ hk => ⟨hk.1.1.1, ⟨hk.1.1.2, ⟨hk.1.2, hk.2⟩⟩⟩))).2.1 (Kd.V_F (Kd.V_mono (ok' := (fun k_ => ((P0_0_ k_ ∨ P0_1_ k_ ∨ P1_0_ k_ ∨ P1_1_ k_) ∨ w.heap.size ≤ k_) ∧ k_ ≠ gb101 ∧ k_ ≠ gb102 ∧ k_ ≠ gb103)) (HO0_0.out) (fun k_ hk => ⟨hk.1.1.1, ⟨hk.1.1.2, ⟨hk.1.2, hk.2⟩⟩⟩))) (Kd.V_reads' (Kd.V_mono (ok' := (fun k_ => ((P0_0_ k_ ∨ P0_1_ k_ ∨ P1_0_ k_ ∨ P1_1_ k_) ∨ w.heap.size ≤ k_) ∧ k_ ≠ gb101 ∧ k_ ≠ gb102 ∧ k_ ≠ gb103)) (HO0_1.out) (fun k_ hk => ⟨hk.1.1.1, ⟨hk.1.1.2, ⟨hk.1.2, hk.2⟩⟩⟩))).2.1 (Kd.V_F (Kd.V_mono (ok' := (fun k_ => ((P0_0_ k_ ∨ P0_1_ k_ ∨ P1_0_ k_ ∨ P1_1_ k_) ∨ w.heap.size ≤ k_) ∧ k_ ≠ gb101 ∧ k_ ≠ gb102 ∧ k_ ≠ gb103)) (HO0_1.out) (fun k_ hk => ⟨hk.1.1.1, ⟨hk.1.1.2, ⟨hk.1.2, hk.2⟩⟩⟩))))) (Reps.c2 (show Kd.FK k25 _ _ (⟨l1_0, l1_1⟩ : S25) [.slice A1_0 l1_0.length c1_0, .slice A1_1 l1_1.length c1_1] from (k25_mkF _ _ (⟨l1_0, l1_1⟩ : S25) (Kd.V_reads' (Kd.V_mono (ok' := (fun k_ => ((P0_0_ k_ ∨ P0_1_ k_ ∨ P1_0_ k_ ∨ P1_1_ k_) ∨ w.heap.size ≤ k_) ∧ k_ ≠ gb101 ∧ k_ ≠ gb102 ∧ k_ ≠ gb103)) (HO1_0.out) (fun k_ hk => ⟨hk.1.1.1, ⟨hk.1.1.2, ⟨hk.1.2, hk.2⟩⟩⟩))).2.1 (Kd.V_F (Kd.V_mono (ok' := (fun k_ => ((P0_0_ k_ ∨ P0_1_ k_ ∨ P1_0_ k_ ∨ P1_1_ k_) ∨ w.heap.size ≤ k_) ∧ k_ ≠ gb101 ∧ k_ ≠ gb102 ∧ k_ ≠ gb103)) (HO1_0.out) (fun k_ hk => ⟨hk.1.1.1, ⟨hk.1.1.2, ⟨hk.1.2, hk.2⟩⟩⟩))) (Kd.V_reads' (Kd.V_mono (ok' := (fun k_ => ((P0_0_ k_ ∨ P0_1_ k_ ∨ P1_0_ k_ ∨ P1_1_ k_) ∨ w.heap.size ≤ k_) ∧ k_ ≠ gb101 ∧ k_ ≠ gb102 ∧ k_ ≠ gb103)) (HO1_1.out) (fun k_ hk => ⟨hk.1.1.1, ⟨hk.1.1.2, ⟨hk.1.2, hk.2⟩⟩⟩))).2.1 (Kd.V_F (Kd.V_mono (ok' := (fun k_ => ((P0_0_ k_ ∨ P0_1_ k_ ∨ P1_0_ k_ ∨ P1_1_ k_) ∨ w.heap.size ≤ k_) ∧ k_ ≠ gb101 ∧ k_ ≠ gb102 ∧ k_ ≠ gb103)) (HO1_1.out) (fun k_ hk => ⟨hk.1.1.1, ⟨hk.1.1.2, ⟨hk.1.2, hk.2⟩⟩⟩))))) (Reps.none _ _)))); intro v105 w85 ho86 hb hg_ hnew_; clear hg_ hnew_; (first | rw [← Ny104.out] at ho86 | (simp only [Int.reduceToNat] at ho86; rw [← Ny104.out] at ho86)); replace HO0_0 := Aside0.mk (Kd.V_elder' (Pv_ HO0_0.out) (Kd.N_base ho86) hb); replace HO0_1 := Aside0.mk (Kd.V_elder' (Pv_ HO0_1.out) (Kd.N_base ho86) hb); replace HO1_0 := Aside0.mk (Kd.V_elder' (Pv_ HO1_0.out) (Kd.N_base ho86) hb); replace HO1_1 := Aside0.mk (Kd.V_elder' (Pv_ HO1_1.out) (Kd.N_base ho86) hb); have HO106 := Aside0.mk (Kd.N_lower ho86 Bz_); replace BK101 := kb_ BK101 hb; replace BK102 := kb_ BK102 hb; replace BK103 := kb_ BK103 hb; replace HB := Bs_ hb; clear hb ho86; obtain ⟨Ao87, co87, eo87⟩ := Kd.N_slice HO106.out; subst eo87) | ((with_reducible refine gate_callee (f := 50) rfl ?_); refine goesL_ (some 15) rfl rfl Tryd.func50 (by kernel_rfl) rfl #[.slice Ao87 y104.length co87] rfl Ga_ ?_; (with_reducible refine (mould_fine.calls k _ _ y104 true _ ?side1 ?side2 A3.out).mono ?_); (case side1 => exact Pc_ ((Kd.N_reads' HO106.out).2.2)); (case side2 => exact (Kd.N_reads' HO106.out).2.1); rintro e w88 ⟨rfl, hb⟩; refine ⟨_, rfl, ?_⟩; replace HO0_0 := Aside0.mk (Kd.V_below (Pv_ HO0_0.out) hb); replace HO0_1 := Aside0.mk (Kd.V_below (Pv_ HO0_1.out) hb); replace HO1_0 := Aside0.mk (Kd.V_below (Pv_ HO1_0.out) hb); replace HO1_1 := Aside0.mk (Kd.V_below (Pv_ HO1_1.out) hb); replace HO106 := Aside0.mk (Kd.N_below (by (with_reducible repeat (first | apply Kd.N_alloc | apply Kd.N_drewN | apply Kd.N_drew)); exact HO106.out) hb); replace BK101 := kb_ BK101 hb; replace BK102 := kb_ BK102 hb; replace BK103 := kb_ BK103 hb; replace HB := Bs_ hb; (try clear hb); (try clear hb2); (try clear hk); (try clear hi); obtain ⟨hcz89_0, hcz89_1⟩ := c2_ BK101; obtain ⟨hfz89_0, hfz89_1⟩ := f2_ BK101) | ((with_reducible refine gate_callee (f := 65) rfl ?_); refine goesL_ (some 26) rfl rfl Tryd.func65 (by kernel_rfl) rfl #[.agg #[.slice A0_0 l0_0.length c0_0, .slice A0_1 l0_1.length c0_1]] rfl Ga_ ?_; (with_reducible refine (val_All.calls k _ _ l0_0 _ _ l0_1 t108 t111 _ ?side1 ?side2 ?side3 ?side4 A20.out ?side5).mono ?_); (case side1 => exact Pc_ ((Kd.V_reads' HO0_0.out).2.2)); (case side2 => exact (Kd.V_reads' HO0_0.out).2.1); (case side3 => exact Pc_ ((Kd.V_reads' HO0_1.out).2.2)); (case side4 => exact (Kd.V_reads' HO0_1.out).2.1); (case side5 => first | exact hG | exact Glob.below hG Bl_); rintro e w90 ⟨v109, rfl, ho0, hb⟩; refine ⟨_, rfl, ?_⟩; replace HO0_0 := Aside0.mk (Kd.V_elder' (Pv_ HO0_0.out) (Kd.R_base ho0) hb); replace HO0_1 := Aside0.mk (Kd.V_elder' (Pv_ HO0_1.out) (Kd.R_base ho0) hb); replace HO1_0 := Aside0.mk (Kd.V_elder' (Pv_ HO1_0.out) (Kd.R_base ho0) hb); replace HO1_1 := Aside0.mk (Kd.V_elder' (Pv_ HO1_1.out) (Kd.R_base ho0) hb); replace HO106 := Aside0.mk (Kd.N_elder' (by (with_reducible repeat (first | apply Kd.N_alloc | apply Kd.N_drewN | apply Kd.N_drew)); exact HO106.out) (Kd.R_base ho0) hb); have HO110 := Aside0.mk (Kd.R_lower (Kd.R_newM (M := fun k_ => (w.heap.size ≤ k_)) ho0 Bz_ (fun k_ h_ => h_)) Bz_); replace BK101 := kb_ BK101 hb; replace BK102 := kb_ BK102 hb; replace BK103 := kb_ BK103 hb; replace HB := Bs_ hb; (try clear hb); (try clear hb2); (try clear hk); (try clear hi); (try clear ho0); obtain ⟨hcz91_0, hcz91_1⟩ := c2_ BK103; obtain ⟨hfz91_0, hfz91_1⟩ := f2_ BK103))
        refine bodyPost_ret (results_ct rfl _ _ gb103 25 #[.slice none 0 0, .slice none 0 0] (0, 0) _ rfl (by (with_reducible repeat (first | refine blk_drewN ?_ _ | refine blk_drew ?_ | refine blk_alloc ?_ _)); refine blk_put (cs := #[.slice none 0 0, .slice none 0 0]) ?_ 1 _ rfl; (with_reducible repeat (first | refine blk_drewN ?_ _ | refine blk_drew ?_ | refine blk_alloc ?_ _)); refine blk_put (cs := #[.slice none 0 0, .slice none 0 0]) ?_ 0 _ rfl; (with_reducible repeat (first | refine blk_drewN ?_ _ | refine blk_drew ?_ | refine blk_alloc ?_ _)); exact BK103.out) Tryd.underlying25 rfl (by kernel_rfl)) rfl ?_
        exact ⟨_, _, Re_, by first | exact Kd.R_nil _ _ _ _ _ | exact Kd.N_nil _ _ _ _ _ | exact Kd.V_nil _ _ _ _ _ | exact Kd.Q_nil _ _ _ _ _ | exact Kd.S_nil _ _ _ _ _, by first | exact Kd.R_nil _ _ _ _ _ | exact Kd.N_nil _ _ _ _ _ | exact Kd.V_nil _ _ _ _ _ | exact Kd.Q_nil _ _ _ _ _ | exact Kd.S_nil _ _ _ _ _, Bl_⟩
  · replace c4 := Bool.eq_false_iff.mpr c4
    subst c4
    have H1 : (some (([] : List Int), ([] : List ByteArray), 1)) = some (r1, r2, r3) := by rw [if_neg (show ¬ (false = true) by decide)] at H; exact H
    clear H
    have H := H1
    clear H1
    simp only [Option.some.injEq, Prod.mk.injEq] at H
    obtain ⟨rfl, rfl, rfl⟩ := H
    go_enter Tryd.func30, Tryd.ntmps30
    go_wp2_with (first | ((with_reducible refine gate_dst (N := 2) rfl ?_); (try (refine gate_guard (by rfl) ?_; dsimp only)); refine bx_ 2 #[.slice A0_0 l0_0.length c0_0, .slice A0_1 l0_1.length c0_1] 25 ?_; intro gb101 hg w92 hbox hb; replace HO0_0 := Aside0.mk (Kd.V_below (Kd.V_elderB (Pv_ HO0_0.out) gb101 (Nat.le_of_eq hg.symm)) hb); replace HO0_1 := Aside0.mk (Kd.V_below (Kd.V_elderB (Pv_ HO0_1.out) gb101 (Nat.le_of_eq hg.symm)) hb); replace HO1_0 := Aside0.mk (Kd.V_below (Kd.V_elderB (Pv_ HO1_0.out) gb101 (Nat.le_of_eq hg.symm)) hb); replace HO1_1 := Aside0.mk (Kd.V_below (Kd.V_elderB (Pv_ HO1_1.out) gb101 (Nat.le_of_eq hg.symm)) hb); have BK101 := Aside0.mk (hbox); have GW101 := (Bg_ hg : Aside0 (w.heap.size ≤ gb101)); have GE101 := (Bg_ hg : Aside0 (w.heap.size ≤ gb101)); replace HB := Bs_ hb; clear hb hbox hg) | ((with_reducible refine gate_dst (N := 3) rfl ?_); (try (refine gate_guard (by rfl) ?_; dsimp only)); refine bx_ 3 #[.slice A1_0 l1_0.length c1_0, .slice A1_1 l1_1.length c1_1] 25 ?_; intro gb102 hg w93 hbox hb; replace HO0_0 := Aside0.mk (Kd.V_below (Kd.V_elderB (Pv_ HO0_0.out) gb102 (Nat.le_of_eq hg.symm)) hb); replace HO0_1 := Aside0.mk (Kd.V_below (Kd.V_elderB (Pv_ HO0_1.out) gb102 (Nat.le_of_eq hg.symm)) hb); replace HO1_0 := Aside0.mk (Kd.V_below (Kd.V_elderB (Pv_ HO1_0.out) gb102 (Nat.le_of_eq hg.symm)) hb); replace HO1_1 := Aside0.mk (Kd.V_below (Kd.V_elderB (Pv_ HO1_1.out) gb102 (Nat.le_of_eq hg.symm)) hb); have BK102 := Aside0.mk (hbox); have GW102 := (Bg_ hg : Aside0 (w.heap.size ≤ gb102)); have GE102 := (Bg_ hg : Aside0 (w.heap.size ≤ gb102)); replace HB := Bs_ hb; have NB101_102 := nl_ hg BK101; have NB102_101 := ng_ hg BK101; replace BK101 := kb_ BK101 hb; clear hb hbox hg) | ((with_reducible refine gate_dst (N := 4) rfl ?_); (try (refine gate_guard (by rfl) ?_; dsimp only)); refine bx_ 4 #[.slice none 0 0, .slice none 0 0] 25 ?_; intro gb103 hg w94 hbox hb; replace HO0_0 := Aside0.mk (Kd.V_below (Kd.V_elderB (Pv_ HO0_0.out) gb103 (Nat.le_of_eq hg.symm)) hb); replace HO0_1 := Aside0.mk (Kd.V_below (Kd.V_elderB (Pv_ HO0_1.out) gb103 (Nat.le_of_eq hg.symm)) hb); replace HO1_0 := Aside0.mk (Kd.V_below (Kd.V_elderB (Pv_ HO1_0.out) gb103 (Nat.le_of_eq hg.symm)) hb); replace HO1_1 := Aside0.mk (Kd.V_below (Kd.V_elderB (Pv_ HO1_1.out) gb103 (Nat.le_of_eq hg.symm)) hb); have BK103 := Aside0.mk (hbox); have GW103 := (Bg_ hg : Aside0 (w.heap.size ≤ gb103)); have GE103 := (Bg_ hg : Aside0 (w.heap.size ≤ gb103)); replace HB := Bs_ hb; have NB101_103 := nl_ hg BK101; have NB103_101 := ng_ hg BK101; replace BK101 := kb_ BK101 hb; have NB102_103 := nl_ hg BK102; have NB103_102 := ng_ hg BK102; replace BK102 := kb_ BK102 hb; clear hb hbox hg; have hnb95 := NB101_102.out; have hnc95 := NB102_101.out; have hnb96 := NB101_103.out; have hnc96 := NB103_101.out; obtain ⟨hcz97_0, hcz97_1⟩ := c2_ BK101; obtain ⟨hfz97_0, hfz97_1⟩ := f2_ BK101; have hnb98 := NB102_103.out; have hnc98 := NB103_102.out; obtain ⟨hcz99_0, hcz99_1⟩ := c2_ BK102; obtain ⟨hfz99_0, hfz99_1⟩ := f2_ BK102) | ((with_reducible refine gate_dst (N := 14) rfl ?_); (try (refine gate_guard (by rfl) ?_; dsimp only)); refine Kd.N_lit k25 _ 25 ?hg (N' := 14) ?hd (xs := ([(⟨l0_0, l0_1⟩ : S25), (⟨l1_0, l1_1⟩ : S25)] : List (S25))) (inner := [.slice A0_0 l0_0.length c0_0, .slice A0_1 l0_1.length c0_1, .slice A1_0 l1_0.length c1_0, .slice A1_1 l1_1.length c1_1]) (ok := (fun k_ => ((P0_0_ k_ ∨ P0_1_ k_ ∨ P1_0_ k_ ∨ P1_1_ k_) ∨ w.heap.size ≤ k_) ∧ k_ ≠ gb101 ∧ k_ ≠ gb102 ∧ k_ ≠ gb103)) (okp := (fun k_ => ((P0_0_ k_ ∨ P0_1_ k_ ∨ P1_0_ k_ ∨ P1_1_ k_) ∨ w.heap.size ≤ k_) ∧ k_ ≠ gb101 ∧ k_ ≠ gb102 ∧ k_ ≠ gb103)) ?hr ?hp (fun _ hk => hk) ((show ∀ k_, w94.heap.size ≤ k_ → (fun k_ => ((P0_0_ k_ ∨ P0_1_ k_ ∨ P1_0_ k_ ∨ P1_1_ k_) ∨ w.heap.size ≤ k_) ∧ k_ ≠ gb101 ∧ k_ ≠ gb102 ∧ k_ ≠ gb103) k_ from fun k_ hk => ⟨(.inr (Nat.le_trans Bz_ hk)), Kd.freshB (g := gb101) (o := .cells #[.slice A0_0 l0_0.length c0_0, .slice A0_1 l0_1.length c0_1] 25 (0, 0)) (Bk_ BK101.out) k_ hk, Kd.freshB (g := gb102) (o := .cells #[.slice A1_0 l1_0.length c1_0, .slice A1_1 l1_1.length c1_1] 25 (0, 0)) (Bk_ BK102.out) k_ hk, Kd.freshB (g := gb103) (o := .cells #[.slice none 0 0, .slice none 0 0] 25 (0, 0)) (Bk_ BK103.out) k_ hk⟩) _ (Nat.le_refl _)) (Below.refl _ _) (Nat.le_refl _) (by simp) ?_; (case hd => rfl); (case hg => rfl); (case hr => first | (go_simp; done) | (go_simp; rfl)); (case hp => exact (Reps.c2 (show Kd.FK k25 _ _ (⟨l0_0, l0_1⟩ : S25) [.slice A0_0 l0_0.length c0_0, .slice A0_1 l0_1.length c0_1] from (k25_mkF _ _ (⟨l0_0, l0_1⟩ : S25) (Kd.V_reads' (Kd.V_mono (ok' := (fun k_ => ((P0_0_ k_ ∨ P0_1_ k_ ∨ P1_0_ k_ ∨ P1_1_ k_) ∨ w.heap.size ≤ k_) ∧ k_ ≠ gb101 ∧ k_ ≠ gb102 ∧ k_ ≠ gb103)) (HO0_0.out) (fun k_ hk => ⟨hk.1.1.1, ⟨hk.1.1.2, ⟨hk.1.2, hk.2⟩⟩⟩))).2.1 (Kd.V_F (Kd.V_mono (ok' := (fun k_ => ((P0_0_ k_ ∨ P0_1_ k_ ∨ P1_0_ k_ ∨ P1_1_ k_) ∨ w.heap.size ≤ k_) ∧ k_ ≠ gb101 ∧ k_ ≠ gb102 ∧ k_ ≠ gb103)) (HO0_0.out) (fun k_ hk => ⟨hk.1.1.1, ⟨hk.1.1.2, ⟨hk.1.2, hk.2⟩⟩⟩))) (Kd.V_reads' (Kd.V_mono (ok' := (fun k_ => ((P0_0_ k_ ∨ P0_1_ k_ ∨ P1_0_ k_ ∨ P1_1_ k_) ∨ w.heap.size ≤ k_) ∧ k_ ≠ gb101 ∧ k_ ≠ gb102 ∧ k_ ≠ gb103)) (HO0_1.out) (fun k_ hk => ⟨hk.1.1.1, ⟨hk.1.1.2, ⟨hk.1.2, hk.2⟩⟩⟩))).2.1 (Kd.V_F (Kd.V_mono (ok' := (fun k_ => ((P0_0_ k_ ∨ P0_1_ k_ ∨ P1_0_ k_ ∨ P1_1_ k_) ∨ w.heap.size ≤ k_) ∧ k_ ≠ gb101 ∧ k_ ≠ gb102 ∧ k_ ≠ gb103)) (HO0_1.out) (fun k_ hk => ⟨hk.1.1.1, ⟨hk.1.1.2, ⟨hk.1.2, hk.2⟩⟩⟩))))) (Reps.c2 (show Kd.FK k25 _ _ (⟨l1_0, l1_1⟩ : S25) [.slice A1_0 l1_0.length c1_0, .slice A1_1 l1_1.length c1_1] from (k25_mkF _ _ (⟨l1_0, l1_1⟩ : S25) (Kd.V_reads' (Kd.V_mono (ok' := (fun k_ => ((P0_0_ k_ ∨ P0_1_ k_ ∨ P1_0_ k_ ∨ P1_1_ k_) ∨ w.heap.size ≤ k_) ∧ k_ ≠ gb101 ∧ k_ ≠ gb102 ∧ k_ ≠ gb103)) (HO1_0.out) (fun k_ hk => ⟨hk.1.1.1, ⟨hk.1.1.2, ⟨hk.1.2, hk.2⟩⟩⟩))).2.1 (Kd.V_F (Kd.V_mono (ok' := (fun k_ => ((P0_0_ k_ ∨ P0_1_ k_ ∨ P1_0_ k_ ∨ P1_1_ k_) ∨ w.heap.size ≤ k_) ∧ k_ ≠ gb101 ∧ k_ ≠ gb102 ∧ k_ ≠ gb103)) (HO1_0.out) (fun k_ hk => ⟨hk.1.1.1, ⟨hk.1.1.2, ⟨hk.1.2, hk.2⟩⟩⟩))) (Kd.V_reads' (Kd.V_mono (ok' := (fun k_ => ((P0_0_ k_ ∨ P0_1_ k_ ∨ P1_0_ k_ ∨ P1_1_ k_) ∨ w.heap.size ≤ k_) ∧ k_ ≠ gb101 ∧ k_ ≠ gb102 ∧ k_ ≠ gb103)) (HO1_1.out) (fun k_ hk => ⟨hk.1.1.1, ⟨hk.1.1.2, ⟨hk.1.2, hk.2⟩⟩⟩))).2.1 (Kd.V_F (Kd.V_mono (ok' := (fun k_ => ((P0_0_ k_ ∨ P0_1_ k_ ∨ P1_0_ k_ ∨ P1_1_ k_) ∨ w.heap.size ≤ k_) ∧ k_ ≠ gb101 ∧ k_ ≠ gb102 ∧ k_ ≠ gb103)) (HO1_1.out) (fun k_ hk => ⟨hk.1.1.1, ⟨hk.1.1.2, ⟨hk.1.2, hk.2⟩⟩⟩))))) (Reps.none _ _)))); intro v105 w100 ho101 hb hg_ hnew_; clear hg_ hnew_; (first | rw [← Ny104.out] at ho101 | (simp only [Int.reduceToNat] at ho101; rw [← Ny104.out] at ho101)); replace HO0_0 := Aside0.mk (Kd.V_elder' (Pv_ HO0_0.out) (Kd.N_base ho101) hb); replace HO0_1 := Aside0.mk (Kd.V_elder' (Pv_ HO0_1.out) (Kd.N_base ho101) hb); replace HO1_0 := Aside0.mk (Kd.V_elder' (Pv_ HO1_0.out) (Kd.N_base ho101) hb); replace HO1_1 := Aside0.mk (Kd.V_elder' (Pv_ HO1_1.out) (Kd.N_base ho101) hb); have HO106 := Aside0.mk (Kd.N_lower ho101 Bz_); replace BK101 := kb_ BK101 hb; replace BK102 := kb_ BK102 hb; replace BK103 := kb_ BK103 hb; replace HB := Bs_ hb; clear hb ho101; obtain ⟨Ao102, co102, eo102⟩ := Kd.N_slice HO106.out; subst eo102) | ((with_reducible refine gate_callee (f := 50) rfl ?_); refine goesL_ (some 15) rfl rfl Tryd.func50 (by kernel_rfl) rfl #[.slice Ao102 y104.length co102] rfl Ga_ ?_; (with_reducible refine (mould_fine.calls k _ _ y104 false _ ?side1 ?side2 A3.out).mono ?_); (case side1 => exact Pc_ ((Kd.N_reads' HO106.out).2.2)); (case side2 => exact (Kd.N_reads' HO106.out).2.1); rintro e w103 ⟨rfl, hb⟩; refine ⟨_, rfl, ?_⟩; replace HO0_0 := Aside0.mk (Kd.V_below (Pv_ HO0_0.out) hb); replace HO0_1 := Aside0.mk (Kd.V_below (Pv_ HO0_1.out) hb); replace HO1_0 := Aside0.mk (Kd.V_below (Pv_ HO1_0.out) hb); replace HO1_1 := Aside0.mk (Kd.V_below (Pv_ HO1_1.out) hb); replace HO106 := Aside0.mk (Kd.N_below (by (with_reducible repeat (first | apply Kd.N_alloc | apply Kd.N_drewN | apply Kd.N_drew)); exact HO106.out) hb); replace BK101 := kb_ BK101 hb; replace BK102 := kb_ BK102 hb; replace BK103 := kb_ BK103 hb; replace HB := Bs_ hb; (try clear hb); (try clear hb2); (try clear hk); (try clear hi); obtain ⟨hcz104_0, hcz104_1⟩ := c2_ BK103; obtain ⟨hfz104_0, hfz104_1⟩ := f2_ BK103))
    refine bodyPost_ret (results_ct rfl _ _ gb103 25 #[.slice none 0 0, .slice none 0 0] (0, 0) _ rfl (by (with_reducible repeat (first | refine blk_drewN ?_ _ | refine blk_drew ?_ | refine blk_alloc ?_ _)); refine blk_put (cs := #[.slice none 0 0, .slice none 0 0]) ?_ 1 _ rfl; (with_reducible repeat (first | refine blk_drewN ?_ _ | refine blk_drew ?_ | refine blk_alloc ?_ _)); refine blk_put (cs := #[.slice none 0 0, .slice none 0 0]) ?_ 0 _ rfl; (with_reducible repeat (first | refine blk_drewN ?_ _ | refine blk_drew ?_ | refine blk_alloc ?_ _)); exact BK103.out) Tryd.underlying25 rfl (by kernel_rfl)) rfl ?_
    exact ⟨_, _, Re_, by first | exact Kd.R_nil _ _ _ _ _ | exact Kd.N_nil _ _ _ _ _ | exact Kd.V_nil _ _ _ _ _ | exact Kd.Q_nil _ _ _ _ _ | exact Kd.S_nil _ _ _ _ _, by first | exact Kd.R_nil _ _ _ _ _ | exact Kd.N_nil _ _ _ _ _ | exact Kd.V_nil _ _ _ _ _ | exact Kd.Q_nil _ _ _ _ _ | exact Kd.S_nil _ _ _ _ _, Bl_⟩
/-! ### strconv_FormatInt: function 52 -/
def strconv_FormatInt.f (a0 : Int) (a1 : Int) : Option ByteArray := if a1 = 10 ∧ -9223372036854775808 ≤ a0 ∧ a0 ≤ 9223372036854775807 then some ⟨(Lib.itoa a0).toArray⟩ else none
set_option maxHeartbeats 400000 in
theorem strconv_FormatInt.calls (a0 : Int) (a1 : Int) (r : ByteArray) (w : World) (h : strconv_FormatInt.f a0 a1 = some r) (hG : Glob w) :
    Calls Tryd.prog 52 #[.int .i64 a0, .int .i64 a1] w fun e w' => e = .returned (.string r) ∧ Below w.heap.size w w' := by
  unfold strconv_FormatInt.f at h
  split at h
  case isFalse => cases h
  rename_i hb
  obtain rfl := Option.some.inj h
  obtain ⟨rfl, h0, h1⟩ := hb
  refine (Tryd.strconv_FormatInt_10 a0 h0 h1 w hG.1).mono ?_
  rintro e w' ⟨rfl, k, os, rfl⟩
  exact ⟨rfl, Lib.below_grow _ w (Nat.le_refl _) k os⟩
/-! ### num_Of: function 23 -/
def num_Of.f (a0 : Int) : Option (ByteArray) := (strconv_FormatInt.f a0 10).bind fun t101 => (some t101)
set_option maxHeartbeats 8000000 in
set_option maxRecDepth 100000 in
theorem num_Of.calls (a0 : Int) (r : ByteArray) (w : World) (h : num_Of.f a0 = some r) (hG : Glob w) :
    Calls Tryd.prog 23 #[.int .i64 a0] w fun e w' => e = .returned (.string r) ∧ Below w.heap.size w w' := by
  have HB := Aside0.mk (Below.refl w.heap.size w)
  have H : ((strconv_FormatInt.f a0 10).bind fun t101 => (some t101)) = some r := h
  clear h
  obtain ⟨t101, A2, H⟩ := bnd_ H
  try dsimp -simprocs only at H
  obtain rfl := Option.some.inj H
  go_enter Tryd.func23, Tryd.ntmps23
  go_wp2_with (first | ((with_reducible refine gate_callee (f := 52) rfl ?_); refine goesL_ (some 4) rfl rfl Tryd.func52 (by kernel_rfl) rfl #[.int .i64 a0, .int .i64 10] rfl Ga_ ?_; (with_reducible refine (strconv_FormatInt.calls a0 10 t101 _ A2.out ?side1).mono ?_); (case side1 => first | exact hG | exact Glob.below hG Bl_); rintro e w3 ⟨rfl, hb⟩; refine ⟨_, rfl, ?_⟩; replace HB := Bs_ hb; (try clear hb); (try clear hb2); (try clear hk); (try clear hi)))
  go_ret
  exact ⟨Re_, Bl_⟩
/-! ### slices_Clone_string_string: function 56 -/
def slices_Clone_string_string.f (l0 : List ByteArray) : Option (List ByteArray) := if l0.length ≤ 8796093022208 then some l0 else none
set_option maxHeartbeats 400000 in
theorem slices_Clone_string_string.calls (A0 : Option Addr) (c0 : Nat) (l0 : List ByteArray) (r : List ByteArray) (w : World) (hr0 : Kd.C Kd.string w A0 l0.length l0) (hc0 : l0.length ≤ c0) (h : slices_Clone_string_string.f l0 = some r) :
    Calls Tryd.prog 56 #[.slice A0 l0.length c0] w fun e w' => ∃ v0_ : Value, e = .returned (v0_) ∧ Kd.R Kd.string 9 w' w.heap.size (fun _ => True) v0_ r ∧ Below w.heap.size w w' := by
  unfold slices_Clone_string_string.f at h
  split at h
  case isFalse => cases h
  rename_i hb
  obtain rfl := Option.some.inj h
  rcases row_cases (enc := Value.string) (h1 := fun _ => rfl) hr0 with ⟨rfl, rfl⟩ | ⟨a, rfl, rfl⟩ | ⟨b, off, rfl, h0, hc⟩
  · refine (Tryd.slices_Clone_string_nil _ _ _).mono ?_
    rintro e w' ⟨rfl, rfl⟩
    exact ⟨_, rfl, Kd.R_nil _ _ _ _ _, Below.refl _ _⟩
  · refine (Tryd.slices_Clone_string_zero a c0 w).mono ?_
    rintro e w' ⟨v, rfl, ho, _, hb⟩
    exact ⟨_, rfl, Kd.R_of_own (enc := Value.string) (xs := []) (by simpa [encs] using ho) (fun _ _ => trivial), hb⟩
  · refine (Tryd.slices_Clone_string b off l0.length c0 l0 w (Nat.le_refl _) (by omega) (fun j hj => hc j _ hj)).mono ?_
    rintro e w' ⟨v, rfl, ho, _, hb⟩
    rw [List.take_length] at ho
    exact ⟨_, rfl, Kd.R_of_own (enc := Value.string) ho (fun _ _ => trivial), hb⟩
/-! ### val_Vector: function 64 -/
def val_Vector.f (l0 : List ByteArray) : Option (List Int × List ByteArray) := (slices_Clone_string_string.f l0).bind fun t105 => (some ((([(l0.length : Int)] : List Int)), t105))
set_option maxHeartbeats 8000000 in
set_option maxRecDepth 100000 in
theorem val_Vector.calls (A0 : Option Addr) (c0 : Nat) (l0 : List ByteArray) (r1 : List Int) (r2 : List ByteArray) (w : World) (hr0 : Kd.C Kd.string w A0 l0.length l0) (hc0 : l0.length ≤ c0) (h : val_Vector.f l0 = some (r1, r2)) :
    Calls Tryd.prog 64 #[.slice A0 l0.length c0] w fun e w' => ∃ v0_ v1_ : Value, e = .returned (.agg #[v0_, v1_]) ∧ Kd.R (Kd.int .i64) 3 w' w.heap.size (fun _ => True) v0_ r1 ∧ Kd.R Kd.string 9 w' w.heap.size (fun _ => True) v1_ r2 ∧ Below w.heap.size w w' := by
  have hu25 := Tryd.underlying25
  have HR0 := Aside0.mk hr0
  have HC0 := Aside0.mk hc0
  clear hr0 hc0
  have HB := Aside0.mk (Below.refl w.heap.size w)
  have H : ((slices_Clone_string_string.f l0).bind fun t105 => (some ((([(l0.length : Int)] : List Int)), t105))) = some (r1, r2) := h
  clear h
  obtain ⟨y102, hy102⟩ : ∃ y_ : List Int, y_ = (([(l0.length : Int)] : List Int)) := ⟨_, rfl⟩
  replace H : ((slices_Clone_string_string.f l0).bind fun t105 => (some (y102, t105))) = some (r1, r2) := by first | (rw [hy102]; with_reducible exact H) | (have H2_ := (Option.bind_some _ _).symm.trans H; rw [hy102]; with_reducible exact H2_) | (have H2_ := (Option.bind_some _ _).symm.trans H; with_reducible exact H2_) | with_reducible exact H | (rw [hy102]; exact H) | exact H
  have Ny102 := Aside0.mk hy102
  clear hy102
  obtain ⟨t105, A2, H⟩ := bnd_ H
  try dsimp -simprocs only at H
  simp only [Option.some.injEq, Prod.mk.injEq] at H
  obtain ⟨rfl, rfl⟩ := H
  go_enter Tryd.func64, Tryd.ntmps64
  go_wp2_with (first | ((with_reducible refine gate_dst (N := 2) rfl ?_); refine bx_ 2 #[.slice none 0 0, .slice none 0 0] 25 ?_; intro gb101 hg w3 hbox hb; have BK101 := Aside0.mk (hbox); have GW101 := (Bg_ hg : Aside0 (w.heap.size ≤ gb101)); have GE101 := (Bg_ hg : Aside0 (w.heap.size ≤ gb101)); replace HB := Bs_ hb; clear hb hbox hg) | ((with_reducible refine gate_dst (N := 5) rfl ?_); refine Kd.R_lit (Kd.int .i64) _ 3 ?hg (N := 5) ?hd (xs := ([(l0.length : Int)] : List Int)) (inner := [.int .i64 (l0.length : Int)]) (ok := fun _ => True) (okp := fun _ => True) ?hr ?hp (fun _ hk => hk) trivial (Below.refl _ _) (Nat.le_refl _) (by simp) ?_; (case hd => rfl); (case hg => rfl); (case hr => first | (go_simp; done) | (go_simp; rfl)); (case hp => exact (Reps.one (show Kd.M (Kd.int .i64) _ _ _ (l0.length : Int) [.int .i64 (l0.length : Int)] from rfl) (Reps.none _ _))); intro v103 w4 ho5 hb hg_ hnew_; clear hg_ hnew_; (first | rw [← Ny102.out] at ho5 | (simp only [Int.reduceToNat] at ho5; rw [← Ny102.out] at ho5)); have HO104 := Aside0.mk (Kd.R_lower ho5 Bz_); replace BK101 := kb_ BK101 hb; replace HB := Bs_ hb; clear hb ho5) | ((with_reducible refine gate_callee (f := 56) rfl ?_); refine goesL_ (some 7) rfl rfl Tryd.func56 (by kernel_rfl) rfl #[.slice A0 l0.length c0] rfl Ga_ ?_; (with_reducible refine (slices_Clone_string_string.calls _ _ l0 t105 _ ?side1 ?side2 A2.out).mono ?_); (case side1 => exact Pc_ (Kd.C_below HR0.out HB.out)); (case side2 => exact HC0.out); rintro e w6 ⟨v106, rfl, ho0, hb⟩; refine ⟨_, rfl, ?_⟩; replace HO104 := Aside0.mk (Kd.R_below (Pr_ HO104.out) hb); have HO107 := Aside0.mk (Kd.R_lower ho0 Bz_); replace BK101 := kb_ BK101 hb; replace HB := Bs_ hb; (try clear hb); (try clear hb2); (try clear hk); (try clear hi); (try clear ho0); obtain ⟨Ao7, co7, eo7⟩ := Kd.R_slice HO107.out; subst eo7; obtain ⟨Ao8, co8, eo8⟩ := Kd.R_slice HO104.out; subst eo8; obtain ⟨hcz9_0, hcz9_1⟩ := c2_ BK101; obtain ⟨hfz9_0, hfz9_1⟩ := f2_ BK101))
  refine bodyPost_ret (results_cell_row rfl _ _ gb101 25 #[.slice Ao8 y102.length co8, .slice Ao7 t105.length co7] (0, 0) _ rfl (by (with_reducible repeat (first | refine blk_drewN ?_ _ | refine blk_drew ?_ | refine blk_alloc ?_ _)); refine blk_put (cs := #[.slice Ao8 y102.length co8, .slice none 0 0]) ?_ 1 _ rfl; (with_reducible repeat (first | refine blk_drewN ?_ _ | refine blk_drew ?_ | refine blk_alloc ?_ _)); refine blk_put (cs := #[.slice none 0 0, .slice none 0 0]) ?_ 0 _ rfl; (with_reducible repeat (first | refine blk_drewN ?_ _ | refine blk_drew ?_ | refine blk_alloc ?_ _)); exact BK101.out) Tryd.underlying25 rfl (by kernel_rfl)) rfl ?_
  exact ⟨_, _, Re_, by (with_reducible repeat (first | apply Kd.R_alloc | apply Kd.R_drewN | apply Kd.R_drew)); exact Kd.R_mono (Kd.R_far (p := ⟨gb101, 1, none⟩) (Kd.R_far (p := ⟨gb101, 0, none⟩) (Kd.R_types HO104.out BK101.out (by decide)) (fun _ hk => hk.2) (.slice Ao8 y102.length co8)) (fun _ hk => hk.2) (.slice Ao7 t105.length co7)) (fun _ hk => trivial), by (with_reducible repeat (first | apply Kd.R_alloc | apply Kd.R_drewN | apply Kd.R_drew)); exact Kd.R_mono (Kd.R_far (p := ⟨gb101, 1, none⟩) (Kd.R_far (p := ⟨gb101, 0, none⟩) (Kd.R_types HO107.out BK101.out (by decide)) (fun _ hk => hk.2) (.slice Ao8 y102.length co8)) (fun _ hk => hk.2) (.slice Ao7 t105.length co7)) (fun _ hk => trivial), Bl_⟩
/-! ### val_Ints: function 49 -/
def val_Ints.l0 : Nat → List ByteArray → List Int → Int → Int → Option (List Int × List ByteArray)
  | 0, _, _, _, _ => none
  | k + 1, x3, x6, x7, x8 => if x8 < x7 then (if 0 ≤ x8 then (if x8 < (x6.length : Int) then ((num_Of.f (rd x6 x8)).bind fun t103 => (if x3.length < 8796093022208 then (val_Ints.l0 k (x3 ++ [t103]) x6 x7 (wrap64 (x8 + 1))) else (none))) else (none)) else (none)) else ((val_Vector.f x3).bind fun bt107 => (some (bt107.1, bt107.2)))
def val_Ints.f (k : Nat) (l0 : List Int) : Option (List Int × List ByteArray) := val_Ints.l0 k ([] : List ByteArray) l0 (l0.length : Int) 0
set_option maxHeartbeats 8000000 in
set_option maxRecDepth 100000 in
theorem val_Ints.calls (k : Nat) (A0 : Option Addr) (c0 : Nat) (l0 : List Int) (r1 : List Int) (r2 : List ByteArray) (w : World) (hr0 : Kd.C (Kd.int .i64) w A0 l0.length l0) (hc0 : l0.length ≤ c0) (h : val_Ints.f k l0 = some (r1, r2)) (hG : Glob w) :
    Calls Tryd.prog 49 #[.slice A0 l0.length c0] w fun e w' => ∃ v0_ v1_ : Value, e = .returned (.agg #[v0_, v1_]) ∧ Kd.R (Kd.int .i64) 3 w' w.heap.size (fun _ => True) v0_ r1 ∧ Kd.R Kd.string 9 w' w.heap.size (fun _ => True) v1_ r2 ∧ Below w.heap.size w w' := by
  have hu25 := Tryd.underlying25
  have HR0 := Aside0.mk hr0
  have HC0 := Aside0.mk hc0
  clear hr0 hc0
  have HB := Aside0.mk (Below.refl w.heap.size w)
  have H : (val_Ints.l0 k ([] : List ByteArray) l0 (l0.length : Int) 0) = some (r1, r2) := h
  clear h
  have H' := Aside0.mk H
  clear H
  go_enter Tryd.func49, Tryd.ntmps49
  go_wp2_with (first | ((with_reducible refine gate_dst (N := 2) rfl ?_); refine bx_ 2 #[.slice none 0 0, .slice none 0 0] 25 ?_; intro gb101 hg w2 hbox hb; have BK101 := Aside0.mk (hbox); have GW101 := (Bg_ hg : Aside0 (w.heap.size ≤ gb101)); have GE101 := (Bg_ hg : Aside0 (w.heap.size ≤ gb101)); replace HB := Bs_ hb; clear hb hbox hg))
  go_loopg [3, 8] k (fun kq v3 v8 w' => ∃ (x3_1 : List ByteArray) (x8_1 : Int), v8 = .int .i64 x8_1 ∧ Aside0 (val_Ints.l0 kq x3_1 l0 (l0.length : Int) x8_1 = some (r1, r2)) ∧ Aside0 (kq ≤ k) ∧ Aside0 (Kd.R Kd.string 9 w' w.heap.size (fun _ => True) v3 x3_1) ∧ Aside0 (w'.heap[gb101]? = some (.cells #[(.slice none 0 0), (.slice none 0 0)] 25 (0, 0))) ∧ Aside0 (Below w.heap.size w w'))
  case atStart => exact ⟨(([] : List ByteArray)), (0), Rf_, H', ⟨Nat.le_refl _⟩, ⟨by first | exact Kd.R_nil _ _ _ _ _ | exact Kd.N_nil _ _ _ _ _ | exact Kd.V_nil _ _ _ _ _ | exact Kd.Q_nil _ _ _ _ _ | exact Kd.S_nil _ _ _ _ _⟩, ⟨by (with_reducible repeat (first | refine blk_drewN ?_ _ | refine blk_drew ?_ | refine blk_alloc ?_ _)); exact BK101.out⟩, ⟨Bl_⟩⟩
  case round =>
    clear H'
    try clear p2
    obtain ⟨x3_1, x8_1, rfl, HA, HK1, HO_3, BK101, HB⟩ := hrel
    cases gk with
    | zero => exact absurd HA.out (by simp [val_Ints.l0])
    | succ k1 =>
      have H := HA.out
      clear HA
      simp only [val_Ints.l0] at H
      by_cases c3 : x8_1 < (l0.length : Int)
      · rw [if_pos c3] at H
        have c3b0 : decide (x8_1 < (l0.length : Int)) = true := decide_eq_true c3
        clear c3
        by_cases c4 : 0 ≤ x8_1
        · rw [if_pos c4] at H
          have c4b0 : decide (0 ≤ x8_1) = true := decide_eq_true c4
          clear c4
          by_cases c5 : x8_1 < (l0.length : Int)
          · rw [if_pos c5] at H
            have c5b0 : decide (x8_1 < (l0.length : Int)) = true := decide_eq_true c5
            clear c5
            obtain ⟨t103, A6, H⟩ := bnd_ H
            try dsimp -simprocs only at H
            by_cases c7 : x3_1.length < 8796093022208
            · rw [if_pos c7] at H
              have LMc7 := Aside0.mk c7
              clear c7
              obtain ⟨y104, hy104⟩ : ∃ y_ : List ByteArray, y_ = (x3_1 ++ [t103]) := ⟨_, rfl⟩
              replace H : (val_Ints.l0 k1 y104 l0 (l0.length : Int) (wrap64 (x8_1 + 1))) = some (r1, r2) := by first | (rw [hy104]; with_reducible exact H) | (have H2_ := (Option.bind_some _ _).symm.trans H; rw [hy104]; with_reducible exact H2_) | (have H2_ := (Option.bind_some _ _).symm.trans H; with_reducible exact H2_) | with_reducible exact H | (rw [hy104]; exact H) | exact H
              have Ny104 := Aside0.mk hy104
              clear hy104
              have H' := Aside0.mk H
              clear H
              have p102 : 0 ≤ (x8_1 : Int) := of_decide_eq_true As_
              have q102 : x8_1 < (l0.length : Int) := of_decide_eq_true As_
              obtain ⟨ad102, e102, hx102_0⟩ := Kd.at_int HR0.out x8_1 p102 q102
              cases e102
              replace hx102_0 := (HB.out.cell (World.block_lt_of_cell? w _ hx102_0)).trans hx102_0
              replace p102 := eq_true p102
              replace q102 := eq_true q102
              go_wp2_with (first | ((with_reducible refine gate_callee (f := 23) rfl ?_); refine goesL_ (some 14) rfl rfl Tryd.func23 (by kernel_rfl) rfl #[.int .i64 (rd l0 x8_1)] rfl Ga_ ?_; (with_reducible refine (num_Of.calls (rd l0 x8_1) t103 _ A6.out ?side1).mono ?_); (case side1 => first | exact hG | exact Glob.below hG Bl_); rintro e w8 ⟨rfl, hb⟩; refine ⟨_, rfl, ?_⟩; replace HO_3 := Aside0.mk (Kd.R_below (Pr_ HO_3.out) hb); replace BK101 := kb_ BK101 hb; replace HB := Bs_ hb; (try clear hb); (try clear hb2); (try clear hk); (try clear hi)) | ((with_reducible refine gate_builtin (b := .append) (xs := #[.tmp 12, .tmp 15]) rfl ?_); at_builtin; refine Kd.R_append Kd.string (w0 := w) w.heap.size rfl (.tmp 12) (.tmp 15) 23 9 (.string ⟨#[]⟩) 16 rfl Tryd.underlying23 info9 rfl (by decide) (by omega) u3 x3_1 t103 [.string t103] (fun _ => True) (fun _ => False) rfl rfl ?aP (fun _ hk => hk.elim) ?aF ?aO ?aB ?aS ?aL ?_; (case aP => exact rfl); (case aB => exact Bl_); (case aF => exact (fun _ _ => trivial)); (case aO => exact (Pr_ HO_3.out)); (case aS => exact Bz_); (case aL => have := LMc7.out; omega); intro v105 w9 ho hb hg hat; rw [← Ny104.out] at ho; replace BK101 := kg_ BK101 hg (Kd.R_ne HO_3.out BK101.out (by decide)); replace HB := Aside0.mk (hb); have HO106 := Aside0.mk (ho); clear HO_3; clear ho hb hg hat))
              go_roundg k1
              case measure => have := HK1.out; omega
              case rel => exact ⟨(y104), (wrap64 (x8_1 + 1)), Rf_, H', ⟨by have := HK1.out; omega⟩, ⟨by (with_reducible repeat (first | apply Kd.R_alloc | apply Kd.R_drewN | apply Kd.R_drew)); exact HO106.out⟩, ⟨by (with_reducible repeat (first | refine blk_drewN ?_ _ | refine blk_drew ?_ | refine blk_alloc ?_ _)); exact BK101.out⟩, ⟨Bl_⟩⟩
            · rw [if_neg c7] at H
              exact absurd H (by simp)
          · rw [if_neg c5] at H
            exact absurd H (by simp)
        · rw [if_neg c4] at H
          exact absurd H (by simp)
      · rw [if_neg c3] at H
        have c3b0 : decide (x8_1 < (l0.length : Int)) = false := decide_eq_false c3
        clear c3
        obtain ⟨⟨t107, t110⟩, A10, H⟩ := bnd_ H
        try dsimp -simprocs only at H
        simp only [Option.some.injEq, Prod.mk.injEq] at H
        obtain ⟨rfl, rfl⟩ := H
        obtain ⟨Ao11, co11, eo11⟩ := Kd.R_slice HO_3.out
        subst eo11
        go_wp2_with (first | ((with_reducible refine gate_callee (f := 64) rfl ?_); refine goesL_ (some 19) rfl rfl Tryd.func64 (by kernel_rfl) rfl #[.slice Ao11 x3_1.length co11] rfl Ga_ ?_; (with_reducible refine (val_Vector.calls _ _ x3_1 t107 t110 _ ?side1 ?side2 A10.out).mono ?_); (case side1 => exact Pc_ ((Kd.R_reads' HO_3.out).2.2)); (case side2 => exact (Kd.R_reads' HO_3.out).2.1); rintro e w12 ⟨v108, v111, rfl, ho0, ho1, hb⟩; refine ⟨_, rfl, ?_⟩; have HO109 := Aside0.mk (Kd.R_lower ho0 Bz_); have HO112 := Aside0.mk (Kd.R_lower (Kd.R_new' ho1 (Kd.R_lt (Pr_ HO_3.out))) Bz_); replace HO_3 := Aside0.mk (Kd.R_elder' (Pr_ HO_3.out) (Kd.R_base ho1) hb); replace BK101 := kb_ BK101 hb; replace HB := Bs_ hb; (try clear hb); (try clear hb2); (try clear hk); (try clear hi); (try clear ho0); (try clear ho1); obtain ⟨Ao13, co13, eo13⟩ := Kd.R_slice HO109.out; subst eo13; obtain ⟨hcz14_0, hcz14_1⟩ := c2_ BK101; obtain ⟨hfz14_0, hfz14_1⟩ := f2_ BK101; obtain ⟨Ao15, co15, eo15⟩ := Kd.R_slice HO112.out; subst eo15))
        refine bodyPost_ret (results_cell_row rfl _ _ gb101 25 #[.slice Ao13 t107.length co13, .slice Ao15 t110.length co15] (0, 0) _ rfl (by (with_reducible repeat (first | refine blk_drewN ?_ _ | refine blk_drew ?_ | refine blk_alloc ?_ _)); refine blk_put (cs := #[.slice Ao13 t107.length co13, .slice none 0 0]) ?_ 1 _ rfl; (with_reducible repeat (first | refine blk_drewN ?_ _ | refine blk_drew ?_ | refine blk_alloc ?_ _)); refine blk_put (cs := #[.slice none 0 0, .slice none 0 0]) ?_ 0 _ rfl; (with_reducible repeat (first | refine blk_drewN ?_ _ | refine blk_drew ?_ | refine blk_alloc ?_ _)); exact BK101.out) Tryd.underlying25 rfl (by kernel_rfl)) rfl ?_
        exact ⟨_, _, Re_, by (with_reducible repeat (first | apply Kd.R_alloc | apply Kd.R_drewN | apply Kd.R_drew)); exact Kd.R_mono (Kd.R_far (p := ⟨gb101, 1, none⟩) (Kd.R_far (p := ⟨gb101, 0, none⟩) (Kd.R_types HO109.out BK101.out (by decide)) (fun _ hk => hk.2) (.slice Ao13 t107.length co13)) (fun _ hk => hk.2) (.slice Ao15 t110.length co15)) (fun _ hk => trivial), by (with_reducible repeat (first | apply Kd.R_alloc | apply Kd.R_drewN | apply Kd.R_drew)); exact Kd.R_mono (Kd.R_far (p := ⟨gb101, 1, none⟩) (Kd.R_far (p := ⟨gb101, 0, none⟩) (Kd.R_types HO112.out BK101.out (by decide)) (fun _ hk => hk.2) (.slice Ao13 t107.length co13)) (fun _ hk => hk.2) (.slice Ao15 t110.length co15)) (fun _ hk => trivial), Bl_⟩
/-! ### val_Int: function 51 -/
def val_Int.f (l0_0 : List Int) (l0_1 : List ByteArray) : Option (Int × Int) := if (l0_0.length : Int) > 0 then (some (0, 3)) else (if (l0_1.length : Int) = 1 then (if 0 < (l0_1.length : Int) then ((val_one.f (rdOf ByteArray.empty l0_1 0)).bind fun bt103 => (some (bt103.1, bt103.2))) else (none)) else (some (0, 3)))
set_option maxHeartbeats 8000000 in
set_option maxRecDepth 100000 in
theorem val_Int.calls (A0_0 : Option Addr) (c0_0 : Nat) (l0_0 : List Int) (A0_1 : Option Addr) (c0_1 : Nat) (l0_1 : List ByteArray) (r1 : Int) (r2 : Int) (w : World) (hr0_0 : Kd.C (Kd.int .i64) w A0_0 l0_0.length l0_0) (hc0_0 : l0_0.length ≤ c0_0) (hr0_1 : Kd.C Kd.string w A0_1 l0_1.length l0_1) (hc0_1 : l0_1.length ≤ c0_1) (h : val_Int.f l0_0 l0_1 = some (r1, r2)) (hG : Glob w) :
    Calls Tryd.prog 51 #[.agg #[.slice A0_0 l0_0.length c0_0, .slice A0_1 l0_1.length c0_1]] w fun e w' => e = .returned (.tuple #[.int .i64 r1, .int .i64 r2]) ∧ Below w.heap.size w w' := by
  have hu25 := Tryd.underlying25
  have HR0_0 := Aside0.mk hr0_0
  have HC0_0 := Aside0.mk hc0_0
  clear hr0_0 hc0_0
  have HR0_1 := Aside0.mk hr0_1
  have HC0_1 := Aside0.mk hc0_1
  clear hr0_1 hc0_1
  have HB := Aside0.mk (Below.refl w.heap.size w)
  have H : (if (l0_0.length : Int) > 0 then (some (0, 3)) else (if (l0_1.length : Int) = 1 then (if 0 < (l0_1.length : Int) then ((val_one.f (rdOf ByteArray.empty l0_1 0)).bind fun bt103 => (some (bt103.1, bt103.2))) else (none)) else (some (0, 3)))) = some (r1, r2) := h
  clear h
  by_cases c2 : (l0_0.length : Int) > 0
  · rw [if_pos c2] at H
    have c2b0 : decide (0 < (l0_0.length : Int)) = true := decide_eq_true c2
    have c2b1 : decide (0 < l0_0.length) = true := decide_eq_true (by omega)
    clear c2
    simp only [Option.some.injEq, Prod.mk.injEq] at H
    obtain ⟨rfl, rfl⟩ := H
    go_enter Tryd.func51, Tryd.ntmps51
    go_wp2_with (first | ((with_reducible refine gate_dst (N := 1) rfl ?_); (try (refine gate_guard (by rfl) ?_; dsimp only)); refine bx_ 1 #[.slice A0_0 l0_0.length c0_0, .slice A0_1 l0_1.length c0_1] 25 ?_; intro gb101 hg w3 hbox hb; have BK101 := Aside0.mk (hbox); have GW101 := (Bg_ hg : Aside0 (w.heap.size ≤ gb101)); have GE101 := (Bg_ hg : Aside0 (w.heap.size ≤ gb101)); replace HB := Bs_ hb; clear hb hbox hg; obtain ⟨hcz4_0, hcz4_1⟩ := c2_ BK101; obtain ⟨hfz4_0, hfz4_1⟩ := f2_ BK101))
    go_ret2
    exact ⟨Re_, Bl_⟩
  · rw [if_neg c2] at H
    have c2b0 : decide (0 < (l0_0.length : Int)) = false := decide_eq_false c2
    have c2b1 : decide (0 < l0_0.length) = false := decide_eq_false (by omega)
    clear c2
    by_cases c5 : (l0_1.length : Int) = 1
    · rw [if_pos c5] at H
      have c5b0 : ((l0_1.length : Int) == 1) = true := beq_iff_eq.mpr c5
      have c5b1 : ((l0_1.length : Int) != 1) = false := bne_eq_false_iff_eq.mpr c5
      clear c5
      by_cases c6 : 0 < (l0_1.length : Int)
      · rw [if_pos c6] at H
        have c6b0 : decide (0 < (l0_1.length : Int)) = true := decide_eq_true c6
        have c6b1 : decide (0 < l0_1.length) = true := decide_eq_true (by omega)
        clear c6
        obtain ⟨⟨t103, t104⟩, A7, H⟩ := bnd_ H
        try dsimp -simprocs only at H
        simp only [Option.some.injEq, Prod.mk.injEq] at H
        obtain ⟨rfl, rfl⟩ := H
        go_enter Tryd.func51, Tryd.ntmps51
        go_wp2_with (first | ((with_reducible refine gate_dst (N := 1) rfl ?_); (try (refine gate_guard (by rfl) ?_; dsimp only)); refine bx_ 1 #[.slice A0_0 l0_0.length c0_0, .slice A0_1 l0_1.length c0_1] 25 ?_; intro gb101 hg w8 hbox hb; have BK101 := Aside0.mk (hbox); have GW101 := (Bg_ hg : Aside0 (w.heap.size ≤ gb101)); have GE101 := (Bg_ hg : Aside0 (w.heap.size ≤ gb101)); replace HB := Bs_ hb; clear hb hbox hg; obtain ⟨hcz9_0, hcz9_1⟩ := c2_ BK101; obtain ⟨hfz9_0, hfz9_1⟩ := f2_ BK101; have p102 : 0 ≤ (0 : Int) := (by omega); have q102 : 0 < (l0_1.length : Int) := of_decide_eq_true As_; obtain ⟨ad102, e102, hx102_0⟩ := Kd.at_string HR0_1.out 0 p102 q102; cases e102; have qi102 : (0 < l0_1.length) = True := eq_true (by omega); (try rw [show ((0 : Int)).toNat = 0 from rfl] at hx102_0); (try rw [Addr.add_zero'] at hx102_0); replace hx102_0 := (HB.out.cell (World.block_lt_of_cell? w _ hx102_0)).trans hx102_0; replace p102 := eq_true p102; replace q102 := eq_true q102) | ((with_reducible refine gate_callee (f := 86) rfl ?_); refine goesL_ (some 18) rfl rfl Tryd.func86 (by kernel_rfl) rfl #[.string (rdOf ByteArray.empty l0_1 0)] rfl Ga_ ?_; (with_reducible refine (val_one.calls (rdOf ByteArray.empty l0_1 0) t103 t104 _ A7.out ?side1).mono ?_); (case side1 => first | exact hG | exact Glob.below hG Bl_); rintro e w10 ⟨rfl, hb⟩; refine ⟨_, rfl, ?_⟩; replace BK101 := kb_ BK101 hb; replace HB := Bs_ hb; (try clear hb); (try clear hb2); (try clear hk); (try clear hi)))
        go_ret2
        exact ⟨Re_, Bl_⟩
      · rw [if_neg c6] at H
        exact absurd H (by simp)
    · rw [if_neg c5] at H
      have c5b0 : ((l0_1.length : Int) == 1) = false := beq_eq_false_iff_ne.mpr c5
      have c5b1 : ((l0_1.length : Int) != 1) = true := bne_iff_ne.mpr c5
      simp only [Option.some.injEq, Prod.mk.injEq] at H
      obtain ⟨rfl, rfl⟩ := H
      go_enter Tryd.func51, Tryd.ntmps51
      go_wp2_with (first | ((with_reducible refine gate_dst (N := 1) rfl ?_); (try (refine gate_guard (by rfl) ?_; dsimp only)); refine bx_ 1 #[.slice A0_0 l0_0.length c0_0, .slice A0_1 l0_1.length c0_1] 25 ?_; intro gb101 hg w11 hbox hb; have BK101 := Aside0.mk (hbox); have GW101 := (Bg_ hg : Aside0 (w.heap.size ≤ gb101)); have GE101 := (Bg_ hg : Aside0 (w.heap.size ≤ gb101)); replace HB := Bs_ hb; clear hb hbox hg; obtain ⟨hcz12_0, hcz12_1⟩ := c2_ BK101; obtain ⟨hfz12_0, hfz12_1⟩ := f2_ BK101))
      go_ret2
      exact ⟨Re_, Bl_⟩

end Go.Proofs.YtfjilihppnndkaaDoor.P
