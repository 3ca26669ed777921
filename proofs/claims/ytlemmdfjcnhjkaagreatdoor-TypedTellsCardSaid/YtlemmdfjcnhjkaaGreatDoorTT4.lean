-- Written by drive.py of this claim's own session, by way of the kit's print. Lean checks it.
import Derived.Test.YtlemmdfjcnhjkaaGreatDoorTT1
import Derived.Test.YtlemmdfjcnhjkaaGreatDoorTT3
import Derived.Test.YtlemmdfjcnhjkaaGreatDoorTT2
namespace Go.Proofs.YtlemmdfjcnhjkaaGreatDoor.P
open Go.RowKit Go.Proofs.YtlemmdfjcnhjkaaGreatDoorW.PrintWords Go.Proofs.YtlemmdfjcnhjkaaGreatDoorW.PrintLast Go.Proofs.YtlemmdfjcnhjkaaGreatDoorW.PrintMore
attribute [local go_sem] max2_int min2_int max_two min_two max_three min_three max_four min_four   -- for this text's walks alone
set_option linter.unusedVariables false
set_option linter.unusedSimpArgs false

/-! ### reredosref05_Val: function 16 -/
def reredosref05_Val.l0 : Nat → Int → Int → List Int → ByteArray → List Int → List ByteArray → Option (List Int × List ByteArray × Bool)
  | 0, _, _, _, _, _, _ => none
  | k + 1, x5, x102000, x102001, x102002, x105000, x105001 => (reredosref05_Many.f k x102000 x102001 x102002).bind fun t105 => (if x5 < t105 then ((reredosref05_At.f k x102000 x102001 x102002 x5).bind fun bt106 => ((reredosref01_Of.f k bt106.1).bind fun t108 => (if x105001.length < 8796093022208 then (reredosref05_Val.l0 k (wrap64 (x5 + 1)) x102000 x102001 x102002 x105000 (x105001 ++ [t108])) else (none)))) else (some (x105000, x105001, true)))
def reredosref05_Val.f (k : Nat) (a0_0 : Int) (l0_1 : List Int) (a0_2 : ByteArray) : Option (List Int × List ByteArray × Bool) := (reredosref05_May.f k a0_0 l0_1 a0_2).bind fun t103 => (if t103 = true then (reredosref05_Val.l0 k 0 a0_0 l0_1 a0_2 l0_1 ([] : List ByteArray)) else (some (([] : List Int), ([] : List ByteArray), false)))
def reredosref05_Val.T8 : Bool × List (List Nat × List Nat) := (true, [([], []), ([0], [0]), ([], []), ([2], [2]), ([3], [3]), ([1, 4, 3], [1, 4]), ([0, 1, 2, 3, 4, 5], []), ([6, 5, 5, 0, 1, 2, 3, 4, 5], [5, 6])])
def reredosref05_Val.B8 : List Nat := [0, 1, 0, 4, 12, 31, 63, 127]
theorem reredosref05_Val.tab8 : rtab .any (opsOf Tryz.f16 8) = reredosref05_Val.T8 := by kernel_rfl
theorem reredosref05_Val.bits8 : waitsOk reredosref05_Val.T8.2 reredosref05_Val.B8 = true := by kernel_rfl
set_option maxHeartbeats 8000000 in
set_option maxRecDepth 100000 in
theorem reredosref05_Val.calls (k : Nat) (a0_0 : Int) (P0_1_ : Nat → Prop) (A0_1 : Option Addr) (c0_1 : Nat) (l0_1 : List Int) (a0_2 : ByteArray) (r1 : List Int) (r2 : List ByteArray) (r3 : Bool) (w : World) (hs0_1 : Kd.V (Kd.int .i64) 3 w w.heap.size (fun k_ => P0_1_ k_) (.slice A0_1 l0_1.length c0_1) l0_1) (h : reredosref05_Val.f k a0_0 l0_1 a0_2 = some (r1, r2, r3)) :
    Calls Tryz.prog 16 #[.agg #[.int .i64 a0_0, .slice A0_1 l0_1.length c0_1, .string a0_2]] w fun e w' => ∃ v0_ v1_ : Value, e = .returned (.tuple #[.agg #[v0_, v1_], .bool r3]) ∧ Kd.V (Kd.int .i64) 3 w' w.heap.size (fun k_ => (P0_1_ k_ ∨ w.heap.size ≤ k_) ∧ some k_ ≠ (v1_ : Value).ownBlock) v0_ r1 ∧ Kd.R Kd.string 9 w' w.heap.size (fun k_ => (w.heap.size ≤ k_)) v1_ r2 ∧ Below w.heap.size w w' := by
  have hu24 := Tryz.underlying24
  have hu34 := Tryz.underlying34
  have HO0_1 := Aside0.mk (show Kd.V (Kd.int .i64) 3 w w.heap.size (fun k_ => (P0_1_ k_ ∨ w.heap.size ≤ k_)) (.slice A0_1 l0_1.length c0_1) l0_1 from Kd.V_mono hs0_1 (fun k_ hk => .inl hk))
  have HB := Aside0.mk (Below.refl w.heap.size w)
  have H : ((reredosref05_May.f k a0_0 l0_1 a0_2).bind fun t103 => (if t103 = true then (reredosref05_Val.l0 k 0 a0_0 l0_1 a0_2 l0_1 ([] : List ByteArray)) else (some (([] : List Int), ([] : List ByteArray), false)))) = some (r1, r2, r3) := h
  clear h
  obtain ⟨t103, A2, H⟩ := bnd_ H
  try dsimp -simprocs only at H
  by_cases c3 : t103 = true
  · subst c3
    have H1 : (reredosref05_Val.l0 k 0 a0_0 l0_1 a0_2 l0_1 ([] : List ByteArray)) = some (r1, r2, r3) := by rw [if_pos rfl] at H; exact H
    clear H
    have H := H1
    clear H1
    have H' := Aside0.mk H
    clear H
    go_enter Tryz.func16, Tryz.ntmps16
    go_wp2_with (first | ((with_reducible refine gate_dst (N := 1) rfl ?_); refine bx_ 1 #[.int .i64 a0_0, .slice A0_1 l0_1.length c0_1, .string a0_2] 24 ?_; intro gb101 hg w4 hbox hb; replace HO0_1 := Aside0.mk (Kd.V_below (Kd.V_elderB (Pv_ HO0_1.out) gb101 (Nat.le_of_eq hg.symm)) hb); have BK101 := Aside0.mk (hbox); have GW101 := (Bg_ hg : Aside0 (w.heap.size ≤ gb101)); have GE101 := (Bg_ hg : Aside0 (w.heap.size ≤ gb101)); replace HB := Bs_ hb; clear hb hbox hg) | ((with_reducible refine gate_dst (N := 2) rfl ?_); refine bx_ 2 #[.slice none 0 0, .slice none 0 0] 34 ?_; intro gb102 hg w5 hbox hb; replace HO0_1 := Aside0.mk (Kd.V_below (Kd.V_elderB (Pv_ HO0_1.out) gb102 (Nat.le_of_eq hg.symm)) hb); have BK102 := Aside0.mk (hbox); have GW102 := (Bg_ hg : Aside0 (w.heap.size ≤ gb102)); have GE102 := (Bg_ hg : Aside0 (w.heap.size ≤ gb102)); replace HB := Bs_ hb; have NB101_102 := nl_ hg BK101; have NB102_101 := ng_ hg BK101; replace BK101 := kb_ BK101 hb; clear hb hbox hg; have hnb6 := NB101_102.out; have hnc6 := NB102_101.out; obtain ⟨hcz7_0, hcz7_1, hcz7_2⟩ := c3_ BK101; obtain ⟨hfz7_0, hfz7_1, hfz7_2⟩ := f3_ BK101) | ((with_reducible refine gate_callee (f := 20) rfl ?_); refine goesL_ (some 9) rfl rfl Tryz.func20 (by kernel_rfl) rfl #[.agg #[.int .i64 a0_0, .slice A0_1 l0_1.length c0_1, .string a0_2]] rfl Ga_ ?_; (with_reducible refine (reredosref05_May.calls k a0_0 _ _ l0_1 a0_2 true _ ?side1 ?side2 A2.out).mono ?_); (case side1 => exact Pc_ ((Kd.V_reads' HO0_1.out).2.2)); (case side2 => exact (Kd.V_reads' HO0_1.out).2.1); rintro e w8 ⟨rfl, hb⟩; refine ⟨_, rfl, ?_⟩; replace HO0_1 := Aside0.mk (Kd.V_below (Pv_ HO0_1.out) hb); replace BK101 := kb_ BK101 hb; replace BK102 := kb_ BK102 hb; replace HB := Bs_ hb; (try clear hb); (try clear hb2); (try clear hk); (try clear hi); obtain ⟨hcz9_0, hcz9_1, hcz9_2⟩ := c3_ BK101; obtain ⟨hfz9_0, hfz9_1, hfz9_2⟩ := f3_ BK101) | ((with_reducible refine gate_dst (N := 4) rfl ?_); refine bx_ 4 #[.slice none 0 0, .slice none 0 0] 34 ?_; intro gb104 hg w10 hbox hb; replace HO0_1 := Aside0.mk (Kd.V_below (Kd.V_elderB (Pv_ HO0_1.out) gb104 (Nat.le_of_eq hg.symm)) hb); have BK104 := Aside0.mk (hbox); have GW104 := (Bg_ hg : Aside0 (w.heap.size ≤ gb104)); have GE104 := (Bg_ hg : Aside0 (w.heap.size ≤ gb104)); replace HB := Bs_ hb; have NB101_104 := nl_ hg BK101; have NB104_101 := ng_ hg BK101; replace BK101 := kb_ BK101 hb; have NB102_104 := nl_ hg BK102; have NB104_102 := ng_ hg BK102; replace BK102 := kb_ BK102 hb; clear hb hbox hg; have hnb11 := NB104_101.out; have hnc11 := NB101_104.out; have hnb12 := NB104_102.out; have hnc12 := NB102_104.out; obtain ⟨hcz13_0, hcz13_1⟩ := c2_ BK104; obtain ⟨hfz13_0, hfz13_1⟩ := f2_ BK104))
    go_loopg [5] k (fun kq v5 w' => ∃ (x5_1 : Int) (x105001_1 : List ByteArray) (u105001 : Value), v5 = .int .i64 x5_1 ∧ Aside0 (reredosref05_Val.l0 kq x5_1 a0_0 l0_1 a0_2 l0_1 x105001_1 = some (r1, r2, r3)) ∧ Aside0 (kq ≤ k) ∧ Aside0 (Kd.V (Kd.int .i64) 3 w' w.heap.size (fun k_ => (P0_1_ k_ ∨ w.heap.size ≤ k_) ∧ some k_ ≠ (u105001 : Value).ownBlock ∧ k_ ≠ gb101 ∧ k_ ≠ gb102 ∧ k_ ≠ gb104) (.slice A0_1 l0_1.length c0_1) l0_1) ∧ Aside0 (Kd.V (Kd.int .i64) 3 w' w.heap.size (fun k_ => (P0_1_ k_ ∨ w.heap.size ≤ k_) ∧ some k_ ≠ (u105001 : Value).ownBlock ∧ k_ ≠ gb101 ∧ k_ ≠ gb102 ∧ k_ ≠ gb104) (.slice A0_1 l0_1.length c0_1) l0_1) ∧ Aside0 (Kd.R Kd.string 9 w' w.heap.size (fun k_ => (w.heap.size ≤ k_)) u105001 x105001_1) ∧ Aside0 (w'.heap[gb101]? = some (.cells #[.int .i64 a0_0, (.slice A0_1 l0_1.length c0_1), .string a0_2] 24 (0, 0))) ∧ Aside0 (w'.heap[gb102]? = some (.cells #[(.slice none 0 0), (.slice none 0 0)] 34 (0, 0))) ∧ Aside0 (w'.heap[gb104]? = some (.cells #[(.slice A0_1 l0_1.length c0_1), u105001] 34 (0, 0))) ∧ Aside0 (Below w.heap.size w w'))
    case atStart => exact ⟨(0), (([] : List ByteArray)), (.slice none 0 0), Rf_, H', ⟨Nat.le_refl _⟩, ⟨by (with_reducible repeat (first | apply Kd.V_alloc | apply Kd.V_drewN | apply Kd.V_drew)); exact Kd.V_mono (Kd.V_far (p := ⟨gb104, 1, none⟩) (Kd.V_far (p := ⟨gb104, 0, none⟩) (Kd.V_mono HO0_1.out (fun k_ hk => (⟨hk, hk.2⟩ : _ ∧ k_ ≠ gb104))) (fun _ hk => hk.2) (.slice A0_1 l0_1.length c0_1)) (fun _ hk => hk.2) (.slice none 0 0)) (fun _ hk => ⟨hk.1.1.1.1, ⟨(by simp [Value.ownBlock]), ⟨hk.1.1.1.2, ⟨hk.1.1.2, hk.1.2⟩⟩⟩⟩)⟩, ⟨by (with_reducible repeat (first | apply Kd.V_alloc | apply Kd.V_drewN | apply Kd.V_drew)); exact Kd.V_mono (Kd.V_far (p := ⟨gb104, 1, none⟩) (Kd.V_far (p := ⟨gb104, 0, none⟩) (Kd.V_mono HO0_1.out (fun k_ hk => (⟨hk, hk.2⟩ : _ ∧ k_ ≠ gb104))) (fun _ hk => hk.2) (.slice A0_1 l0_1.length c0_1)) (fun _ hk => hk.2) (.slice none 0 0)) (fun _ hk => ⟨hk.1.1.1.1, ⟨(by simp [Value.ownBlock]), ⟨hk.1.1.1.2, ⟨hk.1.1.2, hk.1.2⟩⟩⟩⟩)⟩, ⟨by first | exact Kd.R_nil _ _ _ _ _ | exact Kd.N_nil _ _ _ _ _ | exact Kd.V_nil _ _ _ _ _ | exact Kd.Q_nil _ _ _ _ _ | exact Kd.S_nil _ _ _ _ _⟩, ⟨by (with_reducible repeat (first | refine blk_drewN ?_ _ | refine blk_drew ?_ | refine blk_alloc ?_ _)); refine blk_far ?_ NB101_104.out _; (with_reducible repeat (first | refine blk_drewN ?_ _ | refine blk_drew ?_ | refine blk_alloc ?_ _)); refine blk_far ?_ NB101_104.out _; (with_reducible repeat (first | refine blk_drewN ?_ _ | refine blk_drew ?_ | refine blk_alloc ?_ _)); exact BK101.out⟩, ⟨by (with_reducible repeat (first | refine blk_drewN ?_ _ | refine blk_drew ?_ | refine blk_alloc ?_ _)); refine blk_far ?_ NB102_104.out _; (with_reducible repeat (first | refine blk_drewN ?_ _ | refine blk_drew ?_ | refine blk_alloc ?_ _)); refine blk_far ?_ NB102_104.out _; (with_reducible repeat (first | refine blk_drewN ?_ _ | refine blk_drew ?_ | refine blk_alloc ?_ _)); exact BK102.out⟩, ⟨by (with_reducible repeat (first | refine blk_drewN ?_ _ | refine blk_drew ?_ | refine blk_alloc ?_ _)); refine blk_put (cs := #[.slice A0_1 l0_1.length c0_1, .slice none 0 0]) ?_ 1 _ rfl; (with_reducible repeat (first | refine blk_drewN ?_ _ | refine blk_drew ?_ | refine blk_alloc ?_ _)); refine blk_put (cs := #[.slice none 0 0, .slice none 0 0]) ?_ 0 _ rfl; (with_reducible repeat (first | refine blk_drewN ?_ _ | refine blk_drew ?_ | refine blk_alloc ?_ _)); exact BK104.out⟩, ⟨Bl_⟩⟩
    case round =>
      clear H'
      try clear c1
      try clear c2
      try clear p2
      try clear c3
      try clear c6
      try clear c11
      try clear c12
      try clear hcz13_0
      try clear hcz13_1
      try clear hcz7_0
      try clear hcz7_1
      try clear hcz7_2
      try clear hcz9_0
      try clear hcz9_1
      try clear hcz9_2
      try clear hfz13_0
      try clear hfz13_1
      try clear hfz7_0
      try clear hfz7_1
      try clear hfz7_2
      try clear hfz9_0
      try clear hfz9_1
      try clear hfz9_2
      obtain ⟨x5_1, x105001_1, u105001, rfl, HA, HK1, HO_102001, HO_105000, HO_105001, BK101, BK102, BK104, HB⟩ := hrel
      cases gk with
      | zero => exact absurd HA.out (by simp [reredosref05_Val.l0])
      | succ k1 =>
        have H := HA.out
        clear HA
        simp only [reredosref05_Val.l0] at H
        obtain ⟨t105, A14, H⟩ := bnd_ H
        try dsimp -simprocs only at H
        by_cases c15 : x5_1 < t105
        · rw [if_pos c15] at H
          have c15b0 : decide (x5_1 < t105) = true := decide_eq_true c15
          clear c15
          obtain ⟨⟨t106, t107⟩, A16, H⟩ := bnd_ H
          try dsimp -simprocs only at H
          obtain ⟨t108, A17, H⟩ := bnd_ H
          try dsimp -simprocs only at H
          by_cases c18 : x105001_1.length < 8796093022208
          · rw [if_pos c18] at H
            have LMc18 := Aside0.mk c18
            clear c18
            obtain ⟨y109, hy109⟩ : ∃ y_ : List ByteArray, y_ = (x105001_1 ++ [t108]) := ⟨_, rfl⟩
            replace H : (reredosref05_Val.l0 k1 (wrap64 (x5_1 + 1)) a0_0 l0_1 a0_2 l0_1 y109) = some (r1, r2, r3) := by first | (rw [hy109]; with_reducible exact H) | (have H2_ := (Option.bind_some _ _).symm.trans H; rw [hy109]; with_reducible exact H2_) | (have H2_ := (Option.bind_some _ _).symm.trans H; with_reducible exact H2_) | with_reducible exact H | (rw [hy109]; exact H) | exact H
            have Ny109 := Aside0.mk hy109
            clear hy109
            have H' := Aside0.mk H
            clear H
            have hnb19 := NB101_102.out
            have hnc19 := NB102_101.out
            have hnb20 := NB101_104.out
            have hnc20 := NB104_101.out
            obtain ⟨hcz21_0, hcz21_1, hcz21_2⟩ := c3_ BK101
            obtain ⟨hfz21_0, hfz21_1, hfz21_2⟩ := f3_ BK101
            try go_wp2_with (first | ((with_reducible refine gate_callee (f := 22) rfl ?_); refine goesL_ (some 17) rfl rfl Tryz.func22 (by kernel_rfl) rfl #[.agg #[.int .i64 a0_0, .slice A0_1 l0_1.length c0_1, .string a0_2]] rfl Ga_ ?_; (with_reducible refine (reredosref05_Many.calls k1 a0_0 _ _ l0_1 a0_2 t105 _ ?side1 ?side2 A14.out).mono ?_); (case side1 => exact Pc_ ((Kd.V_reads' HO_102001.out).2.2)); (case side2 => exact (Kd.V_reads' HO_102001.out).2.1); rintro e w22 ⟨rfl, hb⟩; refine ⟨_, rfl, ?_⟩; replace HO_102001 := Aside0.mk (Kd.V_below (Pv_ HO_102001.out) hb); replace HO_105000 := Aside0.mk (Kd.V_below (Pv_ HO_105000.out) hb); replace HO_105001 := Aside0.mk (Kd.R_below (Pr_ HO_105001.out) hb); replace BK101 := kb_ BK101 hb; replace BK102 := kb_ BK102 hb; replace BK104 := kb_ BK104 hb; replace HB := Bs_ hb; (try clear hb); (try clear hb2); (try clear hk); (try clear hi); obtain ⟨hcz23_0, hcz23_1, hcz23_2⟩ := c3_ BK101; obtain ⟨hfz23_0, hfz23_1, hfz23_2⟩ := f3_ BK101) | ((with_reducible refine gate_callee (f := 14) rfl ?_); refine goesL_ (some 24) rfl rfl Tryz.func14 (by kernel_rfl) rfl #[.agg #[.int .i64 a0_0, .slice A0_1 l0_1.length c0_1, .string a0_2], .int .i64 x5_1] rfl Ga_ ?_; (with_reducible refine (reredosref05_At.calls k1 a0_0 _ _ l0_1 a0_2 x5_1 t106 t107 _ ?side1 ?side2 A16.out).mono ?_); (case side1 => exact Pc_ ((Kd.V_reads' HO_102001.out).2.2)); (case side2 => exact (Kd.V_reads' HO_102001.out).2.1); rintro e w24 ⟨rfl, hb⟩; refine ⟨_, rfl, ?_⟩; replace HO_102001 := Aside0.mk (Kd.V_below (Pv_ HO_102001.out) hb); replace HO_105000 := Aside0.mk (Kd.V_below (Pv_ HO_105000.out) hb); replace HO_105001 := Aside0.mk (Kd.R_below (Pr_ HO_105001.out) hb); replace BK101 := kb_ BK101 hb; replace BK102 := kb_ BK102 hb; replace BK104 := kb_ BK104 hb; replace HB := Bs_ hb; (try clear hb); (try clear hb2); (try clear hk); (try clear hi)))
            replace HO_102001 := Aside0.mk (Kd.V_drew HO_102001.out)
            replace HO_105000 := Aside0.mk (Kd.V_drew HO_105000.out)
            replace HO_105001 := Aside0.mk (Kd.R_drew HO_105001.out)
            replace BK101 := Aside0.mk (blk_drew BK101.out)
            replace BK102 := Aside0.mk (blk_drew BK102.out)
            replace BK104 := Aside0.mk (blk_drew BK104.out)
            replace HB := Aside0.mk (below_drew1 HB.out)
            refine start_ (n := 8) (S := fun w' => w'.cell? ⟨gb104, 0, none⟩ = some (.slice A0_1 l0_1.length c0_1) ∧ w'.cell? ⟨gb104, 1, none⟩ = some (u105001)) (ds := [7]) #[false, false, false, false, false, false, false, false] (by kernel_rfl) rfl rfl ⟨(blk_cell BK104.out 0).trans rfl, (blk_cell BK104.out 1).trans rfl⟩ (fun hHeld => ?_); refine with_tabW reredosref05_Val.tab8 reredosref05_Val.bits8 (fun HT_ HW_ => ?_)
            generalize w24.drew = w25 at HO_102001 HO_105000 HO_105001 BK101 BK102 BK104 HB hHeld ⊢
            refine pu_ 0 (some 27) HT_ #[true, false, false, false, false, false, false, false] ?_
            refine pu_ 2 (some 29) HT_ #[true, false, true, false, false, false, false, false] ?_
            refine take_ (i := 1) (N := some 28) (v := ?_) (a' := ?_) #[true, true, true, false, false, false, false, false] rfl rfl (take_ofW HT_.out HW_.out (by kernel_rfl)) (fun _ _ _ h => h) (Or.inl ⟨by rfl, ?_⟩) hHeld ?_ ?_
            rotate_left
            · rintro w' ⟨s0, s1⟩
              go_simp
              with_reducible rfl
            rotate_left
            · simp only [Act.put, List.setIfInBounds_toArray, List.set_cons_zero, List.set_cons_succ, i64_w, i32_w]
              rfl
            refine one_ (i := 3) (N := some 30) #[true, true, true, true, false, false, false, false] rfl rfl (one_of HT_.out (by kernel_rfl)) (by decide) (fun K hK => ?_)
            refine goes_ Tryz.func69 (by kernel_rfl) rfl #[.int .i64 t106] (by rfl) rfl rfl Ga_ ?_
            with_reducible refine (reredosref01_Of.calls k1 t106 t108 _ A17.out).mono ?_
            rintro e w26 ⟨rfl, hb⟩
            refine ⟨_, rfl, ?_⟩
            replace HO_102001 := Aside0.mk (Kd.V_below (Pv_ HO_102001.out) hb)
            replace HO_105000 := Aside0.mk (Kd.V_below (Pv_ HO_105000.out) hb)
            replace HO_105001 := Aside0.mk (Kd.R_below (Pr_ HO_105001.out) hb)
            replace BK101 := kb_ BK101 hb
            replace BK102 := kb_ BK102 hb
            replace BK104 := kb_ BK104 hb
            replace HB := Bs_ hb
            (try clear hb)
            (try clear hb2)
            (try clear hk)
            (try clear hi)
            refine hK.out _ _ ⟨(blk_cell BK104.out 0).trans rfl, (blk_cell BK104.out 1).trans rfl⟩ (fun hHeld => ?_)
            clear hK K
            refine norm_ (a' := ?_) ?_ ?_
            rotate_left
            · show Act.put _ (some 30) _ = _
              simp only [Act.put, List.setIfInBounds_toArray, List.set_cons_zero, List.set_cons_succ, i64_w, i32_w]
              rfl
            refine one_ (i := 4) (N := some 31) #[true, true, true, true, true, false, false, false] rfl rfl (one_of HT_.out (by kernel_rfl)) (by decide) (fun K hK => ?_)
            refine value_ (w1 := ?_) (v := ?_) (by rfl) rfl ?_ ?_
            rotate_left 2
            · go_simp
              constructor
              · rfl
              · rfl
            refine hK.out _ _ ⟨(blk_cell (blk_alloc BK104.out _) 0).trans rfl, (blk_cell (blk_alloc BK104.out _) 1).trans rfl⟩ (fun hHeld => ?_)
            clear hK K
            refine norm_ (a' := ?_) ?_ ?_
            rotate_left
            · show Act.put _ (some 31) _ = _
              simp only [Act.put, List.setIfInBounds_toArray, List.set_cons_zero, List.set_cons_succ, i64_w, i32_w]
              rfl
            refine one_ (i := 5) (N := some 32) #[true, true, true, true, true, true, false, false] rfl rfl (one_of HT_.out (by kernel_rfl)) (by decide) (fun K hK => ?_)
            refine Kd.R_append_step Kd.string (w0 := w) w.heap.size (by rfl) (.tmp 28) (.tmp 31) 32 9 (.string ⟨#[]⟩) 16 rfl Tryz.underlying32 info9 rfl (by decide) (by omega) u105001 x105001_1 t108 [.string t108] (fun k_ => (w.heap.size ≤ k_)) (fun _ => False) rfl rfl ?aP (fun _ hk => hk.elim) ?aF ?aO ?aB ?aS ?aL ?_
            (case aP => exact rfl)
            (case aB => exact Bl_)
            (case aF => exact (fun k_ hk => (Nat.le_trans Bz_ hk)))
            (case aO => exact (Pr_ HO_105001.out))
            (case aS => exact Bz_)
            (case aL => have := LMc18.out; omega)
            intro v110 w27 ho hb hg hat
            rw [← Ny109.out] at ho
            replace HO_102001 := Aside0.mk (Kd.V_afterv (ok := (fun k_ => (P0_1_ k_ ∨ w.heap.size ≤ k_) ∧ k_ ≠ gb101 ∧ k_ ≠ gb102 ∧ k_ ≠ gb104)) (by (with_reducible repeat (first | apply Kd.V_alloc | apply Kd.V_drewN | apply Kd.V_drew)); exact Kd.V_mono HO_102001.out (fun _ hk => ⟨⟨hk.1, ⟨hk.2.2.1, ⟨hk.2.2.2.1, hk.2.2.2.2⟩⟩⟩, hk.2.1⟩)) hg hat)
            replace HO_105000 := Aside0.mk (Kd.V_afterv (ok := (fun k_ => (P0_1_ k_ ∨ w.heap.size ≤ k_) ∧ k_ ≠ gb101 ∧ k_ ≠ gb102 ∧ k_ ≠ gb104)) (by (with_reducible repeat (first | apply Kd.V_alloc | apply Kd.V_drewN | apply Kd.V_drew)); exact Kd.V_mono HO_105000.out (fun _ hk => ⟨⟨hk.1, ⟨hk.2.2.1, ⟨hk.2.2.2.1, hk.2.2.2.2⟩⟩⟩, hk.2.1⟩)) hg hat)
            replace BK101 := kg_ BK101 hg (Kd.R_ne HO_105001.out BK101.out (by decide))
            replace BK102 := kg_ BK102 hg (Kd.R_ne HO_105001.out BK102.out (by decide))
            replace BK104 := kg_ BK104 hg (Kd.R_ne HO_105001.out BK104.out (by decide))
            replace HB := Aside0.mk (hb)
            have HO111 := Aside0.mk (ho)
            clear HO_105001
            clear ho hb hg hat
            obtain ⟨Ao28, co28, eo28⟩ := Kd.R_slice HO111.out
            (first | subst eo28 | (injection eo28 with f1_ f2_ f3_; have f4_ := f1_.symm; have f5_ := f3_.symm; clear f1_ f2_ f3_; subst f4_; subst f5_))
            refine hK.out _ _ ⟨(blk_cell BK104.out 0).trans rfl, (blk_cell BK104.out 1).trans rfl⟩ (fun hHeld => ?_)
            clear hK K
            refine norm_ (a' := ?_) ?_ ?_
            rotate_left
            · show Act.put _ (some 32) _ = _
              simp only [Act.put, List.setIfInBounds_toArray, List.set_cons_zero, List.set_cons_succ, i64_w, i32_w]
              rfl
            refine pu_ 6 (some 33) HT_ #[true, true, true, true, true, true, true, false] ?_
            refine last_ (i := 7) (N := none) #[true, true, true, true, true, true, true, true] rfl rfl (one_of HT_.out (by kernel_rfl)) (by decide) (fun K hK => ?_)
            have hs29 : w27.cell? ⟨gb104, 1, none⟩ = some (u105001) := (blk_cell BK104.out 1).trans rfl
            have hfs29 := blk_frozen BK104.out 1
            have hns29_0 := NB101_104.out
            have hns29_1 := NB102_104.out
            have hms29_0 := NB104_101.out
            have hms29_1 := NB104_102.out
            refine skip_ (w1 := ?_) (by rfl) rfl ?_ ?_
            rotate_left
            · go_simp
              rfl
            refine hK.out _ _ ?_
            clear hK K
            refine done_ (done_of HT_.out (by kernel_rfl)) ?_
            try go_wp2
            go_roundg k1
            case measure => have := HK1.out; omega
            case rel => exact ⟨(wrap64 (x5_1 + 1)), (y109), (.slice Ao28 y109.length co28), Rf_, H', ⟨by have := HK1.out; omega⟩, ⟨by (with_reducible repeat (first | apply Kd.V_alloc | apply Kd.V_drewN | apply Kd.V_drew)); exact Kd.V_mono (Kd.V_far (p := ⟨gb104, 1, none⟩) (Kd.V_mono HO_102001.out (fun k_ hk => (⟨hk, hk.1.2.2.2⟩ : _ ∧ k_ ≠ gb104))) (fun _ hk => hk.2) (.slice Ao28 y109.length co28)) (fun _ hk => ⟨hk.1.1.1, ⟨hk.1.2, ⟨hk.1.1.2.1, ⟨hk.1.1.2.2.1, hk.1.1.2.2.2⟩⟩⟩⟩)⟩, ⟨by (with_reducible repeat (first | apply Kd.V_alloc | apply Kd.V_drewN | apply Kd.V_drew)); exact Kd.V_mono (Kd.V_far (p := ⟨gb104, 1, none⟩) (Kd.V_mono HO_105000.out (fun k_ hk => (⟨hk, hk.1.2.2.2⟩ : _ ∧ k_ ≠ gb104))) (fun _ hk => hk.2) (.slice Ao28 y109.length co28)) (fun _ hk => ⟨hk.1.1.1, ⟨hk.1.2, ⟨hk.1.1.2.1, ⟨hk.1.1.2.2.1, hk.1.1.2.2.2⟩⟩⟩⟩)⟩, ⟨by (with_reducible repeat (first | apply Kd.R_alloc | apply Kd.R_drewN | apply Kd.R_drew)); exact Kd.R_mono (Kd.R_far (p := ⟨gb104, 1, none⟩) (Kd.R_types HO111.out BK104.out (by decide)) (fun _ hk => hk.2) (.slice Ao28 y109.length co28)) (fun _ hk => hk.1)⟩, ⟨by (with_reducible repeat (first | refine blk_drewN ?_ _ | refine blk_drew ?_ | refine blk_alloc ?_ _)); refine blk_far ?_ NB101_104.out _; (with_reducible repeat (first | refine blk_drewN ?_ _ | refine blk_drew ?_ | refine blk_alloc ?_ _)); exact BK101.out⟩, ⟨by (with_reducible repeat (first | refine blk_drewN ?_ _ | refine blk_drew ?_ | refine blk_alloc ?_ _)); refine blk_far ?_ NB102_104.out _; (with_reducible repeat (first | refine blk_drewN ?_ _ | refine blk_drew ?_ | refine blk_alloc ?_ _)); exact BK102.out⟩, ⟨by (with_reducible repeat (first | refine blk_drewN ?_ _ | refine blk_drew ?_ | refine blk_alloc ?_ _)); refine blk_put (cs := #[.slice A0_1 l0_1.length c0_1, u105001]) ?_ 1 _ rfl; (with_reducible repeat (first | refine blk_drewN ?_ _ | refine blk_drew ?_ | refine blk_alloc ?_ _)); exact BK104.out⟩, ⟨Bl_⟩⟩
          · rw [if_neg c18] at H
            exact absurd H (by simp)
        · rw [if_neg c15] at H
          have c15b0 : decide (x5_1 < t105) = false := decide_eq_false c15
          clear c15
          simp only [Option.some.injEq, Prod.mk.injEq] at H
          obtain ⟨rfl, rfl, rfl⟩ := H
          have hnb30 := NB101_102.out
          have hnc30 := NB102_101.out
          have hnb31 := NB101_104.out
          have hnc31 := NB104_101.out
          obtain ⟨hcz32_0, hcz32_1, hcz32_2⟩ := c3_ BK101
          obtain ⟨hfz32_0, hfz32_1, hfz32_2⟩ := f3_ BK101
          go_wp2_with (first | ((with_reducible refine gate_callee (f := 22) rfl ?_); refine goesL_ (some 17) rfl rfl Tryz.func22 (by kernel_rfl) rfl #[.agg #[.int .i64 a0_0, .slice A0_1 l0_1.length c0_1, .string a0_2]] rfl Ga_ ?_; (with_reducible refine (reredosref05_Many.calls k1 a0_0 _ _ l0_1 a0_2 t105 _ ?side1 ?side2 A14.out).mono ?_); (case side1 => exact Pc_ ((Kd.V_reads' HO_102001.out).2.2)); (case side2 => exact (Kd.V_reads' HO_102001.out).2.1); rintro e w33 ⟨rfl, hb⟩; refine ⟨_, rfl, ?_⟩; replace HO_102001 := Aside0.mk (Kd.V_below (Pv_ HO_102001.out) hb); replace HO_105000 := Aside0.mk (Kd.V_below (Pv_ HO_105000.out) hb); replace HO_105001 := Aside0.mk (Kd.R_below (Pr_ HO_105001.out) hb); replace BK101 := kb_ BK101 hb; replace BK102 := kb_ BK102 hb; replace BK104 := kb_ BK104 hb; replace HB := Bs_ hb; (try clear hb); (try clear hb2); (try clear hk); (try clear hi); have hnb34 := NB104_102.out; have hnc34 := NB102_104.out; obtain ⟨hcz35_0, hcz35_1⟩ := c2_ BK104; obtain ⟨hfz35_0, hfz35_1⟩ := f2_ BK104; obtain ⟨hcz36_0, hcz36_1⟩ := c2_ BK102; obtain ⟨hfz36_0, hfz36_1⟩ := f2_ BK102; obtain ⟨Ao37, co37, eo37⟩ := Kd.R_slice HO_105001.out; subst eo37))
          refine bodyPost_ret (results_ct rfl _ _ gb102 34 #[.slice A0_1 l0_1.length c0_1, .slice Ao37 x105001_1.length co37] (0, 0) _ rfl (by (with_reducible repeat (first | refine blk_drewN ?_ _ | refine blk_drew ?_ | refine blk_alloc ?_ _)); refine blk_put (cs := #[.slice A0_1 l0_1.length c0_1, .slice none 0 0]) ?_ 1 _ rfl; (with_reducible repeat (first | refine blk_drewN ?_ _ | refine blk_drew ?_ | refine blk_alloc ?_ _)); refine blk_put (cs := #[.slice none 0 0, .slice none 0 0]) ?_ 0 _ rfl; (with_reducible repeat (first | refine blk_drewN ?_ _ | refine blk_drew ?_ | refine blk_alloc ?_ _)); exact BK102.out) Tryz.underlying34 rfl (by kernel_rfl)) rfl ?_
          exact ⟨_, _, Re_, by (with_reducible repeat (first | apply Kd.V_alloc | apply Kd.V_drewN | apply Kd.V_drew)); exact Kd.V_mono (Kd.V_far (p := ⟨gb102, 1, none⟩) (Kd.V_far (p := ⟨gb102, 0, none⟩) (Kd.V_mono HO_105000.out (fun k_ hk => (⟨hk, hk.2.2.2.1⟩ : _ ∧ k_ ≠ gb102))) (fun _ hk => hk.2) (.slice A0_1 l0_1.length c0_1)) (fun _ hk => hk.2) (.slice Ao37 x105001_1.length co37)) (fun _ hk => ⟨hk.1.1, hk.1.2.1⟩), by (with_reducible repeat (first | apply Kd.R_alloc | apply Kd.R_drewN | apply Kd.R_drew)); exact Kd.R_mono (Kd.R_far (p := ⟨gb102, 1, none⟩) (Kd.R_far (p := ⟨gb102, 0, none⟩) (Kd.R_types HO_105001.out BK102.out (by decide)) (fun _ hk => hk.2) (.slice A0_1 l0_1.length c0_1)) (fun _ hk => hk.2) (.slice Ao37 x105001_1.length co37)) (fun _ hk => hk.1), Bl_⟩
  · replace c3 := Bool.eq_false_iff.mpr c3
    subst c3
    have H1 : (some (([] : List Int), ([] : List ByteArray), false)) = some (r1, r2, r3) := by rw [if_neg (show ¬ (false = true) by decide)] at H; exact H
    clear H
    have H := H1
    clear H1
    simp only [Option.some.injEq, Prod.mk.injEq] at H
    obtain ⟨rfl, rfl, rfl⟩ := H
    go_enter Tryz.func16, Tryz.ntmps16
    go_wp2_with (first | ((with_reducible refine gate_dst (N := 1) rfl ?_); refine bx_ 1 #[.int .i64 a0_0, .slice A0_1 l0_1.length c0_1, .string a0_2] 24 ?_; intro gb101 hg w38 hbox hb; replace HO0_1 := Aside0.mk (Kd.V_below (Kd.V_elderB (Pv_ HO0_1.out) gb101 (Nat.le_of_eq hg.symm)) hb); have BK101 := Aside0.mk (hbox); have GW101 := (Bg_ hg : Aside0 (w.heap.size ≤ gb101)); have GE101 := (Bg_ hg : Aside0 (w.heap.size ≤ gb101)); replace HB := Bs_ hb; clear hb hbox hg) | ((with_reducible refine gate_dst (N := 2) rfl ?_); refine bx_ 2 #[.slice none 0 0, .slice none 0 0] 34 ?_; intro gb102 hg w39 hbox hb; replace HO0_1 := Aside0.mk (Kd.V_below (Kd.V_elderB (Pv_ HO0_1.out) gb102 (Nat.le_of_eq hg.symm)) hb); have BK102 := Aside0.mk (hbox); have GW102 := (Bg_ hg : Aside0 (w.heap.size ≤ gb102)); have GE102 := (Bg_ hg : Aside0 (w.heap.size ≤ gb102)); replace HB := Bs_ hb; have NB101_102 := nl_ hg BK101; have NB102_101 := ng_ hg BK101; replace BK101 := kb_ BK101 hb; clear hb hbox hg; have hnb40 := NB101_102.out; have hnc40 := NB102_101.out; obtain ⟨hcz41_0, hcz41_1, hcz41_2⟩ := c3_ BK101; obtain ⟨hfz41_0, hfz41_1, hfz41_2⟩ := f3_ BK101) | ((with_reducible refine gate_callee (f := 20) rfl ?_); refine goesL_ (some 9) rfl rfl Tryz.func20 (by kernel_rfl) rfl #[.agg #[.int .i64 a0_0, .slice A0_1 l0_1.length c0_1, .string a0_2]] rfl Ga_ ?_; (with_reducible refine (reredosref05_May.calls k a0_0 _ _ l0_1 a0_2 false _ ?side1 ?side2 A2.out).mono ?_); (case side1 => exact Pc_ ((Kd.V_reads' HO0_1.out).2.2)); (case side2 => exact (Kd.V_reads' HO0_1.out).2.1); rintro e w42 ⟨rfl, hb⟩; refine ⟨_, rfl, ?_⟩; replace HO0_1 := Aside0.mk (Kd.V_below (Pv_ HO0_1.out) hb); replace BK101 := kb_ BK101 hb; replace BK102 := kb_ BK102 hb; replace HB := Bs_ hb; (try clear hb); (try clear hb2); (try clear hk); (try clear hi); obtain ⟨hcz43_0, hcz43_1⟩ := c2_ BK102; obtain ⟨hfz43_0, hfz43_1⟩ := f2_ BK102))
    refine bodyPost_ret (results_ct rfl _ _ gb102 34 #[.slice none 0 0, .slice none 0 0] (0, 0) _ rfl (by (with_reducible repeat (first | refine blk_drewN ?_ _ | refine blk_drew ?_ | refine blk_alloc ?_ _)); refine blk_put (cs := #[.slice none 0 0, .slice none 0 0]) ?_ 1 _ rfl; (with_reducible repeat (first | refine blk_drewN ?_ _ | refine blk_drew ?_ | refine blk_alloc ?_ _)); refine blk_put (cs := #[.slice none 0 0, .slice none 0 0]) ?_ 0 _ rfl; (with_reducible repeat (first | refine blk_drewN ?_ _ | refine blk_drew ?_ | refine blk_alloc ?_ _)); exact BK102.out) Tryz.underlying34 rfl (by kernel_rfl)) rfl ?_
    exact ⟨_, _, Re_, (Kd.V_nil _ _ _ _ _), by first | exact Kd.R_nil _ _ _ _ _ | exact Kd.N_nil _ _ _ _ _ | exact Kd.V_nil _ _ _ _ _ | exact Kd.Q_nil _ _ _ _ _ | exact Kd.S_nil _ _ _ _ _, Bl_⟩
/-! ### typed_Typed_To: function 17 -/
def fitsB (x w : Int) : Bool := if w = 8 then decide (-128 ≤ x ∧ x < 128) else if w = 16 then decide (-32768 ≤ x ∧ x < 32768) else if w = 32 then decide (-2147483648 ≤ x ∧ x < 2147483648) else true
def knownB (w : Int) : Bool := decide (w = 8 ∨ w = 16 ∨ w = 32 ∨ w = 64)
theorem fits_any (x w : Int) (h : knownB w = true) : width_Fits.f 2 x w = some (fitsB x w) := by
  unfold knownB at h
  rcases of_decide_eq_true h with rfl | rfl | rfl | rfl
  · exact fits_8 x
  · exact fits_16 x
  · exact fits_32 x
  · exact fits_64 x
theorem known_any (w : Int) : typed_known.f 6 w = some (knownB w) := by
  have e0 : rd ([8, 16, 32, 64] : List Int) 0 = 8 := rfl
  have e1 : rd ([8, 16, 32, 64] : List Int) 1 = 16 := rfl
  have e2 : rd ([8, 16, 32, 64] : List Int) 2 = 32 := rfl
  have e3 : rd ([8, 16, 32, 64] : List Int) 3 = 64 := rfl
  have s0 : wrap64 1 = 1 := by decide +kernel
  have s1 : wrap64 2 = 2 := by decide +kernel
  have s2 : wrap64 3 = 3 := by decide +kernel
  have s3 : wrap64 4 = 4 := by decide +kernel
  unfold typed_known.f slices_Contains_int_int.f slices_Index_int_int.f knownB
  by_cases h1 : w = 8
  · subst h1; simp [slices_Index_int_int.l0, e0]
  by_cases h2 : w = 16
  · subst h2; simp [slices_Index_int_int.l0, e0, e1, s0]
  by_cases h3 : w = 32
  · subst h3; simp [slices_Index_int_int.l0, e0, e1, e2, s0, s1]
  by_cases h4 : w = 64
  · subst h4; simp [slices_Index_int_int.l0, e0, e1, e2, e3, s0, s1, s2]
  simp [slices_Index_int_int.l0, e0, e1, e2, e3, s0, s1, s2, s3, h1, h2, h3, h4]
theorem typed_to_contains (gB : Nat) (a1 : Int) (hk : knownB a1 = true) (A0 : Option Addr) (c0 : Nat) (l0 : List Int) (w : World) (hr0 : Kd.C (Kd.int .i64) w A0 l0.length l0) (hg : w.heap[gB]? = some (.cells #[.int .i64 a1] 3 (0, 0))) :
    Calls Tryz.prog 71 #[.slice A0 l0.length c0, .func (.func 72) #[] #[.pointer (some ⟨gB, 0, none⟩)]] w fun e w' => e = .returned (.bool (l0.any fun x => !(fitsB x a1))) ∧ Below w.heap.size w w' := by
  have hempty : l0 = [] → Calls Tryz.prog 71 #[.slice A0 l0.length c0, .func (.func 72) #[] #[.pointer (some ⟨gB, 0, none⟩)]] w fun e w' => e = .returned (.bool (l0.any fun x => !(fitsB x a1))) ∧ Below w.heap.size w w' := by
    rintro rfl
    refine (Tryz.slices_ContainsFunc_empty_f71 (α := Int) A0 c0 _ w).mono ?_
    rintro e w' ⟨rfl, rfl⟩
    exact ⟨rfl, Below.refl _ _⟩
  rcases row_cases (enc := Value.int .i64) (h1 := fun _ => rfl) hr0 with ⟨_, h⟩ | ⟨_, _, h⟩ | ⟨b, off, rfl, h0, hc⟩
  · exact hempty h
  · exact hempty h
  · have hp : PredAt Tryz.prog 72 #[.pointer (some ⟨gB, 0, none⟩)] (Value.int .i64) (fun x => !(fitsB x a1)) w := by
      intro W x hb
      unfold FnGives
      have hgW := (hb.block gB (blk_lt hg)).trans hg
      have hcW : W.cell? ⟨gB, 0, none⟩ = some (.int .i64 a1) := (blk_cell hgW 0).trans rfl
      have HF := Aside0.mk (fits_any x a1 hk)
      clear hg hgW hk hc hr0 hempty
      go_enter Tryz.func72, Tryz.ntmps72
      go_wp2_with (go_at_call 73; refine (width_Fits.calls 2 x a1 _ _ HF.out).mono ?_; rintro e w1 ⟨rfl, ⟨nd, rfl⟩⟩)
      go_ret
      exact ⟨rfl, nd, rfl⟩
    refine (Tryz.slices_ContainsFunc_f71 (Value.int .i64) (fun x => !(fitsB x a1)) 72 _ (enters_of Tryz.func72 (by kernel_rfl) rfl) b off l0.length c0 l0 w hp (Nat.le_refl _) hr0.2.1 (fun j hj => ?_)).mono ?_
    · rw [hc j 0 hj, List.getD_eq_getElem?_getD, getElem!_def, List.getElem?_eq_getElem hj]
      rfl
    · rintro e w' ⟨rfl, q, rfl⟩
      exact ⟨by rw [List.take_length], pw_below_drewN (Below.refl _ _) q⟩
def typed_Typed_To.f (k : Nat) (a0_0 : Int) (l0_1 : List Int) (a0_2 : ByteArray) (a1 : Int) : Option (Int × List Int × ByteArray × Bool) :=
  (typed_Typed_all.f k a0_0 l0_1 a0_2).bind fun l => (typed_Typed_May.f k a0_0 l0_1 a0_2).bind fun m =>
    if m = true then (if knownB a1 = true then (if (l.any fun x => !(fitsB x a1)) = true then some (0, [], ⟨#[]⟩, false) else (typed_lay.f k l l0_1 a1).bind fun t => some (t.1, t.2.1, t.2.2, true)) else some (0, [], ⟨#[]⟩, false)) else some (0, [], ⟨#[]⟩, false)
set_option maxHeartbeats 2000000 in
set_option maxRecDepth 100000 in
theorem typed_Typed_To.calls (k : Nat) (a0_0 : Int) (A0_1 : Option Addr) (c0_1 : Nat) (l0_1 : List Int) (a0_2 : ByteArray) (a1 : Int) (r1 : Int) (r2 : List Int) (r3 : ByteArray) (r4 : Bool) (w : World) (hr0_1 : Kd.C (Kd.int .i64) w A0_1 l0_1.length l0_1) (hc0_1 : l0_1.length ≤ c0_1) (h : typed_Typed_To.f k a0_0 l0_1 a0_2 a1 = some (r1, r2, r3, r4)) :
    Calls Tryz.prog 17 #[.agg #[.int .i64 a0_0, .slice A0_1 l0_1.length c0_1, .string a0_2], .int .i64 a1] w fun e w' => ∃ v1_ : Value, e = .returned (.tuple #[.agg #[.int .i64 r1, v1_, .string r3], .bool r4]) ∧ Kd.R (Kd.int .i64) 3 w' w.heap.size (fun _ => True) v1_ r2 ∧ Below w.heap.size w w' := by
  obtain ⟨l, hl, h⟩ := Option.bind_eq_some_iff.mp h
  obtain ⟨m, hm, h⟩ := Option.bind_eq_some_iff.mp h
  have HL := Aside0.mk hl
  have HM := Aside0.mk hm
  clear hl hm
  have HK := Aside0.mk (known_any a1)
  have HR := Aside0.mk hr0_1
  clear hr0_1
  have hu29 := Tryz.underlying27
  go_enter Tryz.func17, Tryz.ntmps17
  go_wp2_with fail
  obtain ⟨W0, hW0⟩ : ∃ W0, ((w.alloc (.cells #[.int .i64 a0_0, .slice A0_1 l0_1.length c0_1, .string a0_2] 27)).alloc (.cells #[.int .i64 a1] 3)).alloc (.cells #[.int .i64 0, .slice none 0 0, .string ⟨#[]⟩] 27) = W0 := ⟨_, rfl⟩
  have hb0 : Below w.heap.size w W0 := by subst hW0; exact below_alloc (below_alloc (below_alloc (Below.refl _ _) _) _) _
  have hs0 : W0.heap.size = w.heap.size + 3 := by subst hW0; simp
  have hA : W0.heap[w.heap.size]? = some (.cells #[.int .i64 a0_0, .slice A0_1 l0_1.length c0_1, .string a0_2] 27 (0, 0)) := by subst hW0; exact blk_alloc (blk_alloc (by simpa using heap_alloc_new w _) _) _
  have hB : W0.heap[w.heap.size + 1]? = some (.cells #[.int .i64 a1] 3 (0, 0)) := by subst hW0; exact blk_alloc (by simpa using heap_alloc_new (w.alloc _) _) _
  have hC : W0.heap[w.heap.size + 2]? = some (.cells #[.int .i64 0, .slice none 0 0, .string ⟨#[]⟩] 27 (0, 0)) := by subst hW0; simpa using heap_alloc_new ((w.alloc _).alloc _) _
  rw [hW0]
  clear hW0
  refine (typed_Typed_all.calls k a0_0 A0_1 c0_1 l0_1 a0_2 l W0 (Kd.C_below HR.out hb0) hc0_1 HL.out).mono ?_
  rintro e W1 ⟨v1, rfl, ho1, hb1⟩
  obtain ⟨A1, c1, rfl, hc1, hr1⟩ := Kd.R_reads ho1
  have HL1 := Aside0.mk hr1
  have HC1 := Aside0.mk hc1
  clear ho1 hr1 hc1
  have hA1 := (hb1.block _ (blk_lt hA)).trans hA
  have hB1 := (hb1.block _ (blk_lt hB)).trans hB
  have hC1 := (hb1.block _ (blk_lt hC)).trans hC
  have hb01 := below_then hb0 hb0.size hb1
  have hs1 := hb1.size
  clear hA hB hC
  have HA1 := Aside0.mk hA1
  have HB1 := Aside0.mk hB1
  have HC1' := Aside0.mk hC1
  have l0 : W1.cell? ⟨w.heap.size, 0, none⟩ = some (.int .i64 a0_0) := (blk_cell hA1 0).trans rfl
  have l1 : W1.cell? ⟨w.heap.size, 1, none⟩ = some (.slice A0_1 l0_1.length c0_1) := (blk_cell hA1 1).trans rfl
  have l2 : W1.cell? ⟨w.heap.size, 2, none⟩ = some (.string a0_2) := (blk_cell hA1 2).trans rfl
  clear hA1 hB1 hC1
  go_wp2_with fail
  refine (typed_Typed_May.calls k a0_0 A0_1 c0_1 l0_1 a0_2 m W1 (Kd.C_below HR.out hb01) hc0_1 HM.out).mono ?_
  rintro e W2 ⟨rfl, hb2⟩
  clear l0 l1 l2
  have hb02 := below_then hb01 hb01.size hb2
  have hs2 := hb2.size
  cases m with
  | false =>
    rw [if_neg (by simp)] at h
    simp only [Option.some.injEq, Prod.mk.injEq] at h
    obtain ⟨rfl, rfl, rfl, rfl⟩ := h
    have hC2 := (hb2.block _ (blk_lt HC1'.out)).trans HC1'.out
    have m0 : W2.cell? ⟨w.heap.size + 2, 0, none⟩ = some (.int .i64 0) := (blk_cell hC2 0).trans rfl
    have m1 : W2.cell? ⟨w.heap.size + 2, 1, none⟩ = some (.slice none 0 0) := (blk_cell hC2 1).trans rfl
    have m2 : W2.cell? ⟨w.heap.size + 2, 2, none⟩ = some (.string ⟨#[]⟩) := (blk_cell hC2 2).trans rfl
    have f0 := blk_frozen hC2 0
    have f1 := blk_frozen hC2 1
    have f2 := blk_frozen hC2 2
    clear hC2
    go_wp2
    refine bodyPost_ret (v := .tuple #[.agg #[.int .i64 0, .slice none 0 0, .string ⟨#[]⟩], .bool false]) (by simp [results, Tryz.results17, go_sem, m0, m1, m2]) rfl ⟨_, rfl, Kd.R_nil _ _ _ _ _, below_set (below_set (below_set hb02 (by omega)) (by omega)) (by omega)⟩
  | true =>
    rw [if_pos rfl] at h
    have hB2 := (hb2.block _ (blk_lt HB1.out)).trans HB1.out
    have hC2 := (hb2.block _ (blk_lt HC1'.out)).trans HC1'.out
    have b0 : W2.cell? ⟨w.heap.size + 1, 0, none⟩ = some (.int .i64 a1) := (blk_cell hB2 0).trans rfl
    have HB2 := Aside0.mk hB2
    have HC2 := Aside0.mk hC2
    clear hB2 hC2
    go_wp2_with fail
    refine (typed_known.calls 6 a1 (knownB a1) W2 HK.out).mono ?_
    rintro e W3 ⟨rfl, hb3⟩
    clear b0
    have hb03 := below_then hb02 hb02.size hb3
    have hs3 := hb3.size
    have hB3 := (hb3.block _ (blk_lt HB2.out)).trans HB2.out
    have hC3 := (hb3.block _ (blk_lt HC2.out)).trans HC2.out
    cases hkn : knownB a1 with
    | false =>
      rw [hkn, if_neg (by simp)] at h
      simp only [Option.some.injEq, Prod.mk.injEq] at h
      obtain ⟨rfl, rfl, rfl, rfl⟩ := h
      have m0 : W3.cell? ⟨w.heap.size + 2, 0, none⟩ = some (.int .i64 0) := (blk_cell hC3 0).trans rfl
      have m1 : W3.cell? ⟨w.heap.size + 2, 1, none⟩ = some (.slice none 0 0) := (blk_cell hC3 1).trans rfl
      have m2 : W3.cell? ⟨w.heap.size + 2, 2, none⟩ = some (.string ⟨#[]⟩) := (blk_cell hC3 2).trans rfl
      have f0 := blk_frozen hC3 0
      have f1 := blk_frozen hC3 1
      have f2 := blk_frozen hC3 2
      clear hC3 hB3
      go_wp2
      refine bodyPost_ret (v := .tuple #[.agg #[.int .i64 0, .slice none 0 0, .string ⟨#[]⟩], .bool false]) (by simp [results, Tryz.results17, go_sem, m0, m1, m2]) rfl ⟨_, rfl, Kd.R_nil _ _ _ _ _, below_set (below_set (below_set hb03 (by omega)) (by omega)) (by omega)⟩
    | true =>
      have HKN := Aside0.mk hkn
      rw [hkn, if_pos rfl] at h
      clear hkn
      have HB3 := Aside0.mk hB3
      have HC3 := Aside0.mk hC3
      have hrl := Kd.C_below HL1.out (below_then hb2 hb2.size hb3)
      have HRL := Aside0.mk hrl
      clear hB3 hC3 hrl
      go_wp2_with fail
      refine (typed_to_contains (w.heap.size + 1) a1 HKN.out A1 c1 l W3 HRL.out HB3.out).mono ?_
      rintro e W4 ⟨rfl, hb4⟩
      have hb04 := below_then hb03 hb03.size hb4
      have hs4 := hb4.size
      have hB4 := (hb4.block _ (blk_lt HB3.out)).trans HB3.out
      have hC4 := (hb4.block _ (blk_lt HC3.out)).trans HC3.out
      cases hany : l.any fun x => !(fitsB x a1) with
      | true =>
        rw [hany, if_pos rfl] at h
        simp only [Option.some.injEq, Prod.mk.injEq] at h
        obtain ⟨rfl, rfl, rfl, rfl⟩ := h
        have m0 : W4.cell? ⟨w.heap.size + 2, 0, none⟩ = some (.int .i64 0) := (blk_cell hC4 0).trans rfl
        have m1 : W4.cell? ⟨w.heap.size + 2, 1, none⟩ = some (.slice none 0 0) := (blk_cell hC4 1).trans rfl
        have m2 : W4.cell? ⟨w.heap.size + 2, 2, none⟩ = some (.string ⟨#[]⟩) := (blk_cell hC4 2).trans rfl
        have f0 := blk_frozen hC4 0
        have f1 := blk_frozen hC4 1
        have f2 := blk_frozen hC4 2
        clear hC4 hB4 hany
        go_wp2
        refine bodyPost_ret (v := .tuple #[.agg #[.int .i64 0, .slice none 0 0, .string ⟨#[]⟩], .bool false]) (by simp [results, Tryz.results17, go_sem, m0, m1, m2]) rfl ⟨_, rfl, Kd.R_nil _ _ _ _ _, below_set (below_set (below_set hb04 (by omega)) (by omega)) (by omega)⟩
      | false =>
        rw [hany, if_neg (by simp)] at h
        obtain ⟨⟨q1, q2, q3⟩, hq, h⟩ := Option.bind_eq_some_iff.mp h
        simp only [Option.some.injEq, Prod.mk.injEq] at h
        obtain ⟨rfl, rfl, rfl, rfl⟩ := h
        have HQ := Aside0.mk hq
        have hA4 := ((below_then hb2 hb2.size (below_then hb3 hb3.size hb4)).block _ (blk_lt HA1.out)).trans HA1.out
        have a1c : W4.cell? ⟨w.heap.size, 1, none⟩ = some (.slice A0_1 l0_1.length c0_1) := (blk_cell hA4 1).trans rfl
        have b0 : W4.cell? ⟨w.heap.size + 1, 0, none⟩ = some (.int .i64 a1) := (blk_cell hB4 0).trans rfl
        have HC4 := Aside0.mk hC4
        clear hC4 hB4 hA4 hq hany
        go_wp2_with fail
        refine (typed_lay.calls k A1 c1 l A0_1 c0_1 l0_1 a1 _ _ _ W4 (Kd.C_below HRL.out hb4) HC1.out (Kd.C_below HR.out hb04) hc0_1 HQ.out).mono ?_
        rintro e W5 ⟨v5, rfl, ho5, hb5⟩
        have hb05 := below_then hb04 hb04.size hb5
        have hs5 := hb5.size
        have hC5 := (hb5.block _ (blk_lt HC4.out)).trans HC4.out
        have m0 : W5.cell? ⟨w.heap.size + 2, 0, none⟩ = some (.int .i64 0) := (blk_cell hC5 0).trans rfl
        have m1 : W5.cell? ⟨w.heap.size + 2, 1, none⟩ = some (.slice none 0 0) := (blk_cell hC5 1).trans rfl
        have m2 : W5.cell? ⟨w.heap.size + 2, 2, none⟩ = some (.string ⟨#[]⟩) := (blk_cell hC5 2).trans rfl
        have f0 := blk_frozen hC5 0
        have f1 := blk_frozen hC5 1
        have f2 := blk_frozen hC5 2
        have hv := Kd.R_lower (Kd.R_mono (Kd.R_bound ho5) (ok' := fun k => W4.heap.size ≤ k) (fun k hk => hk.2.1)) hb04.size
        obtain ⟨A5, c5, rfl, _, _⟩ := Kd.R_reads ho5
        have HV := Aside0.mk hv
        clear hC5 ho5 hv
        go_wp2
        refine bodyPost_ret (v := .tuple #[.agg #[.int .i64 q1, .slice A5 q2.length c5, .string q3], .bool true]) (by simp [results, Tryz.results17, go_sem, m0, m1, m2]) rfl ⟨_, rfl, ?_, below_set (below_set (below_set hb05 (by omega)) (by omega)) (by omega)⟩
        refine Kd.R_mono (Kd.R_far (Kd.R_far (Kd.R_far HV.out ?_ _) ?_ _) ?_ _) (fun _ _ => trivial) <;> (intro k hk; simp only at hk ⊢; omega)
/-! ### reredosref02_bound: function 133 -/
def reredosref02_bound.f (a0 : Int) : Option (ByteArray) := if a0 = 8 then (some (⟨#[49, 50, 55]⟩ : ByteArray)) else (if a0 = 16 then (some (⟨#[51, 50, 55, 54, 55]⟩ : ByteArray)) else (if a0 = 32 then (some (⟨#[50, 49, 52, 55, 52, 56, 51, 54, 52, 55]⟩ : ByteArray)) else (if a0 = 64 then (some (⟨#[57, 50, 50, 51, 51, 55, 50, 48, 51, 54, 56, 53, 52, 55, 55, 53, 56, 48, 55]⟩ : ByteArray)) else (some (⟨#[]⟩ : ByteArray)))))
set_option maxHeartbeats 8000000 in
set_option maxRecDepth 100000 in
theorem reredosref02_bound.calls (a0 : Int) (r : ByteArray) (w : World) (h : reredosref02_bound.f a0 = some r) :
    Calls Tryz.prog 133 #[.int .i64 a0] w fun e w' => e = .returned (.string r) ∧ Drawn0 w w' := by
  have H : (if a0 = 8 then (some (⟨#[49, 50, 55]⟩ : ByteArray)) else (if a0 = 16 then (some (⟨#[51, 50, 55, 54, 55]⟩ : ByteArray)) else (if a0 = 32 then (some (⟨#[50, 49, 52, 55, 52, 56, 51, 54, 52, 55]⟩ : ByteArray)) else (if a0 = 64 then (some (⟨#[57, 50, 50, 51, 51, 55, 50, 48, 51, 54, 56, 53, 52, 55, 55, 53, 56, 48, 55]⟩ : ByteArray)) else (some (⟨#[]⟩ : ByteArray)))))) = some r := h
  clear h
  by_cases c2 : a0 = 8
  · rw [if_pos c2] at H
    have c2b0 : (a0 == 8) = true := beq_iff_eq.mpr c2
    have c2b1 : (a0 != 8) = false := bne_eq_false_iff_eq.mpr c2
    clear c2
    obtain rfl := Option.some.inj H
    go_enter Tryz.func133, Tryz.ntmps133
    go_wp2
    go_ret
    exact ⟨Rf_, Dw_⟩
  · rw [if_neg c2] at H
    have c2b0 : (a0 == 8) = false := beq_eq_false_iff_ne.mpr c2
    have c2b1 : (a0 != 8) = true := bne_iff_ne.mpr c2
    by_cases c3 : a0 = 16
    · rw [if_pos c3] at H
      have c3b0 : (a0 == 16) = true := beq_iff_eq.mpr c3
      have c3b1 : (a0 != 16) = false := bne_eq_false_iff_eq.mpr c3
      clear c3
      obtain rfl := Option.some.inj H
      go_enter Tryz.func133, Tryz.ntmps133
      go_wp2
      go_ret
      exact ⟨Rf_, Dw_⟩
    · rw [if_neg c3] at H
      have c3b0 : (a0 == 16) = false := beq_eq_false_iff_ne.mpr c3
      have c3b1 : (a0 != 16) = true := bne_iff_ne.mpr c3
      by_cases c4 : a0 = 32
      · rw [if_pos c4] at H
        have c4b0 : (a0 == 32) = true := beq_iff_eq.mpr c4
        have c4b1 : (a0 != 32) = false := bne_eq_false_iff_eq.mpr c4
        clear c4
        obtain rfl := Option.some.inj H
        go_enter Tryz.func133, Tryz.ntmps133
        go_wp2
        go_ret
        exact ⟨Rf_, Dw_⟩
      · rw [if_neg c4] at H
        have c4b0 : (a0 == 32) = false := beq_eq_false_iff_ne.mpr c4
        have c4b1 : (a0 != 32) = true := bne_iff_ne.mpr c4
        by_cases c5 : a0 = 64
        · rw [if_pos c5] at H
          have c5b0 : (a0 == 64) = true := beq_iff_eq.mpr c5
          have c5b1 : (a0 != 64) = false := bne_eq_false_iff_eq.mpr c5
          clear c5
          obtain rfl := Option.some.inj H
          go_enter Tryz.func133, Tryz.ntmps133
          go_wp2
          go_ret
          exact ⟨Rf_, Dw_⟩
        · rw [if_neg c5] at H
          have c5b0 : (a0 == 64) = false := beq_eq_false_iff_ne.mpr c5
          have c5b1 : (a0 != 64) = true := bne_iff_ne.mpr c5
          obtain rfl := Option.some.inj H
          go_enter Tryz.func133, Tryz.ntmps133
          go_wp2
          go_ret
          exact ⟨Rf_, Dw_⟩
/-! ### reredosref01_May: function 144 -/
mutual
def reredosref01_May.j0 : Nat → ByteArray → Int → Bool → Option (Bool)
  | 0, _, _, _ => none
  | k + 1, x0, x3, x13 => if x13 = true then (reredosref01_May.j1 k x0 1) else (reredosref01_May.j1 k x0 x3)
def reredosref01_May.j1 : Nat → ByteArray → Int → Option (Bool)
  | 0, _, _ => none
  | k + 1, x0, x3 => if (wrap64 ((x0.size : Int) - x3)) < 1 then (reredosref01_May.j2 k x0 x3 true) else (if (wrap64 ((x0.size : Int) - x3)) > 100 then (reredosref01_May.j2 k x0 x3 true) else (if 0 ≤ x3 then (if x3 < (x0.size : Int) then (reredosref01_May.j2 k x0 x3 ((bt x0 x3) == 48)) else (none)) else (none)))
def reredosref01_May.j2 : Nat → ByteArray → Int → Bool → Option (Bool)
  | 0, _, _, _ => none
  | k + 1, x0, x3, x31 => if x31 = true then (some false) else (reredosref01_May.l0 k x0 x3)
def reredosref01_May.l0 : Nat → ByteArray → Int → Option (Bool)
  | 0, _, _ => none
  | k + 1, x0, x4 => if x4 < (x0.size : Int) then (if 0 ≤ x4 then (if (bt x0 x4) < 48 then (some false) else (if (bt x0 x4) > 57 then (some false) else (reredosref01_May.l0 k x0 (wrap64 (x4 + 1))))) else (none)) else (some true)
end
def reredosref01_May.f (k : Nat) (a0 : ByteArray) : Option (Bool) := if a0.toList = ([48] : List UInt8) then (some true) else (if a0.toList = ([] : List UInt8) then (reredosref01_May.j0 k a0 0 false) else (if 0 < (a0.size : Int) then (reredosref01_May.j0 k a0 0 ((bt a0 0) == 45)) else (none)))
set_option maxHeartbeats 8000000 in
set_option maxRecDepth 100000 in
theorem reredosref01_May.calls (k : Nat) (a0 : ByteArray) (r : Bool) (w : World) (h : reredosref01_May.f k a0 = some r) :
    Calls Tryz.prog 144 #[.string a0] w fun e w' => e = .returned (.bool r) ∧ Drawn0 w w' := by
  have H : (if a0.toList = ([48] : List UInt8) then (some true) else (if a0.toList = ([] : List UInt8) then (reredosref01_May.j0 k a0 0 false) else (if 0 < (a0.size : Int) then (reredosref01_May.j0 k a0 0 ((bt a0 0) == 45)) else (none)))) = some r := h
  clear h
  by_cases c2 : a0.toList = ([48] : List UInt8)
  · rw [if_pos c2] at H
    have c2b0 : (a0.toList == ([48] : List UInt8)) = true := beq_iff_eq.mpr c2
    have c2b1 : (a0.toList != ([48] : List UInt8)) = false := bne_eq_false_iff_eq.mpr c2
    clear c2
    obtain rfl := Option.some.inj H
    go_enter Tryz.func144, Tryz.ntmps144
    go_wp2
    go_ret
    exact ⟨Rf_, Dw_⟩
  · rw [if_neg c2] at H
    have c2b0 : (a0.toList == ([48] : List UInt8)) = false := beq_eq_false_iff_ne.mpr c2
    have c2b1 : (a0.toList != ([48] : List UInt8)) = true := bne_iff_ne.mpr c2
    have HC3 := Aside0.mk H
    clear H
    go_enter Tryz.func144, Tryz.ntmps144
    go_upto_region 4 with (fail)
    go_cut [13] (fun v13 wc => ∃ (kq : Nat) (x13_2 : Bool), v13 = .bool x13_2 ∧ Aside0 (reredosref01_May.j0 kq a0 0 x13_2 = some r) ∧ Aside0 (kq ≤ k) ∧ Drawn0 w wc)
    case first =>
      have H := HC3.out
      clear HC3
      by_cases c4 : a0.toList = ([] : List UInt8)
      · rw [if_pos c4] at H
        have c4b0 : (a0.toList == ([] : List UInt8)) = true := beq_iff_eq.mpr c4
        have c4b1 : (a0.toList != ([] : List UInt8)) = false := bne_eq_false_iff_eq.mpr c4
        clear c4
        (first | rw [c4b0] | (simp only [i64_w, i32_w]; rw [c4b0]) | skip)
        have H' := Aside0.mk H
        clear H
        go_wp2
        go_meet
        case rel => exact ⟨_, (false), Rf_, H', ⟨by first | omega | exact Nat.le_refl _⟩, Dw_⟩
      · rw [if_neg c4] at H
        have c4b0 : (a0.toList == ([] : List UInt8)) = false := beq_eq_false_iff_ne.mpr c4
        have c4b1 : (a0.toList != ([] : List UInt8)) = true := bne_iff_ne.mpr c4
        (first | rw [c4b0] | (simp only [i64_w, i32_w]; rw [c4b0]) | skip)
        by_cases c5 : 0 < (a0.size : Int)
        · rw [if_pos c5] at H
          have c5b0 : decide (0 < (a0.size : Int)) = true := decide_eq_true c5
          have c5b1 : decide (0 < a0.size) = true := decide_eq_true (by omega)
          clear c5
          have H' := Aside0.mk H
          clear H
          have p6 : 0 ≤ (0 : Int) := (by omega)
          have q6 : 0 < a0.size := (by have : (0 : Int) < (a0.size : Int) := of_decide_eq_true As_; omega)
          have hx6 : ∀ h : 0 < a0.size, ((a0[0]'h).toNat : Int) = bt a0 0 := bt_at a0 0
          clear p6
          have qi6 : (0 < (a0.size : Int)) = True := eq_true (of_decide_eq_true As_)
          replace q6 := eq_true q6
          go_wp2
          go_meet
          case rel => exact ⟨_, (((bt a0 0) == 45)), Rf_, H', ⟨by first | omega | exact Nat.le_refl _⟩, Dw_⟩
        · rw [if_neg c5] at H
          exact absurd H (by simp)
    case rest =>
      clear HC3
      try clear c1
      try clear c2
      try clear c2b0
      try clear c2b1
      try clear p2
      try clear c4
      try clear c4b0
      try clear c4b1
      try clear c5
      try clear c5b0
      try clear c5b1
      try clear p6
      try clear q6
      try clear hx6
      try clear qi6
      try clear p6
      try clear q6
      obtain ⟨kq, x13_2, rfl, HA, HJ2, ⟨mc2, rfl⟩⟩ := hcut
      cases kq with
      | zero => exact absurd HA.out (by simp [reredosref01_May.j0])
      | succ kj2 =>
        have H := HA.out
        clear HA
        simp only [reredosref01_May.j0] at H
        have HC7 := Aside0.mk H
        clear H
        go_upto_if 13 with (fail)
        go_cut [3] (fun v3 wc => ∃ (kq : Nat) (x3_6 : Int), v3 = .int .i64 x3_6 ∧ Aside0 (reredosref01_May.j1 kq a0 x3_6 = some r) ∧ Aside0 (kq ≤ kj2) ∧ Drawn0 w wc)
        case first =>
          have H := HC7.out
          clear HC7
          by_cases c8 : x13_2 = true
          · subst c8
            have H1 : (reredosref01_May.j1 kj2 a0 1) = some r := by rw [if_pos rfl] at H; exact H
            clear H
            have H := H1
            clear H1
            have H' := Aside0.mk H
            clear H
            go_wp2
            go_meet
            case rel => exact ⟨_, (1), Rf_, H', ⟨by have := HJ2.out; first | omega | exact Nat.le_refl _⟩, Dw_⟩
          · replace c8 := Bool.eq_false_iff.mpr c8
            subst c8
            have H1 : (reredosref01_May.j1 kj2 a0 0) = some r := by rw [if_neg (show ¬ (false = true) by decide)] at H; exact H
            clear H
            have H := H1
            clear H1
            have H' := Aside0.mk H
            clear H
            go_wp2
            go_meet
            case rel => exact ⟨_, (0), Rf_, H', ⟨by have := HJ2.out; first | omega | exact Nat.le_refl _⟩, Dw_⟩
        case rest =>
          clear HC7
          try clear c1
          try clear c2
          try clear c2b0
          try clear c2b1
          try clear p2
          try clear c4
          try clear c4b0
          try clear c4b1
          try clear c5
          try clear c5b0
          try clear c5b1
          try clear p6
          try clear q6
          try clear hx6
          try clear qi6
          try clear c8
          try clear p2
          try clear p6
          try clear q6
          obtain ⟨kq, x3_6, rfl, HA, HJ6, ⟨mc6, rfl⟩⟩ := hcut
          cases kq with
          | zero => exact absurd HA.out (by simp [reredosref01_May.j1])
          | succ kj6 =>
            have H := HA.out
            clear HA
            simp only [reredosref01_May.j1] at H
            have HC9 := Aside0.mk H
            clear H
            go_upto_region 6 with (fail)
            go_cut [31] (fun v31 wc => ∃ (kq : Nat) (x31_8 : Bool), v31 = .bool x31_8 ∧ Aside0 (reredosref01_May.j2 kq a0 x3_6 x31_8 = some r) ∧ Aside0 (kq ≤ kj6) ∧ Drawn0 w wc)
            case first =>
              have H := HC9.out
              clear HC9
              by_cases c10 : (wrap64 ((a0.size : Int) - x3_6)) < 1
              · rw [if_pos c10] at H
                have c10b0 : decide ((wrap64 ((a0.size : Int) - x3_6)) < 1) = true := decide_eq_true c10
                clear c10
                (first | rw [c10b0] | (simp only [i64_w, i32_w]; rw [c10b0]) | skip)
                have H' := Aside0.mk H
                clear H
                go_wp2
                go_meet
                case rel => exact ⟨_, (true), Rf_, H', ⟨by have := HJ2.out; have := HJ6.out; first | omega | exact Nat.le_refl _⟩, Dw_⟩
              · rw [if_neg c10] at H
                have c10b0 : decide ((wrap64 ((a0.size : Int) - x3_6)) < 1) = false := decide_eq_false c10
                clear c10
                (first | rw [c10b0] | (simp only [i64_w, i32_w]; rw [c10b0]) | skip)
                by_cases c11 : (wrap64 ((a0.size : Int) - x3_6)) > 100
                · rw [if_pos c11] at H
                  have c11b0 : decide (100 < (wrap64 ((a0.size : Int) - x3_6))) = true := decide_eq_true c11
                  clear c11
                  have H' := Aside0.mk H
                  clear H
                  go_wp2
                  go_meet
                  case rel => exact ⟨_, (true), Rf_, H', ⟨by have := HJ2.out; have := HJ6.out; first | omega | exact Nat.le_refl _⟩, Dw_⟩
                · rw [if_neg c11] at H
                  have c11b0 : decide (100 < (wrap64 ((a0.size : Int) - x3_6))) = false := decide_eq_false c11
                  clear c11
                  by_cases c12 : 0 ≤ x3_6
                  · rw [if_pos c12] at H
                    have c12b0 : decide (0 ≤ x3_6) = true := decide_eq_true c12
                    clear c12
                    by_cases c13 : x3_6 < (a0.size : Int)
                    · rw [if_pos c13] at H
                      have c13b0 : decide (x3_6 < (a0.size : Int)) = true := decide_eq_true c13
                      clear c13
                      have H' := Aside0.mk H
                      clear H
                      have p14 : 0 ≤ (x3_6 : Int) := of_decide_eq_true As_
                      have q14 : x3_6 < (a0.size : Int) := of_decide_eq_true As_
                      have hx14 := bt_at a0 x3_6
                      replace p14 := eq_true p14
                      replace q14 := eq_true q14
                      go_wp2
                      go_meet
                      case rel => exact ⟨_, (((bt a0 x3_6) == 48)), Rf_, H', ⟨by have := HJ2.out; have := HJ6.out; first | omega | exact Nat.le_refl _⟩, Dw_⟩
                    · rw [if_neg c13] at H
                      exact absurd H (by simp)
                  · rw [if_neg c12] at H
                    exact absurd H (by simp)
            case rest =>
              clear HC9
              try clear c1
              try clear p1
              try clear q1
              try clear hx1
              try clear c2
              try clear c2b0
              try clear c2b1
              try clear p2
              try clear c4
              try clear c4b0
              try clear c4b1
              try clear c5
              try clear c5b0
              try clear c5b1
              try clear c6
              try clear p6
              try clear q6
              try clear hx6
              try clear qi6
              try clear c8
              try clear c10
              try clear c10b0
              try clear c11
              try clear c11b0
              try clear c12
              try clear c12b0
              try clear c13
              try clear c13b0
              try clear c14
              try clear p14
              try clear q14
              try clear hx14
              try clear p14
              try clear p2
              try clear p6
              try clear q14
              try clear q6
              obtain ⟨kq, x31_8, rfl, HA, HJ8, ⟨mc8, rfl⟩⟩ := hcut
              cases kq with
              | zero => exact absurd HA.out (by simp [reredosref01_May.j2])
              | succ kj8 =>
                have H := HA.out
                clear HA
                simp only [reredosref01_May.j2] at H
                by_cases c15 : x31_8 = true
                · subst c15
                  have H1 : (some false) = some r := by rw [if_pos rfl] at H; exact H
                  clear H
                  have H := H1
                  clear H1
                  obtain rfl := Option.some.inj H
                  go_wp2
                  go_ret
                  exact ⟨Rf_, Dw_⟩
                · replace c15 := Bool.eq_false_iff.mpr c15
                  subst c15
                  have H1 : (reredosref01_May.l0 kj8 a0 x3_6) = some r := by rw [if_neg (show ¬ (false = true) by decide)] at H; exact H
                  clear H
                  have H := H1
                  clear H1
                  have H' := Aside0.mk H
                  clear H
                  go_wp2
                  go_loopg [4] kj8 (fun kq v4 w' => ∃ (x4_4 : Int), v4 = .int .i64 x4_4 ∧ Aside0 (reredosref01_May.l0 kq a0 x4_4 = some r) ∧ Aside0 (kq ≤ kj8) ∧ Drawn0 w w')
                  case atStart => exact ⟨(x3_6), Rf_, H', ⟨Nat.le_refl _⟩, Dw_⟩
                  case round =>
                    clear H'
                    try clear c1
                    try clear p1
                    try clear q1
                    try clear hx1
                    try clear c2
                    try clear c2b0
                    try clear c2b1
                    try clear p2
                    try clear c4
                    try clear c4b0
                    try clear c4b1
                    try clear c5
                    try clear c5b0
                    try clear c5b1
                    try clear c6
                    try clear p6
                    try clear q6
                    try clear hx6
                    try clear qi6
                    try clear c8
                    try clear c10
                    try clear c10b0
                    try clear c11
                    try clear c11b0
                    try clear c12
                    try clear c12b0
                    try clear c13
                    try clear c13b0
                    try clear c14
                    try clear p14
                    try clear q14
                    try clear hx14
                    try clear c15
                    try clear p1
                    try clear p14
                    try clear p2
                    try clear p6
                    try clear q1
                    try clear q14
                    try clear q6
                    obtain ⟨x4_4, rfl, HA, HK4, ⟨m4, rfl⟩⟩ := hrel
                    cases gk with
                    | zero => exact absurd HA.out (by simp [reredosref01_May.l0])
                    | succ k4 =>
                      have H := HA.out
                      clear HA
                      simp only [reredosref01_May.l0] at H
                      by_cases c16 : x4_4 < (a0.size : Int)
                      · rw [if_pos c16] at H
                        have c16b0 : decide (x4_4 < (a0.size : Int)) = true := decide_eq_true c16
                        clear c16
                        by_cases c17 : 0 ≤ x4_4
                        · rw [if_pos c17] at H
                          have c17b0 : decide (0 ≤ x4_4) = true := decide_eq_true c17
                          clear c17
                          by_cases c19 : (bt a0 x4_4) < 48
                          · rw [if_pos c19] at H
                            have c19b0 : decide ((bt a0 x4_4) < 48) = true := decide_eq_true c19
                            clear c19
                            obtain rfl := Option.some.inj H
                            have p18 : 0 ≤ (x4_4 : Int) := of_decide_eq_true As_
                            have q18 : x4_4 < (a0.size : Int) := of_decide_eq_true As_
                            have hx18 := bt_at a0 x4_4
                            replace p18 := eq_true p18
                            replace q18 := eq_true q18
                            go_wp2
                            go_ret
                            exact ⟨Rf_, Dw_⟩
                          · rw [if_neg c19] at H
                            have c19b0 : decide ((bt a0 x4_4) < 48) = false := decide_eq_false c19
                            clear c19
                            by_cases c21 : (bt a0 x4_4) > 57
                            · rw [if_pos c21] at H
                              have c21b0 : decide (57 < (bt a0 x4_4)) = true := decide_eq_true c21
                              clear c21
                              obtain rfl := Option.some.inj H
                              have p18 : 0 ≤ (x4_4 : Int) := of_decide_eq_true As_
                              have q18 : x4_4 < (a0.size : Int) := of_decide_eq_true As_
                              have hx18 := bt_at a0 x4_4
                              replace p18 := eq_true p18
                              replace q18 := eq_true q18
                              have p20 : 0 ≤ (x4_4 : Int) := of_decide_eq_true As_
                              have q20 : x4_4 < (a0.size : Int) := of_decide_eq_true As_
                              have hx20 := bt_at a0 x4_4
                              replace p20 := eq_true p20
                              replace q20 := eq_true q20
                              go_wp2
                              go_ret
                              exact ⟨Rf_, Dw_⟩
                            · rw [if_neg c21] at H
                              have c21b0 : decide (57 < (bt a0 x4_4)) = false := decide_eq_false c21
                              clear c21
                              have H' := Aside0.mk H
                              clear H
                              have p18 : 0 ≤ (x4_4 : Int) := of_decide_eq_true As_
                              have q18 : x4_4 < (a0.size : Int) := of_decide_eq_true As_
                              have hx18 := bt_at a0 x4_4
                              replace p18 := eq_true p18
                              replace q18 := eq_true q18
                              have p20 : 0 ≤ (x4_4 : Int) := of_decide_eq_true As_
                              have q20 : x4_4 < (a0.size : Int) := of_decide_eq_true As_
                              have hx20 := bt_at a0 x4_4
                              replace p20 := eq_true p20
                              replace q20 := eq_true q20
                              go_wp2
                              go_roundg k4
                              case measure => have := HJ2.out; have := HJ6.out; have := HJ8.out; have := HK4.out; omega
                              case rel => exact ⟨(wrap64 (x4_4 + 1)), Rf_, H', ⟨by have := HJ2.out; have := HJ6.out; have := HJ8.out; have := HK4.out; omega⟩, Dw_⟩
                        · rw [if_neg c17] at H
                          exact absurd H (by simp)
                      · rw [if_neg c16] at H
                        have c16b0 : decide (x4_4 < (a0.size : Int)) = false := decide_eq_false c16
                        clear c16
                        obtain rfl := Option.some.inj H
                        go_wp2
                        go_ret
                        exact ⟨Rf_, Dw_⟩
/-! ### reredosref01_low: function 184 -/
def reredosref01_low.f (a0 : ByteArray) : Option (Bool) := if a0.toList = ([] : List UInt8) then (some false) else (if 0 < (a0.size : Int) then (some ((bt a0 0) == 45)) else (none))
set_option maxHeartbeats 8000000 in
set_option maxRecDepth 100000 in
theorem reredosref01_low.calls (a0 : ByteArray) (r : Bool) (w : World) (h : reredosref01_low.f a0 = some r) :
    Calls Tryz.prog 184 #[.string a0] w fun e w' => e = .returned (.bool r) ∧ Drawn0 w w' := by
  have H : (if a0.toList = ([] : List UInt8) then (some false) else (if 0 < (a0.size : Int) then (some ((bt a0 0) == 45)) else (none))) = some r := h
  clear h
  by_cases c2 : a0.toList = ([] : List UInt8)
  · rw [if_pos c2] at H
    have c2b0 : (a0.toList == ([] : List UInt8)) = true := beq_iff_eq.mpr c2
    have c2b1 : (a0.toList != ([] : List UInt8)) = false := bne_eq_false_iff_eq.mpr c2
    clear c2
    obtain rfl := Option.some.inj H
    go_enter Tryz.func184, Tryz.ntmps184
    go_wp2
    go_ret
    exact ⟨Rf_, Dw_⟩
  · rw [if_neg c2] at H
    have c2b0 : (a0.toList == ([] : List UInt8)) = false := beq_eq_false_iff_ne.mpr c2
    have c2b1 : (a0.toList != ([] : List UInt8)) = true := bne_iff_ne.mpr c2
    by_cases c3 : 0 < (a0.size : Int)
    · rw [if_pos c3] at H
      have c3b0 : decide (0 < (a0.size : Int)) = true := decide_eq_true c3
      have c3b1 : decide (0 < a0.size) = true := decide_eq_true (by omega)
      clear c3
      obtain rfl := Option.some.inj H
      have p4 : 0 ≤ (0 : Int) := (by omega)
      have q4 : 0 < a0.size := (by have : (0 : Int) < (a0.size : Int) := of_decide_eq_true As_; omega)
      have hx4 : ∀ h : 0 < a0.size, ((a0[0]'h).toNat : Int) = bt a0 0 := bt_at a0 0
      clear p4
      have qi4 : (0 < (a0.size : Int)) = True := eq_true (of_decide_eq_true As_)
      replace q4 := eq_true q4
      go_enter Tryz.func184, Tryz.ntmps184
      go_wp2
      go_ret
      exact ⟨Rf_, Dw_⟩
    · rw [if_neg c3] at H
      exact absurd H (by simp)
/-! ### reredosref01_size: function 183 -/
def reredosref01_size.f (a0 : ByteArray) : Option (ByteArray) := (reredosref01_low.f a0).bind fun t101 => (if t101 = true then (if 1 ≤ (a0.size : Int) then (some (a0.extract 1 a0.size)) else (none)) else (some a0))
set_option maxHeartbeats 8000000 in
set_option maxRecDepth 100000 in
theorem reredosref01_size.calls (a0 : ByteArray) (r : ByteArray) (w : World) (h : reredosref01_size.f a0 = some r) :
    Calls Tryz.prog 183 #[.string a0] w fun e w' => e = .returned (.string r) ∧ Drawn0 w w' := by
  have H : ((reredosref01_low.f a0).bind fun t101 => (if t101 = true then (if 1 ≤ (a0.size : Int) then (some (a0.extract 1 a0.size)) else (none)) else (some a0))) = some r := h
  clear h
  obtain ⟨t101, A2, H⟩ := bnd_ H
  try dsimp -simprocs only at H
  by_cases c3 : t101 = true
  · subst c3
    have H1 : (if 1 ≤ (a0.size : Int) then (some (a0.extract 1 a0.size)) else (none)) = some r := by rw [if_pos rfl] at H; exact H
    clear H
    have H := H1
    clear H1
    by_cases c4 : 1 ≤ (a0.size : Int)
    · rw [if_pos c4] at H
      have c4b0 := eq_true c4
      have c4b1 : decide (1 ≤ (a0.size : Int)) = true := decide_eq_true c4
      clear c4
      obtain rfl := Option.some.inj H
      go_enter Tryz.func183, Tryz.ntmps183
      go_wp2_with (first | ((with_reducible refine gate_callee (f := 184) rfl ?_); refine goesL_ (some 4) rfl rfl Tryz.func184 (by kernel_rfl) rfl #[.string a0] rfl Ga_ ?_; (with_reducible refine (reredosref01_low.calls a0 true _ A2.out).mono ?_); rintro e w' ⟨rfl, ⟨nd, rfl⟩⟩; refine ⟨_, rfl, ?_⟩))
      go_ret
      exact ⟨Rf_, Dw_⟩
    · rw [if_neg c4] at H
      exact absurd H (by simp)
  · replace c3 := Bool.eq_false_iff.mpr c3
    subst c3
    have H1 : (some a0) = some r := by rw [if_neg (show ¬ (false = true) by decide)] at H; exact H
    clear H
    have H := H1
    clear H1
    obtain rfl := Option.some.inj H
    go_enter Tryz.func183, Tryz.ntmps183
    go_wp2_with (first | ((with_reducible refine gate_callee (f := 184) rfl ?_); refine goesL_ (some 4) rfl rfl Tryz.func184 (by kernel_rfl) rfl #[.string a0] rfl Ga_ ?_; (with_reducible refine (reredosref01_low.calls a0 false _ A2.out).mono ?_); rintro e w' ⟨rfl, ⟨nd, rfl⟩⟩; refine ⟨_, rfl, ?_⟩))
    go_ret
    exact ⟨Rf_, Dw_⟩
/-! ### reredosref01_told: function 178 -/
def reredosref01_told.f (a0 : ByteArray) : Option (ByteArray × Int) := (reredosref01_size.f a0).bind fun t101 => (if (t101.size : Int) > 100 then (some ((⟨#[]⟩ : ByteArray), 8)) else (some (a0, 0)))
set_option maxHeartbeats 8000000 in
set_option maxRecDepth 100000 in
theorem reredosref01_told.calls (a0 : ByteArray) (r1 : ByteArray) (r2 : Int) (w : World) (h : reredosref01_told.f a0 = some (r1, r2)) :
    Calls Tryz.prog 178 #[.string a0] w fun e w' => e = .returned (.tuple #[.string r1, .int .i64 r2]) ∧ Drawn0 w w' := by
  have H : ((reredosref01_size.f a0).bind fun t101 => (if (t101.size : Int) > 100 then (some ((⟨#[]⟩ : ByteArray), 8)) else (some (a0, 0)))) = some (r1, r2) := h
  clear h
  obtain ⟨t101, A2, H⟩ := bnd_ H
  try dsimp -simprocs only at H
  by_cases c3 : (t101.size : Int) > 100
  · rw [if_pos c3] at H
    have c3b0 : decide (100 < (t101.size : Int)) = true := decide_eq_true c3
    have c3b1 : decide (100 < t101.size) = true := decide_eq_true (by omega)
    clear c3
    simp only [Option.some.injEq, Prod.mk.injEq] at H
    obtain ⟨rfl, rfl⟩ := H
    go_enter Tryz.func178, Tryz.ntmps178
    go_wp2_with (first | ((with_reducible refine gate_callee (f := 183) rfl ?_); refine goesL_ (some 5) rfl rfl Tryz.func183 (by kernel_rfl) rfl #[.string a0] rfl Ga_ ?_; (with_reducible refine (reredosref01_size.calls a0 t101 _ A2.out).mono ?_); rintro e w' ⟨rfl, ⟨nd, rfl⟩⟩; refine ⟨_, rfl, ?_⟩))
    go_ret2
    exact ⟨Rf_, Dw_⟩
  · rw [if_neg c3] at H
    have c3b0 : decide (100 < (t101.size : Int)) = false := decide_eq_false c3
    have c3b1 : decide (100 < t101.size) = false := decide_eq_false (by omega)
    clear c3
    simp only [Option.some.injEq, Prod.mk.injEq] at H
    obtain ⟨rfl, rfl⟩ := H
    go_enter Tryz.func178, Tryz.ntmps178
    go_wp2_with (first | ((with_reducible refine gate_callee (f := 183) rfl ?_); refine goesL_ (some 5) rfl rfl Tryz.func183 (by kernel_rfl) rfl #[.string a0] rfl Ga_ ?_; (with_reducible refine (reredosref01_size.calls a0 t101 _ A2.out).mono ?_); rintro e w' ⟨rfl, ⟨nd, rfl⟩⟩; refine ⟨_, rfl, ?_⟩))
    go_ret2
    exact ⟨Rf_, Dw_⟩
/-! ### reredosref01_bare: function 229 -/
def reredosref01_bare.l0 : Nat → ByteArray → Option (ByteArray)
  | 0, _ => none
  | k + 1, x0 => if (x0.size : Int) > 1 then (if 0 < (x0.size : Int) then (if (bt x0 0) = 48 then (if 1 ≤ (x0.size : Int) then (reredosref01_bare.l0 k (x0.extract 1 x0.size)) else (none)) else (if x0.toList = ([] : List UInt8) then (some (⟨#[48]⟩ : ByteArray)) else (some x0))) else (none)) else (if x0.toList = ([] : List UInt8) then (some (⟨#[48]⟩ : ByteArray)) else (some x0))
def reredosref01_bare.f (k : Nat) (a0 : ByteArray) : Option (ByteArray) := reredosref01_bare.l0 k a0
set_option maxHeartbeats 8000000 in
set_option maxRecDepth 100000 in
theorem reredosref01_bare.calls (k : Nat) (a0 : ByteArray) (r : ByteArray) (w : World) (h : reredosref01_bare.f k a0 = some r) :
    Calls Tryz.prog 229 #[.string a0] w fun e w' => e = .returned (.string r) ∧ Drawn0 w w' := by
  have H : (reredosref01_bare.l0 k a0) = some r := h
  clear h
  have H' := Aside0.mk H
  clear H
  go_enter Tryz.func229, Tryz.ntmps229
  go_wp2
  go_loopg [0] k (fun kq v0 w' => ∃ (x0_1 : ByteArray), v0 = .string x0_1 ∧ Aside0 (reredosref01_bare.l0 kq x0_1 = some r) ∧ Aside0 (kq ≤ k) ∧ Drawn0 w w')
  case atStart => exact ⟨(a0), Rf_, H', ⟨Nat.le_refl _⟩, Dw_⟩
  case round =>
    clear H'
    obtain ⟨x0_1, rfl, HA, HK1, ⟨m1, rfl⟩⟩ := hrel
    cases gk with
    | zero => exact absurd HA.out (by simp [reredosref01_bare.l0])
    | succ k1 =>
      have H := HA.out
      clear HA
      simp only [reredosref01_bare.l0] at H
      by_cases c2 : (x0_1.size : Int) > 1
      · rw [if_pos c2] at H
        have c2b0 : decide (1 < (x0_1.size : Int)) = true := decide_eq_true c2
        have c2b1 : decide (1 < x0_1.size) = true := decide_eq_true (by omega)
        clear c2
        by_cases c3 : 0 < (x0_1.size : Int)
        · rw [if_pos c3] at H
          have c3b0 : decide (0 < (x0_1.size : Int)) = true := decide_eq_true c3
          have c3b1 : decide (0 < x0_1.size) = true := decide_eq_true (by omega)
          clear c3
          by_cases c5 : (bt x0_1 0) = 48
          · rw [if_pos c5] at H
            have c5b0 : ((bt x0_1 0) == 48) = true := beq_iff_eq.mpr c5
            have c5b1 : ((bt x0_1 0) != 48) = false := bne_eq_false_iff_eq.mpr c5
            clear c5
            by_cases c6 : 1 ≤ (x0_1.size : Int)
            · rw [if_pos c6] at H
              have c6b0 := eq_true c6
              have c6b1 : decide (1 ≤ (x0_1.size : Int)) = true := decide_eq_true c6
              clear c6
              have H' := Aside0.mk H
              clear H
              have p4 : 0 ≤ (0 : Int) := (by omega)
              have q4 : 0 < x0_1.size := (by have : (0 : Int) < (x0_1.size : Int) := of_decide_eq_true As_; omega)
              have hx4 : ∀ h : 0 < x0_1.size, ((x0_1[0]'h).toNat : Int) = bt x0_1 0 := bt_at x0_1 0
              clear p4
              have qi4 : (0 < (x0_1.size : Int)) = True := eq_true (of_decide_eq_true As_)
              replace q4 := eq_true q4
              go_wp2
              go_roundg k1
              case measure => have := HK1.out; omega
              case rel => exact ⟨(x0_1.extract 1 x0_1.size), Rf_, H', ⟨by have := HK1.out; omega⟩, Dw_⟩
            · rw [if_neg c6] at H
              exact absurd H (by simp)
          · rw [if_neg c5] at H
            have c5b0 : ((bt x0_1 0) == 48) = false := beq_eq_false_iff_ne.mpr c5
            have c5b1 : ((bt x0_1 0) != 48) = true := bne_iff_ne.mpr c5
            by_cases c7 : x0_1.toList = ([] : List UInt8)
            · rw [if_pos c7] at H
              have c7b0 : (x0_1.toList == ([] : List UInt8)) = true := beq_iff_eq.mpr c7
              have c7b1 : (x0_1.toList != ([] : List UInt8)) = false := bne_eq_false_iff_eq.mpr c7
              clear c7
              obtain rfl := Option.some.inj H
              have p4 : 0 ≤ (0 : Int) := (by omega)
              have q4 : 0 < x0_1.size := (by have : (0 : Int) < (x0_1.size : Int) := of_decide_eq_true As_; omega)
              have hx4 : ∀ h : 0 < x0_1.size, ((x0_1[0]'h).toNat : Int) = bt x0_1 0 := bt_at x0_1 0
              clear p4
              have qi4 : (0 < (x0_1.size : Int)) = True := eq_true (of_decide_eq_true As_)
              replace q4 := eq_true q4
              go_wp2
              go_ret
              exact ⟨Rf_, Dw_⟩
            · rw [if_neg c7] at H
              have c7b0 : (x0_1.toList == ([] : List UInt8)) = false := beq_eq_false_iff_ne.mpr c7
              have c7b1 : (x0_1.toList != ([] : List UInt8)) = true := bne_iff_ne.mpr c7
              obtain rfl := Option.some.inj H
              have p4 : 0 ≤ (0 : Int) := (by omega)
              have q4 : 0 < x0_1.size := (by have : (0 : Int) < (x0_1.size : Int) := of_decide_eq_true As_; omega)
              have hx4 : ∀ h : 0 < x0_1.size, ((x0_1[0]'h).toNat : Int) = bt x0_1 0 := bt_at x0_1 0
              clear p4
              have qi4 : (0 < (x0_1.size : Int)) = True := eq_true (of_decide_eq_true As_)
              replace q4 := eq_true q4
              go_wp2
              go_ret
              exact ⟨Rf_, Dw_⟩
        · rw [if_neg c3] at H
          exact absurd H (by simp)
      · rw [if_neg c2] at H
        have c2b0 : decide (1 < (x0_1.size : Int)) = false := decide_eq_false c2
        have c2b1 : decide (1 < x0_1.size) = false := decide_eq_false (by omega)
        clear c2
        by_cases c8 : x0_1.toList = ([] : List UInt8)
        · rw [if_pos c8] at H
          have c8b0 : (x0_1.toList == ([] : List UInt8)) = true := beq_iff_eq.mpr c8
          have c8b1 : (x0_1.toList != ([] : List UInt8)) = false := bne_eq_false_iff_eq.mpr c8
          clear c8
          obtain rfl := Option.some.inj H
          go_wp2
          go_ret
          exact ⟨Rf_, Dw_⟩
        · rw [if_neg c8] at H
          have c8b0 : (x0_1.toList == ([] : List UInt8)) = false := beq_eq_false_iff_ne.mpr c8
          have c8b1 : (x0_1.toList != ([] : List UInt8)) = true := bne_iff_ne.mpr c8
          obtain rfl := Option.some.inj H
          go_wp2
          go_ret
          exact ⟨Rf_, Dw_⟩
/-! ### reredosref01_signed: function 209 -/
def reredosref01_signed.j0 : Nat → ByteArray → Bool → Option (ByteArray)
  | 0, _, _ => none
  | k + 1, x0, x10 => if x10 = true then ((reredosref01_bare.f k x0).bind fun t102 => (if 1 + t102.size ≤ 9223372036854775807 then (some ((⟨#[45]⟩ : ByteArray) ++ t102)) else (none))) else ((reredosref01_bare.f k x0).bind fun t103 => (some t103))
def reredosref01_signed.f (k : Nat) (a0 : ByteArray) (a1 : Bool) : Option (ByteArray) := if a1 = true then ((reredosref01_bare.f k a0).bind fun t101 => (reredosref01_signed.j0 k a0 (t101.toList != ([48] : List UInt8)))) else (reredosref01_signed.j0 k a0 false)
set_option maxHeartbeats 8000000 in
set_option maxRecDepth 100000 in
theorem reredosref01_signed.calls (k : Nat) (a0 : ByteArray) (a1 : Bool) (r : ByteArray) (w : World) (h : reredosref01_signed.f k a0 a1 = some r) :
    Calls Tryz.prog 209 #[.string a0, .bool a1] w fun e w' => e = .returned (.string r) ∧ Drawn0 w w' := by
  have H : (if a1 = true then ((reredosref01_bare.f k a0).bind fun t101 => (reredosref01_signed.j0 k a0 (t101.toList != ([48] : List UInt8)))) else (reredosref01_signed.j0 k a0 false)) = some r := h
  clear h
  have HC3 := Aside0.mk H
  clear H
  go_enter Tryz.func209, Tryz.ntmps209
  go_upto_region 1 with (fail)
  go_cut [10] (fun v10 wc => ∃ (kq : Nat) (x10_2 : Bool), v10 = .bool x10_2 ∧ Aside0 (reredosref01_signed.j0 kq a0 x10_2 = some r) ∧ Aside0 (kq ≤ k) ∧ Drawn0 w wc)
  case first =>
    have H := HC3.out
    clear HC3
    by_cases c4 : a1 = true
    · subst c4
      have H1 : ((reredosref01_bare.f k a0).bind fun t101 => (reredosref01_signed.j0 k a0 (t101.toList != ([48] : List UInt8)))) = some r := by rw [if_pos rfl] at H; exact H
      clear H
      have H := H1
      clear H1
      obtain ⟨t101, A5, H⟩ := bnd_ H
      try dsimp -simprocs only at H
      have H' := Aside0.mk H
      clear H
      go_wp2_with (first | (go_at_call 229; (with_reducible refine (reredosref01_bare.calls k a0 t101 _ A5.out).mono ?_); rintro e w' ⟨rfl, ⟨nd, rfl⟩⟩))
      go_meet
      case rel => exact ⟨_, ((t101.toList != ([48] : List UInt8))), Rf_, H', ⟨by first | omega | exact Nat.le_refl _⟩, Dw_⟩
    · replace c4 := Bool.eq_false_iff.mpr c4
      subst c4
      have H1 : (reredosref01_signed.j0 k a0 false) = some r := by rw [if_neg (show ¬ (false = true) by decide)] at H; exact H
      clear H
      have H := H1
      clear H1
      have H' := Aside0.mk H
      clear H
      go_wp2
      go_meet
      case rel => exact ⟨_, (false), Rf_, H', ⟨by first | omega | exact Nat.le_refl _⟩, Dw_⟩
  case rest =>
    clear HC3
    try clear c2
    try clear p2
    try clear c4
    obtain ⟨kq, x10_2, rfl, HA, HJ2, ⟨mc2, rfl⟩⟩ := hcut
    cases kq with
    | zero => exact absurd HA.out (by simp [reredosref01_signed.j0])
    | succ kj2 =>
      have H := HA.out
      clear HA
      simp only [reredosref01_signed.j0] at H
      by_cases c6 : x10_2 = true
      · subst c6
        have H1 : ((reredosref01_bare.f kj2 a0).bind fun t102 => (if 1 + t102.size ≤ 9223372036854775807 then (some ((⟨#[45]⟩ : ByteArray) ++ t102)) else (none))) = some r := by rw [if_pos rfl] at H; exact H
        clear H
        have H := H1
        clear H1
        obtain ⟨t102, A7, H⟩ := bnd_ H
        try dsimp -simprocs only at H
        by_cases c8 : 1 + t102.size ≤ 9223372036854775807
        · rw [if_pos c8] at H
          have c8b0 := eq_true c8
          have c8b1 : decide (1 + t102.size ≤ 9223372036854775807) = true := decide_eq_true c8
          try have c8b2 : (9223372036854775807 < 1 + t102.size) = False := eq_false (Nat.not_lt.2 c8)
          obtain rfl := Option.some.inj H
          go_wp2_with (first | ((with_reducible refine gate_callee (f := 229) rfl ?_); refine goesL_ (some 12) rfl rfl Tryz.func229 (by kernel_rfl) rfl #[.string a0] rfl Ga_ ?_; (with_reducible refine (reredosref01_bare.calls kj2 a0 t102 _ A7.out).mono ?_); rintro e w' ⟨rfl, ⟨nd, rfl⟩⟩; refine ⟨_, rfl, ?_⟩))
          go_ret
          exact ⟨Rf_, Dw_⟩
        · rw [if_neg c8] at H
          exact absurd H (by simp)
      · replace c6 := Bool.eq_false_iff.mpr c6
        subst c6
        have H1 : ((reredosref01_bare.f kj2 a0).bind fun t103 => (some t103)) = some r := by rw [if_neg (show ¬ (false = true) by decide)] at H; exact H
        clear H
        have H := H1
        clear H1
        obtain ⟨t103, A9, H⟩ := bnd_ H
        try dsimp -simprocs only at H
        obtain rfl := Option.some.inj H
        go_wp2_with (first | ((with_reducible refine gate_callee (f := 229) rfl ?_); refine goesL_ (some 15) rfl rfl Tryz.func229 (by kernel_rfl) rfl #[.string a0] rfl Ga_ ?_; (with_reducible refine (reredosref01_bare.calls kj2 a0 t103 _ A9.out).mono ?_); rintro e w' ⟨rfl, ⟨nd, rfl⟩⟩; refine ⟨_, rfl, ?_⟩))
        go_ret
        exact ⟨Rf_, Dw_⟩
/-! ### reredosref01_digit: function 230 -/
def reredosref01_digit.f (a0 : ByteArray) (a1 : Int) : Option (Int) := if a1 ≥ (a0.size : Int) then (some 0) else (if 0 ≤ (wrap64 ((wrap64 ((a0.size : Int) - 1)) - a1)) then (if (wrap64 ((wrap64 ((a0.size : Int) - 1)) - a1)) < (a0.size : Int) then (some (((bt a0 (wrap64 ((wrap64 ((a0.size : Int) - 1)) - a1))) - 48) % 256)) else (none)) else (none))
set_option maxHeartbeats 8000000 in
set_option maxRecDepth 100000 in
theorem reredosref01_digit.calls (a0 : ByteArray) (a1 : Int) (r : Int) (w : World) (h : reredosref01_digit.f a0 a1 = some r) :
    Calls Tryz.prog 230 #[.string a0, .int .i64 a1] w fun e w' => e = .returned (.int .i64 r) ∧ Drawn0 w w' := by
  have H : (if a1 ≥ (a0.size : Int) then (some 0) else (if 0 ≤ (wrap64 ((wrap64 ((a0.size : Int) - 1)) - a1)) then (if (wrap64 ((wrap64 ((a0.size : Int) - 1)) - a1)) < (a0.size : Int) then (some (((bt a0 (wrap64 ((wrap64 ((a0.size : Int) - 1)) - a1))) - 48) % 256)) else (none)) else (none))) = some r := h
  clear h
  by_cases c3 : a1 ≥ (a0.size : Int)
  · rw [if_pos c3] at H
    have c3b0 : decide ((a0.size : Int) ≤ a1) = true := decide_eq_true c3
    clear c3
    obtain rfl := Option.some.inj H
    go_enter Tryz.func230, Tryz.ntmps230
    go_wp2
    go_ret
    exact ⟨Rf_, Dw_⟩
  · rw [if_neg c3] at H
    have c3b0 : decide ((a0.size : Int) ≤ a1) = false := decide_eq_false c3
    clear c3
    obtain ⟨ji4, hji4⟩ : ∃ j_ : Int, (wrap64 ((wrap64 ((a0.size : Int) - 1)) - a1)) = j_ := ⟨_, rfl⟩
    replace H : (if 0 ≤ (ji4) then (if (ji4) < (a0.size : Int) then (some (((bt a0 (ji4)) - 48) % 256)) else (none)) else (none)) = some r := by first | (rw [hji4] at H; exact H) | (simp only [hji4] at H ⊢; exact H)
    have hji4w : (IntKind.i64.wrap ((wrap64 ((a0.size : Int) - 1)) - a1)) = ji4 := (i64_w _).trans hji4
    by_cases c5 : 0 ≤ (ji4)
    · rw [if_pos c5] at H
      have c5b0 : decide (0 ≤ (ji4)) = true := decide_eq_true c5
      clear c5
      by_cases c6 : (ji4) < (a0.size : Int)
      · rw [if_pos c6] at H
        have c6b0 : decide ((ji4) < (a0.size : Int)) = true := decide_eq_true c6
        clear c6
        obtain rfl := Option.some.inj H
        have p7 : 0 ≤ ((ji4) : Int) := of_decide_eq_true As_
        have q7 : (ji4) < (a0.size : Int) := of_decide_eq_true As_
        have hx7 := bt_at a0 (ji4)
        replace p7 := eq_true p7
        replace q7 := eq_true q7
        go_enter Tryz.func230, Tryz.ntmps230
        go_wp2
        go_ret
        exact ⟨by first | rfl | (simp; done) | (simp only [← hji4] <;> (first | rfl | simp)) | (simp [*]; done), Dw_⟩
      · rw [if_neg c6] at H
        exact absurd H (by simp)
    · rw [if_neg c5] at H
      exact absurd H (by simp)
/-! ### reredosref01_plus: function 210 -/
def reredosref01_plus.l0 : Nat → ByteArray → ByteArray → ByteArray → Int → Int → Option (ByteArray)
  | 0, _, _, _, _, _ => none
  | k + 1, x0, x1, x5, x6, x7 => if x7 ≤ (mx (x0.size : Int) (x1.size : Int)) then ((reredosref01_digit.f x0 x7).bind fun t101 => ((reredosref01_digit.f x1 x7).bind fun t102 => ((some (([(wrap64 (48 + (Int.tmod (wrap64 ((wrap64 (t101 + t102)) + x6)) 10))) % 256] : List Int) : List Int)).bind fun y103 => (if (strOfNums y103).size + x5.size ≤ 9223372036854775807 then (reredosref01_plus.l0 k x0 x1 ((strOfNums y103) ++ x5) (wrap64 (Int.tdiv (wrap64 ((wrap64 (t101 + t102)) + x6)) 10)) (wrap64 (x7 + 1))) else (none))))) else ((reredosref01_bare.f k x5).bind fun t106 => (some t106))
def reredosref01_plus.f (k : Nat) (a0 : ByteArray) (a1 : ByteArray) : Option (ByteArray) := reredosref01_plus.l0 k a0 a1 (⟨#[]⟩ : ByteArray) 0 0
set_option maxHeartbeats 8000000 in
set_option maxRecDepth 100000 in
theorem reredosref01_plus.calls (k : Nat) (a0 : ByteArray) (a1 : ByteArray) (r : ByteArray) (w : World) (h : reredosref01_plus.f k a0 a1 = some r) :
    Calls Tryz.prog 210 #[.string a0, .string a1] w fun e w' => e = .returned (.string r) ∧ Below w.heap.size w w' := by
  have HB := Aside0.mk (Below.refl w.heap.size w)
  have H : (reredosref01_plus.l0 k a0 a1 (⟨#[]⟩ : ByteArray) 0 0) = some r := h
  clear h
  have H' := Aside0.mk H
  clear H
  go_enter Tryz.func210, Tryz.ntmps210
  go_wp2
  go_loopg [5, 6, 7] k (fun kq v5 v6 v7 w' => ∃ (x5_1 : ByteArray) (x6_1 : Int) (x7_1 : Int), v5 = .string x5_1 ∧ v6 = .int .i64 x6_1 ∧ v7 = .int .i64 x7_1 ∧ Aside0 (reredosref01_plus.l0 kq a0 a1 x5_1 x6_1 x7_1 = some r) ∧ Aside0 (kq ≤ k) ∧ Aside0 (Below w.heap.size w w'))
  case atStart => exact ⟨((⟨#[]⟩ : ByteArray)), (0), (0), Rf_, Rf_, Rf_, H', ⟨Nat.le_refl _⟩, ⟨Bl_⟩⟩
  case round =>
    clear H'
    try clear c2
    try clear p2
    obtain ⟨x5_1, x6_1, x7_1, rfl, rfl, rfl, HA, HK1, HB⟩ := hrel
    cases gk with
    | zero => exact absurd HA.out (by simp [reredosref01_plus.l0])
    | succ k1 =>
      have H := HA.out
      clear HA
      simp only [reredosref01_plus.l0] at H
      obtain ⟨ji3, hji3⟩ : ∃ j_ : Int, (mx (a0.size : Int) (a1.size : Int)) = j_ := ⟨_, rfl⟩
      replace H : (if x7_1 ≤ (ji3) then ((reredosref01_digit.f a0 x7_1).bind fun t101 => ((reredosref01_digit.f a1 x7_1).bind fun t102 => ((some (([(wrap64 (48 + (Int.tmod (wrap64 ((wrap64 (t101 + t102)) + x6_1)) 10))) % 256] : List Int) : List Int)).bind fun y103 => (if (strOfNums y103).size + x5_1.size ≤ 9223372036854775807 then (reredosref01_plus.l0 k1 a0 a1 ((strOfNums y103) ++ x5_1) (wrap64 (Int.tdiv (wrap64 ((wrap64 (t101 + t102)) + x6_1)) 10)) (wrap64 (x7_1 + 1))) else (none))))) else ((reredosref01_bare.f k1 x5_1).bind fun t106 => (some t106))) = some r := by first | (rw [hji3] at H; exact H) | (simp only [hji3] at H ⊢; exact H)
      have hji3_ : (if (a0.size : Int) < (a1.size : Int) then (a1.size : Int) else (a0.size : Int)) = ji3 := hji3
      have hji3n_ : (if a0.size < a1.size then (a1.size : Int) else (a0.size : Int)) = ji3 := by rw [← hji3_]; simp only [Int.ofNat_lt]
      by_cases c4 : x7_1 ≤ (ji3)
      · rw [if_pos c4] at H
        have c4b0 : decide (x7_1 ≤ (ji3)) = true := decide_eq_true c4
        clear c4
        obtain ⟨t101, A5, H⟩ := bnd_ H
        try dsimp -simprocs only at H
        obtain ⟨t102, A6, H⟩ := bnd_ H
        try dsimp -simprocs only at H
        obtain ⟨y103, hy103⟩ : ∃ y_ : List Int, y_ = (([(wrap64 (48 + (Int.tmod (wrap64 ((wrap64 (t101 + t102)) + x6_1)) 10))) % 256] : List Int)) := ⟨_, rfl⟩
        replace H : (if (strOfNums y103).size + x5_1.size ≤ 9223372036854775807 then (reredosref01_plus.l0 k1 a0 a1 ((strOfNums y103) ++ x5_1) (wrap64 (Int.tdiv (wrap64 ((wrap64 (t101 + t102)) + x6_1)) 10)) (wrap64 (x7_1 + 1))) else (none)) = some r := by first | (rw [hy103]; with_reducible exact H) | (have H2_ := (Option.bind_some _ _).symm.trans H; rw [hy103]; with_reducible exact H2_) | (have H2_ := (Option.bind_some _ _).symm.trans H; with_reducible exact H2_) | with_reducible exact H | (rw [hy103]; exact H) | exact H
        have Ny103 := Aside0.mk hy103
        clear hy103
        by_cases c7 : (strOfNums y103).size + x5_1.size ≤ 9223372036854775807
        · rw [if_pos c7] at H
          have c7b0 := eq_true c7
          have c7b1 : decide ((strOfNums y103).size + x5_1.size ≤ 9223372036854775807) = true := decide_eq_true c7
          try have c7b2 : (9223372036854775807 < (strOfNums y103).size + x5_1.size) = False := eq_false (Nat.not_lt.2 c7)
          have H' := Aside0.mk H
          clear H
          go_wp2_with (first | ((with_reducible refine gate_callee (f := 230) rfl ?_); refine goesL_ (some 20) rfl rfl Tryz.func230 (by kernel_rfl) rfl #[.string a0, .int .i64 x7_1] rfl Ga_ ?_; (with_reducible refine (reredosref01_digit.calls a0 x7_1 t101 _ A5.out).mono ?_); rintro e w' ⟨rfl, ⟨nd, rfl⟩⟩; refine ⟨_, rfl, ?_⟩) | ((with_reducible refine gate_callee (f := 230) rfl ?_); refine goesL_ (some 23) rfl rfl Tryz.func230 (by kernel_rfl) rfl #[.string a1, .int .i64 x7_1] rfl Ga_ ?_; (with_reducible refine (reredosref01_digit.calls a1 x7_1 t102 _ A6.out).mono ?_); rintro e w' ⟨rfl, ⟨nd, rfl⟩⟩; refine ⟨_, rfl, ?_⟩) | ((with_reducible refine gate_dst (N := 31) rfl ?_); refine Kd.R_lit (Kd.int .u8) _ 5 ?hg (N := 31) ?hd (xs := ([(wrap64 (48 + (Int.tmod (wrap64 ((wrap64 (t101 + t102)) + x6_1)) 10))) % 256] : List Int)) (inner := [.int .u8 ((wrap64 (48 + (Int.tmod (wrap64 ((wrap64 (t101 + t102)) + x6_1)) 10))) % 256)]) (ok := fun _ => True) (okp := fun _ => True) ?hr ?hp (fun _ hk => hk) trivial (Below.refl _ _) (Nat.le_refl _) (by simp) ?_; (case hd => rfl); (case hg => rfl); (case hr => first | (go_simp; done) | (go_simp; rfl)); (case hp => exact (Reps.one (show Kd.M (Kd.int .u8) _ _ _ ((wrap64 (48 + (Int.tmod (wrap64 ((wrap64 (t101 + t102)) + x6_1)) 10))) % 256) [.int .u8 ((wrap64 (48 + (Int.tmod (wrap64 ((wrap64 (t101 + t102)) + x6_1)) 10))) % 256)] from rfl) (Reps.none _ _))); intro v104 w8 ho9 hb hg_ hnew_; clear hg_ hnew_; (first | rw [← Ny103.out] at ho9 | (simp only [Int.reduceToNat] at ho9; rw [← Ny103.out] at ho9)); have HO105 := Aside0.mk (Kd.R_lower ho9 Bz_); replace HB := Bs_ hb; clear hb ho9; have hcv10 := own_string (P := Tryz.prog) Tryz.underlying55 Tryz.underlying5 Tryz.underlying9 (Kd.own_of_R HO105.out)))
          go_roundg k1
          case measure => have := HK1.out; omega
          case rel => exact ⟨((strOfNums y103) ++ x5_1), (wrap64 (Int.tdiv (wrap64 ((wrap64 (t101 + t102)) + x6_1)) 10)), (wrap64 (x7_1 + 1)), Rf_, Rf_, Rf_, H', ⟨by have := HK1.out; omega⟩, ⟨Bl_⟩⟩
        · rw [if_neg c7] at H
          exact absurd H (by simp)
      · rw [if_neg c4] at H
        have c4b0 : decide (x7_1 ≤ (ji3)) = false := decide_eq_false c4
        clear c4
        obtain ⟨t106, A11, H⟩ := bnd_ H
        try dsimp -simprocs only at H
        obtain rfl := Option.some.inj H
        go_wp2_with (first | ((with_reducible refine gate_callee (f := 229) rfl ?_); refine goesL_ (some 38) rfl rfl Tryz.func229 (by kernel_rfl) rfl #[.string x5_1] rfl Ga_ ?_; (with_reducible refine (reredosref01_bare.calls k1 x5_1 t106 _ A11.out).mono ?_); rintro e w' ⟨rfl, ⟨nd, rfl⟩⟩; refine ⟨_, rfl, ?_⟩))
        go_ret
        exact ⟨by first | rfl | (simp [errW_none, errW_some] <;> rfl) | (simp only [← hji3]; first | rfl | (simp [errW_none, errW_some] <;> rfl)) | (simp [*, errW_none, errW_some] <;> rfl), Bl_⟩
/-! ### reredosref01_more: function 211 -/
def reredosref01_more.l0 : Nat → ByteArray → ByteArray → Int → Option (Int)
  | 0, _, _, _ => none
  | k + 1, x0, x1, x5 => if x5 < (x0.size : Int) then (if 0 ≤ x5 then (if x5 < (x1.size : Int) then (if (bt x0 x5) < (bt x1 x5) then (some (-1)) else (if (bt x0 x5) > (bt x1 x5) then (some 1) else (reredosref01_more.l0 k x0 x1 (wrap64 (x5 + 1))))) else (none)) else (none)) else (some 0)
def reredosref01_more.f (k : Nat) (a0 : ByteArray) (a1 : ByteArray) : Option (Int) := if (a0.size : Int) = (a1.size : Int) then (reredosref01_more.l0 k a0 a1 0) else (if (a0.size : Int) < (a1.size : Int) then (some (-1)) else (some 1))
set_option maxHeartbeats 8000000 in
set_option maxRecDepth 100000 in
theorem reredosref01_more.calls (k : Nat) (a0 : ByteArray) (a1 : ByteArray) (r : Int) (w : World) (h : reredosref01_more.f k a0 a1 = some r) :
    Calls Tryz.prog 211 #[.string a0, .string a1] w fun e w' => e = .returned (.int .i64 r) ∧ Drawn0 w w' := by
  have H : (if (a0.size : Int) = (a1.size : Int) then (reredosref01_more.l0 k a0 a1 0) else (if (a0.size : Int) < (a1.size : Int) then (some (-1)) else (some 1))) = some r := h
  clear h
  by_cases c3 : (a0.size : Int) = (a1.size : Int)
  · rw [if_pos c3] at H
    have c3b0 : ((a0.size : Int) == (a1.size : Int)) = true := beq_iff_eq.mpr c3
    have c3b1 : ((a0.size : Int) != (a1.size : Int)) = false := bne_eq_false_iff_eq.mpr c3
    have c3b2 : (a0.size == a1.size) = true := by first | simpa using c3 | (simp at c3 ⊢; omega)
    clear c3
    have H' := Aside0.mk H
    clear H
    go_enter Tryz.func211, Tryz.ntmps211
    go_wp2
    repeat (go_quiet (fail); try go_wp2)
    go_loopg [5] k (fun kq v5 w' => ∃ (x5_1 : Int), v5 = .int .i64 x5_1 ∧ Aside0 (reredosref01_more.l0 kq a0 a1 x5_1 = some r) ∧ Aside0 (kq ≤ k) ∧ Drawn0 w w')
    case atStart => exact ⟨(0), Rf_, H', ⟨Nat.le_refl _⟩, Dw_⟩
    case round =>
      clear H'
      try clear c2
      try clear p2
      try clear c3
      try clear c3b0
      try clear c3b1
      try clear c3b2
      obtain ⟨x5_1, rfl, HA, HK1, ⟨m1, rfl⟩⟩ := hrel
      cases gk with
      | zero => exact absurd HA.out (by simp [reredosref01_more.l0])
      | succ k1 =>
        have H := HA.out
        clear HA
        simp only [reredosref01_more.l0] at H
        by_cases c4 : x5_1 < (a0.size : Int)
        · rw [if_pos c4] at H
          have c4b0 : decide (x5_1 < (a0.size : Int)) = true := decide_eq_true c4
          clear c4
          by_cases c5 : 0 ≤ x5_1
          · rw [if_pos c5] at H
            have c5b0 : decide (0 ≤ x5_1) = true := decide_eq_true c5
            clear c5
            by_cases c7 : x5_1 < (a1.size : Int)
            · rw [if_pos c7] at H
              have c7b0 : decide (x5_1 < (a1.size : Int)) = true := decide_eq_true c7
              clear c7
              by_cases c9 : (bt a0 x5_1) < (bt a1 x5_1)
              · rw [if_pos c9] at H
                have c9b0 : decide ((bt a0 x5_1) < (bt a1 x5_1)) = true := decide_eq_true c9
                clear c9
                obtain rfl := Option.some.inj H
                have p6 : 0 ≤ (x5_1 : Int) := of_decide_eq_true As_
                have q6 : x5_1 < (a0.size : Int) := of_decide_eq_true As_
                have hx6 := bt_at a0 x5_1
                replace p6 := eq_true p6
                replace q6 := eq_true q6
                have p8 : 0 ≤ (x5_1 : Int) := of_decide_eq_true As_
                have q8 : x5_1 < (a1.size : Int) := of_decide_eq_true As_
                have hx8 := bt_at a1 x5_1
                replace p8 := eq_true p8
                replace q8 := eq_true q8
                go_wp2
                repeat (go_quiet (fail); try go_wp2)
                go_ret
                exact ⟨Rf_, Dw_⟩
              · rw [if_neg c9] at H
                have c9b0 : decide ((bt a0 x5_1) < (bt a1 x5_1)) = false := decide_eq_false c9
                clear c9
                by_cases c12 : (bt a0 x5_1) > (bt a1 x5_1)
                · rw [if_pos c12] at H
                  have c12b0 : decide ((bt a1 x5_1) < (bt a0 x5_1)) = true := decide_eq_true c12
                  clear c12
                  obtain rfl := Option.some.inj H
                  have p6 : 0 ≤ (x5_1 : Int) := of_decide_eq_true As_
                  have q6 : x5_1 < (a0.size : Int) := of_decide_eq_true As_
                  have hx6 := bt_at a0 x5_1
                  replace p6 := eq_true p6
                  replace q6 := eq_true q6
                  have p8 : 0 ≤ (x5_1 : Int) := of_decide_eq_true As_
                  have q8 : x5_1 < (a1.size : Int) := of_decide_eq_true As_
                  have hx8 := bt_at a1 x5_1
                  replace p8 := eq_true p8
                  replace q8 := eq_true q8
                  have p10 : 0 ≤ (x5_1 : Int) := of_decide_eq_true As_
                  have q10 : x5_1 < (a0.size : Int) := of_decide_eq_true As_
                  have hx10 := bt_at a0 x5_1
                  replace p10 := eq_true p10
                  replace q10 := eq_true q10
                  have p11 : 0 ≤ (x5_1 : Int) := of_decide_eq_true As_
                  have q11 : x5_1 < (a1.size : Int) := of_decide_eq_true As_
                  have hx11 := bt_at a1 x5_1
                  replace p11 := eq_true p11
                  replace q11 := eq_true q11
                  go_wp2
                  repeat (go_quiet (fail); try go_wp2)
                  go_ret
                  exact ⟨Rf_, Dw_⟩
                · rw [if_neg c12] at H
                  have c12b0 : decide ((bt a1 x5_1) < (bt a0 x5_1)) = false := decide_eq_false c12
                  clear c12
                  have H' := Aside0.mk H
                  clear H
                  have p6 : 0 ≤ (x5_1 : Int) := of_decide_eq_true As_
                  have q6 : x5_1 < (a0.size : Int) := of_decide_eq_true As_
                  have hx6 := bt_at a0 x5_1
                  replace p6 := eq_true p6
                  replace q6 := eq_true q6
                  have p8 : 0 ≤ (x5_1 : Int) := of_decide_eq_true As_
                  have q8 : x5_1 < (a1.size : Int) := of_decide_eq_true As_
                  have hx8 := bt_at a1 x5_1
                  replace p8 := eq_true p8
                  replace q8 := eq_true q8
                  have p10 : 0 ≤ (x5_1 : Int) := of_decide_eq_true As_
                  have q10 : x5_1 < (a0.size : Int) := of_decide_eq_true As_
                  have hx10 := bt_at a0 x5_1
                  replace p10 := eq_true p10
                  replace q10 := eq_true q10
                  have p11 : 0 ≤ (x5_1 : Int) := of_decide_eq_true As_
                  have q11 : x5_1 < (a1.size : Int) := of_decide_eq_true As_
                  have hx11 := bt_at a1 x5_1
                  replace p11 := eq_true p11
                  replace q11 := eq_true q11
                  go_wp2
                  repeat (go_quiet (fail); try go_wp2)
                  go_roundg k1
                  case measure => have := HK1.out; omega
                  case rel => exact ⟨(wrap64 (x5_1 + 1)), Rf_, H', ⟨by have := HK1.out; omega⟩, Dw_⟩
            · rw [if_neg c7] at H
              exact absurd H (by simp)
          · rw [if_neg c5] at H
            exact absurd H (by simp)
        · rw [if_neg c4] at H
          have c4b0 : decide (x5_1 < (a0.size : Int)) = false := decide_eq_false c4
          clear c4
          obtain rfl := Option.some.inj H
          go_wp2
          repeat (go_quiet (fail); try go_wp2)
          go_ret
          exact ⟨Rf_, Dw_⟩
  · rw [if_neg c3] at H
    have c3b0 : ((a0.size : Int) == (a1.size : Int)) = false := beq_eq_false_iff_ne.mpr c3
    have c3b1 : ((a0.size : Int) != (a1.size : Int)) = true := bne_iff_ne.mpr c3
    have c3b2 : (a0.size == a1.size) = false := by first | simpa using c3 | (simp at c3 ⊢; omega)
    by_cases c13 : (a0.size : Int) < (a1.size : Int)
    · rw [if_pos c13] at H
      have c13b0 : decide ((a0.size : Int) < (a1.size : Int)) = true := decide_eq_true c13
      have c13b1 : decide (a0.size < a1.size) = true := decide_eq_true (Int.ofNat_lt.mp c13)
      clear c13
      obtain rfl := Option.some.inj H
      go_enter Tryz.func211, Tryz.ntmps211
      go_wp2
      repeat (go_quiet (fail); try go_wp2)
      go_ret
      exact ⟨Rf_, Dw_⟩
    · rw [if_neg c13] at H
      have c13b0 : decide ((a0.size : Int) < (a1.size : Int)) = false := decide_eq_false c13
      have c13b1 : decide (a0.size < a1.size) = false := decide_eq_false (fun h => c13 (Int.ofNat_lt.mpr h))
      clear c13
      obtain rfl := Option.some.inj H
      go_enter Tryz.func211, Tryz.ntmps211
      go_wp2
      repeat (go_quiet (fail); try go_wp2)
      go_ret
      exact ⟨Rf_, Dw_⟩
/-! ### reredosref01_minus: function 212 -/
def reredosref01_minus.l0 : Nat → ByteArray → ByteArray → ByteArray → Int → Int → Option (ByteArray)
  | 0, _, _, _, _, _ => none
  | k + 1, x0, x1, x5, x6, x7 => if x7 < (x0.size : Int) then ((reredosref01_digit.f x0 x7).bind fun t102 => ((reredosref01_digit.f x1 x7).bind fun t103 => (if (wrap64 ((wrap64 (t102 - t103)) - x6)) < 0 then ((some (([(wrap64 (48 + (wrap64 ((wrap64 ((wrap64 (t102 - t103)) - x6)) + 10)))) % 256] : List Int) : List Int)).bind fun y104 => (if (strOfNums y104).size + x5.size ≤ 9223372036854775807 then (reredosref01_minus.l0 k x0 x1 ((strOfNums y104) ++ x5) 1 (wrap64 (x7 + 1))) else (none))) else ((some (([(wrap64 (48 + (wrap64 ((wrap64 (t102 - t103)) - x6)))) % 256] : List Int) : List Int)).bind fun y107 => (if (strOfNums y107).size + x5.size ≤ 9223372036854775807 then (reredosref01_minus.l0 k x0 x1 ((strOfNums y107) ++ x5) 0 (wrap64 (x7 + 1))) else (none)))))) else ((reredosref01_bare.f k x5).bind fun t101 => (some t101))
def reredosref01_minus.f (k : Nat) (a0 : ByteArray) (a1 : ByteArray) : Option (ByteArray) := reredosref01_minus.l0 k a0 a1 (⟨#[]⟩ : ByteArray) 0 0
set_option maxHeartbeats 8000000 in
set_option maxRecDepth 100000 in
theorem reredosref01_minus.calls (k : Nat) (a0 : ByteArray) (a1 : ByteArray) (r : ByteArray) (w : World) (h : reredosref01_minus.f k a0 a1 = some r) :
    Calls Tryz.prog 212 #[.string a0, .string a1] w fun e w' => e = .returned (.string r) ∧ Below w.heap.size w w' := by
  have HB := Aside0.mk (Below.refl w.heap.size w)
  have H : (reredosref01_minus.l0 k a0 a1 (⟨#[]⟩ : ByteArray) 0 0) = some r := h
  clear h
  have H' := Aside0.mk H
  clear H
  go_enter Tryz.func212, Tryz.ntmps212
  go_wp2
  go_loopg [5, 6, 7] k (fun kq v5 v6 v7 w' => ∃ (x5_1 : ByteArray) (x6_1 : Int) (x7_1 : Int), v5 = .string x5_1 ∧ v6 = .int .i64 x6_1 ∧ v7 = .int .i64 x7_1 ∧ Aside0 (reredosref01_minus.l0 kq a0 a1 x5_1 x6_1 x7_1 = some r) ∧ Aside0 (kq ≤ k) ∧ Aside0 (Below w.heap.size w w'))
  case atStart => exact ⟨((⟨#[]⟩ : ByteArray)), (0), (0), Rf_, Rf_, Rf_, H', ⟨Nat.le_refl _⟩, ⟨Bl_⟩⟩
  case round =>
    clear H'
    try clear c2
    try clear p2
    obtain ⟨x5_1, x6_1, x7_1, rfl, rfl, rfl, HA, HK1, HB⟩ := hrel
    cases gk with
    | zero => exact absurd HA.out (by simp [reredosref01_minus.l0])
    | succ k1 =>
      have H := HA.out
      clear HA
      simp only [reredosref01_minus.l0] at H
      by_cases c3 : x7_1 < (a0.size : Int)
      · rw [if_pos c3] at H
        have c3b0 : decide (x7_1 < (a0.size : Int)) = true := decide_eq_true c3
        clear c3
        obtain ⟨t102, A4, H⟩ := bnd_ H
        try dsimp -simprocs only at H
        obtain ⟨t103, A5, H⟩ := bnd_ H
        try dsimp -simprocs only at H
        by_cases c6 : (wrap64 ((wrap64 (t102 - t103)) - x6_1)) < 0
        · rw [if_pos c6] at H
          have c6b0 : decide ((wrap64 ((wrap64 (t102 - t103)) - x6_1)) < 0) = true := decide_eq_true c6
          clear c6
          obtain ⟨y104, hy104⟩ : ∃ y_ : List Int, y_ = (([(wrap64 (48 + (wrap64 ((wrap64 ((wrap64 (t102 - t103)) - x6_1)) + 10)))) % 256] : List Int)) := ⟨_, rfl⟩
          replace H : (if (strOfNums y104).size + x5_1.size ≤ 9223372036854775807 then (reredosref01_minus.l0 k1 a0 a1 ((strOfNums y104) ++ x5_1) 1 (wrap64 (x7_1 + 1))) else (none)) = some r := by first | (rw [hy104]; with_reducible exact H) | (have H2_ := (Option.bind_some _ _).symm.trans H; rw [hy104]; with_reducible exact H2_) | (have H2_ := (Option.bind_some _ _).symm.trans H; with_reducible exact H2_) | with_reducible exact H | (rw [hy104]; exact H) | exact H
          have Ny104 := Aside0.mk hy104
          clear hy104
          by_cases c7 : (strOfNums y104).size + x5_1.size ≤ 9223372036854775807
          · rw [if_pos c7] at H
            have c7b0 := eq_true c7
            have c7b1 : decide ((strOfNums y104).size + x5_1.size ≤ 9223372036854775807) = true := decide_eq_true c7
            try have c7b2 : (9223372036854775807 < (strOfNums y104).size + x5_1.size) = False := eq_false (Nat.not_lt.2 c7)
            have H' := Aside0.mk H
            clear H
            go_wp2_with (first | ((with_reducible refine gate_callee (f := 230) rfl ?_); refine goesL_ (some 17) rfl rfl Tryz.func230 (by kernel_rfl) rfl #[.string a0, .int .i64 x7_1] rfl Ga_ ?_; (with_reducible refine (reredosref01_digit.calls a0 x7_1 t102 _ A4.out).mono ?_); rintro e w' ⟨rfl, ⟨nd, rfl⟩⟩; refine ⟨_, rfl, ?_⟩) | ((with_reducible refine gate_callee (f := 230) rfl ?_); refine goesL_ (some 20) rfl rfl Tryz.func230 (by kernel_rfl) rfl #[.string a1, .int .i64 x7_1] rfl Ga_ ?_; (with_reducible refine (reredosref01_digit.calls a1 x7_1 t103 _ A5.out).mono ?_); rintro e w' ⟨rfl, ⟨nd, rfl⟩⟩; refine ⟨_, rfl, ?_⟩) | ((with_reducible refine gate_dst (N := 31) rfl ?_); refine Kd.R_lit (Kd.int .u8) _ 5 ?hg (N := 31) ?hd (xs := ([(wrap64 (48 + (wrap64 ((wrap64 ((wrap64 (t102 - t103)) - x6_1)) + 10)))) % 256] : List Int)) (inner := [.int .u8 ((wrap64 (48 + (wrap64 ((wrap64 ((wrap64 (t102 - t103)) - x6_1)) + 10)))) % 256)]) (ok := fun _ => True) (okp := fun _ => True) ?hr ?hp (fun _ hk => hk) trivial (Below.refl _ _) (Nat.le_refl _) (by simp) ?_; (case hd => rfl); (case hg => rfl); (case hr => first | (go_simp; done) | (go_simp; rfl)); (case hp => exact (Reps.one (show Kd.M (Kd.int .u8) _ _ _ ((wrap64 (48 + (wrap64 ((wrap64 ((wrap64 (t102 - t103)) - x6_1)) + 10)))) % 256) [.int .u8 ((wrap64 (48 + (wrap64 ((wrap64 ((wrap64 (t102 - t103)) - x6_1)) + 10)))) % 256)] from rfl) (Reps.none _ _))); intro v105 w8 ho9 hb hg_ hnew_; clear hg_ hnew_; (first | rw [← Ny104.out] at ho9 | (simp only [Int.reduceToNat] at ho9; rw [← Ny104.out] at ho9)); have HO106 := Aside0.mk (Kd.R_lower ho9 Bz_); replace HB := Bs_ hb; clear hb ho9; have hcv10 := own_string (P := Tryz.prog) Tryz.underlying55 Tryz.underlying5 Tryz.underlying9 (Kd.own_of_R HO106.out)))
            go_roundg k1
            case measure => have := HK1.out; omega
            case rel => exact ⟨((strOfNums y104) ++ x5_1), (1), (wrap64 (x7_1 + 1)), Rf_, Rf_, Rf_, H', ⟨by have := HK1.out; omega⟩, ⟨Bl_⟩⟩
          · rw [if_neg c7] at H
            exact absurd H (by simp)
        · rw [if_neg c6] at H
          have c6b0 : decide ((wrap64 ((wrap64 (t102 - t103)) - x6_1)) < 0) = false := decide_eq_false c6
          clear c6
          obtain ⟨y107, hy107⟩ : ∃ y_ : List Int, y_ = (([(wrap64 (48 + (wrap64 ((wrap64 (t102 - t103)) - x6_1)))) % 256] : List Int)) := ⟨_, rfl⟩
          replace H : (if (strOfNums y107).size + x5_1.size ≤ 9223372036854775807 then (reredosref01_minus.l0 k1 a0 a1 ((strOfNums y107) ++ x5_1) 0 (wrap64 (x7_1 + 1))) else (none)) = some r := by first | (rw [hy107]; with_reducible exact H) | (have H2_ := (Option.bind_some _ _).symm.trans H; rw [hy107]; with_reducible exact H2_) | (have H2_ := (Option.bind_some _ _).symm.trans H; with_reducible exact H2_) | with_reducible exact H | (rw [hy107]; exact H) | exact H
          have Ny107 := Aside0.mk hy107
          clear hy107
          by_cases c11 : (strOfNums y107).size + x5_1.size ≤ 9223372036854775807
          · rw [if_pos c11] at H
            have c11b0 := eq_true c11
            have c11b1 : decide ((strOfNums y107).size + x5_1.size ≤ 9223372036854775807) = true := decide_eq_true c11
            try have c11b2 : (9223372036854775807 < (strOfNums y107).size + x5_1.size) = False := eq_false (Nat.not_lt.2 c11)
            have H' := Aside0.mk H
            clear H
            go_wp2_with (first | ((with_reducible refine gate_callee (f := 230) rfl ?_); refine goesL_ (some 17) rfl rfl Tryz.func230 (by kernel_rfl) rfl #[.string a0, .int .i64 x7_1] rfl Ga_ ?_; (with_reducible refine (reredosref01_digit.calls a0 x7_1 t102 _ A4.out).mono ?_); rintro e w' ⟨rfl, ⟨nd, rfl⟩⟩; refine ⟨_, rfl, ?_⟩) | ((with_reducible refine gate_callee (f := 230) rfl ?_); refine goesL_ (some 20) rfl rfl Tryz.func230 (by kernel_rfl) rfl #[.string a1, .int .i64 x7_1] rfl Ga_ ?_; (with_reducible refine (reredosref01_digit.calls a1 x7_1 t103 _ A5.out).mono ?_); rintro e w' ⟨rfl, ⟨nd, rfl⟩⟩; refine ⟨_, rfl, ?_⟩) | ((with_reducible refine gate_dst (N := 31) rfl ?_); refine Kd.R_lit (Kd.int .u8) _ 5 ?hg (N := 31) ?hd (xs := ([(wrap64 (48 + (wrap64 ((wrap64 (t102 - t103)) - x6_1)))) % 256] : List Int)) (inner := [.int .u8 ((wrap64 (48 + (wrap64 ((wrap64 (t102 - t103)) - x6_1)))) % 256)]) (ok := fun _ => True) (okp := fun _ => True) ?hr ?hp (fun _ hk => hk) trivial (Below.refl _ _) (Nat.le_refl _) (by simp) ?_; (case hd => rfl); (case hg => rfl); (case hr => first | (go_simp; done) | (go_simp; rfl)); (case hp => exact (Reps.one (show Kd.M (Kd.int .u8) _ _ _ ((wrap64 (48 + (wrap64 ((wrap64 (t102 - t103)) - x6_1)))) % 256) [.int .u8 ((wrap64 (48 + (wrap64 ((wrap64 (t102 - t103)) - x6_1)))) % 256)] from rfl) (Reps.none _ _))); intro v108 w12 ho13 hb hg_ hnew_; clear hg_ hnew_; (first | rw [← Ny107.out] at ho13 | (simp only [Int.reduceToNat] at ho13; rw [← Ny107.out] at ho13)); have HO109 := Aside0.mk (Kd.R_lower ho13 Bz_); replace HB := Bs_ hb; clear hb ho13; have hcv14 := own_string (P := Tryz.prog) Tryz.underlying55 Tryz.underlying5 Tryz.underlying9 (Kd.own_of_R HO109.out)))
            go_roundg k1
            case measure => have := HK1.out; omega
            case rel => exact ⟨((strOfNums y107) ++ x5_1), (0), (wrap64 (x7_1 + 1)), Rf_, Rf_, Rf_, H', ⟨by have := HK1.out; omega⟩, ⟨Bl_⟩⟩
          · rw [if_neg c11] at H
            exact absurd H (by simp)
      · rw [if_neg c3] at H
        have c3b0 : decide (x7_1 < (a0.size : Int)) = false := decide_eq_false c3
        clear c3
        obtain ⟨t101, A15, H⟩ := bnd_ H
        try dsimp -simprocs only at H
        obtain rfl := Option.some.inj H
        go_wp2_with (first | ((with_reducible refine gate_callee (f := 229) rfl ?_); refine goesL_ (some 36) rfl rfl Tryz.func229 (by kernel_rfl) rfl #[.string x5_1] rfl Ga_ ?_; (with_reducible refine (reredosref01_bare.calls k1 x5_1 t101 _ A15.out).mono ?_); rintro e w' ⟨rfl, ⟨nd, rfl⟩⟩; refine ⟨_, rfl, ?_⟩))
        go_ret
        exact ⟨Re_, Bl_⟩
/-! ### reredosref01_sum: function 179 -/
def reredosref01_sum.f (k : Nat) (a0 : ByteArray) (a1 : ByteArray) : Option (ByteArray) := (reredosref01_low.f a0).bind fun t101 => ((reredosref01_low.f a1).bind fun t102 => (if (t101 == t102) = true then ((reredosref01_size.f a0).bind fun t103 => ((reredosref01_size.f a1).bind fun t104 => ((reredosref01_plus.f k t103 t104).bind fun t105 => ((reredosref01_low.f a0).bind fun t106 => ((reredosref01_signed.f k t105 t106).bind fun t107 => (some t107)))))) else ((reredosref01_size.f a0).bind fun t108 => ((reredosref01_size.f a1).bind fun t109 => ((reredosref01_more.f k t108 t109).bind fun t110 => (if t110 ≥ 0 then ((reredosref01_size.f a0).bind fun t111 => ((reredosref01_size.f a1).bind fun t112 => ((reredosref01_minus.f k t111 t112).bind fun t113 => ((reredosref01_low.f a0).bind fun t114 => ((reredosref01_signed.f k t113 t114).bind fun t115 => (some t115)))))) else ((reredosref01_size.f a1).bind fun t116 => ((reredosref01_size.f a0).bind fun t117 => ((reredosref01_minus.f k t116 t117).bind fun t118 => ((reredosref01_low.f a1).bind fun t119 => ((reredosref01_signed.f k t118 t119).bind fun t120 => (some t120))))))))))))
set_option maxHeartbeats 8000000 in
set_option maxRecDepth 100000 in
theorem reredosref01_sum.calls (k : Nat) (a0 : ByteArray) (a1 : ByteArray) (r : ByteArray) (w : World) (h : reredosref01_sum.f k a0 a1 = some r) :
    Calls Tryz.prog 179 #[.string a0, .string a1] w fun e w' => e = .returned (.string r) ∧ Below w.heap.size w w' := by
  have HB := Aside0.mk (Below.refl w.heap.size w)
  have H : ((reredosref01_low.f a0).bind fun t101 => ((reredosref01_low.f a1).bind fun t102 => (if (t101 == t102) = true then ((reredosref01_size.f a0).bind fun t103 => ((reredosref01_size.f a1).bind fun t104 => ((reredosref01_plus.f k t103 t104).bind fun t105 => ((reredosref01_low.f a0).bind fun t106 => ((reredosref01_signed.f k t105 t106).bind fun t107 => (some t107)))))) else ((reredosref01_size.f a0).bind fun t108 => ((reredosref01_size.f a1).bind fun t109 => ((reredosref01_more.f k t108 t109).bind fun t110 => (if t110 ≥ 0 then ((reredosref01_size.f a0).bind fun t111 => ((reredosref01_size.f a1).bind fun t112 => ((reredosref01_minus.f k t111 t112).bind fun t113 => ((reredosref01_low.f a0).bind fun t114 => ((reredosref01_signed.f k t113 t114).bind fun t115 => (some t115)))))) else ((reredosref01_size.f a1).bind fun t116 => ((reredosref01_size.f a0).bind fun t117 => ((reredosref01_minus.f k t116 t117).bind fun t118 => ((reredosref01_low.f a1).bind fun t119 => ((reredosref01_signed.f k t118 t119).bind fun t120 => (some t120))))))))))))) = some r := h
  clear h
  obtain ⟨t101, A3, H⟩ := bnd_ H
  try dsimp -simprocs only at H
  obtain ⟨t102, A4, H⟩ := bnd_ H
  try dsimp -simprocs only at H
  by_cases c5 : (t101 == t102) = true
  · rw [if_pos c5] at H
    have c5b0 : (t101 == t102) = true := c5
    (try (have c5b1 : decide (t101 = t102) = true := by simpa using c5))
    (try (have c5b2 : (t101 == t102) = true := by simpa using c5))
    clear c5
    obtain ⟨t103, A6, H⟩ := bnd_ H
    try dsimp -simprocs only at H
    obtain ⟨t104, A7, H⟩ := bnd_ H
    try dsimp -simprocs only at H
    obtain ⟨t105, A8, H⟩ := bnd_ H
    try dsimp -simprocs only at H
    obtain ⟨t106, A9, H⟩ := bnd_ H
    try dsimp -simprocs only at H
    obtain ⟨t107, A10, H⟩ := bnd_ H
    try dsimp -simprocs only at H
    obtain rfl := Option.some.inj H
    go_enter Tryz.func179, Tryz.ntmps179
    go_wp2_with (first | ((with_reducible refine gate_callee (f := 184) rfl ?_); refine goesL_ (some 6) rfl rfl Tryz.func184 (by kernel_rfl) rfl #[.string a0] rfl Ga_ ?_; (with_reducible refine (reredosref01_low.calls a0 t101 _ A3.out).mono ?_); rintro e w' ⟨rfl, ⟨nd, rfl⟩⟩; refine ⟨_, rfl, ?_⟩) | ((with_reducible refine gate_callee (f := 184) rfl ?_); refine goesL_ (some 8) rfl rfl Tryz.func184 (by kernel_rfl) rfl #[.string a1] rfl Ga_ ?_; (with_reducible refine (reredosref01_low.calls a1 t102 _ A4.out).mono ?_); rintro e w' ⟨rfl, ⟨nd, rfl⟩⟩; refine ⟨_, rfl, ?_⟩) | ((with_reducible refine gate_callee (f := 183) rfl ?_); refine goesL_ (some 11) rfl rfl Tryz.func183 (by kernel_rfl) rfl #[.string a0] rfl Ga_ ?_; (with_reducible refine (reredosref01_size.calls a0 t103 _ A6.out).mono ?_); rintro e w' ⟨rfl, ⟨nd, rfl⟩⟩; refine ⟨_, rfl, ?_⟩) | ((with_reducible refine gate_callee (f := 183) rfl ?_); refine goesL_ (some 13) rfl rfl Tryz.func183 (by kernel_rfl) rfl #[.string a1] rfl Ga_ ?_; (with_reducible refine (reredosref01_size.calls a1 t104 _ A7.out).mono ?_); rintro e w' ⟨rfl, ⟨nd, rfl⟩⟩; refine ⟨_, rfl, ?_⟩) | ((with_reducible refine gate_callee (f := 210) rfl ?_); refine goesL_ (some 14) rfl rfl Tryz.func210 (by kernel_rfl) rfl #[.string t103, .string t104] rfl Ga_ ?_; (with_reducible refine (reredosref01_plus.calls k t103 t104 t105 _ A8.out).mono ?_); rintro e w11 ⟨rfl, hb⟩; refine ⟨_, rfl, ?_⟩; replace HB := Bs_ hb; (try clear hb); (try clear hb2); (try clear hk); (try clear hi)) | ((with_reducible refine gate_callee (f := 184) rfl ?_); refine goesL_ (some 16) rfl rfl Tryz.func184 (by kernel_rfl) rfl #[.string a0] rfl Ga_ ?_; (with_reducible refine (reredosref01_low.calls a0 t106 _ A9.out).mono ?_); rintro e w' ⟨rfl, ⟨nd, rfl⟩⟩; refine ⟨_, rfl, ?_⟩) | ((with_reducible refine gate_callee (f := 209) rfl ?_); refine goesL_ (some 17) rfl rfl Tryz.func209 (by kernel_rfl) rfl #[.string t105, .bool t106] rfl Ga_ ?_; (with_reducible refine (reredosref01_signed.calls k t105 t106 t107 _ A10.out).mono ?_); rintro e w' ⟨rfl, ⟨nd, rfl⟩⟩; refine ⟨_, rfl, ?_⟩))
    go_ret
    exact ⟨Re_, Bl_⟩
  · rw [if_neg c5] at H
    have c5b0 : (t101 == t102) = false := by simpa using c5
    (try (have c5b1 : decide (t101 = t102) = false := by simpa using c5))
    (try (have c5b2 : (t101 == t102) = false := by simpa using c5))
    (try (have c5b3 : ¬ (t101 = t102) := by simpa using c5))
    clear c5
    obtain ⟨t108, A12, H⟩ := bnd_ H
    try dsimp -simprocs only at H
    obtain ⟨t109, A13, H⟩ := bnd_ H
    try dsimp -simprocs only at H
    obtain ⟨t110, A14, H⟩ := bnd_ H
    try dsimp -simprocs only at H
    by_cases c15 : t110 ≥ 0
    · rw [if_pos c15] at H
      have c15b0 : decide (0 ≤ t110) = true := decide_eq_true c15
      clear c15
      obtain ⟨t111, A16, H⟩ := bnd_ H
      try dsimp -simprocs only at H
      obtain ⟨t112, A17, H⟩ := bnd_ H
      try dsimp -simprocs only at H
      obtain ⟨t113, A18, H⟩ := bnd_ H
      try dsimp -simprocs only at H
      obtain ⟨t114, A19, H⟩ := bnd_ H
      try dsimp -simprocs only at H
      obtain ⟨t115, A20, H⟩ := bnd_ H
      try dsimp -simprocs only at H
      obtain rfl := Option.some.inj H
      go_enter Tryz.func179, Tryz.ntmps179
      go_wp2_with (first | ((with_reducible refine gate_callee (f := 184) rfl ?_); refine goesL_ (some 6) rfl rfl Tryz.func184 (by kernel_rfl) rfl #[.string a0] rfl Ga_ ?_; (with_reducible refine (reredosref01_low.calls a0 t101 _ A3.out).mono ?_); rintro e w' ⟨rfl, ⟨nd, rfl⟩⟩; refine ⟨_, rfl, ?_⟩) | ((with_reducible refine gate_callee (f := 184) rfl ?_); refine goesL_ (some 8) rfl rfl Tryz.func184 (by kernel_rfl) rfl #[.string a1] rfl Ga_ ?_; (with_reducible refine (reredosref01_low.calls a1 t102 _ A4.out).mono ?_); rintro e w' ⟨rfl, ⟨nd, rfl⟩⟩; refine ⟨_, rfl, ?_⟩) | ((with_reducible refine gate_callee (f := 183) rfl ?_); refine goesL_ (some 19) rfl rfl Tryz.func183 (by kernel_rfl) rfl #[.string a0] rfl Ga_ ?_; (with_reducible refine (reredosref01_size.calls a0 t108 _ A12.out).mono ?_); rintro e w' ⟨rfl, ⟨nd, rfl⟩⟩; refine ⟨_, rfl, ?_⟩) | ((with_reducible refine gate_callee (f := 183) rfl ?_); refine goesL_ (some 21) rfl rfl Tryz.func183 (by kernel_rfl) rfl #[.string a1] rfl Ga_ ?_; (with_reducible refine (reredosref01_size.calls a1 t109 _ A13.out).mono ?_); rintro e w' ⟨rfl, ⟨nd, rfl⟩⟩; refine ⟨_, rfl, ?_⟩) | ((with_reducible refine gate_callee (f := 211) rfl ?_); refine goesL_ (some 22) rfl rfl Tryz.func211 (by kernel_rfl) rfl #[.string t108, .string t109] rfl Ga_ ?_; (with_reducible refine (reredosref01_more.calls k t108 t109 t110 _ A14.out).mono ?_); rintro e w' ⟨rfl, ⟨nd, rfl⟩⟩; refine ⟨_, rfl, ?_⟩) | ((with_reducible refine gate_callee (f := 183) rfl ?_); refine goesL_ (some 25) rfl rfl Tryz.func183 (by kernel_rfl) rfl #[.string a0] rfl Ga_ ?_; (with_reducible refine (reredosref01_size.calls a0 t111 _ A16.out).mono ?_); rintro e w' ⟨rfl, ⟨nd, rfl⟩⟩; refine ⟨_, rfl, ?_⟩) | ((with_reducible refine gate_callee (f := 183) rfl ?_); refine goesL_ (some 27) rfl rfl Tryz.func183 (by kernel_rfl) rfl #[.string a1] rfl Ga_ ?_; (with_reducible refine (reredosref01_size.calls a1 t112 _ A17.out).mono ?_); rintro e w' ⟨rfl, ⟨nd, rfl⟩⟩; refine ⟨_, rfl, ?_⟩) | ((with_reducible refine gate_callee (f := 212) rfl ?_); refine goesL_ (some 28) rfl rfl Tryz.func212 (by kernel_rfl) rfl #[.string t111, .string t112] rfl Ga_ ?_; (with_reducible refine (reredosref01_minus.calls k t111 t112 t113 _ A18.out).mono ?_); rintro e w21 ⟨rfl, hb⟩; refine ⟨_, rfl, ?_⟩; replace HB := Bs_ hb; (try clear hb); (try clear hb2); (try clear hk); (try clear hi)) | ((with_reducible refine gate_callee (f := 184) rfl ?_); refine goesL_ (some 30) rfl rfl Tryz.func184 (by kernel_rfl) rfl #[.string a0] rfl Ga_ ?_; (with_reducible refine (reredosref01_low.calls a0 t114 _ A19.out).mono ?_); rintro e w' ⟨rfl, ⟨nd, rfl⟩⟩; refine ⟨_, rfl, ?_⟩) | ((with_reducible refine gate_callee (f := 209) rfl ?_); refine goesL_ (some 31) rfl rfl Tryz.func209 (by kernel_rfl) rfl #[.string t113, .bool t114] rfl Ga_ ?_; (with_reducible refine (reredosref01_signed.calls k t113 t114 t115 _ A20.out).mono ?_); rintro e w' ⟨rfl, ⟨nd, rfl⟩⟩; refine ⟨_, rfl, ?_⟩))
      go_ret
      exact ⟨Re_, Bl_⟩
    · rw [if_neg c15] at H
      have c15b0 : decide (0 ≤ t110) = false := decide_eq_false c15
      clear c15
      obtain ⟨t116, A22, H⟩ := bnd_ H
      try dsimp -simprocs only at H
      obtain ⟨t117, A23, H⟩ := bnd_ H
      try dsimp -simprocs only at H
      obtain ⟨t118, A24, H⟩ := bnd_ H
      try dsimp -simprocs only at H
      obtain ⟨t119, A25, H⟩ := bnd_ H
      try dsimp -simprocs only at H
      obtain ⟨t120, A26, H⟩ := bnd_ H
      try dsimp -simprocs only at H
      obtain rfl := Option.some.inj H
      go_enter Tryz.func179, Tryz.ntmps179
      go_wp2_with (first | ((with_reducible refine gate_callee (f := 184) rfl ?_); refine goesL_ (some 6) rfl rfl Tryz.func184 (by kernel_rfl) rfl #[.string a0] rfl Ga_ ?_; (with_reducible refine (reredosref01_low.calls a0 t101 _ A3.out).mono ?_); rintro e w' ⟨rfl, ⟨nd, rfl⟩⟩; refine ⟨_, rfl, ?_⟩) | ((with_reducible refine gate_callee (f := 184) rfl ?_); refine goesL_ (some 8) rfl rfl Tryz.func184 (by kernel_rfl) rfl #[.string a1] rfl Ga_ ?_; (with_reducible refine (reredosref01_low.calls a1 t102 _ A4.out).mono ?_); rintro e w' ⟨rfl, ⟨nd, rfl⟩⟩; refine ⟨_, rfl, ?_⟩) | ((with_reducible refine gate_callee (f := 183) rfl ?_); refine goesL_ (some 19) rfl rfl Tryz.func183 (by kernel_rfl) rfl #[.string a0] rfl Ga_ ?_; (with_reducible refine (reredosref01_size.calls a0 t108 _ A12.out).mono ?_); rintro e w' ⟨rfl, ⟨nd, rfl⟩⟩; refine ⟨_, rfl, ?_⟩) | ((with_reducible refine gate_callee (f := 183) rfl ?_); refine goesL_ (some 21) rfl rfl Tryz.func183 (by kernel_rfl) rfl #[.string a1] rfl Ga_ ?_; (with_reducible refine (reredosref01_size.calls a1 t109 _ A13.out).mono ?_); rintro e w' ⟨rfl, ⟨nd, rfl⟩⟩; refine ⟨_, rfl, ?_⟩) | ((with_reducible refine gate_callee (f := 211) rfl ?_); refine goesL_ (some 22) rfl rfl Tryz.func211 (by kernel_rfl) rfl #[.string t108, .string t109] rfl Ga_ ?_; (with_reducible refine (reredosref01_more.calls k t108 t109 t110 _ A14.out).mono ?_); rintro e w' ⟨rfl, ⟨nd, rfl⟩⟩; refine ⟨_, rfl, ?_⟩) | ((with_reducible refine gate_callee (f := 183) rfl ?_); refine goesL_ (some 33) rfl rfl Tryz.func183 (by kernel_rfl) rfl #[.string a1] rfl Ga_ ?_; (with_reducible refine (reredosref01_size.calls a1 t116 _ A22.out).mono ?_); rintro e w' ⟨rfl, ⟨nd, rfl⟩⟩; refine ⟨_, rfl, ?_⟩) | ((with_reducible refine gate_callee (f := 183) rfl ?_); refine goesL_ (some 35) rfl rfl Tryz.func183 (by kernel_rfl) rfl #[.string a0] rfl Ga_ ?_; (with_reducible refine (reredosref01_size.calls a0 t117 _ A23.out).mono ?_); rintro e w' ⟨rfl, ⟨nd, rfl⟩⟩; refine ⟨_, rfl, ?_⟩) | ((with_reducible refine gate_callee (f := 212) rfl ?_); refine goesL_ (some 36) rfl rfl Tryz.func212 (by kernel_rfl) rfl #[.string t116, .string t117] rfl Ga_ ?_; (with_reducible refine (reredosref01_minus.calls k t116 t117 t118 _ A24.out).mono ?_); rintro e w27 ⟨rfl, hb⟩; refine ⟨_, rfl, ?_⟩; replace HB := Bs_ hb; (try clear hb); (try clear hb2); (try clear hk); (try clear hi)) | ((with_reducible refine gate_callee (f := 184) rfl ?_); refine goesL_ (some 38) rfl rfl Tryz.func184 (by kernel_rfl) rfl #[.string a1] rfl Ga_ ?_; (with_reducible refine (reredosref01_low.calls a1 t119 _ A25.out).mono ?_); rintro e w' ⟨rfl, ⟨nd, rfl⟩⟩; refine ⟨_, rfl, ?_⟩) | ((with_reducible refine gate_callee (f := 209) rfl ?_); refine goesL_ (some 39) rfl rfl Tryz.func209 (by kernel_rfl) rfl #[.string t118, .bool t119] rfl Ga_ ?_; (with_reducible refine (reredosref01_signed.calls k t118 t119 t120 _ A26.out).mono ?_); rintro e w' ⟨rfl, ⟨nd, rfl⟩⟩; refine ⟨_, rfl, ?_⟩))
      go_ret
      exact ⟨Re_, Bl_⟩
/-! ### reredosref01_turned: function 180 -/
def reredosref01_turned.f (k : Nat) (a0 : ByteArray) : Option (ByteArray) := (reredosref01_size.f a0).bind fun t101 => ((reredosref01_low.f a0).bind fun t102 => ((reredosref01_signed.f k t101 (!t102)).bind fun t103 => (some t103)))
set_option maxHeartbeats 8000000 in
set_option maxRecDepth 100000 in
theorem reredosref01_turned.calls (k : Nat) (a0 : ByteArray) (r : ByteArray) (w : World) (h : reredosref01_turned.f k a0 = some r) :
    Calls Tryz.prog 180 #[.string a0] w fun e w' => e = .returned (.string r) ∧ Drawn0 w w' := by
  have H : ((reredosref01_size.f a0).bind fun t101 => ((reredosref01_low.f a0).bind fun t102 => ((reredosref01_signed.f k t101 (!t102)).bind fun t103 => (some t103)))) = some r := h
  clear h
  obtain ⟨t101, A2, H⟩ := bnd_ H
  try dsimp -simprocs only at H
  obtain ⟨t102, A3, H⟩ := bnd_ H
  try dsimp -simprocs only at H
  obtain ⟨t103, A4, H⟩ := bnd_ H
  try dsimp -simprocs only at H
  obtain rfl := Option.some.inj H
  go_enter Tryz.func180, Tryz.ntmps180
  go_wp2_with (first | ((with_reducible refine gate_callee (f := 183) rfl ?_); refine goesL_ (some 4) rfl rfl Tryz.func183 (by kernel_rfl) rfl #[.string a0] rfl Ga_ ?_; (with_reducible refine (reredosref01_size.calls a0 t101 _ A2.out).mono ?_); rintro e w' ⟨rfl, ⟨nd, rfl⟩⟩; refine ⟨_, rfl, ?_⟩) | ((with_reducible refine gate_callee (f := 184) rfl ?_); refine goesL_ (some 6) rfl rfl Tryz.func184 (by kernel_rfl) rfl #[.string a0] rfl Ga_ ?_; (with_reducible refine (reredosref01_low.calls a0 t102 _ A3.out).mono ?_); rintro e w' ⟨rfl, ⟨nd, rfl⟩⟩; refine ⟨_, rfl, ?_⟩) | ((with_reducible refine gate_callee (f := 209) rfl ?_); refine goesL_ (some 8) rfl rfl Tryz.func209 (by kernel_rfl) rfl #[.string t101, .bool (!t102)] rfl Ga_ ?_; (with_reducible refine (reredosref01_signed.calls k t101 (!t102) t103 _ A4.out).mono ?_); rintro e w' ⟨rfl, ⟨nd, rfl⟩⟩; refine ⟨_, rfl, ?_⟩))
  go_ret
  exact ⟨Rf_, Dw_⟩
/-! ### reredosref01_Sub: function 134 -/
def reredosref01_Sub.j0 : Nat → ByteArray → ByteArray → Bool → Option (ByteArray × Int)
  | 0, _, _, _ => none
  | k + 1, x0, x1, x13 => if x13 = true then (some ((⟨#[]⟩ : ByteArray), 1)) else ((reredosref01_turned.f k x1).bind fun t103 => ((reredosref01_sum.f k x0 t103).bind fun t104 => ((reredosref01_told.f t104).bind fun bt105 => (some (bt105.1, bt105.2)))))
def reredosref01_Sub.f (k : Nat) (a0 : ByteArray) (a1 : ByteArray) : Option (ByteArray × Int) := (reredosref01_May.f k a0).bind fun t101 => (if t101 = true then ((reredosref01_May.f k a1).bind fun t102 => (reredosref01_Sub.j0 k a0 a1 (!t102))) else (reredosref01_Sub.j0 k a0 a1 true))
set_option maxHeartbeats 8000000 in
set_option maxRecDepth 100000 in
theorem reredosref01_Sub.calls (k : Nat) (a0 : ByteArray) (a1 : ByteArray) (r1 : ByteArray) (r2 : Int) (w : World) (h : reredosref01_Sub.f k a0 a1 = some (r1, r2)) :
    Calls Tryz.prog 134 #[.string a0, .string a1] w fun e w' => e = .returned (.tuple #[.string r1, .int .i64 r2]) ∧ Below w.heap.size w w' := by
  have HB := Aside0.mk (Below.refl w.heap.size w)
  have H : ((reredosref01_May.f k a0).bind fun t101 => (if t101 = true then ((reredosref01_May.f k a1).bind fun t102 => (reredosref01_Sub.j0 k a0 a1 (!t102))) else (reredosref01_Sub.j0 k a0 a1 true))) = some (r1, r2) := h
  clear h
  have HC3 := Aside0.mk H
  clear H
  go_enter Tryz.func134, Tryz.ntmps134
  go_upto_region 1 with (fail)
  go_cut [13] (fun v13 wc => ∃ (kq : Nat) (x13_2 : Bool), v13 = .bool x13_2 ∧ Aside0 (reredosref01_Sub.j0 kq a0 a1 x13_2 = some (r1, r2)) ∧ Aside0 (kq ≤ k) ∧ Aside0 (Below w.heap.size w wc))
  case first =>
    have H := HC3.out
    clear HC3
    obtain ⟨t101, A4, H⟩ := bnd_ H
    try dsimp -simprocs only at H
    by_cases c5 : t101 = true
    · subst c5
      have H1 : ((reredosref01_May.f k a1).bind fun t102 => (reredosref01_Sub.j0 k a0 a1 (!t102))) = some (r1, r2) := by rw [if_pos rfl] at H; exact H
      clear H
      have H := H1
      clear H1
      obtain ⟨t102, A6, H⟩ := bnd_ H
      try dsimp -simprocs only at H
      have H' := Aside0.mk H
      clear H
      go_wp2_with (first | ((with_reducible refine gate_callee (f := 144) rfl ?_); refine goesL_ (some 7) rfl rfl Tryz.func144 (by kernel_rfl) rfl #[.string a0] rfl Ga_ ?_; (with_reducible refine (reredosref01_May.calls k a0 true _ A4.out).mono ?_); rintro e w' ⟨rfl, ⟨nd, rfl⟩⟩; refine ⟨_, rfl, ?_⟩) | (go_at_call 144; (with_reducible refine (reredosref01_May.calls k a1 t102 _ A6.out).mono ?_); rintro e w' ⟨rfl, ⟨nd, rfl⟩⟩))
      go_meet
      case rel => exact ⟨_, (!t102), Rf_, H', ⟨by first | omega | exact Nat.le_refl _⟩, ⟨Bl_⟩⟩
    · replace c5 := Bool.eq_false_iff.mpr c5
      subst c5
      have H1 : (reredosref01_Sub.j0 k a0 a1 true) = some (r1, r2) := by rw [if_neg (show ¬ (false = true) by decide)] at H; exact H
      clear H
      have H := H1
      clear H1
      have H' := Aside0.mk H
      clear H
      go_wp2_with (first | ((with_reducible refine gate_callee (f := 144) rfl ?_); refine goesL_ (some 7) rfl rfl Tryz.func144 (by kernel_rfl) rfl #[.string a0] rfl Ga_ ?_; (with_reducible refine (reredosref01_May.calls k a0 false _ A4.out).mono ?_); rintro e w' ⟨rfl, ⟨nd, rfl⟩⟩; refine ⟨_, rfl, ?_⟩))
      go_meet
      case rel => exact ⟨_, (true), Rf_, H', ⟨by first | omega | exact Nat.le_refl _⟩, ⟨Bl_⟩⟩
  case rest =>
    clear HC3
    try clear c1
    try clear p2
    try clear c5
    obtain ⟨kq, x13_2, rfl, HA, HJ2, HB⟩ := hcut
    cases kq with
    | zero => exact absurd HA.out (by simp [reredosref01_Sub.j0])
    | succ kj2 =>
      have H := HA.out
      clear HA
      simp only [reredosref01_Sub.j0] at H
      by_cases c7 : x13_2 = true
      · subst c7
        have H1 : (some ((⟨#[]⟩ : ByteArray), 1)) = some (r1, r2) := by rw [if_pos rfl] at H; exact H
        clear H
        have H := H1
        clear H1
        simp only [Option.some.injEq, Prod.mk.injEq] at H
        obtain ⟨rfl, rfl⟩ := H
        go_wp2
        go_ret2
        exact ⟨Re_, Bl_⟩
      · replace c7 := Bool.eq_false_iff.mpr c7
        subst c7
        have H1 : ((reredosref01_turned.f kj2 a1).bind fun t103 => ((reredosref01_sum.f kj2 a0 t103).bind fun t104 => ((reredosref01_told.f t104).bind fun bt105 => (some (bt105.1, bt105.2))))) = some (r1, r2) := by rw [if_neg (show ¬ (false = true) by decide)] at H; exact H
        clear H
        have H := H1
        clear H1
        obtain ⟨t103, A8, H⟩ := bnd_ H
        try dsimp -simprocs only at H
        obtain ⟨t104, A9, H⟩ := bnd_ H
        try dsimp -simprocs only at H
        obtain ⟨⟨t105, t106⟩, A10, H⟩ := bnd_ H
        try dsimp -simprocs only at H
        simp only [Option.some.injEq, Prod.mk.injEq] at H
        obtain ⟨rfl, rfl⟩ := H
        go_wp2_with (first | ((with_reducible refine gate_callee (f := 180) rfl ?_); refine goesL_ (some 16) rfl rfl Tryz.func180 (by kernel_rfl) rfl #[.string a1] rfl Ga_ ?_; (with_reducible refine (reredosref01_turned.calls kj2 a1 t103 _ A8.out).mono ?_); rintro e w' ⟨rfl, ⟨nd, rfl⟩⟩; refine ⟨_, rfl, ?_⟩) | ((with_reducible refine gate_callee (f := 179) rfl ?_); refine goesL_ (some 17) rfl rfl Tryz.func179 (by kernel_rfl) rfl #[.string a0, .string t103] rfl Ga_ ?_; (with_reducible refine (reredosref01_sum.calls kj2 a0 t103 t104 _ A9.out).mono ?_); rintro e w11 ⟨rfl, hb⟩; refine ⟨_, rfl, ?_⟩; replace HB := Bs_ hb; (try clear hb); (try clear hb2); (try clear hk); (try clear hi)) | ((with_reducible refine gate_callee (f := 178) rfl ?_); refine goesL_ (some 18) rfl rfl Tryz.func178 (by kernel_rfl) rfl #[.string t104] rfl Ga_ ?_; (with_reducible refine (reredosref01_told.calls t104 t105 t106 _ A10.out).mono ?_); rintro e w' ⟨rfl, ⟨nd, rfl⟩⟩; refine ⟨_, rfl, ?_⟩))
        go_ret2
        exact ⟨Re_, Bl_⟩
/-! ### reredosref01_Neg: function 135 -/
def reredosref01_Neg.f (k : Nat) (a0 : ByteArray) : Option (ByteArray) := (reredosref01_May.f k a0).bind fun t101 => (if t101 = true then ((reredosref01_turned.f k a0).bind fun t102 => (some t102)) else (some (⟨#[]⟩ : ByteArray)))
set_option maxHeartbeats 8000000 in
set_option maxRecDepth 100000 in
theorem reredosref01_Neg.calls (k : Nat) (a0 : ByteArray) (r : ByteArray) (w : World) (h : reredosref01_Neg.f k a0 = some r) :
    Calls Tryz.prog 135 #[.string a0] w fun e w' => e = .returned (.string r) ∧ Drawn0 w w' := by
  have H : ((reredosref01_May.f k a0).bind fun t101 => (if t101 = true then ((reredosref01_turned.f k a0).bind fun t102 => (some t102)) else (some (⟨#[]⟩ : ByteArray)))) = some r := h
  clear h
  obtain ⟨t101, A2, H⟩ := bnd_ H
  try dsimp -simprocs only at H
  by_cases c3 : t101 = true
  · subst c3
    have H1 : ((reredosref01_turned.f k a0).bind fun t102 => (some t102)) = some r := by rw [if_pos rfl] at H; exact H
    clear H
    have H := H1
    clear H1
    obtain ⟨t102, A4, H⟩ := bnd_ H
    try dsimp -simprocs only at H
    obtain rfl := Option.some.inj H
    go_enter Tryz.func135, Tryz.ntmps135
    go_wp2_with (first | ((with_reducible refine gate_callee (f := 144) rfl ?_); refine goesL_ (some 4) rfl rfl Tryz.func144 (by kernel_rfl) rfl #[.string a0] rfl Ga_ ?_; (with_reducible refine (reredosref01_May.calls k a0 true _ A2.out).mono ?_); rintro e w' ⟨rfl, ⟨nd, rfl⟩⟩; refine ⟨_, rfl, ?_⟩) | ((with_reducible refine gate_callee (f := 180) rfl ?_); refine goesL_ (some 7) rfl rfl Tryz.func180 (by kernel_rfl) rfl #[.string a0] rfl Ga_ ?_; (with_reducible refine (reredosref01_turned.calls k a0 t102 _ A4.out).mono ?_); rintro e w' ⟨rfl, ⟨nd, rfl⟩⟩; refine ⟨_, rfl, ?_⟩))
    go_ret
    exact ⟨Rf_, Dw_⟩
  · replace c3 := Bool.eq_false_iff.mpr c3
    subst c3
    have H1 : (some (⟨#[]⟩ : ByteArray)) = some r := by rw [if_neg (show ¬ (false = true) by decide)] at H; exact H
    clear H
    have H := H1
    clear H1
    obtain rfl := Option.some.inj H
    go_enter Tryz.func135, Tryz.ntmps135
    go_wp2_with (first | ((with_reducible refine gate_callee (f := 144) rfl ?_); refine goesL_ (some 4) rfl rfl Tryz.func144 (by kernel_rfl) rfl #[.string a0] rfl Ga_ ?_; (with_reducible refine (reredosref01_May.calls k a0 false _ A2.out).mono ?_); rintro e w' ⟨rfl, ⟨nd, rfl⟩⟩; refine ⟨_, rfl, ?_⟩))
    go_ret
    exact ⟨Rf_, Dw_⟩
/-! ### reredosref01_Sign: function 181 -/
def reredosref01_Sign.j0 : Nat → ByteArray → Bool → Option (Int)
  | 0, _, _ => none
  | k + 1, x0, x9 => if x9 = true then (some 0) else ((reredosref01_low.f x0).bind fun t102 => (if t102 = true then (some (-1)) else (some 1)))
def reredosref01_Sign.f (k : Nat) (a0 : ByteArray) : Option (Int) := (reredosref01_May.f k a0).bind fun t101 => (if t101 = true then (reredosref01_Sign.j0 k a0 (a0.toList == ([48] : List UInt8))) else (reredosref01_Sign.j0 k a0 true))
set_option maxHeartbeats 8000000 in
set_option maxRecDepth 100000 in
theorem reredosref01_Sign.calls (k : Nat) (a0 : ByteArray) (r : Int) (w : World) (h : reredosref01_Sign.f k a0 = some r) :
    Calls Tryz.prog 181 #[.string a0] w fun e w' => e = .returned (.int .i64 r) ∧ Drawn0 w w' := by
  have H : ((reredosref01_May.f k a0).bind fun t101 => (if t101 = true then (reredosref01_Sign.j0 k a0 (a0.toList == ([48] : List UInt8))) else (reredosref01_Sign.j0 k a0 true))) = some r := h
  clear h
  have HC2 := Aside0.mk H
  clear H
  go_enter Tryz.func181, Tryz.ntmps181
  go_upto_region 1 with (fail)
  go_cut [9] (fun v9 wc => ∃ (kq : Nat) (x9_1 : Bool), v9 = .bool x9_1 ∧ Aside0 (reredosref01_Sign.j0 kq a0 x9_1 = some r) ∧ Aside0 (kq ≤ k) ∧ Drawn0 w wc)
  case first =>
    have H := HC2.out
    clear HC2
    obtain ⟨t101, A3, H⟩ := bnd_ H
    try dsimp -simprocs only at H
    by_cases c4 : t101 = true
    · subst c4
      have H1 : (reredosref01_Sign.j0 k a0 (a0.toList == ([48] : List UInt8))) = some r := by rw [if_pos rfl] at H; exact H
      clear H
      have H := H1
      clear H1
      have H' := Aside0.mk H
      clear H
      go_wp2_with (first | ((with_reducible refine gate_callee (f := 144) rfl ?_); refine goesL_ (some 4) rfl rfl Tryz.func144 (by kernel_rfl) rfl #[.string a0] rfl Ga_ ?_; (with_reducible refine (reredosref01_May.calls k a0 true _ A3.out).mono ?_); rintro e w' ⟨rfl, ⟨nd, rfl⟩⟩; refine ⟨_, rfl, ?_⟩))
      go_meet
      case rel => exact ⟨_, ((a0.toList == ([48] : List UInt8))), Rf_, H', ⟨by first | omega | exact Nat.le_refl _⟩, Dw_⟩
    · replace c4 := Bool.eq_false_iff.mpr c4
      subst c4
      have H1 : (reredosref01_Sign.j0 k a0 true) = some r := by rw [if_neg (show ¬ (false = true) by decide)] at H; exact H
      clear H
      have H := H1
      clear H1
      have H' := Aside0.mk H
      clear H
      go_wp2_with (first | ((with_reducible refine gate_callee (f := 144) rfl ?_); refine goesL_ (some 4) rfl rfl Tryz.func144 (by kernel_rfl) rfl #[.string a0] rfl Ga_ ?_; (with_reducible refine (reredosref01_May.calls k a0 false _ A3.out).mono ?_); rintro e w' ⟨rfl, ⟨nd, rfl⟩⟩; refine ⟨_, rfl, ?_⟩))
      go_meet
      case rel => exact ⟨_, (true), Rf_, H', ⟨by first | omega | exact Nat.le_refl _⟩, Dw_⟩
  case rest =>
    clear HC2
    try clear c1
    try clear p2
    try clear c4
    obtain ⟨kq, x9_1, rfl, HA, HJ1, ⟨mc1, rfl⟩⟩ := hcut
    cases kq with
    | zero => exact absurd HA.out (by simp [reredosref01_Sign.j0])
    | succ kj1 =>
      have H := HA.out
      clear HA
      simp only [reredosref01_Sign.j0] at H
      by_cases c5 : x9_1 = true
      · subst c5
        have H1 : (some 0) = some r := by rw [if_pos rfl] at H; exact H
        clear H
        have H := H1
        clear H1
        obtain rfl := Option.some.inj H
        go_wp2
        go_ret
        exact ⟨Rf_, Dw_⟩
      · replace c5 := Bool.eq_false_iff.mpr c5
        subst c5
        have H1 : ((reredosref01_low.f a0).bind fun t102 => (if t102 = true then (some (-1)) else (some 1))) = some r := by rw [if_neg (show ¬ (false = true) by decide)] at H; exact H
        clear H
        have H := H1
        clear H1
        obtain ⟨t102, A6, H⟩ := bnd_ H
        try dsimp -simprocs only at H
        by_cases c7 : t102 = true
        · subst c7
          have H1 : (some (-1)) = some r := by rw [if_pos rfl] at H; exact H
          clear H
          have H := H1
          clear H1
          obtain rfl := Option.some.inj H
          go_wp2_with (first | ((with_reducible refine gate_callee (f := 184) rfl ?_); refine goesL_ (some 11) rfl rfl Tryz.func184 (by kernel_rfl) rfl #[.string a0] rfl Ga_ ?_; (with_reducible refine (reredosref01_low.calls a0 true _ A6.out).mono ?_); rintro e w' ⟨rfl, ⟨nd, rfl⟩⟩; refine ⟨_, rfl, ?_⟩))
          go_ret
          exact ⟨Rf_, Dw_⟩
        · replace c7 := Bool.eq_false_iff.mpr c7
          subst c7
          have H1 : (some 1) = some r := by rw [if_neg (show ¬ (false = true) by decide)] at H; exact H
          clear H
          have H := H1
          clear H1
          obtain rfl := Option.some.inj H
          go_wp2_with (first | ((with_reducible refine gate_callee (f := 184) rfl ?_); refine goesL_ (some 11) rfl rfl Tryz.func184 (by kernel_rfl) rfl #[.string a0] rfl Ga_ ?_; (with_reducible refine (reredosref01_low.calls a0 false _ A6.out).mono ?_); rintro e w' ⟨rfl, ⟨nd, rfl⟩⟩; refine ⟨_, rfl, ?_⟩))
          go_ret
          exact ⟨Rf_, Dw_⟩
/-! ### reredosref01_bounded: function 182 -/
def reredosref01_bounded.f (k : Nat) (a0 : ByteArray) : Option (ByteArray) := (reredosref01_size.f a0).bind fun t101 => (if (t101.size : Int) > 100 then ((reredosref01_low.f a0).bind fun t102 => ((reredosref01_signed.f k (⟨#[49]⟩ : ByteArray) t102).bind fun t103 => (some t103))) else (some a0))
set_option maxHeartbeats 8000000 in
set_option maxRecDepth 100000 in
theorem reredosref01_bounded.calls (k : Nat) (a0 : ByteArray) (r : ByteArray) (w : World) (h : reredosref01_bounded.f k a0 = some r) :
    Calls Tryz.prog 182 #[.string a0] w fun e w' => e = .returned (.string r) ∧ Drawn0 w w' := by
  have H : ((reredosref01_size.f a0).bind fun t101 => (if (t101.size : Int) > 100 then ((reredosref01_low.f a0).bind fun t102 => ((reredosref01_signed.f k (⟨#[49]⟩ : ByteArray) t102).bind fun t103 => (some t103))) else (some a0))) = some r := h
  clear h
  obtain ⟨t101, A2, H⟩ := bnd_ H
  try dsimp -simprocs only at H
  by_cases c3 : (t101.size : Int) > 100
  · rw [if_pos c3] at H
    have c3b0 : decide (100 < (t101.size : Int)) = true := decide_eq_true c3
    have c3b1 : decide (100 < t101.size) = true := decide_eq_true (by omega)
    clear c3
    obtain ⟨t102, A4, H⟩ := bnd_ H
    try dsimp -simprocs only at H
    obtain ⟨t103, A5, H⟩ := bnd_ H
    try dsimp -simprocs only at H
    obtain rfl := Option.some.inj H
    go_enter Tryz.func182, Tryz.ntmps182
    go_wp2_with (first | ((with_reducible refine gate_callee (f := 183) rfl ?_); refine goesL_ (some 4) rfl rfl Tryz.func183 (by kernel_rfl) rfl #[.string a0] rfl Ga_ ?_; (with_reducible refine (reredosref01_size.calls a0 t101 _ A2.out).mono ?_); rintro e w' ⟨rfl, ⟨nd, rfl⟩⟩; refine ⟨_, rfl, ?_⟩) | ((with_reducible refine gate_callee (f := 184) rfl ?_); refine goesL_ (some 8) rfl rfl Tryz.func184 (by kernel_rfl) rfl #[.string a0] rfl Ga_ ?_; (with_reducible refine (reredosref01_low.calls a0 t102 _ A4.out).mono ?_); rintro e w' ⟨rfl, ⟨nd, rfl⟩⟩; refine ⟨_, rfl, ?_⟩) | ((with_reducible refine gate_callee (f := 209) rfl ?_); refine goesL_ (some 9) rfl rfl Tryz.func209 (by kernel_rfl) rfl #[.string (⟨#[49]⟩ : ByteArray), .bool t102] rfl Ga_ ?_; (with_reducible refine (reredosref01_signed.calls k (⟨#[49]⟩ : ByteArray) t102 t103 _ A5.out).mono ?_); rintro e w' ⟨rfl, ⟨nd, rfl⟩⟩; refine ⟨_, rfl, ?_⟩))
    go_ret
    exact ⟨Rf_, Dw_⟩
  · rw [if_neg c3] at H
    have c3b0 : decide (100 < (t101.size : Int)) = false := decide_eq_false c3
    have c3b1 : decide (100 < t101.size) = false := decide_eq_false (by omega)
    clear c3
    obtain rfl := Option.some.inj H
    go_enter Tryz.func182, Tryz.ntmps182
    go_wp2_with (first | ((with_reducible refine gate_callee (f := 183) rfl ?_); refine goesL_ (some 4) rfl rfl Tryz.func183 (by kernel_rfl) rfl #[.string a0] rfl Ga_ ?_; (with_reducible refine (reredosref01_size.calls a0 t101 _ A2.out).mono ?_); rintro e w' ⟨rfl, ⟨nd, rfl⟩⟩; refine ⟨_, rfl, ?_⟩))
    go_ret
    exact ⟨Rf_, Dw_⟩
/-! ### reredosref01_Cmp: function 136 -/
def reredosref01_Cmp.j0 : Nat → ByteArray → ByteArray → Bool → Option (Int)
  | 0, _, _, _ => none
  | k + 1, x0, x1, x12 => if x12 = true then (some 0) else ((reredosref01_turned.f k x1).bind fun t103 => ((reredosref01_sum.f k x0 t103).bind fun t104 => ((reredosref01_bounded.f k t104).bind fun t105 => ((reredosref01_Sign.f k t105).bind fun t106 => (some t106)))))
def reredosref01_Cmp.f (k : Nat) (a0 : ByteArray) (a1 : ByteArray) : Option (Int) := (reredosref01_May.f k a0).bind fun t101 => (if t101 = true then ((reredosref01_May.f k a1).bind fun t102 => (reredosref01_Cmp.j0 k a0 a1 (!t102))) else (reredosref01_Cmp.j0 k a0 a1 true))
set_option maxHeartbeats 8000000 in
set_option maxRecDepth 100000 in
theorem reredosref01_Cmp.calls (k : Nat) (a0 : ByteArray) (a1 : ByteArray) (r : Int) (w : World) (h : reredosref01_Cmp.f k a0 a1 = some r) :
    Calls Tryz.prog 136 #[.string a0, .string a1] w fun e w' => e = .returned (.int .i64 r) ∧ Below w.heap.size w w' := by
  have HB := Aside0.mk (Below.refl w.heap.size w)
  have H : ((reredosref01_May.f k a0).bind fun t101 => (if t101 = true then ((reredosref01_May.f k a1).bind fun t102 => (reredosref01_Cmp.j0 k a0 a1 (!t102))) else (reredosref01_Cmp.j0 k a0 a1 true))) = some r := h
  clear h
  have HC3 := Aside0.mk H
  clear H
  go_enter Tryz.func136, Tryz.ntmps136
  go_upto_region 1 with (fail)
  go_cut [12] (fun v12 wc => ∃ (kq : Nat) (x12_2 : Bool), v12 = .bool x12_2 ∧ Aside0 (reredosref01_Cmp.j0 kq a0 a1 x12_2 = some r) ∧ Aside0 (kq ≤ k) ∧ Aside0 (Below w.heap.size w wc))
  case first =>
    have H := HC3.out
    clear HC3
    obtain ⟨t101, A4, H⟩ := bnd_ H
    try dsimp -simprocs only at H
    by_cases c5 : t101 = true
    · subst c5
      have H1 : ((reredosref01_May.f k a1).bind fun t102 => (reredosref01_Cmp.j0 k a0 a1 (!t102))) = some r := by rw [if_pos rfl] at H; exact H
      clear H
      have H := H1
      clear H1
      obtain ⟨t102, A6, H⟩ := bnd_ H
      try dsimp -simprocs only at H
      have H' := Aside0.mk H
      clear H
      go_wp2_with (first | ((with_reducible refine gate_callee (f := 144) rfl ?_); refine goesL_ (some 6) rfl rfl Tryz.func144 (by kernel_rfl) rfl #[.string a0] rfl Ga_ ?_; (with_reducible refine (reredosref01_May.calls k a0 true _ A4.out).mono ?_); rintro e w' ⟨rfl, ⟨nd, rfl⟩⟩; refine ⟨_, rfl, ?_⟩) | (go_at_call 144; (with_reducible refine (reredosref01_May.calls k a1 t102 _ A6.out).mono ?_); rintro e w' ⟨rfl, ⟨nd, rfl⟩⟩))
      go_meet
      case rel => exact ⟨_, (!t102), Rf_, H', ⟨by first | omega | exact Nat.le_refl _⟩, ⟨Bl_⟩⟩
    · replace c5 := Bool.eq_false_iff.mpr c5
      subst c5
      have H1 : (reredosref01_Cmp.j0 k a0 a1 true) = some r := by rw [if_neg (show ¬ (false = true) by decide)] at H; exact H
      clear H
      have H := H1
      clear H1
      have H' := Aside0.mk H
      clear H
      go_wp2_with (first | ((with_reducible refine gate_callee (f := 144) rfl ?_); refine goesL_ (some 6) rfl rfl Tryz.func144 (by kernel_rfl) rfl #[.string a0] rfl Ga_ ?_; (with_reducible refine (reredosref01_May.calls k a0 false _ A4.out).mono ?_); rintro e w' ⟨rfl, ⟨nd, rfl⟩⟩; refine ⟨_, rfl, ?_⟩))
      go_meet
      case rel => exact ⟨_, (true), Rf_, H', ⟨by first | omega | exact Nat.le_refl _⟩, ⟨Bl_⟩⟩
  case rest =>
    clear HC3
    try clear c1
    try clear p2
    try clear c5
    obtain ⟨kq, x12_2, rfl, HA, HJ2, HB⟩ := hcut
    cases kq with
    | zero => exact absurd HA.out (by simp [reredosref01_Cmp.j0])
    | succ kj2 =>
      have H := HA.out
      clear HA
      simp only [reredosref01_Cmp.j0] at H
      by_cases c7 : x12_2 = true
      · subst c7
        have H1 : (some 0) = some r := by rw [if_pos rfl] at H; exact H
        clear H
        have H := H1
        clear H1
        obtain rfl := Option.some.inj H
        go_wp2
        go_ret
        exact ⟨Re_, Bl_⟩
      · replace c7 := Bool.eq_false_iff.mpr c7
        subst c7
        have H1 : ((reredosref01_turned.f kj2 a1).bind fun t103 => ((reredosref01_sum.f kj2 a0 t103).bind fun t104 => ((reredosref01_bounded.f kj2 t104).bind fun t105 => ((reredosref01_Sign.f kj2 t105).bind fun t106 => (some t106))))) = some r := by rw [if_neg (show ¬ (false = true) by decide)] at H; exact H
        clear H
        have H := H1
        clear H1
        obtain ⟨t103, A8, H⟩ := bnd_ H
        try dsimp -simprocs only at H
        obtain ⟨t104, A9, H⟩ := bnd_ H
        try dsimp -simprocs only at H
        obtain ⟨t105, A10, H⟩ := bnd_ H
        try dsimp -simprocs only at H
        obtain ⟨t106, A11, H⟩ := bnd_ H
        try dsimp -simprocs only at H
        obtain rfl := Option.some.inj H
        go_wp2_with (first | ((with_reducible refine gate_callee (f := 180) rfl ?_); refine goesL_ (some 15) rfl rfl Tryz.func180 (by kernel_rfl) rfl #[.string a1] rfl Ga_ ?_; (with_reducible refine (reredosref01_turned.calls kj2 a1 t103 _ A8.out).mono ?_); rintro e w' ⟨rfl, ⟨nd, rfl⟩⟩; refine ⟨_, rfl, ?_⟩) | ((with_reducible refine gate_callee (f := 179) rfl ?_); refine goesL_ (some 16) rfl rfl Tryz.func179 (by kernel_rfl) rfl #[.string a0, .string t103] rfl Ga_ ?_; (with_reducible refine (reredosref01_sum.calls kj2 a0 t103 t104 _ A9.out).mono ?_); rintro e w12 ⟨rfl, hb⟩; refine ⟨_, rfl, ?_⟩; replace HB := Bs_ hb; (try clear hb); (try clear hb2); (try clear hk); (try clear hi)) | ((with_reducible refine gate_callee (f := 182) rfl ?_); refine goesL_ (some 17) rfl rfl Tryz.func182 (by kernel_rfl) rfl #[.string t104] rfl Ga_ ?_; (with_reducible refine (reredosref01_bounded.calls kj2 t104 t105 _ A10.out).mono ?_); rintro e w' ⟨rfl, ⟨nd, rfl⟩⟩; refine ⟨_, rfl, ?_⟩) | ((with_reducible refine gate_callee (f := 181) rfl ?_); refine goesL_ (some 18) rfl rfl Tryz.func181 (by kernel_rfl) rfl #[.string t105] rfl Ga_ ?_; (with_reducible refine (reredosref01_Sign.calls kj2 t105 t106 _ A11.out).mono ?_); rintro e w' ⟨rfl, ⟨nd, rfl⟩⟩; refine ⟨_, rfl, ?_⟩))
        go_ret
        exact ⟨Re_, Bl_⟩
/-! ### reredosref02_In: function 76 -/
def reredosref02_In.f (k : Nat) (a0 : ByteArray) (a1 : Int) : Option (Bool) := (reredosref02_bound.f a1).bind fun t101 => (if t101.toList = ([] : List UInt8) then (some (a1 == 128)) else ((reredosref01_Neg.f k t101).bind fun t102 => ((reredosref01_Sub.f k t102 (⟨#[49]⟩ : ByteArray)).bind fun bt103 => ((reredosref01_Cmp.f k a0 t101).bind fun t105 => (if t105 ≤ 0 then ((reredosref01_Cmp.f k a0 bt103.1).bind fun t106 => (some (decide (t106 ≥ 0)))) else (some false))))))
set_option maxHeartbeats 8000000 in
set_option maxRecDepth 100000 in
theorem reredosref02_In.calls (k : Nat) (a0 : ByteArray) (a1 : Int) (r : Bool) (w : World) (h : reredosref02_In.f k a0 a1 = some r) :
    Calls Tryz.prog 76 #[.string a0, .int .i64 a1] w fun e w' => e = .returned (.bool r) ∧ Below w.heap.size w w' := by
  have HB := Aside0.mk (Below.refl w.heap.size w)
  have H : ((reredosref02_bound.f a1).bind fun t101 => (if t101.toList = ([] : List UInt8) then (some (a1 == 128)) else ((reredosref01_Neg.f k t101).bind fun t102 => ((reredosref01_Sub.f k t102 (⟨#[49]⟩ : ByteArray)).bind fun bt103 => ((reredosref01_Cmp.f k a0 t101).bind fun t105 => (if t105 ≤ 0 then ((reredosref01_Cmp.f k a0 bt103.1).bind fun t106 => (some (decide (t106 ≥ 0)))) else (some false))))))) = some r := h
  clear h
  obtain ⟨t101, A3, H⟩ := bnd_ H
  try dsimp -simprocs only at H
  by_cases c4 : t101.toList = ([] : List UInt8)
  · rw [if_pos c4] at H
    have c4b0 : (t101.toList == ([] : List UInt8)) = true := beq_iff_eq.mpr c4
    have c4b1 : (t101.toList != ([] : List UInt8)) = false := bne_eq_false_iff_eq.mpr c4
    clear c4
    obtain rfl := Option.some.inj H
    go_enter Tryz.func76, Tryz.ntmps76
    go_wp2_with (first | ((with_reducible refine gate_callee (f := 133) rfl ?_); refine goesL_ (some 9) rfl rfl Tryz.func133 (by kernel_rfl) rfl #[.int .i64 a1] rfl Ga_ ?_; (with_reducible refine (reredosref02_bound.calls a1 t101 _ A3.out).mono ?_); rintro e w' ⟨rfl, ⟨nd, rfl⟩⟩; refine ⟨_, rfl, ?_⟩))
    go_ret
    exact ⟨Re_, Bl_⟩
  · rw [if_neg c4] at H
    have c4b0 : (t101.toList == ([] : List UInt8)) = false := beq_eq_false_iff_ne.mpr c4
    have c4b1 : (t101.toList != ([] : List UInt8)) = true := bne_iff_ne.mpr c4
    obtain ⟨t102, A5, H⟩ := bnd_ H
    try dsimp -simprocs only at H
    obtain ⟨⟨t103, t104⟩, A6, H⟩ := bnd_ H
    try dsimp -simprocs only at H
    obtain ⟨t105, A7, H⟩ := bnd_ H
    try dsimp -simprocs only at H
    by_cases c8 : t105 ≤ 0
    · rw [if_pos c8] at H
      have c8b0 : decide (t105 ≤ 0) = true := decide_eq_true c8
      clear c8
      obtain ⟨t106, A9, H⟩ := bnd_ H
      try dsimp -simprocs only at H
      obtain rfl := Option.some.inj H
      go_enter Tryz.func76, Tryz.ntmps76
      go_wp2_with (first | ((with_reducible refine gate_callee (f := 133) rfl ?_); refine goesL_ (some 9) rfl rfl Tryz.func133 (by kernel_rfl) rfl #[.int .i64 a1] rfl Ga_ ?_; (with_reducible refine (reredosref02_bound.calls a1 t101 _ A3.out).mono ?_); rintro e w' ⟨rfl, ⟨nd, rfl⟩⟩; refine ⟨_, rfl, ?_⟩) | ((with_reducible refine gate_callee (f := 135) rfl ?_); refine goesL_ (some 16) rfl rfl Tryz.func135 (by kernel_rfl) rfl #[.string t101] rfl Ga_ ?_; (with_reducible refine (reredosref01_Neg.calls k t101 t102 _ A5.out).mono ?_); rintro e w' ⟨rfl, ⟨nd, rfl⟩⟩; refine ⟨_, rfl, ?_⟩) | ((with_reducible refine gate_callee (f := 134) rfl ?_); refine goesL_ (some 17) rfl rfl Tryz.func134 (by kernel_rfl) rfl #[.string t102, .string (⟨#[49]⟩ : ByteArray)] rfl Ga_ ?_; (with_reducible refine (reredosref01_Sub.calls k t102 (⟨#[49]⟩ : ByteArray) t103 t104 _ A6.out).mono ?_); rintro e w10 ⟨rfl, hb⟩; refine ⟨_, rfl, ?_⟩; replace HB := Bs_ hb; (try clear hb); (try clear hb2); (try clear hk); (try clear hi)) | ((with_reducible refine gate_callee (f := 136) rfl ?_); refine goesL_ (some 22) rfl rfl Tryz.func136 (by kernel_rfl) rfl #[.string a0, .string t101] rfl Ga_ ?_; (with_reducible refine (reredosref01_Cmp.calls k a0 t101 t105 _ A7.out).mono ?_); rintro e w11 ⟨rfl, hb⟩; refine ⟨_, rfl, ?_⟩; replace HB := Bs_ hb; (try clear hb); (try clear hb2); (try clear hk); (try clear hi)) | (go_at_call 136; (with_reducible refine (reredosref01_Cmp.calls k a0 t103 t106 _ A9.out).mono ?_); rintro e w12 ⟨rfl, hb⟩; replace HB := Bs_ hb; (try clear hb); (try clear hb2); (try clear hk); (try clear hi)))
      go_ret
      exact ⟨Re_, Bl_⟩
    · rw [if_neg c8] at H
      have c8b0 : decide (t105 ≤ 0) = false := decide_eq_false c8
      clear c8
      obtain rfl := Option.some.inj H
      go_enter Tryz.func76, Tryz.ntmps76
      go_wp2_with (first | ((with_reducible refine gate_callee (f := 133) rfl ?_); refine goesL_ (some 9) rfl rfl Tryz.func133 (by kernel_rfl) rfl #[.int .i64 a1] rfl Ga_ ?_; (with_reducible refine (reredosref02_bound.calls a1 t101 _ A3.out).mono ?_); rintro e w' ⟨rfl, ⟨nd, rfl⟩⟩; refine ⟨_, rfl, ?_⟩) | ((with_reducible refine gate_callee (f := 135) rfl ?_); refine goesL_ (some 16) rfl rfl Tryz.func135 (by kernel_rfl) rfl #[.string t101] rfl Ga_ ?_; (with_reducible refine (reredosref01_Neg.calls k t101 t102 _ A5.out).mono ?_); rintro e w' ⟨rfl, ⟨nd, rfl⟩⟩; refine ⟨_, rfl, ?_⟩) | ((with_reducible refine gate_callee (f := 134) rfl ?_); refine goesL_ (some 17) rfl rfl Tryz.func134 (by kernel_rfl) rfl #[.string t102, .string (⟨#[49]⟩ : ByteArray)] rfl Ga_ ?_; (with_reducible refine (reredosref01_Sub.calls k t102 (⟨#[49]⟩ : ByteArray) t103 t104 _ A6.out).mono ?_); rintro e w13 ⟨rfl, hb⟩; refine ⟨_, rfl, ?_⟩; replace HB := Bs_ hb; (try clear hb); (try clear hb2); (try clear hk); (try clear hi)) | ((with_reducible refine gate_callee (f := 136) rfl ?_); refine goesL_ (some 22) rfl rfl Tryz.func136 (by kernel_rfl) rfl #[.string a0, .string t101] rfl Ga_ ?_; (with_reducible refine (reredosref01_Cmp.calls k a0 t101 t105 _ A7.out).mono ?_); rintro e w14 ⟨rfl, hb⟩; refine ⟨_, rfl, ?_⟩; replace HB := Bs_ hb; (try clear hb); (try clear hb2); (try clear hk); (try clear hi)))
      go_ret
      exact ⟨Re_, Bl_⟩
/-! ### reredosref01_Int: function 137 -/
mutual
def reredosref01_Int.j0 : Nat → ByteArray → Bool → Option (Int × Bool)
  | 0, _, _ => none
  | k + 1, x0, x19 => if x19 = true then (some (0, false)) else (reredosref01_Int.l0 k x0 0 0)
def reredosref01_Int.l0 : Nat → ByteArray → Int → Int → Option (Int × Bool)
  | 0, _, _, _ => none
  | k + 1, x0, x4, x5 => (reredosref01_size.f x0).bind fun t104 => (if x5 < (t104.size : Int) then ((reredosref01_size.f x0).bind fun t105 => (if 0 ≤ x5 then (if x5 < (t105.size : Int) then ((reredosref01_low.f x0).bind fun t106 => (if t106 = true then (reredosref01_Int.l0 k x0 (wrap64 ((wrap64 (10 * x4)) - (((bt t105 x5) - 48) % 256))) (wrap64 (x5 + 1))) else (reredosref01_Int.l0 k x0 (wrap64 ((wrap64 (10 * x4)) + (((bt t105 x5) - 48) % 256))) (wrap64 (x5 + 1))))) else (none)) else (none))) else (some (x4, true)))
end
def reredosref01_Int.f (k : Nat) (a0 : ByteArray) : Option (Int × Bool) := (reredosref01_May.f k a0).bind fun t101 => (if t101 = true then ((reredosref01_Cmp.f k a0 (⟨#[57, 50, 50, 51, 51, 55, 50, 48, 51, 54, 56, 53, 52, 55, 55, 53, 56, 48, 55]⟩ : ByteArray)).bind fun t102 => (if t102 > 0 then (reredosref01_Int.j0 k a0 true) else ((reredosref01_Cmp.f k a0 (⟨#[45, 57, 50, 50, 51, 51, 55, 50, 48, 51, 54, 56, 53, 52, 55, 55, 53, 56, 48, 56]⟩ : ByteArray)).bind fun t103 => (reredosref01_Int.j0 k a0 (decide (t103 < 0)))))) else (reredosref01_Int.j0 k a0 true))
set_option maxHeartbeats 8000000 in
set_option maxRecDepth 100000 in
theorem reredosref01_Int.calls (k : Nat) (a0 : ByteArray) (r1 : Int) (r2 : Bool) (w : World) (h : reredosref01_Int.f k a0 = some (r1, r2)) :
    Calls Tryz.prog 137 #[.string a0] w fun e w' => e = .returned (.tuple #[.int .i64 r1, .bool r2]) ∧ Below w.heap.size w w' := by
  have HB := Aside0.mk (Below.refl w.heap.size w)
  have H : ((reredosref01_May.f k a0).bind fun t101 => (if t101 = true then ((reredosref01_Cmp.f k a0 (⟨#[57, 50, 50, 51, 51, 55, 50, 48, 51, 54, 56, 53, 52, 55, 55, 53, 56, 48, 55]⟩ : ByteArray)).bind fun t102 => (if t102 > 0 then (reredosref01_Int.j0 k a0 true) else ((reredosref01_Cmp.f k a0 (⟨#[45, 57, 50, 50, 51, 51, 55, 50, 48, 51, 54, 56, 53, 52, 55, 55, 53, 56, 48, 56]⟩ : ByteArray)).bind fun t103 => (reredosref01_Int.j0 k a0 (decide (t103 < 0)))))) else (reredosref01_Int.j0 k a0 true))) = some (r1, r2) := h
  clear h
  have HC2 := Aside0.mk H
  clear H
  go_enter Tryz.func137, Tryz.ntmps137
  go_upto_region 1 with (fail)
  go_cut [19] (fun v19 wc => ∃ (kq : Nat) (x19_1 : Bool), v19 = .bool x19_1 ∧ Aside0 (reredosref01_Int.j0 kq a0 x19_1 = some (r1, r2)) ∧ Aside0 (kq ≤ k) ∧ Aside0 (Below w.heap.size w wc))
  case first =>
    have H := HC2.out
    clear HC2
    obtain ⟨t101, A3, H⟩ := bnd_ H
    try dsimp -simprocs only at H
    by_cases c4 : t101 = true
    · subst c4
      have H1 : ((reredosref01_Cmp.f k a0 (⟨#[57, 50, 50, 51, 51, 55, 50, 48, 51, 54, 56, 53, 52, 55, 55, 53, 56, 48, 55]⟩ : ByteArray)).bind fun t102 => (if t102 > 0 then (reredosref01_Int.j0 k a0 true) else ((reredosref01_Cmp.f k a0 (⟨#[45, 57, 50, 50, 51, 51, 55, 50, 48, 51, 54, 56, 53, 52, 55, 55, 53, 56, 48, 56]⟩ : ByteArray)).bind fun t103 => (reredosref01_Int.j0 k a0 (decide (t103 < 0)))))) = some (r1, r2) := by rw [if_pos rfl] at H; exact H
      clear H
      have H := H1
      clear H1
      obtain ⟨t102, A5, H⟩ := bnd_ H
      try dsimp -simprocs only at H
      by_cases c6 : t102 > 0
      · rw [if_pos c6] at H
        have c6b0 : decide (0 < t102) = true := decide_eq_true c6
        clear c6
        (first | rw [c6b0] | (simp only [i64_w, i32_w]; rw [c6b0]) | skip)
        have H' := Aside0.mk H
        clear H
        go_wp2_with (first | ((with_reducible refine gate_callee (f := 144) rfl ?_); refine goesL_ (some 8) rfl rfl Tryz.func144 (by kernel_rfl) rfl #[.string a0] rfl Ga_ ?_; (with_reducible refine (reredosref01_May.calls k a0 true _ A3.out).mono ?_); rintro e w' ⟨rfl, ⟨nd, rfl⟩⟩; refine ⟨_, rfl, ?_⟩) | (go_at_call 136; (with_reducible refine (reredosref01_Cmp.calls k a0 (⟨#[57, 50, 50, 51, 51, 55, 50, 48, 51, 54, 56, 53, 52, 55, 55, 53, 56, 48, 55]⟩ : ByteArray) t102 _ A5.out).mono ?_); rintro e w7 ⟨rfl, hb⟩; replace HB := Bs_ hb; (try clear hb); (try clear hb2); (try clear hk); (try clear hi)))
        go_meet
        case rel => exact ⟨_, (true), Rf_, H', ⟨by first | omega | exact Nat.le_refl _⟩, ⟨Bl_⟩⟩
      · rw [if_neg c6] at H
        have c6b0 : decide (0 < t102) = false := decide_eq_false c6
        clear c6
        (first | rw [c6b0] | (simp only [i64_w, i32_w]; rw [c6b0]) | skip)
        obtain ⟨t103, A8, H⟩ := bnd_ H
        try dsimp -simprocs only at H
        have H' := Aside0.mk H
        clear H
        go_wp2_with (first | ((with_reducible refine gate_callee (f := 144) rfl ?_); refine goesL_ (some 8) rfl rfl Tryz.func144 (by kernel_rfl) rfl #[.string a0] rfl Ga_ ?_; (with_reducible refine (reredosref01_May.calls k a0 true _ A3.out).mono ?_); rintro e w' ⟨rfl, ⟨nd, rfl⟩⟩; refine ⟨_, rfl, ?_⟩) | (go_at_call 136; (with_reducible refine (reredosref01_Cmp.calls k a0 (⟨#[57, 50, 50, 51, 51, 55, 50, 48, 51, 54, 56, 53, 52, 55, 55, 53, 56, 48, 55]⟩ : ByteArray) t102 _ A5.out).mono ?_); rintro e w9 ⟨rfl, hb⟩; replace HB := Bs_ hb; (try clear hb); (try clear hb2); (try clear hk); (try clear hi)) | (go_at_call 136; (with_reducible refine (reredosref01_Cmp.calls k a0 (⟨#[45, 57, 50, 50, 51, 51, 55, 50, 48, 51, 54, 56, 53, 52, 55, 55, 53, 56, 48, 56]⟩ : ByteArray) t103 _ A8.out).mono ?_); rintro e w10 ⟨rfl, hb⟩; replace HB := Bs_ hb; (try clear hb); (try clear hb2); (try clear hk); (try clear hi)))
        go_meet
        case rel => exact ⟨_, (decide (t103 < 0)), Rf_, H', ⟨by first | omega | exact Nat.le_refl _⟩, ⟨Bl_⟩⟩
    · replace c4 := Bool.eq_false_iff.mpr c4
      subst c4
      have H1 : (reredosref01_Int.j0 k a0 true) = some (r1, r2) := by rw [if_neg (show ¬ (false = true) by decide)] at H; exact H
      clear H
      have H := H1
      clear H1
      have H' := Aside0.mk H
      clear H
      go_wp2_with (first | ((with_reducible refine gate_callee (f := 144) rfl ?_); refine goesL_ (some 8) rfl rfl Tryz.func144 (by kernel_rfl) rfl #[.string a0] rfl Ga_ ?_; (with_reducible refine (reredosref01_May.calls k a0 false _ A3.out).mono ?_); rintro e w' ⟨rfl, ⟨nd, rfl⟩⟩; refine ⟨_, rfl, ?_⟩))
      go_meet
      case rel => exact ⟨_, (true), Rf_, H', ⟨by first | omega | exact Nat.le_refl _⟩, ⟨Bl_⟩⟩
  case rest =>
    clear HC2
    try clear c1
    try clear p2
    try clear c4
    try clear c6
    try clear c6b0
    obtain ⟨kq, x19_1, rfl, HA, HJ1, HB⟩ := hcut
    cases kq with
    | zero => exact absurd HA.out (by simp [reredosref01_Int.j0])
    | succ kj1 =>
      have H := HA.out
      clear HA
      simp only [reredosref01_Int.j0] at H
      by_cases c11 : x19_1 = true
      · subst c11
        have H1 : (some (0, false)) = some (r1, r2) := by rw [if_pos rfl] at H; exact H
        clear H
        have H := H1
        clear H1
        simp only [Option.some.injEq, Prod.mk.injEq] at H
        obtain ⟨rfl, rfl⟩ := H
        go_wp2
        go_ret2
        exact ⟨Re_, Bl_⟩
      · replace c11 := Bool.eq_false_iff.mpr c11
        subst c11
        have H1 : (reredosref01_Int.l0 kj1 a0 0 0) = some (r1, r2) := by rw [if_neg (show ¬ (false = true) by decide)] at H; exact H
        clear H
        have H := H1
        clear H1
        have H' := Aside0.mk H
        clear H
        go_wp2
        go_loopg [4, 5] kj1 (fun kq v4 v5 w' => ∃ (x4_2 : Int) (x5_2 : Int), v4 = .int .i64 x4_2 ∧ v5 = .int .i64 x5_2 ∧ Aside0 (reredosref01_Int.l0 kq a0 x4_2 x5_2 = some (r1, r2)) ∧ Aside0 (kq ≤ kj1) ∧ Aside0 (Below w.heap.size w w'))
        case atStart => exact ⟨(0), (0), Rf_, Rf_, H', ⟨Nat.le_refl _⟩, ⟨Bl_⟩⟩
        case round =>
          clear H'
          try clear c1
          try clear p2
          try clear c4
          try clear c6
          try clear c6b0
          try clear c11
          try clear p2
          obtain ⟨x4_2, x5_2, rfl, rfl, HA, HK2, HB⟩ := hrel
          cases gk with
          | zero => exact absurd HA.out (by simp [reredosref01_Int.l0])
          | succ k2 =>
            have H := HA.out
            clear HA
            simp only [reredosref01_Int.l0] at H
            obtain ⟨t104, A12, H⟩ := bnd_ H
            try dsimp -simprocs only at H
            by_cases c13 : x5_2 < (t104.size : Int)
            · rw [if_pos c13] at H
              have c13b0 : decide (x5_2 < (t104.size : Int)) = true := decide_eq_true c13
              clear c13
              obtain ⟨t105, A14, H⟩ := bnd_ H
              try dsimp -simprocs only at H
              by_cases c15 : 0 ≤ x5_2
              · rw [if_pos c15] at H
                have c15b0 : decide (0 ≤ x5_2) = true := decide_eq_true c15
                clear c15
                by_cases c16 : x5_2 < (t105.size : Int)
                · rw [if_pos c16] at H
                  have c16b0 : decide (x5_2 < (t105.size : Int)) = true := decide_eq_true c16
                  clear c16
                  obtain ⟨t106, A18, H⟩ := bnd_ H
                  try dsimp -simprocs only at H
                  by_cases c19 : t106 = true
                  · subst c19
                    have H1 : (reredosref01_Int.l0 k2 a0 (wrap64 ((wrap64 (10 * x4_2)) - (((bt t105 x5_2) - 48) % 256))) (wrap64 (x5_2 + 1))) = some (r1, r2) := by rw [if_pos rfl] at H; exact H
                    clear H
                    have H := H1
                    clear H1
                    have H' := Aside0.mk H
                    clear H
                    go_wp2_with (first | ((with_reducible refine gate_callee (f := 183) rfl ?_); refine goesL_ (some 22) rfl rfl Tryz.func183 (by kernel_rfl) rfl #[.string a0] rfl Ga_ ?_; (with_reducible refine (reredosref01_size.calls a0 t104 _ A12.out).mono ?_); rintro e w' ⟨rfl, ⟨nd, rfl⟩⟩; refine ⟨_, rfl, ?_⟩) | ((with_reducible refine gate_callee (f := 183) rfl ?_); refine goesL_ (some 28) rfl rfl Tryz.func183 (by kernel_rfl) rfl #[.string a0] rfl Ga_ ?_; (with_reducible refine (reredosref01_size.calls a0 t105 _ A14.out).mono ?_); rintro e w' ⟨rfl, ⟨nd, rfl⟩⟩; refine ⟨_, rfl, ?_⟩; have p17 : 0 ≤ (x5_2 : Int) := of_decide_eq_true As_; have q17 : x5_2 < (t105.size : Int) := of_decide_eq_true As_; have hx17 := bt_at t105 x5_2; replace p17 := eq_true p17; replace q17 := eq_true q17) | ((with_reducible refine gate_callee (f := 184) rfl ?_); refine goesL_ (some 34) rfl rfl Tryz.func184 (by kernel_rfl) rfl #[.string a0] rfl Ga_ ?_; (with_reducible refine (reredosref01_low.calls a0 true _ A18.out).mono ?_); rintro e w' ⟨rfl, ⟨nd, rfl⟩⟩; refine ⟨_, rfl, ?_⟩))
                    go_roundg k2
                    case measure => have := HJ1.out; have := HK2.out; omega
                    case rel => exact ⟨(wrap64 ((wrap64 (10 * x4_2)) - (((bt t105 x5_2) - 48) % 256))), (wrap64 (x5_2 + 1)), Rf_, Rf_, H', ⟨by have := HJ1.out; have := HK2.out; omega⟩, ⟨Bl_⟩⟩
                  · replace c19 := Bool.eq_false_iff.mpr c19
                    subst c19
                    have H1 : (reredosref01_Int.l0 k2 a0 (wrap64 ((wrap64 (10 * x4_2)) + (((bt t105 x5_2) - 48) % 256))) (wrap64 (x5_2 + 1))) = some (r1, r2) := by rw [if_neg (show ¬ (false = true) by decide)] at H; exact H
                    clear H
                    have H := H1
                    clear H1
                    have H' := Aside0.mk H
                    clear H
                    go_wp2_with (first | ((with_reducible refine gate_callee (f := 183) rfl ?_); refine goesL_ (some 22) rfl rfl Tryz.func183 (by kernel_rfl) rfl #[.string a0] rfl Ga_ ?_; (with_reducible refine (reredosref01_size.calls a0 t104 _ A12.out).mono ?_); rintro e w' ⟨rfl, ⟨nd, rfl⟩⟩; refine ⟨_, rfl, ?_⟩) | ((with_reducible refine gate_callee (f := 183) rfl ?_); refine goesL_ (some 28) rfl rfl Tryz.func183 (by kernel_rfl) rfl #[.string a0] rfl Ga_ ?_; (with_reducible refine (reredosref01_size.calls a0 t105 _ A14.out).mono ?_); rintro e w' ⟨rfl, ⟨nd, rfl⟩⟩; refine ⟨_, rfl, ?_⟩; have p17 : 0 ≤ (x5_2 : Int) := of_decide_eq_true As_; have q17 : x5_2 < (t105.size : Int) := of_decide_eq_true As_; have hx17 := bt_at t105 x5_2; replace p17 := eq_true p17; replace q17 := eq_true q17) | ((with_reducible refine gate_callee (f := 184) rfl ?_); refine goesL_ (some 34) rfl rfl Tryz.func184 (by kernel_rfl) rfl #[.string a0] rfl Ga_ ?_; (with_reducible refine (reredosref01_low.calls a0 false _ A18.out).mono ?_); rintro e w' ⟨rfl, ⟨nd, rfl⟩⟩; refine ⟨_, rfl, ?_⟩))
                    go_roundg k2
                    case measure => have := HJ1.out; have := HK2.out; omega
                    case rel => exact ⟨(wrap64 ((wrap64 (10 * x4_2)) + (((bt t105 x5_2) - 48) % 256))), (wrap64 (x5_2 + 1)), Rf_, Rf_, H', ⟨by have := HJ1.out; have := HK2.out; omega⟩, ⟨Bl_⟩⟩
                · rw [if_neg c16] at H
                  exact absurd H (by simp)
              · rw [if_neg c15] at H
                exact absurd H (by simp)
            · rw [if_neg c13] at H
              have c13b0 : decide (x5_2 < (t104.size : Int)) = false := decide_eq_false c13
              clear c13
              simp only [Option.some.injEq, Prod.mk.injEq] at H
              obtain ⟨rfl, rfl⟩ := H
              go_wp2_with (first | ((with_reducible refine gate_callee (f := 183) rfl ?_); refine goesL_ (some 22) rfl rfl Tryz.func183 (by kernel_rfl) rfl #[.string a0] rfl Ga_ ?_; (with_reducible refine (reredosref01_size.calls a0 t104 _ A12.out).mono ?_); rintro e w' ⟨rfl, ⟨nd, rfl⟩⟩; refine ⟨_, rfl, ?_⟩))
              go_ret2
              exact ⟨Re_, Bl_⟩
/-! ### reredosref05_floor: function 185 -/
def reredosref05_floor.f (a0 : Int) : Option (Int) := if a0 < 0 then (if (Int.tmod a0 256) = 0 then (some (wrap64 (Int.tdiv a0 256))) else (some (wrap64 ((wrap64 (Int.tdiv a0 256)) - 1)))) else (some (wrap64 (Int.tdiv a0 256)))
set_option maxHeartbeats 8000000 in
set_option maxRecDepth 100000 in
theorem reredosref05_floor.calls (a0 : Int) (r : Int) (w : World) (h : reredosref05_floor.f a0 = some r) :
    Calls Tryz.prog 185 #[.int .i64 a0] w fun e w' => e = .returned (.int .i64 r) ∧ Drawn0 w w' := by
  have H : (if a0 < 0 then (if (Int.tmod a0 256) = 0 then (some (wrap64 (Int.tdiv a0 256))) else (some (wrap64 ((wrap64 (Int.tdiv a0 256)) - 1)))) else (some (wrap64 (Int.tdiv a0 256)))) = some r := h
  clear h
  by_cases c2 : a0 < 0
  · rw [if_pos c2] at H
    have c2b0 : decide (a0 < 0) = true := decide_eq_true c2
    clear c2
    by_cases c3 : (Int.tmod a0 256) = 0
    · rw [if_pos c3] at H
      have c3b0 : ((Int.tmod a0 256) == 0) = true := beq_iff_eq.mpr c3
      have c3b1 : ((Int.tmod a0 256) != 0) = false := bne_eq_false_iff_eq.mpr c3
      clear c3
      obtain rfl := Option.some.inj H
      go_enter Tryz.func185, Tryz.ntmps185
      go_wp2
      go_ret
      exact ⟨Rf_, Dw_⟩
    · rw [if_neg c3] at H
      have c3b0 : ((Int.tmod a0 256) == 0) = false := beq_eq_false_iff_ne.mpr c3
      have c3b1 : ((Int.tmod a0 256) != 0) = true := bne_iff_ne.mpr c3
      obtain rfl := Option.some.inj H
      go_enter Tryz.func185, Tryz.ntmps185
      go_wp2
      go_ret
      exact ⟨Rf_, Dw_⟩
  · rw [if_neg c2] at H
    have c2b0 : decide (a0 < 0) = false := decide_eq_false c2
    clear c2
    obtain rfl := Option.some.inj H
    go_enter Tryz.func185, Tryz.ntmps185
    go_wp2
    go_ret
    exact ⟨Rf_, Dw_⟩
/-! ### reredosref05_put: function 138 -/
def reredosref05_put.l0 : Nat → Int → Int → ByteArray → Int → Option (ByteArray)
  | 0, _, _, _, _ => none
  | k + 1, x0, x1, x5, x6 => if x6 < x1 then (if (Int.tmod x0 256) < 0 then ((some (([(wrap64 ((Int.tmod x0 256) + 256)) % 256] : List Int) : List Int)).bind fun y101 => (if (strOfNums y101).size + x5.size ≤ 9223372036854775807 then ((reredosref05_floor.f x0).bind fun t104 => (reredosref05_put.l0 k t104 x1 ((strOfNums y101) ++ x5) (wrap64 (x6 + 1)))) else (none))) else ((some (([(Int.tmod x0 256) % 256] : List Int) : List Int)).bind fun y105 => (if (strOfNums y105).size + x5.size ≤ 9223372036854775807 then ((reredosref05_floor.f x0).bind fun t108 => (reredosref05_put.l0 k t108 x1 ((strOfNums y105) ++ x5) (wrap64 (x6 + 1)))) else (none)))) else (some x5)
def reredosref05_put.f (k : Nat) (a0 : Int) (a1 : Int) : Option (ByteArray) := reredosref05_put.l0 k a0 a1 (⟨#[]⟩ : ByteArray) 0
set_option maxHeartbeats 8000000 in
set_option maxRecDepth 100000 in
theorem reredosref05_put.calls (k : Nat) (a0 : Int) (a1 : Int) (r : ByteArray) (w : World) (h : reredosref05_put.f k a0 a1 = some r) :
    Calls Tryz.prog 138 #[.int .i64 a0, .int .i64 a1] w fun e w' => e = .returned (.string r) ∧ Below w.heap.size w w' := by
  have HB := Aside0.mk (Below.refl w.heap.size w)
  have H : (reredosref05_put.l0 k a0 a1 (⟨#[]⟩ : ByteArray) 0) = some r := h
  clear h
  have H' := Aside0.mk H
  clear H
  go_enter Tryz.func138, Tryz.ntmps138
  go_wp2
  go_loopg [0, 5, 6] k (fun kq v0 v5 v6 w' => ∃ (x0_1 : Int) (x5_1 : ByteArray) (x6_1 : Int), v0 = .int .i64 x0_1 ∧ v5 = .string x5_1 ∧ v6 = .int .i64 x6_1 ∧ Aside0 (reredosref05_put.l0 kq x0_1 a1 x5_1 x6_1 = some r) ∧ Aside0 (kq ≤ k) ∧ Aside0 (Below w.heap.size w w'))
  case atStart => exact ⟨(a0), ((⟨#[]⟩ : ByteArray)), (0), Rf_, Rf_, Rf_, H', ⟨Nat.le_refl _⟩, ⟨Bl_⟩⟩
  case round =>
    clear H'
    try clear c1
    try clear p2
    obtain ⟨x0_1, x5_1, x6_1, rfl, rfl, rfl, HA, HK1, HB⟩ := hrel
    cases gk with
    | zero => exact absurd HA.out (by simp [reredosref05_put.l0])
    | succ k1 =>
      have H := HA.out
      clear HA
      simp only [reredosref05_put.l0] at H
      by_cases c3 : x6_1 < a1
      · rw [if_pos c3] at H
        have c3b0 : decide (x6_1 < a1) = true := decide_eq_true c3
        clear c3
        by_cases c4 : (Int.tmod x0_1 256) < 0
        · rw [if_pos c4] at H
          have c4b0 : decide ((Int.tmod x0_1 256) < 0) = true := decide_eq_true c4
          clear c4
          obtain ⟨y101, hy101⟩ : ∃ y_ : List Int, y_ = (([(wrap64 ((Int.tmod x0_1 256) + 256)) % 256] : List Int)) := ⟨_, rfl⟩
          replace H : (if (strOfNums y101).size + x5_1.size ≤ 9223372036854775807 then ((reredosref05_floor.f x0_1).bind fun t104 => (reredosref05_put.l0 k1 t104 a1 ((strOfNums y101) ++ x5_1) (wrap64 (x6_1 + 1)))) else (none)) = some r := by first | (rw [hy101]; with_reducible exact H) | (have H2_ := (Option.bind_some _ _).symm.trans H; rw [hy101]; with_reducible exact H2_) | (have H2_ := (Option.bind_some _ _).symm.trans H; with_reducible exact H2_) | with_reducible exact H | (rw [hy101]; exact H) | exact H
          have Ny101 := Aside0.mk hy101
          clear hy101
          by_cases c5 : (strOfNums y101).size + x5_1.size ≤ 9223372036854775807
          · rw [if_pos c5] at H
            have c5b0 := eq_true c5
            have c5b1 : decide ((strOfNums y101).size + x5_1.size ≤ 9223372036854775807) = true := decide_eq_true c5
            try have c5b2 : (9223372036854775807 < (strOfNums y101).size + x5_1.size) = False := eq_false (Nat.not_lt.2 c5)
            obtain ⟨t104, A6, H⟩ := bnd_ H
            try dsimp -simprocs only at H
            have H' := Aside0.mk H
            clear H
            go_wp2_with (first | ((with_reducible refine gate_dst (N := 21) rfl ?_); refine Kd.R_lit (Kd.int .u8) _ 5 ?hg (N := 21) ?hd (xs := ([(wrap64 ((Int.tmod x0_1 256) + 256)) % 256] : List Int)) (inner := [.int .u8 ((wrap64 ((Int.tmod x0_1 256) + 256)) % 256)]) (ok := fun _ => True) (okp := fun _ => True) ?hr ?hp (fun _ hk => hk) trivial (Below.refl _ _) (Nat.le_refl _) (by simp) ?_; (case hd => rfl); (case hg => rfl); (case hr => first | (go_simp; done) | (go_simp; rfl)); (case hp => exact (Reps.one (show Kd.M (Kd.int .u8) _ _ _ ((wrap64 ((Int.tmod x0_1 256) + 256)) % 256) [.int .u8 ((wrap64 ((Int.tmod x0_1 256) + 256)) % 256)] from rfl) (Reps.none _ _))); intro v102 w7 ho8 hb hg_ hnew_; clear hg_ hnew_; (first | rw [← Ny101.out] at ho8 | (simp only [Int.reduceToNat] at ho8; rw [← Ny101.out] at ho8)); have HO103 := Aside0.mk (Kd.R_lower ho8 Bz_); replace HB := Bs_ hb; clear hb ho8; have hcv9 := own_string (P := Tryz.prog) Tryz.underlying55 Tryz.underlying5 Tryz.underlying9 (Kd.own_of_R HO103.out)) | ((with_reducible refine gate_callee (f := 185) rfl ?_); refine goesL_ (some 26) rfl rfl Tryz.func185 (by kernel_rfl) rfl #[.int .i64 x0_1] rfl Ga_ ?_; (with_reducible refine (reredosref05_floor.calls x0_1 t104 _ A6.out).mono ?_); rintro e w' ⟨rfl, ⟨nd, rfl⟩⟩; refine ⟨_, rfl, ?_⟩))
            go_roundg k1
            case measure => have := HK1.out; omega
            case rel => exact ⟨(t104), ((strOfNums y101) ++ x5_1), (wrap64 (x6_1 + 1)), Rf_, Rf_, Rf_, H', ⟨by have := HK1.out; omega⟩, ⟨Bl_⟩⟩
          · rw [if_neg c5] at H
            exact absurd H (by simp)
        · rw [if_neg c4] at H
          have c4b0 : decide ((Int.tmod x0_1 256) < 0) = false := decide_eq_false c4
          clear c4
          obtain ⟨y105, hy105⟩ : ∃ y_ : List Int, y_ = (([(Int.tmod x0_1 256) % 256] : List Int)) := ⟨_, rfl⟩
          replace H : (if (strOfNums y105).size + x5_1.size ≤ 9223372036854775807 then ((reredosref05_floor.f x0_1).bind fun t108 => (reredosref05_put.l0 k1 t108 a1 ((strOfNums y105) ++ x5_1) (wrap64 (x6_1 + 1)))) else (none)) = some r := by first | (rw [hy105]; with_reducible exact H) | (have H2_ := (Option.bind_some _ _).symm.trans H; rw [hy105]; with_reducible exact H2_) | (have H2_ := (Option.bind_some _ _).symm.trans H; with_reducible exact H2_) | with_reducible exact H | (rw [hy105]; exact H) | exact H
          have Ny105 := Aside0.mk hy105
          clear hy105
          by_cases c10 : (strOfNums y105).size + x5_1.size ≤ 9223372036854775807
          · rw [if_pos c10] at H
            have c10b0 := eq_true c10
            have c10b1 : decide ((strOfNums y105).size + x5_1.size ≤ 9223372036854775807) = true := decide_eq_true c10
            try have c10b2 : (9223372036854775807 < (strOfNums y105).size + x5_1.size) = False := eq_false (Nat.not_lt.2 c10)
            obtain ⟨t108, A11, H⟩ := bnd_ H
            try dsimp -simprocs only at H
            have H' := Aside0.mk H
            clear H
            go_wp2_with (first | ((with_reducible refine gate_dst (N := 21) rfl ?_); refine Kd.R_lit (Kd.int .u8) _ 5 ?hg (N := 21) ?hd (xs := ([(Int.tmod x0_1 256) % 256] : List Int)) (inner := [.int .u8 ((Int.tmod x0_1 256) % 256)]) (ok := fun _ => True) (okp := fun _ => True) ?hr ?hp (fun _ hk => hk) trivial (Below.refl _ _) (Nat.le_refl _) (by simp) ?_; (case hd => rfl); (case hg => rfl); (case hr => first | (go_simp; done) | (go_simp; rfl)); (case hp => exact (Reps.one (show Kd.M (Kd.int .u8) _ _ _ ((Int.tmod x0_1 256) % 256) [.int .u8 ((Int.tmod x0_1 256) % 256)] from rfl) (Reps.none _ _))); intro v106 w12 ho13 hb hg_ hnew_; clear hg_ hnew_; (first | rw [← Ny105.out] at ho13 | (simp only [Int.reduceToNat] at ho13; rw [← Ny105.out] at ho13)); have HO107 := Aside0.mk (Kd.R_lower ho13 Bz_); replace HB := Bs_ hb; clear hb ho13; have hcv14 := own_string (P := Tryz.prog) Tryz.underlying55 Tryz.underlying5 Tryz.underlying9 (Kd.own_of_R HO107.out)) | ((with_reducible refine gate_callee (f := 185) rfl ?_); refine goesL_ (some 26) rfl rfl Tryz.func185 (by kernel_rfl) rfl #[.int .i64 x0_1] rfl Ga_ ?_; (with_reducible refine (reredosref05_floor.calls x0_1 t108 _ A11.out).mono ?_); rintro e w' ⟨rfl, ⟨nd, rfl⟩⟩; refine ⟨_, rfl, ?_⟩))
            go_roundg k1
            case measure => have := HK1.out; omega
            case rel => exact ⟨(t108), ((strOfNums y105) ++ x5_1), (wrap64 (x6_1 + 1)), Rf_, Rf_, Rf_, H', ⟨by have := HK1.out; omega⟩, ⟨Bl_⟩⟩
          · rw [if_neg c10] at H
            exact absurd H (by simp)
      · rw [if_neg c3] at H
        have c3b0 : decide (x6_1 < a1) = false := decide_eq_false c3
        clear c3
        obtain rfl := Option.some.inj H
        go_wp2
        go_ret
        exact ⟨Re_, Bl_⟩

end Go.Proofs.YtlemmdfjcnhjkaaGreatDoor.P
