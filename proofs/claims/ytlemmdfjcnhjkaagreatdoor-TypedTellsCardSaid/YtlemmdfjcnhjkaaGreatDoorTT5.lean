-- Written by drive.py of this claim's own session, by way of the kit's print. Lean checks it.
import Derived.Test.YtlemmdfjcnhjkaaGreatDoorTT1
import Derived.Test.YtlemmdfjcnhjkaaGreatDoorTT4
import Derived.Test.YtlemmdfjcnhjkaaGreatDoorTT3
import Derived.Test.YtlemmdfjcnhjkaaGreatDoorTT2
import Derived.RangeFuncNested
import Derived.RangeFuncBound
import Derived.RangeFuncCalls
import Derived.RangeFuncLeaves
import Derived.RangeFuncFrom
import Derived.Shelf.Abstract
import Derived.OwnWalkIn
import Derived.TacticsInMore
import Derived.LoopNIn
import Derived.LoopIn
import Derived.OrdersIn
namespace Go.Proofs.YtlemmdfjcnhjkaaGreatDoor.P
open Go.RowKit Go.Proofs.YtlemmdfjcnhjkaaGreatDoorW.PrintWords Go.Proofs.YtlemmdfjcnhjkaaGreatDoorW.PrintLast Go.Proofs.YtlemmdfjcnhjkaaGreatDoorW.PrintMore
attribute [local go_sem] max2_int min2_int max_two min_two max_three min_three max_four min_four   -- for this text's walks alone
set_option linter.unusedVariables false
set_option linter.unusedSimpArgs false

/-! ### reredosref05_lay: function 77 -/
def reredosref05_lay.l0 : Nat → Int → Int → List Int → List ByteArray → Int → List Int → ByteArray → Option (Int × List Int × ByteArray)
  | 0, _, _, _, _, _, _, _ => none
  | k + 1, x1, x6, x102000, x102001, x104000, x104001, x104002 => if x6 < (x102001.length : Int) then (if 0 ≤ x6 then ((reredosref01_Int.f k (rdOf ByteArray.empty x102001 x6)).bind fun bt105 => ((reredosref05_put.f k bt105.1 (wrap64 (Int.tdiv x1 8))).bind fun t107 => (if x104002.size + t107.size ≤ 9223372036854775807 then (reredosref05_lay.l0 k x1 (wrap64 (x6 + 1)) x102000 x102001 x104000 x104001 (x104002 ++ t107)) else (none)))) else (none)) else (some (x104000, x104001, x104002))
def reredosref05_lay.f (k : Nat) (l0_0 : List Int) (l0_1 : List ByteArray) (a1 : Int) : Option (Int × List Int × ByteArray) := reredosref05_lay.l0 k a1 0 l0_0 l0_1 a1 l0_0 (⟨#[]⟩ : ByteArray)
def reredosref05_lay.T6 : Bool × List (List Nat × List Nat) := (true, [([], []), ([0], [0]), ([], []), ([], []), ([3], [3]), ([2, 4], [2, 4]), ([1, 5], [1, 5]), ([0, 1, 2, 3, 4, 5, 6], []), ([7, 6, 5, 0, 1, 2, 3, 4, 5, 6], [6, 7])])
def reredosref05_lay.B6 : List Nat := [0, 1, 0, 0, 8, 28, 63, 127, 255]
theorem reredosref05_lay.tab6 : rtab .any (opsOf Tryz.f77 6) = reredosref05_lay.T6 := by kernel_rfl
theorem reredosref05_lay.bits6 : waitsOk reredosref05_lay.T6.2 reredosref05_lay.B6 = true := by kernel_rfl
set_option maxHeartbeats 8000000 in
set_option maxRecDepth 100000 in
theorem reredosref05_lay.calls (k : Nat) (P0_0_ : Nat → Prop) (A0_0 : Option Addr) (c0_0 : Nat) (l0_0 : List Int) (A0_1 : Option Addr) (c0_1 : Nat) (l0_1 : List ByteArray) (a1 : Int) (r1 : Int) (r2 : List Int) (r3 : ByteArray) (w : World) (hs0_0 : Kd.V (Kd.int .i64) 3 w w.heap.size (fun k_ => P0_0_ k_) (.slice A0_0 l0_0.length c0_0) l0_0) (hr0_1 : Kd.C Kd.string w A0_1 l0_1.length l0_1) (hc0_1 : l0_1.length ≤ c0_1) (h : reredosref05_lay.f k l0_0 l0_1 a1 = some (r1, r2, r3)) :
    Calls Tryz.prog 77 #[.agg #[.slice A0_0 l0_0.length c0_0, .slice A0_1 l0_1.length c0_1], .int .i64 a1] w fun e w' => ∃ v1_ : Value, e = .returned (.agg #[.int .i64 r1, v1_, .string r3]) ∧ Kd.V (Kd.int .i64) 3 w' w.heap.size (fun k_ => (P0_0_ k_ ∨ w.heap.size ≤ k_)) v1_ r2 ∧ Below w.heap.size w w' := by
  have hu34 := Tryz.underlying34
  have hu24 := Tryz.underlying24
  have HO0_0 := Aside0.mk (show Kd.V (Kd.int .i64) 3 w w.heap.size (fun k_ => (P0_0_ k_ ∨ w.heap.size ≤ k_)) (.slice A0_0 l0_0.length c0_0) l0_0 from Kd.V_mono hs0_0 (fun k_ hk => .inl hk))
  have HR0_1 := Aside0.mk hr0_1
  have HC0_1 := Aside0.mk hc0_1
  clear hr0_1 hc0_1
  have HB := Aside0.mk (Below.refl w.heap.size w)
  have H : (reredosref05_lay.l0 k a1 0 l0_0 l0_1 a1 l0_0 (⟨#[]⟩ : ByteArray)) = some (r1, r2, r3) := h
  clear h
  have H' := Aside0.mk H
  clear H
  go_enter Tryz.func77, Tryz.ntmps77
  go_wp2_with (first | ((with_reducible refine gate_dst (N := 2) rfl ?_); refine bx_ 2 #[.slice A0_0 l0_0.length c0_0, .slice A0_1 l0_1.length c0_1] 34 ?_; intro gb101 hg w3 hbox hb; replace HO0_0 := Aside0.mk (Kd.V_below (Kd.V_elderB (Pv_ HO0_0.out) gb101 (Nat.le_of_eq hg.symm)) hb); have BK101 := Aside0.mk (hbox); have GW101 := (Bg_ hg : Aside0 (w.heap.size ≤ gb101)); have GE101 := (Bg_ hg : Aside0 (w.heap.size ≤ gb101)); replace HB := Bs_ hb; clear hb hbox hg) | ((with_reducible refine gate_dst (N := 4) rfl ?_); refine bx_ 4 #[.int .i64 0, .slice none 0 0, .string (⟨#[]⟩ : ByteArray)] 24 ?_; intro gb102 hg w4 hbox hb; replace HO0_0 := Aside0.mk (Kd.V_below (Kd.V_elderB (Pv_ HO0_0.out) gb102 (Nat.le_of_eq hg.symm)) hb); have BK102 := Aside0.mk (hbox); have GW102 := (Bg_ hg : Aside0 (w.heap.size ≤ gb102)); have GE102 := (Bg_ hg : Aside0 (w.heap.size ≤ gb102)); replace HB := Bs_ hb; have NB101_102 := nl_ hg BK101; have NB102_101 := ng_ hg BK101; replace BK101 := kb_ BK101 hb; clear hb hbox hg; have hnb5 := NB101_102.out; have hnc5 := NB102_101.out; obtain ⟨hcz6_0, hcz6_1⟩ := c2_ BK101; obtain ⟨hfz6_0, hfz6_1⟩ := f2_ BK101) | ((with_reducible refine gate_dst (N := 5) rfl ?_); refine bx_ 5 #[.int .i64 0, .slice none 0 0, .string (⟨#[]⟩ : ByteArray)] 24 ?_; intro gb103 hg w7 hbox hb; replace HO0_0 := Aside0.mk (Kd.V_below (Kd.V_elderB (Pv_ HO0_0.out) gb103 (Nat.le_of_eq hg.symm)) hb); have BK103 := Aside0.mk (hbox); have GW103 := (Bg_ hg : Aside0 (w.heap.size ≤ gb103)); have GE103 := (Bg_ hg : Aside0 (w.heap.size ≤ gb103)); replace HB := Bs_ hb; have NB101_103 := nl_ hg BK101; have NB103_101 := ng_ hg BK101; replace BK101 := kb_ BK101 hb; have NB102_103 := nl_ hg BK102; have NB103_102 := ng_ hg BK102; replace BK102 := kb_ BK102 hb; clear hb hbox hg; have hnb8 := NB103_101.out; have hnc8 := NB101_103.out; have hnb9 := NB103_102.out; have hnc9 := NB102_103.out; obtain ⟨hcz10_0, hcz10_1, hcz10_2⟩ := c3_ BK103; obtain ⟨hfz10_0, hfz10_1, hfz10_2⟩ := f3_ BK103))
  go_loopg [6] k (fun kq v6 w' => ∃ (x6_1 : Int) (x104002_1 : ByteArray), v6 = .int .i64 x6_1 ∧ Aside0 (reredosref05_lay.l0 kq a1 x6_1 l0_0 l0_1 a1 l0_0 x104002_1 = some (r1, r2, r3)) ∧ Aside0 (kq ≤ k) ∧ Aside0 (Kd.V (Kd.int .i64) 3 w' w.heap.size (fun k_ => (P0_0_ k_ ∨ w.heap.size ≤ k_) ∧ k_ ≠ gb101 ∧ k_ ≠ gb102 ∧ k_ ≠ gb103) (.slice A0_0 l0_0.length c0_0) l0_0) ∧ Aside0 (Kd.V (Kd.int .i64) 3 w' w.heap.size (fun k_ => (P0_0_ k_ ∨ w.heap.size ≤ k_) ∧ k_ ≠ gb101 ∧ k_ ≠ gb102 ∧ k_ ≠ gb103) (.slice A0_0 l0_0.length c0_0) l0_0) ∧ Aside0 (w'.heap[gb101]? = some (.cells #[(.slice A0_0 l0_0.length c0_0), (.slice A0_1 l0_1.length c0_1)] 34 (0, 0))) ∧ Aside0 (w'.heap[gb102]? = some (.cells #[.int .i64 0, (.slice none 0 0), .string (⟨#[]⟩ : ByteArray)] 24 (0, 0))) ∧ Aside0 (w'.heap[gb103]? = some (.cells #[.int .i64 a1, (.slice A0_0 l0_0.length c0_0), .string x104002_1] 24 (0, 0))) ∧ Aside0 (Below w.heap.size w w'))
  case atStart => exact ⟨(0), ((⟨#[]⟩ : ByteArray)), Rf_, H', ⟨Nat.le_refl _⟩, ⟨by (with_reducible repeat (first | apply Kd.V_alloc | apply Kd.V_drewN | apply Kd.V_drew)); exact Kd.V_mono (Kd.V_far (p := ⟨gb103, 2, none⟩) (Kd.V_far (p := ⟨gb103, 1, none⟩) (Kd.V_far (p := ⟨gb103, 0, none⟩) (Kd.V_mono HO0_0.out (fun k_ hk => (⟨hk, hk.2⟩ : _ ∧ k_ ≠ gb103))) (fun _ hk => hk.2) (.int .i64 a1)) (fun _ hk => hk.2) (.slice A0_0 l0_0.length c0_0)) (fun _ hk => hk.2) (.string (⟨#[]⟩ : ByteArray))) (fun _ hk => ⟨hk.1.1.1.1, ⟨hk.1.1.1.2, ⟨hk.1.1.2, hk.1.2⟩⟩⟩)⟩, ⟨by (with_reducible repeat (first | apply Kd.V_alloc | apply Kd.V_drewN | apply Kd.V_drew)); exact Kd.V_mono (Kd.V_far (p := ⟨gb103, 2, none⟩) (Kd.V_far (p := ⟨gb103, 1, none⟩) (Kd.V_far (p := ⟨gb103, 0, none⟩) (Kd.V_mono HO0_0.out (fun k_ hk => (⟨hk, hk.2⟩ : _ ∧ k_ ≠ gb103))) (fun _ hk => hk.2) (.int .i64 a1)) (fun _ hk => hk.2) (.slice A0_0 l0_0.length c0_0)) (fun _ hk => hk.2) (.string (⟨#[]⟩ : ByteArray))) (fun _ hk => ⟨hk.1.1.1.1, ⟨hk.1.1.1.2, ⟨hk.1.1.2, hk.1.2⟩⟩⟩)⟩, ⟨by (with_reducible repeat (first | refine blk_drewN ?_ _ | refine blk_drew ?_ | refine blk_alloc ?_ _)); refine blk_far ?_ NB101_103.out _; (with_reducible repeat (first | refine blk_drewN ?_ _ | refine blk_drew ?_ | refine blk_alloc ?_ _)); refine blk_far ?_ NB101_103.out _; (with_reducible repeat (first | refine blk_drewN ?_ _ | refine blk_drew ?_ | refine blk_alloc ?_ _)); refine blk_far ?_ NB101_103.out _; (with_reducible repeat (first | refine blk_drewN ?_ _ | refine blk_drew ?_ | refine blk_alloc ?_ _)); exact BK101.out⟩, ⟨by (with_reducible repeat (first | refine blk_drewN ?_ _ | refine blk_drew ?_ | refine blk_alloc ?_ _)); refine blk_far ?_ NB102_103.out _; (with_reducible repeat (first | refine blk_drewN ?_ _ | refine blk_drew ?_ | refine blk_alloc ?_ _)); refine blk_far ?_ NB102_103.out _; (with_reducible repeat (first | refine blk_drewN ?_ _ | refine blk_drew ?_ | refine blk_alloc ?_ _)); refine blk_far ?_ NB102_103.out _; (with_reducible repeat (first | refine blk_drewN ?_ _ | refine blk_drew ?_ | refine blk_alloc ?_ _)); exact BK102.out⟩, ⟨by (with_reducible repeat (first | refine blk_drewN ?_ _ | refine blk_drew ?_ | refine blk_alloc ?_ _)); refine blk_put (cs := #[.int .i64 a1, .slice A0_0 l0_0.length c0_0, .string (⟨#[]⟩ : ByteArray)]) ?_ 2 _ rfl; (with_reducible repeat (first | refine blk_drewN ?_ _ | refine blk_drew ?_ | refine blk_alloc ?_ _)); refine blk_put (cs := #[.int .i64 a1, .slice none 0 0, .string (⟨#[]⟩ : ByteArray)]) ?_ 1 _ rfl; (with_reducible repeat (first | refine blk_drewN ?_ _ | refine blk_drew ?_ | refine blk_alloc ?_ _)); refine blk_put (cs := #[.int .i64 0, .slice none 0 0, .string (⟨#[]⟩ : ByteArray)]) ?_ 0 _ rfl; (with_reducible repeat (first | refine blk_drewN ?_ _ | refine blk_drew ?_ | refine blk_alloc ?_ _)); exact BK103.out⟩, ⟨Bl_⟩⟩
  case round =>
    clear H'
    try clear p2
    try clear c5
    try clear c7
    try clear c8
    try clear c9
    try clear hcz10_0
    try clear hcz10_1
    try clear hcz10_2
    try clear hcz6_0
    try clear hcz6_1
    try clear hfz10_0
    try clear hfz10_1
    try clear hfz10_2
    try clear hfz6_0
    try clear hfz6_1
    obtain ⟨x6_1, x104002_1, rfl, HA, HK1, HO_102000, HO_104001, BK101, BK102, BK103, HB⟩ := hrel
    cases gk with
    | zero => exact absurd HA.out (by simp [reredosref05_lay.l0])
    | succ k1 =>
      have H := HA.out
      clear HA
      simp only [reredosref05_lay.l0] at H
      by_cases c11 : x6_1 < (l0_1.length : Int)
      · rw [if_pos c11] at H
        have c11b0 : decide (x6_1 < (l0_1.length : Int)) = true := decide_eq_true c11
        clear c11
        by_cases c12 : 0 ≤ x6_1
        · rw [if_pos c12] at H
          have c12b0 : decide (0 ≤ x6_1) = true := decide_eq_true c12
          clear c12
          obtain ⟨⟨t105, t106⟩, A13, H⟩ := bnd_ H
          try dsimp -simprocs only at H
          obtain ⟨t107, A14, H⟩ := bnd_ H
          try dsimp -simprocs only at H
          by_cases c15 : x104002_1.size + t107.size ≤ 9223372036854775807
          · rw [if_pos c15] at H
            have c15b0 := eq_true c15
            have c15b1 : decide (x104002_1.size + t107.size ≤ 9223372036854775807) = true := decide_eq_true c15
            try have c15b2 : (9223372036854775807 < x104002_1.size + t107.size) = False := eq_false (Nat.not_lt.2 c15)
            have H' := Aside0.mk H
            clear H
            have hnb16 := NB101_102.out
            have hnc16 := NB102_101.out
            have hnb17 := NB101_103.out
            have hnc17 := NB103_101.out
            obtain ⟨hcz18_0, hcz18_1⟩ := c2_ BK101
            obtain ⟨hfz18_0, hfz18_1⟩ := f2_ BK101
            have p104 : 0 ≤ (x6_1 : Int) := of_decide_eq_true As_
            have q104 : x6_1 < (l0_1.length : Int) := of_decide_eq_true As_
            obtain ⟨ad104, e104, hx104_0⟩ := Kd.at_string HR0_1.out x6_1 p104 q104
            cases e104
            replace hx104_0 := (HB.out.cell (World.block_lt_of_cell? w _ hx104_0)).trans hx104_0
            replace p104 := eq_true p104
            replace q104 := eq_true q104
            try go_wp2_with (first | ((with_reducible refine gate_callee (f := 137) rfl ?_); refine goesL_ (some 26) rfl rfl Tryz.func137 (by kernel_rfl) rfl #[.string (rdOf ByteArray.empty l0_1 x6_1)] rfl Ga_ ?_; (with_reducible refine (reredosref01_Int.calls k1 (rdOf ByteArray.empty l0_1 x6_1) t105 t106 _ A13.out).mono ?_); rintro e w19 ⟨rfl, hb⟩; refine ⟨_, rfl, ?_⟩; replace HO_102000 := Aside0.mk (Kd.V_below (Pv_ HO_102000.out) hb); replace HO_104001 := Aside0.mk (Kd.V_below (Pv_ HO_104001.out) hb); replace BK101 := kb_ BK101 hb; replace BK102 := kb_ BK102 hb; replace BK103 := kb_ BK103 hb; replace HB := Bs_ hb; (try clear hb); (try clear hb2); (try clear hk); (try clear hi)))
            replace HO_102000 := Aside0.mk (Kd.V_drew HO_102000.out)
            replace HO_104001 := Aside0.mk (Kd.V_drew HO_104001.out)
            replace BK101 := Aside0.mk (blk_drew BK101.out)
            replace BK102 := Aside0.mk (blk_drew BK102.out)
            replace BK103 := Aside0.mk (blk_drew BK103.out)
            replace HB := Aside0.mk (below_drew1 HB.out)
            refine start_ (n := 9) (S := fun w' => w'.cell? ⟨gb103, 0, none⟩ = some (.int .i64 a1) ∧ w'.cell? ⟨gb103, 1, none⟩ = some (.slice A0_0 l0_0.length c0_0) ∧ w'.cell? ⟨gb103, 2, none⟩ = some (.string x104002_1)) (ds := [8]) #[false, false, false, false, false, false, false, false, false] (by kernel_rfl) rfl rfl ⟨(blk_cell BK103.out 0).trans rfl, (blk_cell BK103.out 1).trans rfl, (blk_cell BK103.out 2).trans rfl⟩ (fun hHeld => ?_); refine with_tabW reredosref05_lay.tab6 reredosref05_lay.bits6 (fun HT_ HW_ => ?_)
            generalize w19.drew = w20 at HO_102000 HO_104001 BK101 BK102 BK103 HB hHeld ⊢
            refine pu_ 0 (some 29) HT_ #[true, false, false, false, false, false, false, false, false] ?_
            refine pu_ 2 (some 31) HT_ #[true, false, true, false, false, false, false, false, false] ?_
            refine pu_ 3 (some 32) HT_ #[true, false, true, true, false, false, false, false, false] ?_
            refine pu_ 4 (some 33) HT_ #[true, false, true, true, true, false, false, false, false] ?_
            refine take_ (i := 1) (N := some 30) (v := ?_) (a' := ?_) #[true, true, true, true, true, false, false, false, false] rfl rfl (take_ofW HT_.out HW_.out (by kernel_rfl)) (fun _ _ _ h => h) (Or.inl ⟨by rfl, ?_⟩) hHeld ?_ ?_
            rotate_left
            · rintro w' ⟨s0, s1, s2⟩
              go_simp
              with_reducible rfl
            rotate_left
            · simp only [Act.put, List.setIfInBounds_toArray, List.set_cons_zero, List.set_cons_succ, i64_w, i32_w]
              rfl
            refine one_ (i := 5) (N := some 34) #[true, true, true, true, true, true, false, false, false] rfl rfl (one_of HT_.out (by kernel_rfl)) (by decide) (fun K hK => ?_)
            refine goes_ Tryz.func138 (by kernel_rfl) rfl #[.int .i64 t105, .int .i64 (wrap64 (Int.tdiv a1 8))] (by rfl) rfl rfl Ga_ ?_
            with_reducible refine (reredosref05_put.calls k1 t105 (wrap64 (Int.tdiv a1 8)) t107 _ A14.out).mono ?_
            rintro e w21 ⟨rfl, hb⟩
            refine ⟨_, rfl, ?_⟩
            replace HO_102000 := Aside0.mk (Kd.V_below (Pv_ HO_102000.out) hb)
            replace HO_104001 := Aside0.mk (Kd.V_below (Pv_ HO_104001.out) hb)
            replace BK101 := kb_ BK101 hb
            replace BK102 := kb_ BK102 hb
            replace BK103 := kb_ BK103 hb
            replace HB := Bs_ hb
            (try clear hb)
            (try clear hb2)
            (try clear hk)
            (try clear hi)
            refine hK.out _ _ ⟨(blk_cell BK103.out 0).trans rfl, (blk_cell BK103.out 1).trans rfl, (blk_cell BK103.out 2).trans rfl⟩ (fun hHeld => ?_)
            clear hK K
            refine norm_ (a' := ?_) ?_ ?_
            rotate_left
            · show Act.put _ (some 34) _ = _
              simp only [Act.put, List.setIfInBounds_toArray, List.set_cons_zero, List.set_cons_succ, i64_w, i32_w]
              rfl
            refine pu_ 6 (some 35) HT_ #[true, true, true, true, true, true, true, false, false] ?_
            refine pu_ 7 (some 36) HT_ #[true, true, true, true, true, true, true, true, false] ?_
            refine last_ (i := 8) (N := none) #[true, true, true, true, true, true, true, true, true] rfl rfl (one_of HT_.out (by kernel_rfl)) (by decide) (fun K hK => ?_)
            have hs22 : w21.cell? ⟨gb103, 2, none⟩ = some (.string x104002_1) := (blk_cell BK103.out 2).trans rfl
            have hfs22 := blk_frozen BK103.out 2
            have hns22_0 := NB101_103.out
            have hns22_1 := NB102_103.out
            have hms22_0 := NB103_101.out
            have hms22_1 := NB103_102.out
            refine skip_ (w1 := ?_) (by rfl) rfl ?_ ?_
            rotate_left
            · go_simp
              rfl
            refine hK.out _ _ ?_
            clear hK K
            refine done_ (done_of HT_.out (by kernel_rfl)) ?_
            try go_wp2
            go_roundg k1
            case measure => have := HK1.out; omega
            case rel => exact ⟨(wrap64 (x6_1 + 1)), (x104002_1 ++ t107), Rf_, H', ⟨by have := HK1.out; omega⟩, ⟨by (with_reducible repeat (first | apply Kd.V_alloc | apply Kd.V_drewN | apply Kd.V_drew)); exact Kd.V_mono (Kd.V_far (p := ⟨gb103, 2, none⟩) (Kd.V_mono HO_102000.out (fun k_ hk => (⟨hk, hk.2.2.2⟩ : _ ∧ k_ ≠ gb103))) (fun _ hk => hk.2) (.string (x104002_1 ++ t107))) (fun _ hk => ⟨hk.1.1, ⟨hk.1.2.1, ⟨hk.1.2.2.1, hk.1.2.2.2⟩⟩⟩)⟩, ⟨by (with_reducible repeat (first | apply Kd.V_alloc | apply Kd.V_drewN | apply Kd.V_drew)); exact Kd.V_mono (Kd.V_far (p := ⟨gb103, 2, none⟩) (Kd.V_mono HO_104001.out (fun k_ hk => (⟨hk, hk.2.2.2⟩ : _ ∧ k_ ≠ gb103))) (fun _ hk => hk.2) (.string (x104002_1 ++ t107))) (fun _ hk => ⟨hk.1.1, ⟨hk.1.2.1, ⟨hk.1.2.2.1, hk.1.2.2.2⟩⟩⟩)⟩, ⟨by (with_reducible repeat (first | refine blk_drewN ?_ _ | refine blk_drew ?_ | refine blk_alloc ?_ _)); refine blk_far ?_ NB101_103.out _; (with_reducible repeat (first | refine blk_drewN ?_ _ | refine blk_drew ?_ | refine blk_alloc ?_ _)); exact BK101.out⟩, ⟨by (with_reducible repeat (first | refine blk_drewN ?_ _ | refine blk_drew ?_ | refine blk_alloc ?_ _)); refine blk_far ?_ NB102_103.out _; (with_reducible repeat (first | refine blk_drewN ?_ _ | refine blk_drew ?_ | refine blk_alloc ?_ _)); exact BK102.out⟩, ⟨by (with_reducible repeat (first | refine blk_drewN ?_ _ | refine blk_drew ?_ | refine blk_alloc ?_ _)); refine blk_put (cs := #[.int .i64 a1, .slice A0_0 l0_0.length c0_0, .string x104002_1]) ?_ 2 _ rfl; (with_reducible repeat (first | refine blk_drewN ?_ _ | refine blk_drew ?_ | refine blk_alloc ?_ _)); exact BK103.out⟩, ⟨Bl_⟩⟩
          · rw [if_neg c15] at H
            exact absurd H (by simp)
        · rw [if_neg c12] at H
          exact absurd H (by simp)
      · rw [if_neg c11] at H
        have c11b0 : decide (x6_1 < (l0_1.length : Int)) = false := decide_eq_false c11
        clear c11
        simp only [Option.some.injEq, Prod.mk.injEq] at H
        obtain ⟨rfl, rfl, rfl⟩ := H
        have hnb23 := NB101_102.out
        have hnc23 := NB102_101.out
        have hnb24 := NB101_103.out
        have hnc24 := NB103_101.out
        obtain ⟨hcz25_0, hcz25_1⟩ := c2_ BK101
        obtain ⟨hfz25_0, hfz25_1⟩ := f2_ BK101
        have hnb26 := NB103_102.out
        have hnc26 := NB102_103.out
        obtain ⟨hcz27_0, hcz27_1, hcz27_2⟩ := c3_ BK103
        obtain ⟨hfz27_0, hfz27_1, hfz27_2⟩ := f3_ BK103
        obtain ⟨hcz28_0, hcz28_1, hcz28_2⟩ := c3_ BK102
        obtain ⟨hfz28_0, hfz28_1, hfz28_2⟩ := f3_ BK102
        go_wp2
        refine bodyPost_ret (results_cell_row rfl _ _ gb102 24 #[.int .i64 a1, .slice A0_0 l0_0.length c0_0, .string x104002_1] (0, 0) _ rfl (by (with_reducible repeat (first | refine blk_drewN ?_ _ | refine blk_drew ?_ | refine blk_alloc ?_ _)); refine blk_put (cs := #[.int .i64 a1, .slice A0_0 l0_0.length c0_0, .string (⟨#[]⟩ : ByteArray)]) ?_ 2 _ rfl; (with_reducible repeat (first | refine blk_drewN ?_ _ | refine blk_drew ?_ | refine blk_alloc ?_ _)); refine blk_put (cs := #[.int .i64 a1, .slice none 0 0, .string (⟨#[]⟩ : ByteArray)]) ?_ 1 _ rfl; (with_reducible repeat (first | refine blk_drewN ?_ _ | refine blk_drew ?_ | refine blk_alloc ?_ _)); refine blk_put (cs := #[.int .i64 0, .slice none 0 0, .string (⟨#[]⟩ : ByteArray)]) ?_ 0 _ rfl; (with_reducible repeat (first | refine blk_drewN ?_ _ | refine blk_drew ?_ | refine blk_alloc ?_ _)); exact BK102.out) Tryz.underlying24 rfl (by kernel_rfl)) rfl ?_
        exact ⟨_, Re_, by (with_reducible repeat (first | apply Kd.V_alloc | apply Kd.V_drewN | apply Kd.V_drew)); exact Kd.V_mono (Kd.V_far (p := ⟨gb102, 2, none⟩) (Kd.V_far (p := ⟨gb102, 1, none⟩) (Kd.V_far (p := ⟨gb102, 0, none⟩) (Kd.V_mono HO_104001.out (fun k_ hk => (⟨hk, hk.2.2.1⟩ : _ ∧ k_ ≠ gb102))) (fun _ hk => hk.2) (.int .i64 a1)) (fun _ hk => hk.2) (.slice A0_0 l0_0.length c0_0)) (fun _ hk => hk.2) (.string x104002_1)) (fun _ hk => hk.1.1), Bl_⟩
/-! ### reredosref05_To: function 18 -/
mutual
def reredosref05_To.j0 : Nat → Int → Bool → List Int → List ByteArray → Option (Int × List Int × ByteArray × Bool)
  | 0, _, _, _, _ => none
  | k + 1, x1, x20, x111000, x111001 => if x20 = true then (some (0, ([] : List Int), (⟨#[]⟩ : ByteArray), false)) else (reredosref05_To.l0 k x1 0 x111000 x111001)
def reredosref05_To.l0 : Nat → Int → Int → List Int → List ByteArray → Option (Int × List Int × ByteArray × Bool)
  | 0, _, _, _, _ => none
  | k + 1, x1, x8, x111000, x111001 => if x8 < (x111001.length : Int) then (if 0 ≤ x8 then ((reredosref02_In.f k (rdOf ByteArray.empty x111001 x8) x1).bind fun t113 => (if t113 = true then (reredosref05_To.l0 k x1 (wrap64 (x8 + 1)) x111000 x111001) else (some (0, ([] : List Int), (⟨#[]⟩ : ByteArray), false)))) else (none)) else ((reredosref05_lay.f k x111000 x111001 x1).bind fun bt114 => (some (bt114.1, bt114.2.1, bt114.2.2, true)))
end
def reredosref05_To.f (k : Nat) (a0_0 : Int) (l0_1 : List Int) (a0_2 : ByteArray) (a1 : Int) : Option (Int × List Int × ByteArray × Bool) := (reredosref05_Val.f k a0_0 l0_1 a0_2).bind fun bt103 => (if bt103.2.2 = true then ((reredosref05_known.f a1).bind fun t111 => (reredosref05_To.j0 k a1 (!t111) bt103.1 bt103.2.1)) else (reredosref05_To.j0 k a1 true bt103.1 bt103.2.1))
set_option maxHeartbeats 8000000 in
set_option maxRecDepth 100000 in
theorem reredosref05_To.calls (k : Nat) (a0_0 : Int) (P0_1_ : Nat → Prop) (A0_1 : Option Addr) (c0_1 : Nat) (l0_1 : List Int) (a0_2 : ByteArray) (a1 : Int) (r1 : Int) (r2 : List Int) (r3 : ByteArray) (r4 : Bool) (w : World) (hs0_1 : Kd.V (Kd.int .i64) 3 w w.heap.size (fun k_ => P0_1_ k_) (.slice A0_1 l0_1.length c0_1) l0_1) (h : reredosref05_To.f k a0_0 l0_1 a0_2 a1 = some (r1, r2, r3, r4)) :
    Calls Tryz.prog 18 #[.agg #[.int .i64 a0_0, .slice A0_1 l0_1.length c0_1, .string a0_2], .int .i64 a1] w fun e w' => ∃ v1_ : Value, e = .returned (.tuple #[.agg #[.int .i64 r1, v1_, .string r3], .bool r4]) ∧ Kd.V (Kd.int .i64) 3 w' w.heap.size (fun k_ => (P0_1_ k_ ∨ w.heap.size ≤ k_)) v1_ r2 ∧ Below w.heap.size w w' := by
  have hu24 := Tryz.underlying24
  have hu34 := Tryz.underlying34
  have HO0_1 := Aside0.mk (show Kd.V (Kd.int .i64) 3 w w.heap.size (fun k_ => (P0_1_ k_ ∨ w.heap.size ≤ k_)) (.slice A0_1 l0_1.length c0_1) l0_1 from Kd.V_mono hs0_1 (fun k_ hk => .inl hk))
  have HB := Aside0.mk (Below.refl w.heap.size w)
  have H : ((reredosref05_Val.f k a0_0 l0_1 a0_2).bind fun bt103 => (if bt103.2.2 = true then ((reredosref05_known.f a1).bind fun t111 => (reredosref05_To.j0 k a1 (!t111) bt103.1 bt103.2.1)) else (reredosref05_To.j0 k a1 true bt103.1 bt103.2.1))) = some (r1, r2, r3, r4) := h
  clear h
  obtain ⟨⟨t103, t106, t109⟩, A3, H⟩ := bnd_ H
  try dsimp -simprocs only at H
  have HC4 := Aside0.mk H
  clear H
  go_enter Tryz.func18, Tryz.ntmps18
  go_upto_region 2 with (first | ((with_reducible refine gate_dst (N := 2) rfl ?_); refine bx_ 2 #[.int .i64 a0_0, .slice A0_1 l0_1.length c0_1, .string a0_2] 24 ?_; intro gb101 hg w5 hbox hb; replace HO0_1 := Aside0.mk (Kd.V_below (Kd.V_elderB (Pv_ HO0_1.out) gb101 (Nat.le_of_eq hg.symm)) hb); have BK101 := Aside0.mk (hbox); have GW101 := (Bg_ hg : Aside0 (w.heap.size ≤ gb101)); have GE101 := (Bg_ hg : Aside0 (w.heap.size ≤ gb101)); replace HB := Bs_ hb; clear hb hbox hg) | ((with_reducible refine gate_dst (N := 4) rfl ?_); refine bx_ 4 #[.int .i64 0, .slice none 0 0, .string (⟨#[]⟩ : ByteArray)] 24 ?_; intro gb102 hg w6 hbox hb; replace HO0_1 := Aside0.mk (Kd.V_below (Kd.V_elderB (Pv_ HO0_1.out) gb102 (Nat.le_of_eq hg.symm)) hb); have BK102 := Aside0.mk (hbox); have GW102 := (Bg_ hg : Aside0 (w.heap.size ≤ gb102)); have GE102 := (Bg_ hg : Aside0 (w.heap.size ≤ gb102)); replace HB := Bs_ hb; have NB101_102 := nl_ hg BK101; have NB102_101 := ng_ hg BK101; replace BK101 := kb_ BK101 hb; clear hb hbox hg; have hnb7 := NB101_102.out; have hnc7 := NB102_101.out; obtain ⟨hcz8_0, hcz8_1, hcz8_2⟩ := c3_ BK101; obtain ⟨hfz8_0, hfz8_1, hfz8_2⟩ := f3_ BK101) | ((with_reducible refine gate_callee (f := 16) rfl ?_); refine goesL_ (some 11) rfl rfl Tryz.func16 (by kernel_rfl) rfl #[.agg #[.int .i64 a0_0, .slice A0_1 l0_1.length c0_1, .string a0_2]] rfl Ga_ ?_; (with_reducible refine (reredosref05_Val.calls k a0_0 (fun k_ => (((P0_1_ k_ ∨ w.heap.size ≤ k_) ∧ k_ ≠ gb101) ∧ k_ ≠ gb102)) _ _ l0_1 a0_2 t103 t106 t109 _ ?side1 A3.out).mono ?_); (case side1 => exact HO0_1.out); rintro e w9 ⟨v104, v107, rfl, ho0, ho1, hb⟩; refine ⟨_, rfl, ?_⟩; replace HO0_1 := Aside0.mk (Kd.V_elder' (Pv_ HO0_1.out) (Kd.R_base ho1) hb); have HO105 := Aside0.mk (Kd.V_lower (Kd.V_mono (ok' := fun k_ => (P0_1_ k_ ∨ w.heap.size ≤ k_) ∧ some k_ ≠ (v107 : Value).ownBlock ∧ k_ ≠ gb101 ∧ k_ ≠ gb102) ho0 (fun k_ hk_ => ⟨Or.elim hk_.1 (fun hs_ => hs_.1.1) (fun hn_ => (.inr (Nat.le_trans Bz_ hn_))), hk_.2, Or.elim hk_.1 (fun hs_ => hs_.1.2) (fun hn_ => (Kd.freshB (g := gb101) (o := .cells #[.int .i64 a0_0, .slice A0_1 l0_1.length c0_1, .string a0_2] 24 (0, 0)) (Bk_ BK101.out) k_ hn_)), Or.elim hk_.1 (fun hs_ => hs_.2) (fun hn_ => (Kd.freshB (g := gb102) (o := .cells #[.int .i64 0, .slice none 0 0, .string (⟨#[]⟩ : ByteArray)] 24 (0, 0)) (Bk_ BK102.out) k_ hn_))⟩)) Bz_); have HO108 := Aside0.mk (Kd.R_lower (Kd.R_newM (M := fun k_ => (w.heap.size ≤ k_)) (Kd.R_mono (ok' := fun k_ => True) ho1 (fun _ hk_ => trivial)) Bz_ (fun k_ h_ => h_)) Bz_); replace BK101 := kb_ BK101 hb; replace BK102 := kb_ BK102 hb; replace HB := Bs_ hb; (try clear hb); (try clear hb2); (try clear hk); (try clear hi); (try clear ho0); (try clear ho1)) | ((with_reducible refine gate_dst (N := 6) rfl ?_); refine bx_ 6 #[.slice none 0 0, .slice none 0 0] 34 ?_; intro gb110 hg w10 hbox hb; replace HO0_1 := Aside0.mk (Kd.V_below (Kd.V_elderB (Pv_ HO0_1.out) gb110 (Nat.le_of_eq hg.symm)) hb); replace HO105 := Aside0.mk (Kd.V_below (Kd.V_elderB (Pv_ HO105.out) gb110 (Nat.le_of_eq hg.symm)) hb); replace HO108 := Aside0.mk (Kd.R_below (Pr_ HO108.out) hb); have BK110 := Aside0.mk (hbox); have GW110 := (Bg_ hg : Aside0 (w.heap.size ≤ gb110)); have GE110 := (Bg_ hg : Aside0 (w.heap.size ≤ gb110)); replace HB := Bs_ hb; have NB101_110 := nl_ hg BK101; have NB110_101 := ng_ hg BK101; replace BK101 := kb_ BK101 hb; have NB102_110 := nl_ hg BK102; have NB110_102 := ng_ hg BK102; replace BK102 := kb_ BK102 hb; clear hb hbox hg; obtain ⟨Ao11, co11, eo11⟩ := Kd.V_slice HO105.out; subst eo11; have hnb12 := NB110_101.out; have hnc12 := NB101_110.out; have hnb13 := NB110_102.out; have hnc13 := NB102_110.out; obtain ⟨hcz14_0, hcz14_1⟩ := c2_ BK110; obtain ⟨hfz14_0, hfz14_1⟩ := f2_ BK110; obtain ⟨Ao15, co15, eo15⟩ := Kd.R_slice HO108.out; subst eo15))
  (try simp only [Act.put, List.setIfInBounds_toArray, List.set_cons_zero, List.set_cons_succ])
  go_cut [20] (fun v20 wc => ∃ (kq : Nat) (x20_3 : Bool), v20 = .bool x20_3 ∧ Aside0 (reredosref05_To.j0 kq a1 x20_3 t103 t106 = some (r1, r2, r3, r4)) ∧ Aside0 (kq ≤ k) ∧ Aside0 (Kd.V (Kd.int .i64) 3 wc w.heap.size (fun k_ => (P0_1_ k_ ∨ w.heap.size ≤ k_) ∧ some k_ ≠ ((.slice Ao15 t106.length co15) : Value).ownBlock ∧ k_ ≠ gb101 ∧ k_ ≠ gb102 ∧ k_ ≠ gb110) (.slice A0_1 l0_1.length c0_1) l0_1) ∧ Aside0 (Kd.V (Kd.int .i64) 3 wc w.heap.size (fun k_ => (P0_1_ k_ ∨ w.heap.size ≤ k_) ∧ some k_ ≠ ((.slice Ao15 t106.length co15) : Value).ownBlock ∧ k_ ≠ gb101 ∧ k_ ≠ gb102 ∧ k_ ≠ gb110) (.slice Ao11 t103.length co11) t103) ∧ Aside0 (Kd.R Kd.string 9 wc w.heap.size (fun k_ => (w.heap.size ≤ k_)) (.slice Ao15 t106.length co15) t106) ∧ Aside0 (wc.heap[gb101]? = some (.cells #[.int .i64 a0_0, (.slice A0_1 l0_1.length c0_1), .string a0_2] 24 (0, 0))) ∧ Aside0 (wc.heap[gb102]? = some (.cells #[.int .i64 0, (.slice none 0 0), .string (⟨#[]⟩ : ByteArray)] 24 (0, 0))) ∧ Aside0 (wc.heap[gb110]? = some (.cells #[(.slice Ao11 t103.length co11), (.slice Ao15 t106.length co15)] 34 (0, 0))) ∧ Aside0 (Below w.heap.size w wc))
  case first =>
    have H := HC4.out
    clear HC4
    by_cases c16 : t109 = true
    · subst c16
      have H1 : ((reredosref05_known.f a1).bind fun t111 => (reredosref05_To.j0 k a1 (!t111) t103 t106)) = some (r1, r2, r3, r4) := by rw [if_pos rfl] at H; exact H
      clear H
      have H := H1
      clear H1
      obtain ⟨t111, A17, H⟩ := bnd_ H
      try dsimp -simprocs only at H
      have H' := Aside0.mk H
      clear H
      go_wp2_with (first | (go_at_call 75; (with_reducible refine (reredosref05_known.calls a1 t111 _ A17.out).mono ?_); rintro e w' ⟨rfl, ⟨nd, rfl⟩⟩))
      go_meet
      case rel => exact ⟨_, (!t111), Rf_, H', ⟨by first | omega | exact Nat.le_refl _⟩, ⟨by (with_reducible repeat (first | apply Kd.V_alloc | apply Kd.V_drewN | apply Kd.V_drew)); exact Kd.V_mono (Kd.V_far (p := ⟨gb110, 1, none⟩) (Kd.V_far (p := ⟨gb110, 0, none⟩) (Kd.V_mono HO0_1.out (fun k_ hk => (⟨hk, hk.2⟩ : _ ∧ k_ ≠ gb110))) (fun _ hk => hk.2) (.slice Ao11 t103.length co11)) (fun _ hk => hk.2) (.slice Ao15 t106.length co15)) (fun _ hk => ⟨hk.1.1.1.1.1, ⟨hk.1.1.2, ⟨hk.1.1.1.1.2, ⟨hk.1.1.1.2, hk.1.2⟩⟩⟩⟩)⟩, ⟨by (with_reducible repeat (first | apply Kd.V_alloc | apply Kd.V_drewN | apply Kd.V_drew)); exact Kd.V_mono (Kd.V_far (p := ⟨gb110, 1, none⟩) (Kd.V_far (p := ⟨gb110, 0, none⟩) (Kd.V_mono HO105.out (fun k_ hk => (⟨hk, hk.2⟩ : _ ∧ k_ ≠ gb110))) (fun _ hk => hk.2) (.slice Ao11 t103.length co11)) (fun _ hk => hk.2) (.slice Ao15 t106.length co15)) (fun _ hk => ⟨hk.1.1.1, ⟨hk.1.1.2.1, ⟨hk.1.1.2.2.1, ⟨hk.1.1.2.2.2, hk.1.2⟩⟩⟩⟩)⟩, ⟨by (with_reducible repeat (first | apply Kd.R_alloc | apply Kd.R_drewN | apply Kd.R_drew)); exact Kd.R_mono (Kd.R_far (p := ⟨gb110, 1, none⟩) (Kd.R_far (p := ⟨gb110, 0, none⟩) (Kd.R_types HO108.out BK110.out (by decide)) (fun _ hk => hk.2) (.slice Ao11 t103.length co11)) (fun _ hk => hk.2) (.slice Ao15 t106.length co15)) (fun _ hk => hk.1.1)⟩, ⟨by (with_reducible repeat (first | refine blk_drewN ?_ _ | refine blk_drew ?_ | refine blk_alloc ?_ _)); refine blk_far ?_ NB101_110.out _; (with_reducible repeat (first | refine blk_drewN ?_ _ | refine blk_drew ?_ | refine blk_alloc ?_ _)); refine blk_far ?_ NB101_110.out _; (with_reducible repeat (first | refine blk_drewN ?_ _ | refine blk_drew ?_ | refine blk_alloc ?_ _)); exact BK101.out⟩, ⟨by (with_reducible repeat (first | refine blk_drewN ?_ _ | refine blk_drew ?_ | refine blk_alloc ?_ _)); refine blk_far ?_ NB102_110.out _; (with_reducible repeat (first | refine blk_drewN ?_ _ | refine blk_drew ?_ | refine blk_alloc ?_ _)); refine blk_far ?_ NB102_110.out _; (with_reducible repeat (first | refine blk_drewN ?_ _ | refine blk_drew ?_ | refine blk_alloc ?_ _)); exact BK102.out⟩, ⟨by (with_reducible repeat (first | refine blk_drewN ?_ _ | refine blk_drew ?_ | refine blk_alloc ?_ _)); refine blk_put (cs := #[.slice Ao11 t103.length co11, .slice none 0 0]) ?_ 1 _ rfl; (with_reducible repeat (first | refine blk_drewN ?_ _ | refine blk_drew ?_ | refine blk_alloc ?_ _)); refine blk_put (cs := #[.slice none 0 0, .slice none 0 0]) ?_ 0 _ rfl; (with_reducible repeat (first | refine blk_drewN ?_ _ | refine blk_drew ?_ | refine blk_alloc ?_ _)); exact BK110.out⟩, ⟨Bl_⟩⟩
    · replace c16 := Bool.eq_false_iff.mpr c16
      subst c16
      have H1 : (reredosref05_To.j0 k a1 true t103 t106) = some (r1, r2, r3, r4) := by rw [if_neg (show ¬ (false = true) by decide)] at H; exact H
      clear H
      have H := H1
      clear H1
      have H' := Aside0.mk H
      clear H
      go_wp2
      go_meet
      case rel => exact ⟨_, (true), Rf_, H', ⟨by first | omega | exact Nat.le_refl _⟩, ⟨by (with_reducible repeat (first | apply Kd.V_alloc | apply Kd.V_drewN | apply Kd.V_drew)); exact Kd.V_mono (Kd.V_far (p := ⟨gb110, 1, none⟩) (Kd.V_far (p := ⟨gb110, 0, none⟩) (Kd.V_mono HO0_1.out (fun k_ hk => (⟨hk, hk.2⟩ : _ ∧ k_ ≠ gb110))) (fun _ hk => hk.2) (.slice Ao11 t103.length co11)) (fun _ hk => hk.2) (.slice Ao15 t106.length co15)) (fun _ hk => ⟨hk.1.1.1.1.1, ⟨hk.1.1.2, ⟨hk.1.1.1.1.2, ⟨hk.1.1.1.2, hk.1.2⟩⟩⟩⟩)⟩, ⟨by (with_reducible repeat (first | apply Kd.V_alloc | apply Kd.V_drewN | apply Kd.V_drew)); exact Kd.V_mono (Kd.V_far (p := ⟨gb110, 1, none⟩) (Kd.V_far (p := ⟨gb110, 0, none⟩) (Kd.V_mono HO105.out (fun k_ hk => (⟨hk, hk.2⟩ : _ ∧ k_ ≠ gb110))) (fun _ hk => hk.2) (.slice Ao11 t103.length co11)) (fun _ hk => hk.2) (.slice Ao15 t106.length co15)) (fun _ hk => ⟨hk.1.1.1, ⟨hk.1.1.2.1, ⟨hk.1.1.2.2.1, ⟨hk.1.1.2.2.2, hk.1.2⟩⟩⟩⟩)⟩, ⟨by (with_reducible repeat (first | apply Kd.R_alloc | apply Kd.R_drewN | apply Kd.R_drew)); exact Kd.R_mono (Kd.R_far (p := ⟨gb110, 1, none⟩) (Kd.R_far (p := ⟨gb110, 0, none⟩) (Kd.R_types HO108.out BK110.out (by decide)) (fun _ hk => hk.2) (.slice Ao11 t103.length co11)) (fun _ hk => hk.2) (.slice Ao15 t106.length co15)) (fun _ hk => hk.1.1)⟩, ⟨by (with_reducible repeat (first | refine blk_drewN ?_ _ | refine blk_drew ?_ | refine blk_alloc ?_ _)); refine blk_far ?_ NB101_110.out _; (with_reducible repeat (first | refine blk_drewN ?_ _ | refine blk_drew ?_ | refine blk_alloc ?_ _)); refine blk_far ?_ NB101_110.out _; (with_reducible repeat (first | refine blk_drewN ?_ _ | refine blk_drew ?_ | refine blk_alloc ?_ _)); exact BK101.out⟩, ⟨by (with_reducible repeat (first | refine blk_drewN ?_ _ | refine blk_drew ?_ | refine blk_alloc ?_ _)); refine blk_far ?_ NB102_110.out _; (with_reducible repeat (first | refine blk_drewN ?_ _ | refine blk_drew ?_ | refine blk_alloc ?_ _)); refine blk_far ?_ NB102_110.out _; (with_reducible repeat (first | refine blk_drewN ?_ _ | refine blk_drew ?_ | refine blk_alloc ?_ _)); exact BK102.out⟩, ⟨by (with_reducible repeat (first | refine blk_drewN ?_ _ | refine blk_drew ?_ | refine blk_alloc ?_ _)); refine blk_put (cs := #[.slice Ao11 t103.length co11, .slice none 0 0]) ?_ 1 _ rfl; (with_reducible repeat (first | refine blk_drewN ?_ _ | refine blk_drew ?_ | refine blk_alloc ?_ _)); refine blk_put (cs := #[.slice none 0 0, .slice none 0 0]) ?_ 0 _ rfl; (with_reducible repeat (first | refine blk_drewN ?_ _ | refine blk_drew ?_ | refine blk_alloc ?_ _)); exact BK110.out⟩, ⟨Bl_⟩⟩
  case rest =>
    clear HC4
    try clear c1
    try clear p2
    try clear c7
    try clear c12
    try clear c13
    try clear c16
    try clear hcz14_0
    try clear hcz14_1
    try clear hcz8_0
    try clear hcz8_1
    try clear hcz8_2
    try clear hfz14_0
    try clear hfz14_1
    try clear hfz8_0
    try clear hfz8_1
    try clear hfz8_2
    obtain ⟨kq, x20_3, rfl, HA, HJ3, HO_102001, HO_111000, HO_111001, BK101, BK102, BK110, HB⟩ := hcut
    cases kq with
    | zero => exact absurd HA.out (by simp [reredosref05_To.j0])
    | succ kj3 =>
      have H := HA.out
      clear HA
      simp only [reredosref05_To.j0] at H
      by_cases c18 : x20_3 = true
      · subst c18
        have H1 : (some (0, ([] : List Int), (⟨#[]⟩ : ByteArray), false)) = some (r1, r2, r3, r4) := by rw [if_pos rfl] at H; exact H
        clear H
        have H := H1
        clear H1
        simp only [Option.some.injEq, Prod.mk.injEq] at H
        obtain ⟨rfl, rfl, rfl, rfl⟩ := H
        have hnb19 := NB102_101.out
        have hnc19 := NB101_102.out
        have hnb20 := NB102_110.out
        have hnc20 := NB110_102.out
        obtain ⟨hcz21_0, hcz21_1, hcz21_2⟩ := c3_ BK102
        obtain ⟨hfz21_0, hfz21_1, hfz21_2⟩ := f3_ BK102
        go_wp2
        refine bodyPost_ret (results_ct rfl _ _ gb102 24 #[.int .i64 0, .slice none 0 0, .string (⟨#[]⟩ : ByteArray)] (0, 0) _ rfl (by (with_reducible repeat (first | refine blk_drewN ?_ _ | refine blk_drew ?_ | refine blk_alloc ?_ _)); refine blk_put (cs := #[.int .i64 0, .slice none 0 0, .string (⟨#[]⟩ : ByteArray)]) ?_ 2 _ rfl; (with_reducible repeat (first | refine blk_drewN ?_ _ | refine blk_drew ?_ | refine blk_alloc ?_ _)); refine blk_put (cs := #[.int .i64 0, .slice none 0 0, .string (⟨#[]⟩ : ByteArray)]) ?_ 1 _ rfl; (with_reducible repeat (first | refine blk_drewN ?_ _ | refine blk_drew ?_ | refine blk_alloc ?_ _)); refine blk_put (cs := #[.int .i64 0, .slice none 0 0, .string (⟨#[]⟩ : ByteArray)]) ?_ 0 _ rfl; (with_reducible repeat (first | refine blk_drewN ?_ _ | refine blk_drew ?_ | refine blk_alloc ?_ _)); exact BK102.out) Tryz.underlying24 rfl (by kernel_rfl)) rfl ?_
        exact ⟨_, Re_, (Kd.V_nil _ _ _ _ _), Bl_⟩
      · replace c18 := Bool.eq_false_iff.mpr c18
        subst c18
        have H1 : (reredosref05_To.l0 kj3 a1 0 t103 t106) = some (r1, r2, r3, r4) := by rw [if_neg (show ¬ (false = true) by decide)] at H; exact H
        clear H
        have H := H1
        clear H1
        have H' := Aside0.mk H
        clear H
        go_wp2
        go_loopg [8] kj3 (fun kq v8 w' => ∃ (x8_2 : Int) (x103000_2 : Int) (x103002_2 : ByteArray), v8 = .int .i64 x8_2 ∧ Aside0 (reredosref05_To.l0 kq a1 x8_2 t103 t106 = some (r1, r2, r3, r4)) ∧ Aside0 (kq ≤ kj3) ∧ Aside0 (Kd.V (Kd.int .i64) 3 w' w.heap.size (fun k_ => (P0_1_ k_ ∨ w.heap.size ≤ k_) ∧ some k_ ≠ ((.slice Ao15 t106.length co15) : Value).ownBlock ∧ k_ ≠ gb101 ∧ k_ ≠ gb102 ∧ k_ ≠ gb110) (.slice A0_1 l0_1.length c0_1) l0_1) ∧ Aside0 (Kd.V (Kd.int .i64) 3 w' w.heap.size (fun k_ => (P0_1_ k_ ∨ w.heap.size ≤ k_) ∧ some k_ ≠ ((.slice Ao15 t106.length co15) : Value).ownBlock ∧ k_ ≠ gb101 ∧ k_ ≠ gb102 ∧ k_ ≠ gb110) (.slice Ao11 t103.length co11) t103) ∧ Aside0 (Kd.R Kd.string 9 w' w.heap.size (fun k_ => (w.heap.size ≤ k_)) (.slice Ao15 t106.length co15) t106) ∧ Aside0 (w'.heap[gb101]? = some (.cells #[.int .i64 a0_0, (.slice A0_1 l0_1.length c0_1), .string a0_2] 24 (0, 0))) ∧ Aside0 (w'.heap[gb102]? = some (.cells #[.int .i64 x103000_2, (.slice none 0 0), .string x103002_2] 24 (0, 0))) ∧ Aside0 (w'.heap[gb110]? = some (.cells #[(.slice Ao11 t103.length co11), (.slice Ao15 t106.length co15)] 34 (0, 0))) ∧ Aside0 (Below w.heap.size w w'))
        case atStart => exact ⟨(0), (0), ((⟨#[]⟩ : ByteArray)), Rf_, H', ⟨Nat.le_refl _⟩, ⟨by (with_reducible repeat (first | apply Kd.V_alloc | apply Kd.V_drewN | apply Kd.V_drew)); exact HO_102001.out⟩, ⟨by (with_reducible repeat (first | apply Kd.V_alloc | apply Kd.V_drewN | apply Kd.V_drew)); exact HO_111000.out⟩, ⟨by (with_reducible repeat (first | apply Kd.R_alloc | apply Kd.R_drewN | apply Kd.R_drew)); exact HO_111001.out⟩, ⟨by (with_reducible repeat (first | refine blk_drewN ?_ _ | refine blk_drew ?_ | refine blk_alloc ?_ _)); exact BK101.out⟩, ⟨by (with_reducible repeat (first | refine blk_drewN ?_ _ | refine blk_drew ?_ | refine blk_alloc ?_ _)); exact BK102.out⟩, ⟨by (with_reducible repeat (first | refine blk_drewN ?_ _ | refine blk_drew ?_ | refine blk_alloc ?_ _)); exact BK110.out⟩, ⟨Bl_⟩⟩
        case round =>
          clear H'
          try clear c1
          try clear c2
          try clear p2
          try clear c7
          try clear c12
          try clear c13
          try clear c16
          try clear c18
          try clear c19
          try clear c20
          try clear hcz14_0
          try clear hcz14_1
          try clear hcz21_0
          try clear hcz21_1
          try clear hcz21_2
          try clear hcz8_0
          try clear hcz8_1
          try clear hcz8_2
          try clear hfz14_0
          try clear hfz14_1
          try clear hfz21_0
          try clear hfz21_1
          try clear hfz21_2
          try clear hfz8_0
          try clear hfz8_1
          try clear hfz8_2
          try clear p2
          obtain ⟨x8_2, x103000_2, x103002_2, rfl, HA, HK2, HO_102001, HO_111000, HO_111001, BK101, BK102, BK110, HB⟩ := hrel
          cases gk with
          | zero => exact absurd HA.out (by simp [reredosref05_To.l0])
          | succ k2 =>
            have H := HA.out
            clear HA
            simp only [reredosref05_To.l0] at H
            by_cases c22 : x8_2 < (t106.length : Int)
            · rw [if_pos c22] at H
              have c22b0 : decide (x8_2 < (t106.length : Int)) = true := decide_eq_true c22
              clear c22
              by_cases c23 : 0 ≤ x8_2
              · rw [if_pos c23] at H
                have c23b0 : decide (0 ≤ x8_2) = true := decide_eq_true c23
                clear c23
                obtain ⟨t113, A24, H⟩ := bnd_ H
                try dsimp -simprocs only at H
                by_cases c25 : t113 = true
                · subst c25
                  have H1 : (reredosref05_To.l0 k2 a1 (wrap64 (x8_2 + 1)) t103 t106) = some (r1, r2, r3, r4) := by rw [if_pos rfl] at H; exact H
                  clear H
                  have H := H1
                  clear H1
                  have H' := Aside0.mk H
                  clear H
                  have hnb26 := NB110_101.out
                  have hnc26 := NB101_110.out
                  have hnb27 := NB110_102.out
                  have hnc27 := NB102_110.out
                  obtain ⟨hcz28_0, hcz28_1⟩ := c2_ BK110
                  obtain ⟨hfz28_0, hfz28_1⟩ := f2_ BK110
                  have p112 : 0 ≤ (x8_2 : Int) := of_decide_eq_true As_
                  have q112 : x8_2 < (t106.length : Int) := of_decide_eq_true As_
                  obtain ⟨ad112, e112, hx112_0⟩ := Kd.at_string (Kd.R_reads' HO_111001.out).2.2 x8_2 p112 q112
                  cases e112
                  replace p112 := eq_true p112
                  replace q112 := eq_true q112
                  go_wp2_with (first | ((with_reducible refine gate_callee (f := 76) rfl ?_); refine goesL_ (some 35) rfl rfl Tryz.func76 (by kernel_rfl) rfl #[.string (rdOf ByteArray.empty t106 x8_2), .int .i64 a1] rfl Ga_ ?_; (with_reducible refine (reredosref02_In.calls k2 (rdOf ByteArray.empty t106 x8_2) a1 true _ A24.out).mono ?_); rintro e w29 ⟨rfl, hb⟩; refine ⟨_, rfl, ?_⟩; replace HO_102001 := Aside0.mk (Kd.V_below (Pv_ HO_102001.out) hb); replace HO_111000 := Aside0.mk (Kd.V_below (Pv_ HO_111000.out) hb); replace HO_111001 := Aside0.mk (Kd.R_below (Pr_ HO_111001.out) hb); replace BK101 := kb_ BK101 hb; replace BK102 := kb_ BK102 hb; replace BK110 := kb_ BK110 hb; replace HB := Bs_ hb; (try clear hb); (try clear hb2); (try clear hk); (try clear hi)))
                  go_roundg k2
                  case measure => have := HJ3.out; have := HK2.out; omega
                  case rel => exact ⟨(wrap64 (x8_2 + 1)), (x103000_2), (x103002_2), Rf_, H', ⟨by have := HJ3.out; have := HK2.out; omega⟩, ⟨by (with_reducible repeat (first | apply Kd.V_alloc | apply Kd.V_drewN | apply Kd.V_drew)); exact HO_102001.out⟩, ⟨by (with_reducible repeat (first | apply Kd.V_alloc | apply Kd.V_drewN | apply Kd.V_drew)); exact HO_111000.out⟩, ⟨by (with_reducible repeat (first | apply Kd.R_alloc | apply Kd.R_drewN | apply Kd.R_drew)); exact HO_111001.out⟩, ⟨by (with_reducible repeat (first | refine blk_drewN ?_ _ | refine blk_drew ?_ | refine blk_alloc ?_ _)); exact BK101.out⟩, ⟨by (with_reducible repeat (first | refine blk_drewN ?_ _ | refine blk_drew ?_ | refine blk_alloc ?_ _)); exact BK102.out⟩, ⟨by (with_reducible repeat (first | refine blk_drewN ?_ _ | refine blk_drew ?_ | refine blk_alloc ?_ _)); exact BK110.out⟩, ⟨Bl_⟩⟩
                · replace c25 := Bool.eq_false_iff.mpr c25
                  subst c25
                  have H1 : (some (0, ([] : List Int), (⟨#[]⟩ : ByteArray), false)) = some (r1, r2, r3, r4) := by rw [if_neg (show ¬ (false = true) by decide)] at H; exact H
                  clear H
                  have H := H1
                  clear H1
                  simp only [Option.some.injEq, Prod.mk.injEq] at H
                  obtain ⟨rfl, rfl, rfl, rfl⟩ := H
                  have hnb30 := NB110_101.out
                  have hnc30 := NB101_110.out
                  have hnb31 := NB110_102.out
                  have hnc31 := NB102_110.out
                  obtain ⟨hcz32_0, hcz32_1⟩ := c2_ BK110
                  obtain ⟨hfz32_0, hfz32_1⟩ := f2_ BK110
                  have p112 : 0 ≤ (x8_2 : Int) := of_decide_eq_true As_
                  have q112 : x8_2 < (t106.length : Int) := of_decide_eq_true As_
                  obtain ⟨ad112, e112, hx112_0⟩ := Kd.at_string (Kd.R_reads' HO_111001.out).2.2 x8_2 p112 q112
                  cases e112
                  replace p112 := eq_true p112
                  replace q112 := eq_true q112
                  go_wp2_with (first | ((with_reducible refine gate_callee (f := 76) rfl ?_); refine goesL_ (some 35) rfl rfl Tryz.func76 (by kernel_rfl) rfl #[.string (rdOf ByteArray.empty t106 x8_2), .int .i64 a1] rfl Ga_ ?_; (with_reducible refine (reredosref02_In.calls k2 (rdOf ByteArray.empty t106 x8_2) a1 false _ A24.out).mono ?_); rintro e w33 ⟨rfl, hb⟩; refine ⟨_, rfl, ?_⟩; replace HO_102001 := Aside0.mk (Kd.V_below (Pv_ HO_102001.out) hb); replace HO_111000 := Aside0.mk (Kd.V_below (Pv_ HO_111000.out) hb); replace HO_111001 := Aside0.mk (Kd.R_below (Pr_ HO_111001.out) hb); replace BK101 := kb_ BK101 hb; replace BK102 := kb_ BK102 hb; replace BK110 := kb_ BK110 hb; replace HB := Bs_ hb; (try clear hb); (try clear hb2); (try clear hk); (try clear hi); have hnb34 := NB102_101.out; have hnc34 := NB101_102.out; obtain ⟨hcz35_0, hcz35_1, hcz35_2⟩ := c3_ BK102; obtain ⟨hfz35_0, hfz35_1, hfz35_2⟩ := f3_ BK102))
                  refine bodyPost_ret (results_ct rfl _ _ gb102 24 #[.int .i64 0, .slice none 0 0, .string (⟨#[]⟩ : ByteArray)] (0, 0) _ rfl (by (with_reducible repeat (first | refine blk_drewN ?_ _ | refine blk_drew ?_ | refine blk_alloc ?_ _)); refine blk_put (cs := #[.int .i64 0, .slice none 0 0, .string x103002_2]) ?_ 2 _ rfl; (with_reducible repeat (first | refine blk_drewN ?_ _ | refine blk_drew ?_ | refine blk_alloc ?_ _)); refine blk_put (cs := #[.int .i64 0, .slice none 0 0, .string x103002_2]) ?_ 1 _ rfl; (with_reducible repeat (first | refine blk_drewN ?_ _ | refine blk_drew ?_ | refine blk_alloc ?_ _)); refine blk_put (cs := #[.int .i64 x103000_2, .slice none 0 0, .string x103002_2]) ?_ 0 _ rfl; (with_reducible repeat (first | refine blk_drewN ?_ _ | refine blk_drew ?_ | refine blk_alloc ?_ _)); exact BK102.out) Tryz.underlying24 rfl (by kernel_rfl)) rfl ?_
                  exact ⟨_, Re_, (Kd.V_nil _ _ _ _ _), Bl_⟩
              · rw [if_neg c23] at H
                exact absurd H (by simp)
            · rw [if_neg c22] at H
              have c22b0 : decide (x8_2 < (t106.length : Int)) = false := decide_eq_false c22
              clear c22
              obtain ⟨⟨t114, t115, t118⟩, A36, H⟩ := bnd_ H
              try dsimp -simprocs only at H
              simp only [Option.some.injEq, Prod.mk.injEq] at H
              obtain ⟨rfl, rfl, rfl, rfl⟩ := H
              have hnb37 := NB110_101.out
              have hnc37 := NB101_110.out
              have hnb38 := NB110_102.out
              have hnc38 := NB102_110.out
              obtain ⟨hcz39_0, hcz39_1⟩ := c2_ BK110
              obtain ⟨hfz39_0, hfz39_1⟩ := f2_ BK110
              go_wp2_with (first | ((with_reducible refine gate_callee (f := 77) rfl ?_); refine goesL_ (some 40) rfl rfl Tryz.func77 (by kernel_rfl) rfl #[.agg #[.slice Ao11 t103.length co11, .slice Ao15 t106.length co15], .int .i64 a1] rfl Ga_ ?_; (with_reducible refine (reredosref05_lay.calls k2 (fun k_ => ((P0_1_ k_ ∨ w.heap.size ≤ k_) ∧ (some k_ ≠ (.slice Ao15 t106.length co15 : Value).ownBlock ∧ (k_ ≠ gb101 ∧ (k_ ≠ gb102 ∧ k_ ≠ gb110))))) _ _ t103 _ _ t106 a1 t114 t115 t118 _ ?side1 ?side2 ?side3 A36.out).mono ?_); (case side1 => exact HO_111000.out); (case side2 => exact Pc_ ((Kd.R_reads' HO_111001.out).2.2)); (case side3 => exact (Kd.R_reads' HO_111001.out).2.1); rintro e w40 ⟨v116, rfl, ho0, hb⟩; refine ⟨_, rfl, ?_⟩; replace HO_102001 := Aside0.mk (Kd.V_below (Pv_ HO_102001.out) hb); replace HO_111000 := Aside0.mk (Kd.V_below (Pv_ HO_111000.out) hb); have HO117 := Aside0.mk (Kd.V_lower (Kd.V_mono (ok' := fun k_ => (P0_1_ k_ ∨ w.heap.size ≤ k_) ∧ some k_ ≠ (.slice Ao15 t106.length co15 : Value).ownBlock ∧ k_ ≠ gb101 ∧ k_ ≠ gb102 ∧ k_ ≠ gb110) ho0 (fun k_ hk_ => ⟨Or.elim hk_ (fun hs_ => hs_.1) (fun hn_ => (.inr (Nat.le_trans Bz_ hn_))), Or.elim hk_ (fun hs_ => hs_.2.1) (fun hn_ => (Kd.fresh' (Kd.R_lt (Pr_ HO_111001.out)) k_ hn_)), Or.elim hk_ (fun hs_ => hs_.2.2.1) (fun hn_ => (Kd.freshB (g := gb101) (o := .cells #[.int .i64 a0_0, .slice A0_1 l0_1.length c0_1, .string a0_2] 24 (0, 0)) (Bk_ BK101.out) k_ hn_)), Or.elim hk_ (fun hs_ => hs_.2.2.2.1) (fun hn_ => (Kd.freshB (g := gb102) (o := .cells #[.int .i64 x103000_2, .slice none 0 0, .string x103002_2] 24 (0, 0)) (Bk_ BK102.out) k_ hn_)), Or.elim hk_ (fun hs_ => hs_.2.2.2.2) (fun hn_ => (Kd.freshB (g := gb110) (o := .cells #[.slice Ao11 t103.length co11, .slice Ao15 t106.length co15] 34 (0, 0)) (Bk_ BK110.out) k_ hn_))⟩)) Bz_); replace HO_111001 := Aside0.mk (Kd.R_below (Pr_ HO_111001.out) hb); replace BK101 := kb_ BK101 hb; replace BK102 := kb_ BK102 hb; replace BK110 := kb_ BK110 hb; replace HB := Bs_ hb; (try clear hb); (try clear hb2); (try clear hk); (try clear hi); (try clear ho0); have hnb41 := NB102_101.out; have hnc41 := NB101_102.out; obtain ⟨hcz42_0, hcz42_1, hcz42_2⟩ := c3_ BK102; obtain ⟨hfz42_0, hfz42_1, hfz42_2⟩ := f3_ BK102; obtain ⟨Ao43, co43, eo43⟩ := Kd.V_slice HO117.out; subst eo43))
              refine bodyPost_ret (results_ct rfl _ _ gb102 24 #[.int .i64 t114, .slice Ao43 t115.length co43, .string t118] (0, 0) _ rfl (by (with_reducible repeat (first | refine blk_drewN ?_ _ | refine blk_drew ?_ | refine blk_alloc ?_ _)); refine blk_put (cs := #[.int .i64 t114, .slice Ao43 t115.length co43, .string x103002_2]) ?_ 2 _ rfl; (with_reducible repeat (first | refine blk_drewN ?_ _ | refine blk_drew ?_ | refine blk_alloc ?_ _)); refine blk_put (cs := #[.int .i64 t114, .slice none 0 0, .string x103002_2]) ?_ 1 _ rfl; (with_reducible repeat (first | refine blk_drewN ?_ _ | refine blk_drew ?_ | refine blk_alloc ?_ _)); refine blk_put (cs := #[.int .i64 x103000_2, .slice none 0 0, .string x103002_2]) ?_ 0 _ rfl; (with_reducible repeat (first | refine blk_drewN ?_ _ | refine blk_drew ?_ | refine blk_alloc ?_ _)); exact BK102.out) Tryz.underlying24 rfl (by kernel_rfl)) rfl ?_
              exact ⟨_, Re_, by (with_reducible repeat (first | apply Kd.V_alloc | apply Kd.V_drewN | apply Kd.V_drew)); exact Kd.V_mono (Kd.V_far (p := ⟨gb102, 2, none⟩) (Kd.V_far (p := ⟨gb102, 1, none⟩) (Kd.V_far (p := ⟨gb102, 0, none⟩) (Kd.V_mono HO117.out (fun k_ hk => (⟨hk, hk.2.2.2.1⟩ : _ ∧ k_ ≠ gb102))) (fun _ hk => hk.2) (.int .i64 t114)) (fun _ hk => hk.2) (.slice Ao43 t115.length co43)) (fun _ hk => hk.2) (.string t118)) (fun _ hk => hk.1.1), Bl_⟩
/-! ### reredosref03_Same: function 80 -/
def reredosref03_Same.l0 : Nat → List Int → List Int → Int → Option (Bool)
  | 0, _, _, _ => none
  | k + 1, x0, x1, x5 => if x5 < (x0.length : Int) then (if 0 ≤ x5 then (if x5 < (x1.length : Int) then (if (rd x0 x5) = (rd x1 x5) then (reredosref03_Same.l0 k x0 x1 (wrap64 (x5 + 1))) else (some false)) else (none)) else (none)) else (some true)
def reredosref03_Same.f (k : Nat) (l0 : List Int) (l1 : List Int) : Option (Bool) := if (l0.length : Int) = (l1.length : Int) then (reredosref03_Same.l0 k l0 l1 0) else (some false)
set_option maxHeartbeats 8000000 in
set_option maxRecDepth 100000 in
theorem reredosref03_Same.calls (k : Nat) (A0 : Option Addr) (c0 : Nat) (l0 : List Int) (A1 : Option Addr) (c1 : Nat) (l1 : List Int) (r : Bool) (w : World) (hr0 : Kd.C (Kd.int .i64) w A0 l0.length l0) (hc0 : l0.length ≤ c0) (hr1 : Kd.C (Kd.int .i64) w A1 l1.length l1) (hc1 : l1.length ≤ c1) (h : reredosref03_Same.f k l0 l1 = some r) :
    Calls Tryz.prog 80 #[.slice A0 l0.length c0, .slice A1 l1.length c1] w fun e w' => e = .returned (.bool r) ∧ Drawn0 w w' := by
  have HR0 := Aside0.mk hr0
  have HC0 := Aside0.mk hc0
  clear hr0 hc0
  have HR1 := Aside0.mk hr1
  have HC1 := Aside0.mk hc1
  clear hr1 hc1
  have H : (if (l0.length : Int) = (l1.length : Int) then (reredosref03_Same.l0 k l0 l1 0) else (some false)) = some r := h
  clear h
  by_cases c3 : (l0.length : Int) = (l1.length : Int)
  · rw [if_pos c3] at H
    have c3b0 : ((l0.length : Int) == (l1.length : Int)) = true := beq_iff_eq.mpr c3
    have c3b1 : ((l0.length : Int) != (l1.length : Int)) = false := bne_eq_false_iff_eq.mpr c3
    have c3b2 : (l0.length == l1.length) = true := by first | simpa using c3 | (simp at c3 ⊢; omega)
    clear c3
    have H' := Aside0.mk H
    clear H
    go_enter Tryz.func80, Tryz.ntmps80
    go_wp2
    repeat (go_quiet (fail); try go_wp2)
    go_loopg [5] k (fun kq v5 w' => ∃ (x5_1 : Int), v5 = .int .i64 x5_1 ∧ Aside0 (reredosref03_Same.l0 kq l0 l1 x5_1 = some r) ∧ Aside0 (kq ≤ k) ∧ Drawn0 w w')
    case atStart => exact ⟨(0), Rf_, H', ⟨Nat.le_refl _⟩, Dw_⟩
    case round =>
      clear H'
      try clear c1
      try clear p2
      try clear c3
      try clear c3b0
      try clear c3b1
      try clear c3b2
      obtain ⟨x5_1, rfl, HA, HK1, ⟨m1, rfl⟩⟩ := hrel
      cases gk with
      | zero => exact absurd HA.out (by simp [reredosref03_Same.l0])
      | succ k1 =>
        have H := HA.out
        clear HA
        simp only [reredosref03_Same.l0] at H
        by_cases c4 : x5_1 < (l0.length : Int)
        · rw [if_pos c4] at H
          have c4b0 : decide (x5_1 < (l0.length : Int)) = true := decide_eq_true c4
          clear c4
          by_cases c5 : 0 ≤ x5_1
          · rw [if_pos c5] at H
            have c5b0 : decide (0 ≤ x5_1) = true := decide_eq_true c5
            clear c5
            by_cases c6 : x5_1 < (l1.length : Int)
            · rw [if_pos c6] at H
              have c6b0 : decide (x5_1 < (l1.length : Int)) = true := decide_eq_true c6
              clear c6
              by_cases c7 : (rd l0 x5_1) = (rd l1 x5_1)
              · rw [if_pos c7] at H
                have c7b0 : ((rd l0 x5_1) == (rd l1 x5_1)) = true := beq_iff_eq.mpr c7
                have c7b1 : ((rd l0 x5_1) != (rd l1 x5_1)) = false := bne_eq_false_iff_eq.mpr c7
                clear c7
                have H' := Aside0.mk H
                clear H
                have p101 : 0 ≤ (x5_1 : Int) := of_decide_eq_true As_
                have q101 : x5_1 < (l0.length : Int) := of_decide_eq_true As_
                obtain ⟨ad101, e101, hx101_0⟩ := Kd.at_int HR0.out x5_1 p101 q101
                cases e101
                replace p101 := eq_true p101
                replace q101 := eq_true q101
                have p102 : 0 ≤ (x5_1 : Int) := of_decide_eq_true As_
                have q102 : x5_1 < (l1.length : Int) := of_decide_eq_true As_
                obtain ⟨ad102, e102, hx102_0⟩ := Kd.at_int HR1.out x5_1 p102 q102
                cases e102
                replace p102 := eq_true p102
                replace q102 := eq_true q102
                go_wp2
                repeat (go_quiet (fail); try go_wp2)
                go_roundg k1
                case measure => have := HK1.out; omega
                case rel => exact ⟨(wrap64 (x5_1 + 1)), Rf_, H', ⟨by have := HK1.out; omega⟩, Dw_⟩
              · rw [if_neg c7] at H
                have c7b0 : ((rd l0 x5_1) == (rd l1 x5_1)) = false := beq_eq_false_iff_ne.mpr c7
                have c7b1 : ((rd l0 x5_1) != (rd l1 x5_1)) = true := bne_iff_ne.mpr c7
                obtain rfl := Option.some.inj H
                have p101 : 0 ≤ (x5_1 : Int) := of_decide_eq_true As_
                have q101 : x5_1 < (l0.length : Int) := of_decide_eq_true As_
                obtain ⟨ad101, e101, hx101_0⟩ := Kd.at_int HR0.out x5_1 p101 q101
                cases e101
                replace p101 := eq_true p101
                replace q101 := eq_true q101
                have p102 : 0 ≤ (x5_1 : Int) := of_decide_eq_true As_
                have q102 : x5_1 < (l1.length : Int) := of_decide_eq_true As_
                obtain ⟨ad102, e102, hx102_0⟩ := Kd.at_int HR1.out x5_1 p102 q102
                cases e102
                replace p102 := eq_true p102
                replace q102 := eq_true q102
                go_wp2
                repeat (go_quiet (fail); try go_wp2)
                go_ret
                exact ⟨Rf_, Dw_⟩
            · rw [if_neg c6] at H
              exact absurd H (by simp)
          · rw [if_neg c5] at H
            exact absurd H (by simp)
        · rw [if_neg c4] at H
          have c4b0 : decide (x5_1 < (l0.length : Int)) = false := decide_eq_false c4
          clear c4
          obtain rfl := Option.some.inj H
          go_wp2
          repeat (go_quiet (fail); try go_wp2)
          go_ret
          exact ⟨Rf_, Dw_⟩
  · rw [if_neg c3] at H
    have c3b0 : ((l0.length : Int) == (l1.length : Int)) = false := beq_eq_false_iff_ne.mpr c3
    have c3b1 : ((l0.length : Int) != (l1.length : Int)) = true := bne_iff_ne.mpr c3
    have c3b2 : (l0.length == l1.length) = false := by first | simpa using c3 | (simp at c3 ⊢; omega)
    obtain rfl := Option.some.inj H
    go_enter Tryz.func80, Tryz.ntmps80
    go_wp2
    repeat (go_quiet (fail); try go_wp2)
    go_ret
    exact ⟨Rf_, Dw_⟩
/-! ### reredosref04_Same: function 23 -/
mutual
def reredosref04_Same.j0 : Nat → Bool → List Int → List ByteArray → List Int → List ByteArray → Option (Bool)
  | 0, _, _, _, _, _ => none
  | k + 1, x20, x102000, x102001, x103000, x103001 => if x20 = true then (some false) else (reredosref04_Same.l0 k 0 x102000 x102001 x103000 x103001)
def reredosref04_Same.l0 : Nat → Int → List Int → List ByteArray → List Int → List ByteArray → Option (Bool)
  | 0, _, _, _, _, _ => none
  | k + 1, x5, x102000, x102001, x103000, x103001 => if x5 < (x102001.length : Int) then (if 0 ≤ x5 then (if x5 < (x103001.length : Int) then (if (rdOf ByteArray.empty x102001 x5).toList = (rdOf ByteArray.empty x103001 x5).toList then (reredosref04_Same.l0 k (wrap64 (x5 + 1)) x102000 x102001 x103000 x103001) else (some false)) else (none)) else (none)) else (some true)
end
def reredosref04_Same.f (k : Nat) (l0_0 : List Int) (l0_1 : List ByteArray) (l1_0 : List Int) (l1_1 : List ByteArray) : Option (Bool) := (reredosref03_Same.f k l0_0 l1_0).bind fun t103 => (if t103 = true then (reredosref04_Same.j0 k ((l0_1.length : Int) != (l1_1.length : Int)) l0_0 l0_1 l1_0 l1_1) else (reredosref04_Same.j0 k true l0_0 l0_1 l1_0 l1_1))
set_option maxHeartbeats 8000000 in
set_option maxRecDepth 100000 in
theorem reredosref04_Same.calls (k : Nat) (A0_0 : Option Addr) (c0_0 : Nat) (l0_0 : List Int) (A0_1 : Option Addr) (c0_1 : Nat) (l0_1 : List ByteArray) (A1_0 : Option Addr) (c1_0 : Nat) (l1_0 : List Int) (A1_1 : Option Addr) (c1_1 : Nat) (l1_1 : List ByteArray) (r : Bool) (w : World) (hr0_0 : Kd.C (Kd.int .i64) w A0_0 l0_0.length l0_0) (hc0_0 : l0_0.length ≤ c0_0) (hr0_1 : Kd.C Kd.string w A0_1 l0_1.length l0_1) (hc0_1 : l0_1.length ≤ c0_1) (hr1_0 : Kd.C (Kd.int .i64) w A1_0 l1_0.length l1_0) (hc1_0 : l1_0.length ≤ c1_0) (hr1_1 : Kd.C Kd.string w A1_1 l1_1.length l1_1) (hc1_1 : l1_1.length ≤ c1_1) (h : reredosref04_Same.f k l0_0 l0_1 l1_0 l1_1 = some r) :
    Calls Tryz.prog 23 #[.agg #[.slice A0_0 l0_0.length c0_0, .slice A0_1 l0_1.length c0_1], .agg #[.slice A1_0 l1_0.length c1_0, .slice A1_1 l1_1.length c1_1]] w fun e w' => e = .returned (.bool r) ∧ Below w.heap.size w w' := by
  have hu34 := Tryz.underlying34
  have HR0_0 := Aside0.mk hr0_0
  have HC0_0 := Aside0.mk hc0_0
  clear hr0_0 hc0_0
  have HR0_1 := Aside0.mk hr0_1
  have HC0_1 := Aside0.mk hc0_1
  clear hr0_1 hc0_1
  have HR1_0 := Aside0.mk hr1_0
  have HC1_0 := Aside0.mk hc1_0
  clear hr1_0 hc1_0
  have HR1_1 := Aside0.mk hr1_1
  have HC1_1 := Aside0.mk hc1_1
  clear hr1_1 hc1_1
  have HB := Aside0.mk (Below.refl w.heap.size w)
  have H : ((reredosref03_Same.f k l0_0 l1_0).bind fun t103 => (if t103 = true then (reredosref04_Same.j0 k ((l0_1.length : Int) != (l1_1.length : Int)) l0_0 l0_1 l1_0 l1_1) else (reredosref04_Same.j0 k true l0_0 l0_1 l1_0 l1_1))) = some r := h
  clear h
  have HC3 := Aside0.mk H
  clear H
  go_enter Tryz.func23, Tryz.ntmps23
  go_upto_region 1 with (first | ((with_reducible refine gate_dst (N := 2) rfl ?_); (try (refine gate_guard (by rfl) ?_; dsimp only)); refine bx_ 2 #[.slice A0_0 l0_0.length c0_0, .slice A0_1 l0_1.length c0_1] 34 ?_; intro gb101 hg w4 hbox hb; have BK101 := Aside0.mk (hbox); have GW101 := (Bg_ hg : Aside0 (w.heap.size ≤ gb101)); have GE101 := (Bg_ hg : Aside0 (w.heap.size ≤ gb101)); replace HB := Bs_ hb; clear hb hbox hg) | ((with_reducible refine gate_dst (N := 3) rfl ?_); (try (refine gate_guard (by rfl) ?_; dsimp only)); refine bx_ 3 #[.slice A1_0 l1_0.length c1_0, .slice A1_1 l1_1.length c1_1] 34 ?_; intro gb102 hg w5 hbox hb; have BK102 := Aside0.mk (hbox); have GW102 := (Bg_ hg : Aside0 (w.heap.size ≤ gb102)); have GE102 := (Bg_ hg : Aside0 (w.heap.size ≤ gb102)); replace HB := Bs_ hb; have NB101_102 := nl_ hg BK101; have NB102_101 := ng_ hg BK101; replace BK101 := kb_ BK101 hb; clear hb hbox hg))
  repeat (go_quiet (first | ((with_reducible refine gate_dst (N := 2) rfl ?_); (try (refine gate_guard (by rfl) ?_; dsimp only)); refine bx_ 2 #[.slice A0_0 l0_0.length c0_0, .slice A0_1 l0_1.length c0_1] 34 ?_; intro gb101 hg w4 hbox hb; have BK101 := Aside0.mk (hbox); have GW101 := (Bg_ hg : Aside0 (w.heap.size ≤ gb101)); have GE101 := (Bg_ hg : Aside0 (w.heap.size ≤ gb101)); replace HB := Bs_ hb; clear hb hbox hg) | ((with_reducible refine gate_dst (N := 3) rfl ?_); (try (refine gate_guard (by rfl) ?_; dsimp only)); refine bx_ 3 #[.slice A1_0 l1_0.length c1_0, .slice A1_1 l1_1.length c1_1] 34 ?_; intro gb102 hg w5 hbox hb; have BK102 := Aside0.mk (hbox); have GW102 := (Bg_ hg : Aside0 (w.heap.size ≤ gb102)); have GE102 := (Bg_ hg : Aside0 (w.heap.size ≤ gb102)); replace HB := Bs_ hb; have NB101_102 := nl_ hg BK101; have NB102_101 := ng_ hg BK101; replace BK101 := kb_ BK101 hb; clear hb hbox hg)); go_upto_region 1 with (first | ((with_reducible refine gate_dst (N := 2) rfl ?_); (try (refine gate_guard (by rfl) ?_; dsimp only)); refine bx_ 2 #[.slice A0_0 l0_0.length c0_0, .slice A0_1 l0_1.length c0_1] 34 ?_; intro gb101 hg w4 hbox hb; have BK101 := Aside0.mk (hbox); have GW101 := (Bg_ hg : Aside0 (w.heap.size ≤ gb101)); have GE101 := (Bg_ hg : Aside0 (w.heap.size ≤ gb101)); replace HB := Bs_ hb; clear hb hbox hg) | ((with_reducible refine gate_dst (N := 3) rfl ?_); (try (refine gate_guard (by rfl) ?_; dsimp only)); refine bx_ 3 #[.slice A1_0 l1_0.length c1_0, .slice A1_1 l1_1.length c1_1] 34 ?_; intro gb102 hg w5 hbox hb; have BK102 := Aside0.mk (hbox); have GW102 := (Bg_ hg : Aside0 (w.heap.size ≤ gb102)); have GE102 := (Bg_ hg : Aside0 (w.heap.size ≤ gb102)); replace HB := Bs_ hb; have NB101_102 := nl_ hg BK101; have NB102_101 := ng_ hg BK101; replace BK101 := kb_ BK101 hb; clear hb hbox hg)))
  (try simp only [Act.put, List.setIfInBounds_toArray, List.set_cons_zero, List.set_cons_succ])
  go_cut [20] (fun v20 wc => ∃ (kq : Nat) (x20_2 : Bool), v20 = .bool x20_2 ∧ Aside0 (reredosref04_Same.j0 kq x20_2 l0_0 l0_1 l1_0 l1_1 = some r) ∧ Aside0 (kq ≤ k) ∧ Aside0 (wc.heap[gb101]? = some (.cells #[(.slice A0_0 l0_0.length c0_0), (.slice A0_1 l0_1.length c0_1)] 34 (0, 0))) ∧ Aside0 (wc.heap[gb102]? = some (.cells #[(.slice A1_0 l1_0.length c1_0), (.slice A1_1 l1_1.length c1_1)] 34 (0, 0))) ∧ Aside0 (Below w.heap.size w wc))
  case first =>
    have H := HC3.out
    clear HC3
    obtain ⟨t103, A6, H⟩ := bnd_ H
    try dsimp -simprocs only at H
    by_cases c7 : t103 = true
    · subst c7
      have H1 : (reredosref04_Same.j0 k ((l0_1.length : Int) != (l1_1.length : Int)) l0_0 l0_1 l1_0 l1_1) = some r := by rw [if_pos rfl] at H; exact H
      clear H
      have H := H1
      clear H1
      have H' := Aside0.mk H
      clear H
      have hnb8 := NB101_102.out
      have hnc8 := NB102_101.out
      obtain ⟨hcz9_0, hcz9_1⟩ := c2_ BK101
      obtain ⟨hfz9_0, hfz9_1⟩ := f2_ BK101
      obtain ⟨hcz10_0, hcz10_1⟩ := c2_ BK102
      obtain ⟨hfz10_0, hfz10_1⟩ := f2_ BK102
      go_wp2_with (first | (go_at_call 80; (with_reducible refine (reredosref03_Same.calls k _ _ l0_0 _ _ l1_0 true _ ?side1 ?side2 ?side3 ?side4 A6.out).mono ?_); (case side1 => exact Pc_ (Kd.C_below HR0_0.out HB.out)); (case side2 => exact HC0_0.out); (case side3 => exact Pc_ (Kd.C_below HR1_0.out HB.out)); (case side4 => exact HC1_0.out); rintro e w' ⟨rfl, ⟨nd, rfl⟩⟩; (try first | exact ⟨rfl, _, World.drewN_drewN _ _ _⟩ | exact ⟨rfl, _, Eq.trans (World.drewN_drewN _ _ _) (congrArg (World.drewN _) (Nat.add_assoc _ _ _))⟩)))
      repeat (go_quiet (first | (go_at_call 80; (with_reducible refine (reredosref03_Same.calls k _ _ l0_0 _ _ l1_0 true _ ?side1 ?side2 ?side3 ?side4 A6.out).mono ?_); (case side1 => exact Pc_ (Kd.C_below HR0_0.out HB.out)); (case side2 => exact HC0_0.out); (case side3 => exact Pc_ (Kd.C_below HR1_0.out HB.out)); (case side4 => exact HC1_0.out); rintro e w' ⟨rfl, ⟨nd, rfl⟩⟩; (try first | exact ⟨rfl, _, World.drewN_drewN _ _ _⟩ | exact ⟨rfl, _, Eq.trans (World.drewN_drewN _ _ _) (congrArg (World.drewN _) (Nat.add_assoc _ _ _))⟩))); try go_wp2_with (first | (go_at_call 80; (with_reducible refine (reredosref03_Same.calls k _ _ l0_0 _ _ l1_0 true _ ?side1 ?side2 ?side3 ?side4 A6.out).mono ?_); (case side1 => exact Pc_ (Kd.C_below HR0_0.out HB.out)); (case side2 => exact HC0_0.out); (case side3 => exact Pc_ (Kd.C_below HR1_0.out HB.out)); (case side4 => exact HC1_0.out); rintro e w' ⟨rfl, ⟨nd, rfl⟩⟩; (try first | exact ⟨rfl, _, World.drewN_drewN _ _ _⟩ | exact ⟨rfl, _, Eq.trans (World.drewN_drewN _ _ _) (congrArg (World.drewN _) (Nat.add_assoc _ _ _))⟩))))
      go_meet
      case rel => exact ⟨_, (((l0_1.length : Int) != (l1_1.length : Int))), Rf_, H', ⟨by first | omega | exact Nat.le_refl _⟩, ⟨by (with_reducible repeat (first | refine blk_drewN ?_ _ | refine blk_drew ?_ | refine blk_alloc ?_ _)); exact BK101.out⟩, ⟨by (with_reducible repeat (first | refine blk_drewN ?_ _ | refine blk_drew ?_ | refine blk_alloc ?_ _)); exact BK102.out⟩, ⟨Bl_⟩⟩
    · replace c7 := Bool.eq_false_iff.mpr c7
      subst c7
      have H1 : (reredosref04_Same.j0 k true l0_0 l0_1 l1_0 l1_1) = some r := by rw [if_neg (show ¬ (false = true) by decide)] at H; exact H
      clear H
      have H := H1
      clear H1
      have H' := Aside0.mk H
      clear H
      have hnb11 := NB101_102.out
      have hnc11 := NB102_101.out
      obtain ⟨hcz12_0, hcz12_1⟩ := c2_ BK101
      obtain ⟨hfz12_0, hfz12_1⟩ := f2_ BK101
      obtain ⟨hcz13_0, hcz13_1⟩ := c2_ BK102
      obtain ⟨hfz13_0, hfz13_1⟩ := f2_ BK102
      go_wp2_with (first | (go_at_call 80; (with_reducible refine (reredosref03_Same.calls k _ _ l0_0 _ _ l1_0 false _ ?side1 ?side2 ?side3 ?side4 A6.out).mono ?_); (case side1 => exact Pc_ (Kd.C_below HR0_0.out HB.out)); (case side2 => exact HC0_0.out); (case side3 => exact Pc_ (Kd.C_below HR1_0.out HB.out)); (case side4 => exact HC1_0.out); rintro e w' ⟨rfl, ⟨nd, rfl⟩⟩; (try first | exact ⟨rfl, _, World.drewN_drewN _ _ _⟩ | exact ⟨rfl, _, Eq.trans (World.drewN_drewN _ _ _) (congrArg (World.drewN _) (Nat.add_assoc _ _ _))⟩)))
      repeat (go_quiet (first | (go_at_call 80; (with_reducible refine (reredosref03_Same.calls k _ _ l0_0 _ _ l1_0 false _ ?side1 ?side2 ?side3 ?side4 A6.out).mono ?_); (case side1 => exact Pc_ (Kd.C_below HR0_0.out HB.out)); (case side2 => exact HC0_0.out); (case side3 => exact Pc_ (Kd.C_below HR1_0.out HB.out)); (case side4 => exact HC1_0.out); rintro e w' ⟨rfl, ⟨nd, rfl⟩⟩; (try first | exact ⟨rfl, _, World.drewN_drewN _ _ _⟩ | exact ⟨rfl, _, Eq.trans (World.drewN_drewN _ _ _) (congrArg (World.drewN _) (Nat.add_assoc _ _ _))⟩))); try go_wp2_with (first | (go_at_call 80; (with_reducible refine (reredosref03_Same.calls k _ _ l0_0 _ _ l1_0 false _ ?side1 ?side2 ?side3 ?side4 A6.out).mono ?_); (case side1 => exact Pc_ (Kd.C_below HR0_0.out HB.out)); (case side2 => exact HC0_0.out); (case side3 => exact Pc_ (Kd.C_below HR1_0.out HB.out)); (case side4 => exact HC1_0.out); rintro e w' ⟨rfl, ⟨nd, rfl⟩⟩; (try first | exact ⟨rfl, _, World.drewN_drewN _ _ _⟩ | exact ⟨rfl, _, Eq.trans (World.drewN_drewN _ _ _) (congrArg (World.drewN _) (Nat.add_assoc _ _ _))⟩))))
      go_meet
      case rel => exact ⟨_, (true), Rf_, H', ⟨by first | omega | exact Nat.le_refl _⟩, ⟨by (with_reducible repeat (first | refine blk_drewN ?_ _ | refine blk_drew ?_ | refine blk_alloc ?_ _)); exact BK101.out⟩, ⟨by (with_reducible repeat (first | refine blk_drewN ?_ _ | refine blk_drew ?_ | refine blk_alloc ?_ _)); exact BK102.out⟩, ⟨Bl_⟩⟩
  case rest =>
    clear HC3
    try clear c1
    try clear c2
    try clear p2
    try clear c7
    try clear c8
    try clear c11
    try clear hcz10_0
    try clear hcz10_1
    try clear hcz12_0
    try clear hcz12_1
    try clear hcz13_0
    try clear hcz13_1
    try clear hcz9_0
    try clear hcz9_1
    try clear hfz10_0
    try clear hfz10_1
    try clear hfz12_0
    try clear hfz12_1
    try clear hfz13_0
    try clear hfz13_1
    try clear hfz9_0
    try clear hfz9_1
    obtain ⟨kq, x20_2, rfl, HA, HJ2, BK101, BK102, HB⟩ := hcut
    cases kq with
    | zero => exact absurd HA.out (by simp [reredosref04_Same.j0])
    | succ kj2 =>
      have H := HA.out
      clear HA
      simp only [reredosref04_Same.j0] at H
      by_cases c14 : x20_2 = true
      · subst c14
        have H1 : (some false) = some r := by rw [if_pos rfl] at H; exact H
        clear H
        have H := H1
        clear H1
        obtain rfl := Option.some.inj H
        go_wp2
        repeat (go_quiet (fail); try go_wp2)
        go_ret
        exact ⟨Re_, Bl_⟩
      · replace c14 := Bool.eq_false_iff.mpr c14
        subst c14
        have H1 : (reredosref04_Same.l0 kj2 0 l0_0 l0_1 l1_0 l1_1) = some r := by rw [if_neg (show ¬ (false = true) by decide)] at H; exact H
        clear H
        have H := H1
        clear H1
        have H' := Aside0.mk H
        clear H
        go_wp2
        repeat (go_quiet (fail); try go_wp2)
        go_loopg [5] kj2 (fun kq v5 w' => ∃ (x5_2 : Int), v5 = .int .i64 x5_2 ∧ Aside0 (reredosref04_Same.l0 kq x5_2 l0_0 l0_1 l1_0 l1_1 = some r) ∧ Aside0 (kq ≤ kj2) ∧ Aside0 (w'.heap[gb101]? = some (.cells #[(.slice A0_0 l0_0.length c0_0), (.slice A0_1 l0_1.length c0_1)] 34 (0, 0))) ∧ Aside0 (w'.heap[gb102]? = some (.cells #[(.slice A1_0 l1_0.length c1_0), (.slice A1_1 l1_1.length c1_1)] 34 (0, 0))) ∧ Aside0 (Below w.heap.size w w'))
        case atStart => exact ⟨(0), Rf_, H', ⟨Nat.le_refl _⟩, ⟨by (with_reducible repeat (first | refine blk_drewN ?_ _ | refine blk_drew ?_ | refine blk_alloc ?_ _)); exact BK101.out⟩, ⟨by (with_reducible repeat (first | refine blk_drewN ?_ _ | refine blk_drew ?_ | refine blk_alloc ?_ _)); exact BK102.out⟩, ⟨Bl_⟩⟩
        case round =>
          clear H'
          try clear c1
          try clear c2
          try clear p2
          try clear c7
          try clear c8
          try clear c11
          try clear c14
          try clear hcz10_0
          try clear hcz10_1
          try clear hcz12_0
          try clear hcz12_1
          try clear hcz13_0
          try clear hcz13_1
          try clear hcz9_0
          try clear hcz9_1
          try clear hfz10_0
          try clear hfz10_1
          try clear hfz12_0
          try clear hfz12_1
          try clear hfz13_0
          try clear hfz13_1
          try clear hfz9_0
          try clear hfz9_1
          try clear p2
          obtain ⟨x5_2, rfl, HA, HK2, BK101, BK102, HB⟩ := hrel
          cases gk with
          | zero => exact absurd HA.out (by simp [reredosref04_Same.l0])
          | succ k2 =>
            have H := HA.out
            clear HA
            simp only [reredosref04_Same.l0] at H
            by_cases c15 : x5_2 < (l0_1.length : Int)
            · rw [if_pos c15] at H
              have c15b0 : decide (x5_2 < (l0_1.length : Int)) = true := decide_eq_true c15
              clear c15
              by_cases c16 : 0 ≤ x5_2
              · rw [if_pos c16] at H
                have c16b0 : decide (0 ≤ x5_2) = true := decide_eq_true c16
                clear c16
                by_cases c17 : x5_2 < (l1_1.length : Int)
                · rw [if_pos c17] at H
                  have c17b0 : decide (x5_2 < (l1_1.length : Int)) = true := decide_eq_true c17
                  clear c17
                  by_cases c18 : (rdOf ByteArray.empty l0_1 x5_2).toList = (rdOf ByteArray.empty l1_1 x5_2).toList
                  · rw [if_pos c18] at H
                    have c18b0 : ((rdOf ByteArray.empty l0_1 x5_2).toList == (rdOf ByteArray.empty l1_1 x5_2).toList) = true := beq_iff_eq.mpr c18
                    have c18b1 : ((rdOf ByteArray.empty l0_1 x5_2).toList != (rdOf ByteArray.empty l1_1 x5_2).toList) = false := bne_eq_false_iff_eq.mpr c18
                    clear c18
                    have H' := Aside0.mk H
                    clear H
                    have hnb19 := NB101_102.out
                    have hnc19 := NB102_101.out
                    obtain ⟨hcz20_0, hcz20_1⟩ := c2_ BK101
                    obtain ⟨hfz20_0, hfz20_1⟩ := f2_ BK101
                    have p104 : 0 ≤ (x5_2 : Int) := of_decide_eq_true As_
                    have q104 : x5_2 < (l0_1.length : Int) := of_decide_eq_true As_
                    obtain ⟨ad104, e104, hx104_0⟩ := Kd.at_string HR0_1.out x5_2 p104 q104
                    cases e104
                    replace hx104_0 := (HB.out.cell (World.block_lt_of_cell? w _ hx104_0)).trans hx104_0
                    replace p104 := eq_true p104
                    replace q104 := eq_true q104
                    obtain ⟨hcz21_0, hcz21_1⟩ := c2_ BK102
                    obtain ⟨hfz21_0, hfz21_1⟩ := f2_ BK102
                    have p105 : 0 ≤ (x5_2 : Int) := of_decide_eq_true As_
                    have q105 : x5_2 < (l1_1.length : Int) := of_decide_eq_true As_
                    obtain ⟨ad105, e105, hx105_0⟩ := Kd.at_string HR1_1.out x5_2 p105 q105
                    cases e105
                    replace hx105_0 := (HB.out.cell (World.block_lt_of_cell? w _ hx105_0)).trans hx105_0
                    replace p105 := eq_true p105
                    replace q105 := eq_true q105
                    go_wp2
                    repeat (go_quiet (fail); try go_wp2)
                    go_roundg k2
                    case measure => have := HJ2.out; have := HK2.out; omega
                    case rel => exact ⟨(wrap64 (x5_2 + 1)), Rf_, H', ⟨by have := HJ2.out; have := HK2.out; omega⟩, ⟨by (with_reducible repeat (first | refine blk_drewN ?_ _ | refine blk_drew ?_ | refine blk_alloc ?_ _)); exact BK101.out⟩, ⟨by (with_reducible repeat (first | refine blk_drewN ?_ _ | refine blk_drew ?_ | refine blk_alloc ?_ _)); exact BK102.out⟩, ⟨Bl_⟩⟩
                  · rw [if_neg c18] at H
                    have c18b0 : ((rdOf ByteArray.empty l0_1 x5_2).toList == (rdOf ByteArray.empty l1_1 x5_2).toList) = false := beq_eq_false_iff_ne.mpr c18
                    have c18b1 : ((rdOf ByteArray.empty l0_1 x5_2).toList != (rdOf ByteArray.empty l1_1 x5_2).toList) = true := bne_iff_ne.mpr c18
                    obtain rfl := Option.some.inj H
                    have hnb22 := NB101_102.out
                    have hnc22 := NB102_101.out
                    obtain ⟨hcz23_0, hcz23_1⟩ := c2_ BK101
                    obtain ⟨hfz23_0, hfz23_1⟩ := f2_ BK101
                    have p104 : 0 ≤ (x5_2 : Int) := of_decide_eq_true As_
                    have q104 : x5_2 < (l0_1.length : Int) := of_decide_eq_true As_
                    obtain ⟨ad104, e104, hx104_0⟩ := Kd.at_string HR0_1.out x5_2 p104 q104
                    cases e104
                    replace hx104_0 := (HB.out.cell (World.block_lt_of_cell? w _ hx104_0)).trans hx104_0
                    replace p104 := eq_true p104
                    replace q104 := eq_true q104
                    obtain ⟨hcz24_0, hcz24_1⟩ := c2_ BK102
                    obtain ⟨hfz24_0, hfz24_1⟩ := f2_ BK102
                    have p105 : 0 ≤ (x5_2 : Int) := of_decide_eq_true As_
                    have q105 : x5_2 < (l1_1.length : Int) := of_decide_eq_true As_
                    obtain ⟨ad105, e105, hx105_0⟩ := Kd.at_string HR1_1.out x5_2 p105 q105
                    cases e105
                    replace hx105_0 := (HB.out.cell (World.block_lt_of_cell? w _ hx105_0)).trans hx105_0
                    replace p105 := eq_true p105
                    replace q105 := eq_true q105
                    go_wp2
                    repeat (go_quiet (fail); try go_wp2)
                    go_ret
                    exact ⟨Re_, Bl_⟩
                · rw [if_neg c17] at H
                  exact absurd H (by simp)
              · rw [if_neg c16] at H
                exact absurd H (by simp)
            · rw [if_neg c15] at H
              have c15b0 : decide (x5_2 < (l0_1.length : Int)) = false := decide_eq_false c15
              clear c15
              obtain rfl := Option.some.inj H
              have hnb25 := NB101_102.out
              have hnc25 := NB102_101.out
              obtain ⟨hcz26_0, hcz26_1⟩ := c2_ BK101
              obtain ⟨hfz26_0, hfz26_1⟩ := f2_ BK101
              go_wp2
              repeat (go_quiet (fail); try go_wp2)
              go_ret
              exact ⟨Re_, Bl_⟩
/-! ### reredoslaw05_same: function 24 -/
def reredoslaw05_same.f (k : Nat) (a0_0 : Int) (l0_1 : List Int) (a0_2 : ByteArray) (a1_0 : Int) (l1_1 : List Int) (a1_2 : ByteArray) : Option (Bool) := if a0_0 = a1_0 then ((reredosref03_Same.f k l0_1 l1_1).bind fun t103 => (if t103 = true then (some (a0_2.toList == a1_2.toList)) else (some false))) else (some false)
set_option maxHeartbeats 8000000 in
set_option maxRecDepth 100000 in
theorem reredoslaw05_same.calls (k : Nat) (a0_0 : Int) (A0_1 : Option Addr) (c0_1 : Nat) (l0_1 : List Int) (a0_2 : ByteArray) (a1_0 : Int) (A1_1 : Option Addr) (c1_1 : Nat) (l1_1 : List Int) (a1_2 : ByteArray) (r : Bool) (w : World) (hr0_1 : Kd.C (Kd.int .i64) w A0_1 l0_1.length l0_1) (hc0_1 : l0_1.length ≤ c0_1) (hr1_1 : Kd.C (Kd.int .i64) w A1_1 l1_1.length l1_1) (hc1_1 : l1_1.length ≤ c1_1) (h : reredoslaw05_same.f k a0_0 l0_1 a0_2 a1_0 l1_1 a1_2 = some r) :
    Calls Tryz.prog 24 #[.agg #[.int .i64 a0_0, .slice A0_1 l0_1.length c0_1, .string a0_2], .agg #[.int .i64 a1_0, .slice A1_1 l1_1.length c1_1, .string a1_2]] w fun e w' => e = .returned (.bool r) ∧ Below w.heap.size w w' := by
  have hu27 := Tryz.underlying27
  have hu24 := Tryz.underlying24
  have HR0_1 := Aside0.mk hr0_1
  have HC0_1 := Aside0.mk hc0_1
  clear hr0_1 hc0_1
  have HR1_1 := Aside0.mk hr1_1
  have HC1_1 := Aside0.mk hc1_1
  clear hr1_1 hc1_1
  have HB := Aside0.mk (Below.refl w.heap.size w)
  have H : (if a0_0 = a1_0 then ((reredosref03_Same.f k l0_1 l1_1).bind fun t103 => (if t103 = true then (some (a0_2.toList == a1_2.toList)) else (some false))) else (some false)) = some r := h
  clear h
  by_cases c3 : a0_0 = a1_0
  · rw [if_pos c3] at H
    have c3b0 : (a0_0 == a1_0) = true := beq_iff_eq.mpr c3
    have c3b1 : (a0_0 != a1_0) = false := bne_eq_false_iff_eq.mpr c3
    clear c3
    obtain ⟨t103, A4, H⟩ := bnd_ H
    try dsimp -simprocs only at H
    by_cases c5 : t103 = true
    · subst c5
      have H1 : (some (a0_2.toList == a1_2.toList)) = some r := by rw [if_pos rfl] at H; exact H
      clear H
      have H := H1
      clear H1
      obtain rfl := Option.some.inj H
      go_enter Tryz.func24, Tryz.ntmps24
      go_wp2_with (first | ((with_reducible refine gate_dst (N := 2) rfl ?_); refine bx_ 2 #[.int .i64 a0_0, .slice A0_1 l0_1.length c0_1, .string a0_2] 27 ?_; intro gb101 hg w6 hbox hb; have BK101 := Aside0.mk (hbox); have GW101 := (Bg_ hg : Aside0 (w.heap.size ≤ gb101)); have GE101 := (Bg_ hg : Aside0 (w.heap.size ≤ gb101)); replace HB := Bs_ hb; clear hb hbox hg) | ((with_reducible refine gate_dst (N := 3) rfl ?_); refine bx_ 3 #[.int .i64 a1_0, .slice A1_1 l1_1.length c1_1, .string a1_2] 24 ?_; intro gb102 hg w7 hbox hb; have BK102 := Aside0.mk (hbox); have GW102 := (Bg_ hg : Aside0 (w.heap.size ≤ gb102)); have GE102 := (Bg_ hg : Aside0 (w.heap.size ≤ gb102)); replace HB := Bs_ hb; have NB101_102 := nl_ hg BK101; have NB102_101 := ng_ hg BK101; replace BK101 := kb_ BK101 hb; clear hb hbox hg; have hnb8 := NB101_102.out; have hnc8 := NB102_101.out; obtain ⟨hcz9_0, hcz9_1, hcz9_2⟩ := c3_ BK101; obtain ⟨hfz9_0, hfz9_1, hfz9_2⟩ := f3_ BK101; obtain ⟨hcz10_0, hcz10_1, hcz10_2⟩ := c3_ BK102; obtain ⟨hfz10_0, hfz10_1, hfz10_2⟩ := f3_ BK102) | (go_at_call 80; (with_reducible refine (reredosref03_Same.calls k _ _ l0_1 _ _ l1_1 true _ ?side1 ?side2 ?side3 ?side4 A4.out).mono ?_); (case side1 => exact Pc_ (Kd.C_below HR0_1.out HB.out)); (case side2 => exact HC0_1.out); (case side3 => exact Pc_ (Kd.C_below HR1_1.out HB.out)); (case side4 => exact HC1_1.out); rintro e w' ⟨rfl, ⟨nd, rfl⟩⟩))
      go_ret
      exact ⟨Re_, Bl_⟩
    · replace c5 := Bool.eq_false_iff.mpr c5
      subst c5
      have H1 : (some false) = some r := by rw [if_neg (show ¬ (false = true) by decide)] at H; exact H
      clear H
      have H := H1
      clear H1
      obtain rfl := Option.some.inj H
      go_enter Tryz.func24, Tryz.ntmps24
      go_wp2_with (first | ((with_reducible refine gate_dst (N := 2) rfl ?_); refine bx_ 2 #[.int .i64 a0_0, .slice A0_1 l0_1.length c0_1, .string a0_2] 27 ?_; intro gb101 hg w11 hbox hb; have BK101 := Aside0.mk (hbox); have GW101 := (Bg_ hg : Aside0 (w.heap.size ≤ gb101)); have GE101 := (Bg_ hg : Aside0 (w.heap.size ≤ gb101)); replace HB := Bs_ hb; clear hb hbox hg) | ((with_reducible refine gate_dst (N := 3) rfl ?_); refine bx_ 3 #[.int .i64 a1_0, .slice A1_1 l1_1.length c1_1, .string a1_2] 24 ?_; intro gb102 hg w12 hbox hb; have BK102 := Aside0.mk (hbox); have GW102 := (Bg_ hg : Aside0 (w.heap.size ≤ gb102)); have GE102 := (Bg_ hg : Aside0 (w.heap.size ≤ gb102)); replace HB := Bs_ hb; have NB101_102 := nl_ hg BK101; have NB102_101 := ng_ hg BK101; replace BK101 := kb_ BK101 hb; clear hb hbox hg; have hnb13 := NB101_102.out; have hnc13 := NB102_101.out; obtain ⟨hcz14_0, hcz14_1, hcz14_2⟩ := c3_ BK101; obtain ⟨hfz14_0, hfz14_1, hfz14_2⟩ := f3_ BK101; obtain ⟨hcz15_0, hcz15_1, hcz15_2⟩ := c3_ BK102; obtain ⟨hfz15_0, hfz15_1, hfz15_2⟩ := f3_ BK102) | (go_at_call 80; (with_reducible refine (reredosref03_Same.calls k _ _ l0_1 _ _ l1_1 false _ ?side1 ?side2 ?side3 ?side4 A4.out).mono ?_); (case side1 => exact Pc_ (Kd.C_below HR0_1.out HB.out)); (case side2 => exact HC0_1.out); (case side3 => exact Pc_ (Kd.C_below HR1_1.out HB.out)); (case side4 => exact HC1_1.out); rintro e w' ⟨rfl, ⟨nd, rfl⟩⟩))
      go_ret
      exact ⟨Re_, Bl_⟩
  · rw [if_neg c3] at H
    have c3b0 : (a0_0 == a1_0) = false := beq_eq_false_iff_ne.mpr c3
    have c3b1 : (a0_0 != a1_0) = true := bne_iff_ne.mpr c3
    obtain rfl := Option.some.inj H
    go_enter Tryz.func24, Tryz.ntmps24
    go_wp2_with (first | ((with_reducible refine gate_dst (N := 2) rfl ?_); refine bx_ 2 #[.int .i64 a0_0, .slice A0_1 l0_1.length c0_1, .string a0_2] 27 ?_; intro gb101 hg w16 hbox hb; have BK101 := Aside0.mk (hbox); have GW101 := (Bg_ hg : Aside0 (w.heap.size ≤ gb101)); have GE101 := (Bg_ hg : Aside0 (w.heap.size ≤ gb101)); replace HB := Bs_ hb; clear hb hbox hg) | ((with_reducible refine gate_dst (N := 3) rfl ?_); refine bx_ 3 #[.int .i64 a1_0, .slice A1_1 l1_1.length c1_1, .string a1_2] 24 ?_; intro gb102 hg w17 hbox hb; have BK102 := Aside0.mk (hbox); have GW102 := (Bg_ hg : Aside0 (w.heap.size ≤ gb102)); have GE102 := (Bg_ hg : Aside0 (w.heap.size ≤ gb102)); replace HB := Bs_ hb; have NB101_102 := nl_ hg BK101; have NB102_101 := ng_ hg BK101; replace BK101 := kb_ BK101 hb; clear hb hbox hg; have hnb18 := NB101_102.out; have hnc18 := NB102_101.out; obtain ⟨hcz19_0, hcz19_1, hcz19_2⟩ := c3_ BK101; obtain ⟨hfz19_0, hfz19_1, hfz19_2⟩ := f3_ BK101; obtain ⟨hcz20_0, hcz20_1, hcz20_2⟩ := c3_ BK102; obtain ⟨hfz20_0, hfz20_1, hfz20_2⟩ := f3_ BK102))
    go_ret
    exact ⟨Re_, Bl_⟩
/-! ### reredoslaw05_TypedTells: function 3 -/
def reredoslaw05_TypedTells.f (k : Nat) (a0_0 : Int) (l0_1 : List Int) (a0_2 : ByteArray) (a1 : Int) (a2 : Int) : Option (Bool) := (reredoslaw05_shown.f).bind fun _ => ((reredoslaw05_few.f a0_0 l0_1 a0_2).bind fun t103 => (if t103 = true then ((reredoslaw05_made.f a0_0 l0_1 a0_2).bind fun bt104 => ((typed_Typed_At.f k bt104.1 bt104.2.1 bt104.2.2 a1).bind fun bt110 => ((reredosref05_At.f k a0_0 l0_1 a0_2 a1).bind fun bt112 => ((typed_Typed_Val.f k bt104.1 bt104.2.1 bt104.2.2).bind fun bt114 => ((reredosref05_Val.f k a0_0 l0_1 a0_2).bind fun bt122 => ((typed_Typed_To.f k bt104.1 bt104.2.1 bt104.2.2 a2).bind fun bt130 => ((reredosref05_To.f k a0_0 l0_1 a0_2 a2).bind fun bt137 => ((typed_Typed_May.f k bt104.1 bt104.2.1 bt104.2.2).bind fun t144 => ((reredosref05_May.f k a0_0 l0_1 a0_2).bind fun t145 => (if (t144 == t145) = true then ((typed_Typed_Many.f k bt104.1 bt104.2.1 bt104.2.2).bind fun t146 => ((reredosref05_Many.f k a0_0 l0_1 a0_2).bind fun t147 => (if t146 = t147 then (if bt110.1 = bt112.1 then (if (bt110.2 == bt112.2) = true then ((reredosref04_Same.f k bt114.1 bt114.2.1 bt122.1 bt122.2.1).bind fun t148 => (if t148 = true then (if (bt114.2.2 == bt122.2.2) = true then ((reredoslaw05_same.f k bt130.1 bt130.2.1 bt130.2.2.1 bt137.1 bt137.2.1 bt137.2.2.1).bind fun t149 => (if t149 = true then (some (bt130.2.2.2 == bt137.2.2.2)) else (none))) else (none)) else (none))) else (none)) else (none)) else (none)))) else (none))))))))))) else (some true)))
def reredoslaw05_TypedTells.T11 : Bool × List (List Nat × List Nat) := (true, [([], []), ([0], [0]), ([1], [1]), ([2, 1, 1], [1, 2]), ([1], [1]), ([4, 3, 1], [1, 4]), ([3, 5, 1], [1, 3, 5]), ([1, 6], [1, 6]), ([7, 5], [7]), ([8], [8]), ([9, 8, 8], [8, 9]), ([8], [8]), ([11, 10, 8], [8, 11]), ([10, 12, 8], [8, 10, 12]), ([8, 13], [8, 13]), ([14, 12], [14]), ([15], [15]), ([15], [15]), ([16, 17, 15], [15, 16, 17]), ([15, 18], [15, 18]), ([19, 15], [19]), ([20], [20]), ([20], [20]), ([21, 22, 20], [20, 21, 22]), ([20, 23], [20, 23]), ([24, 20], [24]), ([25], [25]), ([25], [25]), ([26, 27, 25, 25], [25, 26, 27]), ([25, 28], [25, 28]), ([29, 28], [29]), ([30], [30]), ([30], [30]), ([31, 32, 30], [30, 31, 32]), ([30, 33], [30, 33]), ([34, 30], [34]), ([35], [35]), ([35], [35]), ([36, 37, 35, 35], [35, 36, 37]), ([35, 38], [35, 38]), ([39, 38], [39]), ([40], [40]), ([40], [40]), ([41, 42, 40], [40, 41, 42]), ([40, 43], [40, 43]), ([44, 40, 0, 1, 2, 3, 4, 5, 6, 7, 8, 9, 10, 11, 12, 13, 14, 15, 16, 17, 18, 19, 20, 21, 22, 23, 24, 25, 26, 27, 28, 29, 30, 31, 32, 33, 34, 35, 36, 37, 38, 39, 40, 41, 42, 43, 44], [44])])
def reredoslaw05_TypedTells.B11 : List Nat := [0, 1, 3, 7, 3, 31, 63, 127, 255, 511, 1023, 511, 4095, 8191, 16383, 32767, 65535, 65535, 262143, 524287, 1048575, 2097151, 2097151, 8388607, 16777215, 33554431, 67108863, 67108863, 268435455, 536870911, 1073741823, 2147483647, 2147483647, 8589934591, 17179869183, 34359738367, 68719476735, 68719476735, 274877906943, 549755813887, 1099511627775, 2199023255551, 2199023255551, 8796093022207, 17592186044415, 35184372088831]
theorem reredoslaw05_TypedTells.tab11 : rtab .any (opsOf Tryz.f3 11) = reredoslaw05_TypedTells.T11 := by kernel_rfl
theorem reredoslaw05_TypedTells.bits11 : waitsOk reredoslaw05_TypedTells.T11.2 reredoslaw05_TypedTells.B11 = true := by kernel_rfl
set_option maxHeartbeats 8000000 in
set_option maxRecDepth 100000 in
theorem reredoslaw05_TypedTells.calls (k : Nat) (a0_0 : Int) (A0_1 : Option Addr) (c0_1 : Nat) (l0_1 : List Int) (a0_2 : ByteArray) (a1 : Int) (a2 : Int) (r : Bool) (w : World) (hr0_1 : Kd.C (Kd.int .i64) w A0_1 l0_1.length l0_1) (hc0_1 : l0_1.length ≤ c0_1) (h : reredoslaw05_TypedTells.f k a0_0 l0_1 a0_2 a1 a2 = some r) (hG : Glob w) :
    Calls Tryz.prog 3 #[.agg #[.int .i64 a0_0, .slice A0_1 l0_1.length c0_1, .string a0_2], .int .i64 a1, .int .i64 a2] w fun e w' => e = .returned (.bool r) ∧ Below w.heap.size w w' := by
  have hu24 := Tryz.underlying24
  have hu27 := Tryz.underlying27
  have hu34 := Tryz.underlying34
  have HR0_1 := Aside0.mk hr0_1
  have HC0_1 := Aside0.mk hc0_1
  clear hr0_1 hc0_1
  have HB := Aside0.mk (Below.refl w.heap.size w)
  have H : ((reredoslaw05_shown.f).bind fun _ => ((reredoslaw05_few.f a0_0 l0_1 a0_2).bind fun t103 => (if t103 = true then ((reredoslaw05_made.f a0_0 l0_1 a0_2).bind fun bt104 => ((typed_Typed_At.f k bt104.1 bt104.2.1 bt104.2.2 a1).bind fun bt110 => ((reredosref05_At.f k a0_0 l0_1 a0_2 a1).bind fun bt112 => ((typed_Typed_Val.f k bt104.1 bt104.2.1 bt104.2.2).bind fun bt114 => ((reredosref05_Val.f k a0_0 l0_1 a0_2).bind fun bt122 => ((typed_Typed_To.f k bt104.1 bt104.2.1 bt104.2.2 a2).bind fun bt130 => ((reredosref05_To.f k a0_0 l0_1 a0_2 a2).bind fun bt137 => ((typed_Typed_May.f k bt104.1 bt104.2.1 bt104.2.2).bind fun t144 => ((reredosref05_May.f k a0_0 l0_1 a0_2).bind fun t145 => (if (t144 == t145) = true then ((typed_Typed_Many.f k bt104.1 bt104.2.1 bt104.2.2).bind fun t146 => ((reredosref05_Many.f k a0_0 l0_1 a0_2).bind fun t147 => (if t146 = t147 then (if bt110.1 = bt112.1 then (if (bt110.2 == bt112.2) = true then ((reredosref04_Same.f k bt114.1 bt114.2.1 bt122.1 bt122.2.1).bind fun t148 => (if t148 = true then (if (bt114.2.2 == bt122.2.2) = true then ((reredoslaw05_same.f k bt130.1 bt130.2.1 bt130.2.2.1 bt137.1 bt137.2.1 bt137.2.2.1).bind fun t149 => (if t149 = true then (some (bt130.2.2.2 == bt137.2.2.2)) else (none))) else (none)) else (none))) else (none)) else (none)) else (none)))) else (none))))))))))) else (some true)))) = some r := h
  clear h
  obtain ⟨cst_, A4, H⟩ := bnd_ H
  try dsimp -simprocs only at H
  obtain rfl := Option.some.inj A4.out
  obtain ⟨t103, A5, H⟩ := bnd_ H
  try dsimp -simprocs only at H
  by_cases c6 : t103 = true
  · subst c6
    have H1 : ((reredoslaw05_made.f a0_0 l0_1 a0_2).bind fun bt104 => ((typed_Typed_At.f k bt104.1 bt104.2.1 bt104.2.2 a1).bind fun bt110 => ((reredosref05_At.f k a0_0 l0_1 a0_2 a1).bind fun bt112 => ((typed_Typed_Val.f k bt104.1 bt104.2.1 bt104.2.2).bind fun bt114 => ((reredosref05_Val.f k a0_0 l0_1 a0_2).bind fun bt122 => ((typed_Typed_To.f k bt104.1 bt104.2.1 bt104.2.2 a2).bind fun bt130 => ((reredosref05_To.f k a0_0 l0_1 a0_2 a2).bind fun bt137 => ((typed_Typed_May.f k bt104.1 bt104.2.1 bt104.2.2).bind fun t144 => ((reredosref05_May.f k a0_0 l0_1 a0_2).bind fun t145 => (if (t144 == t145) = true then ((typed_Typed_Many.f k bt104.1 bt104.2.1 bt104.2.2).bind fun t146 => ((reredosref05_Many.f k a0_0 l0_1 a0_2).bind fun t147 => (if t146 = t147 then (if bt110.1 = bt112.1 then (if (bt110.2 == bt112.2) = true then ((reredosref04_Same.f k bt114.1 bt114.2.1 bt122.1 bt122.2.1).bind fun t148 => (if t148 = true then (if (bt114.2.2 == bt122.2.2) = true then ((reredoslaw05_same.f k bt130.1 bt130.2.1 bt130.2.2.1 bt137.1 bt137.2.1 bt137.2.2.1).bind fun t149 => (if t149 = true then (some (bt130.2.2.2 == bt137.2.2.2)) else (none))) else (none)) else (none))) else (none)) else (none)) else (none)))) else (none))))))))))) = some r := by rw [if_pos rfl] at H; exact H
    clear H
    have H := H1
    clear H1
    obtain ⟨⟨t104, t105, t108⟩, A7, H⟩ := bnd_ H
    try dsimp -simprocs only at H
    obtain ⟨⟨t110, t111⟩, A8, H⟩ := bnd_ H
    try dsimp -simprocs only at H
    obtain ⟨⟨t112, t113⟩, A9, H⟩ := bnd_ H
    try dsimp -simprocs only at H
    obtain ⟨⟨t114, t117, t120⟩, A10, H⟩ := bnd_ H
    try dsimp -simprocs only at H
    obtain ⟨⟨t122, t125, t128⟩, A11, H⟩ := bnd_ H
    try dsimp -simprocs only at H
    obtain ⟨⟨t130, t131, t134, t135⟩, A12, H⟩ := bnd_ H
    try dsimp -simprocs only at H
    obtain ⟨⟨t137, t138, t141, t142⟩, A13, H⟩ := bnd_ H
    try dsimp -simprocs only at H
    obtain ⟨t144, A14, H⟩ := bnd_ H
    try dsimp -simprocs only at H
    obtain ⟨t145, A15, H⟩ := bnd_ H
    try dsimp -simprocs only at H
    by_cases c16 : (t144 == t145) = true
    · rw [if_pos c16] at H
      have c16b0 : (t144 == t145) = true := c16
      (try (have c16b1 : decide (t144 = t145) = true := by simpa using c16))
      (try (have c16b2 : (t144 == t145) = true := by simpa using c16))
      clear c16
      obtain ⟨t146, A17, H⟩ := bnd_ H
      try dsimp -simprocs only at H
      obtain ⟨t147, A18, H⟩ := bnd_ H
      try dsimp -simprocs only at H
      by_cases c19 : t146 = t147
      · rw [if_pos c19] at H
        have c19b0 : (t146 == t147) = true := beq_iff_eq.mpr c19
        have c19b1 : (t146 != t147) = false := bne_eq_false_iff_eq.mpr c19
        clear c19
        by_cases c20 : t110 = t112
        · rw [if_pos c20] at H
          have c20b0 : (t110 == t112) = true := beq_iff_eq.mpr c20
          have c20b1 : (t110 != t112) = false := bne_eq_false_iff_eq.mpr c20
          clear c20
          by_cases c21 : (t111 == t113) = true
          · rw [if_pos c21] at H
            have c21b0 : (t111 == t113) = true := c21
            (try (have c21b1 : decide (t111 = t113) = true := by simpa using c21))
            (try (have c21b2 : (t111 == t113) = true := by simpa using c21))
            clear c21
            obtain ⟨t148, A22, H⟩ := bnd_ H
            try dsimp -simprocs only at H
            by_cases c23 : t148 = true
            · subst c23
              have H1 : (if (t120 == t128) = true then ((reredoslaw05_same.f k t130 t131 t134 t137 t138 t141).bind fun t149 => (if t149 = true then (some (t135 == t142)) else (none))) else (none)) = some r := by rw [if_pos rfl] at H; exact H
              clear H
              have H := H1
              clear H1
              by_cases c24 : (t120 == t128) = true
              · rw [if_pos c24] at H
                have c24b0 : (t120 == t128) = true := c24
                (try (have c24b1 : decide (t120 = t128) = true := by simpa using c24))
                (try (have c24b2 : (t120 == t128) = true := by simpa using c24))
                clear c24
                obtain ⟨t149, A25, H⟩ := bnd_ H
                try dsimp -simprocs only at H
                by_cases c26 : t149 = true
                · subst c26
                  have H1 : (some (t135 == t142)) = some r := by rw [if_pos rfl] at H; exact H
                  clear H
                  have H := H1
                  clear H1
                  obtain rfl := Option.some.inj H
                  go_enter Tryz.func3, Tryz.ntmps3
                  try go_wp2_with (first | ((with_reducible refine gate_dst (N := 3) rfl ?_); refine bx_ 3 #[.int .i64 a0_0, .slice A0_1 l0_1.length c0_1, .string a0_2] 24 ?_; intro gb101 hg w27 hbox hb; have BK101 := Aside0.mk (hbox); have GW101 := (Bg_ hg : Aside0 (w.heap.size ≤ gb101)); have GE101 := (Bg_ hg : Aside0 (w.heap.size ≤ gb101)); replace HB := Bs_ hb; clear hb hbox hg) | ((with_reducible refine gate_callee (f := 10) rfl ?_); refine goesL_ (some 21) rfl rfl Tryz.func10 (by kernel_rfl) rfl #[] rfl Ga_ ?_; (with_reducible refine (reredoslaw05_shown.calls  true _ A4.out ?side1).mono ?_); (case side1 => first | exact hG | exact Glob.below hG Bl_); rintro e w28 ⟨rfl, hb⟩; refine ⟨_, rfl, ?_⟩; replace BK101 := kb_ BK101 hb; replace HB := Bs_ hb; (try clear hb); (try clear hb2); (try clear hk); (try clear hi); obtain ⟨hcz29_0, hcz29_1, hcz29_2⟩ := c3_ BK101; obtain ⟨hfz29_0, hfz29_1, hfz29_2⟩ := f3_ BK101) | ((with_reducible refine gate_callee (f := 11) rfl ?_); refine goesL_ (some 23) rfl rfl Tryz.func11 (by kernel_rfl) rfl #[.agg #[.int .i64 a0_0, .slice A0_1 l0_1.length c0_1, .string a0_2]] rfl Ga_ ?_; (with_reducible refine (reredoslaw05_few.calls a0_0 _ _ l0_1 a0_2 true _ ?side1 ?side2 A5.out).mono ?_); (case side1 => exact Pc_ (Kd.C_below HR0_1.out HB.out)); (case side2 => exact HC0_1.out); rintro e w30 ⟨rfl, hb⟩; refine ⟨_, rfl, ?_⟩; replace BK101 := kb_ BK101 hb; replace HB := Bs_ hb; (try clear hb); (try clear hb2); (try clear hk); (try clear hi); obtain ⟨hcz31_0, hcz31_1, hcz31_2⟩ := c3_ BK101; obtain ⟨hfz31_0, hfz31_1, hfz31_2⟩ := f3_ BK101) | ((with_reducible refine gate_callee (f := 12) rfl ?_); refine goesL_ (some 27) rfl rfl Tryz.func12 (by kernel_rfl) rfl #[.agg #[.int .i64 a0_0, .slice A0_1 l0_1.length c0_1, .string a0_2]] rfl Ga_ ?_; (with_reducible refine (reredoslaw05_made.calls a0_0 (fun k_ => k_ < w.heap.size) _ _ l0_1 a0_2 t104 t105 t108 _ ?side1 A7.out).mono ?_); (case side1 => exact Kd.V_mk HC0_1.out (Kd.F_below (Kd.C_F (Kd.heap_int .i64) HR0_1.out) Bl_)); rintro e w32 ⟨v106, rfl, ho0, hb⟩; refine ⟨_, rfl, ?_⟩; have HO107 := Aside0.mk (Kd.V_lower (Kd.V_mono (ok' := fun k_ => k_ ≠ gb101) ho0 (fun k_ hk_ => Or.elim hk_ (fun hs_ => fun e_ => Nat.not_le.2 hs_ (by rw [e_]; exact GW101.out)) (fun hn_ => (Kd.freshB (g := gb101) (o := .cells #[.int .i64 a0_0, .slice A0_1 l0_1.length c0_1, .string a0_2] 24 (0, 0)) (Bk_ BK101.out) k_ hn_)))) Bz_); replace BK101 := kb_ BK101 hb; replace HB := Bs_ hb; (try clear hb); (try clear hb2); (try clear hk); (try clear hi); (try clear ho0)) | ((with_reducible refine gate_dst (N := 8) rfl ?_); refine bx_ 8 #[.int .i64 0, .slice none 0 0, .string (⟨#[]⟩ : ByteArray)] 27 ?_; intro gb109 hg w33 hbox hb; replace HO107 := Aside0.mk (Kd.V_below (Kd.V_elderB (Pv_ HO107.out) gb109 (Nat.le_of_eq hg.symm)) hb); have BK109 := Aside0.mk (hbox); have GW109 := (Bg_ hg : Aside0 (w.heap.size ≤ gb109)); have GE109 := (Bg_ hg : Aside0 (w.heap.size ≤ gb109)); replace HB := Bs_ hb; have NB101_109 := nl_ hg BK101; have NB109_101 := ng_ hg BK101; replace BK101 := kb_ BK101 hb; clear hb hbox hg; have hnb34 := NB109_101.out; have hnc34 := NB101_109.out; obtain ⟨hcz35_0, hcz35_1, hcz35_2⟩ := c3_ BK109; obtain ⟨hfz35_0, hfz35_1, hfz35_2⟩ := f3_ BK109; obtain ⟨Ao36, co36, eo36⟩ := Kd.V_slice HO107.out; subst eo36) | ((with_reducible refine gate_callee (f := 13) rfl ?_); refine goesL_ (some 31) rfl rfl Tryz.func13 (by kernel_rfl) rfl #[.agg #[.int .i64 t104, .slice Ao36 t105.length co36, .string t108], .int .i64 a1] rfl Ga_ ?_; (with_reducible refine (typed_Typed_At.calls k t104 _ _ t105 t108 a1 t110 t111 _ ?side1 ?side2 A8.out).mono ?_); (case side1 => refine (Kd.V_reads' (e := 3) (base := w.heap.size) (ok := fun k_ => (k_ ≠ gb101 ∧ k_ ≠ gb109)) (n := t105.length) (c := co36) ?_).2.2; exact (by (with_reducible repeat (first | apply Kd.V_alloc | apply Kd.V_drewN | apply Kd.V_drew)); exact (Kd.V_mono (Kd.V_far (p := ⟨gb109, 2, none⟩) (Kd.V_far (p := ⟨gb109, 1, none⟩) (Kd.V_far (p := ⟨gb109, 0, none⟩) (Kd.V_mono HO107.out (fun k_ hk => (⟨hk, hk.2⟩ : _ ∧ k_ ≠ gb109))) (fun _ hk => hk.2) (.int .i64 t104)) (fun _ hk => hk.2) (.slice Ao36 t105.length co36)) (fun _ hk => hk.2) (.string t108)) (fun _ h_ => h_.1)))); (case side2 => exact (Kd.V_reads' HO107.out).2.1); rintro e w37 ⟨rfl, hb⟩; refine ⟨_, rfl, ?_⟩; replace HO107 := Aside0.mk (Kd.V_below (by (with_reducible repeat (first | apply Kd.V_alloc | apply Kd.V_drewN | apply Kd.V_drew)); exact (Kd.V_mono (Kd.V_far (p := ⟨gb109, 2, none⟩) (Kd.V_far (p := ⟨gb109, 1, none⟩) (Kd.V_far (p := ⟨gb109, 0, none⟩) (Kd.V_mono HO107.out (fun k_ hk => (⟨hk, hk.2⟩ : _ ∧ k_ ≠ gb109))) (fun _ hk => hk.2) (.int .i64 t104)) (fun _ hk => hk.2) (.slice Ao36 t105.length co36)) (fun _ hk => hk.2) (.string t108)) (fun _ h_ => h_.1))) hb); replace BK101 := Aside0.mk (blk_below (g := gb101) (o := .cells #[.int .i64 a0_0, .slice A0_1 l0_1.length c0_1, .string a0_2] 24 (0, 0)) (by (with_reducible repeat (first | refine blk_drewN ?_ _ | refine blk_drew ?_ | refine blk_alloc ?_ _)); refine blk_far ?_ NB101_109.out _; (with_reducible repeat (first | refine blk_drewN ?_ _ | refine blk_drew ?_ | refine blk_alloc ?_ _)); refine blk_far ?_ NB101_109.out _; (with_reducible repeat (first | refine blk_drewN ?_ _ | refine blk_drew ?_ | refine blk_alloc ?_ _)); refine blk_far ?_ NB101_109.out _; (with_reducible repeat (first | refine blk_drewN ?_ _ | refine blk_drew ?_ | refine blk_alloc ?_ _)); exact BK101.out) hb); replace BK109 := Aside0.mk (blk_below (g := gb109) (o := .cells #[.int .i64 t104, .slice Ao36 t105.length co36, .string t108] 27 (0, 0)) (by (with_reducible repeat (first | refine blk_drewN ?_ _ | refine blk_drew ?_ | refine blk_alloc ?_ _)); refine blk_put (cs := #[.int .i64 t104, .slice Ao36 t105.length co36, .string (⟨#[]⟩ : ByteArray)]) ?_ 2 _ rfl; (with_reducible repeat (first | refine blk_drewN ?_ _ | refine blk_drew ?_ | refine blk_alloc ?_ _)); refine blk_put (cs := #[.int .i64 t104, .slice none 0 0, .string (⟨#[]⟩ : ByteArray)]) ?_ 1 _ rfl; (with_reducible repeat (first | refine blk_drewN ?_ _ | refine blk_drew ?_ | refine blk_alloc ?_ _)); refine blk_put (cs := #[.int .i64 0, .slice none 0 0, .string (⟨#[]⟩ : ByteArray)]) ?_ 0 _ rfl; (with_reducible repeat (first | refine blk_drewN ?_ _ | refine blk_drew ?_ | refine blk_alloc ?_ _)); exact BK109.out) hb); replace HB := Bs_ hb; (try clear hb); (try clear hb2); (try clear hk); (try clear hi); obtain ⟨hcz38_0, hcz38_1, hcz38_2⟩ := c3_ BK101; obtain ⟨hfz38_0, hfz38_1, hfz38_2⟩ := f3_ BK101) | ((with_reducible refine gate_callee (f := 14) rfl ?_); refine goesL_ (some 37) rfl rfl Tryz.func14 (by kernel_rfl) rfl #[.agg #[.int .i64 a0_0, .slice A0_1 l0_1.length c0_1, .string a0_2], .int .i64 a1] rfl Ga_ ?_; (with_reducible refine (reredosref05_At.calls k a0_0 _ _ l0_1 a0_2 a1 t112 t113 _ ?side1 ?side2 A9.out).mono ?_); (case side1 => exact Pc_ (Kd.C_below HR0_1.out HB.out)); (case side2 => exact HC0_1.out); rintro e w39 ⟨rfl, hb⟩; refine ⟨_, rfl, ?_⟩; replace HO107 := Aside0.mk (Kd.V_below (Pv_ HO107.out) hb); replace BK101 := kb_ BK101 hb; replace BK109 := kb_ BK109 hb; replace HB := Bs_ hb; (try clear hb); (try clear hb2); (try clear hk); (try clear hi); obtain ⟨hcz40_0, hcz40_1, hcz40_2⟩ := c3_ BK109; obtain ⟨hfz40_0, hfz40_1, hfz40_2⟩ := f3_ BK109) | ((with_reducible refine gate_callee (f := 15) rfl ?_); refine goesL_ (some 42) rfl rfl Tryz.func15 (by kernel_rfl) rfl #[.agg #[.int .i64 t104, .slice Ao36 t105.length co36, .string t108]] rfl Ga_ ?_; (with_reducible refine (typed_Typed_Val.calls k t104 _ _ t105 t108 t114 t117 t120 _ ?side1 ?side2 A10.out ?side3).mono ?_); (case side1 => exact Pc_ ((Kd.V_reads' HO107.out).2.2)); (case side2 => exact (Kd.V_reads' HO107.out).2.1); (case side3 => first | exact hG | exact Glob.below hG Bl_); rintro e w41 ⟨v115, v118, rfl, ho0, ho1, hb⟩; refine ⟨_, rfl, ?_⟩; replace HO107 := Aside0.mk (Kd.V_mono (Kd.V_told (Kd.V_told (Kd.V_old (Pv_ HO107.out) hb) (Kd.R_base ho0)) (Kd.R_base ho1)) (fun _ h_ => h_.1)); have HO116 := Aside0.mk (Kd.R_lower ho0 Bz_); have HO119 := Aside0.mk (Kd.R_lower ho1 Bz_); replace BK101 := kb_ BK101 hb; replace BK109 := kb_ BK109 hb; replace HB := Bs_ hb; (try clear hb); (try clear hb2); (try clear hk); (try clear hi); (try clear ho0); (try clear ho1)) | ((with_reducible refine gate_dst (N := 13) rfl ?_); refine bx_ 13 #[.slice none 0 0, .slice none 0 0] 34 ?_; intro gb121 hg w42 hbox hb; replace HO107 := Aside0.mk (Kd.V_below (Kd.V_elderB (Pv_ HO107.out) gb121 (Nat.le_of_eq hg.symm)) hb); replace HO116 := Aside0.mk (Kd.R_below (Pr_ HO116.out) hb); replace HO119 := Aside0.mk (Kd.R_below (Pr_ HO119.out) hb); have BK121 := Aside0.mk (hbox); have GW121 := (Bg_ hg : Aside0 (w.heap.size ≤ gb121)); have GE121 := (Bg_ hg : Aside0 (w.heap.size ≤ gb121)); replace HB := Bs_ hb; have NB101_121 := nl_ hg BK101; have NB121_101 := ng_ hg BK101; replace BK101 := kb_ BK101 hb; have NB109_121 := nl_ hg BK109; have NB121_109 := ng_ hg BK109; replace BK109 := kb_ BK109 hb; clear hb hbox hg; obtain ⟨Ao43, co43, eo43⟩ := Kd.R_slice HO116.out; subst eo43; have hnb44 := NB121_101.out; have hnc44 := NB101_121.out; have hnb45 := NB121_109.out; have hnc45 := NB109_121.out; obtain ⟨hcz46_0, hcz46_1⟩ := c2_ BK121; obtain ⟨hfz46_0, hfz46_1⟩ := f2_ BK121; obtain ⟨Ao47, co47, eo47⟩ := Kd.R_slice HO119.out; subst eo47) | ((with_reducible refine gate_store (t := 34) (p := 13) rfl ?_); refine store_event (t := 34) (p := 13) (v := ?vo_w48) (w1 := ((w42.setCell ⟨gb121, 0, none⟩ (.slice Ao43 t114.length co43)).setCell ⟨gb121, 1, none⟩ (.slice Ao47 t117.length co47))) ?hg ?ho ?hn ?hr ?_; (case ho => rfl); (case hg => rfl); (case hn => rfl); (case hr => first | (go_simp; done) | (go_simp; rfl)); intro w48 hw; have n0_ : Aside0 (Kd.V (Kd.int .i64) 3 w48 w.heap.size (fun k_ => some k_ ≠ (.slice Ao43 t114.length co43 : Value).ownBlock ∧ some k_ ≠ (.slice Ao47 t117.length co47 : Value).ownBlock ∧ k_ ≠ gb101 ∧ k_ ≠ gb109 ∧ k_ ≠ gb121) (.slice Ao36 t105.length co36) t105) := ⟨(by rw [hw]; exact (by (with_reducible repeat (first | apply Kd.V_alloc | apply Kd.V_drewN | apply Kd.V_drew)); exact Kd.V_mono (Kd.V_far (p := ⟨gb121, 1, none⟩) (Kd.V_far (p := ⟨gb121, 0, none⟩) (Kd.V_mono HO107.out (fun k_ hk => (⟨hk, hk.2⟩ : _ ∧ k_ ≠ gb121))) (fun _ hk => hk.2) (.slice Ao43 t114.length co43)) (fun _ hk => hk.2) (.slice Ao47 t117.length co47)) (fun _ hk => ⟨hk.1.1.1.2, ⟨hk.1.1.2, ⟨hk.1.1.1.1.1, ⟨hk.1.1.1.1.2, hk.1.2⟩⟩⟩⟩)))⟩; have n1_ : Aside0 (Kd.R (Kd.int .i64) 3 w48 w.heap.size (fun _ => True) (.slice Ao43 t114.length co43) t114) := ⟨(by rw [hw]; exact (by (with_reducible repeat (first | apply Kd.R_alloc | apply Kd.R_drewN | apply Kd.R_drew)); exact Kd.R_mono (Kd.R_far (p := ⟨gb121, 1, none⟩) (Kd.R_far (p := ⟨gb121, 0, none⟩) (Kd.R_types HO116.out BK121.out (by decide)) (fun _ hk => hk.2) (.slice Ao43 t114.length co43)) (fun _ hk => hk.2) (.slice Ao47 t117.length co47)) (fun _ hk => trivial)))⟩; have n2_ : Aside0 (Kd.R Kd.string 9 w48 w.heap.size (fun _ => True) (.slice Ao47 t117.length co47) t117) := ⟨(by rw [hw]; exact (by (with_reducible repeat (first | apply Kd.R_alloc | apply Kd.R_drewN | apply Kd.R_drew)); exact Kd.R_mono (Kd.R_far (p := ⟨gb121, 1, none⟩) (Kd.R_far (p := ⟨gb121, 0, none⟩) (Kd.R_types HO119.out BK121.out (by decide)) (fun _ hk => hk.2) (.slice Ao43 t114.length co43)) (fun _ hk => hk.2) (.slice Ao47 t117.length co47)) (fun _ hk => trivial)))⟩; have n3_ : Aside0 (w48.heap[gb101]? = some (.cells #[.int .i64 a0_0, .slice A0_1 l0_1.length c0_1, .string a0_2] 24 (0, 0))) := ⟨(by rw [hw]; exact (by (with_reducible repeat (first | refine blk_drewN ?_ _ | refine blk_drew ?_ | refine blk_alloc ?_ _)); refine blk_far ?_ NB101_121.out _; (with_reducible repeat (first | refine blk_drewN ?_ _ | refine blk_drew ?_ | refine blk_alloc ?_ _)); refine blk_far ?_ NB101_121.out _; (with_reducible repeat (first | refine blk_drewN ?_ _ | refine blk_drew ?_ | refine blk_alloc ?_ _)); exact BK101.out))⟩; have n4_ : Aside0 (w48.heap[gb109]? = some (.cells #[.int .i64 t104, .slice Ao36 t105.length co36, .string t108] 27 (0, 0))) := ⟨(by rw [hw]; exact (by (with_reducible repeat (first | refine blk_drewN ?_ _ | refine blk_drew ?_ | refine blk_alloc ?_ _)); refine blk_far ?_ NB109_121.out _; (with_reducible repeat (first | refine blk_drewN ?_ _ | refine blk_drew ?_ | refine blk_alloc ?_ _)); refine blk_far ?_ NB109_121.out _; (with_reducible repeat (first | refine blk_drewN ?_ _ | refine blk_drew ?_ | refine blk_alloc ?_ _)); exact BK109.out))⟩; have n5_ : Aside0 (w48.heap[gb121]? = some (.cells #[.slice Ao43 t114.length co43, .slice Ao47 t117.length co47] 34 (0, 0))) := ⟨(by rw [hw]; exact (by (with_reducible repeat (first | refine blk_drewN ?_ _ | refine blk_drew ?_ | refine blk_alloc ?_ _)); refine blk_put (cs := #[.slice Ao43 t114.length co43, .slice none 0 0]) ?_ 1 _ rfl; (with_reducible repeat (first | refine blk_drewN ?_ _ | refine blk_drew ?_ | refine blk_alloc ?_ _)); refine blk_put (cs := #[.slice none 0 0, .slice none 0 0]) ?_ 0 _ rfl; (with_reducible repeat (first | refine blk_drewN ?_ _ | refine blk_drew ?_ | refine blk_alloc ?_ _)); exact BK121.out))⟩; have n6_ : Aside0 (Below w.heap.size w w48) := ⟨(by rw [hw]; exact Bl_)⟩; clear hw; clear HO107; clear HO116; clear HO119; clear BK101; clear BK109; clear BK121; clear HB; have HO107 := n0_; have HO116 := n1_; have HO119 := n2_; have BK101 := n3_; have BK109 := n4_; have BK121 := n5_; have HB := n6_; clear n0_ n1_ n2_ n3_ n4_ n5_ n6_; obtain ⟨hcz49_0, hcz49_1, hcz49_2⟩ := c3_ BK101; obtain ⟨hfz49_0, hfz49_1, hfz49_2⟩ := f3_ BK101) | ((with_reducible refine gate_callee (f := 16) rfl ?_); refine goesL_ (some 47) rfl rfl Tryz.func16 (by kernel_rfl) rfl #[.agg #[.int .i64 a0_0, .slice A0_1 l0_1.length c0_1, .string a0_2]] rfl Ga_ ?_; (with_reducible refine (reredosref05_Val.calls k a0_0 (fun k_ => k_ < w.heap.size) _ _ l0_1 a0_2 t122 t125 t128 _ ?side1 A11.out).mono ?_); (case side1 => exact Kd.V_mk HC0_1.out (Kd.F_below (Kd.C_F (Kd.heap_int .i64) HR0_1.out) Bl_)); rintro e w50 ⟨v123, v126, rfl, ho0, ho1, hb⟩; refine ⟨_, rfl, ?_⟩; replace HO107 := Aside0.mk (Kd.V_elder' (Pv_ HO107.out) (Kd.R_base ho1) hb); have HO124 := Aside0.mk (Kd.V_lower (Kd.V_mono (ok' := fun k_ => some k_ ≠ (v126 : Value).ownBlock ∧ some k_ ≠ (.slice Ao43 t114.length co43 : Value).ownBlock ∧ some k_ ≠ (.slice Ao47 t117.length co47 : Value).ownBlock ∧ k_ ≠ gb101 ∧ k_ ≠ gb109 ∧ k_ ≠ gb121) ho0 (fun k_ hk_ => ⟨hk_.2, Or.elim hk_.1 (fun hs_ => fun e_ => Nat.not_le.2 hs_ (Kd.R_base HO116.out k_ e_.symm)) (fun hn_ => (Kd.fresh' (Kd.R_lt (Pr_ HO116.out)) k_ hn_)), Or.elim hk_.1 (fun hs_ => fun e_ => Nat.not_le.2 hs_ (Kd.R_base HO119.out k_ e_.symm)) (fun hn_ => (Kd.fresh' (Kd.R_lt (Pr_ HO119.out)) k_ hn_)), Or.elim hk_.1 (fun hs_ => fun e_ => Nat.not_le.2 hs_ (by rw [e_]; exact GW101.out)) (fun hn_ => (Kd.freshB (g := gb101) (o := .cells #[.int .i64 a0_0, .slice A0_1 l0_1.length c0_1, .string a0_2] 24 (0, 0)) (Bk_ BK101.out) k_ hn_)), Or.elim hk_.1 (fun hs_ => fun e_ => Nat.not_le.2 hs_ (by rw [e_]; exact GW109.out)) (fun hn_ => (Kd.freshB (g := gb109) (o := .cells #[.int .i64 t104, .slice Ao36 t105.length co36, .string t108] 27 (0, 0)) (Bk_ BK109.out) k_ hn_)), Or.elim hk_.1 (fun hs_ => fun e_ => Nat.not_le.2 hs_ (by rw [e_]; exact GW121.out)) (fun hn_ => (Kd.freshB (g := gb121) (o := .cells #[.slice Ao43 t114.length co43, .slice Ao47 t117.length co47] 34 (0, 0)) (Bk_ BK121.out) k_ hn_))⟩)) Bz_); replace HO116 := Aside0.mk (Kd.R_below (Pr_ HO116.out) hb); have HO127 := Aside0.mk (Kd.R_lower (Kd.R_new' (Kd.R_mono (ok' := fun k_ => True) ho1 (fun _ hk_ => trivial)) (Kd.R_lt (Pr_ HO119.out))) Bz_); replace HO119 := Aside0.mk (Kd.R_elder' (Pr_ HO119.out) (Kd.R_base ho1) hb); replace BK101 := kb_ BK101 hb; replace BK109 := kb_ BK109 hb; replace BK121 := kb_ BK121 hb; replace HB := Bs_ hb; (try clear hb); (try clear hb2); (try clear hk); (try clear hi); (try clear ho0); (try clear ho1)) | ((with_reducible refine gate_dst (N := 15) rfl ?_); refine bx_ 15 #[.slice none 0 0, .slice none 0 0] 34 ?_; intro gb129 hg w51 hbox hb; replace HO107 := Aside0.mk (Kd.V_below (Kd.V_elderB (Pv_ HO107.out) gb129 (Nat.le_of_eq hg.symm)) hb); replace HO116 := Aside0.mk (Kd.R_below (Pr_ HO116.out) hb); replace HO119 := Aside0.mk (Kd.R_below (Pr_ HO119.out) hb); replace HO124 := Aside0.mk (Kd.V_below (Kd.V_elderB (Pv_ HO124.out) gb129 (Nat.le_of_eq hg.symm)) hb); replace HO127 := Aside0.mk (Kd.R_below (Pr_ HO127.out) hb); have BK129 := Aside0.mk (hbox); have GW129 := (Bg_ hg : Aside0 (w.heap.size ≤ gb129)); have GE129 := (Bg_ hg : Aside0 (w.heap.size ≤ gb129)); replace HB := Bs_ hb; have NB101_129 := nl_ hg BK101; have NB129_101 := ng_ hg BK101; replace BK101 := kb_ BK101 hb; have NB109_129 := nl_ hg BK109; have NB129_109 := ng_ hg BK109; replace BK109 := kb_ BK109 hb; have NB121_129 := nl_ hg BK121; have NB129_121 := ng_ hg BK121; replace BK121 := kb_ BK121 hb; clear hb hbox hg; obtain ⟨Ao52, co52, eo52⟩ := Kd.V_slice HO124.out; subst eo52; have hnb53 := NB129_101.out; have hnc53 := NB101_129.out; have hnb54 := NB129_109.out; have hnc54 := NB109_129.out; have hnb55 := NB129_121.out; have hnc55 := NB121_129.out; obtain ⟨hcz56_0, hcz56_1⟩ := c2_ BK129; obtain ⟨hfz56_0, hfz56_1⟩ := f2_ BK129; obtain ⟨Ao57, co57, eo57⟩ := Kd.R_slice HO127.out; subst eo57; obtain ⟨hcz58_0, hcz58_1, hcz58_2⟩ := c3_ BK109; obtain ⟨hfz58_0, hfz58_1, hfz58_2⟩ := f3_ BK109) | ((with_reducible refine gate_callee (f := 17) rfl ?_); refine goesL_ (some 53) rfl rfl Tryz.func17 (by kernel_rfl) rfl #[.agg #[.int .i64 t104, .slice Ao36 t105.length co36, .string t108], .int .i64 a2] rfl Ga_ ?_; (with_reducible refine (typed_Typed_To.calls k t104 _ _ t105 t108 a2 t130 t131 t134 t135 _ ?side1 ?side2 A12.out).mono ?_); (case side1 => refine (Kd.V_reads' (e := 3) (base := w.heap.size) (ok := fun k_ => (((some k_ ≠ (.slice Ao43 t114.length co43 : Value).ownBlock ∧ (some k_ ≠ (.slice Ao47 t117.length co47 : Value).ownBlock ∧ (k_ ≠ gb101 ∧ (k_ ≠ gb109 ∧ k_ ≠ gb121)))) ∧ some k_ ≠ (.slice Ao57 t125.length co57 : Value).ownBlock) ∧ k_ ≠ gb129)) (n := t105.length) (c := co36) ?_).2.2; exact (by (with_reducible repeat (first | apply Kd.V_alloc | apply Kd.V_drewN | apply Kd.V_drew)); exact (Kd.V_mono (Kd.V_far (p := ⟨gb129, 1, none⟩) (Kd.V_far (p := ⟨gb129, 0, none⟩) (Kd.V_mono HO107.out (fun k_ hk => (⟨hk, hk.2⟩ : _ ∧ k_ ≠ gb129))) (fun _ hk => hk.2) (.slice Ao52 t122.length co52)) (fun _ hk => hk.2) (.slice Ao57 t125.length co57)) (fun _ h_ => h_.1)))); (case side2 => exact (Kd.V_reads' HO107.out).2.1); rintro e w59 ⟨v132, rfl, ho0, hb⟩; refine ⟨_, rfl, ?_⟩; replace HO107 := Aside0.mk (Kd.V_elder' (by (with_reducible repeat (first | apply Kd.V_alloc | apply Kd.V_drewN | apply Kd.V_drew)); exact (Kd.V_mono (Kd.V_far (p := ⟨gb129, 1, none⟩) (Kd.V_far (p := ⟨gb129, 0, none⟩) (Kd.V_mono HO107.out (fun k_ hk => (⟨hk, hk.2⟩ : _ ∧ k_ ≠ gb129))) (fun _ hk => hk.2) (.slice Ao52 t122.length co52)) (fun _ hk => hk.2) (.slice Ao57 t125.length co57)) (fun _ h_ => h_.1))) (Kd.R_base ho0) hb); replace HO119 := Aside0.mk (Kd.R_below (by (with_reducible repeat (first | apply Kd.R_alloc | apply Kd.R_drewN | apply Kd.R_drew)); exact (Kd.R_mono (Kd.R_far (p := ⟨gb129, 1, none⟩) (Kd.R_far (p := ⟨gb129, 0, none⟩) (Kd.R_types HO119.out BK129.out (by decide)) (fun _ hk => hk.2) (.slice Ao52 t122.length co52)) (fun _ hk => hk.2) (.slice Ao57 t125.length co57)) (fun _ h_ => h_.1))) hb); replace HO124 := Aside0.mk (Kd.V_elder' (by (with_reducible repeat (first | apply Kd.V_alloc | apply Kd.V_drewN | apply Kd.V_drew)); exact (Kd.V_mono (Kd.V_far (p := ⟨gb129, 1, none⟩) (Kd.V_far (p := ⟨gb129, 0, none⟩) (Kd.V_mono HO124.out (fun k_ hk => (⟨hk, hk.2⟩ : _ ∧ k_ ≠ gb129))) (fun _ hk => hk.2) (.slice Ao52 t122.length co52)) (fun _ hk => hk.2) (.slice Ao57 t125.length co57)) (fun _ h_ => h_.1))) (Kd.R_base ho0) hb); replace HO127 := Aside0.mk (Kd.R_below (by (with_reducible repeat (first | apply Kd.R_alloc | apply Kd.R_drewN | apply Kd.R_drew)); exact (Kd.R_mono (Kd.R_far (p := ⟨gb129, 1, none⟩) (Kd.R_far (p := ⟨gb129, 0, none⟩) (Kd.R_types HO127.out BK129.out (by decide)) (fun _ hk => hk.2) (.slice Ao52 t122.length co52)) (fun _ hk => hk.2) (.slice Ao57 t125.length co57)) (fun _ h_ => h_.1))) hb); have HO133 := Aside0.mk (Kd.R_lower (Kd.R_new' ho0 (Kd.R_lt (by (with_reducible repeat (first | apply Kd.R_alloc | apply Kd.R_drewN | apply Kd.R_drew)); exact (Kd.R_mono (Kd.R_far (p := ⟨gb129, 1, none⟩) (Kd.R_far (p := ⟨gb129, 0, none⟩) (Kd.R_types HO116.out BK129.out (by decide)) (fun _ hk => hk.2) (.slice Ao52 t122.length co52)) (fun _ hk => hk.2) (.slice Ao57 t125.length co57)) (fun _ h_ => h_.1))))) Bz_); replace HO116 := Aside0.mk (Kd.R_elder' (by (with_reducible repeat (first | apply Kd.R_alloc | apply Kd.R_drewN | apply Kd.R_drew)); exact (Kd.R_mono (Kd.R_far (p := ⟨gb129, 1, none⟩) (Kd.R_far (p := ⟨gb129, 0, none⟩) (Kd.R_types HO116.out BK129.out (by decide)) (fun _ hk => hk.2) (.slice Ao52 t122.length co52)) (fun _ hk => hk.2) (.slice Ao57 t125.length co57)) (fun _ h_ => h_.1))) (Kd.R_base ho0) hb); replace BK101 := Aside0.mk (blk_below (g := gb101) (o := .cells #[.int .i64 a0_0, .slice A0_1 l0_1.length c0_1, .string a0_2] 24 (0, 0)) (by (with_reducible repeat (first | refine blk_drewN ?_ _ | refine blk_drew ?_ | refine blk_alloc ?_ _)); refine blk_far ?_ NB101_129.out _; (with_reducible repeat (first | refine blk_drewN ?_ _ | refine blk_drew ?_ | refine blk_alloc ?_ _)); refine blk_far ?_ NB101_129.out _; (with_reducible repeat (first | refine blk_drewN ?_ _ | refine blk_drew ?_ | refine blk_alloc ?_ _)); exact BK101.out) hb); replace BK109 := Aside0.mk (blk_below (g := gb109) (o := .cells #[.int .i64 t104, .slice Ao36 t105.length co36, .string t108] 27 (0, 0)) (by (with_reducible repeat (first | refine blk_drewN ?_ _ | refine blk_drew ?_ | refine blk_alloc ?_ _)); refine blk_far ?_ NB109_129.out _; (with_reducible repeat (first | refine blk_drewN ?_ _ | refine blk_drew ?_ | refine blk_alloc ?_ _)); refine blk_far ?_ NB109_129.out _; (with_reducible repeat (first | refine blk_drewN ?_ _ | refine blk_drew ?_ | refine blk_alloc ?_ _)); exact BK109.out) hb); replace BK121 := Aside0.mk (blk_below (g := gb121) (o := .cells #[.slice Ao43 t114.length co43, .slice Ao47 t117.length co47] 34 (0, 0)) (by (with_reducible repeat (first | refine blk_drewN ?_ _ | refine blk_drew ?_ | refine blk_alloc ?_ _)); refine blk_far ?_ NB121_129.out _; (with_reducible repeat (first | refine blk_drewN ?_ _ | refine blk_drew ?_ | refine blk_alloc ?_ _)); refine blk_far ?_ NB121_129.out _; (with_reducible repeat (first | refine blk_drewN ?_ _ | refine blk_drew ?_ | refine blk_alloc ?_ _)); exact BK121.out) hb); replace BK129 := Aside0.mk (blk_below (g := gb129) (o := .cells #[.slice Ao52 t122.length co52, .slice Ao57 t125.length co57] 34 (0, 0)) (by (with_reducible repeat (first | refine blk_drewN ?_ _ | refine blk_drew ?_ | refine blk_alloc ?_ _)); refine blk_put (cs := #[.slice Ao52 t122.length co52, .slice none 0 0]) ?_ 1 _ rfl; (with_reducible repeat (first | refine blk_drewN ?_ _ | refine blk_drew ?_ | refine blk_alloc ?_ _)); refine blk_put (cs := #[.slice none 0 0, .slice none 0 0]) ?_ 0 _ rfl; (with_reducible repeat (first | refine blk_drewN ?_ _ | refine blk_drew ?_ | refine blk_alloc ?_ _)); exact BK129.out) hb); replace HB := Bs_ hb; (try clear hb); (try clear hb2); (try clear hk); (try clear hi); (try clear ho0)) | ((with_reducible refine gate_dst (N := 17) rfl ?_); refine bx_ 17 #[.int .i64 0, .slice none 0 0, .string (⟨#[]⟩ : ByteArray)] 27 ?_; intro gb136 hg w60 hbox hb; replace HO107 := Aside0.mk (Kd.V_below (Kd.V_elderB (Pv_ HO107.out) gb136 (Nat.le_of_eq hg.symm)) hb); replace HO116 := Aside0.mk (Kd.R_below (Pr_ HO116.out) hb); replace HO119 := Aside0.mk (Kd.R_below (Pr_ HO119.out) hb); replace HO124 := Aside0.mk (Kd.V_below (Kd.V_elderB (Pv_ HO124.out) gb136 (Nat.le_of_eq hg.symm)) hb); replace HO127 := Aside0.mk (Kd.R_below (Pr_ HO127.out) hb); replace HO133 := Aside0.mk (Kd.R_below (Pr_ HO133.out) hb); have BK136 := Aside0.mk (hbox); have GW136 := (Bg_ hg : Aside0 (w.heap.size ≤ gb136)); have GE136 := (Bg_ hg : Aside0 (w.heap.size ≤ gb136)); replace HB := Bs_ hb; have NB101_136 := nl_ hg BK101; have NB136_101 := ng_ hg BK101; replace BK101 := kb_ BK101 hb; have NB109_136 := nl_ hg BK109; have NB136_109 := ng_ hg BK109; replace BK109 := kb_ BK109 hb; have NB121_136 := nl_ hg BK121; have NB136_121 := ng_ hg BK121; replace BK121 := kb_ BK121 hb; have NB129_136 := nl_ hg BK129; have NB136_129 := ng_ hg BK129; replace BK129 := kb_ BK129 hb; clear hb hbox hg; have hnb61 := NB136_101.out; have hnc61 := NB101_136.out; have hnb62 := NB136_109.out; have hnc62 := NB109_136.out; have hnb63 := NB136_121.out; have hnc63 := NB121_136.out; have hnb64 := NB136_129.out; have hnc64 := NB129_136.out; obtain ⟨hcz65_0, hcz65_1, hcz65_2⟩ := c3_ BK136; obtain ⟨hfz65_0, hfz65_1, hfz65_2⟩ := f3_ BK136; obtain ⟨Ao66, co66, eo66⟩ := Kd.R_slice HO133.out; subst eo66) | ((with_reducible refine gate_store (t := 27) (p := 17) rfl ?_); refine store_event (t := 27) (p := 17) (v := ?vo_w67) (w1 := (((w60.setCell ⟨gb136, 0, none⟩ (.int .i64 t130)).setCell ⟨gb136, 1, none⟩ (.slice Ao66 t131.length co66)).setCell ⟨gb136, 2, none⟩ (.string t134))) ?hg ?ho ?hn ?hr ?_; (case ho => rfl); (case hg => rfl); (case hn => rfl); (case hr => first | (go_simp; done) | (go_simp; rfl)); intro w67 hw; have n0_ : Aside0 (Kd.V (Kd.int .i64) 3 w67 w.heap.size (fun k_ => some k_ ≠ (.slice Ao43 t114.length co43 : Value).ownBlock ∧ some k_ ≠ (.slice Ao47 t117.length co47 : Value).ownBlock ∧ some k_ ≠ (.slice Ao57 t125.length co57 : Value).ownBlock ∧ some k_ ≠ (.slice Ao66 t131.length co66 : Value).ownBlock ∧ k_ ≠ gb101 ∧ k_ ≠ gb109 ∧ k_ ≠ gb121 ∧ k_ ≠ gb129 ∧ k_ ≠ gb136) (.slice Ao36 t105.length co36) t105) := ⟨(by rw [hw]; exact (by (with_reducible repeat (first | apply Kd.V_alloc | apply Kd.V_drewN | apply Kd.V_drew)); exact Kd.V_mono (Kd.V_far (p := ⟨gb136, 2, none⟩) (Kd.V_far (p := ⟨gb136, 1, none⟩) (Kd.V_far (p := ⟨gb136, 0, none⟩) (Kd.V_mono HO107.out (fun k_ hk => (⟨hk, hk.2⟩ : _ ∧ k_ ≠ gb136))) (fun _ hk => hk.2) (.int .i64 t130)) (fun _ hk => hk.2) (.slice Ao66 t131.length co66)) (fun _ hk => hk.2) (.string t134)) (fun _ hk => ⟨hk.1.1.1.1.1.1, ⟨hk.1.1.1.1.1.2.1, ⟨hk.1.1.1.1.2, ⟨hk.1.1.2, ⟨hk.1.1.1.1.1.2.2.1, ⟨hk.1.1.1.1.1.2.2.2.1, ⟨hk.1.1.1.1.1.2.2.2.2, ⟨hk.1.1.1.2, hk.1.2⟩⟩⟩⟩⟩⟩⟩⟩)))⟩; have n1_ : Aside0 (Kd.R (Kd.int .i64) 3 w67 w.heap.size (fun k_ => some k_ ≠ (.slice Ao66 t131.length co66 : Value).ownBlock) (.slice Ao43 t114.length co43) t114) := ⟨(by rw [hw]; exact (by (with_reducible repeat (first | apply Kd.R_alloc | apply Kd.R_drewN | apply Kd.R_drew)); exact Kd.R_mono (Kd.R_far (p := ⟨gb136, 2, none⟩) (Kd.R_far (p := ⟨gb136, 1, none⟩) (Kd.R_far (p := ⟨gb136, 0, none⟩) (Kd.R_types HO116.out BK136.out (by decide)) (fun _ hk => hk.2) (.int .i64 t130)) (fun _ hk => hk.2) (.slice Ao66 t131.length co66)) (fun _ hk => hk.2) (.string t134)) (fun _ hk => hk.1.2)))⟩; have n2_ : Aside0 (Kd.R Kd.string 9 w67 w.heap.size (fun k_ => some k_ ≠ (.slice Ao57 t125.length co57 : Value).ownBlock) (.slice Ao47 t117.length co47) t117) := ⟨(by rw [hw]; exact (by (with_reducible repeat (first | apply Kd.R_alloc | apply Kd.R_drewN | apply Kd.R_drew)); exact Kd.R_mono (Kd.R_far (p := ⟨gb136, 2, none⟩) (Kd.R_far (p := ⟨gb136, 1, none⟩) (Kd.R_far (p := ⟨gb136, 0, none⟩) (Kd.R_types HO119.out BK136.out (by decide)) (fun _ hk => hk.2) (.int .i64 t130)) (fun _ hk => hk.2) (.slice Ao66 t131.length co66)) (fun _ hk => hk.2) (.string t134)) (fun _ hk => hk.1.2)))⟩; have n3_ : Aside0 (Kd.V (Kd.int .i64) 3 w67 w.heap.size (fun k_ => some k_ ≠ (.slice Ao43 t114.length co43 : Value).ownBlock ∧ some k_ ≠ (.slice Ao47 t117.length co47 : Value).ownBlock ∧ some k_ ≠ (.slice Ao57 t125.length co57 : Value).ownBlock ∧ some k_ ≠ (.slice Ao66 t131.length co66 : Value).ownBlock ∧ k_ ≠ gb101 ∧ k_ ≠ gb109 ∧ k_ ≠ gb121 ∧ k_ ≠ gb129 ∧ k_ ≠ gb136) (.slice Ao52 t122.length co52) t122) := ⟨(by rw [hw]; exact (by (with_reducible repeat (first | apply Kd.V_alloc | apply Kd.V_drewN | apply Kd.V_drew)); exact Kd.V_mono (Kd.V_far (p := ⟨gb136, 2, none⟩) (Kd.V_far (p := ⟨gb136, 1, none⟩) (Kd.V_far (p := ⟨gb136, 0, none⟩) (Kd.V_mono HO124.out (fun k_ hk => (⟨hk, hk.2⟩ : _ ∧ k_ ≠ gb136))) (fun _ hk => hk.2) (.int .i64 t130)) (fun _ hk => hk.2) (.slice Ao66 t131.length co66)) (fun _ hk => hk.2) (.string t134)) (fun _ hk => ⟨hk.1.1.1.1.2.1, ⟨hk.1.1.1.1.2.2.1, ⟨hk.1.1.1.1.1, ⟨hk.1.1.2, ⟨hk.1.1.1.1.2.2.2.1, ⟨hk.1.1.1.1.2.2.2.2.1, ⟨hk.1.1.1.1.2.2.2.2.2, ⟨hk.1.1.1.2, hk.1.2⟩⟩⟩⟩⟩⟩⟩⟩)))⟩; have n4_ : Aside0 (Kd.R Kd.string 9 w67 w.heap.size (fun k_ => some k_ ≠ (.slice Ao47 t117.length co47 : Value).ownBlock) (.slice Ao57 t125.length co57) t125) := ⟨(by rw [hw]; exact (by (with_reducible repeat (first | apply Kd.R_alloc | apply Kd.R_drewN | apply Kd.R_drew)); exact Kd.R_mono (Kd.R_far (p := ⟨gb136, 2, none⟩) (Kd.R_far (p := ⟨gb136, 1, none⟩) (Kd.R_far (p := ⟨gb136, 0, none⟩) (Kd.R_types HO127.out BK136.out (by decide)) (fun _ hk => hk.2) (.int .i64 t130)) (fun _ hk => hk.2) (.slice Ao66 t131.length co66)) (fun _ hk => hk.2) (.string t134)) (fun _ hk => hk.1.2)))⟩; have n5_ : Aside0 (Kd.R (Kd.int .i64) 3 w67 w.heap.size (fun k_ => some k_ ≠ (.slice Ao43 t114.length co43 : Value).ownBlock) (.slice Ao66 t131.length co66) t131) := ⟨(by rw [hw]; exact (by (with_reducible repeat (first | apply Kd.R_alloc | apply Kd.R_drewN | apply Kd.R_drew)); exact Kd.R_mono (Kd.R_far (p := ⟨gb136, 2, none⟩) (Kd.R_far (p := ⟨gb136, 1, none⟩) (Kd.R_far (p := ⟨gb136, 0, none⟩) (Kd.R_types HO133.out BK136.out (by decide)) (fun _ hk => hk.2) (.int .i64 t130)) (fun _ hk => hk.2) (.slice Ao66 t131.length co66)) (fun _ hk => hk.2) (.string t134)) (fun _ hk => hk.1.2)))⟩; have n6_ : Aside0 (w67.heap[gb101]? = some (.cells #[.int .i64 a0_0, .slice A0_1 l0_1.length c0_1, .string a0_2] 24 (0, 0))) := ⟨(by rw [hw]; exact (by (with_reducible repeat (first | refine blk_drewN ?_ _ | refine blk_drew ?_ | refine blk_alloc ?_ _)); refine blk_far ?_ NB101_136.out _; (with_reducible repeat (first | refine blk_drewN ?_ _ | refine blk_drew ?_ | refine blk_alloc ?_ _)); refine blk_far ?_ NB101_136.out _; (with_reducible repeat (first | refine blk_drewN ?_ _ | refine blk_drew ?_ | refine blk_alloc ?_ _)); refine blk_far ?_ NB101_136.out _; (with_reducible repeat (first | refine blk_drewN ?_ _ | refine blk_drew ?_ | refine blk_alloc ?_ _)); exact BK101.out))⟩; have n7_ : Aside0 (w67.heap[gb109]? = some (.cells #[.int .i64 t104, .slice Ao36 t105.length co36, .string t108] 27 (0, 0))) := ⟨(by rw [hw]; exact (by (with_reducible repeat (first | refine blk_drewN ?_ _ | refine blk_drew ?_ | refine blk_alloc ?_ _)); refine blk_far ?_ NB109_136.out _; (with_reducible repeat (first | refine blk_drewN ?_ _ | refine blk_drew ?_ | refine blk_alloc ?_ _)); refine blk_far ?_ NB109_136.out _; (with_reducible repeat (first | refine blk_drewN ?_ _ | refine blk_drew ?_ | refine blk_alloc ?_ _)); refine blk_far ?_ NB109_136.out _; (with_reducible repeat (first | refine blk_drewN ?_ _ | refine blk_drew ?_ | refine blk_alloc ?_ _)); exact BK109.out))⟩; have n8_ : Aside0 (w67.heap[gb121]? = some (.cells #[.slice Ao43 t114.length co43, .slice Ao47 t117.length co47] 34 (0, 0))) := ⟨(by rw [hw]; exact (by (with_reducible repeat (first | refine blk_drewN ?_ _ | refine blk_drew ?_ | refine blk_alloc ?_ _)); refine blk_far ?_ NB121_136.out _; (with_reducible repeat (first | refine blk_drewN ?_ _ | refine blk_drew ?_ | refine blk_alloc ?_ _)); refine blk_far ?_ NB121_136.out _; (with_reducible repeat (first | refine blk_drewN ?_ _ | refine blk_drew ?_ | refine blk_alloc ?_ _)); refine blk_far ?_ NB121_136.out _; (with_reducible repeat (first | refine blk_drewN ?_ _ | refine blk_drew ?_ | refine blk_alloc ?_ _)); exact BK121.out))⟩; have n9_ : Aside0 (w67.heap[gb129]? = some (.cells #[.slice Ao52 t122.length co52, .slice Ao57 t125.length co57] 34 (0, 0))) := ⟨(by rw [hw]; exact (by (with_reducible repeat (first | refine blk_drewN ?_ _ | refine blk_drew ?_ | refine blk_alloc ?_ _)); refine blk_far ?_ NB129_136.out _; (with_reducible repeat (first | refine blk_drewN ?_ _ | refine blk_drew ?_ | refine blk_alloc ?_ _)); refine blk_far ?_ NB129_136.out _; (with_reducible repeat (first | refine blk_drewN ?_ _ | refine blk_drew ?_ | refine blk_alloc ?_ _)); refine blk_far ?_ NB129_136.out _; (with_reducible repeat (first | refine blk_drewN ?_ _ | refine blk_drew ?_ | refine blk_alloc ?_ _)); exact BK129.out))⟩; have n10_ : Aside0 (w67.heap[gb136]? = some (.cells #[.int .i64 t130, .slice Ao66 t131.length co66, .string t134] 27 (0, 0))) := ⟨(by rw [hw]; exact (by (with_reducible repeat (first | refine blk_drewN ?_ _ | refine blk_drew ?_ | refine blk_alloc ?_ _)); refine blk_put (cs := #[.int .i64 t130, .slice Ao66 t131.length co66, .string (⟨#[]⟩ : ByteArray)]) ?_ 2 _ rfl; (with_reducible repeat (first | refine blk_drewN ?_ _ | refine blk_drew ?_ | refine blk_alloc ?_ _)); refine blk_put (cs := #[.int .i64 t130, .slice none 0 0, .string (⟨#[]⟩ : ByteArray)]) ?_ 1 _ rfl; (with_reducible repeat (first | refine blk_drewN ?_ _ | refine blk_drew ?_ | refine blk_alloc ?_ _)); refine blk_put (cs := #[.int .i64 0, .slice none 0 0, .string (⟨#[]⟩ : ByteArray)]) ?_ 0 _ rfl; (with_reducible repeat (first | refine blk_drewN ?_ _ | refine blk_drew ?_ | refine blk_alloc ?_ _)); exact BK136.out))⟩; have n11_ : Aside0 (Below w.heap.size w w67) := ⟨(by rw [hw]; exact Bl_)⟩; clear hw; clear HO107; clear HO116; clear HO119; clear HO124; clear HO127; clear HO133; clear BK101; clear BK109; clear BK121; clear BK129; clear BK136; clear HB; have HO107 := n0_; have HO116 := n1_; have HO119 := n2_; have HO124 := n3_; have HO127 := n4_; have HO133 := n5_; have BK101 := n6_; have BK109 := n7_; have BK121 := n8_; have BK129 := n9_; have BK136 := n10_; have HB := n11_; clear n0_ n1_ n2_ n3_ n4_ n5_ n6_ n7_ n8_ n9_ n10_ n11_; obtain ⟨hcz68_0, hcz68_1, hcz68_2⟩ := c3_ BK101; obtain ⟨hfz68_0, hfz68_1, hfz68_2⟩ := f3_ BK101) | ((with_reducible refine gate_callee (f := 18) rfl ?_); refine goesL_ (some 59) rfl rfl Tryz.func18 (by kernel_rfl) rfl #[.agg #[.int .i64 a0_0, .slice A0_1 l0_1.length c0_1, .string a0_2], .int .i64 a2] rfl Ga_ ?_; (with_reducible refine (reredosref05_To.calls k a0_0 (fun k_ => k_ < w.heap.size) _ _ l0_1 a0_2 a2 t137 t138 t141 t142 _ ?side1 A13.out).mono ?_); (case side1 => exact Kd.V_mk HC0_1.out (Kd.F_below (Kd.C_F (Kd.heap_int .i64) HR0_1.out) Bl_)); rintro e w69 ⟨v139, rfl, ho0, hb⟩; refine ⟨_, rfl, ?_⟩; replace HO107 := Aside0.mk (Kd.V_below (Pv_ HO107.out) hb); replace HO124 := Aside0.mk (Kd.V_below (Pv_ HO124.out) hb); have HO140 := Aside0.mk (Kd.V_lower (Kd.V_mono (ok' := fun k_ => some k_ ≠ (.slice Ao43 t114.length co43 : Value).ownBlock ∧ some k_ ≠ (.slice Ao47 t117.length co47 : Value).ownBlock ∧ some k_ ≠ (.slice Ao57 t125.length co57 : Value).ownBlock ∧ some k_ ≠ (.slice Ao66 t131.length co66 : Value).ownBlock ∧ k_ ≠ gb101 ∧ k_ ≠ gb109 ∧ k_ ≠ gb121 ∧ k_ ≠ gb129 ∧ k_ ≠ gb136) ho0 (fun k_ hk_ => ⟨Or.elim hk_ (fun hs_ => fun e_ => Nat.not_le.2 hs_ (Kd.R_base HO116.out k_ e_.symm)) (fun hn_ => (Kd.fresh' (Kd.R_lt (Pr_ HO116.out)) k_ hn_)), Or.elim hk_ (fun hs_ => fun e_ => Nat.not_le.2 hs_ (Kd.R_base HO119.out k_ e_.symm)) (fun hn_ => (Kd.fresh' (Kd.R_lt (Pr_ HO119.out)) k_ hn_)), Or.elim hk_ (fun hs_ => fun e_ => Nat.not_le.2 hs_ (Kd.R_base HO127.out k_ e_.symm)) (fun hn_ => (Kd.fresh' (Kd.R_lt (Pr_ HO127.out)) k_ hn_)), Or.elim hk_ (fun hs_ => fun e_ => Nat.not_le.2 hs_ (Kd.R_base HO133.out k_ e_.symm)) (fun hn_ => (Kd.fresh' (Kd.R_lt (Pr_ HO133.out)) k_ hn_)), Or.elim hk_ (fun hs_ => fun e_ => Nat.not_le.2 hs_ (by rw [e_]; exact GW101.out)) (fun hn_ => (Kd.freshB (g := gb101) (o := .cells #[.int .i64 a0_0, .slice A0_1 l0_1.length c0_1, .string a0_2] 24 (0, 0)) (Bk_ BK101.out) k_ hn_)), Or.elim hk_ (fun hs_ => fun e_ => Nat.not_le.2 hs_ (by rw [e_]; exact GW109.out)) (fun hn_ => (Kd.freshB (g := gb109) (o := .cells #[.int .i64 t104, .slice Ao36 t105.length co36, .string t108] 27 (0, 0)) (Bk_ BK109.out) k_ hn_)), Or.elim hk_ (fun hs_ => fun e_ => Nat.not_le.2 hs_ (by rw [e_]; exact GW121.out)) (fun hn_ => (Kd.freshB (g := gb121) (o := .cells #[.slice Ao43 t114.length co43, .slice Ao47 t117.length co47] 34 (0, 0)) (Bk_ BK121.out) k_ hn_)), Or.elim hk_ (fun hs_ => fun e_ => Nat.not_le.2 hs_ (by rw [e_]; exact GW129.out)) (fun hn_ => (Kd.freshB (g := gb129) (o := .cells #[.slice Ao52 t122.length co52, .slice Ao57 t125.length co57] 34 (0, 0)) (Bk_ BK129.out) k_ hn_)), Or.elim hk_ (fun hs_ => fun e_ => Nat.not_le.2 hs_ (by rw [e_]; exact GW136.out)) (fun hn_ => (Kd.freshB (g := gb136) (o := .cells #[.int .i64 t130, .slice Ao66 t131.length co66, .string t134] 27 (0, 0)) (Bk_ BK136.out) k_ hn_))⟩)) Bz_); replace HO116 := Aside0.mk (Kd.R_below (Pr_ HO116.out) hb); replace HO119 := Aside0.mk (Kd.R_below (Pr_ HO119.out) hb); replace HO127 := Aside0.mk (Kd.R_below (Pr_ HO127.out) hb); replace HO133 := Aside0.mk (Kd.R_below (Pr_ HO133.out) hb); replace BK101 := kb_ BK101 hb; replace BK109 := kb_ BK109 hb; replace BK121 := kb_ BK121 hb; replace BK129 := kb_ BK129 hb; replace BK136 := kb_ BK136 hb; replace HB := Bs_ hb; (try clear hb); (try clear hb2); (try clear hk); (try clear hi); (try clear ho0)) | ((with_reducible refine gate_dst (N := 19) rfl ?_); refine bx_ 19 #[.int .i64 0, .slice none 0 0, .string (⟨#[]⟩ : ByteArray)] 24 ?_; intro gb143 hg w70 hbox hb; replace HO107 := Aside0.mk (Kd.V_below (Kd.V_elderB (Pv_ HO107.out) gb143 (Nat.le_of_eq hg.symm)) hb); replace HO116 := Aside0.mk (Kd.R_below (Pr_ HO116.out) hb); replace HO119 := Aside0.mk (Kd.R_below (Pr_ HO119.out) hb); replace HO124 := Aside0.mk (Kd.V_below (Kd.V_elderB (Pv_ HO124.out) gb143 (Nat.le_of_eq hg.symm)) hb); replace HO127 := Aside0.mk (Kd.R_below (Pr_ HO127.out) hb); replace HO133 := Aside0.mk (Kd.R_below (Pr_ HO133.out) hb); replace HO140 := Aside0.mk (Kd.V_below (Kd.V_elderB (Pv_ HO140.out) gb143 (Nat.le_of_eq hg.symm)) hb); have BK143 := Aside0.mk (hbox); have GW143 := (Bg_ hg : Aside0 (w.heap.size ≤ gb143)); have GE143 := (Bg_ hg : Aside0 (w.heap.size ≤ gb143)); replace HB := Bs_ hb; have NB101_143 := nl_ hg BK101; have NB143_101 := ng_ hg BK101; replace BK101 := kb_ BK101 hb; have NB109_143 := nl_ hg BK109; have NB143_109 := ng_ hg BK109; replace BK109 := kb_ BK109 hb; have NB121_143 := nl_ hg BK121; have NB143_121 := ng_ hg BK121; replace BK121 := kb_ BK121 hb; have NB129_143 := nl_ hg BK129; have NB143_129 := ng_ hg BK129; replace BK129 := kb_ BK129 hb; have NB136_143 := nl_ hg BK136; have NB143_136 := ng_ hg BK136; replace BK136 := kb_ BK136 hb; clear hb hbox hg; have hnb71 := NB143_101.out; have hnc71 := NB101_143.out; have hnb72 := NB143_109.out; have hnc72 := NB109_143.out; have hnb73 := NB143_121.out; have hnc73 := NB121_143.out; have hnb74 := NB143_129.out; have hnc74 := NB129_143.out; have hnb75 := NB143_136.out; have hnc75 := NB136_143.out; obtain ⟨hcz76_0, hcz76_1, hcz76_2⟩ := c3_ BK143; obtain ⟨hfz76_0, hfz76_1, hfz76_2⟩ := f3_ BK143; obtain ⟨Ao77, co77, eo77⟩ := Kd.V_slice HO140.out; subst eo77))
                  have n0_ : Aside0 (Kd.V (Kd.int .i64) 3 (((w70.setCell ⟨gb143, 0, none⟩ (.int .i64 t137)).setCell ⟨gb143, 1, none⟩ (.slice Ao77 t138.length co77)).setCell ⟨gb143, 2, none⟩ (.string t141)) w.heap.size (fun k_ => some k_ ≠ (.slice Ao43 t114.length co43 : Value).ownBlock ∧ some k_ ≠ (.slice Ao47 t117.length co47 : Value).ownBlock ∧ some k_ ≠ (.slice Ao57 t125.length co57 : Value).ownBlock ∧ some k_ ≠ (.slice Ao66 t131.length co66 : Value).ownBlock ∧ k_ ≠ gb101 ∧ k_ ≠ gb109 ∧ k_ ≠ gb121 ∧ k_ ≠ gb129 ∧ k_ ≠ gb136 ∧ k_ ≠ gb143) (.slice Ao36 t105.length co36) t105) := ⟨by (with_reducible repeat (first | apply Kd.V_alloc | apply Kd.V_drewN | apply Kd.V_drew)); exact Kd.V_mono (Kd.V_far (p := ⟨gb143, 2, none⟩) (Kd.V_far (p := ⟨gb143, 1, none⟩) (Kd.V_far (p := ⟨gb143, 0, none⟩) (Kd.V_mono HO107.out (fun k_ hk => (⟨hk, hk.2⟩ : _ ∧ k_ ≠ gb143))) (fun _ hk => hk.2) (.int .i64 t137)) (fun _ hk => hk.2) (.slice Ao77 t138.length co77)) (fun _ hk => hk.2) (.string t141)) (fun _ hk => ⟨hk.1.1.1, ⟨hk.1.1.2.1, ⟨hk.1.1.2.2.1, ⟨hk.1.1.2.2.2.1, ⟨hk.1.1.2.2.2.2.1, ⟨hk.1.1.2.2.2.2.2.1, ⟨hk.1.1.2.2.2.2.2.2.1, ⟨hk.1.1.2.2.2.2.2.2.2.1, ⟨hk.1.1.2.2.2.2.2.2.2.2, hk.1.2⟩⟩⟩⟩⟩⟩⟩⟩⟩)⟩
                  have n1_ : Aside0 (Kd.R (Kd.int .i64) 3 (((w70.setCell ⟨gb143, 0, none⟩ (.int .i64 t137)).setCell ⟨gb143, 1, none⟩ (.slice Ao77 t138.length co77)).setCell ⟨gb143, 2, none⟩ (.string t141)) w.heap.size (fun k_ => some k_ ≠ (.slice Ao66 t131.length co66 : Value).ownBlock) (.slice Ao43 t114.length co43) t114) := ⟨by (with_reducible repeat (first | apply Kd.R_alloc | apply Kd.R_drewN | apply Kd.R_drew)); exact Kd.R_mono (Kd.R_far (p := ⟨gb143, 2, none⟩) (Kd.R_far (p := ⟨gb143, 1, none⟩) (Kd.R_far (p := ⟨gb143, 0, none⟩) (Kd.R_types HO116.out BK143.out (by decide)) (fun _ hk => hk.2) (.int .i64 t137)) (fun _ hk => hk.2) (.slice Ao77 t138.length co77)) (fun _ hk => hk.2) (.string t141)) (fun _ hk => hk.1)⟩
                  have n2_ : Aside0 (Kd.R Kd.string 9 (((w70.setCell ⟨gb143, 0, none⟩ (.int .i64 t137)).setCell ⟨gb143, 1, none⟩ (.slice Ao77 t138.length co77)).setCell ⟨gb143, 2, none⟩ (.string t141)) w.heap.size (fun k_ => some k_ ≠ (.slice Ao57 t125.length co57 : Value).ownBlock) (.slice Ao47 t117.length co47) t117) := ⟨by (with_reducible repeat (first | apply Kd.R_alloc | apply Kd.R_drewN | apply Kd.R_drew)); exact Kd.R_mono (Kd.R_far (p := ⟨gb143, 2, none⟩) (Kd.R_far (p := ⟨gb143, 1, none⟩) (Kd.R_far (p := ⟨gb143, 0, none⟩) (Kd.R_types HO119.out BK143.out (by decide)) (fun _ hk => hk.2) (.int .i64 t137)) (fun _ hk => hk.2) (.slice Ao77 t138.length co77)) (fun _ hk => hk.2) (.string t141)) (fun _ hk => hk.1)⟩
                  have n3_ : Aside0 (Kd.V (Kd.int .i64) 3 (((w70.setCell ⟨gb143, 0, none⟩ (.int .i64 t137)).setCell ⟨gb143, 1, none⟩ (.slice Ao77 t138.length co77)).setCell ⟨gb143, 2, none⟩ (.string t141)) w.heap.size (fun k_ => some k_ ≠ (.slice Ao43 t114.length co43 : Value).ownBlock ∧ some k_ ≠ (.slice Ao47 t117.length co47 : Value).ownBlock ∧ some k_ ≠ (.slice Ao57 t125.length co57 : Value).ownBlock ∧ some k_ ≠ (.slice Ao66 t131.length co66 : Value).ownBlock ∧ k_ ≠ gb101 ∧ k_ ≠ gb109 ∧ k_ ≠ gb121 ∧ k_ ≠ gb129 ∧ k_ ≠ gb136 ∧ k_ ≠ gb143) (.slice Ao52 t122.length co52) t122) := ⟨by (with_reducible repeat (first | apply Kd.V_alloc | apply Kd.V_drewN | apply Kd.V_drew)); exact Kd.V_mono (Kd.V_far (p := ⟨gb143, 2, none⟩) (Kd.V_far (p := ⟨gb143, 1, none⟩) (Kd.V_far (p := ⟨gb143, 0, none⟩) (Kd.V_mono HO124.out (fun k_ hk => (⟨hk, hk.2⟩ : _ ∧ k_ ≠ gb143))) (fun _ hk => hk.2) (.int .i64 t137)) (fun _ hk => hk.2) (.slice Ao77 t138.length co77)) (fun _ hk => hk.2) (.string t141)) (fun _ hk => ⟨hk.1.1.1, ⟨hk.1.1.2.1, ⟨hk.1.1.2.2.1, ⟨hk.1.1.2.2.2.1, ⟨hk.1.1.2.2.2.2.1, ⟨hk.1.1.2.2.2.2.2.1, ⟨hk.1.1.2.2.2.2.2.2.1, ⟨hk.1.1.2.2.2.2.2.2.2.1, ⟨hk.1.1.2.2.2.2.2.2.2.2, hk.1.2⟩⟩⟩⟩⟩⟩⟩⟩⟩)⟩
                  have n4_ : Aside0 (Kd.R Kd.string 9 (((w70.setCell ⟨gb143, 0, none⟩ (.int .i64 t137)).setCell ⟨gb143, 1, none⟩ (.slice Ao77 t138.length co77)).setCell ⟨gb143, 2, none⟩ (.string t141)) w.heap.size (fun k_ => some k_ ≠ (.slice Ao47 t117.length co47 : Value).ownBlock) (.slice Ao57 t125.length co57) t125) := ⟨by (with_reducible repeat (first | apply Kd.R_alloc | apply Kd.R_drewN | apply Kd.R_drew)); exact Kd.R_mono (Kd.R_far (p := ⟨gb143, 2, none⟩) (Kd.R_far (p := ⟨gb143, 1, none⟩) (Kd.R_far (p := ⟨gb143, 0, none⟩) (Kd.R_types HO127.out BK143.out (by decide)) (fun _ hk => hk.2) (.int .i64 t137)) (fun _ hk => hk.2) (.slice Ao77 t138.length co77)) (fun _ hk => hk.2) (.string t141)) (fun _ hk => hk.1)⟩
                  have n5_ : Aside0 (Kd.R (Kd.int .i64) 3 (((w70.setCell ⟨gb143, 0, none⟩ (.int .i64 t137)).setCell ⟨gb143, 1, none⟩ (.slice Ao77 t138.length co77)).setCell ⟨gb143, 2, none⟩ (.string t141)) w.heap.size (fun k_ => some k_ ≠ (.slice Ao43 t114.length co43 : Value).ownBlock) (.slice Ao66 t131.length co66) t131) := ⟨by (with_reducible repeat (first | apply Kd.R_alloc | apply Kd.R_drewN | apply Kd.R_drew)); exact Kd.R_mono (Kd.R_far (p := ⟨gb143, 2, none⟩) (Kd.R_far (p := ⟨gb143, 1, none⟩) (Kd.R_far (p := ⟨gb143, 0, none⟩) (Kd.R_types HO133.out BK143.out (by decide)) (fun _ hk => hk.2) (.int .i64 t137)) (fun _ hk => hk.2) (.slice Ao77 t138.length co77)) (fun _ hk => hk.2) (.string t141)) (fun _ hk => hk.1)⟩
                  have n6_ : Aside0 (Kd.V (Kd.int .i64) 3 (((w70.setCell ⟨gb143, 0, none⟩ (.int .i64 t137)).setCell ⟨gb143, 1, none⟩ (.slice Ao77 t138.length co77)).setCell ⟨gb143, 2, none⟩ (.string t141)) w.heap.size (fun k_ => some k_ ≠ (.slice Ao43 t114.length co43 : Value).ownBlock ∧ some k_ ≠ (.slice Ao47 t117.length co47 : Value).ownBlock ∧ some k_ ≠ (.slice Ao57 t125.length co57 : Value).ownBlock ∧ some k_ ≠ (.slice Ao66 t131.length co66 : Value).ownBlock ∧ k_ ≠ gb101 ∧ k_ ≠ gb109 ∧ k_ ≠ gb121 ∧ k_ ≠ gb129 ∧ k_ ≠ gb136 ∧ k_ ≠ gb143) (.slice Ao77 t138.length co77) t138) := ⟨by (with_reducible repeat (first | apply Kd.V_alloc | apply Kd.V_drewN | apply Kd.V_drew)); exact Kd.V_mono (Kd.V_far (p := ⟨gb143, 2, none⟩) (Kd.V_far (p := ⟨gb143, 1, none⟩) (Kd.V_far (p := ⟨gb143, 0, none⟩) (Kd.V_mono HO140.out (fun k_ hk => (⟨hk, hk.2⟩ : _ ∧ k_ ≠ gb143))) (fun _ hk => hk.2) (.int .i64 t137)) (fun _ hk => hk.2) (.slice Ao77 t138.length co77)) (fun _ hk => hk.2) (.string t141)) (fun _ hk => ⟨hk.1.1.1, ⟨hk.1.1.2.1, ⟨hk.1.1.2.2.1, ⟨hk.1.1.2.2.2.1, ⟨hk.1.1.2.2.2.2.1, ⟨hk.1.1.2.2.2.2.2.1, ⟨hk.1.1.2.2.2.2.2.2.1, ⟨hk.1.1.2.2.2.2.2.2.2.1, ⟨hk.1.1.2.2.2.2.2.2.2.2, hk.1.2⟩⟩⟩⟩⟩⟩⟩⟩⟩)⟩
                  have n7_ : Aside0 ((((w70.setCell ⟨gb143, 0, none⟩ (.int .i64 t137)).setCell ⟨gb143, 1, none⟩ (.slice Ao77 t138.length co77)).setCell ⟨gb143, 2, none⟩ (.string t141)).heap[gb101]? = some (.cells #[.int .i64 a0_0, .slice A0_1 l0_1.length c0_1, .string a0_2] 24 (0, 0))) := ⟨by (with_reducible repeat (first | refine blk_drewN ?_ _ | refine blk_drew ?_ | refine blk_alloc ?_ _)); refine blk_far ?_ NB101_143.out _; (with_reducible repeat (first | refine blk_drewN ?_ _ | refine blk_drew ?_ | refine blk_alloc ?_ _)); refine blk_far ?_ NB101_143.out _; (with_reducible repeat (first | refine blk_drewN ?_ _ | refine blk_drew ?_ | refine blk_alloc ?_ _)); refine blk_far ?_ NB101_143.out _; (with_reducible repeat (first | refine blk_drewN ?_ _ | refine blk_drew ?_ | refine blk_alloc ?_ _)); exact BK101.out⟩
                  have n8_ : Aside0 ((((w70.setCell ⟨gb143, 0, none⟩ (.int .i64 t137)).setCell ⟨gb143, 1, none⟩ (.slice Ao77 t138.length co77)).setCell ⟨gb143, 2, none⟩ (.string t141)).heap[gb109]? = some (.cells #[.int .i64 t104, .slice Ao36 t105.length co36, .string t108] 27 (0, 0))) := ⟨by (with_reducible repeat (first | refine blk_drewN ?_ _ | refine blk_drew ?_ | refine blk_alloc ?_ _)); refine blk_far ?_ NB109_143.out _; (with_reducible repeat (first | refine blk_drewN ?_ _ | refine blk_drew ?_ | refine blk_alloc ?_ _)); refine blk_far ?_ NB109_143.out _; (with_reducible repeat (first | refine blk_drewN ?_ _ | refine blk_drew ?_ | refine blk_alloc ?_ _)); refine blk_far ?_ NB109_143.out _; (with_reducible repeat (first | refine blk_drewN ?_ _ | refine blk_drew ?_ | refine blk_alloc ?_ _)); exact BK109.out⟩
                  have n9_ : Aside0 ((((w70.setCell ⟨gb143, 0, none⟩ (.int .i64 t137)).setCell ⟨gb143, 1, none⟩ (.slice Ao77 t138.length co77)).setCell ⟨gb143, 2, none⟩ (.string t141)).heap[gb121]? = some (.cells #[.slice Ao43 t114.length co43, .slice Ao47 t117.length co47] 34 (0, 0))) := ⟨by (with_reducible repeat (first | refine blk_drewN ?_ _ | refine blk_drew ?_ | refine blk_alloc ?_ _)); refine blk_far ?_ NB121_143.out _; (with_reducible repeat (first | refine blk_drewN ?_ _ | refine blk_drew ?_ | refine blk_alloc ?_ _)); refine blk_far ?_ NB121_143.out _; (with_reducible repeat (first | refine blk_drewN ?_ _ | refine blk_drew ?_ | refine blk_alloc ?_ _)); refine blk_far ?_ NB121_143.out _; (with_reducible repeat (first | refine blk_drewN ?_ _ | refine blk_drew ?_ | refine blk_alloc ?_ _)); exact BK121.out⟩
                  have n10_ : Aside0 ((((w70.setCell ⟨gb143, 0, none⟩ (.int .i64 t137)).setCell ⟨gb143, 1, none⟩ (.slice Ao77 t138.length co77)).setCell ⟨gb143, 2, none⟩ (.string t141)).heap[gb129]? = some (.cells #[.slice Ao52 t122.length co52, .slice Ao57 t125.length co57] 34 (0, 0))) := ⟨by (with_reducible repeat (first | refine blk_drewN ?_ _ | refine blk_drew ?_ | refine blk_alloc ?_ _)); refine blk_far ?_ NB129_143.out _; (with_reducible repeat (first | refine blk_drewN ?_ _ | refine blk_drew ?_ | refine blk_alloc ?_ _)); refine blk_far ?_ NB129_143.out _; (with_reducible repeat (first | refine blk_drewN ?_ _ | refine blk_drew ?_ | refine blk_alloc ?_ _)); refine blk_far ?_ NB129_143.out _; (with_reducible repeat (first | refine blk_drewN ?_ _ | refine blk_drew ?_ | refine blk_alloc ?_ _)); exact BK129.out⟩
                  have n11_ : Aside0 ((((w70.setCell ⟨gb143, 0, none⟩ (.int .i64 t137)).setCell ⟨gb143, 1, none⟩ (.slice Ao77 t138.length co77)).setCell ⟨gb143, 2, none⟩ (.string t141)).heap[gb136]? = some (.cells #[.int .i64 t130, .slice Ao66 t131.length co66, .string t134] 27 (0, 0))) := ⟨by (with_reducible repeat (first | refine blk_drewN ?_ _ | refine blk_drew ?_ | refine blk_alloc ?_ _)); refine blk_far ?_ NB136_143.out _; (with_reducible repeat (first | refine blk_drewN ?_ _ | refine blk_drew ?_ | refine blk_alloc ?_ _)); refine blk_far ?_ NB136_143.out _; (with_reducible repeat (first | refine blk_drewN ?_ _ | refine blk_drew ?_ | refine blk_alloc ?_ _)); refine blk_far ?_ NB136_143.out _; (with_reducible repeat (first | refine blk_drewN ?_ _ | refine blk_drew ?_ | refine blk_alloc ?_ _)); exact BK136.out⟩
                  have n12_ : Aside0 ((((w70.setCell ⟨gb143, 0, none⟩ (.int .i64 t137)).setCell ⟨gb143, 1, none⟩ (.slice Ao77 t138.length co77)).setCell ⟨gb143, 2, none⟩ (.string t141)).heap[gb143]? = some (.cells #[.int .i64 t137, .slice Ao77 t138.length co77, .string t141] 24 (0, 0))) := ⟨by (with_reducible repeat (first | refine blk_drewN ?_ _ | refine blk_drew ?_ | refine blk_alloc ?_ _)); refine blk_put (cs := #[.int .i64 t137, .slice Ao77 t138.length co77, .string (⟨#[]⟩ : ByteArray)]) ?_ 2 _ rfl; (with_reducible repeat (first | refine blk_drewN ?_ _ | refine blk_drew ?_ | refine blk_alloc ?_ _)); refine blk_put (cs := #[.int .i64 t137, .slice none 0 0, .string (⟨#[]⟩ : ByteArray)]) ?_ 1 _ rfl; (with_reducible repeat (first | refine blk_drewN ?_ _ | refine blk_drew ?_ | refine blk_alloc ?_ _)); refine blk_put (cs := #[.int .i64 0, .slice none 0 0, .string (⟨#[]⟩ : ByteArray)]) ?_ 0 _ rfl; (with_reducible repeat (first | refine blk_drewN ?_ _ | refine blk_drew ?_ | refine blk_alloc ?_ _)); exact BK143.out⟩
                  have n13_ : Aside0 (Below w.heap.size w (((w70.setCell ⟨gb143, 0, none⟩ (.int .i64 t137)).setCell ⟨gb143, 1, none⟩ (.slice Ao77 t138.length co77)).setCell ⟨gb143, 2, none⟩ (.string t141))) := ⟨Bl_⟩
                  (try clear HO107)
                  (try clear HO116)
                  (try clear HO119)
                  (try clear HO124)
                  (try clear HO127)
                  (try clear HO133)
                  (try clear HO140)
                  (try clear BK101)
                  (try clear BK109)
                  (try clear BK121)
                  (try clear BK129)
                  (try clear BK136)
                  (try clear BK143)
                  (try clear HB)
                  generalize (((w70.setCell ⟨gb143, 0, none⟩ (.int .i64 t137)).setCell ⟨gb143, 1, none⟩ (.slice Ao77 t138.length co77)).setCell ⟨gb143, 2, none⟩ (.string t141)) = w78 at n0_ n1_ n2_ n3_ n4_ n5_ n6_ n7_ n8_ n9_ n10_ n11_ n12_ n13_ ⊢
                  have HO107 := n0_
                  have HO116 := n1_
                  have HO119 := n2_
                  have HO124 := n3_
                  have HO127 := n4_
                  have HO133 := n5_
                  have HO140 := n6_
                  have BK101 := n7_
                  have BK109 := n8_
                  have BK121 := n9_
                  have BK129 := n10_
                  have BK136 := n11_
                  have BK143 := n12_
                  have HB := n13_
                  clear n0_ n1_ n2_ n3_ n4_ n5_ n6_ n7_ n8_ n9_ n10_ n11_ n12_ n13_
                  replace HO107 := Aside0.mk (Kd.V_drew HO107.out)
                  replace HO116 := Aside0.mk (Kd.R_drew HO116.out)
                  replace HO119 := Aside0.mk (Kd.R_drew HO119.out)
                  replace HO124 := Aside0.mk (Kd.V_drew HO124.out)
                  replace HO127 := Aside0.mk (Kd.R_drew HO127.out)
                  replace HO133 := Aside0.mk (Kd.R_drew HO133.out)
                  replace HO140 := Aside0.mk (Kd.V_drew HO140.out)
                  replace BK101 := Aside0.mk (blk_drew BK101.out)
                  replace BK109 := Aside0.mk (blk_drew BK109.out)
                  replace BK121 := Aside0.mk (blk_drew BK121.out)
                  replace BK129 := Aside0.mk (blk_drew BK129.out)
                  replace BK136 := Aside0.mk (blk_drew BK136.out)
                  replace BK143 := Aside0.mk (blk_drew BK143.out)
                  replace HB := Aside0.mk (below_drew1 HB.out)
                  refine start_ (n := 46) (S := fun w' => w'.cell? ⟨gb109, 0, none⟩ = some (.int .i64 t104) ∧ w'.cell? ⟨gb109, 1, none⟩ = some (.slice Ao36 t105.length co36) ∧ w'.cell? ⟨gb109, 2, none⟩ = some (.string t108) ∧ w'.cell? ⟨gb101, 0, none⟩ = some (.int .i64 a0_0) ∧ w'.cell? ⟨gb101, 1, none⟩ = some (.slice A0_1 l0_1.length c0_1) ∧ w'.cell? ⟨gb101, 2, none⟩ = some (.string a0_2) ∧ w'.cell? ⟨gb121, 0, none⟩ = some (.slice Ao43 t114.length co43) ∧ w'.cell? ⟨gb121, 1, none⟩ = some (.slice Ao47 t117.length co47) ∧ w'.cell? ⟨gb129, 0, none⟩ = some (.slice Ao52 t122.length co52) ∧ w'.cell? ⟨gb129, 1, none⟩ = some (.slice Ao57 t125.length co57) ∧ w'.cell? ⟨gb136, 0, none⟩ = some (.int .i64 t130) ∧ w'.cell? ⟨gb136, 1, none⟩ = some (.slice Ao66 t131.length co66) ∧ w'.cell? ⟨gb136, 2, none⟩ = some (.string t134) ∧ w'.cell? ⟨gb143, 0, none⟩ = some (.int .i64 t137) ∧ w'.cell? ⟨gb143, 1, none⟩ = some (.slice Ao77 t138.length co77) ∧ w'.cell? ⟨gb143, 2, none⟩ = some (.string t141)) (ds := []) #[false, false, false, false, false, false, false, false, false, false, false, false, false, false, false, false, false, false, false, false, false, false, false, false, false, false, false, false, false, false, false, false, false, false, false, false, false, false, false, false, false, false, false, false, false, false] (by kernel_rfl) rfl rfl ⟨(blk_cell BK109.out 0).trans rfl, (blk_cell BK109.out 1).trans rfl, (blk_cell BK109.out 2).trans rfl, (blk_cell BK101.out 0).trans rfl, (blk_cell BK101.out 1).trans rfl, (blk_cell BK101.out 2).trans rfl, (blk_cell BK121.out 0).trans rfl, (blk_cell BK121.out 1).trans rfl, (blk_cell BK129.out 0).trans rfl, (blk_cell BK129.out 1).trans rfl, (blk_cell BK136.out 0).trans rfl, (blk_cell BK136.out 1).trans rfl, (blk_cell BK136.out 2).trans rfl, (blk_cell BK143.out 0).trans rfl, (blk_cell BK143.out 1).trans rfl, (blk_cell BK143.out 2).trans rfl⟩ (fun hHeld => ?_); refine with_tabW reredoslaw05_TypedTells.tab11 reredoslaw05_TypedTells.bits11 (fun HT_ HW_ => ?_)
                  generalize w78.drew = w79 at HO107 HO116 HO119 HO124 HO127 HO133 HO140 BK101 BK109 BK121 BK129 BK136 BK143 HB hHeld ⊢
                  refine pu_ 0 (some 62) HT_ #[true, false, false, false, false, false, false, false, false, false, false, false, false, false, false, false, false, false, false, false, false, false, false, false, false, false, false, false, false, false, false, false, false, false, false, false, false, false, false, false, false, false, false, false, false, false] ?_
                  refine pu_ 1 (some 63) HT_ #[true, true, false, false, false, false, false, false, false, false, false, false, false, false, false, false, false, false, false, false, false, false, false, false, false, false, false, false, false, false, false, false, false, false, false, false, false, false, false, false, false, false, false, false, false, false] ?_
                  refine take_ (i := 2) (N := some 64) (v := ?_) (a' := ?_) #[true, true, true, false, false, false, false, false, false, false, false, false, false, false, false, false, false, false, false, false, false, false, false, false, false, false, false, false, false, false, false, false, false, false, false, false, false, false, false, false, false, false, false, false, false, false] rfl rfl (take_ofW HT_.out HW_.out (by kernel_rfl)) (fun _ _ _ h => h) (Or.inl ⟨by rfl, ?_⟩) hHeld ?_ ?_
                  rotate_left
                  · rintro w' ⟨s0, s1, s2, s3, s4, s5, s6, s7, s8, s9, s10, s11, s12, s13, s14, s15⟩
                    go_simp
                    with_reducible rfl
                  rotate_left
                  · simp only [Act.put, List.setIfInBounds_toArray, List.set_cons_zero, List.set_cons_succ, i64_w, i32_w]
                    rfl
                  refine take_ (i := 4) (N := some 66) (v := ?_) (a' := ?_) #[true, true, true, false, true, false, false, false, false, false, false, false, false, false, false, false, false, false, false, false, false, false, false, false, false, false, false, false, false, false, false, false, false, false, false, false, false, false, false, false, false, false, false, false, false, false] rfl rfl (take_ofW HT_.out HW_.out (by kernel_rfl)) (fun _ _ _ h => h) (Or.inl ⟨by rfl, ?_⟩) hHeld ?_ ?_
                  rotate_left
                  · rintro w' ⟨s0, s1, s2, s3, s4, s5, s6, s7, s8, s9, s10, s11, s12, s13, s14, s15⟩
                    go_simp
                    with_reducible rfl
                  rotate_left
                  · simp only [Act.put, List.setIfInBounds_toArray, List.set_cons_zero, List.set_cons_succ, i64_w, i32_w]
                    rfl
                  refine one_ (i := 3) (N := some 65) #[true, true, true, true, true, false, false, false, false, false, false, false, false, false, false, false, false, false, false, false, false, false, false, false, false, false, false, false, false, false, false, false, false, false, false, false, false, false, false, false, false, false, false, false, false, false] rfl rfl (one_of HT_.out (by kernel_rfl)) (by decide) (fun K hK => ?_)
                  refine goes_ Tryz.func19 (by kernel_rfl) rfl #[.agg #[.int .i64 t104, .slice Ao36 t105.length co36, .string t108]] (by rfl) rfl rfl Ga_ ?_
                  with_reducible refine (typed_Typed_May.calls k t104 _ _ t105 t108 t144 _ ?side1 ?side2 A14.out).mono ?_
                  (case side1 => exact Pc_ ((Kd.V_reads' HO107.out).2.2))
                  (case side2 => exact (Kd.V_reads' HO107.out).2.1)
                  rintro e w80 ⟨rfl, hb⟩
                  refine ⟨_, rfl, ?_⟩
                  replace HO107 := Aside0.mk (Kd.V_below (Pv_ HO107.out) hb)
                  replace HO116 := Aside0.mk (Kd.R_below (Pr_ HO116.out) hb)
                  replace HO119 := Aside0.mk (Kd.R_below (Pr_ HO119.out) hb)
                  replace HO124 := Aside0.mk (Kd.V_below (Pv_ HO124.out) hb)
                  replace HO127 := Aside0.mk (Kd.R_below (Pr_ HO127.out) hb)
                  replace HO133 := Aside0.mk (Kd.R_below (Pr_ HO133.out) hb)
                  replace HO140 := Aside0.mk (Kd.V_below (Pv_ HO140.out) hb)
                  replace BK101 := kb_ BK101 hb
                  replace BK109 := kb_ BK109 hb
                  replace BK121 := kb_ BK121 hb
                  replace BK129 := kb_ BK129 hb
                  replace BK136 := kb_ BK136 hb
                  replace BK143 := kb_ BK143 hb
                  replace HB := Bs_ hb
                  (try clear hb)
                  (try clear hb2)
                  (try clear hk)
                  (try clear hi)
                  refine hK.out _ _ ⟨(blk_cell BK109.out 0).trans rfl, (blk_cell BK109.out 1).trans rfl, (blk_cell BK109.out 2).trans rfl, (blk_cell BK101.out 0).trans rfl, (blk_cell BK101.out 1).trans rfl, (blk_cell BK101.out 2).trans rfl, (blk_cell BK121.out 0).trans rfl, (blk_cell BK121.out 1).trans rfl, (blk_cell BK129.out 0).trans rfl, (blk_cell BK129.out 1).trans rfl, (blk_cell BK136.out 0).trans rfl, (blk_cell BK136.out 1).trans rfl, (blk_cell BK136.out 2).trans rfl, (blk_cell BK143.out 0).trans rfl, (blk_cell BK143.out 1).trans rfl, (blk_cell BK143.out 2).trans rfl⟩ (fun hHeld => ?_)
                  clear hK K
                  refine norm_ (a' := ?_) ?_ ?_
                  rotate_left
                  · show Act.put _ (some 65) _ = _
                    simp only [Act.put, List.setIfInBounds_toArray, List.set_cons_zero, List.set_cons_succ, i64_w, i32_w]
                    rfl
                  refine one_ (i := 5) (N := some 67) #[true, true, true, true, true, true, false, false, false, false, false, false, false, false, false, false, false, false, false, false, false, false, false, false, false, false, false, false, false, false, false, false, false, false, false, false, false, false, false, false, false, false, false, false, false, false] rfl rfl (one_of HT_.out (by kernel_rfl)) (by decide) (fun K hK => ?_)
                  refine goes_ Tryz.func20 (by kernel_rfl) rfl #[.agg #[.int .i64 a0_0, .slice A0_1 l0_1.length c0_1, .string a0_2]] (by rfl) rfl rfl Ga_ ?_
                  with_reducible refine (reredosref05_May.calls k a0_0 _ _ l0_1 a0_2 t145 _ ?side1 ?side2 A15.out).mono ?_
                  (case side1 => exact Pc_ (Kd.C_below HR0_1.out HB.out))
                  (case side2 => exact HC0_1.out)
                  rintro e w81 ⟨rfl, hb⟩
                  refine ⟨_, rfl, ?_⟩
                  replace HO107 := Aside0.mk (Kd.V_below (Pv_ HO107.out) hb)
                  replace HO116 := Aside0.mk (Kd.R_below (Pr_ HO116.out) hb)
                  replace HO119 := Aside0.mk (Kd.R_below (Pr_ HO119.out) hb)
                  replace HO124 := Aside0.mk (Kd.V_below (Pv_ HO124.out) hb)
                  replace HO127 := Aside0.mk (Kd.R_below (Pr_ HO127.out) hb)
                  replace HO133 := Aside0.mk (Kd.R_below (Pr_ HO133.out) hb)
                  replace HO140 := Aside0.mk (Kd.V_below (Pv_ HO140.out) hb)
                  replace BK101 := kb_ BK101 hb
                  replace BK109 := kb_ BK109 hb
                  replace BK121 := kb_ BK121 hb
                  replace BK129 := kb_ BK129 hb
                  replace BK136 := kb_ BK136 hb
                  replace BK143 := kb_ BK143 hb
                  replace HB := Bs_ hb
                  (try clear hb)
                  (try clear hb2)
                  (try clear hk)
                  (try clear hi)
                  refine hK.out _ _ ⟨(blk_cell BK109.out 0).trans rfl, (blk_cell BK109.out 1).trans rfl, (blk_cell BK109.out 2).trans rfl, (blk_cell BK101.out 0).trans rfl, (blk_cell BK101.out 1).trans rfl, (blk_cell BK101.out 2).trans rfl, (blk_cell BK121.out 0).trans rfl, (blk_cell BK121.out 1).trans rfl, (blk_cell BK129.out 0).trans rfl, (blk_cell BK129.out 1).trans rfl, (blk_cell BK136.out 0).trans rfl, (blk_cell BK136.out 1).trans rfl, (blk_cell BK136.out 2).trans rfl, (blk_cell BK143.out 0).trans rfl, (blk_cell BK143.out 1).trans rfl, (blk_cell BK143.out 2).trans rfl⟩ (fun hHeld => ?_)
                  clear hK K
                  refine norm_ (a' := ?_) ?_ ?_
                  rotate_left
                  · show Act.put _ (some 67) _ = _
                    simp only [Act.put, List.setIfInBounds_toArray, List.set_cons_zero, List.set_cons_succ, i64_w, i32_w]
                    rfl
                  refine pu_ 6 (some 68) HT_ #[true, true, true, true, true, true, true, false, false, false, false, false, false, false, false, false, false, false, false, false, false, false, false, false, false, false, false, false, false, false, false, false, false, false, false, false, false, false, false, false, false, false, false, false, false, false] ?_
                  refine pu_ 7 (some 69) HT_ #[true, true, true, true, true, true, true, true, false, false, false, false, false, false, false, false, false, false, false, false, false, false, false, false, false, false, false, false, false, false, false, false, false, false, false, false, false, false, false, false, false, false, false, false, false, false] ?_
                  refine pu_ 8 (some 70) HT_ #[true, true, true, true, true, true, true, true, true, false, false, false, false, false, false, false, false, false, false, false, false, false, false, false, false, false, false, false, false, false, false, false, false, false, false, false, false, false, false, false, false, false, false, false, false, false] ?_
                  refine take_ (i := 9) (N := some 71) (v := ?_) (a' := ?_) #[true, true, true, true, true, true, true, true, true, true, false, false, false, false, false, false, false, false, false, false, false, false, false, false, false, false, false, false, false, false, false, false, false, false, false, false, false, false, false, false, false, false, false, false, false, false] rfl rfl (take_ofW HT_.out HW_.out (by kernel_rfl)) (fun _ _ _ h => h) (Or.inl ⟨by rfl, ?_⟩) hHeld ?_ ?_
                  rotate_left
                  · rintro w' ⟨s0, s1, s2, s3, s4, s5, s6, s7, s8, s9, s10, s11, s12, s13, s14, s15⟩
                    go_simp
                    with_reducible rfl
                  rotate_left
                  · simp only [Act.put, List.setIfInBounds_toArray, List.set_cons_zero, List.set_cons_succ, i64_w, i32_w]
                    rfl
                  refine take_ (i := 11) (N := some 73) (v := ?_) (a' := ?_) #[true, true, true, true, true, true, true, true, true, true, false, true, false, false, false, false, false, false, false, false, false, false, false, false, false, false, false, false, false, false, false, false, false, false, false, false, false, false, false, false, false, false, false, false, false, false] rfl rfl (take_ofW HT_.out HW_.out (by kernel_rfl)) (fun _ _ _ h => h) (Or.inl ⟨by rfl, ?_⟩) hHeld ?_ ?_
                  rotate_left
                  · rintro w' ⟨s0, s1, s2, s3, s4, s5, s6, s7, s8, s9, s10, s11, s12, s13, s14, s15⟩
                    go_simp
                    with_reducible rfl
                  rotate_left
                  · simp only [Act.put, List.setIfInBounds_toArray, List.set_cons_zero, List.set_cons_succ, i64_w, i32_w]
                    rfl
                  refine one_ (i := 10) (N := some 72) #[true, true, true, true, true, true, true, true, true, true, true, true, false, false, false, false, false, false, false, false, false, false, false, false, false, false, false, false, false, false, false, false, false, false, false, false, false, false, false, false, false, false, false, false, false, false] rfl rfl (one_of HT_.out (by kernel_rfl)) (by decide) (fun K hK => ?_)
                  refine goes_ Tryz.func21 (by kernel_rfl) rfl #[.agg #[.int .i64 t104, .slice Ao36 t105.length co36, .string t108]] (by rfl) rfl rfl Ga_ ?_
                  with_reducible refine (typed_Typed_Many.calls k t104 _ _ t105 t108 t146 _ ?side1 ?side2 A17.out).mono ?_
                  (case side1 => exact Pc_ ((Kd.V_reads' HO107.out).2.2))
                  (case side2 => exact (Kd.V_reads' HO107.out).2.1)
                  rintro e w82 ⟨rfl, hb⟩
                  refine ⟨_, rfl, ?_⟩
                  replace HO107 := Aside0.mk (Kd.V_below (Pv_ HO107.out) hb)
                  replace HO116 := Aside0.mk (Kd.R_below (Pr_ HO116.out) hb)
                  replace HO119 := Aside0.mk (Kd.R_below (Pr_ HO119.out) hb)
                  replace HO124 := Aside0.mk (Kd.V_below (Pv_ HO124.out) hb)
                  replace HO127 := Aside0.mk (Kd.R_below (Pr_ HO127.out) hb)
                  replace HO133 := Aside0.mk (Kd.R_below (Pr_ HO133.out) hb)
                  replace HO140 := Aside0.mk (Kd.V_below (Pv_ HO140.out) hb)
                  replace BK101 := kb_ BK101 hb
                  replace BK109 := kb_ BK109 hb
                  replace BK121 := kb_ BK121 hb
                  replace BK129 := kb_ BK129 hb
                  replace BK136 := kb_ BK136 hb
                  replace BK143 := kb_ BK143 hb
                  replace HB := Bs_ hb
                  (try clear hb)
                  (try clear hb2)
                  (try clear hk)
                  (try clear hi)
                  refine hK.out _ _ ⟨(blk_cell BK109.out 0).trans rfl, (blk_cell BK109.out 1).trans rfl, (blk_cell BK109.out 2).trans rfl, (blk_cell BK101.out 0).trans rfl, (blk_cell BK101.out 1).trans rfl, (blk_cell BK101.out 2).trans rfl, (blk_cell BK121.out 0).trans rfl, (blk_cell BK121.out 1).trans rfl, (blk_cell BK129.out 0).trans rfl, (blk_cell BK129.out 1).trans rfl, (blk_cell BK136.out 0).trans rfl, (blk_cell BK136.out 1).trans rfl, (blk_cell BK136.out 2).trans rfl, (blk_cell BK143.out 0).trans rfl, (blk_cell BK143.out 1).trans rfl, (blk_cell BK143.out 2).trans rfl⟩ (fun hHeld => ?_)
                  clear hK K
                  refine norm_ (a' := ?_) ?_ ?_
                  rotate_left
                  · show Act.put _ (some 72) _ = _
                    simp only [Act.put, List.setIfInBounds_toArray, List.set_cons_zero, List.set_cons_succ, i64_w, i32_w]
                    rfl
                  refine one_ (i := 12) (N := some 74) #[true, true, true, true, true, true, true, true, true, true, true, true, true, false, false, false, false, false, false, false, false, false, false, false, false, false, false, false, false, false, false, false, false, false, false, false, false, false, false, false, false, false, false, false, false, false] rfl rfl (one_of HT_.out (by kernel_rfl)) (by decide) (fun K hK => ?_)
                  refine goes_ Tryz.func22 (by kernel_rfl) rfl #[.agg #[.int .i64 a0_0, .slice A0_1 l0_1.length c0_1, .string a0_2]] (by rfl) rfl rfl Ga_ ?_
                  with_reducible refine (reredosref05_Many.calls k a0_0 _ _ l0_1 a0_2 t147 _ ?side1 ?side2 A18.out).mono ?_
                  (case side1 => exact Pc_ (Kd.C_below HR0_1.out HB.out))
                  (case side2 => exact HC0_1.out)
                  rintro e w83 ⟨rfl, hb⟩
                  refine ⟨_, rfl, ?_⟩
                  replace HO107 := Aside0.mk (Kd.V_below (Pv_ HO107.out) hb)
                  replace HO116 := Aside0.mk (Kd.R_below (Pr_ HO116.out) hb)
                  replace HO119 := Aside0.mk (Kd.R_below (Pr_ HO119.out) hb)
                  replace HO124 := Aside0.mk (Kd.V_below (Pv_ HO124.out) hb)
                  replace HO127 := Aside0.mk (Kd.R_below (Pr_ HO127.out) hb)
                  replace HO133 := Aside0.mk (Kd.R_below (Pr_ HO133.out) hb)
                  replace HO140 := Aside0.mk (Kd.V_below (Pv_ HO140.out) hb)
                  replace BK101 := kb_ BK101 hb
                  replace BK109 := kb_ BK109 hb
                  replace BK121 := kb_ BK121 hb
                  replace BK129 := kb_ BK129 hb
                  replace BK136 := kb_ BK136 hb
                  replace BK143 := kb_ BK143 hb
                  replace HB := Bs_ hb
                  (try clear hb)
                  (try clear hb2)
                  (try clear hk)
                  (try clear hi)
                  refine hK.out _ _ ⟨(blk_cell BK109.out 0).trans rfl, (blk_cell BK109.out 1).trans rfl, (blk_cell BK109.out 2).trans rfl, (blk_cell BK101.out 0).trans rfl, (blk_cell BK101.out 1).trans rfl, (blk_cell BK101.out 2).trans rfl, (blk_cell BK121.out 0).trans rfl, (blk_cell BK121.out 1).trans rfl, (blk_cell BK129.out 0).trans rfl, (blk_cell BK129.out 1).trans rfl, (blk_cell BK136.out 0).trans rfl, (blk_cell BK136.out 1).trans rfl, (blk_cell BK136.out 2).trans rfl, (blk_cell BK143.out 0).trans rfl, (blk_cell BK143.out 1).trans rfl, (blk_cell BK143.out 2).trans rfl⟩ (fun hHeld => ?_)
                  clear hK K
                  refine norm_ (a' := ?_) ?_ ?_
                  rotate_left
                  · show Act.put _ (some 74) _ = _
                    simp only [Act.put, List.setIfInBounds_toArray, List.set_cons_zero, List.set_cons_succ, i64_w, i32_w]
                    rfl
                  refine pu_ 13 (some 75) HT_ #[true, true, true, true, true, true, true, true, true, true, true, true, true, true, false, false, false, false, false, false, false, false, false, false, false, false, false, false, false, false, false, false, false, false, false, false, false, false, false, false, false, false, false, false, false, false] ?_
                  refine pu_ 14 (some 76) HT_ #[true, true, true, true, true, true, true, true, true, true, true, true, true, true, true, false, false, false, false, false, false, false, false, false, false, false, false, false, false, false, false, false, false, false, false, false, false, false, false, false, false, false, false, false, false, false] ?_
                  refine pu_ 15 (some 77) HT_ #[true, true, true, true, true, true, true, true, true, true, true, true, true, true, true, true, false, false, false, false, false, false, false, false, false, false, false, false, false, false, false, false, false, false, false, false, false, false, false, false, false, false, false, false, false, false] ?_
                  refine pu_ 16 (some 78) HT_ #[true, true, true, true, true, true, true, true, true, true, true, true, true, true, true, true, true, false, false, false, false, false, false, false, false, false, false, false, false, false, false, false, false, false, false, false, false, false, false, false, false, false, false, false, false, false] ?_
                  refine pu_ 17 (some 79) HT_ #[true, true, true, true, true, true, true, true, true, true, true, true, true, true, true, true, true, true, false, false, false, false, false, false, false, false, false, false, false, false, false, false, false, false, false, false, false, false, false, false, false, false, false, false, false, false] ?_
                  refine pu_ 18 (some 80) HT_ #[true, true, true, true, true, true, true, true, true, true, true, true, true, true, true, true, true, true, true, false, false, false, false, false, false, false, false, false, false, false, false, false, false, false, false, false, false, false, false, false, false, false, false, false, false, false] ?_
                  refine pu_ 19 (some 81) HT_ #[true, true, true, true, true, true, true, true, true, true, true, true, true, true, true, true, true, true, true, true, false, false, false, false, false, false, false, false, false, false, false, false, false, false, false, false, false, false, false, false, false, false, false, false, false, false] ?_
                  refine pu_ 20 (some 82) HT_ #[true, true, true, true, true, true, true, true, true, true, true, true, true, true, true, true, true, true, true, true, true, false, false, false, false, false, false, false, false, false, false, false, false, false, false, false, false, false, false, false, false, false, false, false, false, false] ?_
                  refine pu_ 21 (some 83) HT_ #[true, true, true, true, true, true, true, true, true, true, true, true, true, true, true, true, true, true, true, true, true, true, false, false, false, false, false, false, false, false, false, false, false, false, false, false, false, false, false, false, false, false, false, false, false, false] ?_
                  refine pu_ 22 (some 84) HT_ #[true, true, true, true, true, true, true, true, true, true, true, true, true, true, true, true, true, true, true, true, true, true, true, false, false, false, false, false, false, false, false, false, false, false, false, false, false, false, false, false, false, false, false, false, false, false] ?_
                  refine pu_ 23 (some 85) HT_ #[true, true, true, true, true, true, true, true, true, true, true, true, true, true, true, true, true, true, true, true, true, true, true, true, false, false, false, false, false, false, false, false, false, false, false, false, false, false, false, false, false, false, false, false, false, false] ?_
                  refine pu_ 24 (some 86) HT_ #[true, true, true, true, true, true, true, true, true, true, true, true, true, true, true, true, true, true, true, true, true, true, true, true, true, false, false, false, false, false, false, false, false, false, false, false, false, false, false, false, false, false, false, false, false, false] ?_
                  refine pu_ 25 (some 87) HT_ #[true, true, true, true, true, true, true, true, true, true, true, true, true, true, true, true, true, true, true, true, true, true, true, true, true, true, false, false, false, false, false, false, false, false, false, false, false, false, false, false, false, false, false, false, false, false] ?_
                  refine take_ (i := 26) (N := some 88) (v := ?_) (a' := ?_) #[true, true, true, true, true, true, true, true, true, true, true, true, true, true, true, true, true, true, true, true, true, true, true, true, true, true, true, false, false, false, false, false, false, false, false, false, false, false, false, false, false, false, false, false, false, false] rfl rfl (take_ofW HT_.out HW_.out (by kernel_rfl)) (fun _ _ _ h => h) (Or.inl ⟨by rfl, ?_⟩) hHeld ?_ ?_
                  rotate_left
                  · rintro w' ⟨s0, s1, s2, s3, s4, s5, s6, s7, s8, s9, s10, s11, s12, s13, s14, s15⟩
                    go_simp
                    with_reducible rfl
                  rotate_left
                  · simp only [Act.put, List.setIfInBounds_toArray, List.set_cons_zero, List.set_cons_succ, i64_w, i32_w]
                    rfl
                  refine take_ (i := 27) (N := some 89) (v := ?_) (a' := ?_) #[true, true, true, true, true, true, true, true, true, true, true, true, true, true, true, true, true, true, true, true, true, true, true, true, true, true, true, true, false, false, false, false, false, false, false, false, false, false, false, false, false, false, false, false, false, false] rfl rfl (take_ofW HT_.out HW_.out (by kernel_rfl)) (fun _ _ _ h => h) (Or.inl ⟨by rfl, ?_⟩) hHeld ?_ ?_
                  rotate_left
                  · rintro w' ⟨s0, s1, s2, s3, s4, s5, s6, s7, s8, s9, s10, s11, s12, s13, s14, s15⟩
                    go_simp
                    with_reducible rfl
                  rotate_left
                  · simp only [Act.put, List.setIfInBounds_toArray, List.set_cons_zero, List.set_cons_succ, i64_w, i32_w]
                    rfl
                  refine one_ (i := 28) (N := some 90) #[true, true, true, true, true, true, true, true, true, true, true, true, true, true, true, true, true, true, true, true, true, true, true, true, true, true, true, true, true, false, false, false, false, false, false, false, false, false, false, false, false, false, false, false, false, false] rfl rfl (one_of HT_.out (by kernel_rfl)) (by decide) (fun K hK => ?_)
                  refine goes_ Tryz.func23 (by kernel_rfl) rfl #[.agg #[.slice Ao43 t114.length co43, .slice Ao47 t117.length co47], .agg #[.slice Ao52 t122.length co52, .slice Ao57 t125.length co57]] (by rfl) rfl rfl Ga_ ?_
                  with_reducible refine (reredosref04_Same.calls k _ _ t114 _ _ t117 _ _ t122 _ _ t125 true _ ?side1 ?side2 ?side3 ?side4 ?side5 ?side6 ?side7 ?side8 A22.out).mono ?_
                  (case side1 => exact Pc_ ((Kd.R_reads' HO116.out).2.2))
                  (case side2 => exact (Kd.R_reads' HO116.out).2.1)
                  (case side3 => exact Pc_ ((Kd.R_reads' HO119.out).2.2))
                  (case side4 => exact (Kd.R_reads' HO119.out).2.1)
                  (case side5 => exact Pc_ ((Kd.V_reads' HO124.out).2.2))
                  (case side6 => exact (Kd.V_reads' HO124.out).2.1)
                  (case side7 => exact Pc_ ((Kd.R_reads' HO127.out).2.2))
                  (case side8 => exact (Kd.R_reads' HO127.out).2.1)
                  rintro e w84 ⟨rfl, hb⟩
                  refine ⟨_, rfl, ?_⟩
                  replace HO107 := Aside0.mk (Kd.V_below (Pv_ HO107.out) hb)
                  replace HO116 := Aside0.mk (Kd.R_below (Pr_ HO116.out) hb)
                  replace HO119 := Aside0.mk (Kd.R_below (Pr_ HO119.out) hb)
                  replace HO124 := Aside0.mk (Kd.V_below (Pv_ HO124.out) hb)
                  replace HO127 := Aside0.mk (Kd.R_below (Pr_ HO127.out) hb)
                  replace HO133 := Aside0.mk (Kd.R_below (Pr_ HO133.out) hb)
                  replace HO140 := Aside0.mk (Kd.V_below (Pv_ HO140.out) hb)
                  replace BK101 := kb_ BK101 hb
                  replace BK109 := kb_ BK109 hb
                  replace BK121 := kb_ BK121 hb
                  replace BK129 := kb_ BK129 hb
                  replace BK136 := kb_ BK136 hb
                  replace BK143 := kb_ BK143 hb
                  replace HB := Bs_ hb
                  (try clear hb)
                  (try clear hb2)
                  (try clear hk)
                  (try clear hi)
                  refine hK.out _ _ ⟨(blk_cell BK109.out 0).trans rfl, (blk_cell BK109.out 1).trans rfl, (blk_cell BK109.out 2).trans rfl, (blk_cell BK101.out 0).trans rfl, (blk_cell BK101.out 1).trans rfl, (blk_cell BK101.out 2).trans rfl, (blk_cell BK121.out 0).trans rfl, (blk_cell BK121.out 1).trans rfl, (blk_cell BK129.out 0).trans rfl, (blk_cell BK129.out 1).trans rfl, (blk_cell BK136.out 0).trans rfl, (blk_cell BK136.out 1).trans rfl, (blk_cell BK136.out 2).trans rfl, (blk_cell BK143.out 0).trans rfl, (blk_cell BK143.out 1).trans rfl, (blk_cell BK143.out 2).trans rfl⟩ (fun hHeld => ?_)
                  clear hK K
                  refine norm_ (a' := ?_) ?_ ?_
                  rotate_left
                  · show Act.put _ (some 90) _ = _
                    simp only [Act.put, List.setIfInBounds_toArray, List.set_cons_zero, List.set_cons_succ, i64_w, i32_w]
                    rfl
                  refine pu_ 29 (some 91) HT_ #[true, true, true, true, true, true, true, true, true, true, true, true, true, true, true, true, true, true, true, true, true, true, true, true, true, true, true, true, true, true, false, false, false, false, false, false, false, false, false, false, false, false, false, false, false, false] ?_
                  refine pu_ 30 (some 92) HT_ #[true, true, true, true, true, true, true, true, true, true, true, true, true, true, true, true, true, true, true, true, true, true, true, true, true, true, true, true, true, true, true, false, false, false, false, false, false, false, false, false, false, false, false, false, false, false] ?_
                  refine pu_ 31 (some 93) HT_ #[true, true, true, true, true, true, true, true, true, true, true, true, true, true, true, true, true, true, true, true, true, true, true, true, true, true, true, true, true, true, true, true, false, false, false, false, false, false, false, false, false, false, false, false, false, false] ?_
                  refine pu_ 32 (some 94) HT_ #[true, true, true, true, true, true, true, true, true, true, true, true, true, true, true, true, true, true, true, true, true, true, true, true, true, true, true, true, true, true, true, true, true, false, false, false, false, false, false, false, false, false, false, false, false, false] ?_
                  refine pu_ 33 (some 95) HT_ #[true, true, true, true, true, true, true, true, true, true, true, true, true, true, true, true, true, true, true, true, true, true, true, true, true, true, true, true, true, true, true, true, true, true, false, false, false, false, false, false, false, false, false, false, false, false] ?_
                  refine pu_ 34 (some 96) HT_ #[true, true, true, true, true, true, true, true, true, true, true, true, true, true, true, true, true, true, true, true, true, true, true, true, true, true, true, true, true, true, true, true, true, true, true, false, false, false, false, false, false, false, false, false, false, false] ?_
                  refine pu_ 35 (some 97) HT_ #[true, true, true, true, true, true, true, true, true, true, true, true, true, true, true, true, true, true, true, true, true, true, true, true, true, true, true, true, true, true, true, true, true, true, true, true, false, false, false, false, false, false, false, false, false, false] ?_
                  refine take_ (i := 36) (N := some 98) (v := ?_) (a' := ?_) #[true, true, true, true, true, true, true, true, true, true, true, true, true, true, true, true, true, true, true, true, true, true, true, true, true, true, true, true, true, true, true, true, true, true, true, true, true, false, false, false, false, false, false, false, false, false] rfl rfl (take_ofW HT_.out HW_.out (by kernel_rfl)) (fun _ _ _ h => h) (Or.inl ⟨by rfl, ?_⟩) hHeld ?_ ?_
                  rotate_left
                  · rintro w' ⟨s0, s1, s2, s3, s4, s5, s6, s7, s8, s9, s10, s11, s12, s13, s14, s15⟩
                    go_simp
                    with_reducible rfl
                  rotate_left
                  · simp only [Act.put, List.setIfInBounds_toArray, List.set_cons_zero, List.set_cons_succ, i64_w, i32_w]
                    rfl
                  refine take_ (i := 37) (N := some 99) (v := ?_) (a' := ?_) #[true, true, true, true, true, true, true, true, true, true, true, true, true, true, true, true, true, true, true, true, true, true, true, true, true, true, true, true, true, true, true, true, true, true, true, true, true, true, false, false, false, false, false, false, false, false] rfl rfl (take_ofW HT_.out HW_.out (by kernel_rfl)) (fun _ _ _ h => h) (Or.inl ⟨by rfl, ?_⟩) hHeld ?_ ?_
                  rotate_left
                  · rintro w' ⟨s0, s1, s2, s3, s4, s5, s6, s7, s8, s9, s10, s11, s12, s13, s14, s15⟩
                    go_simp
                    with_reducible rfl
                  rotate_left
                  · simp only [Act.put, List.setIfInBounds_toArray, List.set_cons_zero, List.set_cons_succ, i64_w, i32_w]
                    rfl
                  refine one_ (i := 38) (N := some 100) #[true, true, true, true, true, true, true, true, true, true, true, true, true, true, true, true, true, true, true, true, true, true, true, true, true, true, true, true, true, true, true, true, true, true, true, true, true, true, true, false, false, false, false, false, false, false] rfl rfl (one_of HT_.out (by kernel_rfl)) (by decide) (fun K hK => ?_)
                  refine goes_ Tryz.func24 (by kernel_rfl) rfl #[.agg #[.int .i64 t130, .slice Ao66 t131.length co66, .string t134], .agg #[.int .i64 t137, .slice Ao77 t138.length co77, .string t141]] (by rfl) rfl rfl Ga_ ?_
                  with_reducible refine (reredoslaw05_same.calls k t130 _ _ t131 t134 t137 _ _ t138 t141 true _ ?side1 ?side2 ?side3 ?side4 A25.out).mono ?_
                  (case side1 => exact Pc_ ((Kd.R_reads' HO133.out).2.2))
                  (case side2 => exact (Kd.R_reads' HO133.out).2.1)
                  (case side3 => exact Pc_ ((Kd.V_reads' HO140.out).2.2))
                  (case side4 => exact (Kd.V_reads' HO140.out).2.1)
                  rintro e w85 ⟨rfl, hb⟩
                  refine ⟨_, rfl, ?_⟩
                  replace HO107 := Aside0.mk (Kd.V_below (Pv_ HO107.out) hb)
                  replace HO116 := Aside0.mk (Kd.R_below (Pr_ HO116.out) hb)
                  replace HO119 := Aside0.mk (Kd.R_below (Pr_ HO119.out) hb)
                  replace HO124 := Aside0.mk (Kd.V_below (Pv_ HO124.out) hb)
                  replace HO127 := Aside0.mk (Kd.R_below (Pr_ HO127.out) hb)
                  replace HO133 := Aside0.mk (Kd.R_below (Pr_ HO133.out) hb)
                  replace HO140 := Aside0.mk (Kd.V_below (Pv_ HO140.out) hb)
                  replace BK101 := kb_ BK101 hb
                  replace BK109 := kb_ BK109 hb
                  replace BK121 := kb_ BK121 hb
                  replace BK129 := kb_ BK129 hb
                  replace BK136 := kb_ BK136 hb
                  replace BK143 := kb_ BK143 hb
                  replace HB := Bs_ hb
                  (try clear hb)
                  (try clear hb2)
                  (try clear hk)
                  (try clear hi)
                  refine hK.out _ _ ⟨(blk_cell BK109.out 0).trans rfl, (blk_cell BK109.out 1).trans rfl, (blk_cell BK109.out 2).trans rfl, (blk_cell BK101.out 0).trans rfl, (blk_cell BK101.out 1).trans rfl, (blk_cell BK101.out 2).trans rfl, (blk_cell BK121.out 0).trans rfl, (blk_cell BK121.out 1).trans rfl, (blk_cell BK129.out 0).trans rfl, (blk_cell BK129.out 1).trans rfl, (blk_cell BK136.out 0).trans rfl, (blk_cell BK136.out 1).trans rfl, (blk_cell BK136.out 2).trans rfl, (blk_cell BK143.out 0).trans rfl, (blk_cell BK143.out 1).trans rfl, (blk_cell BK143.out 2).trans rfl⟩ (fun hHeld => ?_)
                  clear hK K
                  refine norm_ (a' := ?_) ?_ ?_
                  rotate_left
                  · show Act.put _ (some 100) _ = _
                    simp only [Act.put, List.setIfInBounds_toArray, List.set_cons_zero, List.set_cons_succ, i64_w, i32_w]
                    rfl
                  refine pu_ 39 (some 101) HT_ #[true, true, true, true, true, true, true, true, true, true, true, true, true, true, true, true, true, true, true, true, true, true, true, true, true, true, true, true, true, true, true, true, true, true, true, true, true, true, true, true, false, false, false, false, false, false] ?_
                  refine pu_ 40 (some 102) HT_ #[true, true, true, true, true, true, true, true, true, true, true, true, true, true, true, true, true, true, true, true, true, true, true, true, true, true, true, true, true, true, true, true, true, true, true, true, true, true, true, true, true, false, false, false, false, false] ?_
                  refine pu_ 41 (some 103) HT_ #[true, true, true, true, true, true, true, true, true, true, true, true, true, true, true, true, true, true, true, true, true, true, true, true, true, true, true, true, true, true, true, true, true, true, true, true, true, true, true, true, true, true, false, false, false, false] ?_
                  refine pu_ 42 (some 104) HT_ #[true, true, true, true, true, true, true, true, true, true, true, true, true, true, true, true, true, true, true, true, true, true, true, true, true, true, true, true, true, true, true, true, true, true, true, true, true, true, true, true, true, true, true, false, false, false] ?_
                  refine pu_ 43 (some 105) HT_ #[true, true, true, true, true, true, true, true, true, true, true, true, true, true, true, true, true, true, true, true, true, true, true, true, true, true, true, true, true, true, true, true, true, true, true, true, true, true, true, true, true, true, true, true, false, false] ?_
                  refine pu_ 44 (some 106) HT_ #[true, true, true, true, true, true, true, true, true, true, true, true, true, true, true, true, true, true, true, true, true, true, true, true, true, true, true, true, true, true, true, true, true, true, true, true, true, true, true, true, true, true, true, true, true, false] ?_
                  refine pu_ 45 (some 6) HT_ #[true, true, true, true, true, true, true, true, true, true, true, true, true, true, true, true, true, true, true, true, true, true, true, true, true, true, true, true, true, true, true, true, true, true, true, true, true, true, true, true, true, true, true, true, true, true] ?_
                  refine done_ (done_of HT_.out (by kernel_rfl)) ?_
                  try go_wp2
                  go_ret
                  exact ⟨Re_, Bl_⟩
                · replace c26 := Bool.eq_false_iff.mpr c26
                  subst c26
                  have H1 : (none) = some r := by rw [if_neg (show ¬ (false = true) by decide)] at H; exact H
                  clear H
                  have H := H1
                  clear H1
                  exact absurd H (by simp)
              · rw [if_neg c24] at H
                exact absurd H (by simp)
            · replace c23 := Bool.eq_false_iff.mpr c23
              subst c23
              have H1 : (none) = some r := by rw [if_neg (show ¬ (false = true) by decide)] at H; exact H
              clear H
              have H := H1
              clear H1
              exact absurd H (by simp)
          · rw [if_neg c21] at H
            exact absurd H (by simp)
        · rw [if_neg c20] at H
          exact absurd H (by simp)
      · rw [if_neg c19] at H
        exact absurd H (by simp)
    · rw [if_neg c16] at H
      exact absurd H (by simp)
  · replace c6 := Bool.eq_false_iff.mpr c6
    subst c6
    have H1 : (some true) = some r := by rw [if_neg (show ¬ (false = true) by decide)] at H; exact H
    clear H
    have H := H1
    clear H1
    obtain rfl := Option.some.inj H
    go_enter Tryz.func3, Tryz.ntmps3
    go_wp2_with (first | ((with_reducible refine gate_dst (N := 3) rfl ?_); refine bx_ 3 #[.int .i64 a0_0, .slice A0_1 l0_1.length c0_1, .string a0_2] 24 ?_; intro gb101 hg w86 hbox hb; have BK101 := Aside0.mk (hbox); have GW101 := (Bg_ hg : Aside0 (w.heap.size ≤ gb101)); have GE101 := (Bg_ hg : Aside0 (w.heap.size ≤ gb101)); replace HB := Bs_ hb; clear hb hbox hg) | ((with_reducible refine gate_callee (f := 10) rfl ?_); refine goesL_ (some 21) rfl rfl Tryz.func10 (by kernel_rfl) rfl #[] rfl Ga_ ?_; (with_reducible refine (reredoslaw05_shown.calls  true _ A4.out ?side1).mono ?_); (case side1 => first | exact hG | exact Glob.below hG Bl_); rintro e w87 ⟨rfl, hb⟩; refine ⟨_, rfl, ?_⟩; replace BK101 := kb_ BK101 hb; replace HB := Bs_ hb; (try clear hb); (try clear hb2); (try clear hk); (try clear hi); obtain ⟨hcz88_0, hcz88_1, hcz88_2⟩ := c3_ BK101; obtain ⟨hfz88_0, hfz88_1, hfz88_2⟩ := f3_ BK101) | ((with_reducible refine gate_callee (f := 11) rfl ?_); refine goesL_ (some 23) rfl rfl Tryz.func11 (by kernel_rfl) rfl #[.agg #[.int .i64 a0_0, .slice A0_1 l0_1.length c0_1, .string a0_2]] rfl Ga_ ?_; (with_reducible refine (reredoslaw05_few.calls a0_0 _ _ l0_1 a0_2 false _ ?side1 ?side2 A5.out).mono ?_); (case side1 => exact Pc_ (Kd.C_below HR0_1.out HB.out)); (case side2 => exact HC0_1.out); rintro e w89 ⟨rfl, hb⟩; refine ⟨_, rfl, ?_⟩; replace BK101 := kb_ BK101 hb; replace HB := Bs_ hb; (try clear hb); (try clear hb2); (try clear hk); (try clear hi)))
    go_ret
    exact ⟨Re_, Bl_⟩
/-! ### shape_Place: function 94 -/
section Place_
open Go.Shelf
attribute [local go_sem] Oper.semAt_some
/-! ### A region that draws its order, in a round of a loop over an iterator: as anywhere else -/
section
variable {P : Program} {ops : Array Oper} {Q : Exit → Act → World → Prop} {md : Region.Mode}
end

/-- A row of whole numbers: nil or empty, or in a block below n₀. -/
def RowAt (n₀ : Nat) (W : World) (A : Option Addr) (zs : List Int) : Prop := zs = [] ∨ ∃ b off, A = some ⟨b, off, none⟩ ∧ b < n₀ ∧ ∀ j, j < zs.length → W.cell? ⟨b, off + j, none⟩ = some (.int .i64 (zs[j]?.getD 0))
theorem RowAt.below {n₀ : Nat} {W W' : World} {A : Option Addr} {zs : List Int} (hb : Below n₀ W W') : RowAt n₀ W A zs → RowAt n₀ W' A zs
  | .inl e => .inl e
  | .inr ⟨b, off, e, h, hc⟩ => .inr ⟨b, off, e, h, fun j hj => (hb.cell (p := ⟨b, off + j, none⟩) h).trans (hc j hj)⟩

/-! ### Place -/
end Place_
/-! ### mould_Flip: function 37 -/
def mould_Flip.T11 : Bool × List (List Nat × List Nat) := (true, [([], []), ([0], [0]), ([], []), ([2], [2]), ([], []), ([3, 4], [3, 4]), ([5], [5]), ([6], [6]), ([1, 7], [1, 7]), ([0, 1, 2, 3, 4, 5, 6, 7, 8], []), ([9, 8, 8, 0, 1, 2, 3, 4, 5, 6, 7, 8], [8, 9])])
def mould_Flip.B11 : List Nat := [0, 1, 0, 4, 0, 28, 60, 124, 255, 511, 1023]
theorem mould_Flip.tab11 : rtab .any (opsOf Tryz.f37 11) = mould_Flip.T11 := by kernel_rfl
theorem mould_Flip.bits11 : waitsOk mould_Flip.T11.2 mould_Flip.B11 = true := by kernel_rfl

end Go.Proofs.YtlemmdfjcnhjkaaGreatDoor.P
