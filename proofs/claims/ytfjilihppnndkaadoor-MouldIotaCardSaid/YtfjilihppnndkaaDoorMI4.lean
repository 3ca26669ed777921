-- Written by drive.py of this claim's own session, by way of the kit's print. Lean checks it.
import Derived.Test.YtfjilihppnndkaaDoorMI1
import Derived.Test.YtfjilihppnndkaaDoorMI2
import Derived.Test.YtfjilihppnndkaaDoorMI3
namespace Go.Proofs.YtfjilihppnndkaaDoor.P
open Go.RowKit Go.Proofs.YtfjilihppnndkaaDoorW.PrintWords Go.Proofs.YtfjilihppnndkaaDoorW.PrintLast Go.Proofs.YtfjilihppnndkaaDoorW.PrintMore
attribute [local go_sem] max2_int min2_int max_two min_two max_three min_three max_four min_four   -- for this text's walks alone
set_option linter.unusedVariables false
set_option linter.unusedSimpArgs false

/-! ### mould_Reshape: function 30 -/
mutual
def mould_Reshape.j0 : Nat → List Int → Int → List Int → List ByteArray → Option (List Int × List ByteArray × Int)
  | 0, _, _, _, _ => none
  | k + 1, x6, x8, x103000, x103001 => mould_Reshape.l0 k x8 0 x103000 x103001 x6 ([] : List ByteArray)
def mould_Reshape.l0 : Nat → Int → Int → List Int → List ByteArray → List Int → List ByteArray → Option (List Int × List ByteArray × Int)
  | 0, _, _, _, _, _, _ => none
  | k + 1, x55, x56, x103000, x103001, x115000, x115001 => if x56 < x55 then (if (x103001.length : Int) = 0 then (none) else (if 0 ≤ (Int.tmod x56 (x103001.length : Int)) then (if (Int.tmod x56 (x103001.length : Int)) < (x103001.length : Int) then (if x115001.length < 8796093022208 then (mould_Reshape.l0 k x55 (wrap64 (x56 + 1)) x103000 x103001 x115000 (x115001 ++ [rdOf ByteArray.empty x103001 (Int.tmod x56 (x103001.length : Int))])) else (none)) else (none)) else (none))) else (some (x115000, x115001, 0))
end
def mould_Reshape.f (k : Nat) (l0_0 : List Int) (l0_1 : List ByteArray) (l1_0 : List Int) (l1_1 : List ByteArray) : Option (List Int × List ByteArray × Int) := (mould_fine.f k (([(⟨l0_0, l0_1⟩ : S25), (⟨l1_0, l1_1⟩ : S25)] : List (S25)))).bind fun t107 => (if t107 = true then (if (l0_0.length : Int) > 1 then (some (([] : List Int), ([] : List ByteArray), 3)) else ((val_All.f k l0_0 l0_1).bind fun bt108 => (if bt108.2 = 0 then ((shape_Size.f k bt108.1).bind fun bt112 => (if bt112.2 = 0 then (if bt112.1 > 0 then (if (l1_1.length : Int) = 0 then (some (([] : List Int), ([] : List ByteArray), 5)) else (mould_Reshape.j0 k bt108.1 bt112.1 l1_0 l1_1)) else (mould_Reshape.j0 k bt108.1 bt112.1 l1_0 l1_1)) else (some (([] : List Int), ([] : List ByteArray), bt112.2)))) else (some (([] : List Int), ([] : List ByteArray), bt108.2))))) else (some (([] : List Int), ([] : List ByteArray), 1)))
def mould_Reshape.T17 : Bool × List (List Nat × List Nat) := (true, [([], []), ([0], [0]), ([], []), ([2], [2]), ([], []), ([], []), ([5], [5]), ([6], [6]), ([4, 7], [4, 7]), ([3, 8], [3, 8]), ([9], [9]), ([10], [10]), ([1, 11], [1, 11]), ([0, 1, 2, 3, 4, 5, 6, 7, 8, 9, 10, 11, 12], []), ([13, 12, 12, 0, 1, 2, 3, 4, 5, 6, 7, 8, 9, 10, 11, 12], [12, 13])])
def mould_Reshape.B17 : List Nat := [0, 1, 0, 4, 0, 0, 32, 96, 240, 508, 1020, 2044, 4095, 8191, 16383]
theorem mould_Reshape.tab17 : rtab .any (opsOf Tryd.f30 17) = mould_Reshape.T17 := by kernel_rfl
theorem mould_Reshape.bits17 : waitsOk mould_Reshape.T17.2 mould_Reshape.B17 = true := by kernel_rfl
set_option maxHeartbeats 8000000 in
set_option maxRecDepth 100000 in
theorem mould_Reshape.calls (k : Nat) (P0_0_ : Nat → Prop) (A0_0 : Option Addr) (c0_0 : Nat) (l0_0 : List Int) (P0_1_ : Nat → Prop) (A0_1 : Option Addr) (c0_1 : Nat) (l0_1 : List ByteArray) (P1_0_ : Nat → Prop) (A1_0 : Option Addr) (c1_0 : Nat) (l1_0 : List Int) (P1_1_ : Nat → Prop) (A1_1 : Option Addr) (c1_1 : Nat) (l1_1 : List ByteArray) (r1 : List Int) (r2 : List ByteArray) (r3 : Int) (w : World) (hs0_0 : Kd.V (Kd.int .i64) 3 w w.heap.size (fun k_ => P0_0_ k_) (.slice A0_0 l0_0.length c0_0) l0_0) (hs0_1 : Kd.V Kd.string 9 w w.heap.size (fun k_ => P0_1_ k_) (.slice A0_1 l0_1.length c0_1) l0_1) (hs1_0 : Kd.V (Kd.int .i64) 3 w w.heap.size (fun k_ => P1_0_ k_) (.slice A1_0 l1_0.length c1_0) l1_0) (hs1_1 : Kd.V Kd.string 9 w w.heap.size (fun k_ => P1_1_ k_) (.slice A1_1 l1_1.length c1_1) l1_1) (h : mould_Reshape.f k l0_0 l0_1 l1_0 l1_1 = some (r1, r2, r3)) (hG : Glob w) :
    Calls Tryd.prog 30 #[.agg #[.slice A0_0 l0_0.length c0_0, .slice A0_1 l0_1.length c0_1], .agg #[.slice A1_0 l1_0.length c1_0, .slice A1_1 l1_1.length c1_1]] w fun e w' => ∃ v0_ v1_ : Value, e = .returned (.tuple #[.agg #[v0_, v1_], .int .i64 r3]) ∧ Kd.R (Kd.int .i64) 3 w' w.heap.size (fun k_ => (w.heap.size ≤ k_)) v0_ r1 ∧ Kd.R Kd.string 9 w' w.heap.size (fun k_ => (w.heap.size ≤ k_)) v1_ r2 ∧ Below w.heap.size w w' := by
  have hu25 := Tryd.underlying25
  have HO0_0 := Aside0.mk (show Kd.V (Kd.int .i64) 3 w w.heap.size (fun k_ => ((P0_0_ k_ ∨ P0_1_ k_ ∨ P1_0_ k_ ∨ P1_1_ k_) ∨ w.heap.size ≤ k_)) (.slice A0_0 l0_0.length c0_0) l0_0 from Kd.V_mono hs0_0 (fun k_ hk => .inl (.inl hk)))
  have HO0_1 := Aside0.mk (show Kd.V Kd.string 9 w w.heap.size (fun k_ => ((P0_0_ k_ ∨ P0_1_ k_ ∨ P1_0_ k_ ∨ P1_1_ k_) ∨ w.heap.size ≤ k_)) (.slice A0_1 l0_1.length c0_1) l0_1 from Kd.V_mono hs0_1 (fun k_ hk => .inl (.inr (.inl hk))))
  have HO1_0 := Aside0.mk (show Kd.V (Kd.int .i64) 3 w w.heap.size (fun k_ => ((P0_0_ k_ ∨ P0_1_ k_ ∨ P1_0_ k_ ∨ P1_1_ k_) ∨ w.heap.size ≤ k_)) (.slice A1_0 l1_0.length c1_0) l1_0 from Kd.V_mono hs1_0 (fun k_ hk => .inl (.inr (.inr (.inl hk)))))
  have HO1_1 := Aside0.mk (show Kd.V Kd.string 9 w w.heap.size (fun k_ => ((P0_0_ k_ ∨ P0_1_ k_ ∨ P1_0_ k_ ∨ P1_1_ k_) ∨ w.heap.size ≤ k_)) (.slice A1_1 l1_1.length c1_1) l1_1 from Kd.V_mono hs1_1 (fun k_ hk => .inl (.inr (.inr (.inr hk)))))
  have HB := Aside0.mk (Below.refl w.heap.size w)
  have H : ((mould_fine.f k (([(⟨l0_0, l0_1⟩ : S25), (⟨l1_0, l1_1⟩ : S25)] : List (S25)))).bind fun t107 => (if t107 = true then (if (l0_0.length : Int) > 1 then (some (([] : List Int), ([] : List ByteArray), 3)) else ((val_All.f k l0_0 l0_1).bind fun bt108 => (if bt108.2 = 0 then ((shape_Size.f k bt108.1).bind fun bt112 => (if bt112.2 = 0 then (if bt112.1 > 0 then (if (l1_1.length : Int) = 0 then (some (([] : List Int), ([] : List ByteArray), 5)) else (mould_Reshape.j0 k bt108.1 bt112.1 l1_0 l1_1)) else (mould_Reshape.j0 k bt108.1 bt112.1 l1_0 l1_1)) else (some (([] : List Int), ([] : List ByteArray), bt112.2)))) else (some (([] : List Int), ([] : List ByteArray), bt108.2))))) else (some (([] : List Int), ([] : List ByteArray), 1)))) = some (r1, r2, r3) := h
  clear h
  obtain ⟨y104, hy104⟩ : ∃ y_ : List (S25), y_ = (([(⟨l0_0, l0_1⟩ : S25), (⟨l1_0, l1_1⟩ : S25)] : List (S25))) := ⟨_, rfl⟩
  replace H : ((mould_fine.f k y104).bind fun t107 => (if t107 = true then (if (l0_0.length : Int) > 1 then (some (([] : List Int), ([] : List ByteArray), 3)) else ((val_All.f k l0_0 l0_1).bind fun bt108 => (if bt108.2 = 0 then ((shape_Size.f k bt108.1).bind fun bt112 => (if bt112.2 = 0 then (if bt112.1 > 0 then (if (l1_1.length : Int) = 0 then (some (([] : List Int), ([] : List ByteArray), 5)) else (mould_Reshape.j0 k bt108.1 bt112.1 l1_0 l1_1)) else (mould_Reshape.j0 k bt108.1 bt112.1 l1_0 l1_1)) else (some (([] : List Int), ([] : List ByteArray), bt112.2)))) else (some (([] : List Int), ([] : List ByteArray), bt108.2))))) else (some (([] : List Int), ([] : List ByteArray), 1)))) = some (r1, r2, r3) := by first | (rw [hy104]; with_reducible exact H) | (have H2_ := (Option.bind_some _ _).symm.trans H; rw [hy104]; with_reducible exact H2_) | (have H2_ := (Option.bind_some _ _).symm.trans H; with_reducible exact H2_) | with_reducible exact H | (rw [hy104]; exact H) | exact H
  have Ny104 := Aside0.mk hy104
  clear hy104
  obtain ⟨t107, A3, H⟩ := bnd_ H
  try dsimp -simprocs only at H
  by_cases c4 : t107 = true
  · subst c4
    have H1 : (if (l0_0.length : Int) > 1 then (some (([] : List Int), ([] : List ByteArray), 3)) else ((val_All.f k l0_0 l0_1).bind fun bt108 => (if bt108.2 = 0 then ((shape_Size.f k bt108.1).bind fun bt112 => (if bt112.2 = 0 then (if bt112.1 > 0 then (if (l1_1.length : Int) = 0 then (some (([] : List Int), ([] : List ByteArray), 5)) else (mould_Reshape.j0 k bt108.1 bt112.1 l1_0 l1_1)) else (mould_Reshape.j0 k bt108.1 bt112.1 l1_0 l1_1)) else (some (([] : List Int), ([] : List ByteArray), bt112.2)))) else (some (([] : List Int), ([] : List ByteArray), bt108.2))))) = some (r1, r2, r3) := by rw [if_pos rfl] at H; exact H
    clear H
    have H := H1
    clear H1
    by_cases c5 : (l0_0.length : Int) > 1
    · rw [if_pos c5] at H
      have c5b0 : decide (1 < (l0_0.length : Int)) = true := decide_eq_true c5
      have c5b1 : decide (1 < l0_0.length) = true := decide_eq_true (by omega)
      clear c5
      simp only [Option.some.injEq, Prod.mk.injEq] at H
      obtain ⟨rfl, rfl, rfl⟩ := H
      go_enter Tryd.func30, Tryd.ntmps30
      go_wp2_with (first | ((with_reducible refine gate_dst (N := 2) rfl ?_); (try (refine gate_guard (by rfl) ?_; dsimp only)); refine bx_ 2 #[.slice A0_0 l0_0.length c0_0, .slice A0_1 l0_1.length c0_1] 25 ?_; intro gb101 hg w6 hbox hb; replace HO0_0 := Aside0.mk (Kd.V_below (Kd.V_elderB (Pv_ HO0_0.out) gb101 (Nat.le_of_eq hg.symm)) hb); replace HO0_1 := Aside0.mk (Kd.V_below (Kd.V_elderB (Pv_ HO0_1.out) gb101 (Nat.le_of_eq hg.symm)) hb); replace HO1_0 := Aside0.mk (Kd.V_below (Kd.V_elderB (Pv_ HO1_0.out) gb101 (Nat.le_of_eq hg.symm)) hb); replace HO1_1 := Aside0.mk (Kd.V_below (Kd.V_elderB (Pv_ HO1_1.out) gb101 (Nat.le_of_eq hg.symm)) hb); have BK101 := Aside0.mk (hbox); have GW101 := (Bg_ hg : Aside0 (w.heap.size ≤ gb101)); have GE101 := (Bg_ hg : Aside0 (w.heap.size ≤ gb101)); replace HB := Bs_ hb; clear hb hbox hg) | ((with_reducible refine gate_dst (N := 3) rfl ?_); (try (refine gate_guard (by rfl) ?_; dsimp only)); refine bx_ 3 #[.slice A1_0 l1_0.length c1_0, .slice A1_1 l1_1.length c1_1] 25 ?_; intro gb102 hg w7 hbox hb; replace HO0_0 := Aside0.mk (Kd.V_below (Kd.V_elderB (Pv_ HO0_0.out) gb102 (Nat.le_of_eq hg.symm)) hb); replace HO0_1 := Aside0.mk (Kd.V_below (Kd.V_elderB (Pv_ HO0_1.out) gb102 (Nat.le_of_eq hg.symm)) hb); replace HO1_0 := Aside0.mk (Kd.V_below (Kd.V_elderB (Pv_ HO1_0.out) gb102 (Nat.le_of_eq hg.symm)) hb); replace HO1_1 := Aside0.mk (Kd.V_below (Kd.V_elderB (Pv_ HO1_1.out) gb102 (Nat.le_of_eq hg.symm)) hb); have BK102 := Aside0.mk (hbox); have GW102 := (Bg_ hg : Aside0 (w.heap.size ≤ gb102)); have GE102 := (Bg_ hg : Aside0 (w.heap.size ≤ gb102)); replace HB := Bs_ hb; have NB101_102 := nl_ hg BK101; have NB102_101 := ng_ hg BK101; replace BK101 := kb_ BK101 hb; clear hb hbox hg) | ((with_reducible refine gate_dst (N := 4) rfl ?_); (try (refine gate_guard (by rfl) ?_; dsimp only)); refine bx_ 4 #[.slice none 0 0, .slice none 0 0] 25 ?_; intro gb103 hg w8 hbox hb; replace HO0_0 := Aside0.mk (Kd.V_below (Kd.V_elderB (Pv_ HO0_0.out) gb103 (Nat.le_of_eq hg.symm)) hb); replace HO0_1 := Aside0.mk (Kd.V_below (Kd.V_elderB (Pv_ HO0_1.out) gb103 (Nat.le_of_eq hg.symm)) hb); replace HO1_0 := Aside0.mk (Kd.V_below (Kd.V_elderB (Pv_ HO1_0.out) gb103 (Nat.le_of_eq hg.symm)) hb); replace HO1_1 := Aside0.mk (Kd.V_below (Kd.V_elderB (Pv_ HO1_1.out) gb103 (Nat.le_of_eq hg.symm)) hb); have BK103 := Aside0.mk (hbox); have GW103 := (Bg_ hg : Aside0 (w.heap.size ≤ gb103)); have GE103 := (Bg_ hg : Aside0 (w.heap.size ≤ gb103)); replace HB := Bs_ hb; have NB101_103 := nl_ hg BK101; have NB103_101 := ng_ hg BK101; replace BK101 := kb_ BK101 hb; have NB102_103 := nl_ hg BK102; have NB103_102 := ng_ hg BK102; replace BK102 := kb_ BK102 hb; clear hb hbox hg; have hnb9 := NB101_102.out; have hnc9 := NB102_101.out; have hnb10 := NB101_103.out; have hnc10 := NB103_101.out; obtain ⟨hcz11_0, hcz11_1⟩ := c2_ BK101; obtain ⟨hfz11_0, hfz11_1⟩ := f2_ BK101; have hnb12 := NB102_103.out; have hnc12 := NB103_102.out; obtain ⟨hcz13_0, hcz13_1⟩ := c2_ BK102; obtain ⟨hfz13_0, hfz13_1⟩ := f2_ BK102) | ((with_reducible refine gate_dst (N := 14) rfl ?_); (try (refine gate_guard (by rfl) ?_; dsimp only)); refine Kd.N_lit k25 _ 25 ?hg (N' := 14) ?hd (xs := ([(⟨l0_0, l0_1⟩ : S25), (⟨l1_0, l1_1⟩ : S25)] : List (S25))) (inner := [.slice A0_0 l0_0.length c0_0, .slice A0_1 l0_1.length c0_1, .slice A1_0 l1_0.length c1_0, .slice A1_1 l1_1.length c1_1]) (ok := (fun k_ => ((P0_0_ k_ ∨ P0_1_ k_ ∨ P1_0_ k_ ∨ P1_1_ k_) ∨ w.heap.size ≤ k_) ∧ k_ ≠ gb101 ∧ k_ ≠ gb102 ∧ k_ ≠ gb103)) (okp := (fun k_ => ((P0_0_ k_ ∨ P0_1_ k_ ∨ P1_0_ k_ ∨ P1_1_ k_) ∨ w.heap.size ≤ k_) ∧ k_ ≠ gb101 ∧ k_ ≠ gb102 ∧ k_ ≠ gb103)) ?hr ?hp (fun _ hk => hk) ((show ∀ k_, w8.heap.size ≤ k_ → (fun k_ => ((P0_0_ k_ ∨ P0_1_ k_ ∨ P1_0_ k_ ∨ P1_1_ k_) ∨ w.heap.size ≤ k_) ∧ k_ ≠ gb101 ∧ k_ ≠ gb102 ∧ k_ ≠ gb103) k_ from fun k_ hk => ⟨(.inr (Nat.le_trans Bz_ hk)), Kd.freshB (g := gb101) (o := .cells #[.slice A0_0 l0_0.length c0_0, .slice A0_1 l0_1.length c0_1] 25 (0, 0)) (Bk_ BK101.out) k_ hk, Kd.freshB (g := gb102) (o := .cells #[.slice A1_0 l1_0.length c1_0, .slice A1_1 l1_1.length c1_1] 25 (0, 0)) (Bk_ BK102.out) k_ hk, Kd.freshB (g := gb103) (o := .cells #[.slice none 0 0, .slice none 0 0] 25 (0, 0)) (Bk_ BK103.out) k_ hk⟩) _ (Nat.le_refl _)) (Below.refl _ _) (Nat.le_refl _) (by simp) ?_; (case hd => rfl); (case hg => rfl); (case hr => first | (go_simp; done) | (go_simp; rfl)); (case hp => exact (Reps.c2 (show Kd.FK k25 _ _ (⟨l0_0, l0_1⟩ : S25) [.slice A0_0 l0_0.length c0_0, .slice A0_1 l0_1.length c0_1] from (k25_mkF _ _ (⟨l0_0, l0_1⟩ : S25) (Kd.V_reads' (Kd.V_mono (ok' := (fun k_ => ((P0_0_ k_ ∨ P0_1_ k_ ∨ P1_0_ k_ ∨ P1_1_ k_) ∨ w.heap.size ≤ k_) ∧ k_ ≠ gb101 ∧ k_ ≠ gb102 ∧ k_ ≠ gb103)) (HO0_0.out) (fun k_ hk => ⟨hk.1.1.1, ⟨hk.1.1.2, ⟨hk.1.2, hk.2⟩⟩⟩))).2.1 (Kd.V_F (Kd.V_mono (ok' := (fun k_ => ((P0_0_ k_ ∨ P0_1_ k_ ∨ P1_0_ k_ ∨ P1_1_ k_) ∨ w.heap.size ≤ k_) ∧ k_ ≠ gb101 ∧ k_ ≠ gb102 ∧ k_ ≠ gb103)) (HO0_0.out) (fun k_ hk => ⟨hk.1.1.1, ⟨hk.1.1.2, ⟨hk.1.2, hk.2⟩⟩⟩))) (Kd.V_reads' (Kd.V_mono (ok' := (fun k_ => ((P0_0_ k_ ∨ P0_1_ k_ ∨ P1_0_ k_ ∨ P1_1_ k_) ∨ w.heap.size ≤ k_) ∧ k_ ≠ gb101 ∧ k_ ≠ gb102 ∧ k_ ≠ gb103)) (HO0_1.out) (fun k_ hk => ⟨hk.1.1.1, ⟨hk.1.1.2, ⟨hk.1.2, hk.2⟩⟩⟩))).2.1 (Kd.V_F (Kd.V_mono (ok' := (fun k_ => ((P0_0_ k_ ∨ P0_1_ k_ ∨ P1_0_ k_ ∨ P1_1_ k_) ∨ w.heap.size ≤ k_) ∧ k_ ≠ gb101 ∧ k_ ≠ gb102 ∧ k_ ≠ gb103)) (HO0_1.out) (fun k_ hk => ⟨hk.1.1.1, ⟨hk.1.1.2, ⟨hk.1.2, hk.2⟩⟩⟩))))) (Reps.c2 (show Kd.FK k25 _ _ (⟨l1_0, l1_1⟩ : S25) [.slice A1_0 l1_0.length c1_0, .slice A1_1 l1_1.length c1_1] from (k25_mkF _ _ (⟨l1_0, l1_1⟩ : S25) (Kd.V_reads' (Kd.V_mono (ok' := (fun k_ => ((P0_0_ k_ ∨ P0_1_ k_ ∨ P1_0_ k_ ∨ P1_1_ k_) ∨ w.heap.size ≤ k_) ∧ k_ ≠ gb101 ∧ k_ ≠ gb102 ∧ k_ ≠ gb103)) (HO1_0.out) (fun k_ hk => ⟨hk.1.1.1, ⟨hk.1.1.2, ⟨hk.1.2, hk.2⟩⟩⟩))).2.1 (Kd.V_F (Kd.V_mono (ok' := (fun k_ => ((P0_0_ k_ ∨ P0_1_ k_ ∨ P1_0_ k_ ∨ P1_1_ k_) ∨ w.heap.size ≤ k_) ∧ k_ ≠ gb101 ∧ k_ ≠ gb102 ∧ k_ ≠ gb103)) (HO1_0.out) (fun k_ hk => ⟨hk.1.1.1, ⟨hk.1.1.2, ⟨hk.1.2, hk.2⟩⟩⟩))) (Kd.V_reads' (Kd.V_mono (ok' := (fun k_ => ((P0_0_ k_ ∨ P0_1_ k_ ∨ P1_0_ k_ ∨ P1_1_ k_) ∨ w.heap.size ≤ k_) ∧ k_ ≠ gb101 ∧ k_ ≠ gb102 ∧ k_ ≠ gb103)) (HO1_1.out) (fun k_ hk => ⟨hk.1.1.1, ⟨hk.1.1.2, ⟨hk.1.2, hk.2⟩⟩⟩))).2.1 (Kd.V_F (Kd.V_mono (ok' := (fun k_ => ((P0_0_ k_ ∨ P0_1_ k_ ∨ P1_0_ k_ ∨ P1_1_ k_) ∨ w.heap.size ≤ k_) ∧ k_ ≠ gb101 ∧ k_ ≠ gb102 ∧ k_ ≠ gb103)) (HO1_1.out) (fun k_ hk => ⟨hk.1.1.1, ⟨hk.1.1.2, ⟨hk.1.2, hk.2⟩⟩⟩))))) (Reps.none _ _)))); intro v105 w14 ho15 hb hg_ hnew_; clear hg_ hnew_; (first | rw [← Ny104.out] at ho15 | (simp only [Int.reduceToNat] at ho15; rw [← Ny104.out] at ho15)); replace HO0_0 := Aside0.mk (Kd.V_elder' (Pv_ HO0_0.out) (Kd.N_base ho15) hb); replace HO0_1 := Aside0.mk (Kd.V_elder' (Pv_ HO0_1.out) (Kd.N_base ho15) hb); replace HO1_0 := Aside0.mk (Kd.V_elder' (Pv_ HO1_0.out) (Kd.N_base ho15) hb); replace HO1_1 := Aside0.mk (Kd.V_elder' (Pv_ HO1_1.out) (Kd.N_base ho15) hb); have HO106 := Aside0.mk (Kd.N_lower ho15 Bz_); replace BK101 := kb_ BK101 hb; replace BK102 := kb_ BK102 hb; replace BK103 := kb_ BK103 hb; replace HB := Bs_ hb; clear hb ho15; obtain ⟨Ao16, co16, eo16⟩ := Kd.N_slice HO106.out; subst eo16) | ((with_reducible refine gate_callee (f := 50) rfl ?_); refine goesL_ (some 15) rfl rfl Tryd.func50 (by kernel_rfl) rfl #[.slice Ao16 y104.length co16] rfl Ga_ ?_; (with_reducible refine (mould_fine.calls k _ _ y104 true _ ?side1 ?side2 A3.out).mono ?_); (case side1 => exact Pc_ ((Kd.N_reads' HO106.out).2.2)); (case side2 => exact (Kd.N_reads' HO106.out).2.1); rintro e w17 ⟨rfl, hb⟩; refine ⟨_, rfl, ?_⟩; replace HO0_0 := Aside0.mk (Kd.V_below (Pv_ HO0_0.out) hb); replace HO0_1 := Aside0.mk (Kd.V_below (Pv_ HO0_1.out) hb); replace HO1_0 := Aside0.mk (Kd.V_below (Pv_ HO1_0.out) hb); replace HO1_1 := Aside0.mk (Kd.V_below (Pv_ HO1_1.out) hb); replace HO106 := Aside0.mk (Kd.N_below (by (with_reducible repeat (first | apply Kd.N_alloc | apply Kd.N_drewN | apply Kd.N_drew)); exact HO106.out) hb); replace BK101 := kb_ BK101 hb; replace BK102 := kb_ BK102 hb; replace BK103 := kb_ BK103 hb; replace HB := Bs_ hb; (try clear hb); (try clear hb2); (try clear hk); (try clear hi); obtain ⟨hcz18_0, hcz18_1⟩ := c2_ BK101; obtain ⟨hfz18_0, hfz18_1⟩ := f2_ BK101; obtain ⟨hcz19_0, hcz19_1⟩ := c2_ BK103; obtain ⟨hfz19_0, hfz19_1⟩ := f2_ BK103))
      refine bodyPost_ret (results_ct rfl _ _ gb103 25 #[.slice none 0 0, .slice none 0 0] (0, 0) _ rfl (by (with_reducible repeat (first | refine blk_drewN ?_ _ | refine blk_drew ?_ | refine blk_alloc ?_ _)); refine blk_put (cs := #[.slice none 0 0, .slice none 0 0]) ?_ 1 _ rfl; (with_reducible repeat (first | refine blk_drewN ?_ _ | refine blk_drew ?_ | refine blk_alloc ?_ _)); refine blk_put (cs := #[.slice none 0 0, .slice none 0 0]) ?_ 0 _ rfl; (with_reducible repeat (first | refine blk_drewN ?_ _ | refine blk_drew ?_ | refine blk_alloc ?_ _)); exact BK103.out) Tryd.underlying25 rfl (by kernel_rfl)) rfl ?_
      exact ⟨_, _, Re_, by first | exact Kd.R_nil _ _ _ _ _ | exact Kd.N_nil _ _ _ _ _ | exact Kd.V_nil _ _ _ _ _ | exact Kd.Q_nil _ _ _ _ _ | exact Kd.S_nil _ _ _ _ _, by first | exact Kd.R_nil _ _ _ _ _ | exact Kd.N_nil _ _ _ _ _ | exact Kd.V_nil _ _ _ _ _ | exact Kd.Q_nil _ _ _ _ _ | exact Kd.S_nil _ _ _ _ _, Bl_⟩
    · rw [if_neg c5] at H
      have c5b0 : decide (1 < (l0_0.length : Int)) = false := decide_eq_false c5
      have c5b1 : decide (1 < l0_0.length) = false := decide_eq_false (by omega)
      clear c5
      obtain ⟨⟨t108, t111⟩, A20, H⟩ := bnd_ H
      try dsimp -simprocs only at H
      by_cases c21 : t111 = 0
      · rw [if_pos c21] at H
        have c21b0 : (t111 == 0) = true := beq_iff_eq.mpr c21
        have c21b1 : (t111 != 0) = false := bne_eq_false_iff_eq.mpr c21
        clear c21
        obtain ⟨⟨t112, t113⟩, A22, H⟩ := bnd_ H
        try dsimp -simprocs only at H
        have HC23 := Aside0.mk H
        clear H
        go_enter Tryd.func30, Tryd.ntmps30
        go_upto_block 1 with (first | ((with_reducible refine gate_dst (N := 2) rfl ?_); (try (refine gate_guard (by rfl) ?_; dsimp only)); refine bx_ 2 #[.slice A0_0 l0_0.length c0_0, .slice A0_1 l0_1.length c0_1] 25 ?_; intro gb101 hg w24 hbox hb; replace HO0_0 := Aside0.mk (Kd.V_below (Kd.V_elderB (Pv_ HO0_0.out) gb101 (Nat.le_of_eq hg.symm)) hb); replace HO0_1 := Aside0.mk (Kd.V_below (Kd.V_elderB (Pv_ HO0_1.out) gb101 (Nat.le_of_eq hg.symm)) hb); replace HO1_0 := Aside0.mk (Kd.V_below (Kd.V_elderB (Pv_ HO1_0.out) gb101 (Nat.le_of_eq hg.symm)) hb); replace HO1_1 := Aside0.mk (Kd.V_below (Kd.V_elderB (Pv_ HO1_1.out) gb101 (Nat.le_of_eq hg.symm)) hb); have BK101 := Aside0.mk (hbox); have GW101 := (Bg_ hg : Aside0 (w.heap.size ≤ gb101)); have GE101 := (Bg_ hg : Aside0 (w.heap.size ≤ gb101)); replace HB := Bs_ hb; clear hb hbox hg) | ((with_reducible refine gate_dst (N := 3) rfl ?_); (try (refine gate_guard (by rfl) ?_; dsimp only)); refine bx_ 3 #[.slice A1_0 l1_0.length c1_0, .slice A1_1 l1_1.length c1_1] 25 ?_; intro gb102 hg w25 hbox hb; replace HO0_0 := Aside0.mk (Kd.V_below (Kd.V_elderB (Pv_ HO0_0.out) gb102 (Nat.le_of_eq hg.symm)) hb); replace HO0_1 := Aside0.mk (Kd.V_below (Kd.V_elderB (Pv_ HO0_1.out) gb102 (Nat.le_of_eq hg.symm)) hb); replace HO1_0 := Aside0.mk (Kd.V_below (Kd.V_elderB (Pv_ HO1_0.out) gb102 (Nat.le_of_eq hg.symm)) hb); replace HO1_1 := Aside0.mk (Kd.V_below (Kd.V_elderB (Pv_ HO1_1.out) gb102 (Nat.le_of_eq hg.symm)) hb); have BK102 := Aside0.mk (hbox); have GW102 := (Bg_ hg : Aside0 (w.heap.size ≤ gb102)); have GE102 := (Bg_ hg : Aside0 (w.heap.size ≤ gb102)); replace HB := Bs_ hb; have NB101_102 := nl_ hg BK101; have NB102_101 := ng_ hg BK101; replace BK101 := kb_ BK101 hb; clear hb hbox hg) | ((with_reducible refine gate_dst (N := 4) rfl ?_); (try (refine gate_guard (by rfl) ?_; dsimp only)); refine bx_ 4 #[.slice none 0 0, .slice none 0 0] 25 ?_; intro gb103 hg w26 hbox hb; replace HO0_0 := Aside0.mk (Kd.V_below (Kd.V_elderB (Pv_ HO0_0.out) gb103 (Nat.le_of_eq hg.symm)) hb); replace HO0_1 := Aside0.mk (Kd.V_below (Kd.V_elderB (Pv_ HO0_1.out) gb103 (Nat.le_of_eq hg.symm)) hb); replace HO1_0 := Aside0.mk (Kd.V_below (Kd.V_elderB (Pv_ HO1_0.out) gb103 (Nat.le_of_eq hg.symm)) hb); replace HO1_1 := Aside0.mk (Kd.V_below (Kd.V_elderB (Pv_ HO1_1.out) gb103 (Nat.le_of_eq hg.symm)) hb); have BK103 := Aside0.mk (hbox); have GW103 := (Bg_ hg : Aside0 (w.heap.size ≤ gb103)); have GE103 := (Bg_ hg : Aside0 (w.heap.size ≤ gb103)); replace HB := Bs_ hb; have NB101_103 := nl_ hg BK101; have NB103_101 := ng_ hg BK101; replace BK101 := kb_ BK101 hb; have NB102_103 := nl_ hg BK102; have NB103_102 := ng_ hg BK102; replace BK102 := kb_ BK102 hb; clear hb hbox hg; have hnb27 := NB101_102.out; have hnc27 := NB102_101.out; have hnb28 := NB101_103.out; have hnc28 := NB103_101.out; obtain ⟨hcz29_0, hcz29_1⟩ := c2_ BK101; obtain ⟨hfz29_0, hfz29_1⟩ := f2_ BK101; have hnb30 := NB102_103.out; have hnc30 := NB103_102.out; obtain ⟨hcz31_0, hcz31_1⟩ := c2_ BK102; obtain ⟨hfz31_0, hfz31_1⟩ := f2_ BK102) | ((with_reducible refine gate_dst (N := 14) rfl ?_); (try (refine gate_guard (by rfl) ?_; dsimp only)); refine Kd.N_lit k25 _ 25 ?hg (N' := 14) ?hd (xs := ([(⟨l0_0, l0_1⟩ : S25), (⟨l1_0, l1_1⟩ : S25)] : List (S25))) (inner := [.slice A0_0 l0_0.length c0_0, .slice A0_1 l0_1.length c0_1, .slice A1_0 l1_0.length c1_0, .slice A1_1 l1_1.length c1_1]) (ok := (fun k_ => ((P0_0_ k_ ∨ P0_1_ k_ ∨ P1_0_ k_ ∨ P1_1_ k_) ∨ w.heap.size ≤ k_) ∧ k_ ≠ gb101 ∧ k_ ≠ gb102 ∧ k_ ≠ gb103)) (okp := (fun k_ => ((P0_0_ k_ ∨ P0_1_ k_ ∨ P1_0_ k_ ∨ P1_1_ k_) ∨ w.heap.size ≤ k_) ∧ k_ ≠ gb101 ∧ k_ ≠ gb102 ∧ k_ ≠ gb103)) ?hr ?hp (fun _ hk => hk) ((show ∀ k_, w26.heap.size ≤ k_ → (fun k_ => ((P0_0_ k_ ∨ P0_1_ k_ ∨ P1_0_ k_ ∨ P1_1_ k_) ∨ w.heap.size ≤ k_) ∧ k_ ≠ gb101 ∧ k_ ≠ gb102 ∧ k_ ≠ gb103) k_ from fun k_ hk => ⟨(.inr (Nat.le_trans Bz_ hk)), Kd.freshB (g := gb101) (o := .cells #[.slice A0_0 l0_0.length c0_0, .slice A0_1 l0_1.length c0_1] 25 (0, 0)) (Bk_ BK101.out) k_ hk, Kd.freshB (g := gb102) (o := .cells #[.slice A1_0 l1_0.length c1_0, .slice A1_1 l1_1.length c1_1] 25 (0, 0)) (Bk_ BK102.out) k_ hk, Kd.freshB (g := gb103) (o := .cells #[.slice none 0 0, .slice none 0 0] 25 (0, 0)) (Bk_ BK103.out) k_ hk⟩) _ (Nat.le_refl _)) (Below.refl _ _) (Nat.le_refl _) (by simp) ?_; (case hd => rfl); (case hg => rfl); (case hr => first | (go_simp; done) | (go_simp; rfl)); (case hp => exact (Reps.c2 (show Kd.FK k25 _ _ (⟨l0_0, l0_1⟩ : S25) [.slice A0_0 l0_0.length c0_0, .slice A0_1 l0_1.length c0_1] from (k25_mkF _ _ (⟨l0_0, l0_1⟩ : S25) (Kd.V_reads' (Kd.V_mono (ok' := (fun k_ => ((P0_0_ k_ ∨ P0_1_ k_ ∨ P1_0_ k_ ∨ P1_1_ k_) ∨ w.heap.size ≤ k_) ∧ k_ ≠ gb101 ∧ k_ ≠ gb102 ∧ k_ ≠ gb103)) (HO0_0.out) (fun k_ hk => ⟨hk.1.1.1, ⟨hk.1.1.2, ⟨hk.1.2, hk.2⟩⟩⟩))).2.1 (Kd.V_F (Kd.V_mono (ok' := (fun k_ => ((P0_0_ k_ ∨ P0_1_ k_ ∨ P1_0_ k_ ∨ P1_1_ k_) ∨ w.heap.size ≤ k_) ∧ k_ ≠ gb101 ∧ k_ ≠ gb102 ∧ k_ ≠ gb103)) (HO0_0.out) (fun k_ hk => ⟨hk.1.1.1, ⟨hk.1.1.2, ⟨hk.1.2, hk.2⟩⟩⟩))) (Kd.V_reads' (Kd.V_mono (ok' := (fun k_ => ((P0_0_ k_ ∨ P0_1_ k_ ∨ P1_0_ k_ ∨ P1_1_ k_) ∨ w.heap.size ≤ k_) ∧ k_ ≠ gb101 ∧ k_ ≠ gb102 ∧ k_ ≠ gb103)) (HO0_1.out) (fun k_ hk => ⟨hk.1.1.1, ⟨hk.1.1.2, ⟨hk.1.2, hk.2⟩⟩⟩))).2.1 (Kd.V_F (Kd.V_mono (ok' := (fun k_ => ((P0_0_ k_ ∨ P0_1_ k_ ∨ P1_0_ k_ ∨ P1_1_ k_) ∨ w.heap.size ≤ k_) ∧ k_ ≠ gb101 ∧ k_ ≠ gb102 ∧ k_ ≠ gb103)) (HO0_1.out) (fun k_ hk => ⟨hk.1.1.1, ⟨hk.1.1.2, ⟨hk.1.2, hk.2⟩⟩⟩))))) (Reps.c2 (show Kd.FK k25 _ _ (⟨l1_0, l1_1⟩ : S25) [.slice A1_0 l1_0.length c1_0, .slice A1_1 l1_1.length c1_1] from (k25_mkF _ _ (⟨l1_0, l1_1⟩ : S25) (Kd.V_reads' (Kd.V_mono (ok' := (fun k_ => ((P0_0_ k_ ∨ P0_1_ k_ ∨ P1_0_ k_ ∨ P1_1_ k_) ∨ w.heap.size ≤ k_) ∧ k_ ≠ gb101 ∧ k_ ≠ gb102 ∧ k_ ≠ gb103)) (HO1_0.out) (fun k_ hk => ⟨hk.1.1.1, ⟨hk.1.1.2, ⟨hk.1.2, hk.2⟩⟩⟩))).2.1 (Kd.V_F (Kd.V_mono (ok' := (fun k_ => ((P0_0_ k_ ∨ P0_1_ k_ ∨ P1_0_ k_ ∨ P1_1_ k_) ∨ w.heap.size ≤ k_) ∧ k_ ≠ gb101 ∧ k_ ≠ gb102 ∧ k_ ≠ gb103)) (HO1_0.out) (fun k_ hk => ⟨hk.1.1.1, ⟨hk.1.1.2, ⟨hk.1.2, hk.2⟩⟩⟩))) (Kd.V_reads' (Kd.V_mono (ok' := (fun k_ => ((P0_0_ k_ ∨ P0_1_ k_ ∨ P1_0_ k_ ∨ P1_1_ k_) ∨ w.heap.size ≤ k_) ∧ k_ ≠ gb101 ∧ k_ ≠ gb102 ∧ k_ ≠ gb103)) (HO1_1.out) (fun k_ hk => ⟨hk.1.1.1, ⟨hk.1.1.2, ⟨hk.1.2, hk.2⟩⟩⟩))).2.1 (Kd.V_F (Kd.V_mono (ok' := (fun k_ => ((P0_0_ k_ ∨ P0_1_ k_ ∨ P1_0_ k_ ∨ P1_1_ k_) ∨ w.heap.size ≤ k_) ∧ k_ ≠ gb101 ∧ k_ ≠ gb102 ∧ k_ ≠ gb103)) (HO1_1.out) (fun k_ hk => ⟨hk.1.1.1, ⟨hk.1.1.2, ⟨hk.1.2, hk.2⟩⟩⟩))))) (Reps.none _ _)))); intro v105 w32 ho33 hb hg_ hnew_; clear hg_ hnew_; (first | rw [← Ny104.out] at ho33 | (simp only [Int.reduceToNat] at ho33; rw [← Ny104.out] at ho33)); replace HO0_0 := Aside0.mk (Kd.V_elder' (Pv_ HO0_0.out) (Kd.N_base ho33) hb); replace HO0_1 := Aside0.mk (Kd.V_elder' (Pv_ HO0_1.out) (Kd.N_base ho33) hb); replace HO1_0 := Aside0.mk (Kd.V_elder' (Pv_ HO1_0.out) (Kd.N_base ho33) hb); replace HO1_1 := Aside0.mk (Kd.V_elder' (Pv_ HO1_1.out) (Kd.N_base ho33) hb); have HO106 := Aside0.mk (Kd.N_lower ho33 Bz_); replace BK101 := kb_ BK101 hb; replace BK102 := kb_ BK102 hb; replace BK103 := kb_ BK103 hb; replace HB := Bs_ hb; clear hb ho33; obtain ⟨Ao34, co34, eo34⟩ := Kd.N_slice HO106.out; subst eo34) | ((with_reducible refine gate_callee (f := 50) rfl ?_); refine goesL_ (some 15) rfl rfl Tryd.func50 (by kernel_rfl) rfl #[.slice Ao34 y104.length co34] rfl Ga_ ?_; (with_reducible refine (mould_fine.calls k _ _ y104 true _ ?side1 ?side2 A3.out).mono ?_); (case side1 => exact Pc_ ((Kd.N_reads' HO106.out).2.2)); (case side2 => exact (Kd.N_reads' HO106.out).2.1); rintro e w35 ⟨rfl, hb⟩; refine ⟨_, rfl, ?_⟩; replace HO0_0 := Aside0.mk (Kd.V_below (Pv_ HO0_0.out) hb); replace HO0_1 := Aside0.mk (Kd.V_below (Pv_ HO0_1.out) hb); replace HO1_0 := Aside0.mk (Kd.V_below (Pv_ HO1_0.out) hb); replace HO1_1 := Aside0.mk (Kd.V_below (Pv_ HO1_1.out) hb); replace HO106 := Aside0.mk (Kd.N_below (by (with_reducible repeat (first | apply Kd.N_alloc | apply Kd.N_drewN | apply Kd.N_drew)); exact HO106.out) hb); replace BK101 := kb_ BK101 hb; replace BK102 := kb_ BK102 hb; replace BK103 := kb_ BK103 hb; replace HB := Bs_ hb; (try clear hb); (try clear hb2); (try clear hk); (try clear hi); obtain ⟨hcz36_0, hcz36_1⟩ := c2_ BK101; obtain ⟨hfz36_0, hfz36_1⟩ := f2_ BK101) | ((with_reducible refine gate_callee (f := 65) rfl ?_); refine goesL_ (some 26) rfl rfl Tryd.func65 (by kernel_rfl) rfl #[.agg #[.slice A0_0 l0_0.length c0_0, .slice A0_1 l0_1.length c0_1]] rfl Ga_ ?_; (with_reducible refine (val_All.calls k _ _ l0_0 _ _ l0_1 t108 t111 _ ?side1 ?side2 ?side3 ?side4 A20.out ?side5).mono ?_); (case side1 => exact Pc_ ((Kd.V_reads' HO0_0.out).2.2)); (case side2 => exact (Kd.V_reads' HO0_0.out).2.1); (case side3 => exact Pc_ ((Kd.V_reads' HO0_1.out).2.2)); (case side4 => exact (Kd.V_reads' HO0_1.out).2.1); (case side5 => first | exact hG | exact Glob.below hG Bl_); rintro e w37 ⟨v109, rfl, ho0, hb⟩; refine ⟨_, rfl, ?_⟩; replace HO0_0 := Aside0.mk (Kd.V_elder' (Pv_ HO0_0.out) (Kd.R_base ho0) hb); replace HO0_1 := Aside0.mk (Kd.V_elder' (Pv_ HO0_1.out) (Kd.R_base ho0) hb); replace HO1_0 := Aside0.mk (Kd.V_elder' (Pv_ HO1_0.out) (Kd.R_base ho0) hb); replace HO1_1 := Aside0.mk (Kd.V_elder' (Pv_ HO1_1.out) (Kd.R_base ho0) hb); replace HO106 := Aside0.mk (Kd.N_elder' (by (with_reducible repeat (first | apply Kd.N_alloc | apply Kd.N_drewN | apply Kd.N_drew)); exact HO106.out) (Kd.R_base ho0) hb); have HO110 := Aside0.mk (Kd.R_lower (Kd.R_newM (M := fun k_ => (w.heap.size ≤ k_)) ho0 Bz_ (fun k_ h_ => h_)) Bz_); replace BK101 := kb_ BK101 hb; replace BK102 := kb_ BK102 hb; replace BK103 := kb_ BK103 hb; replace HB := Bs_ hb; (try clear hb); (try clear hb2); (try clear hk); (try clear hi); (try clear ho0); obtain ⟨Ao38, co38, eo38⟩ := Kd.R_slice HO110.out; subst eo38) | ((with_reducible refine gate_callee (f := 47) rfl ?_); refine goesL_ (some 35) rfl rfl Tryd.func47 (by kernel_rfl) rfl #[.slice Ao38 t108.length co38] rfl Ga_ ?_; (with_reducible refine (shape_Size.calls k _ _ t108 t112 t113 _ ?side1 ?side2 A22.out).mono ?_); (case side1 => exact Pc_ ((Kd.R_reads' HO110.out).2.2)); (case side2 => exact (Kd.R_reads' HO110.out).2.1); rintro e w39 ⟨rfl, hb⟩; refine ⟨_, rfl, ?_⟩; replace HO0_0 := Aside0.mk (Kd.V_below (Pv_ HO0_0.out) hb); replace HO0_1 := Aside0.mk (Kd.V_below (Pv_ HO0_1.out) hb); replace HO1_0 := Aside0.mk (Kd.V_below (Pv_ HO1_0.out) hb); replace HO1_1 := Aside0.mk (Kd.V_below (Pv_ HO1_1.out) hb); replace HO106 := Aside0.mk (Kd.N_below (by (with_reducible repeat (first | apply Kd.N_alloc | apply Kd.N_drewN | apply Kd.N_drew)); exact HO106.out) hb); replace HO110 := Aside0.mk (Kd.R_below (Pr_ HO110.out) hb); replace BK101 := kb_ BK101 hb; replace BK102 := kb_ BK102 hb; replace BK103 := kb_ BK103 hb; replace HB := Bs_ hb; (try clear hb); (try clear hb2); (try clear hk); (try clear hi)))
        (try simp only [Act.put, List.setIfInBounds_toArray, List.set_cons_zero, List.set_cons_succ])
        go_cut [] (fun wc => ∃ (kq : Nat), Aside0 (mould_Reshape.j0 kq t108 t112 l1_0 l1_1 = some (r1, r2, r3)) ∧ Aside0 (kq ≤ k) ∧ Aside0 (Kd.R (Kd.int .i64) 3 wc w.heap.size (fun k_ => (w.heap.size ≤ k_)) (.slice Ao38 t108.length co38) t108) ∧ Aside0 (Kd.V (Kd.int .i64) 3 wc w.heap.size (fun k_ => ((P0_0_ k_ ∨ P0_1_ k_ ∨ P1_0_ k_ ∨ P1_1_ k_) ∨ w.heap.size ≤ k_) ∧ some k_ ≠ ((.slice Ao38 t108.length co38) : Value).ownBlock ∧ k_ ≠ gb101 ∧ k_ ≠ gb102 ∧ k_ ≠ gb103) (.slice A0_0 l0_0.length c0_0) l0_0) ∧ Aside0 (Kd.V Kd.string 9 wc w.heap.size (fun k_ => ((P0_0_ k_ ∨ P0_1_ k_ ∨ P1_0_ k_ ∨ P1_1_ k_) ∨ w.heap.size ≤ k_) ∧ some k_ ≠ ((.slice Ao38 t108.length co38) : Value).ownBlock ∧ k_ ≠ gb101 ∧ k_ ≠ gb102 ∧ k_ ≠ gb103) (.slice A0_1 l0_1.length c0_1) l0_1) ∧ Aside0 (Kd.V (Kd.int .i64) 3 wc w.heap.size (fun k_ => ((P0_0_ k_ ∨ P0_1_ k_ ∨ P1_0_ k_ ∨ P1_1_ k_) ∨ w.heap.size ≤ k_) ∧ some k_ ≠ ((.slice Ao38 t108.length co38) : Value).ownBlock ∧ k_ ≠ gb101 ∧ k_ ≠ gb102 ∧ k_ ≠ gb103) (.slice A1_0 l1_0.length c1_0) l1_0) ∧ Aside0 (Kd.V Kd.string 9 wc w.heap.size (fun k_ => ((P0_0_ k_ ∨ P0_1_ k_ ∨ P1_0_ k_ ∨ P1_1_ k_) ∨ w.heap.size ≤ k_) ∧ some k_ ≠ ((.slice Ao38 t108.length co38) : Value).ownBlock ∧ k_ ≠ gb101 ∧ k_ ≠ gb102 ∧ k_ ≠ gb103) (.slice A1_1 l1_1.length c1_1) l1_1) ∧ Aside0 (wc.heap[gb101]? = some (.cells #[(.slice A0_0 l0_0.length c0_0), (.slice A0_1 l0_1.length c0_1)] 25 (0, 0))) ∧ Aside0 (wc.heap[gb102]? = some (.cells #[(.slice A1_0 l1_0.length c1_0), (.slice A1_1 l1_1.length c1_1)] 25 (0, 0))) ∧ Aside0 (wc.heap[gb103]? = some (.cells #[(.slice none 0 0), (.slice none 0 0)] 25 (0, 0))) ∧ Aside0 (Below w.heap.size w wc))
        case first =>
          have H := HC23.out
          clear HC23
          by_cases c40 : t113 = 0
          · rw [if_pos c40] at H
            have c40b0 : (t113 == 0) = true := beq_iff_eq.mpr c40
            have c40b1 : (t113 != 0) = false := bne_eq_false_iff_eq.mpr c40
            clear c40
            (first | rw [c40b0] | (simp only [i64_w, i32_w]; rw [c40b0]) | skip)
            by_cases c41 : t112 > 0
            · rw [if_pos c41] at H
              have c41b0 : decide (0 < t112) = true := decide_eq_true c41
              clear c41
              by_cases c42 : (l1_1.length : Int) = 0
              · rw [if_pos c42] at H
                have c42b0 : ((l1_1.length : Int) == 0) = true := beq_iff_eq.mpr c42
                have c42b1 : ((l1_1.length : Int) != 0) = false := bne_eq_false_iff_eq.mpr c42
                clear c42
                simp only [Option.some.injEq, Prod.mk.injEq] at H
                obtain ⟨rfl, rfl, rfl⟩ := H
                have hnb43 := NB102_101.out
                have hnc43 := NB101_102.out
                have hnb44 := NB102_103.out
                have hnc44 := NB103_102.out
                obtain ⟨hcz45_0, hcz45_1⟩ := c2_ BK102
                obtain ⟨hfz45_0, hfz45_1⟩ := f2_ BK102
                have hnb46 := NB103_101.out
                have hnc46 := NB101_103.out
                obtain ⟨hcz47_0, hcz47_1⟩ := c2_ BK103
                obtain ⟨hfz47_0, hfz47_1⟩ := f2_ BK103
                go_wp2
                refine bodyPost_ret (results_ct rfl _ _ gb103 25 #[.slice none 0 0, .slice none 0 0] (0, 0) _ rfl (by (with_reducible repeat (first | refine blk_drewN ?_ _ | refine blk_drew ?_ | refine blk_alloc ?_ _)); refine blk_put (cs := #[.slice none 0 0, .slice none 0 0]) ?_ 1 _ rfl; (with_reducible repeat (first | refine blk_drewN ?_ _ | refine blk_drew ?_ | refine blk_alloc ?_ _)); refine blk_put (cs := #[.slice none 0 0, .slice none 0 0]) ?_ 0 _ rfl; (with_reducible repeat (first | refine blk_drewN ?_ _ | refine blk_drew ?_ | refine blk_alloc ?_ _)); exact BK103.out) Tryd.underlying25 rfl (by kernel_rfl)) rfl ?_
                exact ⟨_, _, Re_, by first | exact Kd.R_nil _ _ _ _ _ | exact Kd.N_nil _ _ _ _ _ | exact Kd.V_nil _ _ _ _ _ | exact Kd.Q_nil _ _ _ _ _ | exact Kd.S_nil _ _ _ _ _, by first | exact Kd.R_nil _ _ _ _ _ | exact Kd.N_nil _ _ _ _ _ | exact Kd.V_nil _ _ _ _ _ | exact Kd.Q_nil _ _ _ _ _ | exact Kd.S_nil _ _ _ _ _, Bl_⟩
              · rw [if_neg c42] at H
                have c42b0 : ((l1_1.length : Int) == 0) = false := beq_eq_false_iff_ne.mpr c42
                have c42b1 : ((l1_1.length : Int) != 0) = true := bne_iff_ne.mpr c42
                have c42b2 : ¬ (l1_1 = []) := fun h_ => c42 (by rw [h_]; rfl)
                have H' := Aside0.mk H
                clear H
                have hnb48 := NB102_101.out
                have hnc48 := NB101_102.out
                have hnb49 := NB102_103.out
                have hnc49 := NB103_102.out
                obtain ⟨hcz50_0, hcz50_1⟩ := c2_ BK102
                obtain ⟨hfz50_0, hfz50_1⟩ := f2_ BK102
                go_wp2
                go_meet
                case rel => exact ⟨_, H', ⟨by first | omega | exact Nat.le_refl _⟩, ⟨by (with_reducible repeat (first | apply Kd.R_alloc | apply Kd.R_drewN | apply Kd.R_drew)); exact Kd.R_mono HO110.out (fun _ hk => hk.1)⟩, ⟨by (with_reducible repeat (first | apply Kd.V_alloc | apply Kd.V_drewN | apply Kd.V_drew)); exact Kd.V_mono HO0_0.out (fun _ hk => ⟨hk.1.1.1.1.1, ⟨hk.2, ⟨hk.1.1.1.1.2, ⟨hk.1.1.1.2, hk.1.1.2⟩⟩⟩⟩)⟩, ⟨by (with_reducible repeat (first | apply Kd.V_alloc | apply Kd.V_drewN | apply Kd.V_drew)); exact Kd.V_mono HO0_1.out (fun _ hk => ⟨hk.1.1.1.1.1, ⟨hk.2, ⟨hk.1.1.1.1.2, ⟨hk.1.1.1.2, hk.1.1.2⟩⟩⟩⟩)⟩, ⟨by (with_reducible repeat (first | apply Kd.V_alloc | apply Kd.V_drewN | apply Kd.V_drew)); exact Kd.V_mono HO1_0.out (fun _ hk => ⟨hk.1.1.1.1.1, ⟨hk.2, ⟨hk.1.1.1.1.2, ⟨hk.1.1.1.2, hk.1.1.2⟩⟩⟩⟩)⟩, ⟨by (with_reducible repeat (first | apply Kd.V_alloc | apply Kd.V_drewN | apply Kd.V_drew)); exact Kd.V_mono HO1_1.out (fun _ hk => ⟨hk.1.1.1.1.1, ⟨hk.2, ⟨hk.1.1.1.1.2, ⟨hk.1.1.1.2, hk.1.1.2⟩⟩⟩⟩)⟩, ⟨by (with_reducible repeat (first | refine blk_drewN ?_ _ | refine blk_drew ?_ | refine blk_alloc ?_ _)); exact BK101.out⟩, ⟨by (with_reducible repeat (first | refine blk_drewN ?_ _ | refine blk_drew ?_ | refine blk_alloc ?_ _)); exact BK102.out⟩, ⟨by (with_reducible repeat (first | refine blk_drewN ?_ _ | refine blk_drew ?_ | refine blk_alloc ?_ _)); exact BK103.out⟩, ⟨Bl_⟩⟩
            · rw [if_neg c41] at H
              have c41b0 : decide (0 < t112) = false := decide_eq_false c41
              clear c41
              have H' := Aside0.mk H
              clear H
              go_wp2
              go_meet
              case rel => exact ⟨_, H', ⟨by first | omega | exact Nat.le_refl _⟩, ⟨by (with_reducible repeat (first | apply Kd.R_alloc | apply Kd.R_drewN | apply Kd.R_drew)); exact Kd.R_mono HO110.out (fun _ hk => hk.1)⟩, ⟨by (with_reducible repeat (first | apply Kd.V_alloc | apply Kd.V_drewN | apply Kd.V_drew)); exact Kd.V_mono HO0_0.out (fun _ hk => ⟨hk.1.1.1.1.1, ⟨hk.2, ⟨hk.1.1.1.1.2, ⟨hk.1.1.1.2, hk.1.1.2⟩⟩⟩⟩)⟩, ⟨by (with_reducible repeat (first | apply Kd.V_alloc | apply Kd.V_drewN | apply Kd.V_drew)); exact Kd.V_mono HO0_1.out (fun _ hk => ⟨hk.1.1.1.1.1, ⟨hk.2, ⟨hk.1.1.1.1.2, ⟨hk.1.1.1.2, hk.1.1.2⟩⟩⟩⟩)⟩, ⟨by (with_reducible repeat (first | apply Kd.V_alloc | apply Kd.V_drewN | apply Kd.V_drew)); exact Kd.V_mono HO1_0.out (fun _ hk => ⟨hk.1.1.1.1.1, ⟨hk.2, ⟨hk.1.1.1.1.2, ⟨hk.1.1.1.2, hk.1.1.2⟩⟩⟩⟩)⟩, ⟨by (with_reducible repeat (first | apply Kd.V_alloc | apply Kd.V_drewN | apply Kd.V_drew)); exact Kd.V_mono HO1_1.out (fun _ hk => ⟨hk.1.1.1.1.1, ⟨hk.2, ⟨hk.1.1.1.1.2, ⟨hk.1.1.1.2, hk.1.1.2⟩⟩⟩⟩)⟩, ⟨by (with_reducible repeat (first | refine blk_drewN ?_ _ | refine blk_drew ?_ | refine blk_alloc ?_ _)); exact BK101.out⟩, ⟨by (with_reducible repeat (first | refine blk_drewN ?_ _ | refine blk_drew ?_ | refine blk_alloc ?_ _)); exact BK102.out⟩, ⟨by (with_reducible repeat (first | refine blk_drewN ?_ _ | refine blk_drew ?_ | refine blk_alloc ?_ _)); exact BK103.out⟩, ⟨Bl_⟩⟩
          · rw [if_neg c40] at H
            have c40b0 : (t113 == 0) = false := beq_eq_false_iff_ne.mpr c40
            have c40b1 : (t113 != 0) = true := bne_iff_ne.mpr c40
            (first | rw [c40b0] | (simp only [i64_w, i32_w]; rw [c40b0]) | skip)
            simp only [Option.some.injEq, Prod.mk.injEq] at H
            obtain ⟨rfl, rfl, rfl⟩ := H
            have hnb51 := NB103_101.out
            have hnc51 := NB101_103.out
            have hnb52 := NB103_102.out
            have hnc52 := NB102_103.out
            obtain ⟨hcz53_0, hcz53_1⟩ := c2_ BK103
            obtain ⟨hfz53_0, hfz53_1⟩ := f2_ BK103
            go_wp2
            refine bodyPost_ret (results_ct rfl _ _ gb103 25 #[.slice none 0 0, .slice none 0 0] (0, 0) _ rfl (by (with_reducible repeat (first | refine blk_drewN ?_ _ | refine blk_drew ?_ | refine blk_alloc ?_ _)); refine blk_put (cs := #[.slice none 0 0, .slice none 0 0]) ?_ 1 _ rfl; (with_reducible repeat (first | refine blk_drewN ?_ _ | refine blk_drew ?_ | refine blk_alloc ?_ _)); refine blk_put (cs := #[.slice none 0 0, .slice none 0 0]) ?_ 0 _ rfl; (with_reducible repeat (first | refine blk_drewN ?_ _ | refine blk_drew ?_ | refine blk_alloc ?_ _)); exact BK103.out) Tryd.underlying25 rfl (by kernel_rfl)) rfl ?_
            exact ⟨_, _, Re_, by first | exact Kd.R_nil _ _ _ _ _ | exact Kd.N_nil _ _ _ _ _ | exact Kd.V_nil _ _ _ _ _ | exact Kd.Q_nil _ _ _ _ _ | exact Kd.S_nil _ _ _ _ _, by first | exact Kd.R_nil _ _ _ _ _ | exact Kd.N_nil _ _ _ _ _ | exact Kd.V_nil _ _ _ _ _ | exact Kd.Q_nil _ _ _ _ _ | exact Kd.S_nil _ _ _ _ _, Bl_⟩
        case rest =>
          clear HC23
          try clear c1
          try clear c2
          try clear p2
          try clear c3
          try clear c4
          try clear c5
          try clear c5b0
          try clear c5b1
          try clear c6
          try clear c9
          try clear c10
          try clear c12
          try clear c21
          try clear c21b0
          try clear c21b1
          try clear c27
          try clear c28
          try clear c30
          try clear c40
          try clear c40b0
          try clear c40b1
          try clear c41
          try clear c41b0
          try clear c42
          try clear c42b0
          try clear c42b1
          try clear c42b2
          try clear c43
          try clear c44
          try clear c46
          try clear c47
          try clear c48
          try clear c49
          try clear c50
          try clear c51
          try clear c52
          try clear hcz11_0
          try clear hcz11_1
          try clear hcz13_0
          try clear hcz13_1
          try clear hcz18_0
          try clear hcz18_1
          try clear hcz19_0
          try clear hcz19_1
          try clear hcz29_0
          try clear hcz29_1
          try clear hcz31_0
          try clear hcz31_1
          try clear hcz36_0
          try clear hcz36_1
          try clear hcz45_0
          try clear hcz45_1
          try clear hcz47_0
          try clear hcz47_1
          try clear hcz50_0
          try clear hcz50_1
          try clear hcz53_0
          try clear hcz53_1
          try clear hfz11_0
          try clear hfz11_1
          try clear hfz13_0
          try clear hfz13_1
          try clear hfz18_0
          try clear hfz18_1
          try clear hfz19_0
          try clear hfz19_1
          try clear hfz29_0
          try clear hfz29_1
          try clear hfz31_0
          try clear hfz31_1
          try clear hfz36_0
          try clear hfz36_1
          try clear hfz45_0
          try clear hfz45_1
          try clear hfz47_0
          try clear hfz47_1
          try clear hfz50_0
          try clear hfz50_1
          try clear hfz53_0
          try clear hfz53_1
          obtain ⟨kq, HA, HJ22, HO_6, HO_102000, HO_102001, HO_103000, HO_103001, BK101, BK102, BK103, HB⟩ := hcut
          cases kq with
          | zero => exact absurd HA.out (by simp [mould_Reshape.j0])
          | succ kj22 =>
            have H := HA.out
            clear HA
            simp only [mould_Reshape.j0] at H
            have H' := Aside0.mk H
            clear H
            go_wp2_with (first | ((with_reducible refine gate_dst (N := 9) rfl ?_); (try (refine gate_guard (by rfl) ?_; dsimp only)); refine bx_ 9 #[.slice none 0 0, .slice none 0 0] 25 ?_; intro gb114 hg w54 hbox hb; replace HO_6 := Aside0.mk (Kd.R_below (Pr_ HO_6.out) hb); replace HO_102000 := Aside0.mk (Kd.V_below (Kd.V_elderB (Pv_ HO_102000.out) gb114 (Nat.le_of_eq hg.symm)) hb); replace HO_102001 := Aside0.mk (Kd.V_below (Kd.V_elderB (Pv_ HO_102001.out) gb114 (Nat.le_of_eq hg.symm)) hb); replace HO_103000 := Aside0.mk (Kd.V_below (Kd.V_elderB (Pv_ HO_103000.out) gb114 (Nat.le_of_eq hg.symm)) hb); replace HO_103001 := Aside0.mk (Kd.V_below (Kd.V_elderB (Pv_ HO_103001.out) gb114 (Nat.le_of_eq hg.symm)) hb); have BK114 := Aside0.mk (hbox); have GW114 := (Bg_ hg : Aside0 (w.heap.size ≤ gb114)); have GE114 := (Bg_ hg : Aside0 (w.heap.size ≤ gb114)); replace HB := Bs_ hb; have NB101_114 := nl_ hg BK101; have NB114_101 := ng_ hg BK101; replace BK101 := kb_ BK101 hb; have NB102_114 := nl_ hg BK102; have NB114_102 := ng_ hg BK102; replace BK102 := kb_ BK102 hb; have NB103_114 := nl_ hg BK103; have NB114_103 := ng_ hg BK103; replace BK103 := kb_ BK103 hb; clear hb hbox hg; have hnb55 := NB114_101.out; have hnc55 := NB101_114.out; have hnb56 := NB114_102.out; have hnc56 := NB102_114.out; have hnb57 := NB114_103.out; have hnc57 := NB103_114.out; obtain ⟨hcz58_0, hcz58_1⟩ := c2_ BK114; obtain ⟨hfz58_0, hfz58_1⟩ := f2_ BK114))
            go_loopg [56] kj22 (fun kq v56 w' => ∃ (x56_2 : Int) (x115001_2 : List ByteArray) (u115001 : Value), v56 = .int .i64 x56_2 ∧ Aside0 (mould_Reshape.l0 kq t112 x56_2 l1_0 l1_1 t108 x115001_2 = some (r1, r2, r3)) ∧ Aside0 (kq ≤ kj22) ∧ Aside0 (Kd.V (Kd.int .i64) 3 w' w.heap.size (fun k_ => ((P0_0_ k_ ∨ P0_1_ k_ ∨ P1_0_ k_ ∨ P1_1_ k_) ∨ w.heap.size ≤ k_) ∧ some k_ ≠ ((.slice Ao38 t108.length co38) : Value).ownBlock ∧ some k_ ≠ (u115001 : Value).ownBlock ∧ k_ ≠ gb101 ∧ k_ ≠ gb102 ∧ k_ ≠ gb103 ∧ k_ ≠ gb114) (.slice A0_0 l0_0.length c0_0) l0_0) ∧ Aside0 (Kd.V Kd.string 9 w' w.heap.size (fun k_ => ((P0_0_ k_ ∨ P0_1_ k_ ∨ P1_0_ k_ ∨ P1_1_ k_) ∨ w.heap.size ≤ k_) ∧ some k_ ≠ ((.slice Ao38 t108.length co38) : Value).ownBlock ∧ some k_ ≠ (u115001 : Value).ownBlock ∧ k_ ≠ gb101 ∧ k_ ≠ gb102 ∧ k_ ≠ gb103 ∧ k_ ≠ gb114) (.slice A0_1 l0_1.length c0_1) l0_1) ∧ Aside0 (Kd.V (Kd.int .i64) 3 w' w.heap.size (fun k_ => ((P0_0_ k_ ∨ P0_1_ k_ ∨ P1_0_ k_ ∨ P1_1_ k_) ∨ w.heap.size ≤ k_) ∧ some k_ ≠ ((.slice Ao38 t108.length co38) : Value).ownBlock ∧ some k_ ≠ (u115001 : Value).ownBlock ∧ k_ ≠ gb101 ∧ k_ ≠ gb102 ∧ k_ ≠ gb103 ∧ k_ ≠ gb114) (.slice A1_0 l1_0.length c1_0) l1_0) ∧ Aside0 (Kd.V Kd.string 9 w' w.heap.size (fun k_ => ((P0_0_ k_ ∨ P0_1_ k_ ∨ P1_0_ k_ ∨ P1_1_ k_) ∨ w.heap.size ≤ k_) ∧ some k_ ≠ ((.slice Ao38 t108.length co38) : Value).ownBlock ∧ some k_ ≠ (u115001 : Value).ownBlock ∧ k_ ≠ gb101 ∧ k_ ≠ gb102 ∧ k_ ≠ gb103 ∧ k_ ≠ gb114) (.slice A1_1 l1_1.length c1_1) l1_1) ∧ Aside0 (Kd.R (Kd.int .i64) 3 w' w.heap.size (fun k_ => (w.heap.size ≤ k_)) (.slice Ao38 t108.length co38) t108) ∧ Aside0 (Kd.R Kd.string 9 w' w.heap.size (fun k_ => (w.heap.size ≤ k_)) u115001 x115001_2) ∧ Aside0 (w'.heap[gb101]? = some (.cells #[(.slice A0_0 l0_0.length c0_0), (.slice A0_1 l0_1.length c0_1)] 25 (0, 0))) ∧ Aside0 (w'.heap[gb102]? = some (.cells #[(.slice A1_0 l1_0.length c1_0), (.slice A1_1 l1_1.length c1_1)] 25 (0, 0))) ∧ Aside0 (w'.heap[gb103]? = some (.cells #[(.slice none 0 0), (.slice none 0 0)] 25 (0, 0))) ∧ Aside0 (w'.heap[gb114]? = some (.cells #[(.slice Ao38 t108.length co38), u115001] 25 (0, 0))) ∧ Aside0 (Below w.heap.size w w'))
            case atStart => exact ⟨(0), (([] : List ByteArray)), (.slice none 0 0), Rf_, H', ⟨Nat.le_refl _⟩, ⟨by (with_reducible repeat (first | apply Kd.V_alloc | apply Kd.V_drewN | apply Kd.V_drew)); exact Kd.V_mono (Kd.V_far (p := ⟨gb114, 1, none⟩) (Kd.V_far (p := ⟨gb114, 0, none⟩) (Kd.V_mono HO_102000.out (fun k_ hk => (⟨hk, hk.2⟩ : _ ∧ k_ ≠ gb114))) (fun _ hk => hk.2) (.slice Ao38 t108.length co38)) (fun _ hk => hk.2) (.slice none 0 0)) (fun _ hk => ⟨hk.1.1.1, ⟨hk.1.1.2.1, ⟨(by simp [Value.ownBlock]), ⟨hk.1.1.2.2.1, ⟨hk.1.1.2.2.2.1, ⟨hk.1.1.2.2.2.2, hk.1.2⟩⟩⟩⟩⟩⟩)⟩, ⟨by (with_reducible repeat (first | apply Kd.V_alloc | apply Kd.V_drewN | apply Kd.V_drew)); exact Kd.V_mono (Kd.V_far (p := ⟨gb114, 1, none⟩) (Kd.V_far (p := ⟨gb114, 0, none⟩) (Kd.V_mono HO_102001.out (fun k_ hk => (⟨hk, hk.2⟩ : _ ∧ k_ ≠ gb114))) (fun _ hk => hk.2) (.slice Ao38 t108.length co38)) (fun _ hk => hk.2) (.slice none 0 0)) (fun _ hk => ⟨hk.1.1.1, ⟨hk.1.1.2.1, ⟨(by simp [Value.ownBlock]), ⟨hk.1.1.2.2.1, ⟨hk.1.1.2.2.2.1, ⟨hk.1.1.2.2.2.2, hk.1.2⟩⟩⟩⟩⟩⟩)⟩, ⟨by (with_reducible repeat (first | apply Kd.V_alloc | apply Kd.V_drewN | apply Kd.V_drew)); exact Kd.V_mono (Kd.V_far (p := ⟨gb114, 1, none⟩) (Kd.V_far (p := ⟨gb114, 0, none⟩) (Kd.V_mono HO_103000.out (fun k_ hk => (⟨hk, hk.2⟩ : _ ∧ k_ ≠ gb114))) (fun _ hk => hk.2) (.slice Ao38 t108.length co38)) (fun _ hk => hk.2) (.slice none 0 0)) (fun _ hk => ⟨hk.1.1.1, ⟨hk.1.1.2.1, ⟨(by simp [Value.ownBlock]), ⟨hk.1.1.2.2.1, ⟨hk.1.1.2.2.2.1, ⟨hk.1.1.2.2.2.2, hk.1.2⟩⟩⟩⟩⟩⟩)⟩, ⟨by (with_reducible repeat (first | apply Kd.V_alloc | apply Kd.V_drewN | apply Kd.V_drew)); exact Kd.V_mono (Kd.V_far (p := ⟨gb114, 1, none⟩) (Kd.V_far (p := ⟨gb114, 0, none⟩) (Kd.V_mono HO_103001.out (fun k_ hk => (⟨hk, hk.2⟩ : _ ∧ k_ ≠ gb114))) (fun _ hk => hk.2) (.slice Ao38 t108.length co38)) (fun _ hk => hk.2) (.slice none 0 0)) (fun _ hk => ⟨hk.1.1.1, ⟨hk.1.1.2.1, ⟨(by simp [Value.ownBlock]), ⟨hk.1.1.2.2.1, ⟨hk.1.1.2.2.2.1, ⟨hk.1.1.2.2.2.2, hk.1.2⟩⟩⟩⟩⟩⟩)⟩, ⟨by (with_reducible repeat (first | apply Kd.R_alloc | apply Kd.R_drewN | apply Kd.R_drew)); exact Kd.R_mono (Kd.R_far (p := ⟨gb114, 1, none⟩) (Kd.R_far (p := ⟨gb114, 0, none⟩) (Kd.R_types HO_6.out BK114.out (by decide)) (fun _ hk => hk.2) (.slice Ao38 t108.length co38)) (fun _ hk => hk.2) (.slice none 0 0)) (fun _ hk => hk.1)⟩, ⟨by first | exact Kd.R_nil _ _ _ _ _ | exact Kd.N_nil _ _ _ _ _ | exact Kd.V_nil _ _ _ _ _ | exact Kd.Q_nil _ _ _ _ _ | exact Kd.S_nil _ _ _ _ _⟩, ⟨by (with_reducible repeat (first | refine blk_drewN ?_ _ | refine blk_drew ?_ | refine blk_alloc ?_ _)); refine blk_far ?_ NB101_114.out _; (with_reducible repeat (first | refine blk_drewN ?_ _ | refine blk_drew ?_ | refine blk_alloc ?_ _)); refine blk_far ?_ NB101_114.out _; (with_reducible repeat (first | refine blk_drewN ?_ _ | refine blk_drew ?_ | refine blk_alloc ?_ _)); exact BK101.out⟩, ⟨by (with_reducible repeat (first | refine blk_drewN ?_ _ | refine blk_drew ?_ | refine blk_alloc ?_ _)); refine blk_far ?_ NB102_114.out _; (with_reducible repeat (first | refine blk_drewN ?_ _ | refine blk_drew ?_ | refine blk_alloc ?_ _)); refine blk_far ?_ NB102_114.out _; (with_reducible repeat (first | refine blk_drewN ?_ _ | refine blk_drew ?_ | refine blk_alloc ?_ _)); exact BK102.out⟩, ⟨by (with_reducible repeat (first | refine blk_drewN ?_ _ | refine blk_drew ?_ | refine blk_alloc ?_ _)); refine blk_far ?_ NB103_114.out _; (with_reducible repeat (first | refine blk_drewN ?_ _ | refine blk_drew ?_ | refine blk_alloc ?_ _)); refine blk_far ?_ NB103_114.out _; (with_reducible repeat (first | refine blk_drewN ?_ _ | refine blk_drew ?_ | refine blk_alloc ?_ _)); exact BK103.out⟩, ⟨by (with_reducible repeat (first | refine blk_drewN ?_ _ | refine blk_drew ?_ | refine blk_alloc ?_ _)); refine blk_put (cs := #[.slice Ao38 t108.length co38, .slice none 0 0]) ?_ 1 _ rfl; (with_reducible repeat (first | refine blk_drewN ?_ _ | refine blk_drew ?_ | refine blk_alloc ?_ _)); refine blk_put (cs := #[.slice none 0 0, .slice none 0 0]) ?_ 0 _ rfl; (with_reducible repeat (first | refine blk_drewN ?_ _ | refine blk_drew ?_ | refine blk_alloc ?_ _)); exact BK114.out⟩, ⟨Bl_⟩⟩
            case round =>
              clear H'
              try clear c1
              try clear c2
              try clear p2
              try clear c3
              try clear c4
              try clear c5
              try clear c5b0
              try clear c5b1
              try clear c6
              try clear c9
              try clear c10
              try clear c12
              try clear c21
              try clear c21b0
              try clear c21b1
              try clear c27
              try clear c28
              try clear c30
              try clear c40
              try clear c40b0
              try clear c40b1
              try clear c41
              try clear c41b0
              try clear c42
              try clear c42b0
              try clear c42b1
              try clear c42b2
              try clear c43
              try clear c44
              try clear c46
              try clear c47
              try clear c48
              try clear c49
              try clear c50
              try clear c51
              try clear c52
              try clear c55
              try clear c56
              try clear c57
              try clear hcz11_0
              try clear hcz11_1
              try clear hcz13_0
              try clear hcz13_1
              try clear hcz18_0
              try clear hcz18_1
              try clear hcz19_0
              try clear hcz19_1
              try clear hcz29_0
              try clear hcz29_1
              try clear hcz31_0
              try clear hcz31_1
              try clear hcz36_0
              try clear hcz36_1
              try clear hcz45_0
              try clear hcz45_1
              try clear hcz47_0
              try clear hcz47_1
              try clear hcz50_0
              try clear hcz50_1
              try clear hcz53_0
              try clear hcz53_1
              try clear hcz58_0
              try clear hcz58_1
              try clear hfz11_0
              try clear hfz11_1
              try clear hfz13_0
              try clear hfz13_1
              try clear hfz18_0
              try clear hfz18_1
              try clear hfz19_0
              try clear hfz19_1
              try clear hfz29_0
              try clear hfz29_1
              try clear hfz31_0
              try clear hfz31_1
              try clear hfz36_0
              try clear hfz36_1
              try clear hfz45_0
              try clear hfz45_1
              try clear hfz47_0
              try clear hfz47_1
              try clear hfz50_0
              try clear hfz50_1
              try clear hfz53_0
              try clear hfz53_1
              try clear hfz58_0
              try clear hfz58_1
              try clear p2
              obtain ⟨x56_2, x115001_2, u115001, rfl, HA, HK2, HO_102000, HO_102001, HO_103000, HO_103001, HO_115000, HO_115001, BK101, BK102, BK103, BK114, HB⟩ := hrel
              cases gk with
              | zero => exact absurd HA.out (by simp [mould_Reshape.l0])
              | succ k2 =>
                have H := HA.out
                clear HA
                simp only [mould_Reshape.l0] at H
                by_cases c59 : x56_2 < t112
                · rw [if_pos c59] at H
                  have c59b0 : decide (x56_2 < t112) = true := decide_eq_true c59
                  clear c59
                  by_cases c60 : (l1_1.length : Int) = 0
                  · rw [if_pos c60] at H
                    exact absurd H (by simp)
                  · rw [if_neg c60] at H
                    have c60b0 : ((l1_1.length : Int) == 0) = false := beq_eq_false_iff_ne.mpr c60
                    have c60b1 : ((l1_1.length : Int) != 0) = true := bne_iff_ne.mpr c60
                    have c60b2 : ¬ (l1_1 = []) := fun h_ => c60 (by rw [h_]; rfl)
                    obtain ⟨ji61, hji61⟩ : ∃ j_ : Int, (Int.tmod x56_2 (l1_1.length : Int)) = j_ := ⟨_, rfl⟩
                    replace H : (if 0 ≤ (ji61) then (if (ji61) < (l1_1.length : Int) then (if x115001_2.length < 8796093022208 then (mould_Reshape.l0 k2 t112 (wrap64 (x56_2 + 1)) l1_0 l1_1 t108 (x115001_2 ++ [rdOf ByteArray.empty l1_1 (ji61)])) else (none)) else (none)) else (none)) = some (r1, r2, r3) := by first | (rw [hji61] at H; exact H) | (simp only [hji61] at H ⊢; exact H)
                    by_cases c62 : 0 ≤ (ji61)
                    · rw [if_pos c62] at H
                      have c62b0 : decide (0 ≤ (ji61)) = true := decide_eq_true c62
                      clear c62
                      by_cases c63 : (ji61) < (l1_1.length : Int)
                      · rw [if_pos c63] at H
                        have c63b0 : decide ((ji61) < (l1_1.length : Int)) = true := decide_eq_true c63
                        clear c63
                        by_cases c64 : x115001_2.length < 8796093022208
                        · rw [if_pos c64] at H
                          have LMc64 := Aside0.mk c64
                          clear c64
                          obtain ⟨y116, hy116⟩ : ∃ y_ : List ByteArray, y_ = (x115001_2 ++ [rdOf ByteArray.empty l1_1 (ji61)]) := ⟨_, rfl⟩
                          replace H : (mould_Reshape.l0 k2 t112 (wrap64 (x56_2 + 1)) l1_0 l1_1 t108 y116) = some (r1, r2, r3) := by first | (rw [hy116]; with_reducible exact H) | (have H2_ := (Option.bind_some _ _).symm.trans H; rw [hy116]; with_reducible exact H2_) | (have H2_ := (Option.bind_some _ _).symm.trans H; with_reducible exact H2_) | with_reducible exact H | (rw [hy116]; exact H) | exact H
                          have Ny116 := Aside0.mk hy116
                          clear hy116
                          have H' := Aside0.mk H
                          clear H
                          try go_wp2
                          replace HO_102000 := Aside0.mk (Kd.V_drew HO_102000.out)
                          replace HO_102001 := Aside0.mk (Kd.V_drew HO_102001.out)
                          replace HO_103000 := Aside0.mk (Kd.V_drew HO_103000.out)
                          replace HO_103001 := Aside0.mk (Kd.V_drew HO_103001.out)
                          replace HO_115000 := Aside0.mk (Kd.R_drew HO_115000.out)
                          replace HO_115001 := Aside0.mk (Kd.R_drew HO_115001.out)
                          replace BK101 := Aside0.mk (blk_drew BK101.out)
                          replace BK102 := Aside0.mk (blk_drew BK102.out)
                          replace BK103 := Aside0.mk (blk_drew BK103.out)
                          replace BK114 := Aside0.mk (blk_drew BK114.out)
                          replace HB := Aside0.mk (below_drew1 HB.out)
                          have p115 : 0 ≤ ((ji61) : Int) := of_decide_eq_true As_
                          have q115 : (ji61) < (l1_1.length : Int) := of_decide_eq_true As_
                          obtain ⟨ad115, e115, hx115_0⟩ := Kd.at_string (Kd.V_reads' HO_103001.out).2.2 (ji61) p115 q115
                          cases e115
                          replace p115 := eq_true p115
                          replace q115 := eq_true q115
                          refine start_ (n := 15) (S := fun w' => w'.cell? ⟨gb114, 0, none⟩ = some (.slice Ao38 t108.length co38) ∧ w'.cell? ⟨gb114, 1, none⟩ = some (u115001) ∧ w'.cell? ⟨gb102, 0, none⟩ = some (.slice A1_0 l1_0.length c1_0) ∧ w'.cell? ⟨gb102, 1, none⟩ = some (.slice (some ad115) l1_1.length c1_1) ∧ w'.cell? (ad115.add ((ji61)).toNat) = some (.string (rdOf ByteArray.empty l1_1 (ji61)))) (ds := [12, 14]) #[false, false, false, false, false, false, false, false, false, false, false, false, false, false, false] (by kernel_rfl) rfl rfl ⟨(blk_cell BK114.out 0).trans rfl, (blk_cell BK114.out 1).trans rfl, (blk_cell BK102.out 0).trans rfl, (blk_cell BK102.out 1).trans rfl, hx115_0⟩ (fun hHeld => ?_); refine with_tabW mould_Reshape.tab17 mould_Reshape.bits17 (fun HT_ HW_ => ?_)
                          generalize wr.drew = w65 at HO_102000 HO_102001 HO_103000 HO_103001 HO_115000 HO_115001 BK101 BK102 BK103 BK114 HB hx115_0 hHeld ⊢
                          refine pu_ 0 (some 59) HT_ #[true, false, false, false, false, false, false, false, false, false, false, false, false, false, false] ?_
                          refine pu_ 2 (some 61) HT_ #[true, false, true, false, false, false, false, false, false, false, false, false, false, false, false] ?_
                          refine pu_ 4 (some 63) HT_ #[true, false, true, false, true, false, false, false, false, false, false, false, false, false, false] ?_
                          refine pu_ 5 (some 64) HT_ #[true, false, true, false, true, true, false, false, false, false, false, false, false, false, false] ?_
                          refine take_ (i := 1) (N := some 60) (v := ?_) (a' := ?_) #[true, true, true, false, true, true, false, false, false, false, false, false, false, false, false] rfl rfl (take_ofW HT_.out HW_.out (by kernel_rfl)) (fun _ _ _ h => h) (Or.inl ⟨by rfl, ?_⟩) hHeld ?_ ?_
                          rotate_left
                          · rintro w' ⟨s0, s1, s2, s3, s4⟩
                            go_simp
                            with_reducible rfl
                          rotate_left
                          · simp only [Act.put, List.setIfInBounds_toArray, List.set_cons_zero, List.set_cons_succ, i64_w, i32_w]
                            rfl
                          refine take_ (i := 3) (N := some 62) (v := ?_) (a' := ?_) #[true, true, true, true, true, true, false, false, false, false, false, false, false, false, false] rfl rfl (take_ofW HT_.out HW_.out (by kernel_rfl)) (fun _ _ _ h => h) (Or.inl ⟨by rfl, ?_⟩) hHeld ?_ ?_
                          rotate_left
                          · rintro w' ⟨s0, s1, s2, s3, s4⟩
                            go_simp
                            with_reducible rfl
                          rotate_left
                          · simp only [Act.put, List.setIfInBounds_toArray, List.set_cons_zero, List.set_cons_succ, i64_w, i32_w]
                            rfl
                          refine take_ (i := 6) (N := some 65) (v := ?_) (a' := ?_) #[true, true, true, true, true, true, true, false, false, false, false, false, false, false, false] rfl rfl (take_ofW HT_.out HW_.out (by kernel_rfl)) (fun _ _ _ h => h) (Or.inl ⟨by rfl, ?_⟩) hHeld ?_ ?_
                          rotate_left
                          · rintro w' ⟨s0, s1, s2, s3, s4⟩
                            go_simp
                            with_reducible rfl
                          rotate_left
                          · simp only [Act.put, List.setIfInBounds_toArray, List.set_cons_zero, List.set_cons_succ, i64_w, i32_w]
                            rfl
                          refine pu_ 7 (some 66) HT_ #[true, true, true, true, true, true, true, true, false, false, false, false, false, false, false] ?_
                          refine pu_ 8 (some 67) HT_ #[true, true, true, true, true, true, true, true, true, false, false, false, false, false, false] ?_
                          refine pu_ 9 (some 68) HT_ #[true, true, true, true, true, true, true, true, true, true, false, false, false, false, false] ?_
                          refine take_ (i := 10) (N := some 69) (v := ?_) (a' := ?_) #[true, true, true, true, true, true, true, true, true, true, true, false, false, false, false] rfl rfl (take_ofW HT_.out HW_.out (by kernel_rfl)) (fun _ _ _ h => h) (Or.inl ⟨by rfl, ?_⟩) hHeld ?_ ?_
                          rotate_left
                          · rintro w' ⟨s0, s1, s2, s3, s4⟩
                            go_simp
                            with_reducible rfl
                          rotate_left
                          · simp only [Act.put, List.setIfInBounds_toArray, List.set_cons_zero, List.set_cons_succ, i64_w, i32_w]
                            rfl
                          refine one_ (i := 11) (N := some 70) #[true, true, true, true, true, true, true, true, true, true, true, true, false, false, false] rfl rfl (one_of HT_.out (by kernel_rfl)) (by decide) (fun K hK => ?_)
                          refine value_ (w1 := ?_) (v := ?_) (by rfl) rfl ?_ ?_
                          rotate_left 2
                          · go_simp
                            constructor
                            · rfl
                            · rfl
                          refine hK.out _ _ ⟨(blk_cell (blk_alloc BK114.out _) 0).trans rfl, (blk_cell (blk_alloc BK114.out _) 1).trans rfl, (blk_cell (blk_alloc BK102.out _) 0).trans rfl, (blk_cell (blk_alloc BK102.out _) 1).trans rfl, (World.cell?_alloc_lt _ _ _ (World.block_lt_of_cell? _ _ (hHeld.2.2.2.2))).trans (hHeld.2.2.2.2)⟩ (fun hHeld => ?_)
                          clear hK K
                          refine norm_ (a' := ?_) ?_ ?_
                          rotate_left
                          · show Act.put _ (some 70) _ = _
                            simp only [Act.put, List.setIfInBounds_toArray, List.set_cons_zero, List.set_cons_succ, i64_w, i32_w]
                            rfl
                          refine last_ (i := 12) (N := some 71) #[true, true, true, true, true, true, true, true, true, true, true, true, true, false, false] rfl rfl (one_of HT_.out (by kernel_rfl)) (by decide) (fun K hK => ?_)
                          refine Kd.R_append_step Kd.string (w0 := w) w.heap.size (by rfl) (.tmp 60) (.tmp 70) 23 9 (.string ⟨#[]⟩) 16 rfl Tryd.underlying23 info9 rfl (by decide) (by omega) u115001 x115001_2 (rdOf ByteArray.empty l1_1 (ji61)) [.string (rdOf ByteArray.empty l1_1 (ji61))] (fun k_ => (w.heap.size ≤ k_)) (fun _ => False) rfl rfl ?aP (fun _ hk => hk.elim) ?aF ?aO ?aB ?aS ?aL ?_
                          (case aP => exact rfl)
                          (case aB => exact Bl_)
                          (case aF => exact (fun k_ hk => (Nat.le_trans Bz_ hk)))
                          (case aO => exact (Pr_ HO_115001.out))
                          (case aS => exact Bz_)
                          (case aL => have := LMc64.out; omega)
                          intro v117 w66 ho hb hg hat
                          rw [← Ny116.out] at ho
                          replace HO_102000 := Aside0.mk (Kd.V_afterv (ok := (fun k_ => ((P0_0_ k_ ∨ P0_1_ k_ ∨ P1_0_ k_ ∨ P1_1_ k_) ∨ w.heap.size ≤ k_) ∧ some k_ ≠ (.slice Ao38 t108.length co38 : Value).ownBlock ∧ k_ ≠ gb101 ∧ k_ ≠ gb102 ∧ k_ ≠ gb103 ∧ k_ ≠ gb114)) (by (with_reducible repeat (first | apply Kd.V_alloc | apply Kd.V_drewN | apply Kd.V_drew)); exact Kd.V_mono HO_102000.out (fun _ hk => ⟨⟨hk.1, ⟨hk.2.1, ⟨hk.2.2.2.1, ⟨hk.2.2.2.2.1, ⟨hk.2.2.2.2.2.1, hk.2.2.2.2.2.2⟩⟩⟩⟩⟩, hk.2.2.1⟩)) hg hat)
                          replace HO_102001 := Aside0.mk (Kd.V_afterv (ok := (fun k_ => ((P0_0_ k_ ∨ P0_1_ k_ ∨ P1_0_ k_ ∨ P1_1_ k_) ∨ w.heap.size ≤ k_) ∧ some k_ ≠ (.slice Ao38 t108.length co38 : Value).ownBlock ∧ k_ ≠ gb101 ∧ k_ ≠ gb102 ∧ k_ ≠ gb103 ∧ k_ ≠ gb114)) (by (with_reducible repeat (first | apply Kd.V_alloc | apply Kd.V_drewN | apply Kd.V_drew)); exact Kd.V_mono HO_102001.out (fun _ hk => ⟨⟨hk.1, ⟨hk.2.1, ⟨hk.2.2.2.1, ⟨hk.2.2.2.2.1, ⟨hk.2.2.2.2.2.1, hk.2.2.2.2.2.2⟩⟩⟩⟩⟩, hk.2.2.1⟩)) hg hat)
                          replace HO_103000 := Aside0.mk (Kd.V_afterv (ok := (fun k_ => ((P0_0_ k_ ∨ P0_1_ k_ ∨ P1_0_ k_ ∨ P1_1_ k_) ∨ w.heap.size ≤ k_) ∧ some k_ ≠ (.slice Ao38 t108.length co38 : Value).ownBlock ∧ k_ ≠ gb101 ∧ k_ ≠ gb102 ∧ k_ ≠ gb103 ∧ k_ ≠ gb114)) (by (with_reducible repeat (first | apply Kd.V_alloc | apply Kd.V_drewN | apply Kd.V_drew)); exact Kd.V_mono HO_103000.out (fun _ hk => ⟨⟨hk.1, ⟨hk.2.1, ⟨hk.2.2.2.1, ⟨hk.2.2.2.2.1, ⟨hk.2.2.2.2.2.1, hk.2.2.2.2.2.2⟩⟩⟩⟩⟩, hk.2.2.1⟩)) hg hat)
                          replace HO_103001 := Aside0.mk (Kd.V_afterv (ok := (fun k_ => ((P0_0_ k_ ∨ P0_1_ k_ ∨ P1_0_ k_ ∨ P1_1_ k_) ∨ w.heap.size ≤ k_) ∧ some k_ ≠ (.slice Ao38 t108.length co38 : Value).ownBlock ∧ k_ ≠ gb101 ∧ k_ ≠ gb102 ∧ k_ ≠ gb103 ∧ k_ ≠ gb114)) (by (with_reducible repeat (first | apply Kd.V_alloc | apply Kd.V_drewN | apply Kd.V_drew)); exact Kd.V_mono HO_103001.out (fun _ hk => ⟨⟨hk.1, ⟨hk.2.1, ⟨hk.2.2.2.1, ⟨hk.2.2.2.2.1, ⟨hk.2.2.2.2.2.1, hk.2.2.2.2.2.2⟩⟩⟩⟩⟩, hk.2.2.1⟩)) hg hat)
                          replace HO_115000 := Aside0.mk (Kd.R_over' (Pr_ HO_115000.out) (Kd.R_typed (Pr_ HO_115001.out)) (by decide) hg)
                          replace BK101 := kg_ BK101 hg (Kd.R_ne HO_115001.out BK101.out (by decide))
                          replace BK102 := kg_ BK102 hg (Kd.R_ne HO_115001.out BK102.out (by decide))
                          replace BK103 := kg_ BK103 hg (Kd.R_ne HO_115001.out BK103.out (by decide))
                          replace BK114 := kg_ BK114 hg (Kd.R_ne HO_115001.out BK114.out (by decide))
                          replace HB := Aside0.mk (hb)
                          have HO118 := Aside0.mk (ho)
                          clear HO_115001
                          clear ho hb hg hat
                          obtain ⟨Ao67, co67, eo67⟩ := Kd.R_slice HO118.out
                          (first | subst eo67 | (injection eo67 with f1_ f2_ f3_; have f4_ := f1_.symm; have f5_ := f3_.symm; clear f1_ f2_ f3_; subst f4_; subst f5_))
                          refine hK.out _ _ ?_
                          clear hK K
                          refine norm_ (a' := ?_) ?_ ?_
                          rotate_left
                          · show Act.put _ (some 71) _ = _
                            simp only [Act.put, List.setIfInBounds_toArray, List.set_cons_zero, List.set_cons_succ, i64_w, i32_w]
                            rfl
                          refine pu_ 13 (some 72) HT_ #[true, true, true, true, true, true, true, true, true, true, true, true, true, true, false] ?_
                          refine last_ (i := 14) (N := none) #[true, true, true, true, true, true, true, true, true, true, true, true, true, true, true] rfl rfl (one_of HT_.out (by kernel_rfl)) (by decide) (fun K hK => ?_)
                          have hs68 : w66.cell? ⟨gb114, 1, none⟩ = some (u115001) := (blk_cell BK114.out 1).trans rfl
                          have hfs68 := blk_frozen BK114.out 1
                          have hns68_0 := NB101_114.out
                          have hns68_1 := NB102_114.out
                          have hns68_2 := NB103_114.out
                          have hms68_0 := NB114_101.out
                          have hms68_1 := NB114_102.out
                          have hms68_2 := NB114_103.out
                          refine skip_ (w1 := ?_) (by rfl) rfl ?_ ?_
                          rotate_left
                          · go_simp
                            rfl
                          refine hK.out _ _ ?_
                          clear hK K
                          refine done_ (done_of HT_.out (by kernel_rfl)) ?_
                          try go_wp2
                          go_roundg k2
                          case measure => have := HJ22.out; have := HK2.out; omega
                          case rel => exact ⟨(wrap64 (x56_2 + 1)), (y116), (.slice Ao67 y116.length co67), Rf_, H', ⟨by have := HJ22.out; have := HK2.out; omega⟩, ⟨by (with_reducible repeat (first | apply Kd.V_alloc | apply Kd.V_drewN | apply Kd.V_drew)); exact Kd.V_mono (Kd.V_far (p := ⟨gb114, 1, none⟩) (Kd.V_mono HO_102000.out (fun k_ hk => (⟨hk, hk.1.2.2.2.2.2⟩ : _ ∧ k_ ≠ gb114))) (fun _ hk => hk.2) (.slice Ao67 y116.length co67)) (fun _ hk => ⟨hk.1.1.1, ⟨hk.1.1.2.1, ⟨hk.1.2, ⟨hk.1.1.2.2.1, ⟨hk.1.1.2.2.2.1, ⟨hk.1.1.2.2.2.2.1, hk.1.1.2.2.2.2.2⟩⟩⟩⟩⟩⟩)⟩, ⟨by (with_reducible repeat (first | apply Kd.V_alloc | apply Kd.V_drewN | apply Kd.V_drew)); exact Kd.V_mono (Kd.V_far (p := ⟨gb114, 1, none⟩) (Kd.V_mono HO_102001.out (fun k_ hk => (⟨hk, hk.1.2.2.2.2.2⟩ : _ ∧ k_ ≠ gb114))) (fun _ hk => hk.2) (.slice Ao67 y116.length co67)) (fun _ hk => ⟨hk.1.1.1, ⟨hk.1.1.2.1, ⟨hk.1.2, ⟨hk.1.1.2.2.1, ⟨hk.1.1.2.2.2.1, ⟨hk.1.1.2.2.2.2.1, hk.1.1.2.2.2.2.2⟩⟩⟩⟩⟩⟩)⟩, ⟨by (with_reducible repeat (first | apply Kd.V_alloc | apply Kd.V_drewN | apply Kd.V_drew)); exact Kd.V_mono (Kd.V_far (p := ⟨gb114, 1, none⟩) (Kd.V_mono HO_103000.out (fun k_ hk => (⟨hk, hk.1.2.2.2.2.2⟩ : _ ∧ k_ ≠ gb114))) (fun _ hk => hk.2) (.slice Ao67 y116.length co67)) (fun _ hk => ⟨hk.1.1.1, ⟨hk.1.1.2.1, ⟨hk.1.2, ⟨hk.1.1.2.2.1, ⟨hk.1.1.2.2.2.1, ⟨hk.1.1.2.2.2.2.1, hk.1.1.2.2.2.2.2⟩⟩⟩⟩⟩⟩)⟩, ⟨by (with_reducible repeat (first | apply Kd.V_alloc | apply Kd.V_drewN | apply Kd.V_drew)); exact Kd.V_mono (Kd.V_far (p := ⟨gb114, 1, none⟩) (Kd.V_mono HO_103001.out (fun k_ hk => (⟨hk, hk.1.2.2.2.2.2⟩ : _ ∧ k_ ≠ gb114))) (fun _ hk => hk.2) (.slice Ao67 y116.length co67)) (fun _ hk => ⟨hk.1.1.1, ⟨hk.1.1.2.1, ⟨hk.1.2, ⟨hk.1.1.2.2.1, ⟨hk.1.1.2.2.2.1, ⟨hk.1.1.2.2.2.2.1, hk.1.1.2.2.2.2.2⟩⟩⟩⟩⟩⟩)⟩, ⟨by (with_reducible repeat (first | apply Kd.R_alloc | apply Kd.R_drewN | apply Kd.R_drew)); exact Kd.R_mono (Kd.R_far (p := ⟨gb114, 1, none⟩) (Kd.R_types HO_115000.out BK114.out (by decide)) (fun _ hk => hk.2) (.slice Ao67 y116.length co67)) (fun _ hk => hk.1)⟩, ⟨by (with_reducible repeat (first | apply Kd.R_alloc | apply Kd.R_drewN | apply Kd.R_drew)); exact Kd.R_mono (Kd.R_far (p := ⟨gb114, 1, none⟩) (Kd.R_types HO118.out BK114.out (by decide)) (fun _ hk => hk.2) (.slice Ao67 y116.length co67)) (fun _ hk => hk.1)⟩, ⟨by (with_reducible repeat (first | refine blk_drewN ?_ _ | refine blk_drew ?_ | refine blk_alloc ?_ _)); refine blk_far ?_ NB101_114.out _; (with_reducible repeat (first | refine blk_drewN ?_ _ | refine blk_drew ?_ | refine blk_alloc ?_ _)); exact BK101.out⟩, ⟨by (with_reducible repeat (first | refine blk_drewN ?_ _ | refine blk_drew ?_ | refine blk_alloc ?_ _)); refine blk_far ?_ NB102_114.out _; (with_reducible repeat (first | refine blk_drewN ?_ _ | refine blk_drew ?_ | refine blk_alloc ?_ _)); exact BK102.out⟩, ⟨by (with_reducible repeat (first | refine blk_drewN ?_ _ | refine blk_drew ?_ | refine blk_alloc ?_ _)); refine blk_far ?_ NB103_114.out _; (with_reducible repeat (first | refine blk_drewN ?_ _ | refine blk_drew ?_ | refine blk_alloc ?_ _)); exact BK103.out⟩, ⟨by (with_reducible repeat (first | refine blk_drewN ?_ _ | refine blk_drew ?_ | refine blk_alloc ?_ _)); refine blk_put (cs := #[.slice Ao38 t108.length co38, u115001]) ?_ 1 _ rfl; (with_reducible repeat (first | refine blk_drewN ?_ _ | refine blk_drew ?_ | refine blk_alloc ?_ _)); exact BK114.out⟩, ⟨Bl_⟩⟩
                        · rw [if_neg c64] at H
                          exact absurd H (by simp)
                      · rw [if_neg c63] at H
                        exact absurd H (by simp)
                    · rw [if_neg c62] at H
                      exact absurd H (by simp)
                · rw [if_neg c59] at H
                  have c59b0 : decide (x56_2 < t112) = false := decide_eq_false c59
                  clear c59
                  simp only [Option.some.injEq, Prod.mk.injEq] at H
                  obtain ⟨rfl, rfl, rfl⟩ := H
                  have hnb69 := NB114_101.out
                  have hnc69 := NB101_114.out
                  have hnb70 := NB114_102.out
                  have hnc70 := NB102_114.out
                  have hnb71 := NB114_103.out
                  have hnc71 := NB103_114.out
                  obtain ⟨hcz72_0, hcz72_1⟩ := c2_ BK114
                  obtain ⟨hfz72_0, hfz72_1⟩ := f2_ BK114
                  have hnb73 := NB103_101.out
                  have hnc73 := NB101_103.out
                  have hnb74 := NB103_102.out
                  have hnc74 := NB102_103.out
                  obtain ⟨hcz75_0, hcz75_1⟩ := c2_ BK103
                  obtain ⟨hfz75_0, hfz75_1⟩ := f2_ BK103
                  obtain ⟨Ao76, co76, eo76⟩ := Kd.R_slice HO_115001.out
                  subst eo76
                  go_wp2
                  refine bodyPost_ret (results_ct rfl _ _ gb103 25 #[.slice Ao38 t108.length co38, .slice Ao76 x115001_2.length co76] (0, 0) _ rfl (by (with_reducible repeat (first | refine blk_drewN ?_ _ | refine blk_drew ?_ | refine blk_alloc ?_ _)); refine blk_put (cs := #[.slice Ao38 t108.length co38, .slice none 0 0]) ?_ 1 _ rfl; (with_reducible repeat (first | refine blk_drewN ?_ _ | refine blk_drew ?_ | refine blk_alloc ?_ _)); refine blk_put (cs := #[.slice none 0 0, .slice none 0 0]) ?_ 0 _ rfl; (with_reducible repeat (first | refine blk_drewN ?_ _ | refine blk_drew ?_ | refine blk_alloc ?_ _)); exact BK103.out) Tryd.underlying25 rfl (by kernel_rfl)) rfl ?_
                  exact ⟨_, _, Re_, by (with_reducible repeat (first | apply Kd.R_alloc | apply Kd.R_drewN | apply Kd.R_drew)); exact Kd.R_mono (Kd.R_far (p := ⟨gb103, 1, none⟩) (Kd.R_far (p := ⟨gb103, 0, none⟩) (Kd.R_types HO_115000.out BK103.out (by decide)) (fun _ hk => hk.2) (.slice Ao38 t108.length co38)) (fun _ hk => hk.2) (.slice Ao76 x115001_2.length co76)) (fun _ hk => hk.1), by (with_reducible repeat (first | apply Kd.R_alloc | apply Kd.R_drewN | apply Kd.R_drew)); exact Kd.R_mono (Kd.R_far (p := ⟨gb103, 1, none⟩) (Kd.R_far (p := ⟨gb103, 0, none⟩) (Kd.R_types HO_115001.out BK103.out (by decide)) (fun _ hk => hk.2) (.slice Ao38 t108.length co38)) (fun _ hk => hk.2) (.slice Ao76 x115001_2.length co76)) (fun _ hk => hk.1), Bl_⟩
      · rw [if_neg c21] at H
        have c21b0 : (t111 == 0) = false := beq_eq_false_iff_ne.mpr c21
        have c21b1 : (t111 != 0) = true := bne_iff_ne.mpr c21
        simp only [Option.some.injEq, Prod.mk.injEq] at H
        obtain ⟨rfl, rfl, rfl⟩ := H
        go_enter Tryd.func30, Tryd.ntmps30
        go_wp2_with (first | ((with_reducible refine gate_dst (N := 2) rfl ?_); (try (refine gate_guard (by rfl) ?_; dsimp only)); refine bx_ 2 #[.slice A0_0 l0_0.length c0_0, .slice A0_1 l0_1.length c0_1] 25 ?_; intro gb101 hg w77 hbox hb; replace HO0_0 := Aside0.mk (Kd.V_below (Kd.V_elderB (Pv_ HO0_0.out) gb101 (Nat.le_of_eq hg.symm)) hb); replace HO0_1 := Aside0.mk (Kd.V_below (Kd.V_elderB (Pv_ HO0_1.out) gb101 (Nat.le_of_eq hg.symm)) hb); replace HO1_0 := Aside0.mk (Kd.V_below (Kd.V_elderB (Pv_ HO1_0.out) gb101 (Nat.le_of_eq hg.symm)) hb); replace HO1_1 := Aside0.mk (Kd.V_below (Kd.V_elderB (Pv_ HO1_1.out) gb101 (Nat.le_of_eq hg.symm)) hb); have BK101 := Aside0.mk (hbox); have GW101 := (Bg_ hg : Aside0 (w.heap.size ≤ gb101)); have GE101 := (Bg_ hg : Aside0 (w.heap.size ≤ gb101)); replace HB := Bs_ hb; clear hb hbox hg) | ((with_reducible refine gate_dst (N := 3) rfl ?_); (try (refine gate_guard (by rfl) ?_; dsimp only)); refine bx_ 3 #[.slice A1_0 l1_0.length c1_0, .slice A1_1 l1_1.length c1_1] 25 ?_; intro gb102 hg w78 hbox hb; replace HO0_0 := Aside0.mk (Kd.V_below (Kd.V_elderB (Pv_ HO0_0.out) gb102 (Nat.le_of_eq hg.symm)) hb); replace HO0_1 := Aside0.mk (Kd.V_below (Kd.V_elderB (Pv_ HO0_1.out) gb102 (Nat.le_of_eq hg.symm)) hb); replace HO1_0 := Aside0.mk (Kd.V_below (Kd.V_elderB (Pv_ HO1_0.out) gb102 (Nat.le_of_eq hg.symm)) hb); replace HO1_1 := Aside0.mk (Kd.V_below (Kd.V_elderB (Pv_ HO1_1.out) gb102 (Nat.le_of_eq hg.symm)) hb); have BK102 := Aside0.mk (hbox); have GW102 := (Bg_ hg : Aside0 (w.heap.size ≤ gb102)); have GE102 := (Bg_ hg : Aside0 (w.heap.size ≤ gb102)); replace HB := Bs_ hb; have NB101_102 := nl_ hg BK101; have NB102_101 := ng_ hg BK101; replace BK101 := kb_ BK101 hb; clear hb hbox hg) | ((with_reducible refine gate_dst (N := 4) rfl ?_); (try (refine gate_guard (by rfl) ?_; dsimp only)); refine bx_ 4 #[.slice none 0 0, .slice none 0 0] 25 ?_; intro gb103 hg w79 hbox hb; replace HO0_0 := Aside0.mk (Kd.V_below (Kd.V_elderB (Pv_ HO0_0.out) gb103 (Nat.le_of_eq hg.symm)) hb); replace HO0_1 := Aside0.mk (Kd.V_below (Kd.V_elderB (Pv_ HO0_1.out) gb103 (Nat.le_of_eq hg.symm)) hb); replace HO1_0 := Aside0.mk (Kd.V_below (Kd.V_elderB (Pv_ HO1_0.out) gb103 (Nat.le_of_eq hg.symm)) hb); replace HO1_1 := Aside0.mk (Kd.V_below (Kd.V_elderB (Pv_ HO1_1.out) gb103 (Nat.le_of_eq hg.symm)) hb); have BK103 := Aside0.mk (hbox); have GW103 := (Bg_ hg : Aside0 (w.heap.size ≤ gb103)); have GE103 := (Bg_ hg : Aside0 (w.heap.size ≤ gb103)); replace HB := Bs_ hb; have NB101_103 := nl_ hg BK101; have NB103_101 := ng_ hg BK101; replace BK101 := kb_ BK101 hb; have NB102_103 := nl_ hg BK102; have NB103_102 := ng_ hg BK102; replace BK102 := kb_ BK102 hb; clear hb hbox hg; have hnb80 := NB101_102.out; have hnc80 := NB102_101.out; have hnb81 := NB101_103.out; have hnc81 := NB103_101.out; obtain ⟨hcz82_0, hcz82_1⟩ := c2_ BK101; obtain ⟨hfz82_0, hfz82_1⟩ := f2_ BK101; have hnb83 := NB102_103.out; have hnc83 := NB103_102.out; obtain ⟨hcz84_0, hcz84_1⟩ := c2_ BK102; obtain ⟨hfz84_0, hfz84_1⟩ := f2_ BK102) | ((with_reducible refine gate_dst (N := 14) rfl ?_); (try (refine gate_guard (by rfl) ?_; dsimp only)); refine Kd.N_lit k25 _ 25 ?hg (N' := 14) ?hd (xs := ([(⟨l0_0, l0_1⟩ : S25), (⟨l1_0, l1_1⟩ : S25)] : List (S25))) (inner := [.slice A0_0 l0_0.length c0_0, .slice A0_1 l0_1.length c0_1, .slice A1_0 l1_0.length c1_0, .slice A1_1 l1_1.length c1_1]) (ok := (fun k_ => ((P0_0_ k_ ∨ P0_1_ k_ ∨ P1_0_ k_ ∨ P1_1_ k_) ∨ w.heap.size ≤ k_) ∧ k_ ≠ gb101 ∧ k_ ≠ gb102 ∧ k_ ≠ gb103)) (okp := (fun k_ => ((P0_0_ k_ ∨ P0_1_ k_ ∨ P1_0_ k_ ∨ P1_1_ k_) ∨ w.heap.size ≤ k_) ∧ k_ ≠ gb101 ∧ k_ ≠ gb102 ∧ k_ ≠ gb103)) ?hr ?hp (fun _ hk => hk) ((show ∀ k_, w79.heap.size ≤ k_ → (fun k_ => ((P0_0_ k_ ∨ P0_1_ k_ ∨ P1_0_ k_ ∨ P1_1_ k_) ∨ w.heap.size ≤ k_) ∧ k_ ≠ gb101 ∧ k_ ≠ gb102 ∧ k_ ≠ gb103) k_ from fun k_ hk => ⟨(.inr (Nat.le_trans Bz_ hk)), Kd.freshB (g := gb101) (o := .cells #[.slice A0_0 l0_0.length c0_0, .slice A0_1 l0_1.length c0_1] 25 (0, 0)) (Bk_ BK101.out) k_ hk, Kd.freshB (g := gb102) (o := .cells #[.slice A1_0 l1_0.length c1_0, .slice A1_1 l1_1.length c1_1] 25 (0, 0)) (Bk_ BK102.out) k_ hk, Kd.freshB (g := gb103) (o := .cells #[.slice none 0 0, .slice none 0 0] 25 (0, 0)) (Bk_ BK103.out) k_ hk⟩) _ (Nat.le_refl _)) (Below.refl _ _) (Nat.le_refl _) (by simp) ?_; (case hd => rfl); (case hg => rfl); (case hr => first | (go_simp; done) | (go_simp; rfl)); (case hp => exact (Reps.c2 (show Kd.FK k25 _ _ (⟨l0_0, l0_1⟩ : S25) [.slice A0_0 l0_0.length c0_0, .slice A0_1 l0_1.length c0_1] from (k25_mkF _ _ (⟨l0_0, l0_1⟩ : S25) (Kd.V_reads' (Kd.V_mono (ok' := (fun k_ => ((P0_0_ k_ ∨ P0_1_ k_ ∨ P1_0_ k_ ∨ P1_1_ k_) ∨ w.heap.size ≤ k_) ∧ k_ ≠ gb101 ∧ k_ ≠ gb102 ∧ k_ ≠ gb103)) (HO0_0.out) (fun k_ hk => ⟨hk.1.1.1, ⟨hk.1.1.2, ⟨hk.1.2, hk.2⟩⟩⟩))).2.1 (Kd.V_F (Kd.V_mono (ok' := (fun k_ => ((P0_0_ k_ ∨ P0_1_ k_ ∨ P1_0_ k_ ∨ P1_1_ k_) ∨ w.heap.size ≤ k_) ∧ k_ ≠ gb101 ∧ k_ ≠ gb102 ∧ k_ ≠ gb103)) (HO0_0.out) (fun k_ hk => ⟨hk.1.1.1, ⟨hk.1.1.2, ⟨hk.1.2, hk.2⟩⟩⟩))) (Kd.V_reads' (Kd.V_mono (ok' := (fun k_ => ((P0_0_ k_ ∨ P0_1_ k_ ∨ P1_0_ k_ ∨ P1_1_ k_) ∨ w.heap.size ≤ k_) ∧ k_ ≠ gb101 ∧ k_ ≠ gb102 ∧ k_ ≠ gb103)) (HO0_1.out) (fun k_ hk => ⟨hk.1.1.1, ⟨hk.1.1.2, ⟨hk.1.2, hk.2⟩⟩⟩))).2.1 (Kd.V_F (Kd.V_mono (ok' := (fun k_ => ((P0_0_ k_ ∨ P0_1_ k_ ∨ P1_0_ k_ ∨ P1_1_ k_) ∨ w.heap.size ≤ k_) ∧ k_ ≠ gb101 ∧ k_ ≠ gb102 ∧ k_ ≠ gb103)) (HO0_1.out) (fun k_ hk => ⟨hk.1.1.1, ⟨hk.1.1.2, ⟨hk.1.2, hk.2⟩⟩⟩))))) (Reps.c2 (show Kd.FK k25 _ _ (⟨l1_0, l1_1⟩ : S25) [.slice A1_0 l1_0.length c1_0, .slice A1_1 l1_1.length c1_1] from (k25_mkF _ _ (⟨l1_0, l1_1⟩ : S25) (Kd.V_reads' (Kd.V_mono (ok' := (fun k_ => ((P0_0_ k_ ∨ P0_1_ k_ ∨ P1_0_ k_ ∨ P1_1_ k_) ∨ w.heap.size ≤ k_) ∧ k_ ≠ gb101 ∧ k_ ≠ gb102 ∧ k_ ≠ gb103)) (HO1_0.out) (fun k_ hk => ⟨hk.1.1.1, ⟨hk.1.1.2, ⟨hk.1.2, hk.2⟩⟩⟩))).2.1 (Kd.V_F (Kd.V_mono (ok' := (fun k_ => ((P0_0_ k_ ∨ P0_1_ k_ ∨ P1_0_ k_ ∨ P1_1_ k_) ∨ w.heap.size ≤ k_) ∧ k_ ≠ gb101 ∧ k_ ≠ gb102 ∧ k_ ≠ gb103)) (HO1_0.out) (fun k_ hk => ⟨hk.1.1.1, ⟨hk.1.1.2, ⟨hk.1.2, hk.2⟩⟩⟩))) (Kd.V_reads' (Kd.V_mono (ok' := (fun k_ => ((P0_0_ k_ ∨ P0_1_ k_ ∨ P1_0_ k_ ∨ P1_1_ k_) ∨ w.heap.size ≤ k_) ∧ k_ ≠ gb101 ∧ k_ ≠ gb102 ∧ k_ ≠ gb103)) (HO1_1.out) (fun k_ hk => ⟨hk.1.1.1, ⟨hk.1.1.2, ⟨hk.1.2, hk.2⟩⟩⟩))).2.1 (Kd.V_F (Kd.V_mono (ok' := (fun k_ => ((P0_0_ k_ ∨ P0_1_ k_ ∨ P1_0_ k_ ∨ P1_1_ k_) ∨ w.heap.size ≤ k_) ∧ k_ ≠ gb101 ∧ k_ ≠ gb102 ∧ k_ ≠ gb103)) (HO1_1.out) (fun k_ hk => ⟨hk.1.1.1, ⟨hk.1.1.2, ⟨hk.1.2, hk.2⟩⟩⟩))))) (Reps.none _ _)))); intro v105 w85 ho86 hb hg_ hnew_; clear hg_ hnew_; (first | rw [← Ny104.out] at ho86 | (simp only [Int.reduceToNat] at ho86; rw [← Ny104.out] at ho86)); replace HO0_0 := Aside0.mk (Kd.V_elder' (Pv_ HO0_0.out) (Kd.N_base ho86) hb); replace HO0_1 := Aside0.mk (Kd.V_elder' (Pv_ HO0_1.out) (Kd.N_base ho86) hb); replace HO1_0 := Aside0.mk (Kd.V_elder' (Pv_ HO1_0.out) (Kd.N_base ho86) hb); replace HO1_1 := Aside0.mk (Kd.V_elder' (Pv_ HO1_1.out) (Kd.N_base ho86) hb); have HO106 := Aside0.mk (Kd.N_lower ho86 Bz_); replace BK101 := kb_ BK101 hb; replace BK102 := kb_ BK102 hb; replace BK103 := kb_ BK103 hb; replace HB := Bs_ hb; clear hb ho86; obtain ⟨Ao87, co87, eo87⟩ := Kd.N_slice HO106.out; subst eo87) | ((with_reducible refine gate_callee (f := 50) rfl ?_); refine goesL_ (some 15) rfl rfl Tryd.func50 (by kernel_rfl) rfl #[.slice Ao87 y104.length co87] rfl Ga_ ?_; (with_reducible refine (mould_fine.calls k _ _ y104 true _ ?side1 ?side2 A3.out).mono ?_); (case side1 => exact Pc_ ((Kd.N_reads' HO106.out).2.2)); (case side2 => exact (Kd.N_reads' HO106.out).2.1); rintro e w88 ⟨rfl, hb⟩; refine ⟨_, rfl, ?_⟩; replace HO0_0 := Aside0.mk (Kd.V_below (Pv_ HO0_0.out) hb); replace HO0_1 := Aside0.mk (Kd.V_below (Pv_ HO0_1.out) hb); replace HO1_0 := Aside0.mk (Kd.V_below (Pv_ HO1_0.out) hb); replace HO1_1 := Aside0.mk (Kd.V_below (Pv_ HO1_1.out) hb); replace HO106 := Aside0.mk (Kd.N_below (by (with_reducible repeat (first | apply Kd.N_alloc | apply Kd.N_drewN | apply Kd.N_drew)); exact HO106.out) hb); replace BK101 := kb_ BK101 hb; replace BK102 := kb_ BK102 hb; replace BK103 := kb_ BK103 hb; replace HB := Bs_ hb; (try clear hb); (try clear hb2); (try clear hk); (try clear hi); obtain ⟨hcz89_0, hcz89_1⟩ := c2_ BK101; obtain ⟨hfz89_0, hfz89_1⟩ := f2_ BK101) | ((with_reducible refine gate_callee (f := 65) rfl ?_); refine goesL_ (some 26) rfl rfl Tryd.func65 (by kernel_rfl) rfl #[.agg #[.slice A0_0 l0_0.length c0_0, .slice A0_1 l0_1.length c0_1]] rfl Ga_ ?_; (with_reducible refine (val_All.calls k _ _ l0_0 _ _ l0_1 t108 t111 _ ?side1 ?side2 ?side3 ?side4 A20.out ?side5).mono ?_); (case side1 => exact Pc_ ((Kd.V_reads' HO0_0.out).2.2)); (case side2 => exact (Kd.V_reads' HO0_0.out).2.1); (case side3 => exact Pc_ ((Kd.V_reads' HO0_1.out).2.2)); (case side4 => exact (Kd.V_reads' HO0_1.out).2.1); (case side5 => first | exact hG | exact Glob.below hG Bl_); rintro e w90 ⟨v109, rfl, ho0, hb⟩; refine ⟨_, rfl, ?_⟩; replace HO0_0 := Aside0.mk (Kd.V_elder' (Pv_ HO0_0.out) (Kd.R_base ho0) hb); replace HO0_1 := Aside0.mk (Kd.V_elder' (Pv_ HO0_1.out) (Kd.R_base ho0) hb); replace HO1_0 := Aside0.mk (Kd.V_elder' (Pv_ HO1_0.out) (Kd.R_base ho0) hb); replace HO1_1 := Aside0.mk (Kd.V_elder' (Pv_ HO1_1.out) (Kd.R_base ho0) hb); replace HO106 := Aside0.mk (Kd.N_elder' (by (with_reducible repeat (first | apply Kd.N_alloc | apply Kd.N_drewN | apply Kd.N_drew)); exact HO106.out) (Kd.R_base ho0) hb); have HO110 := Aside0.mk (Kd.R_lower (Kd.R_newM (M := fun k_ => (w.heap.size ≤ k_)) ho0 Bz_ (fun k_ h_ => h_)) Bz_); replace BK101 := kb_ BK101 hb; replace BK102 := kb_ BK102 hb; replace BK103 := kb_ BK103 hb; replace HB := Bs_ hb; (try clear hb); (try clear hb2); (try clear hk); (try clear hi); (try clear ho0); obtain ⟨hcz91_0, hcz91_1⟩ := c2_ BK103; obtain ⟨hfz91_0, hfz91_1⟩ := f2_ BK103))
        refine bodyPost_ret (results_ct rfl _ _ gb103 25 #[.slice none 0 0, .slice none 0 0] (0, 0) _ rfl (by (with_reducible repeat (first | refine blk_drewN ?_ _ | refine blk_drew ?_ | refine blk_alloc ?_ _)); refine blk_put (cs := #[.slice none 0 0, .slice none 0 0]) ?_ 1 _ rfl; (with_reducible repeat (first | refine blk_drewN ?_ _ | refine blk_drew ?_ | refine blk_alloc ?_ _)); refine blk_put (cs := #[.slice none 0 0, .slice none 0 0]) ?_ 0 _ rfl; (with_reducible repeat (first | refine blk_drewN ?_ _ | refine blk_drew ?_ | refine blk_alloc ?_ _)); exact BK103.out) Tryd.underlying25 rfl (by kernel_rfl)) rfl ?_
        exact ⟨_, _, Re_, by first | exact Kd.R_nil _ _ _ _ _ | exact Kd.N_nil _ _ _ _ _ | exact Kd.V_nil _ _ _ _ _ | exact Kd.Q_nil _ _ _ _ _ | exact Kd.S_nil _ _ _ _ _, by first | exact Kd.R_nil _ _ _ _ _ | exact Kd.N_nil _ _ _ _ _ | exact Kd.V_nil _ _ _ _ _ | exact Kd.Q_nil _ _ _ _ _ | exact Kd.S_nil _ _ _ _ _, Bl_⟩
  · replace c4 := Bool.eq_false_iff.mpr c4
    subst c4
    have H1 : (some (([] : List Int), ([] : List ByteArray), 1)) = some (r1, r2, r3) := by rw [if_neg (show ¬ (false = true) by decide)] at H; exact H
    clear H
    have H := H1
    clear H1
    simp only [Option.some.injEq, Prod.mk.injEq] at H
    obtain ⟨rfl, rfl, rfl⟩ := H
    go_enter Tryd.func30, Tryd.ntmps30
    go_wp2_with (first | ((with_reducible refine gate_dst (N := 2) rfl ?_); (try (refine gate_guard (by rfl) ?_; dsimp only)); refine bx_ 2 #[.slice A0_0 l0_0.length c0_0, .slice A0_1 l0_1.length c0_1] 25 ?_; intro gb101 hg w92 hbox hb; replace HO0_0 := Aside0.mk (Kd.V_below (Kd.V_elderB (Pv_ HO0_0.out) gb101 (Nat.le_of_eq hg.symm)) hb); replace HO0_1 := Aside0.mk (Kd.V_below (Kd.V_elderB (Pv_ HO0_1.out) gb101 (Nat.le_of_eq hg.symm)) hb); replace HO1_0 := Aside0.mk (Kd.V_below (Kd.V_elderB (Pv_ HO1_0.out) gb101 (Nat.le_of_eq hg.symm)) hb); replace HO1_1 := Aside0.mk (Kd.V_below (Kd.V_elderB (Pv_ HO1_1.out) gb101 (Nat.le_of_eq hg.symm)) hb); have BK101 := Aside0.mk (hbox); have GW101 := (Bg_ hg : Aside0 (w.heap.size ≤ gb101)); have GE101 := (Bg_ hg : Aside0 (w.heap.size ≤ gb101)); replace HB := Bs_ hb; clear hb hbox hg) | ((with_reducible refine gate_dst (N := 3) rfl ?_); (try (refine gate_guard (by rfl) ?_; dsimp only)); refine bx_ 3 #[.slice A1_0 l1_0.length c1_0, .slice A1_1 l1_1.length c1_1] 25 ?_; intro gb102 hg w93 hbox hb; replace HO0_0 := Aside0.mk (Kd.V_below (Kd.V_elderB (Pv_ HO0_0.out) gb102 (Nat.le_of_eq hg.symm)) hb); replace HO0_1 := Aside0.mk (Kd.V_below (Kd.V_elderB (Pv_ HO0_1.out) gb102 (Nat.le_of_eq hg.symm)) hb); replace HO1_0 := Aside0.mk (Kd.V_below (Kd.V_elderB (Pv_ HO1_0.out) gb102 (Nat.le_of_eq hg.symm)) hb); replace HO1_1 := Aside0.mk (Kd.V_below (Kd.V_elderB (Pv_ HO1_1.out) gb102 (Nat.le_of_eq hg.symm)) hb); have BK102 := Aside0.mk (hbox); have GW102 := (Bg_ hg : Aside0 (w.heap.size ≤ gb102)); have GE102 := (Bg_ hg : Aside0 (w.heap.size ≤ gb102)); replace HB := Bs_ hb; have NB101_102 := nl_ hg BK101; have NB102_101 := ng_ hg BK101; replace BK101 := kb_ BK101 hb; clear hb hbox hg) | ((with_reducible refine gate_dst (N := 4) rfl ?_); (try (refine gate_guard (by rfl) ?_; dsimp only)); refine bx_ 4 #[.slice none 0 0, .slice none 0 0] 25 ?_; intro gb103 hg w94 hbox hb; replace HO0_0 := Aside0.mk (Kd.V_below (Kd.V_elderB (Pv_ HO0_0.out) gb103 (Nat.le_of_eq hg.symm)) hb); replace HO0_1 := Aside0.mk (Kd.V_below (Kd.V_elderB (Pv_ HO0_1.out) gb103 (Nat.le_of_eq hg.symm)) hb); replace HO1_0 := Aside0.mk (Kd.V_below (Kd.V_elderB (Pv_ HO1_0.out) gb103 (Nat.le_of_eq hg.symm)) hb); replace HO1_1 := Aside0.mk (Kd.V_below (Kd.V_elderB (Pv_ HO1_1.out) gb103 (Nat.le_of_eq hg.symm)) hb); have BK103 := Aside0.mk (hbox); have GW103 := (Bg_ hg : Aside0 (w.heap.size ≤ gb103)); have GE103 := (Bg_ hg : Aside0 (w.heap.size ≤ gb103)); replace HB := Bs_ hb; have NB101_103 := nl_ hg BK101; have NB103_101 := ng_ hg BK101; replace BK101 := kb_ BK101 hb; have NB102_103 := nl_ hg BK102; have NB103_102 := ng_ hg BK102; replace BK102 := kb_ BK102 hb; clear hb hbox hg; have hnb95 := NB101_102.out; have hnc95 := NB102_101.out; have hnb96 := NB101_103.out; have hnc96 := NB103_101.out; obtain ⟨hcz97_0, hcz97_1⟩ := c2_ BK101; obtain ⟨hfz97_0, hfz97_1⟩ := f2_ BK101; have hnb98 := NB102_103.out; have hnc98 := NB103_102.out; obtain ⟨hcz99_0, hcz99_1⟩ := c2_ BK102; obtain ⟨hfz99_0, hfz99_1⟩ := f2_ BK102) | ((with_reducible refine gate_dst (N := 14) rfl ?_); (try (refine gate_guard (by rfl) ?_; dsimp only)); refine Kd.N_lit k25 _ 25 ?hg (N' := 14) ?hd (xs := ([(⟨l0_0, l0_1⟩ : S25), (⟨l1_0, l1_1⟩ : S25)] : List (S25))) (inner := [.slice A0_0 l0_0.length c0_0, .slice A0_1 l0_1.length c0_1, .slice A1_0 l1_0.length c1_0, .slice A1_1 l1_1.length c1_1]) (ok := (fun k_ => ((P0_0_ k_ ∨ P0_1_ k_ ∨ P1_0_ k_ ∨ P1_1_ k_) ∨ w.heap.size ≤ k_) ∧ k_ ≠ gb101 ∧ k_ ≠ gb102 ∧ k_ ≠ gb103)) (okp := (fun k_ => ((P0_0_ k_ ∨ P0_1_ k_ ∨ P1_0_ k_ ∨ P1_1_ k_) ∨ w.heap.size ≤ k_) ∧ k_ ≠ gb101 ∧ k_ ≠ gb102 ∧ k_ ≠ gb103)) ?hr ?hp (fun _ hk => hk) ((show ∀ k_, w94.heap.size ≤ k_ → (fun k_ => ((P0_0_ k_ ∨ P0_1_ k_ ∨ P1_0_ k_ ∨ P1_1_ k_) ∨ w.heap.size ≤ k_) ∧ k_ ≠ gb101 ∧ k_ ≠ gb102 ∧ k_ ≠ gb103) k_ from fun k_ hk => ⟨(.inr (Nat.le_trans Bz_ hk)), Kd.freshB (g := gb101) (o := .cells #[.slice A0_0 l0_0.length c0_0, .slice A0_1 l0_1.length c0_1] 25 (0, 0)) (Bk_ BK101.out) k_ hk, Kd.freshB (g := gb102) (o := .cells #[.slice A1_0 l1_0.length c1_0, .slice A1_1 l1_1.length c1_1] 25 (0, 0)) (Bk_ BK102.out) k_ hk, Kd.freshB (g := gb103) (o := .cells #[.slice none 0 0, .slice none 0 0] 25 (0, 0)) (Bk_ BK103.out) k_ hk⟩) _ (Nat.le_refl _)) (Below.refl _ _) (Nat.le_refl _) (by simp) ?_; (case hd => rfl); (case hg => rfl); (case hr => first | (go_simp; done) | (go_simp; rfl)); (case hp => exact (Reps.c2 (show Kd.FK k25 _ _ (⟨l0_0, l0_1⟩ : S25) [.slice A0_0 l0_0.length c0_0, .slice A0_1 l0_1.length c0_1] from (k25_mkF _ _ (⟨l0_0, l0_1⟩ : S25) (Kd.V_reads' (Kd.V_mono (ok' := (fun k_ => ((P0_0_ k_ ∨ P0_1_ k_ ∨ P1_0_ k_ ∨ P1_1_ k_) ∨ w.heap.size ≤ k_) ∧ k_ ≠ gb101 ∧ k_ ≠ gb102 ∧ k_ ≠ gb103)) (HO0_0.out) (fun k_ hk => ⟨hk.1.1.1, ⟨hk.1.1.2, ⟨hk.1.2, hk.2⟩⟩⟩))).2.1 (Kd.V_F (Kd.V_mono (ok' := (fun k_ => ((P0_0_ k_ ∨ P0_1_ k_ ∨ P1_0_ k_ ∨ P1_1_ k_) ∨ w.heap.size ≤ k_) ∧ k_ ≠ gb101 ∧ k_ ≠ gb102 ∧ k_ ≠ gb103)) (HO0_0.out) (fun k_ hk => ⟨hk.1.1.1, ⟨hk.1.1.2, ⟨hk.1.2, hk.2⟩⟩⟩))) (Kd.V_reads' (Kd.V_mono (ok' := (fun k_ => ((P0_0_ k_ ∨ P0_1_ k_ ∨ P1_0_ k_ ∨ P1_1_ k_) ∨ w.heap.size ≤ k_) ∧ k_ ≠ gb101 ∧ k_ ≠ gb102 ∧ k_ ≠ gb103)) (HO0_1.out) (fun k_ hk => ⟨hk.1.1.1, ⟨hk.1.1.2, ⟨hk.1.2, hk.2⟩⟩⟩))).2.1 (Kd.V_F (Kd.V_mono (ok' := (fun k_ => ((P0_0_ k_ ∨ P0_1_ k_ ∨ P1_0_ k_ ∨ P1_1_ k_) ∨ w.heap.size ≤ k_) ∧ k_ ≠ gb101 ∧ k_ ≠ gb102 ∧ k_ ≠ gb103)) (HO0_1.out) (fun k_ hk => ⟨hk.1.1.1, ⟨hk.1.1.2, ⟨hk.1.2, hk.2⟩⟩⟩))))) (Reps.c2 (show Kd.FK k25 _ _ (⟨l1_0, l1_1⟩ : S25) [.slice A1_0 l1_0.length c1_0, .slice A1_1 l1_1.length c1_1] from (k25_mkF _ _ (⟨l1_0, l1_1⟩ : S25) (Kd.V_reads' (Kd.V_mono (ok' := (fun k_ => ((P0_0_ k_ ∨ P0_1_ k_ ∨ P1_0_ k_ ∨ P1_1_ k_) ∨ w.heap.size ≤ k_) ∧ k_ ≠ gb101 ∧ k_ ≠ gb102 ∧ k_ ≠ gb103)) (HO1_0.out) (fun k_ hk => ⟨hk.1.1.1, ⟨hk.1.1.2, ⟨hk.1.2, hk.2⟩⟩⟩))).2.1 (Kd.V_F (Kd.V_mono (ok' := (fun k_ => ((P0_0_ k_ ∨ P0_1_ k_ ∨ P1_0_ k_ ∨ P1_1_ k_) ∨ w.heap.size ≤ k_) ∧ k_ ≠ gb101 ∧ k_ ≠ gb102 ∧ k_ ≠ gb103)) (HO1_0.out) (fun k_ hk => ⟨hk.1.1.1, ⟨hk.1.1.2, ⟨hk.1.2, hk.2⟩⟩⟩))) (Kd.V_reads' (Kd.V_mono (ok' := (fun k_ => ((P0_0_ k_ ∨ P0_1_ k_ ∨ P1_0_ k_ ∨ P1_1_ k_) ∨ w.heap.size ≤ k_) ∧ k_ ≠ gb101 ∧ k_ ≠ gb102 ∧ k_ ≠ gb103)) (HO1_1.out) (fun k_ hk => ⟨hk.1.1.1, ⟨hk.1.1.2, ⟨hk.1.2, hk.2⟩⟩⟩))).2.1 (Kd.V_F (Kd.V_mono (ok' := (fun k_ => ((P0_0_ k_ ∨ P0_1_ k_ ∨ P1_0_ k_ ∨ P1_1_ k_) ∨ w.heap.size ≤ k_) ∧ k_ ≠ gb101 ∧ k_ ≠ gb102 ∧ k_ ≠ gb103)) (HO1_1.out) (fun k_ hk => ⟨hk.1.1.1, ⟨hk.1.1.2, ⟨hk.1.2, hk.2⟩⟩⟩))))) (Reps.none _ _)))); intro v105 w100 ho101 hb hg_ hnew_; clear hg_ hnew_; (first | rw [← Ny104.out] at ho101 | (simp only [Int.reduceToNat] at ho101; rw [← Ny104.out] at ho101)); replace HO0_0 := Aside0.mk (Kd.V_elder' (Pv_ HO0_0.out) (Kd.N_base ho101) hb); replace HO0_1 := Aside0.mk (Kd.V_elder' (Pv_ HO0_1.out) (Kd.N_base ho101) hb); replace HO1_0 := Aside0.mk (Kd.V_elder' (Pv_ HO1_0.out) (Kd.N_base ho101) hb); replace HO1_1 := Aside0.mk (Kd.V_elder' (Pv_ HO1_1.out) (Kd.N_base ho101) hb); have HO106 := Aside0.mk (Kd.N_lower ho101 Bz_); replace BK101 := kb_ BK101 hb; replace BK102 := kb_ BK102 hb; replace BK103 := kb_ BK103 hb; replace HB := Bs_ hb; clear hb ho101; obtain ⟨Ao102, co102, eo102⟩ := Kd.N_slice HO106.out; subst eo102) | ((with_reducible refine gate_callee (f := 50) rfl ?_); refine goesL_ (some 15) rfl rfl Tryd.func50 (by kernel_rfl) rfl #[.slice Ao102 y104.length co102] rfl Ga_ ?_; (with_reducible refine (mould_fine.calls k _ _ y104 false _ ?side1 ?side2 A3.out).mono ?_); (case side1 => exact Pc_ ((Kd.N_reads' HO106.out).2.2)); (case side2 => exact (Kd.N_reads' HO106.out).2.1); rintro e w103 ⟨rfl, hb⟩; refine ⟨_, rfl, ?_⟩; replace HO0_0 := Aside0.mk (Kd.V_below (Pv_ HO0_0.out) hb); replace HO0_1 := Aside0.mk (Kd.V_below (Pv_ HO0_1.out) hb); replace HO1_0 := Aside0.mk (Kd.V_below (Pv_ HO1_0.out) hb); replace HO1_1 := Aside0.mk (Kd.V_below (Pv_ HO1_1.out) hb); replace HO106 := Aside0.mk (Kd.N_below (by (with_reducible repeat (first | apply Kd.N_alloc | apply Kd.N_drewN | apply Kd.N_drew)); exact HO106.out) hb); replace BK101 := kb_ BK101 hb; replace BK102 := kb_ BK102 hb; replace BK103 := kb_ BK103 hb; replace HB := Bs_ hb; (try clear hb); (try clear hb2); (try clear hk); (try clear hi); obtain ⟨hcz104_0, hcz104_1⟩ := c2_ BK103; obtain ⟨hfz104_0, hfz104_1⟩ := f2_ BK103))
    refine bodyPost_ret (results_ct rfl _ _ gb103 25 #[.slice none 0 0, .slice none 0 0] (0, 0) _ rfl (by (with_reducible repeat (first | refine blk_drewN ?_ _ | refine blk_drew ?_ | refine blk_alloc ?_ _)); refine blk_put (cs := #[.slice none 0 0, .slice none 0 0]) ?_ 1 _ rfl; (with_reducible repeat (first | refine blk_drewN ?_ _ | refine blk_drew ?_ | refine blk_alloc ?_ _)); refine blk_put (cs := #[.slice none 0 0, .slice none 0 0]) ?_ 0 _ rfl; (with_reducible repeat (first | refine blk_drewN ?_ _ | refine blk_drew ?_ | refine blk_alloc ?_ _)); exact BK103.out) Tryd.underlying25 rfl (by kernel_rfl)) rfl ?_
    exact ⟨_, _, Re_, by first | exact Kd.R_nil _ _ _ _ _ | exact Kd.N_nil _ _ _ _ _ | exact Kd.V_nil _ _ _ _ _ | exact Kd.Q_nil _ _ _ _ _ | exact Kd.S_nil _ _ _ _ _, by first | exact Kd.R_nil _ _ _ _ _ | exact Kd.N_nil _ _ _ _ _ | exact Kd.V_nil _ _ _ _ _ | exact Kd.Q_nil _ _ _ _ _ | exact Kd.S_nil _ _ _ _ _, Bl_⟩
/-! ### reredoslaw14_shown: function 20 -/
def reredoslaw14_shown.f (k : Nat)  : Option (Bool) := (val_Scalar.f (⟨#[54]⟩ : ByteArray)).bind fun bt101 => ((mould_Iota.f k bt101.1 bt101.2).bind fun bt107 => ((val_Ints.f k (([2, 3] : List Int))).bind fun bt118 => ((mould_Reshape.f k bt118.1 bt118.2 bt107.1 bt107.2.1).bind fun bt124 => ((mould_Flip.f k bt124.1 bt124.2.1).bind fun bt132 => (if bt107.2.2 = 0 then (if bt124.2.2 = 0 then (if bt132.2.2 = 0 then ((val_Same.f k bt132.1 bt132.2.1 (([3, 2] : List Int)) (([(⟨#[48]⟩ : ByteArray), (⟨#[51]⟩ : ByteArray), (⟨#[49]⟩ : ByteArray), (⟨#[52]⟩ : ByteArray), (⟨#[50]⟩ : ByteArray), (⟨#[53]⟩ : ByteArray)] : List ByteArray))).bind fun t146 => (some t146)) else (none)) else (none)) else (none))))))
def reredoslaw14_shown.T2 : Bool × List (List Nat × List Nat) := (true, [([], []), ([0], [0]), ([], []), ([1, 2, 1], [1, 2]), ([3], [3]), ([4], [4]), ([4], [4]), ([], []), ([7, 5, 3, 0, 1, 2, 3, 4, 5, 7], [5, 7]), ([6, 8, 0, 1, 2, 3, 4, 5, 6, 7, 8], [6])])
def reredoslaw14_shown.B2 : List Nat := [0, 1, 0, 7, 15, 31, 31, 0, 191, 511]
theorem reredoslaw14_shown.tab2 : rtab .any (opsOf Tryd.f20 2) = reredoslaw14_shown.T2 := by kernel_rfl
theorem reredoslaw14_shown.bits2 : waitsOk reredoslaw14_shown.T2.2 reredoslaw14_shown.B2 = true := by kernel_rfl
set_option maxHeartbeats 8000000 in
set_option maxRecDepth 100000 in
theorem reredoslaw14_shown.calls (k : Nat)  (r : Bool) (w : World) (h : reredoslaw14_shown.f k  = some r) (hG : Glob w) :
    Calls Tryd.prog 20 #[] w fun e w' => e = .returned (.bool r) ∧ Below w.heap.size w w' := by
  have hu25 := Tryd.underlying25
  have HB := Aside0.mk (Below.refl w.heap.size w)
  have H : ((val_Scalar.f (⟨#[54]⟩ : ByteArray)).bind fun bt101 => ((mould_Iota.f k bt101.1 bt101.2).bind fun bt107 => ((val_Ints.f k (([2, 3] : List Int))).bind fun bt118 => ((mould_Reshape.f k bt118.1 bt118.2 bt107.1 bt107.2.1).bind fun bt124 => ((mould_Flip.f k bt124.1 bt124.2.1).bind fun bt132 => (if bt107.2.2 = 0 then (if bt124.2.2 = 0 then (if bt132.2.2 = 0 then ((val_Same.f k bt132.1 bt132.2.1 (([3, 2] : List Int)) (([(⟨#[48]⟩ : ByteArray), (⟨#[51]⟩ : ByteArray), (⟨#[49]⟩ : ByteArray), (⟨#[52]⟩ : ByteArray), (⟨#[50]⟩ : ByteArray), (⟨#[53]⟩ : ByteArray)] : List ByteArray))).bind fun t146 => (some t146)) else (none)) else (none)) else (none))))))) = some r := h
  clear h
  obtain ⟨⟨t101, t104⟩, A1, H⟩ := bnd_ H
  try dsimp -simprocs only at H
  obtain ⟨⟨t107, t110, t113⟩, A2, H⟩ := bnd_ H
  try dsimp -simprocs only at H
  obtain ⟨y115, hy115⟩ : ∃ y_ : List Int, y_ = (([2, 3] : List Int)) := ⟨_, rfl⟩
  replace H : ((val_Ints.f k y115).bind fun bt118 => ((mould_Reshape.f k bt118.1 bt118.2 t107 t110).bind fun bt124 => ((mould_Flip.f k bt124.1 bt124.2.1).bind fun bt132 => (if t113 = 0 then (if bt124.2.2 = 0 then (if bt132.2.2 = 0 then ((val_Same.f k bt132.1 bt132.2.1 (([3, 2] : List Int)) (([(⟨#[48]⟩ : ByteArray), (⟨#[51]⟩ : ByteArray), (⟨#[49]⟩ : ByteArray), (⟨#[52]⟩ : ByteArray), (⟨#[50]⟩ : ByteArray), (⟨#[53]⟩ : ByteArray)] : List ByteArray))).bind fun t146 => (some t146)) else (none)) else (none)) else (none))))) = some r := by first | (rw [hy115]; with_reducible exact H) | (have H2_ := (Option.bind_some _ _).symm.trans H; rw [hy115]; with_reducible exact H2_) | (have H2_ := (Option.bind_some _ _).symm.trans H; with_reducible exact H2_) | with_reducible exact H | (rw [hy115]; exact H) | exact H
  have Ny115 := Aside0.mk hy115
  clear hy115
  obtain ⟨⟨t118, t121⟩, A3, H⟩ := bnd_ H
  try dsimp -simprocs only at H
  obtain ⟨⟨t124, t127, t130⟩, A4, H⟩ := bnd_ H
  try dsimp -simprocs only at H
  obtain ⟨⟨t132, t135, t138⟩, A5, H⟩ := bnd_ H
  try dsimp -simprocs only at H
  by_cases c6 : t113 = 0
  · rw [if_pos c6] at H
    have c6b0 : (t113 == 0) = true := beq_iff_eq.mpr c6
    have c6b1 : (t113 != 0) = false := bne_eq_false_iff_eq.mpr c6
    clear c6
    by_cases c7 : t130 = 0
    · rw [if_pos c7] at H
      have c7b0 : (t130 == 0) = true := beq_iff_eq.mpr c7
      have c7b1 : (t130 != 0) = false := bne_eq_false_iff_eq.mpr c7
      clear c7
      by_cases c8 : t138 = 0
      · rw [if_pos c8] at H
        have c8b0 : (t138 == 0) = true := beq_iff_eq.mpr c8
        have c8b1 : (t138 != 0) = false := bne_eq_false_iff_eq.mpr c8
        clear c8
        obtain ⟨y140, hy140⟩ : ∃ y_ : List Int, y_ = (([3, 2] : List Int)) := ⟨_, rfl⟩
        replace H : ((val_Same.f k t132 t135 y140 (([(⟨#[48]⟩ : ByteArray), (⟨#[51]⟩ : ByteArray), (⟨#[49]⟩ : ByteArray), (⟨#[52]⟩ : ByteArray), (⟨#[50]⟩ : ByteArray), (⟨#[53]⟩ : ByteArray)] : List ByteArray))).bind fun t146 => (some t146)) = some r := by first | (rw [hy140]; with_reducible exact H) | (have H2_ := (Option.bind_some _ _).symm.trans H; rw [hy140]; with_reducible exact H2_) | (have H2_ := (Option.bind_some _ _).symm.trans H; with_reducible exact H2_) | with_reducible exact H | (rw [hy140]; exact H) | exact H
        have Ny140 := Aside0.mk hy140
        clear hy140
        obtain ⟨y143, hy143⟩ : ∃ y_ : List ByteArray, y_ = (([(⟨#[48]⟩ : ByteArray), (⟨#[51]⟩ : ByteArray), (⟨#[49]⟩ : ByteArray), (⟨#[52]⟩ : ByteArray), (⟨#[50]⟩ : ByteArray), (⟨#[53]⟩ : ByteArray)] : List ByteArray)) := ⟨_, rfl⟩
        replace H : ((val_Same.f k t132 t135 y140 y143).bind fun t146 => (some t146)) = some r := by first | (rw [hy143]; with_reducible exact H) | (have H2_ := (Option.bind_some _ _).symm.trans H; rw [hy143]; with_reducible exact H2_) | (have H2_ := (Option.bind_some _ _).symm.trans H; with_reducible exact H2_) | with_reducible exact H | (rw [hy143]; exact H) | exact H
        have Ny143 := Aside0.mk hy143
        clear hy143
        obtain ⟨t146, A9, H⟩ := bnd_ H
        try dsimp -simprocs only at H
        obtain rfl := Option.some.inj H
        go_enter Tryd.func20, Tryd.ntmps20
        try go_wp2_with (first | ((with_reducible refine gate_callee (f := 22) rfl ?_); refine goesL_ (some 8) rfl rfl Tryd.func22 (by kernel_rfl) rfl #[.string (⟨#[54]⟩ : ByteArray)] rfl Ga_ ?_; (with_reducible refine (val_Scalar.calls (⟨#[54]⟩ : ByteArray) t101 t104 _ A1.out).mono ?_); rintro e w10 ⟨v102, v105, rfl, ho0, ho1, hb⟩; refine ⟨_, rfl, ?_⟩; have HO103 := Aside0.mk (Kd.R_lower ho0 Bz_); have HO106 := Aside0.mk (Kd.R_lower ho1 Bz_); replace HB := Bs_ hb; (try clear hb); (try clear hb2); (try clear hk); (try clear hi); (try clear ho0); (try clear ho1); obtain ⟨Ao11, co11, eo11⟩ := Kd.R_slice HO103.out; subst eo11; obtain ⟨Ao12, co12, eo12⟩ := Kd.R_slice HO106.out; subst eo12) | ((with_reducible refine gate_callee (f := 21) rfl ?_); refine goesL_ (some 9) rfl rfl Tryd.func21 (by kernel_rfl) rfl #[.agg #[.slice Ao11 t101.length co11, .slice Ao12 t104.length co12]] rfl Ga_ ?_; (with_reducible refine (mould_Iota.calls k (fun k_ => some k_ = (.slice Ao11 t101.length co11 : Value).ownBlock) _ _ t101 (fun k_ => some k_ = (.slice Ao12 t104.length co12 : Value).ownBlock) _ _ t104 t107 t110 t113 _ ?side1 ?side2 A2.out ?side3).mono ?_); (case side1 => exact Kd.R_V (Kd.R_tight rfl (Kd.R_apart' (HO103.out) (Kd.R_typed HO106.out) (by decide)))); (case side2 => exact Kd.R_V (Kd.R_tight rfl (Kd.R_apart' (HO106.out) (Kd.R_typed HO103.out) (by decide)))); (case side3 => first | exact hG | exact Glob.below hG Bl_); rintro e w13 ⟨v108, v111, rfl, ho0, ho1, hb⟩; refine ⟨_, rfl, ?_⟩; have HO109 := Aside0.mk (Kd.R_lower (Kd.R_new' (Kd.R_mono (ok' := fun k_ => True) ho0 (fun _ hk_ => trivial)) (Kd.R_lt (Pr_ HO103.out))) Bz_); replace HO103 := Aside0.mk (Kd.R_elder' (Pr_ HO103.out) (Kd.R_base ho0) hb); have HO112 := Aside0.mk (Kd.R_lower (Kd.R_new' (Kd.R_mono (ok' := fun k_ => True) ho1 (fun _ hk_ => trivial)) (Kd.R_lt (Pr_ HO106.out))) Bz_); replace HO106 := Aside0.mk (Kd.R_elder' (Pr_ HO106.out) (Kd.R_base ho1) hb); replace HB := Bs_ hb; (try clear hb); (try clear hb2); (try clear hk); (try clear hi); (try clear ho0); (try clear ho1)) | ((with_reducible refine gate_dst (N := 1) rfl ?_); (try (refine gate_guard (by rfl) ?_; dsimp only)); refine bx_ 1 #[.slice none 0 0, .slice none 0 0] 25 ?_; intro gb114 hg w14 hbox hb; replace HO103 := Aside0.mk (Kd.R_below (Pr_ HO103.out) hb); replace HO106 := Aside0.mk (Kd.R_below (Pr_ HO106.out) hb); replace HO109 := Aside0.mk (Kd.R_below (Pr_ HO109.out) hb); replace HO112 := Aside0.mk (Kd.R_below (Pr_ HO112.out) hb); have BK114 := Aside0.mk (hbox); have GW114 := (Bg_ hg : Aside0 (w.heap.size ≤ gb114)); have GE114 := (Bg_ hg : Aside0 (w.heap.size ≤ gb114)); replace HB := Bs_ hb; clear hb hbox hg; obtain ⟨Ao15, co15, eo15⟩ := Kd.R_slice HO109.out; subst eo15; obtain ⟨hcz16_0, hcz16_1⟩ := c2_ BK114; obtain ⟨hfz16_0, hfz16_1⟩ := f2_ BK114; obtain ⟨Ao17, co17, eo17⟩ := Kd.R_slice HO112.out; subst eo17))
        have n0_ : Aside0 (Kd.R (Kd.int .i64) 3 ((w14.setCell ⟨gb114, 0, none⟩ (.slice Ao15 t107.length co15)).setCell ⟨gb114, 1, none⟩ (.slice Ao17 t110.length co17)) w.heap.size (fun k_ => some k_ ≠ (.slice Ao15 t107.length co15 : Value).ownBlock) (.slice Ao11 t101.length co11) t101) := ⟨by (with_reducible repeat (first | apply Kd.R_alloc | apply Kd.R_drewN | apply Kd.R_drew)); exact Kd.R_mono (Kd.R_far (p := ⟨gb114, 1, none⟩) (Kd.R_far (p := ⟨gb114, 0, none⟩) (Kd.R_types HO103.out BK114.out (by decide)) (fun _ hk => hk.2) (.slice Ao15 t107.length co15)) (fun _ hk => hk.2) (.slice Ao17 t110.length co17)) (fun _ hk => hk.1.2)⟩
        have n1_ : Aside0 (Kd.R Kd.string 9 ((w14.setCell ⟨gb114, 0, none⟩ (.slice Ao15 t107.length co15)).setCell ⟨gb114, 1, none⟩ (.slice Ao17 t110.length co17)) w.heap.size (fun k_ => some k_ ≠ (.slice Ao17 t110.length co17 : Value).ownBlock) (.slice Ao12 t104.length co12) t104) := ⟨by (with_reducible repeat (first | apply Kd.R_alloc | apply Kd.R_drewN | apply Kd.R_drew)); exact Kd.R_mono (Kd.R_far (p := ⟨gb114, 1, none⟩) (Kd.R_far (p := ⟨gb114, 0, none⟩) (Kd.R_types HO106.out BK114.out (by decide)) (fun _ hk => hk.2) (.slice Ao15 t107.length co15)) (fun _ hk => hk.2) (.slice Ao17 t110.length co17)) (fun _ hk => hk.1.2)⟩
        have n2_ : Aside0 (Kd.R (Kd.int .i64) 3 ((w14.setCell ⟨gb114, 0, none⟩ (.slice Ao15 t107.length co15)).setCell ⟨gb114, 1, none⟩ (.slice Ao17 t110.length co17)) w.heap.size (fun k_ => some k_ ≠ (.slice Ao11 t101.length co11 : Value).ownBlock) (.slice Ao15 t107.length co15) t107) := ⟨by (with_reducible repeat (first | apply Kd.R_alloc | apply Kd.R_drewN | apply Kd.R_drew)); exact Kd.R_mono (Kd.R_far (p := ⟨gb114, 1, none⟩) (Kd.R_far (p := ⟨gb114, 0, none⟩) (Kd.R_types HO109.out BK114.out (by decide)) (fun _ hk => hk.2) (.slice Ao15 t107.length co15)) (fun _ hk => hk.2) (.slice Ao17 t110.length co17)) (fun _ hk => hk.1.2)⟩
        have n3_ : Aside0 (Kd.R Kd.string 9 ((w14.setCell ⟨gb114, 0, none⟩ (.slice Ao15 t107.length co15)).setCell ⟨gb114, 1, none⟩ (.slice Ao17 t110.length co17)) w.heap.size (fun k_ => some k_ ≠ (.slice Ao12 t104.length co12 : Value).ownBlock) (.slice Ao17 t110.length co17) t110) := ⟨by (with_reducible repeat (first | apply Kd.R_alloc | apply Kd.R_drewN | apply Kd.R_drew)); exact Kd.R_mono (Kd.R_far (p := ⟨gb114, 1, none⟩) (Kd.R_far (p := ⟨gb114, 0, none⟩) (Kd.R_types HO112.out BK114.out (by decide)) (fun _ hk => hk.2) (.slice Ao15 t107.length co15)) (fun _ hk => hk.2) (.slice Ao17 t110.length co17)) (fun _ hk => hk.1.2)⟩
        have n4_ : Aside0 (((w14.setCell ⟨gb114, 0, none⟩ (.slice Ao15 t107.length co15)).setCell ⟨gb114, 1, none⟩ (.slice Ao17 t110.length co17)).heap[gb114]? = some (.cells #[.slice Ao15 t107.length co15, .slice Ao17 t110.length co17] 25 (0, 0))) := ⟨by (with_reducible repeat (first | refine blk_drewN ?_ _ | refine blk_drew ?_ | refine blk_alloc ?_ _)); refine blk_put (cs := #[.slice Ao15 t107.length co15, .slice none 0 0]) ?_ 1 _ rfl; (with_reducible repeat (first | refine blk_drewN ?_ _ | refine blk_drew ?_ | refine blk_alloc ?_ _)); refine blk_put (cs := #[.slice none 0 0, .slice none 0 0]) ?_ 0 _ rfl; (with_reducible repeat (first | refine blk_drewN ?_ _ | refine blk_drew ?_ | refine blk_alloc ?_ _)); exact BK114.out⟩
        have n5_ : Aside0 (Below w.heap.size w ((w14.setCell ⟨gb114, 0, none⟩ (.slice Ao15 t107.length co15)).setCell ⟨gb114, 1, none⟩ (.slice Ao17 t110.length co17))) := ⟨Bl_⟩
        (try clear HO103)
        (try clear HO106)
        (try clear HO109)
        (try clear HO112)
        (try clear BK114)
        (try clear HB)
        generalize ((w14.setCell ⟨gb114, 0, none⟩ (.slice Ao15 t107.length co15)).setCell ⟨gb114, 1, none⟩ (.slice Ao17 t110.length co17)) = w18 at n0_ n1_ n2_ n3_ n4_ n5_ ⊢
        have HO103 := n0_
        have HO106 := n1_
        have HO109 := n2_
        have HO112 := n3_
        have BK114 := n4_
        have HB := n5_
        clear n0_ n1_ n2_ n3_ n4_ n5_
        replace HO103 := Aside0.mk (Kd.R_drew HO103.out)
        replace HO106 := Aside0.mk (Kd.R_drew HO106.out)
        replace HO109 := Aside0.mk (Kd.R_drew HO109.out)
        replace HO112 := Aside0.mk (Kd.R_drew HO112.out)
        replace BK114 := Aside0.mk (blk_drew BK114.out)
        replace HB := Aside0.mk (below_drew1 HB.out)
        refine start_ (n := 10) (S := fun w' => w'.cell? ⟨gb114, 0, none⟩ = some (.slice Ao15 t107.length co15) ∧ w'.cell? ⟨gb114, 1, none⟩ = some (.slice Ao17 t110.length co17)) (ds := []) #[false, false, false, false, false, false, false, false, false, false] (by kernel_rfl) rfl rfl ⟨(blk_cell BK114.out 0).trans rfl, (blk_cell BK114.out 1).trans rfl⟩ (fun hHeld => ?_); refine with_tabW reredoslaw14_shown.tab2 reredoslaw14_shown.bits2 (fun HT_ HW_ => ?_)
        generalize w18.drew = w19 at HO103 HO106 HO109 HO112 BK114 HB hHeld ⊢
        refine take_ (i := 2) (N := some 15) (v := ?_) (a' := ?_) #[false, false, true, false, false, false, false, false, false, false] rfl rfl (take_ofW HT_.out HW_.out (by kernel_rfl)) (fun _ _ _ h => h) (Or.inl ⟨by rfl, ?_⟩) hHeld ?_ ?_
        rotate_left
        · rintro w' ⟨s0, s1⟩
          go_simp
          with_reducible rfl
        rotate_left
        · simp only [Act.put, List.setIfInBounds_toArray, List.set_cons_zero, List.set_cons_succ, i64_w, i32_w]
          rfl
        refine join_ (σ := Value × Value × Value × Value × Value × Nat) 2 #[true, true, true, true, true, true, true, true, false, false] (fun s_ => [(13, s_.1), (14, .agg #[s_.2.1, s_.2.2.1]), (16, .tuple #[.agg #[s_.2.2.2.1, s_.2.2.2.2.1], .int .i64 t130]), (3, .pointer (some ⟨s_.2.2.2.2.2, 0, none⟩)), (12, .tuple #[.agg #[s_.2.2.2.1, s_.2.2.2.2.1], .int .i64 t130]), (17, .agg #[s_.2.2.2.1, s_.2.2.2.2.1]), (18, .int .i64 t130)]) (fun s_ w' => (w'.cell? ⟨gb114, 0, none⟩ = some (.slice Ao15 t107.length co15) ∧ w'.cell? ⟨gb114, 1, none⟩ = some (.slice Ao17 t110.length co17)) ∧ (Kd.R (Kd.int .i64) 3 w' w.heap.size (fun k_ => some k_ ≠ (.slice Ao15 t107.length co15 : Value).ownBlock ∧ some k_ ≠ (s_.1 : Value).ownBlock ∧ some k_ ≠ (s_.2.1 : Value).ownBlock ∧ some k_ ≠ (s_.2.2.2.1 : Value).ownBlock) (.slice Ao11 t101.length co11) t101) ∧ (Kd.R Kd.string 9 w' w.heap.size (fun k_ => some k_ ≠ (.slice Ao17 t110.length co17 : Value).ownBlock ∧ some k_ ≠ (s_.2.2.1 : Value).ownBlock ∧ some k_ ≠ (s_.2.2.2.2.1 : Value).ownBlock) (.slice Ao12 t104.length co12) t104) ∧ (Kd.R (Kd.int .i64) 3 w' w.heap.size (fun k_ => some k_ ≠ (.slice Ao11 t101.length co11 : Value).ownBlock ∧ some k_ ≠ (s_.1 : Value).ownBlock ∧ some k_ ≠ (s_.2.1 : Value).ownBlock ∧ some k_ ≠ (s_.2.2.2.1 : Value).ownBlock) (.slice Ao15 t107.length co15) t107) ∧ (Kd.R Kd.string 9 w' w.heap.size (fun k_ => some k_ ≠ (.slice Ao12 t104.length co12 : Value).ownBlock ∧ some k_ ≠ (s_.2.2.1 : Value).ownBlock ∧ some k_ ≠ (s_.2.2.2.2.1 : Value).ownBlock) (.slice Ao17 t110.length co17) t110) ∧ (Kd.R (Kd.int .i64) 3 w' w.heap.size (fun k_ => some k_ ≠ (.slice Ao11 t101.length co11 : Value).ownBlock ∧ some k_ ≠ (.slice Ao15 t107.length co15 : Value).ownBlock ∧ some k_ ≠ (s_.2.1 : Value).ownBlock ∧ some k_ ≠ (s_.2.2.2.1 : Value).ownBlock) s_.1 y115) ∧ (Kd.R (Kd.int .i64) 3 w' w.heap.size (fun k_ => some k_ ≠ (.slice Ao11 t101.length co11 : Value).ownBlock ∧ some k_ ≠ (.slice Ao15 t107.length co15 : Value).ownBlock ∧ some k_ ≠ (s_.1 : Value).ownBlock ∧ some k_ ≠ (s_.2.2.2.1 : Value).ownBlock) s_.2.1 t118) ∧ (Kd.R Kd.string 9 w' w.heap.size (fun k_ => some k_ ≠ (.slice Ao12 t104.length co12 : Value).ownBlock ∧ some k_ ≠ (.slice Ao17 t110.length co17 : Value).ownBlock ∧ some k_ ≠ (s_.2.2.2.2.1 : Value).ownBlock) s_.2.2.1 t121) ∧ (Kd.R (Kd.int .i64) 3 w' w.heap.size (fun k_ => some k_ ≠ (.slice Ao11 t101.length co11 : Value).ownBlock ∧ some k_ ≠ (.slice Ao15 t107.length co15 : Value).ownBlock ∧ some k_ ≠ (s_.1 : Value).ownBlock ∧ some k_ ≠ (s_.2.1 : Value).ownBlock) s_.2.2.2.1 t124) ∧ (Kd.R Kd.string 9 w' w.heap.size (fun k_ => some k_ ≠ (.slice Ao12 t104.length co12 : Value).ownBlock ∧ some k_ ≠ (.slice Ao17 t110.length co17 : Value).ownBlock ∧ some k_ ≠ (s_.2.2.1 : Value).ownBlock) s_.2.2.2.2.1 t127) ∧ (w'.heap[gb114]? = some (.cells #[.slice Ao15 t107.length co15, .slice Ao17 t110.length co17] 25 (0, 0))) ∧ (w'.heap[s_.2.2.2.2.2]? = some (.cells #[.slice none 0 0, .slice none 0 0] 25 (0, 0))) ∧ (w.heap.size ≤ s_.2.2.2.2.2) ∧ (w.heap.size ≤ s_.2.2.2.2.2) ∧ (gb114 ≠ s_.2.2.2.2.2) ∧ (s_.2.2.2.2.2 ≠ gb114) ∧ (Below w.heap.size w w')) ?_ ?_
        rotate_left
        · intro hCont
          refine two_ (i := 0) (j := 7) (Ni := some 13) (Nj := some 3) #[true, false, true, false, false, false, false, false, false, false] #[false, false, true, false, false, false, false, true, false, false] rfl rfl rfl rfl (two_of HT_.out (by kernel_rfl)) (by decide) (by decide) (fun K hK => ?_) (fun K hK => ?_)
          · skip
            refine Kd.R_lit_step (Kd.int .i64) _ 3 ?hg (N := 13) ?hd (xs := ([2, 3] : List Int)) (inner := [.int .i64 2, .int .i64 3]) (ok := fun _ => True) (okp := fun _ => True) ?hr ?hp (fun _ hk => hk) trivial (Below.refl _ _) (Nat.le_refl _) (by simp) ?_; (case hd => rfl); (case hg => rfl); (case hr => first | (go_simp; done) | (go_simp; rfl)); (case hp => exact (Reps.one (show Kd.M (Kd.int .i64) _ _ _ 2 [.int .i64 2] from rfl) (Reps.one (show Kd.M (Kd.int .i64) _ _ _ 3 [.int .i64 3] from rfl) (Reps.none _ _))))
            intro v116 w20 ho21 hb hg_ hnew_
            clear hg_ hnew_
            (first | rw [← Ny115.out] at ho21 | (simp only [Int.reduceToNat] at ho21; rw [← Ny115.out] at ho21))
            replace HO106 := Aside0.mk (Kd.R_below (Pr_ HO106.out) hb)
            replace HO112 := Aside0.mk (Kd.R_below (Pr_ HO112.out) hb)
            have HO117 := Aside0.mk (Kd.R_lower (Kd.R_new' (Kd.R_new' ho21 (Kd.R_lt (Pr_ HO103.out))) (Kd.R_lt (Pr_ HO109.out))) Bz_)
            replace HO103 := Aside0.mk (Kd.R_elder' (Pr_ HO103.out) (Kd.R_base ho21) hb)
            replace HO109 := Aside0.mk (Kd.R_elder' (Pr_ HO109.out) (Kd.R_base ho21) hb)
            replace BK114 := kb_ BK114 hb
            replace HB := Bs_ hb
            clear hb ho21
            obtain ⟨Ao22, co22, eo22⟩ := Kd.R_slice HO117.out
            (first | subst eo22 | (injection eo22 with f1_ f2_ f3_; have f4_ := f1_.symm; have f5_ := f3_.symm; clear f1_ f2_ f3_; subst f4_; subst f5_))
            refine hK.out _ _ ⟨(blk_cell BK114.out 0).trans rfl, (blk_cell BK114.out 1).trans rfl⟩ (fun hHeld => ?_)
            clear hK K
            refine norm_ (a' := ?_) ?_ ?_
            rotate_left
            · show Act.put _ (some 13) _ = _
              simp only [Act.put, List.setIfInBounds_toArray, List.set_cons_zero, List.set_cons_succ, i64_w, i32_w]
              rfl
            refine two_ (i := 1) (j := 7) (Ni := some 14) (Nj := some 3) #[true, true, true, false, false, false, false, false, false, false] #[true, false, true, false, false, false, false, true, false, false] rfl rfl rfl rfl (two_of HT_.out (by kernel_rfl)) (by decide) (by decide) (fun K hK => ?_) (fun K hK => ?_)
            · skip
              refine goes_ Tryd.func49 (by kernel_rfl) rfl #[.slice Ao22 y115.length co22] (by rfl) rfl rfl Ga_ ?_
              with_reducible refine (val_Ints.calls k _ _ y115 t118 t121 _ ?side1 ?side2 A3.out ?side3).mono ?_
              (case side1 => exact Pc_ ((Kd.R_reads' HO117.out).2.2))
              (case side2 => exact (Kd.R_reads' HO117.out).2.1)
              (case side3 => first | exact hG | exact Glob.below hG Bl_)
              rintro e w23 ⟨v119, v122, rfl, ho0, ho1, hb⟩
              refine ⟨_, rfl, ?_⟩
              have HO120 := Aside0.mk (Kd.R_lower (Kd.R_new' (Kd.R_new' (Kd.R_new' ho0 (Kd.R_lt (Pr_ HO103.out))) (Kd.R_lt (Pr_ HO109.out))) (Kd.R_lt (Pr_ HO117.out))) Bz_)
              replace HO103 := Aside0.mk (Kd.R_elder' (Pr_ HO103.out) (Kd.R_base ho0) hb)
              replace HO109 := Aside0.mk (Kd.R_elder' (Pr_ HO109.out) (Kd.R_base ho0) hb)
              replace HO117 := Aside0.mk (Kd.R_elder' (Pr_ HO117.out) (Kd.R_base ho0) hb)
              have HO123 := Aside0.mk (Kd.R_lower (Kd.R_new' (Kd.R_new' ho1 (Kd.R_lt (Pr_ HO106.out))) (Kd.R_lt (Pr_ HO112.out))) Bz_)
              replace HO106 := Aside0.mk (Kd.R_elder' (Pr_ HO106.out) (Kd.R_base ho1) hb)
              replace HO112 := Aside0.mk (Kd.R_elder' (Pr_ HO112.out) (Kd.R_base ho1) hb)
              replace BK114 := kb_ BK114 hb
              replace HB := Bs_ hb
              (try clear hb)
              (try clear hb2)
              (try clear hk)
              (try clear hi)
              (try clear ho0)
              (try clear ho1)
              obtain ⟨Ao24, co24, eo24⟩ := Kd.R_slice HO120.out
              (first | subst eo24 | (injection eo24 with f1_ f2_ f3_; have f4_ := f1_.symm; have f5_ := f3_.symm; clear f1_ f2_ f3_; subst f4_; subst f5_))
              obtain ⟨Ao25, co25, eo25⟩ := Kd.R_slice HO123.out
              (first | subst eo25 | (injection eo25 with f1_ f2_ f3_; have f4_ := f1_.symm; have f5_ := f3_.symm; clear f1_ f2_ f3_; subst f4_; subst f5_))
              refine hK.out _ _ ⟨(blk_cell BK114.out 0).trans rfl, (blk_cell BK114.out 1).trans rfl⟩ (fun hHeld => ?_)
              clear hK K
              refine norm_ (a' := ?_) ?_ ?_
              rotate_left
              · show Act.put _ (some 14) _ = _
                simp only [Act.put, List.setIfInBounds_toArray, List.set_cons_zero, List.set_cons_succ, i64_w, i32_w]
                rfl
              refine two_ (i := 3) (j := 7) (Ni := some 16) (Nj := some 3) #[true, true, true, true, false, false, false, false, false, false] #[true, true, true, false, false, false, false, true, false, false] rfl rfl rfl rfl (two_of HT_.out (by kernel_rfl)) (by decide) (by decide) (fun K hK => ?_) (fun K hK => ?_)
              · skip
                refine goes_ Tryd.func30 (by kernel_rfl) rfl #[.agg #[.slice Ao24 t118.length co24, .slice Ao25 t121.length co25], .agg #[.slice Ao15 t107.length co15, .slice Ao17 t110.length co17]] (by rfl) rfl rfl Ga_ ?_
                with_reducible refine (mould_Reshape.calls k (fun k_ => some k_ = (.slice Ao24 t118.length co24 : Value).ownBlock) _ _ t118 (fun k_ => some k_ = (.slice Ao25 t121.length co25 : Value).ownBlock) _ _ t121 (fun k_ => some k_ = (.slice Ao15 t107.length co15 : Value).ownBlock) _ _ t107 (fun k_ => some k_ = (.slice Ao17 t110.length co17 : Value).ownBlock) _ _ t110 t124 t127 t130 _ ?side1 ?side2 ?side3 ?side4 A4.out ?side5).mono ?_
                (case side1 => exact Kd.R_V (Kd.R_tight rfl (Kd.R_types (Kd.R_apart' (Kd.R_apart' (Kd.R_apart' (HO120.out) (Kd.R_typed HO106.out) (by decide)) (Kd.R_typed HO112.out) (by decide)) (Kd.R_typed HO123.out) (by decide)) BK114.out (by decide))))
                (case side2 => exact Kd.R_V (Kd.R_tight rfl (Kd.R_types (Kd.R_apart' (Kd.R_apart' (Kd.R_apart' (Kd.R_apart' (HO123.out) (Kd.R_typed HO103.out) (by decide)) (Kd.R_typed HO109.out) (by decide)) (Kd.R_typed HO117.out) (by decide)) (Kd.R_typed HO120.out) (by decide)) BK114.out (by decide))))
                (case side3 => exact Kd.R_V (Kd.R_tight rfl (Kd.R_types (Kd.R_apart' (Kd.R_apart' (Kd.R_apart' (HO109.out) (Kd.R_typed HO106.out) (by decide)) (Kd.R_typed HO112.out) (by decide)) (Kd.R_typed HO123.out) (by decide)) BK114.out (by decide))))
                (case side4 => exact Kd.R_V (Kd.R_tight rfl (Kd.R_types (Kd.R_apart' (Kd.R_apart' (Kd.R_apart' (Kd.R_apart' (HO112.out) (Kd.R_typed HO103.out) (by decide)) (Kd.R_typed HO109.out) (by decide)) (Kd.R_typed HO117.out) (by decide)) (Kd.R_typed HO120.out) (by decide)) BK114.out (by decide))))
                (case side5 => first | exact hG | exact Glob.below hG Bl_)
                rintro e w26 ⟨v125, v128, rfl, ho0, ho1, hb⟩
                refine ⟨_, rfl, ?_⟩
                have HO126 := Aside0.mk (Kd.R_lower (Kd.R_new' (Kd.R_new' (Kd.R_new' (Kd.R_new' (Kd.R_mono (ok' := fun k_ => True) ho0 (fun _ hk_ => trivial)) (Kd.R_lt (Pr_ HO103.out))) (Kd.R_lt (Pr_ HO109.out))) (Kd.R_lt (Pr_ HO117.out))) (Kd.R_lt (Pr_ HO120.out))) Bz_)
                replace HO103 := Aside0.mk (Kd.R_elder' (Pr_ HO103.out) (Kd.R_base ho0) hb)
                replace HO109 := Aside0.mk (Kd.R_elder' (Pr_ HO109.out) (Kd.R_base ho0) hb)
                replace HO117 := Aside0.mk (Kd.R_elder' (Pr_ HO117.out) (Kd.R_base ho0) hb)
                replace HO120 := Aside0.mk (Kd.R_elder' (Pr_ HO120.out) (Kd.R_base ho0) hb)
                have HO129 := Aside0.mk (Kd.R_lower (Kd.R_new' (Kd.R_new' (Kd.R_new' (Kd.R_mono (ok' := fun k_ => True) ho1 (fun _ hk_ => trivial)) (Kd.R_lt (Pr_ HO106.out))) (Kd.R_lt (Pr_ HO112.out))) (Kd.R_lt (Pr_ HO123.out))) Bz_)
                replace HO106 := Aside0.mk (Kd.R_elder' (Pr_ HO106.out) (Kd.R_base ho1) hb)
                replace HO112 := Aside0.mk (Kd.R_elder' (Pr_ HO112.out) (Kd.R_base ho1) hb)
                replace HO123 := Aside0.mk (Kd.R_elder' (Pr_ HO123.out) (Kd.R_base ho1) hb)
                replace BK114 := kb_ BK114 hb
                replace HB := Bs_ hb
                (try clear hb)
                (try clear hb2)
                (try clear hk)
                (try clear hi)
                (try clear ho0)
                (try clear ho1)
                refine hK.out _ _ ⟨(blk_cell BK114.out 0).trans rfl, (blk_cell BK114.out 1).trans rfl⟩ (fun hHeld => ?_)
                clear hK K
                refine norm_ (a' := ?_) ?_ ?_
                rotate_left
                · show Act.put _ (some 16) _ = _
                  simp only [Act.put, List.setIfInBounds_toArray, List.set_cons_zero, List.set_cons_succ, i64_w, i32_w]
                  rfl
                refine pu_ 4 (some 12) HT_ #[true, true, true, true, true, false, false, false, false, false] ?_
                refine pu_ 5 (some 17) HT_ #[true, true, true, true, true, true, false, false, false, false] ?_
                refine pu_ 6 (some 18) HT_ #[true, true, true, true, true, true, true, false, false, false] ?_
                refine one_ (i := 7) (N := some 3) #[true, true, true, true, true, true, true, true, false, false] rfl rfl (one_of HT_.out (by kernel_rfl)) (by decide) (fun K hK => ?_)
                refine box_step ?hg (N := 3) ?hd (cs := #[.slice none 0 0, .slice none 0 0]) (t := 25) ?hr ?_; (case hd => rfl); (case hg => rfl); (case hr => first | (go_simp; done) | (go_simp; rfl))
                intro gb131 hg w27 hbox hb
                replace HO103 := Aside0.mk (Kd.R_below (Pr_ HO103.out) hb)
                replace HO106 := Aside0.mk (Kd.R_below (Pr_ HO106.out) hb)
                replace HO109 := Aside0.mk (Kd.R_below (Pr_ HO109.out) hb)
                replace HO112 := Aside0.mk (Kd.R_below (Pr_ HO112.out) hb)
                replace HO117 := Aside0.mk (Kd.R_below (Pr_ HO117.out) hb)
                replace HO120 := Aside0.mk (Kd.R_below (Pr_ HO120.out) hb)
                replace HO123 := Aside0.mk (Kd.R_below (Pr_ HO123.out) hb)
                replace HO126 := Aside0.mk (Kd.R_below (Pr_ HO126.out) hb)
                replace HO129 := Aside0.mk (Kd.R_below (Pr_ HO129.out) hb)
                have BK131 := Aside0.mk (hbox)
                have GW131 := (Bg_ hg : Aside0 (w.heap.size ≤ gb131))
                have GE131 := (Bg_ hg : Aside0 (w.heap.size ≤ gb131))
                replace HB := Bs_ hb
                have NB114_131 := nl_ hg BK114
                have NB131_114 := ng_ hg BK114
                replace BK114 := kb_ BK114 hb
                clear hb hbox hg
                refine hK.out _ _ ⟨(blk_cell BK114.out 0).trans rfl, (blk_cell BK114.out 1).trans rfl⟩ (fun hHeld => ?_)
                clear hK K
                refine norm_ (a' := ?_) ?_ ?_
                rotate_left
                · show Act.put _ (some 3) _ = _
                  simp only [Act.put, List.setIfInBounds_toArray, List.set_cons_zero, List.set_cons_succ, i64_w, i32_w]
                  rfl
                exact norm_ (by simp only [putAll, Act.put, List.setIfInBounds_toArray, List.set_cons_zero, List.set_cons_succ]) (hCont (.slice Ao22 y115.length co22, .slice Ao24 t118.length co24, .slice Ao25 t121.length co25, v125, v128, gb131) _ ⟨hHeld, (by (with_reducible repeat (first | apply Kd.R_alloc | apply Kd.R_drewN | apply Kd.R_drew)); exact Kd.R_mono HO103.out (fun _ hk => ⟨hk.1.1.1, ⟨hk.1.1.2, ⟨hk.1.2, hk.2⟩⟩⟩)), (by (with_reducible repeat (first | apply Kd.R_alloc | apply Kd.R_drewN | apply Kd.R_drew)); exact Kd.R_mono HO106.out (fun _ hk => ⟨hk.1.1, ⟨hk.1.2, hk.2⟩⟩)), (by (with_reducible repeat (first | apply Kd.R_alloc | apply Kd.R_drewN | apply Kd.R_drew)); exact Kd.R_mono HO109.out (fun _ hk => ⟨hk.1.1.1, ⟨hk.1.1.2, ⟨hk.1.2, hk.2⟩⟩⟩)), (by (with_reducible repeat (first | apply Kd.R_alloc | apply Kd.R_drewN | apply Kd.R_drew)); exact Kd.R_mono HO112.out (fun _ hk => ⟨hk.1.1, ⟨hk.1.2, hk.2⟩⟩)), (by (with_reducible repeat (first | apply Kd.R_alloc | apply Kd.R_drewN | apply Kd.R_drew)); exact Kd.R_mono HO117.out (fun _ hk => ⟨hk.1.1.1.2, ⟨hk.1.1.2, ⟨hk.1.2, hk.2⟩⟩⟩)), (by (with_reducible repeat (first | apply Kd.R_alloc | apply Kd.R_drewN | apply Kd.R_drew)); exact Kd.R_mono HO120.out (fun _ hk => ⟨hk.1.1.1.2, ⟨hk.1.1.2, ⟨hk.1.2, hk.2⟩⟩⟩)), (by (with_reducible repeat (first | apply Kd.R_alloc | apply Kd.R_drewN | apply Kd.R_drew)); exact Kd.R_mono HO123.out (fun _ hk => ⟨hk.1.1.2, ⟨hk.1.2, hk.2⟩⟩)), (by (with_reducible repeat (first | apply Kd.R_alloc | apply Kd.R_drewN | apply Kd.R_drew)); exact Kd.R_mono HO126.out (fun _ hk => ⟨hk.1.1.1.2, ⟨hk.1.1.2, ⟨hk.1.2, hk.2⟩⟩⟩)), (by (with_reducible repeat (first | apply Kd.R_alloc | apply Kd.R_drewN | apply Kd.R_drew)); exact Kd.R_mono HO129.out (fun _ hk => ⟨hk.1.1.2, ⟨hk.1.2, hk.2⟩⟩)), (Bk_ BK114.out), (Bk_ BK131.out), GW131.out, GE131.out, NB114_131.out, NB131_114.out, Bl_⟩)
              · skip
                refine box_step ?hg (N := 3) ?hd (cs := #[.slice none 0 0, .slice none 0 0]) (t := 25) ?hr ?_; (case hd => rfl); (case hg => rfl); (case hr => first | (go_simp; done) | (go_simp; rfl))
                intro gb131 hg w24 hbox hb
                replace HO103 := Aside0.mk (Kd.R_below (Pr_ HO103.out) hb)
                replace HO106 := Aside0.mk (Kd.R_below (Pr_ HO106.out) hb)
                replace HO109 := Aside0.mk (Kd.R_below (Pr_ HO109.out) hb)
                replace HO112 := Aside0.mk (Kd.R_below (Pr_ HO112.out) hb)
                replace HO117 := Aside0.mk (Kd.R_below (Pr_ HO117.out) hb)
                replace HO120 := Aside0.mk (Kd.R_below (Pr_ HO120.out) hb)
                replace HO123 := Aside0.mk (Kd.R_below (Pr_ HO123.out) hb)
                have BK131 := Aside0.mk (hbox)
                have GW131 := (Bg_ hg : Aside0 (w.heap.size ≤ gb131))
                have GE131 := (Bg_ hg : Aside0 (w.heap.size ≤ gb131))
                replace HB := Bs_ hb
                have NB114_131 := nl_ hg BK114
                have NB131_114 := ng_ hg BK114
                replace BK114 := kb_ BK114 hb
                clear hb hbox hg
                obtain ⟨Ao25, co25, eo25⟩ := Kd.R_slice HO120.out
                (first | subst eo25 | (injection eo25 with f1_ f2_ f3_; have f4_ := f1_.symm; have f5_ := f3_.symm; clear f1_ f2_ f3_; subst f4_; subst f5_))
                obtain ⟨Ao26, co26, eo26⟩ := Kd.R_slice HO123.out
                (first | subst eo26 | (injection eo26 with f1_ f2_ f3_; have f4_ := f1_.symm; have f5_ := f3_.symm; clear f1_ f2_ f3_; subst f4_; subst f5_))
                refine hK.out _ _ ⟨(blk_cell BK114.out 0).trans rfl, (blk_cell BK114.out 1).trans rfl⟩ (fun hHeld => ?_)
                clear hK K
                refine norm_ (a' := ?_) ?_ ?_
                rotate_left
                · show Act.put _ (some 3) _ = _
                  simp only [Act.put, List.setIfInBounds_toArray, List.set_cons_zero, List.set_cons_succ, i64_w, i32_w]
                  rfl
                refine one_ (i := 3) (N := some 16) #[true, true, true, true, false, false, false, true, false, false] rfl rfl (one_of HT_.out (by kernel_rfl)) (by decide) (fun K hK => ?_)
                refine goes_ Tryd.func30 (by kernel_rfl) rfl #[.agg #[.slice Ao25 t118.length co25, .slice Ao26 t121.length co26], .agg #[.slice Ao15 t107.length co15, .slice Ao17 t110.length co17]] (by rfl) rfl rfl Ga_ ?_
                with_reducible refine (mould_Reshape.calls k (fun k_ => some k_ = (.slice Ao25 t118.length co25 : Value).ownBlock) _ _ t118 (fun k_ => some k_ = (.slice Ao26 t121.length co26 : Value).ownBlock) _ _ t121 (fun k_ => some k_ = (.slice Ao15 t107.length co15 : Value).ownBlock) _ _ t107 (fun k_ => some k_ = (.slice Ao17 t110.length co17 : Value).ownBlock) _ _ t110 t124 t127 t130 _ ?side1 ?side2 ?side3 ?side4 A4.out ?side5).mono ?_
                (case side1 => exact Kd.R_V (Kd.R_tight rfl (Kd.R_types (Kd.R_types (Kd.R_apart' (Kd.R_apart' (Kd.R_apart' (HO120.out) (Kd.R_typed HO106.out) (by decide)) (Kd.R_typed HO112.out) (by decide)) (Kd.R_typed HO123.out) (by decide)) BK114.out (by decide)) BK131.out (by decide))))
                (case side2 => exact Kd.R_V (Kd.R_tight rfl (Kd.R_types (Kd.R_types (Kd.R_apart' (Kd.R_apart' (Kd.R_apart' (Kd.R_apart' (HO123.out) (Kd.R_typed HO103.out) (by decide)) (Kd.R_typed HO109.out) (by decide)) (Kd.R_typed HO117.out) (by decide)) (Kd.R_typed HO120.out) (by decide)) BK114.out (by decide)) BK131.out (by decide))))
                (case side3 => exact Kd.R_V (Kd.R_tight rfl (Kd.R_types (Kd.R_types (Kd.R_apart' (Kd.R_apart' (Kd.R_apart' (HO109.out) (Kd.R_typed HO106.out) (by decide)) (Kd.R_typed HO112.out) (by decide)) (Kd.R_typed HO123.out) (by decide)) BK114.out (by decide)) BK131.out (by decide))))
                (case side4 => exact Kd.R_V (Kd.R_tight rfl (Kd.R_types (Kd.R_types (Kd.R_apart' (Kd.R_apart' (Kd.R_apart' (Kd.R_apart' (HO112.out) (Kd.R_typed HO103.out) (by decide)) (Kd.R_typed HO109.out) (by decide)) (Kd.R_typed HO117.out) (by decide)) (Kd.R_typed HO120.out) (by decide)) BK114.out (by decide)) BK131.out (by decide))))
                (case side5 => first | exact hG | exact Glob.below hG Bl_)
                rintro e w27 ⟨v125, v128, rfl, ho0, ho1, hb⟩
                refine ⟨_, rfl, ?_⟩
                have HO126 := Aside0.mk (Kd.R_lower (Kd.R_new' (Kd.R_new' (Kd.R_new' (Kd.R_new' (Kd.R_mono (ok' := fun k_ => True) ho0 (fun _ hk_ => trivial)) (Kd.R_lt (Pr_ HO103.out))) (Kd.R_lt (Pr_ HO109.out))) (Kd.R_lt (Pr_ HO117.out))) (Kd.R_lt (Pr_ HO120.out))) Bz_)
                replace HO103 := Aside0.mk (Kd.R_elder' (Pr_ HO103.out) (Kd.R_base ho0) hb)
                replace HO109 := Aside0.mk (Kd.R_elder' (Pr_ HO109.out) (Kd.R_base ho0) hb)
                replace HO117 := Aside0.mk (Kd.R_elder' (Pr_ HO117.out) (Kd.R_base ho0) hb)
                replace HO120 := Aside0.mk (Kd.R_elder' (Pr_ HO120.out) (Kd.R_base ho0) hb)
                have HO129 := Aside0.mk (Kd.R_lower (Kd.R_new' (Kd.R_new' (Kd.R_new' (Kd.R_mono (ok' := fun k_ => True) ho1 (fun _ hk_ => trivial)) (Kd.R_lt (Pr_ HO106.out))) (Kd.R_lt (Pr_ HO112.out))) (Kd.R_lt (Pr_ HO123.out))) Bz_)
                replace HO106 := Aside0.mk (Kd.R_elder' (Pr_ HO106.out) (Kd.R_base ho1) hb)
                replace HO112 := Aside0.mk (Kd.R_elder' (Pr_ HO112.out) (Kd.R_base ho1) hb)
                replace HO123 := Aside0.mk (Kd.R_elder' (Pr_ HO123.out) (Kd.R_base ho1) hb)
                replace BK114 := kb_ BK114 hb
                replace BK131 := kb_ BK131 hb
                replace HB := Bs_ hb
                (try clear hb)
                (try clear hb2)
                (try clear hk)
                (try clear hi)
                (try clear ho0)
                (try clear ho1)
                refine hK.out _ _ ⟨(blk_cell BK114.out 0).trans rfl, (blk_cell BK114.out 1).trans rfl⟩ (fun hHeld => ?_)
                clear hK K
                refine norm_ (a' := ?_) ?_ ?_
                rotate_left
                · show Act.put _ (some 16) _ = _
                  simp only [Act.put, List.setIfInBounds_toArray, List.set_cons_zero, List.set_cons_succ, i64_w, i32_w]
                  rfl
                refine pu_ 4 (some 12) HT_ #[true, true, true, true, true, false, false, true, false, false] ?_
                refine pu_ 5 (some 17) HT_ #[true, true, true, true, true, true, false, true, false, false] ?_
                refine pu_ 6 (some 18) HT_ #[true, true, true, true, true, true, true, true, false, false] ?_
                exact norm_ (by simp only [putAll, Act.put, List.setIfInBounds_toArray, List.set_cons_zero, List.set_cons_succ]) (hCont (.slice Ao22 y115.length co22, .slice Ao25 t118.length co25, .slice Ao26 t121.length co26, v125, v128, gb131) _ ⟨hHeld, (by (with_reducible repeat (first | apply Kd.R_alloc | apply Kd.R_drewN | apply Kd.R_drew)); exact Kd.R_mono HO103.out (fun _ hk => ⟨hk.1.1.1, ⟨hk.1.1.2, ⟨hk.1.2, hk.2⟩⟩⟩)), (by (with_reducible repeat (first | apply Kd.R_alloc | apply Kd.R_drewN | apply Kd.R_drew)); exact Kd.R_mono HO106.out (fun _ hk => ⟨hk.1.1, ⟨hk.1.2, hk.2⟩⟩)), (by (with_reducible repeat (first | apply Kd.R_alloc | apply Kd.R_drewN | apply Kd.R_drew)); exact Kd.R_mono HO109.out (fun _ hk => ⟨hk.1.1.1, ⟨hk.1.1.2, ⟨hk.1.2, hk.2⟩⟩⟩)), (by (with_reducible repeat (first | apply Kd.R_alloc | apply Kd.R_drewN | apply Kd.R_drew)); exact Kd.R_mono HO112.out (fun _ hk => ⟨hk.1.1, ⟨hk.1.2, hk.2⟩⟩)), (by (with_reducible repeat (first | apply Kd.R_alloc | apply Kd.R_drewN | apply Kd.R_drew)); exact Kd.R_mono HO117.out (fun _ hk => ⟨hk.1.1.1.2, ⟨hk.1.1.2, ⟨hk.1.2, hk.2⟩⟩⟩)), (by (with_reducible repeat (first | apply Kd.R_alloc | apply Kd.R_drewN | apply Kd.R_drew)); exact Kd.R_mono HO120.out (fun _ hk => ⟨hk.1.1.1.2, ⟨hk.1.1.2, ⟨hk.1.2, hk.2⟩⟩⟩)), (by (with_reducible repeat (first | apply Kd.R_alloc | apply Kd.R_drewN | apply Kd.R_drew)); exact Kd.R_mono HO123.out (fun _ hk => ⟨hk.1.1.2, ⟨hk.1.2, hk.2⟩⟩)), (by (with_reducible repeat (first | apply Kd.R_alloc | apply Kd.R_drewN | apply Kd.R_drew)); exact Kd.R_mono HO126.out (fun _ hk => ⟨hk.1.1.1.2, ⟨hk.1.1.2, ⟨hk.1.2, hk.2⟩⟩⟩)), (by (with_reducible repeat (first | apply Kd.R_alloc | apply Kd.R_drewN | apply Kd.R_drew)); exact Kd.R_mono HO129.out (fun _ hk => ⟨hk.1.1.2, ⟨hk.1.2, hk.2⟩⟩)), (Bk_ BK114.out), (Bk_ BK131.out), GW131.out, GE131.out, NB114_131.out, NB131_114.out, Bl_⟩)
            · skip
              refine box_step ?hg (N := 3) ?hd (cs := #[.slice none 0 0, .slice none 0 0]) (t := 25) ?hr ?_; (case hd => rfl); (case hg => rfl); (case hr => first | (go_simp; done) | (go_simp; rfl))
              intro gb131 hg w22 hbox hb
              replace HO103 := Aside0.mk (Kd.R_below (Pr_ HO103.out) hb)
              replace HO106 := Aside0.mk (Kd.R_below (Pr_ HO106.out) hb)
              replace HO109 := Aside0.mk (Kd.R_below (Pr_ HO109.out) hb)
              replace HO112 := Aside0.mk (Kd.R_below (Pr_ HO112.out) hb)
              replace HO117 := Aside0.mk (Kd.R_below (Pr_ HO117.out) hb)
              have BK131 := Aside0.mk (hbox)
              have GW131 := (Bg_ hg : Aside0 (w.heap.size ≤ gb131))
              have GE131 := (Bg_ hg : Aside0 (w.heap.size ≤ gb131))
              replace HB := Bs_ hb
              have NB114_131 := nl_ hg BK114
              have NB131_114 := ng_ hg BK114
              replace BK114 := kb_ BK114 hb
              clear hb hbox hg
              obtain ⟨Ao23, co23, eo23⟩ := Kd.R_slice HO117.out
              (first | subst eo23 | (injection eo23 with f1_ f2_ f3_; have f4_ := f1_.symm; have f5_ := f3_.symm; clear f1_ f2_ f3_; subst f4_; subst f5_))
              refine hK.out _ _ ⟨(blk_cell BK114.out 0).trans rfl, (blk_cell BK114.out 1).trans rfl⟩ (fun hHeld => ?_)
              clear hK K
              refine norm_ (a' := ?_) ?_ ?_
              rotate_left
              · show Act.put _ (some 3) _ = _
                simp only [Act.put, List.setIfInBounds_toArray, List.set_cons_zero, List.set_cons_succ, i64_w, i32_w]
                rfl
              refine one_ (i := 1) (N := some 14) #[true, true, true, false, false, false, false, true, false, false] rfl rfl (one_of HT_.out (by kernel_rfl)) (by decide) (fun K hK => ?_)
              refine goes_ Tryd.func49 (by kernel_rfl) rfl #[.slice Ao23 y115.length co23] (by rfl) rfl rfl Ga_ ?_
              with_reducible refine (val_Ints.calls k _ _ y115 t118 t121 _ ?side1 ?side2 A3.out ?side3).mono ?_
              (case side1 => exact Pc_ ((Kd.R_reads' HO117.out).2.2))
              (case side2 => exact (Kd.R_reads' HO117.out).2.1)
              (case side3 => first | exact hG | exact Glob.below hG Bl_)
              rintro e w24 ⟨v119, v122, rfl, ho0, ho1, hb⟩
              refine ⟨_, rfl, ?_⟩
              have HO120 := Aside0.mk (Kd.R_lower (Kd.R_new' (Kd.R_new' (Kd.R_new' ho0 (Kd.R_lt (Pr_ HO103.out))) (Kd.R_lt (Pr_ HO109.out))) (Kd.R_lt (Pr_ HO117.out))) Bz_)
              replace HO103 := Aside0.mk (Kd.R_elder' (Pr_ HO103.out) (Kd.R_base ho0) hb)
              replace HO109 := Aside0.mk (Kd.R_elder' (Pr_ HO109.out) (Kd.R_base ho0) hb)
              replace HO117 := Aside0.mk (Kd.R_elder' (Pr_ HO117.out) (Kd.R_base ho0) hb)
              have HO123 := Aside0.mk (Kd.R_lower (Kd.R_new' (Kd.R_new' ho1 (Kd.R_lt (Pr_ HO106.out))) (Kd.R_lt (Pr_ HO112.out))) Bz_)
              replace HO106 := Aside0.mk (Kd.R_elder' (Pr_ HO106.out) (Kd.R_base ho1) hb)
              replace HO112 := Aside0.mk (Kd.R_elder' (Pr_ HO112.out) (Kd.R_base ho1) hb)
              replace BK114 := kb_ BK114 hb
              replace BK131 := kb_ BK131 hb
              replace HB := Bs_ hb
              (try clear hb)
              (try clear hb2)
              (try clear hk)
              (try clear hi)
              (try clear ho0)
              (try clear ho1)
              obtain ⟨Ao25, co25, eo25⟩ := Kd.R_slice HO120.out
              (first | subst eo25 | (injection eo25 with f1_ f2_ f3_; have f4_ := f1_.symm; have f5_ := f3_.symm; clear f1_ f2_ f3_; subst f4_; subst f5_))
              obtain ⟨Ao26, co26, eo26⟩ := Kd.R_slice HO123.out
              (first | subst eo26 | (injection eo26 with f1_ f2_ f3_; have f4_ := f1_.symm; have f5_ := f3_.symm; clear f1_ f2_ f3_; subst f4_; subst f5_))
              refine hK.out _ _ ⟨(blk_cell BK114.out 0).trans rfl, (blk_cell BK114.out 1).trans rfl⟩ (fun hHeld => ?_)
              clear hK K
              refine norm_ (a' := ?_) ?_ ?_
              rotate_left
              · show Act.put _ (some 14) _ = _
                simp only [Act.put, List.setIfInBounds_toArray, List.set_cons_zero, List.set_cons_succ, i64_w, i32_w]
                rfl
              refine one_ (i := 3) (N := some 16) #[true, true, true, true, false, false, false, true, false, false] rfl rfl (one_of HT_.out (by kernel_rfl)) (by decide) (fun K hK => ?_)
              refine goes_ Tryd.func30 (by kernel_rfl) rfl #[.agg #[.slice Ao25 t118.length co25, .slice Ao26 t121.length co26], .agg #[.slice Ao15 t107.length co15, .slice Ao17 t110.length co17]] (by rfl) rfl rfl Ga_ ?_
              with_reducible refine (mould_Reshape.calls k (fun k_ => some k_ = (.slice Ao25 t118.length co25 : Value).ownBlock) _ _ t118 (fun k_ => some k_ = (.slice Ao26 t121.length co26 : Value).ownBlock) _ _ t121 (fun k_ => some k_ = (.slice Ao15 t107.length co15 : Value).ownBlock) _ _ t107 (fun k_ => some k_ = (.slice Ao17 t110.length co17 : Value).ownBlock) _ _ t110 t124 t127 t130 _ ?side1 ?side2 ?side3 ?side4 A4.out ?side5).mono ?_
              (case side1 => exact Kd.R_V (Kd.R_tight rfl (Kd.R_types (Kd.R_types (Kd.R_apart' (Kd.R_apart' (Kd.R_apart' (HO120.out) (Kd.R_typed HO106.out) (by decide)) (Kd.R_typed HO112.out) (by decide)) (Kd.R_typed HO123.out) (by decide)) BK114.out (by decide)) BK131.out (by decide))))
              (case side2 => exact Kd.R_V (Kd.R_tight rfl (Kd.R_types (Kd.R_types (Kd.R_apart' (Kd.R_apart' (Kd.R_apart' (Kd.R_apart' (HO123.out) (Kd.R_typed HO103.out) (by decide)) (Kd.R_typed HO109.out) (by decide)) (Kd.R_typed HO117.out) (by decide)) (Kd.R_typed HO120.out) (by decide)) BK114.out (by decide)) BK131.out (by decide))))
              (case side3 => exact Kd.R_V (Kd.R_tight rfl (Kd.R_types (Kd.R_types (Kd.R_apart' (Kd.R_apart' (Kd.R_apart' (HO109.out) (Kd.R_typed HO106.out) (by decide)) (Kd.R_typed HO112.out) (by decide)) (Kd.R_typed HO123.out) (by decide)) BK114.out (by decide)) BK131.out (by decide))))
              (case side4 => exact Kd.R_V (Kd.R_tight rfl (Kd.R_types (Kd.R_types (Kd.R_apart' (Kd.R_apart' (Kd.R_apart' (Kd.R_apart' (HO112.out) (Kd.R_typed HO103.out) (by decide)) (Kd.R_typed HO109.out) (by decide)) (Kd.R_typed HO117.out) (by decide)) (Kd.R_typed HO120.out) (by decide)) BK114.out (by decide)) BK131.out (by decide))))
              (case side5 => first | exact hG | exact Glob.below hG Bl_)
              rintro e w27 ⟨v125, v128, rfl, ho0, ho1, hb⟩
              refine ⟨_, rfl, ?_⟩
              have HO126 := Aside0.mk (Kd.R_lower (Kd.R_new' (Kd.R_new' (Kd.R_new' (Kd.R_new' (Kd.R_mono (ok' := fun k_ => True) ho0 (fun _ hk_ => trivial)) (Kd.R_lt (Pr_ HO103.out))) (Kd.R_lt (Pr_ HO109.out))) (Kd.R_lt (Pr_ HO117.out))) (Kd.R_lt (Pr_ HO120.out))) Bz_)
              replace HO103 := Aside0.mk (Kd.R_elder' (Pr_ HO103.out) (Kd.R_base ho0) hb)
              replace HO109 := Aside0.mk (Kd.R_elder' (Pr_ HO109.out) (Kd.R_base ho0) hb)
              replace HO117 := Aside0.mk (Kd.R_elder' (Pr_ HO117.out) (Kd.R_base ho0) hb)
              replace HO120 := Aside0.mk (Kd.R_elder' (Pr_ HO120.out) (Kd.R_base ho0) hb)
              have HO129 := Aside0.mk (Kd.R_lower (Kd.R_new' (Kd.R_new' (Kd.R_new' (Kd.R_mono (ok' := fun k_ => True) ho1 (fun _ hk_ => trivial)) (Kd.R_lt (Pr_ HO106.out))) (Kd.R_lt (Pr_ HO112.out))) (Kd.R_lt (Pr_ HO123.out))) Bz_)
              replace HO106 := Aside0.mk (Kd.R_elder' (Pr_ HO106.out) (Kd.R_base ho1) hb)
              replace HO112 := Aside0.mk (Kd.R_elder' (Pr_ HO112.out) (Kd.R_base ho1) hb)
              replace HO123 := Aside0.mk (Kd.R_elder' (Pr_ HO123.out) (Kd.R_base ho1) hb)
              replace BK114 := kb_ BK114 hb
              replace BK131 := kb_ BK131 hb
              replace HB := Bs_ hb
              (try clear hb)
              (try clear hb2)
              (try clear hk)
              (try clear hi)
              (try clear ho0)
              (try clear ho1)
              refine hK.out _ _ ⟨(blk_cell BK114.out 0).trans rfl, (blk_cell BK114.out 1).trans rfl⟩ (fun hHeld => ?_)
              clear hK K
              refine norm_ (a' := ?_) ?_ ?_
              rotate_left
              · show Act.put _ (some 16) _ = _
                simp only [Act.put, List.setIfInBounds_toArray, List.set_cons_zero, List.set_cons_succ, i64_w, i32_w]
                rfl
              refine pu_ 4 (some 12) HT_ #[true, true, true, true, true, false, false, true, false, false] ?_
              refine pu_ 5 (some 17) HT_ #[true, true, true, true, true, true, false, true, false, false] ?_
              refine pu_ 6 (some 18) HT_ #[true, true, true, true, true, true, true, true, false, false] ?_
              exact norm_ (by simp only [putAll, Act.put, List.setIfInBounds_toArray, List.set_cons_zero, List.set_cons_succ]) (hCont (.slice Ao23 y115.length co23, .slice Ao25 t118.length co25, .slice Ao26 t121.length co26, v125, v128, gb131) _ ⟨hHeld, (by (with_reducible repeat (first | apply Kd.R_alloc | apply Kd.R_drewN | apply Kd.R_drew)); exact Kd.R_mono HO103.out (fun _ hk => ⟨hk.1.1.1, ⟨hk.1.1.2, ⟨hk.1.2, hk.2⟩⟩⟩)), (by (with_reducible repeat (first | apply Kd.R_alloc | apply Kd.R_drewN | apply Kd.R_drew)); exact Kd.R_mono HO106.out (fun _ hk => ⟨hk.1.1, ⟨hk.1.2, hk.2⟩⟩)), (by (with_reducible repeat (first | apply Kd.R_alloc | apply Kd.R_drewN | apply Kd.R_drew)); exact Kd.R_mono HO109.out (fun _ hk => ⟨hk.1.1.1, ⟨hk.1.1.2, ⟨hk.1.2, hk.2⟩⟩⟩)), (by (with_reducible repeat (first | apply Kd.R_alloc | apply Kd.R_drewN | apply Kd.R_drew)); exact Kd.R_mono HO112.out (fun _ hk => ⟨hk.1.1, ⟨hk.1.2, hk.2⟩⟩)), (by (with_reducible repeat (first | apply Kd.R_alloc | apply Kd.R_drewN | apply Kd.R_drew)); exact Kd.R_mono HO117.out (fun _ hk => ⟨hk.1.1.1.2, ⟨hk.1.1.2, ⟨hk.1.2, hk.2⟩⟩⟩)), (by (with_reducible repeat (first | apply Kd.R_alloc | apply Kd.R_drewN | apply Kd.R_drew)); exact Kd.R_mono HO120.out (fun _ hk => ⟨hk.1.1.1.2, ⟨hk.1.1.2, ⟨hk.1.2, hk.2⟩⟩⟩)), (by (with_reducible repeat (first | apply Kd.R_alloc | apply Kd.R_drewN | apply Kd.R_drew)); exact Kd.R_mono HO123.out (fun _ hk => ⟨hk.1.1.2, ⟨hk.1.2, hk.2⟩⟩)), (by (with_reducible repeat (first | apply Kd.R_alloc | apply Kd.R_drewN | apply Kd.R_drew)); exact Kd.R_mono HO126.out (fun _ hk => ⟨hk.1.1.1.2, ⟨hk.1.1.2, ⟨hk.1.2, hk.2⟩⟩⟩)), (by (with_reducible repeat (first | apply Kd.R_alloc | apply Kd.R_drewN | apply Kd.R_drew)); exact Kd.R_mono HO129.out (fun _ hk => ⟨hk.1.1.2, ⟨hk.1.2, hk.2⟩⟩)), (Bk_ BK114.out), (Bk_ BK131.out), GW131.out, GE131.out, NB114_131.out, NB131_114.out, Bl_⟩)
          · skip
            refine box_step ?hg (N := 3) ?hd (cs := #[.slice none 0 0, .slice none 0 0]) (t := 25) ?hr ?_; (case hd => rfl); (case hg => rfl); (case hr => first | (go_simp; done) | (go_simp; rfl))
            intro gb131 hg w20 hbox hb
            replace HO103 := Aside0.mk (Kd.R_below (Pr_ HO103.out) hb)
            replace HO106 := Aside0.mk (Kd.R_below (Pr_ HO106.out) hb)
            replace HO109 := Aside0.mk (Kd.R_below (Pr_ HO109.out) hb)
            replace HO112 := Aside0.mk (Kd.R_below (Pr_ HO112.out) hb)
            have BK131 := Aside0.mk (hbox)
            have GW131 := (Bg_ hg : Aside0 (w.heap.size ≤ gb131))
            have GE131 := (Bg_ hg : Aside0 (w.heap.size ≤ gb131))
            replace HB := Bs_ hb
            have NB114_131 := nl_ hg BK114
            have NB131_114 := ng_ hg BK114
            replace BK114 := kb_ BK114 hb
            clear hb hbox hg
            refine hK.out _ _ ⟨(blk_cell BK114.out 0).trans rfl, (blk_cell BK114.out 1).trans rfl⟩ (fun hHeld => ?_)
            clear hK K
            refine norm_ (a' := ?_) ?_ ?_
            rotate_left
            · show Act.put _ (some 3) _ = _
              simp only [Act.put, List.setIfInBounds_toArray, List.set_cons_zero, List.set_cons_succ, i64_w, i32_w]
              rfl
            refine one_ (i := 0) (N := some 13) #[true, false, true, false, false, false, false, true, false, false] rfl rfl (one_of HT_.out (by kernel_rfl)) (by decide) (fun K hK => ?_)
            refine Kd.R_lit_step (Kd.int .i64) _ 3 ?hg (N := 13) ?hd (xs := ([2, 3] : List Int)) (inner := [.int .i64 2, .int .i64 3]) (ok := fun _ => True) (okp := fun _ => True) ?hr ?hp (fun _ hk => hk) trivial (Below.refl _ _) (Nat.le_refl _) (by simp) ?_; (case hd => rfl); (case hg => rfl); (case hr => first | (go_simp; done) | (go_simp; rfl)); (case hp => exact (Reps.one (show Kd.M (Kd.int .i64) _ _ _ 2 [.int .i64 2] from rfl) (Reps.one (show Kd.M (Kd.int .i64) _ _ _ 3 [.int .i64 3] from rfl) (Reps.none _ _))))
            intro v116 w21 ho22 hb hg_ hnew_
            clear hg_ hnew_
            (first | rw [← Ny115.out] at ho22 | (simp only [Int.reduceToNat] at ho22; rw [← Ny115.out] at ho22))
            replace HO106 := Aside0.mk (Kd.R_below (Pr_ HO106.out) hb)
            replace HO112 := Aside0.mk (Kd.R_below (Pr_ HO112.out) hb)
            have HO117 := Aside0.mk (Kd.R_lower (Kd.R_new' (Kd.R_new' ho22 (Kd.R_lt (Pr_ HO103.out))) (Kd.R_lt (Pr_ HO109.out))) Bz_)
            replace HO103 := Aside0.mk (Kd.R_elder' (Pr_ HO103.out) (Kd.R_base ho22) hb)
            replace HO109 := Aside0.mk (Kd.R_elder' (Pr_ HO109.out) (Kd.R_base ho22) hb)
            replace BK114 := kb_ BK114 hb
            replace BK131 := kb_ BK131 hb
            replace HB := Bs_ hb
            clear hb ho22
            obtain ⟨Ao23, co23, eo23⟩ := Kd.R_slice HO117.out
            (first | subst eo23 | (injection eo23 with f1_ f2_ f3_; have f4_ := f1_.symm; have f5_ := f3_.symm; clear f1_ f2_ f3_; subst f4_; subst f5_))
            refine hK.out _ _ ⟨(blk_cell BK114.out 0).trans rfl, (blk_cell BK114.out 1).trans rfl⟩ (fun hHeld => ?_)
            clear hK K
            refine norm_ (a' := ?_) ?_ ?_
            rotate_left
            · show Act.put _ (some 13) _ = _
              simp only [Act.put, List.setIfInBounds_toArray, List.set_cons_zero, List.set_cons_succ, i64_w, i32_w]
              rfl
            refine one_ (i := 1) (N := some 14) #[true, true, true, false, false, false, false, true, false, false] rfl rfl (one_of HT_.out (by kernel_rfl)) (by decide) (fun K hK => ?_)
            refine goes_ Tryd.func49 (by kernel_rfl) rfl #[.slice Ao23 y115.length co23] (by rfl) rfl rfl Ga_ ?_
            with_reducible refine (val_Ints.calls k _ _ y115 t118 t121 _ ?side1 ?side2 A3.out ?side3).mono ?_
            (case side1 => exact Pc_ ((Kd.R_reads' HO117.out).2.2))
            (case side2 => exact (Kd.R_reads' HO117.out).2.1)
            (case side3 => first | exact hG | exact Glob.below hG Bl_)
            rintro e w24 ⟨v119, v122, rfl, ho0, ho1, hb⟩
            refine ⟨_, rfl, ?_⟩
            have HO120 := Aside0.mk (Kd.R_lower (Kd.R_new' (Kd.R_new' (Kd.R_new' ho0 (Kd.R_lt (Pr_ HO103.out))) (Kd.R_lt (Pr_ HO109.out))) (Kd.R_lt (Pr_ HO117.out))) Bz_)
            replace HO103 := Aside0.mk (Kd.R_elder' (Pr_ HO103.out) (Kd.R_base ho0) hb)
            replace HO109 := Aside0.mk (Kd.R_elder' (Pr_ HO109.out) (Kd.R_base ho0) hb)
            replace HO117 := Aside0.mk (Kd.R_elder' (Pr_ HO117.out) (Kd.R_base ho0) hb)
            have HO123 := Aside0.mk (Kd.R_lower (Kd.R_new' (Kd.R_new' ho1 (Kd.R_lt (Pr_ HO106.out))) (Kd.R_lt (Pr_ HO112.out))) Bz_)
            replace HO106 := Aside0.mk (Kd.R_elder' (Pr_ HO106.out) (Kd.R_base ho1) hb)
            replace HO112 := Aside0.mk (Kd.R_elder' (Pr_ HO112.out) (Kd.R_base ho1) hb)
            replace BK114 := kb_ BK114 hb
            replace BK131 := kb_ BK131 hb
            replace HB := Bs_ hb
            (try clear hb)
            (try clear hb2)
            (try clear hk)
            (try clear hi)
            (try clear ho0)
            (try clear ho1)
            obtain ⟨Ao25, co25, eo25⟩ := Kd.R_slice HO120.out
            (first | subst eo25 | (injection eo25 with f1_ f2_ f3_; have f4_ := f1_.symm; have f5_ := f3_.symm; clear f1_ f2_ f3_; subst f4_; subst f5_))
            obtain ⟨Ao26, co26, eo26⟩ := Kd.R_slice HO123.out
            (first | subst eo26 | (injection eo26 with f1_ f2_ f3_; have f4_ := f1_.symm; have f5_ := f3_.symm; clear f1_ f2_ f3_; subst f4_; subst f5_))
            refine hK.out _ _ ⟨(blk_cell BK114.out 0).trans rfl, (blk_cell BK114.out 1).trans rfl⟩ (fun hHeld => ?_)
            clear hK K
            refine norm_ (a' := ?_) ?_ ?_
            rotate_left
            · show Act.put _ (some 14) _ = _
              simp only [Act.put, List.setIfInBounds_toArray, List.set_cons_zero, List.set_cons_succ, i64_w, i32_w]
              rfl
            refine one_ (i := 3) (N := some 16) #[true, true, true, true, false, false, false, true, false, false] rfl rfl (one_of HT_.out (by kernel_rfl)) (by decide) (fun K hK => ?_)
            refine goes_ Tryd.func30 (by kernel_rfl) rfl #[.agg #[.slice Ao25 t118.length co25, .slice Ao26 t121.length co26], .agg #[.slice Ao15 t107.length co15, .slice Ao17 t110.length co17]] (by rfl) rfl rfl Ga_ ?_
            with_reducible refine (mould_Reshape.calls k (fun k_ => some k_ = (.slice Ao25 t118.length co25 : Value).ownBlock) _ _ t118 (fun k_ => some k_ = (.slice Ao26 t121.length co26 : Value).ownBlock) _ _ t121 (fun k_ => some k_ = (.slice Ao15 t107.length co15 : Value).ownBlock) _ _ t107 (fun k_ => some k_ = (.slice Ao17 t110.length co17 : Value).ownBlock) _ _ t110 t124 t127 t130 _ ?side1 ?side2 ?side3 ?side4 A4.out ?side5).mono ?_
            (case side1 => exact Kd.R_V (Kd.R_tight rfl (Kd.R_types (Kd.R_types (Kd.R_apart' (Kd.R_apart' (Kd.R_apart' (HO120.out) (Kd.R_typed HO106.out) (by decide)) (Kd.R_typed HO112.out) (by decide)) (Kd.R_typed HO123.out) (by decide)) BK114.out (by decide)) BK131.out (by decide))))
            (case side2 => exact Kd.R_V (Kd.R_tight rfl (Kd.R_types (Kd.R_types (Kd.R_apart' (Kd.R_apart' (Kd.R_apart' (Kd.R_apart' (HO123.out) (Kd.R_typed HO103.out) (by decide)) (Kd.R_typed HO109.out) (by decide)) (Kd.R_typed HO117.out) (by decide)) (Kd.R_typed HO120.out) (by decide)) BK114.out (by decide)) BK131.out (by decide))))
            (case side3 => exact Kd.R_V (Kd.R_tight rfl (Kd.R_types (Kd.R_types (Kd.R_apart' (Kd.R_apart' (Kd.R_apart' (HO109.out) (Kd.R_typed HO106.out) (by decide)) (Kd.R_typed HO112.out) (by decide)) (Kd.R_typed HO123.out) (by decide)) BK114.out (by decide)) BK131.out (by decide))))
            (case side4 => exact Kd.R_V (Kd.R_tight rfl (Kd.R_types (Kd.R_types (Kd.R_apart' (Kd.R_apart' (Kd.R_apart' (Kd.R_apart' (HO112.out) (Kd.R_typed HO103.out) (by decide)) (Kd.R_typed HO109.out) (by decide)) (Kd.R_typed HO117.out) (by decide)) (Kd.R_typed HO120.out) (by decide)) BK114.out (by decide)) BK131.out (by decide))))
            (case side5 => first | exact hG | exact Glob.below hG Bl_)
            rintro e w27 ⟨v125, v128, rfl, ho0, ho1, hb⟩
            refine ⟨_, rfl, ?_⟩
            have HO126 := Aside0.mk (Kd.R_lower (Kd.R_new' (Kd.R_new' (Kd.R_new' (Kd.R_new' (Kd.R_mono (ok' := fun k_ => True) ho0 (fun _ hk_ => trivial)) (Kd.R_lt (Pr_ HO103.out))) (Kd.R_lt (Pr_ HO109.out))) (Kd.R_lt (Pr_ HO117.out))) (Kd.R_lt (Pr_ HO120.out))) Bz_)
            replace HO103 := Aside0.mk (Kd.R_elder' (Pr_ HO103.out) (Kd.R_base ho0) hb)
            replace HO109 := Aside0.mk (Kd.R_elder' (Pr_ HO109.out) (Kd.R_base ho0) hb)
            replace HO117 := Aside0.mk (Kd.R_elder' (Pr_ HO117.out) (Kd.R_base ho0) hb)
            replace HO120 := Aside0.mk (Kd.R_elder' (Pr_ HO120.out) (Kd.R_base ho0) hb)
            have HO129 := Aside0.mk (Kd.R_lower (Kd.R_new' (Kd.R_new' (Kd.R_new' (Kd.R_mono (ok' := fun k_ => True) ho1 (fun _ hk_ => trivial)) (Kd.R_lt (Pr_ HO106.out))) (Kd.R_lt (Pr_ HO112.out))) (Kd.R_lt (Pr_ HO123.out))) Bz_)
            replace HO106 := Aside0.mk (Kd.R_elder' (Pr_ HO106.out) (Kd.R_base ho1) hb)
            replace HO112 := Aside0.mk (Kd.R_elder' (Pr_ HO112.out) (Kd.R_base ho1) hb)
            replace HO123 := Aside0.mk (Kd.R_elder' (Pr_ HO123.out) (Kd.R_base ho1) hb)
            replace BK114 := kb_ BK114 hb
            replace BK131 := kb_ BK131 hb
            replace HB := Bs_ hb
            (try clear hb)
            (try clear hb2)
            (try clear hk)
            (try clear hi)
            (try clear ho0)
            (try clear ho1)
            refine hK.out _ _ ⟨(blk_cell BK114.out 0).trans rfl, (blk_cell BK114.out 1).trans rfl⟩ (fun hHeld => ?_)
            clear hK K
            refine norm_ (a' := ?_) ?_ ?_
            rotate_left
            · show Act.put _ (some 16) _ = _
              simp only [Act.put, List.setIfInBounds_toArray, List.set_cons_zero, List.set_cons_succ, i64_w, i32_w]
              rfl
            refine pu_ 4 (some 12) HT_ #[true, true, true, true, true, false, false, true, false, false] ?_
            refine pu_ 5 (some 17) HT_ #[true, true, true, true, true, true, false, true, false, false] ?_
            refine pu_ 6 (some 18) HT_ #[true, true, true, true, true, true, true, true, false, false] ?_
            exact norm_ (by simp only [putAll, Act.put, List.setIfInBounds_toArray, List.set_cons_zero, List.set_cons_succ]) (hCont (.slice Ao23 y115.length co23, .slice Ao25 t118.length co25, .slice Ao26 t121.length co26, v125, v128, gb131) _ ⟨hHeld, (by (with_reducible repeat (first | apply Kd.R_alloc | apply Kd.R_drewN | apply Kd.R_drew)); exact Kd.R_mono HO103.out (fun _ hk => ⟨hk.1.1.1, ⟨hk.1.1.2, ⟨hk.1.2, hk.2⟩⟩⟩)), (by (with_reducible repeat (first | apply Kd.R_alloc | apply Kd.R_drewN | apply Kd.R_drew)); exact Kd.R_mono HO106.out (fun _ hk => ⟨hk.1.1, ⟨hk.1.2, hk.2⟩⟩)), (by (with_reducible repeat (first | apply Kd.R_alloc | apply Kd.R_drewN | apply Kd.R_drew)); exact Kd.R_mono HO109.out (fun _ hk => ⟨hk.1.1.1, ⟨hk.1.1.2, ⟨hk.1.2, hk.2⟩⟩⟩)), (by (with_reducible repeat (first | apply Kd.R_alloc | apply Kd.R_drewN | apply Kd.R_drew)); exact Kd.R_mono HO112.out (fun _ hk => ⟨hk.1.1, ⟨hk.1.2, hk.2⟩⟩)), (by (with_reducible repeat (first | apply Kd.R_alloc | apply Kd.R_drewN | apply Kd.R_drew)); exact Kd.R_mono HO117.out (fun _ hk => ⟨hk.1.1.1.2, ⟨hk.1.1.2, ⟨hk.1.2, hk.2⟩⟩⟩)), (by (with_reducible repeat (first | apply Kd.R_alloc | apply Kd.R_drewN | apply Kd.R_drew)); exact Kd.R_mono HO120.out (fun _ hk => ⟨hk.1.1.1.2, ⟨hk.1.1.2, ⟨hk.1.2, hk.2⟩⟩⟩)), (by (with_reducible repeat (first | apply Kd.R_alloc | apply Kd.R_drewN | apply Kd.R_drew)); exact Kd.R_mono HO123.out (fun _ hk => ⟨hk.1.1.2, ⟨hk.1.2, hk.2⟩⟩)), (by (with_reducible repeat (first | apply Kd.R_alloc | apply Kd.R_drewN | apply Kd.R_drew)); exact Kd.R_mono HO126.out (fun _ hk => ⟨hk.1.1.1.2, ⟨hk.1.1.2, ⟨hk.1.2, hk.2⟩⟩⟩)), (by (with_reducible repeat (first | apply Kd.R_alloc | apply Kd.R_drewN | apply Kd.R_drew)); exact Kd.R_mono HO129.out (fun _ hk => ⟨hk.1.1.2, ⟨hk.1.2, hk.2⟩⟩)), (Bk_ BK114.out), (Bk_ BK131.out), GW131.out, GE131.out, NB114_131.out, NB131_114.out, Bl_⟩)
        rintro ⟨v116, v119, v122, v125, v128, gb131⟩ w28 ⟨hS_, h0_, h1_, h2_, h3_, h4_, h5_, h6_, h7_, h8_, h9_, h10_, h11_, h12_, h13_, h14_, h15_⟩
        have n0_ : Aside0 (Kd.R (Kd.int .i64) 3 w28 w.heap.size (fun k_ => some k_ ≠ (.slice Ao15 t107.length co15 : Value).ownBlock ∧ some k_ ≠ (v116 : Value).ownBlock ∧ some k_ ≠ (v119 : Value).ownBlock ∧ some k_ ≠ (v125 : Value).ownBlock) (.slice Ao11 t101.length co11) t101) := ⟨h0_⟩
        have n1_ : Aside0 (Kd.R Kd.string 9 w28 w.heap.size (fun k_ => some k_ ≠ (.slice Ao17 t110.length co17 : Value).ownBlock ∧ some k_ ≠ (v122 : Value).ownBlock ∧ some k_ ≠ (v128 : Value).ownBlock) (.slice Ao12 t104.length co12) t104) := ⟨h1_⟩
        have n2_ : Aside0 (Kd.R (Kd.int .i64) 3 w28 w.heap.size (fun k_ => some k_ ≠ (.slice Ao11 t101.length co11 : Value).ownBlock ∧ some k_ ≠ (v116 : Value).ownBlock ∧ some k_ ≠ (v119 : Value).ownBlock ∧ some k_ ≠ (v125 : Value).ownBlock) (.slice Ao15 t107.length co15) t107) := ⟨h2_⟩
        have n3_ : Aside0 (Kd.R Kd.string 9 w28 w.heap.size (fun k_ => some k_ ≠ (.slice Ao12 t104.length co12 : Value).ownBlock ∧ some k_ ≠ (v122 : Value).ownBlock ∧ some k_ ≠ (v128 : Value).ownBlock) (.slice Ao17 t110.length co17) t110) := ⟨h3_⟩
        have n4_ : Aside0 (Kd.R (Kd.int .i64) 3 w28 w.heap.size (fun k_ => some k_ ≠ (.slice Ao11 t101.length co11 : Value).ownBlock ∧ some k_ ≠ (.slice Ao15 t107.length co15 : Value).ownBlock ∧ some k_ ≠ (v119 : Value).ownBlock ∧ some k_ ≠ (v125 : Value).ownBlock) v116 y115) := ⟨h4_⟩
        have n5_ : Aside0 (Kd.R (Kd.int .i64) 3 w28 w.heap.size (fun k_ => some k_ ≠ (.slice Ao11 t101.length co11 : Value).ownBlock ∧ some k_ ≠ (.slice Ao15 t107.length co15 : Value).ownBlock ∧ some k_ ≠ (v116 : Value).ownBlock ∧ some k_ ≠ (v125 : Value).ownBlock) v119 t118) := ⟨h5_⟩
        have n6_ : Aside0 (Kd.R Kd.string 9 w28 w.heap.size (fun k_ => some k_ ≠ (.slice Ao12 t104.length co12 : Value).ownBlock ∧ some k_ ≠ (.slice Ao17 t110.length co17 : Value).ownBlock ∧ some k_ ≠ (v128 : Value).ownBlock) v122 t121) := ⟨h6_⟩
        have n7_ : Aside0 (Kd.R (Kd.int .i64) 3 w28 w.heap.size (fun k_ => some k_ ≠ (.slice Ao11 t101.length co11 : Value).ownBlock ∧ some k_ ≠ (.slice Ao15 t107.length co15 : Value).ownBlock ∧ some k_ ≠ (v116 : Value).ownBlock ∧ some k_ ≠ (v119 : Value).ownBlock) v125 t124) := ⟨h7_⟩
        have n8_ : Aside0 (Kd.R Kd.string 9 w28 w.heap.size (fun k_ => some k_ ≠ (.slice Ao12 t104.length co12 : Value).ownBlock ∧ some k_ ≠ (.slice Ao17 t110.length co17 : Value).ownBlock ∧ some k_ ≠ (v122 : Value).ownBlock) v128 t127) := ⟨h8_⟩
        have n9_ : Aside0 (w28.heap[gb114]? = some (.cells #[.slice Ao15 t107.length co15, .slice Ao17 t110.length co17] 25 (0, 0))) := ⟨h9_⟩
        have n10_ : Aside0 (w28.heap[gb131]? = some (.cells #[.slice none 0 0, .slice none 0 0] 25 (0, 0))) := ⟨h10_⟩
        have n11_ : Aside0 (w.heap.size ≤ gb131) := ⟨h11_⟩
        have n12_ : Aside0 (w.heap.size ≤ gb131) := ⟨h12_⟩
        have n13_ : Aside0 (gb114 ≠ gb131) := ⟨h13_⟩
        have n14_ : Aside0 (gb131 ≠ gb114) := ⟨h14_⟩
        have n15_ : Aside0 (Below w.heap.size w w28) := ⟨h15_⟩
        clear HO103
        clear HO106
        clear HO109
        clear HO112
        clear BK114
        clear HB
        clear h0_ h1_ h2_ h3_ h4_ h5_ h6_ h7_ h8_ h9_ h10_ h11_ h12_ h13_ h14_ h15_
        have HO103 := n0_
        have HO106 := n1_
        have HO109 := n2_
        have HO112 := n3_
        have HO117 := n4_
        have HO120 := n5_
        have HO123 := n6_
        have HO126 := n7_
        have HO129 := n8_
        have BK114 := n9_
        have BK131 := n10_
        have GW131 := n11_
        have GE131 := n12_
        have NB114_131 := n13_
        have NB131_114 := n14_
        have HB := n15_
        clear n0_ n1_ n2_ n3_ n4_ n5_ n6_ n7_ n8_ n9_ n10_ n11_ n12_ n13_ n14_ n15_
        have hHeld : w28.cell? ⟨gb114, 0, none⟩ = some (.slice Ao15 t107.length co15) ∧ w28.cell? ⟨gb114, 1, none⟩ = some (.slice Ao17 t110.length co17) := hS_
        obtain ⟨Ao29, co29, eo29⟩ := Kd.R_slice HO126.out
        (first | subst eo29 | (injection eo29 with f1_ f2_ f3_; have f4_ := f1_.symm; have f5_ := f3_.symm; clear f1_ f2_ f3_; subst f4_; subst f5_))
        obtain ⟨Ao31, co31, eo31⟩ := Kd.R_slice HO129.out
        (first | subst eo31 | (injection eo31 with f1_ f2_ f3_; have f4_ := f1_.symm; have f5_ := f3_.symm; clear f1_ f2_ f3_; subst f4_; subst f5_))
        refine norm_ (a' := ?_) ?_ ?_
        rotate_left
        · simp only [putAll, Act.put, List.setIfInBounds_toArray, List.set_cons_zero, List.set_cons_succ]
          rfl
        refine one_ (i := 8) (N := none) #[true, true, true, true, true, true, true, true, true, false] rfl rfl (one_of HT_.out (by kernel_rfl)) (by decide) (fun K hK => ?_)
        have hs30 : w28.cell? ⟨gb131, 0, none⟩ = some (.slice none 0 0) := (blk_cell BK131.out 0).trans rfl
        have hfs30 := blk_frozen BK131.out 0
        have hns30_0 := NB114_131.out
        have hms30_0 := NB131_114.out
        have hs32 : w28.cell? ⟨gb131, 1, none⟩ = some (.slice none 0 0) := (blk_cell BK131.out 1).trans rfl
        have hfs32 := blk_frozen BK131.out 1
        have hns32_0 := NB114_131.out
        have hms32_0 := NB131_114.out
        refine skip_ (w1 := ?_) (by rfl) rfl ?_ ?_
        rotate_left
        · go_simp
          rfl
        refine hK.out _ _ ⟨((cell_far (p := ⟨gb131, _, none⟩) NB114_131.out _).trans (((cell_far (p := ⟨gb131, _, none⟩) NB114_131.out _).trans (hHeld.1)))), ((cell_far (p := ⟨gb131, _, none⟩) NB114_131.out _).trans (((cell_far (p := ⟨gb131, _, none⟩) NB114_131.out _).trans (hHeld.2))))⟩ (fun hHeld => ?_)
        clear hK K
        refine pu_ 9 (some 4) HT_ #[true, true, true, true, true, true, true, true, true, true] ?_
        refine done_ (done_of HT_.out (by kernel_rfl)) ?_
        have n0_ : Aside0 (Kd.R (Kd.int .i64) 3 ((w28.setCell ⟨gb131, 0, none⟩ (.slice Ao29 t124.length co29)).setCell ⟨gb131, 1, none⟩ (.slice Ao31 t127.length co31)) w.heap.size (fun k_ => some k_ ≠ (.slice Ao15 t107.length co15 : Value).ownBlock ∧ some k_ ≠ (v116 : Value).ownBlock ∧ some k_ ≠ (v119 : Value).ownBlock ∧ some k_ ≠ (.slice Ao29 t124.length co29 : Value).ownBlock) (.slice Ao11 t101.length co11) t101) := ⟨by (with_reducible repeat (first | apply Kd.R_alloc | apply Kd.R_drewN | apply Kd.R_drew)); exact Kd.R_mono (Kd.R_far (p := ⟨gb131, 1, none⟩) (Kd.R_far (p := ⟨gb131, 0, none⟩) (Kd.R_types HO103.out BK131.out (by decide)) (fun _ hk => hk.2) (.slice Ao29 t124.length co29)) (fun _ hk => hk.2) (.slice Ao31 t127.length co31)) (fun _ hk => ⟨hk.1.1, ⟨hk.1.2.1, ⟨hk.1.2.2.1, hk.1.2.2.2⟩⟩⟩)⟩
        have n1_ : Aside0 (Kd.R Kd.string 9 ((w28.setCell ⟨gb131, 0, none⟩ (.slice Ao29 t124.length co29)).setCell ⟨gb131, 1, none⟩ (.slice Ao31 t127.length co31)) w.heap.size (fun k_ => some k_ ≠ (.slice Ao17 t110.length co17 : Value).ownBlock ∧ some k_ ≠ (v122 : Value).ownBlock ∧ some k_ ≠ (.slice Ao31 t127.length co31 : Value).ownBlock) (.slice Ao12 t104.length co12) t104) := ⟨by (with_reducible repeat (first | apply Kd.R_alloc | apply Kd.R_drewN | apply Kd.R_drew)); exact Kd.R_mono (Kd.R_far (p := ⟨gb131, 1, none⟩) (Kd.R_far (p := ⟨gb131, 0, none⟩) (Kd.R_types HO106.out BK131.out (by decide)) (fun _ hk => hk.2) (.slice Ao29 t124.length co29)) (fun _ hk => hk.2) (.slice Ao31 t127.length co31)) (fun _ hk => ⟨hk.1.1, ⟨hk.1.2.1, hk.1.2.2⟩⟩)⟩
        have n2_ : Aside0 (Kd.R (Kd.int .i64) 3 ((w28.setCell ⟨gb131, 0, none⟩ (.slice Ao29 t124.length co29)).setCell ⟨gb131, 1, none⟩ (.slice Ao31 t127.length co31)) w.heap.size (fun k_ => some k_ ≠ (.slice Ao11 t101.length co11 : Value).ownBlock ∧ some k_ ≠ (v116 : Value).ownBlock ∧ some k_ ≠ (v119 : Value).ownBlock ∧ some k_ ≠ (.slice Ao29 t124.length co29 : Value).ownBlock) (.slice Ao15 t107.length co15) t107) := ⟨by (with_reducible repeat (first | apply Kd.R_alloc | apply Kd.R_drewN | apply Kd.R_drew)); exact Kd.R_mono (Kd.R_far (p := ⟨gb131, 1, none⟩) (Kd.R_far (p := ⟨gb131, 0, none⟩) (Kd.R_types HO109.out BK131.out (by decide)) (fun _ hk => hk.2) (.slice Ao29 t124.length co29)) (fun _ hk => hk.2) (.slice Ao31 t127.length co31)) (fun _ hk => ⟨hk.1.1, ⟨hk.1.2.1, ⟨hk.1.2.2.1, hk.1.2.2.2⟩⟩⟩)⟩
        have n3_ : Aside0 (Kd.R Kd.string 9 ((w28.setCell ⟨gb131, 0, none⟩ (.slice Ao29 t124.length co29)).setCell ⟨gb131, 1, none⟩ (.slice Ao31 t127.length co31)) w.heap.size (fun k_ => some k_ ≠ (.slice Ao12 t104.length co12 : Value).ownBlock ∧ some k_ ≠ (v122 : Value).ownBlock ∧ some k_ ≠ (.slice Ao31 t127.length co31 : Value).ownBlock) (.slice Ao17 t110.length co17) t110) := ⟨by (with_reducible repeat (first | apply Kd.R_alloc | apply Kd.R_drewN | apply Kd.R_drew)); exact Kd.R_mono (Kd.R_far (p := ⟨gb131, 1, none⟩) (Kd.R_far (p := ⟨gb131, 0, none⟩) (Kd.R_types HO112.out BK131.out (by decide)) (fun _ hk => hk.2) (.slice Ao29 t124.length co29)) (fun _ hk => hk.2) (.slice Ao31 t127.length co31)) (fun _ hk => ⟨hk.1.1, ⟨hk.1.2.1, hk.1.2.2⟩⟩)⟩
        have n4_ : Aside0 (Kd.R (Kd.int .i64) 3 ((w28.setCell ⟨gb131, 0, none⟩ (.slice Ao29 t124.length co29)).setCell ⟨gb131, 1, none⟩ (.slice Ao31 t127.length co31)) w.heap.size (fun k_ => some k_ ≠ (.slice Ao11 t101.length co11 : Value).ownBlock ∧ some k_ ≠ (.slice Ao15 t107.length co15 : Value).ownBlock ∧ some k_ ≠ (v119 : Value).ownBlock ∧ some k_ ≠ (.slice Ao29 t124.length co29 : Value).ownBlock) v116 y115) := ⟨by (with_reducible repeat (first | apply Kd.R_alloc | apply Kd.R_drewN | apply Kd.R_drew)); exact Kd.R_mono (Kd.R_far (p := ⟨gb131, 1, none⟩) (Kd.R_far (p := ⟨gb131, 0, none⟩) (Kd.R_types HO117.out BK131.out (by decide)) (fun _ hk => hk.2) (.slice Ao29 t124.length co29)) (fun _ hk => hk.2) (.slice Ao31 t127.length co31)) (fun _ hk => ⟨hk.1.1, ⟨hk.1.2.1, ⟨hk.1.2.2.1, hk.1.2.2.2⟩⟩⟩)⟩
        have n5_ : Aside0 (Kd.R (Kd.int .i64) 3 ((w28.setCell ⟨gb131, 0, none⟩ (.slice Ao29 t124.length co29)).setCell ⟨gb131, 1, none⟩ (.slice Ao31 t127.length co31)) w.heap.size (fun k_ => some k_ ≠ (.slice Ao11 t101.length co11 : Value).ownBlock ∧ some k_ ≠ (.slice Ao15 t107.length co15 : Value).ownBlock ∧ some k_ ≠ (v116 : Value).ownBlock ∧ some k_ ≠ (.slice Ao29 t124.length co29 : Value).ownBlock) v119 t118) := ⟨by (with_reducible repeat (first | apply Kd.R_alloc | apply Kd.R_drewN | apply Kd.R_drew)); exact Kd.R_mono (Kd.R_far (p := ⟨gb131, 1, none⟩) (Kd.R_far (p := ⟨gb131, 0, none⟩) (Kd.R_types HO120.out BK131.out (by decide)) (fun _ hk => hk.2) (.slice Ao29 t124.length co29)) (fun _ hk => hk.2) (.slice Ao31 t127.length co31)) (fun _ hk => ⟨hk.1.1, ⟨hk.1.2.1, ⟨hk.1.2.2.1, hk.1.2.2.2⟩⟩⟩)⟩
        have n6_ : Aside0 (Kd.R Kd.string 9 ((w28.setCell ⟨gb131, 0, none⟩ (.slice Ao29 t124.length co29)).setCell ⟨gb131, 1, none⟩ (.slice Ao31 t127.length co31)) w.heap.size (fun k_ => some k_ ≠ (.slice Ao12 t104.length co12 : Value).ownBlock ∧ some k_ ≠ (.slice Ao17 t110.length co17 : Value).ownBlock ∧ some k_ ≠ (.slice Ao31 t127.length co31 : Value).ownBlock) v122 t121) := ⟨by (with_reducible repeat (first | apply Kd.R_alloc | apply Kd.R_drewN | apply Kd.R_drew)); exact Kd.R_mono (Kd.R_far (p := ⟨gb131, 1, none⟩) (Kd.R_far (p := ⟨gb131, 0, none⟩) (Kd.R_types HO123.out BK131.out (by decide)) (fun _ hk => hk.2) (.slice Ao29 t124.length co29)) (fun _ hk => hk.2) (.slice Ao31 t127.length co31)) (fun _ hk => ⟨hk.1.1, ⟨hk.1.2.1, hk.1.2.2⟩⟩)⟩
        have n7_ : Aside0 (Kd.R (Kd.int .i64) 3 ((w28.setCell ⟨gb131, 0, none⟩ (.slice Ao29 t124.length co29)).setCell ⟨gb131, 1, none⟩ (.slice Ao31 t127.length co31)) w.heap.size (fun k_ => some k_ ≠ (.slice Ao11 t101.length co11 : Value).ownBlock ∧ some k_ ≠ (.slice Ao15 t107.length co15 : Value).ownBlock ∧ some k_ ≠ (v116 : Value).ownBlock ∧ some k_ ≠ (v119 : Value).ownBlock) (.slice Ao29 t124.length co29) t124) := ⟨by (with_reducible repeat (first | apply Kd.R_alloc | apply Kd.R_drewN | apply Kd.R_drew)); exact Kd.R_mono (Kd.R_far (p := ⟨gb131, 1, none⟩) (Kd.R_far (p := ⟨gb131, 0, none⟩) (Kd.R_types HO126.out BK131.out (by decide)) (fun _ hk => hk.2) (.slice Ao29 t124.length co29)) (fun _ hk => hk.2) (.slice Ao31 t127.length co31)) (fun _ hk => ⟨hk.1.1, ⟨hk.1.2.1, ⟨hk.1.2.2.1, hk.1.2.2.2⟩⟩⟩)⟩
        have n8_ : Aside0 (Kd.R Kd.string 9 ((w28.setCell ⟨gb131, 0, none⟩ (.slice Ao29 t124.length co29)).setCell ⟨gb131, 1, none⟩ (.slice Ao31 t127.length co31)) w.heap.size (fun k_ => some k_ ≠ (.slice Ao12 t104.length co12 : Value).ownBlock ∧ some k_ ≠ (.slice Ao17 t110.length co17 : Value).ownBlock ∧ some k_ ≠ (v122 : Value).ownBlock) (.slice Ao31 t127.length co31) t127) := ⟨by (with_reducible repeat (first | apply Kd.R_alloc | apply Kd.R_drewN | apply Kd.R_drew)); exact Kd.R_mono (Kd.R_far (p := ⟨gb131, 1, none⟩) (Kd.R_far (p := ⟨gb131, 0, none⟩) (Kd.R_types HO129.out BK131.out (by decide)) (fun _ hk => hk.2) (.slice Ao29 t124.length co29)) (fun _ hk => hk.2) (.slice Ao31 t127.length co31)) (fun _ hk => ⟨hk.1.1, ⟨hk.1.2.1, hk.1.2.2⟩⟩)⟩
        have n9_ : Aside0 (((w28.setCell ⟨gb131, 0, none⟩ (.slice Ao29 t124.length co29)).setCell ⟨gb131, 1, none⟩ (.slice Ao31 t127.length co31)).heap[gb114]? = some (.cells #[.slice Ao15 t107.length co15, .slice Ao17 t110.length co17] 25 (0, 0))) := ⟨by (with_reducible repeat (first | refine blk_drewN ?_ _ | refine blk_drew ?_ | refine blk_alloc ?_ _)); refine blk_far ?_ NB114_131.out _; (with_reducible repeat (first | refine blk_drewN ?_ _ | refine blk_drew ?_ | refine blk_alloc ?_ _)); refine blk_far ?_ NB114_131.out _; (with_reducible repeat (first | refine blk_drewN ?_ _ | refine blk_drew ?_ | refine blk_alloc ?_ _)); exact BK114.out⟩
        have n10_ : Aside0 (((w28.setCell ⟨gb131, 0, none⟩ (.slice Ao29 t124.length co29)).setCell ⟨gb131, 1, none⟩ (.slice Ao31 t127.length co31)).heap[gb131]? = some (.cells #[.slice Ao29 t124.length co29, .slice Ao31 t127.length co31] 25 (0, 0))) := ⟨by (with_reducible repeat (first | refine blk_drewN ?_ _ | refine blk_drew ?_ | refine blk_alloc ?_ _)); refine blk_put (cs := #[.slice Ao29 t124.length co29, .slice none 0 0]) ?_ 1 _ rfl; (with_reducible repeat (first | refine blk_drewN ?_ _ | refine blk_drew ?_ | refine blk_alloc ?_ _)); refine blk_put (cs := #[.slice none 0 0, .slice none 0 0]) ?_ 0 _ rfl; (with_reducible repeat (first | refine blk_drewN ?_ _ | refine blk_drew ?_ | refine blk_alloc ?_ _)); exact BK131.out⟩
        have n11_ : Aside0 (Below w.heap.size w ((w28.setCell ⟨gb131, 0, none⟩ (.slice Ao29 t124.length co29)).setCell ⟨gb131, 1, none⟩ (.slice Ao31 t127.length co31))) := ⟨Bl_⟩
        (try clear HO103)
        (try clear HO106)
        (try clear HO109)
        (try clear HO112)
        (try clear HO117)
        (try clear HO120)
        (try clear HO123)
        (try clear HO126)
        (try clear HO129)
        (try clear BK114)
        (try clear BK131)
        (try clear HB)
        generalize ((w28.setCell ⟨gb131, 0, none⟩ (.slice Ao29 t124.length co29)).setCell ⟨gb131, 1, none⟩ (.slice Ao31 t127.length co31)) = w33 at n0_ n1_ n2_ n3_ n4_ n5_ n6_ n7_ n8_ n9_ n10_ n11_ ⊢
        have HO103 := n0_
        have HO106 := n1_
        have HO109 := n2_
        have HO112 := n3_
        have HO117 := n4_
        have HO120 := n5_
        have HO123 := n6_
        have HO126 := n7_
        have HO129 := n8_
        have BK114 := n9_
        have BK131 := n10_
        have HB := n11_
        clear n0_ n1_ n2_ n3_ n4_ n5_ n6_ n7_ n8_ n9_ n10_ n11_
        have hnb34 := NB131_114.out
        have hnc34 := NB114_131.out
        obtain ⟨hcz35_0, hcz35_1⟩ := c2_ BK131
        obtain ⟨hfz35_0, hfz35_1⟩ := f2_ BK131
        try go_wp2_with (first | ((with_reducible refine gate_callee (f := 27) rfl ?_); refine goesL_ (some 21) rfl rfl Tryd.func27 (by kernel_rfl) rfl #[.agg #[.slice Ao29 t124.length co29, .slice Ao31 t127.length co31]] rfl Ga_ ?_; (with_reducible refine (mould_Flip.calls k (fun k_ => some k_ = (.slice Ao29 t124.length co29 : Value).ownBlock) _ _ t124 (fun k_ => some k_ = (.slice Ao31 t127.length co31 : Value).ownBlock) _ _ t127 t132 t135 t138 _ ?side1 ?side2 A5.out).mono ?_); (case side1 => exact Kd.R_V (Kd.R_tight rfl (Kd.R_types (Kd.R_types (Kd.R_apart' (Kd.R_apart' (Kd.R_apart' (Kd.R_apart' (HO126.out) (Kd.R_typed HO106.out) (by decide)) (Kd.R_typed HO112.out) (by decide)) (Kd.R_typed HO123.out) (by decide)) (Kd.R_typed HO129.out) (by decide)) BK114.out (by decide)) BK131.out (by decide)))); (case side2 => exact Kd.R_V (Kd.R_tight rfl (Kd.R_types (Kd.R_types (Kd.R_apart' (Kd.R_apart' (Kd.R_apart' (Kd.R_apart' (Kd.R_apart' (HO129.out) (Kd.R_typed HO103.out) (by decide)) (Kd.R_typed HO109.out) (by decide)) (Kd.R_typed HO117.out) (by decide)) (Kd.R_typed HO120.out) (by decide)) (Kd.R_typed HO126.out) (by decide)) BK114.out (by decide)) BK131.out (by decide)))); rintro e w36 ⟨v133, v136, rfl, ho0, ho1, hb⟩; refine ⟨_, rfl, ?_⟩; have HO134 := Aside0.mk (Kd.R_lower (Kd.R_new' (Kd.R_new' (Kd.R_new' (Kd.R_new' (Kd.R_new' (Kd.R_mono (ok' := fun k_ => True) ho0 (fun _ hk_ => trivial)) (Kd.R_lt (Pr_ HO103.out))) (Kd.R_lt (Pr_ HO109.out))) (Kd.R_lt (Pr_ HO117.out))) (Kd.R_lt (Pr_ HO120.out))) (Kd.R_lt (Pr_ HO126.out))) Bz_); replace HO103 := Aside0.mk (Kd.R_elder' (Pr_ HO103.out) (Kd.R_base ho0) hb); replace HO109 := Aside0.mk (Kd.R_elder' (Pr_ HO109.out) (Kd.R_base ho0) hb); replace HO117 := Aside0.mk (Kd.R_elder' (Pr_ HO117.out) (Kd.R_base ho0) hb); replace HO120 := Aside0.mk (Kd.R_elder' (Pr_ HO120.out) (Kd.R_base ho0) hb); replace HO126 := Aside0.mk (Kd.R_elder' (Pr_ HO126.out) (Kd.R_base ho0) hb); have HO137 := Aside0.mk (Kd.R_lower (Kd.R_new' (Kd.R_new' (Kd.R_new' (Kd.R_new' (Kd.R_mono (ok' := fun k_ => True) ho1 (fun _ hk_ => trivial)) (Kd.R_lt (Pr_ HO106.out))) (Kd.R_lt (Pr_ HO112.out))) (Kd.R_lt (Pr_ HO123.out))) (Kd.R_lt (Pr_ HO129.out))) Bz_); replace HO106 := Aside0.mk (Kd.R_elder' (Pr_ HO106.out) (Kd.R_base ho1) hb); replace HO112 := Aside0.mk (Kd.R_elder' (Pr_ HO112.out) (Kd.R_base ho1) hb); replace HO123 := Aside0.mk (Kd.R_elder' (Pr_ HO123.out) (Kd.R_base ho1) hb); replace HO129 := Aside0.mk (Kd.R_elder' (Pr_ HO129.out) (Kd.R_base ho1) hb); replace BK114 := kb_ BK114 hb; replace BK131 := kb_ BK131 hb; replace HB := Bs_ hb; (try clear hb); (try clear hb2); (try clear hk); (try clear hi); (try clear ho0); (try clear ho1)) | ((with_reducible refine gate_dst (N := 5) rfl ?_); (try (refine gate_guard (by rfl) ?_; dsimp only)); refine bx_ 5 #[.slice none 0 0, .slice none 0 0] 25 ?_; intro gb139 hg w37 hbox hb; replace HO103 := Aside0.mk (Kd.R_below (Pr_ HO103.out) hb); replace HO106 := Aside0.mk (Kd.R_below (Pr_ HO106.out) hb); replace HO109 := Aside0.mk (Kd.R_below (Pr_ HO109.out) hb); replace HO112 := Aside0.mk (Kd.R_below (Pr_ HO112.out) hb); replace HO117 := Aside0.mk (Kd.R_below (Pr_ HO117.out) hb); replace HO120 := Aside0.mk (Kd.R_below (Pr_ HO120.out) hb); replace HO123 := Aside0.mk (Kd.R_below (Pr_ HO123.out) hb); replace HO126 := Aside0.mk (Kd.R_below (Pr_ HO126.out) hb); replace HO129 := Aside0.mk (Kd.R_below (Pr_ HO129.out) hb); replace HO134 := Aside0.mk (Kd.R_below (Pr_ HO134.out) hb); replace HO137 := Aside0.mk (Kd.R_below (Pr_ HO137.out) hb); have BK139 := Aside0.mk (hbox); have GW139 := (Bg_ hg : Aside0 (w.heap.size ≤ gb139)); have GE139 := (Bg_ hg : Aside0 (w.heap.size ≤ gb139)); replace HB := Bs_ hb; have NB114_139 := nl_ hg BK114; have NB139_114 := ng_ hg BK114; replace BK114 := kb_ BK114 hb; have NB131_139 := nl_ hg BK131; have NB139_131 := ng_ hg BK131; replace BK131 := kb_ BK131 hb; clear hb hbox hg; obtain ⟨Ao38, co38, eo38⟩ := Kd.R_slice HO134.out; subst eo38; have hnb39 := NB139_114.out; have hnc39 := NB114_139.out; have hnb40 := NB139_131.out; have hnc40 := NB131_139.out; obtain ⟨hcz41_0, hcz41_1⟩ := c2_ BK139; obtain ⟨hfz41_0, hfz41_1⟩ := f2_ BK139; obtain ⟨Ao42, co42, eo42⟩ := Kd.R_slice HO137.out; subst eo42) | ((with_reducible refine gate_dst (N := 36) rfl ?_); (try (refine gate_guard (by rfl) ?_; dsimp only)); refine Kd.R_lit (Kd.int .i64) _ 3 ?hg (N := 36) ?hd (xs := ([3, 2] : List Int)) (inner := [.int .i64 3, .int .i64 2]) (ok := fun _ => True) (okp := fun _ => True) ?hr ?hp (fun _ hk => hk) trivial (Below.refl _ _) (Nat.le_refl _) (by simp) ?_; (case hd => rfl); (case hg => rfl); (case hr => first | (go_simp; done) | (go_simp; rfl)); (case hp => exact (Reps.one (show Kd.M (Kd.int .i64) _ _ _ 3 [.int .i64 3] from rfl) (Reps.one (show Kd.M (Kd.int .i64) _ _ _ 2 [.int .i64 2] from rfl) (Reps.none _ _)))); intro v141 w43 ho44 hb hg_ hnew_; clear hg_ hnew_; (first | rw [← Ny140.out] at ho44 | (simp only [Int.reduceToNat] at ho44; rw [← Ny140.out] at ho44)); replace HO106 := Aside0.mk (Kd.R_below (by (with_reducible repeat (first | apply Kd.R_alloc | apply Kd.R_drewN | apply Kd.R_drew)); exact (Kd.R_mono (Kd.R_far (p := ⟨gb139, 1, none⟩) (Kd.R_far (p := ⟨gb139, 0, none⟩) (Kd.R_types HO106.out BK139.out (by decide)) (fun _ hk => hk.2) (.slice Ao38 t132.length co38)) (fun _ hk => hk.2) (.slice Ao42 t135.length co42)) (fun _ h_ => h_.1))) hb); replace HO112 := Aside0.mk (Kd.R_below (by (with_reducible repeat (first | apply Kd.R_alloc | apply Kd.R_drewN | apply Kd.R_drew)); exact (Kd.R_mono (Kd.R_far (p := ⟨gb139, 1, none⟩) (Kd.R_far (p := ⟨gb139, 0, none⟩) (Kd.R_types HO112.out BK139.out (by decide)) (fun _ hk => hk.2) (.slice Ao38 t132.length co38)) (fun _ hk => hk.2) (.slice Ao42 t135.length co42)) (fun _ h_ => h_.1))) hb); replace HO123 := Aside0.mk (Kd.R_below (by (with_reducible repeat (first | apply Kd.R_alloc | apply Kd.R_drewN | apply Kd.R_drew)); exact (Kd.R_mono (Kd.R_far (p := ⟨gb139, 1, none⟩) (Kd.R_far (p := ⟨gb139, 0, none⟩) (Kd.R_types HO123.out BK139.out (by decide)) (fun _ hk => hk.2) (.slice Ao38 t132.length co38)) (fun _ hk => hk.2) (.slice Ao42 t135.length co42)) (fun _ h_ => h_.1))) hb); replace HO129 := Aside0.mk (Kd.R_below (by (with_reducible repeat (first | apply Kd.R_alloc | apply Kd.R_drewN | apply Kd.R_drew)); exact (Kd.R_mono (Kd.R_far (p := ⟨gb139, 1, none⟩) (Kd.R_far (p := ⟨gb139, 0, none⟩) (Kd.R_types HO129.out BK139.out (by decide)) (fun _ hk => hk.2) (.slice Ao38 t132.length co38)) (fun _ hk => hk.2) (.slice Ao42 t135.length co42)) (fun _ h_ => h_.1))) hb); replace HO137 := Aside0.mk (Kd.R_below (by (with_reducible repeat (first | apply Kd.R_alloc | apply Kd.R_drewN | apply Kd.R_drew)); exact (Kd.R_mono (Kd.R_far (p := ⟨gb139, 1, none⟩) (Kd.R_far (p := ⟨gb139, 0, none⟩) (Kd.R_types HO137.out BK139.out (by decide)) (fun _ hk => hk.2) (.slice Ao38 t132.length co38)) (fun _ hk => hk.2) (.slice Ao42 t135.length co42)) (fun _ h_ => h_.1))) hb); have HO142 := Aside0.mk (Kd.R_lower (Kd.R_new' (Kd.R_new' (Kd.R_new' (Kd.R_new' (Kd.R_new' (Kd.R_new' ho44 (Kd.R_lt (by (with_reducible repeat (first | apply Kd.R_alloc | apply Kd.R_drewN | apply Kd.R_drew)); exact (Kd.R_mono (Kd.R_far (p := ⟨gb139, 1, none⟩) (Kd.R_far (p := ⟨gb139, 0, none⟩) (Kd.R_types HO103.out BK139.out (by decide)) (fun _ hk => hk.2) (.slice Ao38 t132.length co38)) (fun _ hk => hk.2) (.slice Ao42 t135.length co42)) (fun _ h_ => h_.1))))) (Kd.R_lt (by (with_reducible repeat (first | apply Kd.R_alloc | apply Kd.R_drewN | apply Kd.R_drew)); exact (Kd.R_mono (Kd.R_far (p := ⟨gb139, 1, none⟩) (Kd.R_far (p := ⟨gb139, 0, none⟩) (Kd.R_types HO109.out BK139.out (by decide)) (fun _ hk => hk.2) (.slice Ao38 t132.length co38)) (fun _ hk => hk.2) (.slice Ao42 t135.length co42)) (fun _ h_ => h_.1))))) (Kd.R_lt (by (with_reducible repeat (first | apply Kd.R_alloc | apply Kd.R_drewN | apply Kd.R_drew)); exact (Kd.R_mono (Kd.R_far (p := ⟨gb139, 1, none⟩) (Kd.R_far (p := ⟨gb139, 0, none⟩) (Kd.R_types HO117.out BK139.out (by decide)) (fun _ hk => hk.2) (.slice Ao38 t132.length co38)) (fun _ hk => hk.2) (.slice Ao42 t135.length co42)) (fun _ h_ => h_.1))))) (Kd.R_lt (by (with_reducible repeat (first | apply Kd.R_alloc | apply Kd.R_drewN | apply Kd.R_drew)); exact (Kd.R_mono (Kd.R_far (p := ⟨gb139, 1, none⟩) (Kd.R_far (p := ⟨gb139, 0, none⟩) (Kd.R_types HO120.out BK139.out (by decide)) (fun _ hk => hk.2) (.slice Ao38 t132.length co38)) (fun _ hk => hk.2) (.slice Ao42 t135.length co42)) (fun _ h_ => h_.1))))) (Kd.R_lt (by (with_reducible repeat (first | apply Kd.R_alloc | apply Kd.R_drewN | apply Kd.R_drew)); exact (Kd.R_mono (Kd.R_far (p := ⟨gb139, 1, none⟩) (Kd.R_far (p := ⟨gb139, 0, none⟩) (Kd.R_types HO126.out BK139.out (by decide)) (fun _ hk => hk.2) (.slice Ao38 t132.length co38)) (fun _ hk => hk.2) (.slice Ao42 t135.length co42)) (fun _ h_ => h_.1))))) (Kd.R_lt (by (with_reducible repeat (first | apply Kd.R_alloc | apply Kd.R_drewN | apply Kd.R_drew)); exact (Kd.R_mono (Kd.R_far (p := ⟨gb139, 1, none⟩) (Kd.R_far (p := ⟨gb139, 0, none⟩) (Kd.R_types HO134.out BK139.out (by decide)) (fun _ hk => hk.2) (.slice Ao38 t132.length co38)) (fun _ hk => hk.2) (.slice Ao42 t135.length co42)) (fun _ h_ => h_.1))))) Bz_); replace HO103 := Aside0.mk (Kd.R_elder' (by (with_reducible repeat (first | apply Kd.R_alloc | apply Kd.R_drewN | apply Kd.R_drew)); exact (Kd.R_mono (Kd.R_far (p := ⟨gb139, 1, none⟩) (Kd.R_far (p := ⟨gb139, 0, none⟩) (Kd.R_types HO103.out BK139.out (by decide)) (fun _ hk => hk.2) (.slice Ao38 t132.length co38)) (fun _ hk => hk.2) (.slice Ao42 t135.length co42)) (fun _ h_ => h_.1))) (Kd.R_base ho44) hb); replace HO109 := Aside0.mk (Kd.R_elder' (by (with_reducible repeat (first | apply Kd.R_alloc | apply Kd.R_drewN | apply Kd.R_drew)); exact (Kd.R_mono (Kd.R_far (p := ⟨gb139, 1, none⟩) (Kd.R_far (p := ⟨gb139, 0, none⟩) (Kd.R_types HO109.out BK139.out (by decide)) (fun _ hk => hk.2) (.slice Ao38 t132.length co38)) (fun _ hk => hk.2) (.slice Ao42 t135.length co42)) (fun _ h_ => h_.1))) (Kd.R_base ho44) hb); replace HO117 := Aside0.mk (Kd.R_elder' (by (with_reducible repeat (first | apply Kd.R_alloc | apply Kd.R_drewN | apply Kd.R_drew)); exact (Kd.R_mono (Kd.R_far (p := ⟨gb139, 1, none⟩) (Kd.R_far (p := ⟨gb139, 0, none⟩) (Kd.R_types HO117.out BK139.out (by decide)) (fun _ hk => hk.2) (.slice Ao38 t132.length co38)) (fun _ hk => hk.2) (.slice Ao42 t135.length co42)) (fun _ h_ => h_.1))) (Kd.R_base ho44) hb); replace HO120 := Aside0.mk (Kd.R_elder' (by (with_reducible repeat (first | apply Kd.R_alloc | apply Kd.R_drewN | apply Kd.R_drew)); exact (Kd.R_mono (Kd.R_far (p := ⟨gb139, 1, none⟩) (Kd.R_far (p := ⟨gb139, 0, none⟩) (Kd.R_types HO120.out BK139.out (by decide)) (fun _ hk => hk.2) (.slice Ao38 t132.length co38)) (fun _ hk => hk.2) (.slice Ao42 t135.length co42)) (fun _ h_ => h_.1))) (Kd.R_base ho44) hb); replace HO126 := Aside0.mk (Kd.R_elder' (by (with_reducible repeat (first | apply Kd.R_alloc | apply Kd.R_drewN | apply Kd.R_drew)); exact (Kd.R_mono (Kd.R_far (p := ⟨gb139, 1, none⟩) (Kd.R_far (p := ⟨gb139, 0, none⟩) (Kd.R_types HO126.out BK139.out (by decide)) (fun _ hk => hk.2) (.slice Ao38 t132.length co38)) (fun _ hk => hk.2) (.slice Ao42 t135.length co42)) (fun _ h_ => h_.1))) (Kd.R_base ho44) hb); replace HO134 := Aside0.mk (Kd.R_elder' (by (with_reducible repeat (first | apply Kd.R_alloc | apply Kd.R_drewN | apply Kd.R_drew)); exact (Kd.R_mono (Kd.R_far (p := ⟨gb139, 1, none⟩) (Kd.R_far (p := ⟨gb139, 0, none⟩) (Kd.R_types HO134.out BK139.out (by decide)) (fun _ hk => hk.2) (.slice Ao38 t132.length co38)) (fun _ hk => hk.2) (.slice Ao42 t135.length co42)) (fun _ h_ => h_.1))) (Kd.R_base ho44) hb); replace BK114 := Aside0.mk (blk_below (g := gb114) (o := .cells #[.slice Ao15 t107.length co15, .slice Ao17 t110.length co17] 25 (0, 0)) (by (with_reducible repeat (first | refine blk_drewN ?_ _ | refine blk_drew ?_ | refine blk_alloc ?_ _)); refine blk_far ?_ NB114_139.out _; (with_reducible repeat (first | refine blk_drewN ?_ _ | refine blk_drew ?_ | refine blk_alloc ?_ _)); refine blk_far ?_ NB114_139.out _; (with_reducible repeat (first | refine blk_drewN ?_ _ | refine blk_drew ?_ | refine blk_alloc ?_ _)); exact BK114.out) hb); replace BK131 := Aside0.mk (blk_below (g := gb131) (o := .cells #[.slice Ao29 t124.length co29, .slice Ao31 t127.length co31] 25 (0, 0)) (by (with_reducible repeat (first | refine blk_drewN ?_ _ | refine blk_drew ?_ | refine blk_alloc ?_ _)); refine blk_far ?_ NB131_139.out _; (with_reducible repeat (first | refine blk_drewN ?_ _ | refine blk_drew ?_ | refine blk_alloc ?_ _)); refine blk_far ?_ NB131_139.out _; (with_reducible repeat (first | refine blk_drewN ?_ _ | refine blk_drew ?_ | refine blk_alloc ?_ _)); exact BK131.out) hb); replace BK139 := Aside0.mk (blk_below (g := gb139) (o := .cells #[.slice Ao38 t132.length co38, .slice Ao42 t135.length co42] 25 (0, 0)) (by (with_reducible repeat (first | refine blk_drewN ?_ _ | refine blk_drew ?_ | refine blk_alloc ?_ _)); refine blk_put (cs := #[.slice Ao38 t132.length co38, .slice none 0 0]) ?_ 1 _ rfl; (with_reducible repeat (first | refine blk_drewN ?_ _ | refine blk_drew ?_ | refine blk_alloc ?_ _)); refine blk_put (cs := #[.slice none 0 0, .slice none 0 0]) ?_ 0 _ rfl; (with_reducible repeat (first | refine blk_drewN ?_ _ | refine blk_drew ?_ | refine blk_alloc ?_ _)); exact BK139.out) hb); replace HB := Bs_ hb; clear hb ho44) | ((with_reducible refine gate_dst (N := 37) rfl ?_); (try (refine gate_guard (by rfl) ?_; dsimp only)); refine Kd.R_lit Kd.string _ 9 ?hg (N := 37) ?hd (xs := ([(⟨#[48]⟩ : ByteArray), (⟨#[51]⟩ : ByteArray), (⟨#[49]⟩ : ByteArray), (⟨#[52]⟩ : ByteArray), (⟨#[50]⟩ : ByteArray), (⟨#[53]⟩ : ByteArray)] : List ByteArray)) (inner := [.string (⟨#[48]⟩ : ByteArray), .string (⟨#[51]⟩ : ByteArray), .string (⟨#[49]⟩ : ByteArray), .string (⟨#[52]⟩ : ByteArray), .string (⟨#[50]⟩ : ByteArray), .string (⟨#[53]⟩ : ByteArray)]) (ok := fun _ => True) (okp := fun _ => True) ?hr ?hp (fun _ hk => hk) trivial (Below.refl _ _) (Nat.le_refl _) (by simp) ?_; (case hd => rfl); (case hg => rfl); (case hr => first | (go_simp; done) | (go_simp; rfl)); (case hp => exact (Reps.one (show Kd.M Kd.string _ _ _ (⟨#[48]⟩ : ByteArray) [.string (⟨#[48]⟩ : ByteArray)] from rfl) (Reps.one (show Kd.M Kd.string _ _ _ (⟨#[51]⟩ : ByteArray) [.string (⟨#[51]⟩ : ByteArray)] from rfl) (Reps.one (show Kd.M Kd.string _ _ _ (⟨#[49]⟩ : ByteArray) [.string (⟨#[49]⟩ : ByteArray)] from rfl) (Reps.one (show Kd.M Kd.string _ _ _ (⟨#[52]⟩ : ByteArray) [.string (⟨#[52]⟩ : ByteArray)] from rfl) (Reps.one (show Kd.M Kd.string _ _ _ (⟨#[50]⟩ : ByteArray) [.string (⟨#[50]⟩ : ByteArray)] from rfl) (Reps.one (show Kd.M Kd.string _ _ _ (⟨#[53]⟩ : ByteArray) [.string (⟨#[53]⟩ : ByteArray)] from rfl) (Reps.none _ _)))))))); intro v144 w45 ho46 hb hg_ hnew_; clear hg_ hnew_; (first | rw [← Ny143.out] at ho46 | (simp only [Int.reduceToNat] at ho46; rw [← Ny143.out] at ho46)); replace HO103 := Aside0.mk (Kd.R_below (Pr_ HO103.out) hb); replace HO109 := Aside0.mk (Kd.R_below (Pr_ HO109.out) hb); replace HO117 := Aside0.mk (Kd.R_below (Pr_ HO117.out) hb); replace HO120 := Aside0.mk (Kd.R_below (Pr_ HO120.out) hb); replace HO126 := Aside0.mk (Kd.R_below (Pr_ HO126.out) hb); replace HO134 := Aside0.mk (Kd.R_below (Pr_ HO134.out) hb); replace HO142 := Aside0.mk (Kd.R_below (Pr_ HO142.out) hb); have HO145 := Aside0.mk (Kd.R_lower (Kd.R_new' (Kd.R_new' (Kd.R_new' (Kd.R_new' (Kd.R_new' ho46 (Kd.R_lt (Pr_ HO106.out))) (Kd.R_lt (Pr_ HO112.out))) (Kd.R_lt (Pr_ HO123.out))) (Kd.R_lt (Pr_ HO129.out))) (Kd.R_lt (Pr_ HO137.out))) Bz_); replace HO106 := Aside0.mk (Kd.R_elder' (Pr_ HO106.out) (Kd.R_base ho46) hb); replace HO112 := Aside0.mk (Kd.R_elder' (Pr_ HO112.out) (Kd.R_base ho46) hb); replace HO123 := Aside0.mk (Kd.R_elder' (Pr_ HO123.out) (Kd.R_base ho46) hb); replace HO129 := Aside0.mk (Kd.R_elder' (Pr_ HO129.out) (Kd.R_base ho46) hb); replace HO137 := Aside0.mk (Kd.R_elder' (Pr_ HO137.out) (Kd.R_base ho46) hb); replace BK114 := kb_ BK114 hb; replace BK131 := kb_ BK131 hb; replace BK139 := kb_ BK139 hb; replace HB := Bs_ hb; clear hb ho46; obtain ⟨Ao47, co47, eo47⟩ := Kd.R_slice HO145.out; subst eo47; obtain ⟨Ao48, co48, eo48⟩ := Kd.R_slice HO142.out; subst eo48) | (go_at_call 24; (with_reducible refine (val_Same.calls k _ _ t132 _ _ t135 _ _ y140 _ _ y143 t146 _ ?side1 ?side2 ?side3 ?side4 ?side5 ?side6 ?side7 ?side8 A9.out).mono ?_); (case side1 => exact Pc_ ((Kd.R_reads' HO134.out).2.2)); (case side2 => exact (Kd.R_reads' HO134.out).2.1); (case side3 => exact Pc_ ((Kd.R_reads' HO137.out).2.2)); (case side4 => exact (Kd.R_reads' HO137.out).2.1); (case side5 => exact Pc_ ((Kd.R_reads' HO142.out).2.2)); (case side6 => exact (Kd.R_reads' HO142.out).2.1); (case side7 => exact Pc_ ((Kd.R_reads' HO145.out).2.2)); (case side8 => exact (Kd.R_reads' HO145.out).2.1); rintro e w49 ⟨rfl, hb⟩; replace HO103 := Aside0.mk (Kd.R_below (Pr_ HO103.out) hb); replace HO106 := Aside0.mk (Kd.R_below (Pr_ HO106.out) hb); replace HO109 := Aside0.mk (Kd.R_below (Pr_ HO109.out) hb); replace HO112 := Aside0.mk (Kd.R_below (Pr_ HO112.out) hb); replace HO117 := Aside0.mk (Kd.R_below (Pr_ HO117.out) hb); replace HO120 := Aside0.mk (Kd.R_below (Pr_ HO120.out) hb); replace HO123 := Aside0.mk (Kd.R_below (Pr_ HO123.out) hb); replace HO126 := Aside0.mk (Kd.R_below (Pr_ HO126.out) hb); replace HO129 := Aside0.mk (Kd.R_below (Pr_ HO129.out) hb); replace HO134 := Aside0.mk (Kd.R_below (Pr_ HO134.out) hb); replace HO137 := Aside0.mk (Kd.R_below (Pr_ HO137.out) hb); replace HO142 := Aside0.mk (Kd.R_below (Pr_ HO142.out) hb); replace HO145 := Aside0.mk (Kd.R_below (Pr_ HO145.out) hb); replace BK114 := kb_ BK114 hb; replace BK131 := kb_ BK131 hb; replace BK139 := kb_ BK139 hb; replace HB := Bs_ hb; (try clear hb); (try clear hb2); (try clear hk); (try clear hi)))
        go_ret
        exact ⟨Re_, Bl_⟩
      · rw [if_neg c8] at H
        exact absurd H (by simp)
    · rw [if_neg c7] at H
      exact absurd H (by simp)
  · rw [if_neg c6] at H
    exact absurd H (by simp)

theorem reredoslaw14_shown.told : reredoslaw14_shown.f 40 = some true := by decide +kernel
def reredoslaw14_shownC.f : Option Bool := some true
theorem reredoslaw14_shownC.calls (r : Bool) (w : World) (h : reredoslaw14_shownC.f = some r) (hG : Glob w) : Calls Tryd.prog 20 #[] w fun e w' => e = .returned (.bool r) ∧ Below w.heap.size w w' := by
  obtain rfl := Option.some.inj h
  exact reredoslaw14_shown.calls 40 true w reredoslaw14_shown.told hG

end Go.Proofs.YtfjilihppnndkaaDoor.P
