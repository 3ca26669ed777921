-- Written by drive.py of this claim's own session, by way of the kit's print. Lean checks it.
import Derived.Test.YtfjilihppnndkaaDoorTN1
import Derived.Test.YtfjilihppnndkaaDoorTN5
namespace Go.Proofs.YtfjilihppnndkaaDoor.P
open Go.RowKit Go.Proofs.YtfjilihppnndkaaDoorW.PrintWords Go.Proofs.YtfjilihppnndkaaDoorW.PrintLast Go.Proofs.YtfjilihppnndkaaDoorW.PrintMore
attribute [local go_sem] max2_int min2_int max_two min_two max_three min_three max_four min_four   -- for this text's walks alone
set_option linter.unusedVariables false
set_option linter.unusedSimpArgs false

/-! ### reredosref05_Pack: function 12 -/
def reredosref05_Pack.f (k : Nat) (l0_0 : List Int) (l0_1 : List ByteArray) : Option (Int × List Int × ByteArray × Int) := (reredosref04_May.f k l0_0 l0_1).bind fun t297 => (if t297 = true then ((reredosref04_Width.f k l0_0 l0_1).bind fun t298 => (if t298 > 64 then (some (0, ([] : List Int), (⟨#[]⟩ : ByteArray), 8)) else ((reredosref05_lay.f k l0_0 l0_1 t298).bind fun bt299 => (some (bt299.1, bt299.2.1, bt299.2.2, 0))))) else (some (0, ([] : List Int), (⟨#[]⟩ : ByteArray), 1)))
set_option maxHeartbeats 8000000 in
set_option maxRecDepth 100000 in
theorem reredosref05_Pack.calls (k : Nat) (P0_0_ : Nat → Prop) (A0_0 : Option Addr) (c0_0 : Nat) (l0_0 : List Int) (A0_1 : Option Addr) (c0_1 : Nat) (l0_1 : List ByteArray) (r1 : Int) (r2 : List Int) (r3 : ByteArray) (r4 : Int) (w : World) (hs0_0 : Kd.V (Kd.int .i64) 3 w w.heap.size (fun k_ => P0_0_ k_) (.slice A0_0 l0_0.length c0_0) l0_0) (hr0_1 : Kd.C Kd.string w A0_1 l0_1.length l0_1) (hc0_1 : l0_1.length ≤ c0_1) (h : reredosref05_Pack.f k l0_0 l0_1 = some (r1, r2, r3, r4)) :
    Calls Tryd.prog 12 #[.agg #[.slice A0_0 l0_0.length c0_0, .slice A0_1 l0_1.length c0_1]] w fun e w' => ∃ v1_ : Value, e = .returned (.tuple #[.agg #[.int .i64 r1, v1_, .string r3], .int .i64 r4]) ∧ Kd.V (Kd.int .i64) 3 w' w.heap.size (fun k_ => (P0_0_ k_ ∨ w.heap.size ≤ k_)) v1_ r2 ∧ Below w.heap.size w w' := by
  have hu25 := Tryd.underlying25
  have hu33 := Tryd.underlying33
  have HO0_0 := Aside0.mk (show Kd.V (Kd.int .i64) 3 w w.heap.size (fun k_ => (P0_0_ k_ ∨ w.heap.size ≤ k_)) (.slice A0_0 l0_0.length c0_0) l0_0 from Kd.V_mono hs0_0 (fun k_ hk => .inl hk))
  have HR0_1 := Aside0.mk hr0_1
  have HC0_1 := Aside0.mk hc0_1
  clear hr0_1 hc0_1
  have HB := Aside0.mk (Below.refl w.heap.size w)
  have H : ((reredosref04_May.f k l0_0 l0_1).bind fun t297 => (if t297 = true then ((reredosref04_Width.f k l0_0 l0_1).bind fun t298 => (if t298 > 64 then (some (0, ([] : List Int), (⟨#[]⟩ : ByteArray), 8)) else ((reredosref05_lay.f k l0_0 l0_1 t298).bind fun bt299 => (some (bt299.1, bt299.2.1, bt299.2.2, 0))))) else (some (0, ([] : List Int), (⟨#[]⟩ : ByteArray), 1)))) = some (r1, r2, r3, r4) := h
  clear h
  obtain ⟨t297, A2, H⟩ := bnd_ H
  try dsimp -simprocs only at H
  by_cases c3 : t297 = true
  · subst c3
    have H1 : ((reredosref04_Width.f k l0_0 l0_1).bind fun t298 => (if t298 > 64 then (some (0, ([] : List Int), (⟨#[]⟩ : ByteArray), 8)) else ((reredosref05_lay.f k l0_0 l0_1 t298).bind fun bt299 => (some (bt299.1, bt299.2.1, bt299.2.2, 0))))) = some (r1, r2, r3, r4) := by rw [if_pos rfl] at H; exact H
    clear H
    have H := H1
    clear H1
    obtain ⟨t298, A4, H⟩ := bnd_ H
    try dsimp -simprocs only at H
    by_cases c5 : t298 > 64
    · rw [if_pos c5] at H
      have c5b0 : decide (64 < t298) = true := decide_eq_true c5
      clear c5
      simp only [Option.some.injEq, Prod.mk.injEq] at H
      obtain ⟨rfl, rfl, rfl, rfl⟩ := H
      go_enter Tryd.func12, Tryd.ntmps12
      go_wp2_with (first | ((with_reducible refine gate_dst (N := 1) rfl ?_); refine bx_ 1 #[.slice A0_0 l0_0.length c0_0, .slice A0_1 l0_1.length c0_1] 25 ?_; intro gb295 hg w6 hbox hb; replace HO0_0 := Aside0.mk (Kd.V_below (Kd.V_elderB (Pv_ HO0_0.out) gb295 (Nat.le_of_eq hg.symm)) hb); have BK295 := Aside0.mk (hbox); have GW295 := (Bg_ hg : Aside0 (w.heap.size ≤ gb295)); have GE295 := (Bg_ hg : Aside0 (w.heap.size ≤ gb295)); replace HB := Bs_ hb; clear hb hbox hg) | ((with_reducible refine gate_dst (N := 2) rfl ?_); refine bx_ 2 #[.int .i64 0, .slice none 0 0, .string (⟨#[]⟩ : ByteArray)] 33 ?_; intro gb296 hg w7 hbox hb; replace HO0_0 := Aside0.mk (Kd.V_below (Kd.V_elderB (Pv_ HO0_0.out) gb296 (Nat.le_of_eq hg.symm)) hb); have BK296 := Aside0.mk (hbox); have GW296 := (Bg_ hg : Aside0 (w.heap.size ≤ gb296)); have GE296 := (Bg_ hg : Aside0 (w.heap.size ≤ gb296)); replace HB := Bs_ hb; have NB295_296 := nl_ hg BK295; have NB296_295 := ng_ hg BK295; replace BK295 := kb_ BK295 hb; clear hb hbox hg; have hnb8 := NB295_296.out; have hnc8 := NB296_295.out; obtain ⟨hcz9_0, hcz9_1⟩ := c2_ BK295; obtain ⟨hfz9_0, hfz9_1⟩ := f2_ BK295) | ((with_reducible refine gate_callee (f := 39) rfl ?_); refine goesL_ (some 6) rfl rfl Tryd.func39 (by kernel_rfl) rfl #[.agg #[.slice A0_0 l0_0.length c0_0, .slice A0_1 l0_1.length c0_1]] rfl Ga_ ?_; (with_reducible refine (reredosref04_May.calls k _ _ l0_0 _ _ l0_1 true _ ?side1 ?side2 ?side3 ?side4 A2.out).mono ?_); (case side1 => exact Pc_ ((Kd.V_reads' HO0_0.out).2.2)); (case side2 => exact (Kd.V_reads' HO0_0.out).2.1); (case side3 => exact Pc_ (Kd.C_below HR0_1.out HB.out)); (case side4 => exact HC0_1.out); rintro e w10 ⟨rfl, hb⟩; refine ⟨_, rfl, ?_⟩; replace HO0_0 := Aside0.mk (Kd.V_below (Pv_ HO0_0.out) hb); replace BK295 := kb_ BK295 hb; replace BK296 := kb_ BK296 hb; replace HB := Bs_ hb; (try clear hb); (try clear hb2); (try clear hk); (try clear hi); obtain ⟨hcz11_0, hcz11_1⟩ := c2_ BK295; obtain ⟨hfz11_0, hfz11_1⟩ := f2_ BK295) | ((with_reducible refine gate_callee (f := 40) rfl ?_); refine goesL_ (some 10) rfl rfl Tryd.func40 (by kernel_rfl) rfl #[.agg #[.slice A0_0 l0_0.length c0_0, .slice A0_1 l0_1.length c0_1]] rfl Ga_ ?_; (with_reducible refine (reredosref04_Width.calls k _ _ l0_0 _ _ l0_1 t298 _ ?side1 ?side2 ?side3 ?side4 A4.out).mono ?_); (case side1 => exact Pc_ ((Kd.V_reads' HO0_0.out).2.2)); (case side2 => exact (Kd.V_reads' HO0_0.out).2.1); (case side3 => exact Pc_ (Kd.C_below HR0_1.out HB.out)); (case side4 => exact HC0_1.out); rintro e w12 ⟨rfl, hb⟩; refine ⟨_, rfl, ?_⟩; replace HO0_0 := Aside0.mk (Kd.V_below (Pv_ HO0_0.out) hb); replace BK295 := kb_ BK295 hb; replace BK296 := kb_ BK296 hb; replace HB := Bs_ hb; (try clear hb); (try clear hb2); (try clear hk); (try clear hi); obtain ⟨hcz13_0, hcz13_1, hcz13_2⟩ := c3_ BK296; obtain ⟨hfz13_0, hfz13_1, hfz13_2⟩ := f3_ BK296))
      refine bodyPost_ret (results_ct rfl _ _ gb296 33 #[.int .i64 0, .slice none 0 0, .string (⟨#[]⟩ : ByteArray)] (0, 0) _ rfl (by (with_reducible repeat (first | refine blk_drewN ?_ _ | refine blk_drew ?_ | refine blk_alloc ?_ _)); refine blk_put (cs := #[.int .i64 0, .slice none 0 0, .string (⟨#[]⟩ : ByteArray)]) ?_ 2 _ rfl; (with_reducible repeat (first | refine blk_drewN ?_ _ | refine blk_drew ?_ | refine blk_alloc ?_ _)); refine blk_put (cs := #[.int .i64 0, .slice none 0 0, .string (⟨#[]⟩ : ByteArray)]) ?_ 1 _ rfl; (with_reducible repeat (first | refine blk_drewN ?_ _ | refine blk_drew ?_ | refine blk_alloc ?_ _)); refine blk_put (cs := #[.int .i64 0, .slice none 0 0, .string (⟨#[]⟩ : ByteArray)]) ?_ 0 _ rfl; (with_reducible repeat (first | refine blk_drewN ?_ _ | refine blk_drew ?_ | refine blk_alloc ?_ _)); exact BK296.out) Tryd.underlying33 rfl (by kernel_rfl)) rfl ?_
      exact ⟨_, Re_, (Kd.V_nil _ _ _ _ _), Bl_⟩
    · rw [if_neg c5] at H
      have c5b0 : decide (64 < t298) = false := decide_eq_false c5
      clear c5
      obtain ⟨⟨t299, t300, t303⟩, A14, H⟩ := bnd_ H
      try dsimp -simprocs only at H
      simp only [Option.some.injEq, Prod.mk.injEq] at H
      obtain ⟨rfl, rfl, rfl, rfl⟩ := H
      go_enter Tryd.func12, Tryd.ntmps12
      go_wp2_with (first | ((with_reducible refine gate_dst (N := 1) rfl ?_); refine bx_ 1 #[.slice A0_0 l0_0.length c0_0, .slice A0_1 l0_1.length c0_1] 25 ?_; intro gb295 hg w15 hbox hb; replace HO0_0 := Aside0.mk (Kd.V_below (Kd.V_elderB (Pv_ HO0_0.out) gb295 (Nat.le_of_eq hg.symm)) hb); have BK295 := Aside0.mk (hbox); have GW295 := (Bg_ hg : Aside0 (w.heap.size ≤ gb295)); have GE295 := (Bg_ hg : Aside0 (w.heap.size ≤ gb295)); replace HB := Bs_ hb; clear hb hbox hg) | ((with_reducible refine gate_dst (N := 2) rfl ?_); refine bx_ 2 #[.int .i64 0, .slice none 0 0, .string (⟨#[]⟩ : ByteArray)] 33 ?_; intro gb296 hg w16 hbox hb; replace HO0_0 := Aside0.mk (Kd.V_below (Kd.V_elderB (Pv_ HO0_0.out) gb296 (Nat.le_of_eq hg.symm)) hb); have BK296 := Aside0.mk (hbox); have GW296 := (Bg_ hg : Aside0 (w.heap.size ≤ gb296)); have GE296 := (Bg_ hg : Aside0 (w.heap.size ≤ gb296)); replace HB := Bs_ hb; have NB295_296 := nl_ hg BK295; have NB296_295 := ng_ hg BK295; replace BK295 := kb_ BK295 hb; clear hb hbox hg; have hnb17 := NB295_296.out; have hnc17 := NB296_295.out; obtain ⟨hcz18_0, hcz18_1⟩ := c2_ BK295; obtain ⟨hfz18_0, hfz18_1⟩ := f2_ BK295) | ((with_reducible refine gate_callee (f := 39) rfl ?_); refine goesL_ (some 6) rfl rfl Tryd.func39 (by kernel_rfl) rfl #[.agg #[.slice A0_0 l0_0.length c0_0, .slice A0_1 l0_1.length c0_1]] rfl Ga_ ?_; (with_reducible refine (reredosref04_May.calls k _ _ l0_0 _ _ l0_1 true _ ?side1 ?side2 ?side3 ?side4 A2.out).mono ?_); (case side1 => exact Pc_ ((Kd.V_reads' HO0_0.out).2.2)); (case side2 => exact (Kd.V_reads' HO0_0.out).2.1); (case side3 => exact Pc_ (Kd.C_below HR0_1.out HB.out)); (case side4 => exact HC0_1.out); rintro e w19 ⟨rfl, hb⟩; refine ⟨_, rfl, ?_⟩; replace HO0_0 := Aside0.mk (Kd.V_below (Pv_ HO0_0.out) hb); replace BK295 := kb_ BK295 hb; replace BK296 := kb_ BK296 hb; replace HB := Bs_ hb; (try clear hb); (try clear hb2); (try clear hk); (try clear hi); obtain ⟨hcz20_0, hcz20_1⟩ := c2_ BK295; obtain ⟨hfz20_0, hfz20_1⟩ := f2_ BK295) | ((with_reducible refine gate_callee (f := 40) rfl ?_); refine goesL_ (some 10) rfl rfl Tryd.func40 (by kernel_rfl) rfl #[.agg #[.slice A0_0 l0_0.length c0_0, .slice A0_1 l0_1.length c0_1]] rfl Ga_ ?_; (with_reducible refine (reredosref04_Width.calls k _ _ l0_0 _ _ l0_1 t298 _ ?side1 ?side2 ?side3 ?side4 A4.out).mono ?_); (case side1 => exact Pc_ ((Kd.V_reads' HO0_0.out).2.2)); (case side2 => exact (Kd.V_reads' HO0_0.out).2.1); (case side3 => exact Pc_ (Kd.C_below HR0_1.out HB.out)); (case side4 => exact HC0_1.out); rintro e w21 ⟨rfl, hb⟩; refine ⟨_, rfl, ?_⟩; replace HO0_0 := Aside0.mk (Kd.V_below (Pv_ HO0_0.out) hb); replace BK295 := kb_ BK295 hb; replace BK296 := kb_ BK296 hb; replace HB := Bs_ hb; (try clear hb); (try clear hb2); (try clear hk); (try clear hi); obtain ⟨hcz22_0, hcz22_1⟩ := c2_ BK295; obtain ⟨hfz22_0, hfz22_1⟩ := f2_ BK295) | ((with_reducible refine gate_callee (f := 41) rfl ?_); refine goesL_ (some 16) rfl rfl Tryd.func41 (by kernel_rfl) rfl #[.agg #[.slice A0_0 l0_0.length c0_0, .slice A0_1 l0_1.length c0_1], .int .i64 t298] rfl Ga_ ?_; (with_reducible refine (reredosref05_lay.calls k (fun k_ => (((P0_0_ k_ ∨ w.heap.size ≤ k_) ∧ k_ ≠ gb295) ∧ k_ ≠ gb296)) _ _ l0_0 _ _ l0_1 t298 t299 t300 t303 _ ?side1 ?side2 ?side3 A14.out).mono ?_); (case side1 => exact HO0_0.out); (case side2 => exact Pc_ (Kd.C_below HR0_1.out HB.out)); (case side3 => exact HC0_1.out); rintro e w23 ⟨v301, rfl, ho0, hb⟩; refine ⟨_, rfl, ?_⟩; replace HO0_0 := Aside0.mk (Kd.V_below (Pv_ HO0_0.out) hb); have HO302 := Aside0.mk (Kd.V_lower (Kd.V_mono (ok' := fun k_ => (P0_0_ k_ ∨ w.heap.size ≤ k_) ∧ k_ ≠ gb295 ∧ k_ ≠ gb296) ho0 (fun k_ hk_ => ⟨Or.elim hk_ (fun hs_ => hs_.1.1) (fun hn_ => (.inr (Nat.le_trans Bz_ hn_))), Or.elim hk_ (fun hs_ => hs_.1.2) (fun hn_ => (Kd.freshB (g := gb295) (o := .cells #[.slice A0_0 l0_0.length c0_0, .slice A0_1 l0_1.length c0_1] 25 (0, 0)) (Bk_ BK295.out) k_ hn_)), Or.elim hk_ (fun hs_ => hs_.2) (fun hn_ => (Kd.freshB (g := gb296) (o := .cells #[.int .i64 0, .slice none 0 0, .string (⟨#[]⟩ : ByteArray)] 33 (0, 0)) (Bk_ BK296.out) k_ hn_))⟩)) Bz_); replace BK295 := kb_ BK295 hb; replace BK296 := kb_ BK296 hb; replace HB := Bs_ hb; (try clear hb); (try clear hb2); (try clear hk); (try clear hi); (try clear ho0); obtain ⟨hcz24_0, hcz24_1, hcz24_2⟩ := c3_ BK296; obtain ⟨hfz24_0, hfz24_1, hfz24_2⟩ := f3_ BK296; obtain ⟨Ao25, co25, eo25⟩ := Kd.V_slice HO302.out; subst eo25))
      refine bodyPost_ret (results_ct rfl _ _ gb296 33 #[.int .i64 t299, .slice Ao25 t300.length co25, .string t303] (0, 0) _ rfl (by (with_reducible repeat (first | refine blk_drewN ?_ _ | refine blk_drew ?_ | refine blk_alloc ?_ _)); refine blk_put (cs := #[.int .i64 t299, .slice Ao25 t300.length co25, .string (⟨#[]⟩ : ByteArray)]) ?_ 2 _ rfl; (with_reducible repeat (first | refine blk_drewN ?_ _ | refine blk_drew ?_ | refine blk_alloc ?_ _)); refine blk_put (cs := #[.int .i64 t299, .slice none 0 0, .string (⟨#[]⟩ : ByteArray)]) ?_ 1 _ rfl; (with_reducible repeat (first | refine blk_drewN ?_ _ | refine blk_drew ?_ | refine blk_alloc ?_ _)); refine blk_put (cs := #[.int .i64 0, .slice none 0 0, .string (⟨#[]⟩ : ByteArray)]) ?_ 0 _ rfl; (with_reducible repeat (first | refine blk_drewN ?_ _ | refine blk_drew ?_ | refine blk_alloc ?_ _)); exact BK296.out) Tryd.underlying33 rfl (by kernel_rfl)) rfl ?_
      exact ⟨_, Re_, by (with_reducible repeat (first | apply Kd.V_alloc | apply Kd.V_drewN | apply Kd.V_drew)); exact Kd.V_mono (Kd.V_far (p := ⟨gb296, 2, none⟩) (Kd.V_far (p := ⟨gb296, 1, none⟩) (Kd.V_far (p := ⟨gb296, 0, none⟩) (Kd.V_mono HO302.out (fun k_ hk => (⟨hk, hk.2.2⟩ : _ ∧ k_ ≠ gb296))) (fun _ hk => hk.2) (.int .i64 t299)) (fun _ hk => hk.2) (.slice Ao25 t300.length co25)) (fun _ hk => hk.2) (.string t303)) (fun _ hk => hk.1.1), Bl_⟩
  · replace c3 := Bool.eq_false_iff.mpr c3
    subst c3
    have H1 : (some (0, ([] : List Int), (⟨#[]⟩ : ByteArray), 1)) = some (r1, r2, r3, r4) := by rw [if_neg (show ¬ (false = true) by decide)] at H; exact H
    clear H
    have H := H1
    clear H1
    simp only [Option.some.injEq, Prod.mk.injEq] at H
    obtain ⟨rfl, rfl, rfl, rfl⟩ := H
    go_enter Tryd.func12, Tryd.ntmps12
    go_wp2_with (first | ((with_reducible refine gate_dst (N := 1) rfl ?_); refine bx_ 1 #[.slice A0_0 l0_0.length c0_0, .slice A0_1 l0_1.length c0_1] 25 ?_; intro gb295 hg w26 hbox hb; replace HO0_0 := Aside0.mk (Kd.V_below (Kd.V_elderB (Pv_ HO0_0.out) gb295 (Nat.le_of_eq hg.symm)) hb); have BK295 := Aside0.mk (hbox); have GW295 := (Bg_ hg : Aside0 (w.heap.size ≤ gb295)); have GE295 := (Bg_ hg : Aside0 (w.heap.size ≤ gb295)); replace HB := Bs_ hb; clear hb hbox hg) | ((with_reducible refine gate_dst (N := 2) rfl ?_); refine bx_ 2 #[.int .i64 0, .slice none 0 0, .string (⟨#[]⟩ : ByteArray)] 33 ?_; intro gb296 hg w27 hbox hb; replace HO0_0 := Aside0.mk (Kd.V_below (Kd.V_elderB (Pv_ HO0_0.out) gb296 (Nat.le_of_eq hg.symm)) hb); have BK296 := Aside0.mk (hbox); have GW296 := (Bg_ hg : Aside0 (w.heap.size ≤ gb296)); have GE296 := (Bg_ hg : Aside0 (w.heap.size ≤ gb296)); replace HB := Bs_ hb; have NB295_296 := nl_ hg BK295; have NB296_295 := ng_ hg BK295; replace BK295 := kb_ BK295 hb; clear hb hbox hg; have hnb28 := NB295_296.out; have hnc28 := NB296_295.out; obtain ⟨hcz29_0, hcz29_1⟩ := c2_ BK295; obtain ⟨hfz29_0, hfz29_1⟩ := f2_ BK295) | ((with_reducible refine gate_callee (f := 39) rfl ?_); refine goesL_ (some 6) rfl rfl Tryd.func39 (by kernel_rfl) rfl #[.agg #[.slice A0_0 l0_0.length c0_0, .slice A0_1 l0_1.length c0_1]] rfl Ga_ ?_; (with_reducible refine (reredosref04_May.calls k _ _ l0_0 _ _ l0_1 false _ ?side1 ?side2 ?side3 ?side4 A2.out).mono ?_); (case side1 => exact Pc_ ((Kd.V_reads' HO0_0.out).2.2)); (case side2 => exact (Kd.V_reads' HO0_0.out).2.1); (case side3 => exact Pc_ (Kd.C_below HR0_1.out HB.out)); (case side4 => exact HC0_1.out); rintro e w30 ⟨rfl, hb⟩; refine ⟨_, rfl, ?_⟩; replace HO0_0 := Aside0.mk (Kd.V_below (Pv_ HO0_0.out) hb); replace BK295 := kb_ BK295 hb; replace BK296 := kb_ BK296 hb; replace HB := Bs_ hb; (try clear hb); (try clear hb2); (try clear hk); (try clear hi); obtain ⟨hcz31_0, hcz31_1, hcz31_2⟩ := c3_ BK296; obtain ⟨hfz31_0, hfz31_1, hfz31_2⟩ := f3_ BK296))
    refine bodyPost_ret (results_ct rfl _ _ gb296 33 #[.int .i64 0, .slice none 0 0, .string (⟨#[]⟩ : ByteArray)] (0, 0) _ rfl (by (with_reducible repeat (first | refine blk_drewN ?_ _ | refine blk_drew ?_ | refine blk_alloc ?_ _)); refine blk_put (cs := #[.int .i64 0, .slice none 0 0, .string (⟨#[]⟩ : ByteArray)]) ?_ 2 _ rfl; (with_reducible repeat (first | refine blk_drewN ?_ _ | refine blk_drew ?_ | refine blk_alloc ?_ _)); refine blk_put (cs := #[.int .i64 0, .slice none 0 0, .string (⟨#[]⟩ : ByteArray)]) ?_ 1 _ rfl; (with_reducible repeat (first | refine blk_drewN ?_ _ | refine blk_drew ?_ | refine blk_alloc ?_ _)); refine blk_put (cs := #[.int .i64 0, .slice none 0 0, .string (⟨#[]⟩ : ByteArray)]) ?_ 0 _ rfl; (with_reducible repeat (first | refine blk_drewN ?_ _ | refine blk_drew ?_ | refine blk_alloc ?_ _)); exact BK296.out) Tryd.underlying33 rfl (by kernel_rfl)) rfl ?_
    exact ⟨_, Re_, (Kd.V_nil _ _ _ _ _), Bl_⟩
/-! ### reredosref04_Few: function 10 -/
mutual
def reredosref04_Few.l0 : Nat → Int → List Int → List ByteArray → Option (Bool)
  | 0, _, _, _ => none
  | k + 1, x3, x184000, x184001 => if x3 < (x184001.length : Int) then (reredosref04_Few.j1 k x3 (decide (x3 < 301)) x184000 x184001) else (reredosref04_Few.j1 k x3 false x184000 x184001)
def reredosref04_Few.j1 : Nat → Int → Bool → List Int → List ByteArray → Option (Bool)
  | 0, _, _, _, _ => none
  | k + 1, x3, x12, x184000, x184001 => if x12 = true then (if 0 ≤ x3 then (if x3 < (x184001.length : Int) then (if ((rdOf ByteArray.empty x184001 x3).size : Int) > 120 then (some false) else (reredosref04_Few.l0 k (wrap64 (x3 + 1)) x184000 x184001)) else (none)) else (none)) else (if (x184001.length : Int) ≤ 300 then (some (decide ((x184000.length : Int) ≤ 20))) else (some false))
end
def reredosref04_Few.f (k : Nat) (l0_0 : List Int) (l0_1 : List ByteArray) : Option (Bool) := reredosref04_Few.l0 k 0 l0_0 l0_1
set_option maxHeartbeats 8000000 in
set_option maxRecDepth 100000 in
theorem reredosref04_Few.calls (k : Nat) (A0_0 : Option Addr) (c0_0 : Nat) (l0_0 : List Int) (A0_1 : Option Addr) (c0_1 : Nat) (l0_1 : List ByteArray) (r : Bool) (w : World) (hr0_0 : Kd.C (Kd.int .i64) w A0_0 l0_0.length l0_0) (hc0_0 : l0_0.length ≤ c0_0) (hr0_1 : Kd.C Kd.string w A0_1 l0_1.length l0_1) (hc0_1 : l0_1.length ≤ c0_1) (h : reredosref04_Few.f k l0_0 l0_1 = some r) :
    Calls Tryd.prog 10 #[.agg #[.slice A0_0 l0_0.length c0_0, .slice A0_1 l0_1.length c0_1]] w fun e w' => e = .returned (.bool r) ∧ Below w.heap.size w w' := by
  have hu25 := Tryd.underlying25
  have HR0_0 := Aside0.mk hr0_0
  have HC0_0 := Aside0.mk hc0_0
  clear hr0_0 hc0_0
  have HR0_1 := Aside0.mk hr0_1
  have HC0_1 := Aside0.mk hc0_1
  clear hr0_1 hc0_1
  have HB := Aside0.mk (Below.refl w.heap.size w)
  have H : (reredosref04_Few.l0 k 0 l0_0 l0_1) = some r := h
  clear h
  have H' := Aside0.mk H
  clear H
  go_enter Tryd.func10, Tryd.ntmps10
  go_wp2_with (first | ((with_reducible refine gate_dst (N := 1) rfl ?_); (try (refine gate_guard (by rfl) ?_; dsimp only)); refine bx_ 1 #[.slice A0_0 l0_0.length c0_0, .slice A0_1 l0_1.length c0_1] 25 ?_; intro gb183 hg w2 hbox hb; have BK183 := Aside0.mk (hbox); have GW183 := (Bg_ hg : Aside0 (w.heap.size ≤ gb183)); have GE183 := (Bg_ hg : Aside0 (w.heap.size ≤ gb183)); replace HB := Bs_ hb; clear hb hbox hg))
  go_loopg [3] k (fun kq v3 w' => ∃ (x3_1 : Int), v3 = .int .i64 x3_1 ∧ Aside0 (reredosref04_Few.l0 kq x3_1 l0_0 l0_1 = some r) ∧ Aside0 (kq ≤ k) ∧ Aside0 (w'.heap[gb183]? = some (.cells #[(.slice A0_0 l0_0.length c0_0), (.slice A0_1 l0_1.length c0_1)] 25 (0, 0))) ∧ Aside0 (Below w.heap.size w w'))
  case atStart => exact ⟨(0), Rf_, H', ⟨Nat.le_refl _⟩, ⟨by (with_reducible repeat (first | refine blk_drewN ?_ _ | refine blk_drew ?_ | refine blk_alloc ?_ _)); exact BK183.out⟩, ⟨Bl_⟩⟩
  case round =>
    clear H'
    try clear c1
    try clear p2
    obtain ⟨x3_1, rfl, HA, HK1, BK183, HB⟩ := hrel
    cases gk with
    | zero => exact absurd HA.out (by simp [reredosref04_Few.l0])
    | succ k1 =>
      have H := HA.out
      clear HA
      simp only [reredosref04_Few.l0] at H
      have HC3 := Aside0.mk H
      clear H
      go_upto_region 2 with (fail)
      go_cut [12] (fun v12 wc => ∃ (kq : Nat) (x12_2 : Bool), v12 = .bool x12_2 ∧ Aside0 (reredosref04_Few.j1 kq x3_1 x12_2 l0_0 l0_1 = some r) ∧ Aside0 (kq ≤ k1) ∧ Aside0 (wc.heap[gb183]? = some (.cells #[(.slice A0_0 l0_0.length c0_0), (.slice A0_1 l0_1.length c0_1)] 25 (0, 0))) ∧ Aside0 (Below w.heap.size w wc))
      case first =>
        have H := HC3.out
        clear HC3
        by_cases c4 : x3_1 < (l0_1.length : Int)
        · rw [if_pos c4] at H
          have c4b0 : decide (x3_1 < (l0_1.length : Int)) = true := decide_eq_true c4
          clear c4
          (first | rw [c4b0] | (simp only [i64_w, i32_w]; rw [c4b0]) | skip)
          have H' := Aside0.mk H
          clear H
          obtain ⟨hcz5_0, hcz5_1⟩ := c2_ BK183
          obtain ⟨hfz5_0, hfz5_1⟩ := f2_ BK183
          go_wp2
          go_meet
          case rel => exact ⟨_, (decide (x3_1 < 301)), Rf_, H', ⟨by have := HK1.out; first | omega | exact Nat.le_refl _⟩, ⟨by (with_reducible repeat (first | refine blk_drewN ?_ _ | refine blk_drew ?_ | refine blk_alloc ?_ _)); exact BK183.out⟩, ⟨Bl_⟩⟩
        · rw [if_neg c4] at H
          have c4b0 : decide (x3_1 < (l0_1.length : Int)) = false := decide_eq_false c4
          clear c4
          (first | rw [c4b0] | (simp only [i64_w, i32_w]; rw [c4b0]) | skip)
          have H' := Aside0.mk H
          clear H
          obtain ⟨hcz6_0, hcz6_1⟩ := c2_ BK183
          obtain ⟨hfz6_0, hfz6_1⟩ := f2_ BK183
          go_wp2
          go_meet
          case rel => exact ⟨_, (false), Rf_, H', ⟨by have := HK1.out; first | omega | exact Nat.le_refl _⟩, ⟨by (with_reducible repeat (first | refine blk_drewN ?_ _ | refine blk_drew ?_ | refine blk_alloc ?_ _)); exact BK183.out⟩, ⟨Bl_⟩⟩
      case rest =>
        clear HC3
        try clear c1
        try clear p2
        try clear c4
        try clear c4b0
        try clear hcz5_0
        try clear hcz5_1
        try clear hcz6_0
        try clear hcz6_1
        try clear hfz5_0
        try clear hfz5_1
        try clear hfz6_0
        try clear hfz6_1
        try clear p2
        obtain ⟨kq, x12_2, rfl, HA, HJ2, BK183, HB⟩ := hcut
        cases kq with
        | zero => exact absurd HA.out (by simp [reredosref04_Few.j1])
        | succ kj2 =>
          have H := HA.out
          clear HA
          simp only [reredosref04_Few.j1] at H
          by_cases c7 : x12_2 = true
          · subst c7
            have H1 : (if 0 ≤ x3_1 then (if x3_1 < (l0_1.length : Int) then (if ((rdOf ByteArray.empty l0_1 x3_1).size : Int) > 120 then (some false) else (reredosref04_Few.l0 kj2 (wrap64 (x3_1 + 1)) l0_0 l0_1)) else (none)) else (none)) = some r := by rw [if_pos rfl] at H; exact H
            clear H
            have H := H1
            clear H1
            by_cases c8 : 0 ≤ x3_1
            · rw [if_pos c8] at H
              have c8b0 : decide (0 ≤ x3_1) = true := decide_eq_true c8
              clear c8
              by_cases c9 : x3_1 < (l0_1.length : Int)
              · rw [if_pos c9] at H
                have c9b0 : decide (x3_1 < (l0_1.length : Int)) = true := decide_eq_true c9
                clear c9
                by_cases c10 : ((rdOf ByteArray.empty l0_1 x3_1).size : Int) > 120
                · rw [if_pos c10] at H
                  have c10b0 : decide (120 < ((rdOf ByteArray.empty l0_1 x3_1).size : Int)) = true := decide_eq_true c10
                  have c10b1 : decide (120 < (rdOf ByteArray.empty l0_1 x3_1).size) = true := decide_eq_true (by omega)
                  clear c10
                  obtain rfl := Option.some.inj H
                  obtain ⟨hcz11_0, hcz11_1⟩ := c2_ BK183
                  obtain ⟨hfz11_0, hfz11_1⟩ := f2_ BK183
                  have p184 : 0 ≤ (x3_1 : Int) := of_decide_eq_true As_
                  have q184 : x3_1 < (l0_1.length : Int) := of_decide_eq_true As_
                  obtain ⟨ad184, e184, hx184_0⟩ := Kd.at_string HR0_1.out x3_1 p184 q184
                  cases e184
                  replace hx184_0 := (HB.out.cell (World.block_lt_of_cell? w _ hx184_0)).trans hx184_0
                  replace p184 := eq_true p184
                  replace q184 := eq_true q184
                  go_wp2
                  go_ret
                  exact ⟨Re_, Bl_⟩
                · rw [if_neg c10] at H
                  have c10b0 : decide (120 < ((rdOf ByteArray.empty l0_1 x3_1).size : Int)) = false := decide_eq_false c10
                  have c10b1 : decide (120 < (rdOf ByteArray.empty l0_1 x3_1).size) = false := decide_eq_false (by omega)
                  clear c10
                  have H' := Aside0.mk H
                  clear H
                  obtain ⟨hcz12_0, hcz12_1⟩ := c2_ BK183
                  obtain ⟨hfz12_0, hfz12_1⟩ := f2_ BK183
                  have p184 : 0 ≤ (x3_1 : Int) := of_decide_eq_true As_
                  have q184 : x3_1 < (l0_1.length : Int) := of_decide_eq_true As_
                  obtain ⟨ad184, e184, hx184_0⟩ := Kd.at_string HR0_1.out x3_1 p184 q184
                  cases e184
                  replace hx184_0 := (HB.out.cell (World.block_lt_of_cell? w _ hx184_0)).trans hx184_0
                  replace p184 := eq_true p184
                  replace q184 := eq_true q184
                  go_wp2
                  go_roundg kj2
                  case measure => have := HK1.out; have := HJ2.out; omega
                  case rel => exact ⟨(wrap64 (x3_1 + 1)), Rf_, H', ⟨by have := HK1.out; have := HJ2.out; omega⟩, ⟨by (with_reducible repeat (first | refine blk_drewN ?_ _ | refine blk_drew ?_ | refine blk_alloc ?_ _)); exact BK183.out⟩, ⟨Bl_⟩⟩
              · rw [if_neg c9] at H
                exact absurd H (by simp)
            · rw [if_neg c8] at H
              exact absurd H (by simp)
          · replace c7 := Bool.eq_false_iff.mpr c7
            subst c7
            have H1 : (if (l0_1.length : Int) ≤ 300 then (some (decide ((l0_0.length : Int) ≤ 20))) else (some false)) = some r := by rw [if_neg (show ¬ (false = true) by decide)] at H; exact H
            clear H
            have H := H1
            clear H1
            by_cases c13 : (l0_1.length : Int) ≤ 300
            · rw [if_pos c13] at H
              have c13b0 : decide ((l0_1.length : Int) ≤ 300) = true := decide_eq_true c13
              have c13b1 : decide (l0_1.length ≤ 300) = true := decide_eq_true (by omega)
              clear c13
              obtain rfl := Option.some.inj H
              obtain ⟨hcz14_0, hcz14_1⟩ := c2_ BK183
              obtain ⟨hfz14_0, hfz14_1⟩ := f2_ BK183
              go_wp2
              go_ret
              exact ⟨Re_, Bl_⟩
            · rw [if_neg c13] at H
              have c13b0 : decide ((l0_1.length : Int) ≤ 300) = false := decide_eq_false c13
              have c13b1 : decide (l0_1.length ≤ 300) = false := decide_eq_false (by omega)
              clear c13
              obtain rfl := Option.some.inj H
              obtain ⟨hcz15_0, hcz15_1⟩ := c2_ BK183
              obtain ⟨hfz15_0, hfz15_1⟩ := f2_ BK183
              go_wp2
              go_ret
              exact ⟨Re_, Bl_⟩

end Go.Proofs.YtfjilihppnndkaaDoor.P
