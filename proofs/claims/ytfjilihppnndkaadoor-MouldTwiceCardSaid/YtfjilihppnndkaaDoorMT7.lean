/- Out of the laid variables: what the program's calls of strconv ask of the world; rows of whole numbers and of texts, opened. -/
/- Plain lemmas on figures: what a row of figures tells, and that a number's figures are one row alone. -/
/- What the number functions of the program and of the document tell, on texts. -/
/- The document's number functions on texts: May, sizes, figures, sums and differences of sizes. -/
/- The document's number functions on texts: figures, sums and differences of sizes. -/
/- The document's number functions on texts: sums and differences, comparison, numbers of 64 bits, widths. -/
/- The document's number functions on texts: comparison, numbers of 64 bits, widths; the program's. -/
/- Numbers of 64 bits and widths: the document's functions and the program's. -/
/- Shapes and arrays: sizes, what may be, widths, bytes: the document's functions and the program's. -/
/- Packed arrays: the document's functions and the program's. -/
/- val and mould, plainly: what may be, numbers, rows that are the same, items. -/
/- Iota, Reverse, plainly. -/
/- Numbers as texts; the law of the numbers below one, plainly. -/
/- Axes turned round, plainly: places and offsets; Flip. -/
/- Twice reversed, twice flipped, and shaped anew: the law MouldTwice, plainly. -/
/- The row of the law MouldTwice: whatever the arguments, the law answers true. -/
/- The law MouldTwice: whatever the arguments, the law answers true, and the arguments read as they did: the tied card. Its condition: the listed variables of the library, tied to the program's text. -/
import Derived.Test.YtfjilihppnndkaaDoorRows
import Derived.Test.YtfjilihppnndkaaDoorMT1
import Derived.ProofKit
import Derived.LaidMore
import Derived.LaidLaws
import Derived.OpenShut
import Derived.Stop.Joined
import Derived.Lib.LaidTab
import Derived.Lib.LaidU8
import Derived.Lib.SmallJoins
import Derived.Lib.ItoaMem
import Derived.Lib.ParseIntBCases
import Derived.Test.YtfjilihppnndkaaDoorMT2
import Derived.Test.YtfjilihppnndkaaDoorMT3
import Derived.Test.YtfjilihppnndkaaDoorMT4
import Derived.Test.YtfjilihppnndkaaDoorMT5
import Derived.Test.YtfjilihppnndkaaDoorMT6
import Derived.Test.YtfjilihppnndkaaDoorTie
import Derived.Test.YtfjilihppnndkaaDoorCards
import Derived.SevenTiedAt
namespace Go.Proofs.YtfjilihppnndkaaDoor
open Go Go.ChangeShapes Go.WideShapes Go.ChangeAt Go.WideMaps Go.WideElems Go.RowKit
open Go.Proofs.YtfjilihppnndkaaDoorW.PrintWords

theorem ownKnob_none : ownKnob Tryd.prog.godebug = none := by kernel_rfl
theorem laidOut : laidOutB Tryd.prog = true := by kernel_rfl
theorem gPow : Tryd.prog.globalNamed "internal/strconv.uint64pow10" = some 0 := by kernel_rfl
theorem gRange : Tryd.prog.globalNamed "strconv.ErrRange" = some 2 := by kernel_rfl
theorem tPow : (Tryd.prog.globals[0]?).map (·.type) = some 152 := by kernel_rfl
theorem tRange : (Tryd.prog.globals[2]?).map (·.type) = some 97 := by kernel_rfl

def laidList : List (String × DataW Unit) := [("math/bits.deBruijn32tab", Rows.laid_math_bits_deBruijn32tab), ("math/bits.deBruijn64tab", Rows.laid_math_bits_deBruijn64tab), ("internal/strconv.uint64pow10", Rows.laid_internal_strconv_uint64pow10), ("strconv.ErrRange", Rows.laid_strconv_ErrRange), ("strconv.ErrSyntax", Rows.laid_strconv_ErrSyntax)]

/-- The door's own heap meets the condition: three closed facts. -/
theorem door_met (os : Os) (args : Array Value) : laidMetH Tryd.prog laidList ((World.doorLaid Tryd.prog 62 os).forCall (fun _ _ => 0) ⟨#[], args, []⟩).memory :=
  laidMetH_of_parts3 (fuel := 8) (laidMet_of_run' 8 (by kernel_rfl) (by kernel_rfl)) (by kernel_rfl) (by kernel_rfl)

/-- What the condition gives the walks. -/
theorem glob_of_laid {W : World} (h : laidMetH Tryd.prog laidList W) : P.Glob W := by
  rw [MakeChecks.laidMetH_plain _ _ _ (by kernel_rfl)] at h
  constructor
  · obtain ⟨g, t, cs, fuel, p, hg, ht, hv, hd⟩ := Lib.laidMet.reads (show laidMet Tryd.prog laidList W from h) (n := "internal/strconv.uint64pow10") (d := Rows.laid_internal_strconv_uint64pow10) (by simp [laidList])
    obtain rfl := Option.some.inj (gPow.symm.trans hg)
    obtain rfl := Option.some.inj (tPow.symm.trans ht)
    have e : (Rows.laid_internal_strconv_uint64pow10 : DataW Unit) = Lib.tabData .u64 Lib.pow10Tab := rfl
    rw [e] at hd
    have := Lib.cells_of_tab Tryd.underlying152 Tryd.underlying135 (by kernel_rfl) (by kernel_rfl) hd
    unfold Lib.TabIs
    rw [hv, ← this]
  · obtain ⟨g, t, cs, fuel, p, hg, ht, hv, hd⟩ := Lib.laidMet.reads (show laidMet Tryd.prog laidList W from h) (n := "strconv.ErrRange") (d := Rows.laid_strconv_ErrRange) (by simp [laidList])
    obtain rfl := Option.some.inj (gRange.symm.trans hg)
    obtain rfl := Option.some.inj (tRange.symm.trans ht)
    obtain ⟨_, u, v, hcs, _, _⟩ := iface_of_trod Tryd.underlying97 hd
    refine ⟨u, v, ?_⟩
    rw [hv, Array.eq_one_of_toList hcs]

section
variable {H : Type} {enc : TypeId × Value → H} {P : Program} {w : World} {base : Nat} {spare : Nat → Bool} {held : Bool}
/-- A row of whole numbers that came in. -/
theorem ints_row {t e : TypeId} {fuel : Nat} {v : Value} {x : DataW H × List MemPlace} (ht : P.underlying t = some (.slice e)) (he : P.underlying e = some (.int .i64)) (hc : P.cellsOf e = 1)
    (h : DataW.trod enc P w base spare held fuel t [v] = some x) : ∃ (A : Option Addr) (cap : Nat) (l : List Int), v = .slice A l.length cap ∧ l.length ≤ cap ∧ Kd.C (Kd.int .i64) w A l.length l := by
  rcases open_ints ht he hc h with ⟨hcs, _⟩ | ⟨a, len, cap, zs, hcs, _, hl, hm, hz, _, hcell, _⟩
  · refine ⟨none, 0, [], by simpa using hcs, by simp, ?_⟩
    exact Kd.C_of_reads (d := (0 : Int)) ⟨rfl, by simp, fun h => by simp at h⟩
  · have hzl : len ≤ zs.length := by rw [hz]; split <;> omega
    have hlen : (zs.take len).length = len := by rw [List.length_take]; omega
    refine ⟨some a, cap, zs.take len, by rw [hlen]; simpa using hcs, by omega, ?_⟩
    refine Kd.C_of_reads (d := (0 : Int)) ⟨rfl, by unfold maxLen at hm; omega, fun _ => ⟨a, rfl, fun j hj => ?_⟩⟩
    rw [hcell j (by omega)]
    simp [List.getD_eq_getElem?_getD, show j < len by omega]
/-- A row of texts that came in. -/
theorem strings_row {t e : TypeId} {fuel : Nat} {v : Value} {x : DataW H × List MemPlace} (ht : P.underlying t = some (.slice e)) (he : P.underlying e = some .string) (hc : P.cellsOf e = 1)
    (h : DataW.trod enc P w base spare held fuel t [v] = some x) : ∃ (A : Option Addr) (cap : Nat) (l : List ByteArray), v = .slice A l.length cap ∧ l.length ≤ cap ∧ Kd.C Kd.string w A l.length l := by
  rcases open_strings ht he hc h with ⟨hcs, _⟩ | ⟨a, len, cap, zs, hcs, _, hl, hm, hz, _, hcell, _⟩
  · refine ⟨none, 0, [], by simpa using hcs, by simp, ?_⟩
    exact Kd.C_of_reads (d := ByteArray.empty) ⟨rfl, by simp, fun h => by simp at h⟩
  · have hzl : len ≤ zs.length := by rw [hz]; split <;> omega
    have hlen : (zs.take len).length = len := by rw [List.length_take]; omega
    refine ⟨some a, cap, zs.take len, by rw [hlen]; simpa using hcs, by omega, ?_⟩
    refine Kd.C_of_reads (d := ByteArray.empty) ⟨rfl, by unfold maxLen at hm; omega, fun _ => ⟨a, rfl, fun j hj => ?_⟩⟩
    rw [hcell j (by omega)]
    simp [List.getD_eq_getElem?_getD, show j < len by omega]
end
end Go.Proofs.YtfjilihppnndkaaDoor
namespace Go.Proofs.YtfjilihppnndkaaDoor.P
open Go.RowKit Go.Proofs.YtfjilihppnndkaaDoorW.PrintWords Go.Proofs.YtfjilihppnndkaaDoorW.PrintLast

def dval (l : List UInt8) : Nat := l.foldl (fun n c => n * 10 + (c.toNat - 48)) 0
def isDig (c : UInt8) : Prop := 48 ≤ c.toNat ∧ c.toNat ≤ 57
def Digs (l : List UInt8) : Prop := ∀ c ∈ l, isDig c

theorem dval_snoc (l : List UInt8) (c : UInt8) : dval (l ++ [c]) = dval l * 10 + (c.toNat - 48) := by
  unfold dval
  rw [List.foldl_append]
  rfl

theorem Digs.snoc {l : List UInt8} {c : UInt8} : Digs (l ++ [c]) ↔ Digs l ∧ isDig c := by
  unfold Digs
  constructor
  · intro h
    exact ⟨fun x hx => h x (by simp [hx]), h c (by simp)⟩
  · rintro ⟨h1, h2⟩ x hx
    rcases List.mem_append.1 hx with hx | hx
    · exact h1 x hx
    · rw [List.mem_singleton.1 hx]
      exact h2

theorem rev_ind {P : List UInt8 → Prop} (h0 : P []) (hs : ∀ l c, P l → P (l ++ [c])) (l : List UInt8) : P l := by
  have : ∀ n (l : List UInt8), l.length = n → P l := by
    intro n
    induction n with
    | zero => intro l hl; rw [List.length_eq_zero_iff.1 hl]; exact h0
    | succ n ih =>
      intro l hl
      have hne : l ≠ [] := by intro e; rw [e] at hl; simp at hl
      rw [← List.dropLast_concat_getLast hne]
      exact hs _ _ (ih _ (by simp [hl]))
  exact this _ l rfl

theorem dval_lt (l : List UInt8) (h : Digs l) : dval l < 10 ^ l.length := by
  induction l using rev_ind with
  | h0 => simp [dval]
  | hs l c ih =>
    have h2 := Digs.snoc.1 h
    have := ih h2.1
    have hc := h2.2
    unfold isDig at hc
    rw [dval_snoc, List.length_append, List.length_singleton, Nat.pow_succ]
    omega

theorem dval_cons (c : UInt8) (l : List UInt8) : dval (c :: l) = (c.toNat - 48) * 10 ^ l.length + dval l := by
  induction l using rev_ind with
  | h0 => simp [dval]
  | hs l d ih =>
    rw [show c :: (l ++ [d]) = (c :: l) ++ [d] from rfl, dval_snoc, ih, dval_snoc, List.length_append, List.length_singleton, Nat.pow_succ, Nat.add_mul, Nat.mul_assoc]
    omega

/-- Figures without a needless zero ahead. -/
def Canon (l : List UInt8) : Prop := Digs l ∧ l ≠ [] ∧ (l.head? = some 48 → l = [48])

theorem decDigits_small {i : Nat} (h : i < 10) : Lib.decDigits i = [UInt8.ofNat (48 + i)] := Lib.decDigits_one h
theorem decDigits_step {i : Nat} (h : 10 ≤ i) : Lib.decDigits i = Lib.decDigits (i / 10) ++ [UInt8.ofNat (48 + i % 10)] := by
  rw [Lib.decDigits, dif_neg (by omega)]
theorem ofNat_fig {d : Nat} (h : d < 10) : (UInt8.ofNat (48 + d)).toNat = 48 + d := by
  rw [UInt8.toNat_ofNat']
  omega
theorem fig_ofNat {c : UInt8} (h : isDig c) : UInt8.ofNat (48 + (c.toNat - 48)) = c := by
  unfold isDig at h
  rw [show 48 + (c.toNat - 48) = c.toNat by omega]
  exact UInt8.ofNat_toNat

theorem dval_ne_zero {l : List UInt8} (h : Canon l) (hne : l ≠ [48]) : 1 ≤ dval l := by
  obtain ⟨hd, hn, hz⟩ := h
  cases l with
  | nil => exact absurd rfl hn
  | cons c l =>
    have hc : isDig c := hd c (by simp)
    have hc0 : c ≠ 48 := by
      intro e
      subst e
      exact hne (hz rfl)
    unfold isDig at hc
    have : c.toNat ≠ 48 := fun e => hc0 (by apply UInt8.toNat.inj; rw [e]; rfl)
    rw [dval_cons]
    have hp : 1 ≤ 10 ^ l.length := Nat.one_le_pow _ _ (by omega)
    have hm : 1 * 1 ≤ (c.toNat - 48) * 10 ^ l.length := Nat.mul_le_mul (by omega) hp
    omega

theorem canon_eq (l : List UInt8) (h : Canon l) : l = Lib.decDigits (dval l) := by
  induction l using rev_ind with
  | h0 => exact absurd rfl h.2.1
  | hs l c ih =>
    obtain ⟨hd, hn, hz⟩ := h
    have h2 := Digs.snoc.1 hd
    have hc := h2.2
    unfold isDig at hc
    by_cases hl : l = []
    · subst hl
      have e : dval ([] ++ [c]) = c.toNat - 48 := by rw [dval_snoc]; simp [dval]
      rw [e, decDigits_small (by omega), fig_ofNat h2.2]
      rfl
    · have hcl : Canon l := by
        refine ⟨h2.1, hl, fun hh => ?_⟩
        exfalso
        have hh2 : (l ++ [c]).head? = some 48 := by
          cases l with
          | nil => exact absurd rfl hl
          | cons a l => simpa using hh
        have := hz hh2
        have hlen := congrArg List.length this
        simp at hlen
        exact hl hlen
      have hl48 : l ≠ [48] := by
        intro e
        subst e
        have := hz rfl
        simp at this
      have h1 := dval_ne_zero hcl hl48
      have e : dval (l ++ [c]) = dval l * 10 + (c.toNat - 48) := dval_snoc l c
      rw [e, decDigits_step (by omega), show (dval l * 10 + (c.toNat - 48)) / 10 = dval l by omega, show (dval l * 10 + (c.toNat - 48)) % 10 = c.toNat - 48 by omega, fig_ofNat h2.2, ← ih hcl]

theorem digs_dec (n : Nat) : Digs (Lib.decDigits n) ∧ dval (Lib.decDigits n) = n ∧ Lib.decDigits n ≠ [] := by
  induction n using Nat.strongRecOn with
  | _ n ih =>
    by_cases h : n < 10
    · rw [decDigits_small h]
      refine ⟨?_, ?_, by simp⟩
      · intro c hc
        rw [List.mem_singleton.1 hc]
        unfold isDig
        rw [ofNat_fig h]
        omega
      · have : dval ([] ++ [UInt8.ofNat (48 + n)]) = n := by
          rw [dval_snoc, ofNat_fig h]
          simp [dval]
        simpa using this
    · obtain ⟨h1, h2, h3⟩ := ih (n / 10) (by omega)
      rw [decDigits_step (by omega)]
      refine ⟨Digs.snoc.2 ⟨h1, ?_⟩, ?_, by simp⟩
      · unfold isDig
        rw [ofNat_fig (by omega)]
        omega
      · rw [dval_snoc, h2, ofNat_fig (by omega)]
        omega

theorem canon_dec (n : Nat) : Canon (Lib.decDigits n) := by
  refine ⟨(digs_dec n).1, (digs_dec n).2.2, ?_⟩
  induction n using Nat.strongRecOn with
  | _ n ih =>
    intro hh
    by_cases h : n < 10
    · rw [decDigits_small h] at hh ⊢
      simp only [List.head?_cons, Option.some.injEq] at hh
      rw [hh]
    · exfalso
      rw [decDigits_step (by omega)] at hh
      have hne := (digs_dec (n / 10)).2.2
      have hh2 : (Lib.decDigits (n / 10)).head? = some 48 := by
        cases hq : Lib.decDigits (n / 10) with
        | nil => exact absurd hq hne
        | cons a l => rw [hq] at hh; simpa using hh
      have e := ih (n / 10) (by omega) hh2
      have hv := (digs_dec (n / 10)).2.1
      rw [e] at hv
      have : dval [48] = 0 := rfl
      omega

theorem dec_len (n k : Nat) (h : n < 10 ^ k) (hk : 1 ≤ k) : (Lib.decDigits n).length ≤ k := by
  induction k generalizing n with
  | zero => omega
  | succ k ih =>
    by_cases hn : n < 10
    · rw [decDigits_small hn]; simp
    · rw [decDigits_step (by omega), List.length_append, List.length_singleton]
      have hk1 : 1 ≤ k := by
        cases k with
        | zero => simp at h; omega
        | succ k => omega
      have : n / 10 < 10 ^ k := by rw [Nat.pow_succ] at h; omega
      have := ih (n / 10) this hk1
      omega

end Go.Proofs.YtfjilihppnndkaaDoor.P
namespace Go.Proofs.YtfjilihppnndkaaDoor.P
open Go.RowKit Go.Proofs.YtfjilihppnndkaaDoorW.PrintWords Go.Proofs.YtfjilihppnndkaaDoorW.PrintLast

theorem w64 {x : Int} (h0 : -9223372036854775808 ≤ x) (h1 : x ≤ 9223372036854775807) : wrap64 x = x := IntWalk.wrap64_in x ⟨h0, h1⟩

def Ls (s : ByteArray) : List UInt8 := s.data.toList
theorem Ls_def (s : ByteArray) : s.data.toList = Ls s := rfl
theorem u8_eq {c : UInt8} {n : Nat} (hn : n < 256) (h : c.toNat = n) : c = UInt8.ofNat n := by
  apply UInt8.toNat.inj
  rw [h, UInt8.toNat_ofNat']
  omega
theorem Ls_len (s : ByteArray) : (Ls s).length = s.size := data_length s
theorem Ls_eq (s : ByteArray) : s.toList = Ls s := Lib.toList_data s
theorem Ls_inj {s t : ByteArray} (h : Ls s = Ls t) : s = t := by
  obtain ⟨a⟩ := s
  obtain ⟨b⟩ := t
  have : a = b := Array.toList_inj.1 h
  rw [this]
theorem bt_get (s : ByteArray) (i : Nat) (h : i < s.size) : bt s (i : Int) = (((Ls s)[i]'(by rw [Ls_len]; exact h)).toNat : Int) := by
  unfold bt
  rw [dif_pos (by simpa using h)]
  rfl
theorem bt_head (s : ByteArray) (h : 0 < s.size) : bt s 0 = (((Ls s)[0]'(by rw [Ls_len]; exact h)).toNat : Int) := bt_get s 0 h

/-- Is a text a number: figures without a needless zero ahead, 100 at most, behind a hyphen or not. -/
def mayL (l : List UInt8) : Bool :=
  let f := if l.head? = some 45 then l.tail else l
  decide (1 ≤ f.length) && decide (f.length ≤ 100) && (decide (f.head? ≠ some 48) || decide (l = [48])) && !(f.any noFig)
abbrev mayB (s : ByteArray) : Bool := mayL (Ls s)

theorem mayL_hyphen (l : List UInt8) (h : l.head? = some 45) : mayL l = (decide (1 ≤ l.tail.length) && decide (l.tail.length ≤ 100) && (decide (l.tail.head? ≠ some 48) || decide (l = [48])) && !(l.tail.any noFig)) := by
  simp only [mayL, if_pos h]
theorem mayL_plain (l : List UInt8) (h : ¬ l.head? = some 45) : mayL l = (decide (1 ≤ l.length) && decide (l.length ≤ 100) && (decide (l.head? ≠ some 48) || decide (l = [48])) && !(l.any noFig)) := by
  simp only [mayL, if_neg h]
theorem noFig_false (c : UInt8) : noFig c = false ↔ isDig c := by
  unfold noFig isDig
  rw [Bool.or_eq_false_iff, decide_eq_false_iff_not, decide_eq_false_iff_not]
  omega
theorem any_noFig (l : List UInt8) : l.any noFig = false ↔ Digs l := by
  rw [List.any_eq_false]
  unfold Digs
  constructor
  · intro h c hc
    have := h c hc
    rw [Bool.not_eq_true] at this
    exact (noFig_false c).1 this
  · intro h c hc
    rw [Bool.not_eq_true]
    exact (noFig_false c).2 (h c hc)

/-- What such a text tells. -/
theorem may_tells (l : List UInt8) (h : mayL l = true) : ∃ z : Int, l = Lib.itoa z ∧ z.natAbs < 10 ^ 100 := by
  unfold mayL at h
  simp only [Bool.and_eq_true, Bool.or_eq_true, Bool.not_eq_true', decide_eq_true_eq] at h
  obtain ⟨⟨⟨h1, h2⟩, h3⟩, h4⟩ := h
  by_cases hh : l.head? = some 45
  · rw [if_pos hh] at h1 h2 h3 h4
    have hd := (any_noFig _).1 h4
    have hl : l ≠ [48] := by intro e; rw [e] at hh; simp at hh
    have h5 : l.tail.head? ≠ some 48 := by rcases h3 with h3 | h3; exact h3; exact absurd h3 hl
    have hc : Canon l.tail := ⟨hd, by intro e; rw [e] at h1; simp at h1, fun e => absurd e h5⟩
    have hv := dval_lt _ hd
    have hp : 10 ^ l.tail.length ≤ 10 ^ 100 := Nat.pow_le_pow_right (by omega) h2
    have hpos : 1 ≤ dval l.tail := dval_ne_zero hc (by intro e; rw [e] at h5; simp at h5)
    refine ⟨-(dval l.tail : Int), ?_, by omega⟩
    rw [Lib.itoa_neg _ hpos, ← canon_eq _ hc]
    cases l with
    | nil => simp at hh
    | cons a l =>
      simp only [List.head?_cons, Option.some.injEq] at hh
      rw [hh]
      rfl
  · rw [if_neg hh] at h1 h2 h3 h4
    have hd := (any_noFig _).1 h4
    have hc : Canon l := ⟨hd, by intro e; rw [e] at h1; simp at h1, fun e => by rcases h3 with h3 | h3; exact absurd e h3; exact h3⟩
    have hv := dval_lt _ hd
    have hp : 10 ^ l.length ≤ 10 ^ 100 := Nat.pow_le_pow_right (by omega) h2
    exact ⟨(dval l : Int), by rw [Lib.itoa_nonneg, ← canon_eq _ hc], by omega⟩

theorem itoa_head (z : Int) : (Lib.itoa z).head? = some 45 ↔ z < 0 := by
  unfold Lib.itoa
  by_cases h : z < 0
  · rw [if_pos h]; simp [h]
  · rw [if_neg h]
    constructor
    · intro hh
      exfalso
      have hd := (digs_dec z.toNat).1
      cases hq : Lib.decDigits z.toNat with
      | nil => rw [hq] at hh; simp at hh
      | cons a l =>
        rw [hq] at hh hd
        simp only [List.head?_cons, Option.some.injEq] at hh
        have := hd a (by simp)
        unfold isDig at this
        rw [hh] at this
        simp at this
    · intro h'; exact absurd h' h

theorem itoa_may (z : Int) (h : z.natAbs < 10 ^ 100) : mayL (Lib.itoa z) = true := by
  unfold mayL
  simp only [Bool.and_eq_true, Bool.or_eq_true, Bool.not_eq_true', decide_eq_true_eq]
  by_cases hz : z < 0
  · have e : Lib.itoa z = 45 :: Lib.decDigits z.natAbs := by unfold Lib.itoa; rw [if_pos hz]
    rw [if_pos ((itoa_head z).2 hz), e]
    have hc := canon_dec z.natAbs
    simp only [List.tail_cons]
    refine ⟨⟨⟨?_, dec_len _ _ h (by omega)⟩, ?_⟩, (any_noFig _).2 hc.1⟩
    · have := hc.2.1
      cases hq : Lib.decDigits z.natAbs with
      | nil => exact absurd hq this
      | cons a l => simp
    · left
      intro hh
      have := hc.2.2 hh
      have hv := (digs_dec z.natAbs).2.1
      rw [this] at hv
      have : dval [48] = 0 := rfl
      omega
  · have e : Lib.itoa z = Lib.decDigits z.natAbs := by unfold Lib.itoa; rw [if_neg hz, show z.toNat = z.natAbs by omega]
    rw [if_neg (fun hh => hz ((itoa_head z).1 hh)), e]
    have hc := canon_dec z.natAbs
    refine ⟨⟨⟨?_, dec_len _ _ h (by omega)⟩, ?_⟩, (any_noFig _).2 hc.1⟩
    · have := hc.2.1
      cases hq : Lib.decDigits z.natAbs with
      | nil => exact absurd hq this
      | cons a l => simp
    · by_cases hh : (Lib.decDigits z.natAbs).head? = some 48
      · exact .inr (hc.2.2 hh)
      · exact .inl hh

/-! ### the program's num.May -/
theorem hyphen_size : (⟨#[45]⟩ : ByteArray).size = 1 := rfl
theorem trim_spec (s : ByteArray) : strings_TrimPrefix.f s ⟨#[45]⟩ = some (if (Ls s).head? = some 45 then s.extract 1 s.size else s) := by
  unfold strings_TrimPrefix.f stringslite_TrimPrefix.f stringslite_HasPrefix.f
  rw [hyphen_size]
  by_cases h : (s.size : Int) ≥ ((1 : Nat) : Int)
  · have h' : 1 ≤ s.size := by omega
    rw [if_pos h, if_pos (by omega), if_pos h]
    have e : (s.extract 0 ((1 : Nat) : Int).toNat).toList = (Ls s).take 1 := by
      rw [Lib.extract_toList]; simp [Ls_def]
    simp only [Option.bind_some]
    rw [e]
    cases hq : Ls s with
    | nil => have := Ls_len s; rw [hq] at this; simp at this; omega
    | cons a l =>
      simp only [List.take_succ_cons, List.take_zero, List.head?_cons, Option.some.injEq]
      have e2 : (⟨#[45]⟩ : ByteArray).toList = [45] := by rw [Ls_eq]; rfl
      rw [e2]
      by_cases ha : a = 45
      · subst ha
        simp
        omega
      · simp [ha]
  · rw [if_neg h]
    have h' : s.size = 0 := by omega
    have : Ls s = [] := List.length_eq_zero_iff.1 (by rw [Ls_len]; exact h')
    simp [this]

theorem num_May_spec (s : ByteArray) : num_May.f s = some (mayB s) := by
  unfold num_May.f
  rw [trim_spec]
  simp only [Option.bind_some]
  unfold mayB strings_ContainsFunc_digits.f
  simp only [Option.bind_some, Ls_def]
  have key : ∀ t : ByteArray, (if (t.size : Int) < 1 then some false else if (t.size : Int) > 100 then some false else if 0 < (t.size : Int) then if bt t 0 = 48 then if s.toList = [48] then some (!((Ls t).any noFig)) else some false else some (!((Ls t).any noFig)) else none) =
      some (decide (1 ≤ (Ls t).length) && decide ((Ls t).length ≤ 100) && (decide ((Ls t).head? ≠ some 48) || decide (Ls s = [48])) && !((Ls t).any noFig)) := by
    intro t
    rw [Ls_eq, Ls_len]
    by_cases h1 : (t.size : Int) < 1
    · rw [if_pos h1, decide_eq_false (by omega)]; simp
    · rw [if_neg h1, decide_eq_true (show 1 ≤ t.size by omega)]
      by_cases h2 : (t.size : Int) > 100
      · rw [if_pos h2, decide_eq_false (show ¬ t.size ≤ 100 by omega)]; simp
      · rw [if_neg h2, decide_eq_true (show t.size ≤ 100 by omega), if_pos (by omega), bt_head t (by omega)]
        have hl : 0 < (Ls t).length := by rw [Ls_len]; omega
        have eh : (Ls t).head? = some ((Ls t)[0]) := by rw [List.head?_eq_getElem?, List.getElem?_eq_getElem hl]
        rw [eh]
        by_cases h3 : (Ls t)[0] = 48
        · rw [if_pos (by rw [h3]; rfl), h3]
          by_cases h4 : Ls s = [48]
          · rw [if_pos h4]; simp [h4]
          · rw [if_neg h4]; simp [h4]
        · rw [if_neg (by intro e; exact h3 (u8_eq (n := 48) (by omega) (by omega)))]
          have h3' : ¬ (some (Ls t)[0] = some 48) := by intro e; exact h3 (Option.some.inj e)
          rw [decide_eq_true h3']
          simp
  by_cases hh : (Ls s).head? = some 45
  · have e := key (s.extract 1 s.size)
    have e1 : Ls (s.extract 1 s.size) = (Ls s).tail := by
      unfold Ls
      rw [Lib.extract_to_end, List.drop_one]
    rw [e1] at e
    rw [mayL_hyphen _ hh, ← e]
    simp only [if_pos hh, e1]
  · rw [mayL_plain _ hh, ← key s]
    simp only [if_neg hh]
end Go.Proofs.YtfjilihppnndkaaDoor.P
namespace Go.Proofs.YtfjilihppnndkaaDoor.P
open Go.RowKit Go.Proofs.YtfjilihppnndkaaDoorW.PrintWords Go.Proofs.YtfjilihppnndkaaDoorW.PrintLast

/-- One more round. -/
theorem Ev.succ {α : Type} {g f : Nat → Option α} {r : α} (h : ∀ k, g (k + 1) = f k) (hf : Ev f r) : Ev g r := Ev.step h hf
theorem Ev.bindc {α β : Type} {c : Option α} {f : Nat → α → Option β} {a : α} {r : β} (h : c = some a) (k : Ev (fun n => f n a) r) : Ev (fun n => c.bind (f n)) r := by
  subst h
  exact k
theorem Ev.ite {α : Type} {c : Prop} [Decidable c] {f g : Nat → Option α} {r : α} (h1 : c → Ev f r) (h2 : ¬ c → Ev g r) : Ev (fun k => if c then f k else g k) r := by
  by_cases h : c
  · simp only [if_pos h]; exact h1 h
  · simp only [if_neg h]; exact h2 h
theorem Ev.pos {α : Type} {c : Prop} [Decidable c] {f g : Nat → Option α} {r : α} (h : c) (h1 : Ev f r) : Ev (fun k => if c then f k else g k) r := by
  simp only [if_pos h]; exact h1
theorem Ev.neg {α : Type} {c : Prop} [Decidable c] {f g : Nat → Option α} {r : α} (h : ¬ c) (h1 : Ev g r) : Ev (fun k => if c then f k else g k) r := by
  simp only [if_neg h]; exact h1

abbrev mkS (l : List UInt8) : ByteArray := ⟨l.toArray⟩
theorem Ls_mk (l : List UInt8) : Ls (mkS l) = l := by simp [Ls]
theorem mk_size (l : List UInt8) : (mkS l).size = l.length := by rw [← Ls_len, Ls_mk]

/-! ### May -/

end Go.Proofs.YtfjilihppnndkaaDoor.P
namespace Go.Proofs.YtfjilihppnndkaaDoor.P
open Go.RowKit Go.Proofs.YtfjilihppnndkaaDoorW.PrintWords Go.Proofs.YtfjilihppnndkaaDoorW.PrintLast

/-! ### which of two sizes is greater -/

end Go.Proofs.YtfjilihppnndkaaDoor.P
namespace Go.Proofs.YtfjilihppnndkaaDoor.P
open Go.RowKit Go.Proofs.YtfjilihppnndkaaDoorW.PrintWords Go.Proofs.YtfjilihppnndkaaDoorW.PrintLast Go.Proofs.YtfjilihppnndkaaDoorW.PrintMore

/-! ### whole numbers -/
/-- A text that tells z. -/
def Tells (s : ByteArray) (z : Int) : Prop := Ls s = Lib.itoa z ∧ s.size ≤ 536870912
theorem itoa_size_le (n k : Nat) (z : Int) (h : z.natAbs < 10 ^ k) (hk : 1 ≤ k) (hn : k + 1 ≤ n) : (mkS (Lib.itoa z)).size ≤ n := by
  rw [mk_size]
  have := dec_len z.natAbs k h hk
  unfold Lib.itoa
  split
  · simp; omega
  · rw [show z.toNat = z.natAbs by omega]; omega

end Go.Proofs.YtfjilihppnndkaaDoor.P
namespace Go.Proofs.YtfjilihppnndkaaDoor.P
open Go.RowKit Go.Proofs.YtfjilihppnndkaaDoorW.PrintWords Go.Proofs.YtfjilihppnndkaaDoorW.PrintLast Go.Proofs.YtfjilihppnndkaaDoorW.PrintMore

theorem mayB_tells {s : ByteArray} (h : mayB s = true) : ∃ z : Int, Tells s z ∧ z.natAbs < 10 ^ 100 := by
  obtain ⟨z, h1, h2⟩ := may_tells _ h
  refine ⟨z, ⟨h1, ?_⟩, h2⟩
  have := itoa_size_le 101 100 z h2 (by omega) (by omega)
  rw [mk_size, ← h1, Ls_len] at this
  omega

/-! ### numbers of 64 bits -/
/-- The number that a text tells. -/
def valL (l : List UInt8) : Int := if l.head? = some 45 then -(dval l.tail : Int) else (dval l : Int)
theorem valL_itoa (z : Int) : valL (Lib.itoa z) = z := by
  unfold valL
  by_cases hz : z < 0
  · have e : Lib.itoa z = 45 :: Lib.decDigits z.natAbs := by unfold Lib.itoa; rw [if_pos hz]
    rw [if_pos ((itoa_head z).2 hz), e, List.tail_cons, (digs_dec _).2.1]
    omega
  · have e : Lib.itoa z = Lib.decDigits z.natAbs := by unfold Lib.itoa; rw [if_neg hz, show z.toNat = z.natAbs by omega]
    rw [if_neg (fun hh => hz ((itoa_head z).1 hh)), e, (digs_dec _).2.1]
    omega
def in64 (z : Int) : Bool := decide (-9223372036854775808 ≤ z ∧ z < 9223372036854775808)
def intB (s : ByteArray) : Int × Bool := if mayB s = true then (if in64 (valL (Ls s)) = true then (valL (Ls s), true) else (0, false)) else (0, false)

theorem parseU (l : List UInt8) (hd : Digs l) : ∀ acc : Nat, Lib.parseUintM (2 ^ 64 - 1) acc l = if acc * 10 ^ l.length + dval l ≤ 2 ^ 64 - 1 ∨ l = [] then .ok (acc * 10 ^ l.length + dval l) else .range := by
  induction l with
  | nil => intro acc; simp [Lib.parseUintM, dval]
  | cons c l ih =>
    intro acc
    have hc : isDig c := hd c (by simp)
    have hl : Digs l := fun x hx => hd x (by simp [hx])
    unfold isDig at hc
    unfold Lib.parseUintM
    rw [if_pos hc]
    have hp : 1 ≤ 10 ^ l.length := Nat.one_le_pow _ _ (by omega)
    have e : acc * 10 ^ (c :: l).length + dval (c :: l) = (acc * 10 + (c.toNat - 48)) * 10 ^ l.length + dval l := by
      rw [dval_cons, List.length_cons, Nat.pow_succ, Nat.add_mul, Nat.mul_comm (10 ^ l.length) 10, Nat.mul_assoc]
      omega
    have hle : (acc * 10 + (c.toNat - 48)) * 1 ≤ (acc * 10 + (c.toNat - 48)) * 10 ^ l.length := Nat.mul_le_mul_left _ hp
    rw [e]
    simp only [List.cons_ne_nil, or_false]
    by_cases h1 : 1844674407370955162 ≤ acc
    · rw [if_pos h1, if_neg (by omega)]
    · rw [if_neg h1]
      by_cases h2 : 2 ^ 64 - 1 < acc * 10 + (c.toNat - 48)
      · rw [if_pos h2, if_neg (by omega)]
      · rw [if_neg h2, ih hl]
        by_cases h3 : l = []
        · subst h3
          rw [if_pos (.inr rfl), if_pos]
          simp [dval] at h2 ⊢
          omega
        · by_cases h4 : (acc * 10 + (c.toNat - 48)) * 10 ^ l.length + dval l ≤ 2 ^ 64 - 1
          · rw [if_pos (.inl h4), if_pos h4]
          · rw [if_neg (fun h => h.elim h4 h3), if_neg h4]

theorem parseU_dec (n : Nat) : Lib.parseUintB 64 (Lib.decDigits n) = if n ≤ 18446744073709551615 then .ok n else .range := by
  unfold Lib.parseUintB
  have hne := (digs_dec n).2.2
  rw [if_neg hne, parseU _ (digs_dec n).1, (digs_dec n).2.1, Nat.zero_mul, Nat.zero_add]
  by_cases h : n ≤ 18446744073709551615
  · rw [if_pos (.inl h), if_pos h]
  · rw [if_neg (fun e => e.elim h hne), if_neg h]

theorem parseI (z : Int) : Lib.parseIntB 64 (Lib.itoa z) = if in64 z = true then .ok z else .range := by
  by_cases hz : z < 0
  · have e : Lib.itoa z = 45 :: Lib.decDigits z.natAbs := by unfold Lib.itoa; rw [if_pos hz]
    rw [e]
    unfold Lib.parseIntB
    simp only [show (45 : UInt8).toNat = 45 from rfl]
    rw [if_pos (.inr trivial), parseU_dec]
    by_cases h : z.natAbs ≤ 18446744073709551615
    · rw [if_pos h]
      simp only [not_true_eq_false, false_and, if_false, true_and]
      by_cases h2 : 2 ^ (64 - 1) < z.natAbs
      · rw [if_pos h2, if_neg]
        unfold in64
        rw [decide_eq_true_eq]
        omega
      · rw [if_neg h2]
        have h3 : in64 z = true := by
          unfold in64
          rw [decide_eq_true_eq]
          omega
        rw [if_pos h3]
        simp only [if_true]
        congr 1
        omega
    · rw [if_neg h, if_neg]
      unfold in64
      rw [decide_eq_true_eq]
      omega
  · have e : Lib.itoa z = Lib.decDigits z.natAbs := by unfold Lib.itoa; rw [if_neg hz, show z.toNat = z.natAbs by omega]
    rw [e]
    cases hq : Lib.decDigits z.natAbs with
    | nil => exact absurd hq (digs_dec _).2.2
    | cons c l =>
      have hc : isDig c := (digs_dec z.natAbs).1 c (by rw [hq]; simp)
      unfold isDig at hc
      unfold Lib.parseIntB
      simp only
      rw [if_neg (by omega), ← hq, parseU_dec]
      by_cases h : z.natAbs ≤ 18446744073709551615
      · rw [if_pos h]
        simp only
        have hc45 : ¬ c.toNat = 45 := by omega
        simp only [hc45, not_false_eq_true, true_and, false_and, if_false]
        by_cases h2 : 2 ^ (64 - 1) ≤ z.natAbs
        · rw [if_pos h2, if_neg]
          unfold in64
          rw [decide_eq_true_eq]
          omega
        · rw [if_neg h2, if_pos]
          · congr 1
            omega
          · unfold in64
            rw [decide_eq_true_eq]
            omega
      · rw [if_neg h, if_neg]
        unfold in64
        rw [decide_eq_true_eq]
        omega

theorem num_Int_spec (s : ByteArray) (hs : s.size ≤ 281474976710656) : num_Int.f s = some (intB s) := by
  unfold num_Int.f intB
  rw [if_pos hs, num_May_spec]
  simp only [Option.bind_some]
  by_cases h : mayB s = true
  · obtain ⟨z, h1, h2⟩ := mayB_tells h
    rw [if_pos h, if_pos h, Ls_def, h1.1, parseI, valL_itoa]
    by_cases h3 : in64 z = true
    · rw [if_pos h3, if_pos h3]
    · rw [if_neg h3, if_neg h3]
  · rw [if_neg h, if_neg h]
end Go.Proofs.YtfjilihppnndkaaDoor.P
namespace Go.Proofs.YtfjilihppnndkaaDoor.P
open Go.RowKit Go.Proofs.YtfjilihppnndkaaDoorW.PrintWords Go.Proofs.YtfjilihppnndkaaDoorW.PrintLast Go.Proofs.YtfjilihppnndkaaDoorW.PrintMore

theorem lt_100 {n : Nat} (h : n < 100000000000000000000) : n < 10 ^ 100 := by
  have : 10 ^ 20 ≤ 10 ^ 100 := Nat.pow_le_pow_right (by omega) (by omega)
  omega

/-! ### widths -/

end Go.Proofs.YtfjilihppnndkaaDoor.P
namespace Go.Proofs.YtfjilihppnndkaaDoor.P
open Go.RowKit Go.Proofs.YtfjilihppnndkaaDoorW.PrintWords Go.Proofs.YtfjilihppnndkaaDoorW.PrintLast Go.Proofs.YtfjilihppnndkaaDoorW.PrintMore

theorem drop_rd (xs : List Int) (i : Nat) (h : i < xs.length) : xs.drop i = rd xs (i : Int) :: xs.drop (i + 1) := by
  rw [List.drop_eq_getElem_cons h]
  congr 1
  unfold rd
  rw [Int.toNat_natCast, List.getD_eq_getElem?_getD, List.getElem?_eq_getElem h, Option.getD_some]
theorem drop_rdOf (xs : List ByteArray) (i : Nat) (h : i < xs.length) : xs.drop i = rdOf ByteArray.empty xs (i : Int) :: xs.drop (i + 1) := by
  rw [List.drop_eq_getElem_cons h]
  congr 1
  unfold rdOf
  rw [Int.toNat_natCast, List.getD_eq_getElem?_getD, List.getElem?_eq_getElem h, Option.getD_some]
theorem rd_mem (xs : List Int) (i : Nat) (h : i < xs.length) : rd xs (i : Int) ∈ xs := by
  have := List.mem_of_mem_drop (i := i) (l := xs) (a := rd xs (i : Int)) (by rw [drop_rd xs i h]; exact List.mem_cons_self)
  exact this

/-! ### is there one -/
theorem idx1 (xs : List Int) (hl : xs.length ≤ 1099511627776) (d : Nat) : ∀ i : Nat, i + d = xs.length →
    ∃ r : Int, Ev (fun k => slices_IndexFunc_int_int_at_shape_Size_1.l0 k xs (xs.length : Int) (i : Int)) r ∧ (decide (r ≥ 0) = (xs.drop i).any (fun n => decide (n < 0))) := by
  induction d with
  | zero =>
    intro i hi
    refine ⟨-1, ?_, ?_⟩
    · refine Ev.succ (f := fun _ => some (-1)) (fun k => by simp only [slices_IndexFunc_int_int_at_shape_Size_1.l0]; rw [if_neg (by omega)]) (Ev.now _)
    · rw [List.drop_eq_nil_of_le (by omega)]; rfl
  | succ d ih =>
    intro i hi
    have hd := drop_rd xs i (by omega)
    by_cases hp : rd xs (i : Int) < 0
    · refine ⟨(i : Int), ?_, ?_⟩
      · refine Ev.succ (fun k => by simp only [slices_IndexFunc_int_int_at_shape_Size_1.l0]; rfl) ?_
        refine Ev.pos (by omega) (Ev.pos (by omega) (Ev.pos (by omega) ?_))
        refine Ev.bindc (a := true) (by simp [shape_Size_1.f, hp]) (Ev.pos rfl (Ev.now _))
      · rw [hd, List.any_cons, decide_eq_true hp, Bool.true_or, decide_eq_true (by omega)]
    · obtain ⟨r, h1, h2⟩ := ih (i + 1) (by omega)
      refine ⟨r, ?_, ?_⟩
      · refine Ev.succ (fun k => by simp only [slices_IndexFunc_int_int_at_shape_Size_1.l0]; rfl) ?_
        refine Ev.pos (by omega) (Ev.pos (by omega) (Ev.pos (by omega) ?_))
        refine Ev.bindc (a := false) (by simp [shape_Size_1.f, hp]) (Ev.neg (by simp) ?_)
        rw [w64 (by omega) (by omega)]
        exact h1
      · rw [hd, List.any_cons, decide_eq_false hp, Bool.false_or, h2]
theorem any1 (xs : List Int) (v : Value) (hl : xs.length ≤ 1099511627776) : Ev (fun k => slices_ContainsFunc_int_int_at_shape_Size_1.f k xs v) (xs.any (fun n => decide (n < 0))) := by
  obtain ⟨r, h1, h2⟩ := idx1 xs hl xs.length 0 (by omega)
  unfold slices_ContainsFunc_int_int_at_shape_Size_1.f slices_IndexFunc_int_int_at_shape_Size_1.f
  refine Ev.bind h1 ?_
  rw [h2, List.drop_zero]
  exact Ev.now _

theorem idx2 (xs : List Int) (hl : xs.length ≤ 1099511627776) (d : Nat) : ∀ i : Nat, i + d = xs.length →
    ∃ r : Int, Ev (fun k => slices_IndexFunc_int_int_at_shape_Size_2.l0 k xs (xs.length : Int) (i : Int)) r ∧ (decide (r ≥ 0) = (xs.drop i).any (fun n => decide (n > 1099511627776))) := by
  induction d with
  | zero =>
    intro i hi
    refine ⟨-1, ?_, ?_⟩
    · refine Ev.succ (f := fun _ => some (-1)) (fun k => by simp only [slices_IndexFunc_int_int_at_shape_Size_2.l0]; rw [if_neg (by omega)]) (Ev.now _)
    · rw [List.drop_eq_nil_of_le (by omega)]; rfl
  | succ d ih =>
    intro i hi
    have hd := drop_rd xs i (by omega)
    by_cases hp : rd xs (i : Int) > 1099511627776
    · refine ⟨(i : Int), ?_, ?_⟩
      · refine Ev.succ (fun k => by simp only [slices_IndexFunc_int_int_at_shape_Size_2.l0]; rfl) ?_
        refine Ev.pos (by omega) (Ev.pos (by omega) (Ev.pos (by omega) ?_))
        refine Ev.bindc (a := true) (by simp [shape_Size_2.f]; omega) (Ev.pos rfl (Ev.now _))
      · rw [hd, List.any_cons, decide_eq_true hp, Bool.true_or, decide_eq_true (by omega)]
    · obtain ⟨r, h1, h2⟩ := ih (i + 1) (by omega)
      refine ⟨r, ?_, ?_⟩
      · refine Ev.succ (fun k => by simp only [slices_IndexFunc_int_int_at_shape_Size_2.l0]; rfl) ?_
        refine Ev.pos (by omega) (Ev.pos (by omega) (Ev.pos (by omega) ?_))
        refine Ev.bindc (a := false) (by simp [shape_Size_2.f]; omega) (Ev.neg (by simp) ?_)
        rw [w64 (by omega) (by omega)]
        exact h1
      · rw [hd, List.any_cons, decide_eq_false hp, Bool.false_or, h2]
theorem any2 (xs : List Int) (v : Value) (hl : xs.length ≤ 1099511627776) : Ev (fun k => slices_ContainsFunc_int_int_at_shape_Size_2.f k xs v) (xs.any (fun n => decide (n > 1099511627776))) := by
  obtain ⟨r, h1, h2⟩ := idx2 xs hl xs.length 0 (by omega)
  unfold slices_ContainsFunc_int_int_at_shape_Size_2.f slices_IndexFunc_int_int_at_shape_Size_2.f
  refine Ev.bind h1 ?_
  rw [h2, List.drop_zero]
  exact Ev.now _

theorem idxE (xs : List Int) (a : Int) (hl : xs.length ≤ 1099511627776) (d : Nat) : ∀ i : Nat, i + d = xs.length →
    ∃ r : Int, Ev (fun k => slices_Index_int_int.l0 k xs a (xs.length : Int) (i : Int)) r ∧ (decide (r ≥ 0) = (xs.drop i).any (fun n => decide (a = n))) := by
  induction d with
  | zero =>
    intro i hi
    refine ⟨-1, ?_, ?_⟩
    · refine Ev.succ (f := fun _ => some (-1)) (fun k => by simp only [slices_Index_int_int.l0]; rw [if_neg (by omega)]) (Ev.now _)
    · rw [List.drop_eq_nil_of_le (by omega)]; rfl
  | succ d ih =>
    intro i hi
    have hd := drop_rd xs i (by omega)
    by_cases hp : a = rd xs (i : Int)
    · refine ⟨(i : Int), ?_, ?_⟩
      · refine Ev.succ (fun k => by simp only [slices_Index_int_int.l0]; rfl) ?_
        refine Ev.pos (by omega) (Ev.pos (by omega) (Ev.pos (by omega) ?_))
        exact Ev.pos hp (Ev.now _)
      · rw [hd, List.any_cons, decide_eq_true hp, Bool.true_or, decide_eq_true (by omega)]
    · obtain ⟨r, h1, h2⟩ := ih (i + 1) (by omega)
      refine ⟨r, ?_, ?_⟩
      · refine Ev.succ (fun k => by simp only [slices_Index_int_int.l0]; rfl) ?_
        refine Ev.pos (by omega) (Ev.pos (by omega) (Ev.pos (by omega) ?_))
        refine Ev.neg hp ?_
        rw [w64 (by omega) (by omega)]
        exact h1
      · rw [hd, List.any_cons, decide_eq_false hp, Bool.false_or, h2]
theorem anyE (xs : List Int) (a : Int) (hl : xs.length ≤ 1099511627776) : Ev (fun k => slices_Contains_int_int.f k xs a) (xs.any (fun n => decide (a = n))) := by
  obtain ⟨r, h1, h2⟩ := idxE xs a hl xs.length 0 (by omega)
  unfold slices_Contains_int_int.f slices_Index_int_int.f
  refine Ev.bind h1 ?_
  rw [h2, List.drop_zero]
  exact Ev.now _

/-! ### sizes -/
def prodV : Int → List Int → Int × Int
  | s, [] => (s, 0)
  | s, n :: l => if s * n > 4096 then (0, 8) else prodV (s * n) l
/-- How many elements a shape has. -/
def sizeV (l : List Int) : Int × Int := if (l.length : Int) > 3 then (0, 3) else if l.any (fun n => decide (n < 0)) = true then (0, 5) else if l.any (fun n => decide (n > 1099511627776)) = true then (0, 8) else if l.any (fun n => decide (0 = n)) = true then (0, 0) else prodV 1 l

theorem prodV_le (l : List Int) : ∀ s : Int, 1 ≤ s → s ≤ 4096 → (∀ n ∈ l, 1 ≤ n) → 0 ≤ (prodV s l).1 ∧ (prodV s l).1 ≤ 4096 ∧ ((prodV s l).2 = 0 → 1 ≤ (prodV s l).1) := by
  induction l with
  | nil => intro s h0 h1 _; exact ⟨by simp only [prodV]; omega, by simp only [prodV]; omega, fun _ => by simp only [prodV]; omega⟩
  | cons n l ih =>
    intro s h0 h1 hn
    have hn1 := hn n List.mem_cons_self
    simp only [prodV]
    by_cases h : s * n > 4096
    · rw [if_pos h]; exact ⟨by decide, by decide, fun e => by simp at e⟩
    · rw [if_neg h]
      have : 1 ≤ s * n := by
        have := Int.mul_le_mul h0 hn1 (by omega) (by omega)
        omega
      exact ih (s * n) this (by omega) (fun m hm => hn m (List.mem_cons_of_mem _ hm))
theorem pos_of {l : List Int} (h1 : l.any (fun n => decide (n < 0)) = false) (h2 : l.any (fun n => decide (0 = n)) = false) : ∀ n ∈ l, 1 ≤ n := by
  intro n hn
  have a := List.any_eq_false.1 h1 n hn
  have b := List.any_eq_false.1 h2 n hn
  simp only [decide_eq_true_eq] at a b
  omega
theorem sizeV_le (l : List Int) : 0 ≤ (sizeV l).1 ∧ (sizeV l).1 ≤ 4096 := by
  unfold sizeV
  split
  · exact ⟨by decide, by decide⟩
  · split
    · exact ⟨by decide, by decide⟩
    · split
      · exact ⟨by decide, by decide⟩
      · split
        · exact ⟨by decide, by decide⟩
        · rename_i a b c e
          have := prodV_le l 1 (by decide) (by decide) (pos_of (Bool.eq_false_iff.2 b) (Bool.eq_false_iff.2 e))
          exact ⟨this.1, this.2.1⟩
theorem sizeV_len {l : List Int} (h : (sizeV l).2 = 0) : l.length ≤ 3 := by
  unfold sizeV at h
  split at h
  · simp at h
  · omega

theorem quo_gt (s n : Int) (hs : 1 ≤ s) (hs2 : s ≤ 4096) : (n > wrap64 (Int.tdiv 4096 s)) ↔ s * n > 4096 := by
  have e : Int.tdiv 4096 s = 4096 / s := Int.tdiv_eq_ediv_of_nonneg (by omega)
  have hb : 0 ≤ 4096 / s := Int.ediv_nonneg (by omega) (by omega)
  have hb2 : 4096 / s ≤ 4096 := Int.ediv_le_self _ (by omega)
  rw [e, w64 (by omega) (by omega)]
  have := Int.ediv_lt_iff_lt_mul (a := 4096) (b := n) (c := s) (by omega)
  rw [Int.mul_comm]
  exact this

theorem shape_loop (l : List Int) (hl : l.length ≤ 1099511627776) (hn : ∀ n ∈ l, 1 ≤ n ∧ n ≤ 1099511627776) (d : Nat) : ∀ (i : Nat) (s : Int), i + d = l.length → 1 ≤ s → s ≤ 4096 →
    Ev (fun k => shape_Size.l0 k s l (l.length : Int) (i : Int)) (prodV s (l.drop i)) := by
  induction d with
  | zero =>
    intro i s hi h0 h1
    rw [List.drop_eq_nil_of_le (by omega)]
    refine Ev.succ (f := fun _ => some (s, 0)) (fun k => by simp only [shape_Size.l0]; rw [if_neg (by omega)]) (Ev.now _)
  | succ d ih =>
    intro i s hi h0 h1
    have hd := drop_rd l i (by omega)
    have hm := hn _ (rd_mem l i (by omega))
    rw [hd]
    simp only [prodV]
    refine Ev.succ (fun k => by simp only [shape_Size.l0]; rfl) ?_
    refine Ev.pos (by omega) (Ev.pos (by omega) (Ev.pos (by omega) (Ev.neg (by omega) ?_)))
    have hq := quo_gt s (rd l (i : Int)) h0 h1
    by_cases h : s * rd l (i : Int) > 4096
    · rw [if_pos h]
      exact Ev.pos (hq.2 h) (Ev.now _)
    · rw [if_neg h]
      refine Ev.neg (fun e => h (hq.1 e)) ?_
      have h2 : 1 ≤ s * rd l (i : Int) := by
        have := Int.mul_le_mul h0 hm.1 (by omega) (by omega)
        omega
      rw [w64 (x := s * rd l (i : Int)) (by omega) (by omega), w64 (by omega) (by omega)]
      exact ih (i + 1) _ (by omega) h2 (by omega)

theorem size_bounds {l : List Int} (h1 : l.any (fun n => decide (n < 0)) = false) (h2 : l.any (fun n => decide (0 = n)) = false) (h3 : l.any (fun n => decide (n > 1099511627776)) = false) : ∀ n ∈ l, 1 ≤ n ∧ n ≤ 1099511627776 := by
  intro n hn
  have c := List.any_eq_false.1 h3 n hn
  simp only [decide_eq_true_eq] at c
  exact ⟨pos_of h1 h2 n hn, by omega⟩

theorem shape_Size_spec (l : List Int) : Ev (fun k => shape_Size.f k l) (sizeV l) := by
  unfold shape_Size.f sizeV
  by_cases h : (l.length : Int) > 3
  · rw [if_pos h]; exact Ev.pos h (Ev.now _)
  · rw [if_neg h]
    refine Ev.neg h (Ev.bind (any1 l _ (by omega)) ?_)
    by_cases ha : l.any (fun n => decide (n < 0)) = true
    · rw [if_pos ha]; exact Ev.pos ha (Ev.now _)
    · rw [if_neg ha]
      refine Ev.neg ha (Ev.bind (any2 l _ (by omega)) ?_)
      by_cases hb : l.any (fun n => decide (n > 1099511627776)) = true
      · rw [if_pos hb]; exact Ev.pos hb (Ev.now _)
      · rw [if_neg hb]
        refine Ev.neg hb (Ev.bind (anyE l 0 (by omega)) ?_)
        by_cases hc : l.any (fun n => decide (0 = n)) = true
        · rw [if_pos hc]; exact Ev.pos hc (Ev.now _)
        · rw [if_neg hc]
          refine Ev.neg hc ?_
          have := shape_loop l (by omega) (size_bounds (Bool.eq_false_iff.2 ha) (Bool.eq_false_iff.2 hc) (Bool.eq_false_iff.2 hb)) l.length 0 1 (by omega) (by decide) (by decide)
          rwa [List.drop_zero] at this

/-! ### what may be -/
def mayV (l : List Int) (e : List ByteArray) : Bool := decide ((sizeV l).2 = 0) && (decide ((e.length : Int) = (sizeV l).1) && !e.any (fun s => !mayB s))

theorem idx3 (xs : List ByteArray) (hl : xs.length ≤ 1099511627776) (d : Nat) : ∀ i : Nat, i + d = xs.length →
    ∃ r : Int, Ev (fun k => slices_IndexFunc_string_string_at_val_May_1.l0 k xs (xs.length : Int) (i : Int)) r ∧ (decide (r ≥ 0) = (xs.drop i).any (fun s => !mayB s)) := by
  induction d with
  | zero =>
    intro i hi
    refine ⟨-1, ?_, ?_⟩
    · refine Ev.succ (f := fun _ => some (-1)) (fun k => by simp only [slices_IndexFunc_string_string_at_val_May_1.l0]; rw [if_neg (by omega)]) (Ev.now _)
    · rw [List.drop_eq_nil_of_le (by omega)]; rfl
  | succ d ih =>
    intro i hi
    have hd := drop_rdOf xs i (by omega)
    have hs : val_May_1.f (rdOf ByteArray.empty xs (i : Int)) = some (!mayB (rdOf ByteArray.empty xs (i : Int))) := by
      unfold val_May_1.f; rw [num_May_spec]; rfl
    by_cases hp : (!mayB (rdOf ByteArray.empty xs (i : Int))) = true
    · refine ⟨(i : Int), ?_, ?_⟩
      · refine Ev.succ (fun k => by simp only [slices_IndexFunc_string_string_at_val_May_1.l0]; rfl) ?_
        refine Ev.pos (by omega) (Ev.pos (by omega) (Ev.pos (by omega) ?_))
        exact Ev.bindc hs (Ev.pos hp (Ev.now _))
      · rw [hd, List.any_cons, hp, Bool.true_or, decide_eq_true (by omega)]
    · obtain ⟨r, h1, h2⟩ := ih (i + 1) (by omega)
      refine ⟨r, ?_, ?_⟩
      · refine Ev.succ (fun k => by simp only [slices_IndexFunc_string_string_at_val_May_1.l0]; rfl) ?_
        refine Ev.pos (by omega) (Ev.pos (by omega) (Ev.pos (by omega) ?_))
        refine Ev.bindc hs (Ev.neg hp ?_)
        rw [w64 (by omega) (by omega)]
        exact h1
      · rw [hd, List.any_cons, Bool.eq_false_iff.2 hp, Bool.false_or, h2]
theorem any3 (xs : List ByteArray) (v : Value) (hl : xs.length ≤ 1099511627776) : Ev (fun k => slices_ContainsFunc_string_string_at_val_May_1.f k xs v) (xs.any (fun s => !mayB s)) := by
  obtain ⟨r, h1, h2⟩ := idx3 xs hl xs.length 0 (by omega)
  unfold slices_ContainsFunc_string_string_at_val_May_1.f slices_IndexFunc_string_string_at_val_May_1.f
  refine Ev.bind h1 ?_
  rw [h2, List.drop_zero]
  exact Ev.now _

theorem val_May_spec (l : List Int) (e : List ByteArray) : Ev (fun k => val_May.f k l e) (mayV l e) := by
  unfold val_May.f mayV
  have hb := sizeV_le l
  refine Ev.bind (shape_Size_spec l) (Ev.ite (fun h1 => ?_) (fun h1 => ?_))
  · rw [decide_eq_true h1, Bool.true_and]
    refine Ev.ite (fun h2 => ?_) (fun h2 => ?_)
    · rw [decide_eq_true h2, Bool.true_and]
      exact Ev.bind (any3 e _ (by omega)) (Ev.now _)
    · rw [decide_eq_false h2, Bool.false_and]
      exact Ev.now _
  · rw [decide_eq_false h1, Bool.false_and]
    exact Ev.now _

/-! ### few, same -/
def fewV (l : List Int) (e : List ByteArray) : Bool := !(e.take 301).any (fun s => decide ((s.size : Int) > 120)) && (decide ((e.length : Int) ≤ 300) && decide ((l.length : Int) ≤ 20))

theorem few_j (l : List Int) (e : List ByteArray) (i : Int) : Ev (fun k => reredosref04_Few.j1 k i false l e) (decide ((e.length : Int) ≤ 300) && decide ((l.length : Int) ≤ 20)) := by
  refine Ev.succ (fun k => by simp only [reredosref04_Few.j1]; rfl) ?_
  refine Ev.neg (by simp) (Ev.ite (fun h => ?_) (fun h => ?_))
  · rw [decide_eq_true h, Bool.true_and]; exact Ev.now _
  · rw [decide_eq_false h, Bool.false_and]; exact Ev.now _

theorem few_loop (l : List Int) (e : List ByteArray) (d : Nat) : ∀ i : Nat, i + d = 301 →
    Ev (fun k => reredosref04_Few.l0 k (i : Int) l e) (!((e.take 301).drop i).any (fun s => decide ((s.size : Int) > 120)) && (decide ((e.length : Int) ≤ 300) && decide ((l.length : Int) ≤ 20))) := by
  induction d with
  | zero =>
    intro i hi
    rw [List.drop_eq_nil_of_le (by rw [List.length_take]; omega), List.any_nil, Bool.not_false, Bool.true_and]
    refine Ev.succ (fun k => by simp only [reredosref04_Few.l0]; rfl) ?_
    rw [decide_eq_false (show ¬ (i : Int) < 301 by omega)]
    exact Ev.ite (fun _ => few_j l e _) (fun _ => few_j l e _)
  | succ d ih =>
    intro i hi
    refine Ev.succ (fun k => by simp only [reredosref04_Few.l0]; rfl) ?_
    refine Ev.ite (fun h => ?_) (fun h => ?_)
    · have hd : (e.take 301).drop i = rdOf ByteArray.empty e (i : Int) :: (e.take 301).drop (i + 1) := by
        rw [List.drop_take, drop_rdOf e i (by omega), List.drop_take, show 301 - i = (301 - (i + 1)) + 1 by omega, List.take_succ_cons]
      rw [hd, List.any_cons, decide_eq_true (show (i : Int) < 301 by omega)]
      refine Ev.succ (fun k => by simp only [reredosref04_Few.j1]; rfl) ?_
      refine Ev.pos trivial (Ev.pos (by omega) (Ev.pos h (Ev.ite (fun h2 => ?_) (fun h2 => ?_))))
      · rw [decide_eq_true h2, Bool.true_or, Bool.not_true, Bool.false_and]
        exact Ev.now _
      · rw [decide_eq_false h2, Bool.false_or, w64 (by omega) (by omega)]
        exact ih (i + 1) (by omega)
    · rw [List.drop_eq_nil_of_le (by rw [List.length_take]; omega), List.any_nil, Bool.not_false, Bool.true_and]
      exact few_j l e _

theorem few_spec (l : List Int) (e : List ByteArray) : Ev (fun k => reredosref04_Few.f k l e) (fewV l e) := by
  unfold reredosref04_Few.f fewV
  have := few_loop l e 301 0 (by omega)
  rwa [List.drop_zero] at this

end Go.Proofs.YtfjilihppnndkaaDoor.P
namespace Go.Proofs.YtfjilihppnndkaaDoor.P
open Go.RowKit Go.Proofs.YtfjilihppnndkaaDoorW.PrintWords Go.Proofs.YtfjilihppnndkaaDoorW.PrintLast Go.Proofs.YtfjilihppnndkaaDoorW.PrintMore

/-! ### widths -/

/-! ### bytes of a number -/

theorem set_zero (d : Nat) (l : List Int) (v : Int) : (List.replicate (d + 1) 0 ++ l).set d v = List.replicate d 0 ++ v :: l := by
  induction d with
  | zero => rfl
  | succ d ih =>
    rw [List.replicate_succ, List.cons_append, List.set_cons_succ, ih, List.replicate_succ (n := d), List.cons_append]

/-! ### numbers laid in a width -/

/-! ### packed -/

theorem mayV_len {l : List Int} {e : List ByteArray} (h : mayV l e = true) : e.length ≤ 4096 ∧ l.length ≤ 3 ∧ ∀ s ∈ e, mayB s = true := by
  unfold mayV at h
  rw [Bool.and_eq_true, Bool.and_eq_true, decide_eq_true_eq, decide_eq_true_eq, Bool.not_eq_true'] at h
  have := sizeV_le l
  refine ⟨by omega, sizeV_len h.1, fun s hs => ?_⟩
  have := List.any_eq_false.1 h.2.2 s hs
  simpa using this

end Go.Proofs.YtfjilihppnndkaaDoor.P
namespace Go.Proofs.YtfjilihppnndkaaDoor.P
open Go.RowKit Go.Proofs.YtfjilihppnndkaaDoorW.PrintWords Go.Proofs.YtfjilihppnndkaaDoorW.PrintLast Go.Proofs.YtfjilihppnndkaaDoorW.PrintMore

/-! ### are arrays fine -/
theorem drop_T (xs : List S25) (i : Nat) (h : i < xs.length) : xs.drop i = rd_T25 xs (i : Int) :: xs.drop (i + 1) := by
  rw [List.drop_eq_getElem_cons h]
  simp [rd_T25, List.getD_eq_getElem?_getD, h]
theorem idxF (xs : List S25) (hl : xs.length ≤ 1099511627776) (d : Nat) : ∀ i : Nat, i + d = xs.length →
    ∃ r : Int, Ev (fun k => slices_IndexFunc_api_Val_api_Val_at_mould_fine_1.l0 k xs (xs.length : Int) (i : Int)) r ∧ (decide (r ≥ 0) = (xs.drop i).any (fun s => !mayV s.f0 s.f1)) := by
  induction d with
  | zero =>
    intro i hi
    refine ⟨-1, ?_, ?_⟩
    · refine Ev.succ (f := fun _ => some (-1)) (fun k => by simp only [slices_IndexFunc_api_Val_api_Val_at_mould_fine_1.l0]; rw [if_neg (by omega)]) (Ev.now _)
    · rw [List.drop_eq_nil_of_le (by omega)]; rfl
  | succ d ih =>
    intro i hi
    have hd := drop_T xs i (by omega)
    have hs : Ev (fun k => mould_fine_1.f k (rd_T25 xs (i : Int)).f0 (rd_T25 xs (i : Int)).f1) (!mayV (rd_T25 xs (i : Int)).f0 (rd_T25 xs (i : Int)).f1) := by
      unfold mould_fine_1.f
      exact Ev.bind (val_May_spec _ _) (Ev.now _)
    by_cases hp : (!mayV (rd_T25 xs (i : Int)).f0 (rd_T25 xs (i : Int)).f1) = true
    · refine ⟨(i : Int), ?_, ?_⟩
      · refine Ev.succ (fun k => by simp only [slices_IndexFunc_api_Val_api_Val_at_mould_fine_1.l0]; rfl) ?_
        refine Ev.pos (by omega) (Ev.pos (by omega) (Ev.pos (by omega) ?_))
        exact Ev.bind hs (Ev.pos hp (Ev.now _))
      · rw [hd, List.any_cons, hp, Bool.true_or, decide_eq_true (by omega)]
    · obtain ⟨r, h1, h2⟩ := ih (i + 1) (by omega)
      refine ⟨r, ?_, ?_⟩
      · refine Ev.succ (fun k => by simp only [slices_IndexFunc_api_Val_api_Val_at_mould_fine_1.l0]; rfl) ?_
        refine Ev.pos (by omega) (Ev.pos (by omega) (Ev.pos (by omega) ?_))
        refine Ev.bind hs (Ev.neg hp ?_)
        rw [w64 (by omega) (by omega)]
        exact h1
      · rw [hd, List.any_cons, Bool.eq_false_iff.2 hp, Bool.false_or, h2]
theorem fine_spec (xs : List S25) (hl : xs.length ≤ 1099511627776) : Ev (fun k => mould_fine.f k xs) (!xs.any (fun s => !mayV s.f0 s.f1)) := by
  obtain ⟨r, h1, h2⟩ := idxF xs hl xs.length 0 (by omega)
  unfold mould_fine.f slices_ContainsFunc_api_Val_api_Val_at_mould_fine_1.f slices_IndexFunc_api_Val_api_Val_at_mould_fine_1.f
  refine Ev.bind (Ev.bind h1 (Ev.now _)) ?_
  rw [h2, List.drop_zero]
  exact Ev.now _
theorem fine_one (l : List Int) (e : List ByteArray) : Ev (fun k => mould_fine.f k [⟨l, e⟩]) (mayV l e) := by
  have := fine_spec [⟨l, e⟩] (by simp)
  simpa using this
theorem fine_two (l : List Int) (e : List ByteArray) (l' : List Int) (e' : List ByteArray) : Ev (fun k => mould_fine.f k [⟨l, e⟩, ⟨l', e'⟩]) (mayV l e && mayV l' e') := by
  have := fine_spec [⟨l, e⟩, ⟨l', e'⟩] (by simp)
  simpa using this

/-! ### numbers as texts -/
theorem num_Of_spec (x : Int) (h : in64 x = true) : num_Of.f x = some (mkS (Lib.itoa x)) := by
  have h' := of_decide_eq_true h
  unfold num_Of.f strconv_FormatInt.f
  rw [if_pos ⟨rfl, by omega, by omega⟩]
  rfl
def oneV (s : ByteArray) : Int × Int := if (intB s).2 = true then (if (intB s).1 < -1099511627776 then (0, 5) else if (intB s).1 > 1099511627776 then (0, 5) else ((intB s).1, 0)) else (0, 5)
theorem val_one_spec (s : ByteArray) (hs : s.size ≤ 281474976710656) : val_one.f s = some (oneV s) := by
  unfold val_one.f oneV
  rw [num_Int_spec s hs]
  simp only [Option.bind_some]
  split
  · split
    · rfl
    · split <;> rfl
  · rfl
theorem vector_spec (l : List ByteArray) (h : l.length ≤ 8796093022208) : val_Vector.f l = some ([(l.length : Int)], l) := by
  unfold val_Vector.f slices_Clone_string_string.f
  rw [if_pos h]
  rfl
theorem clone_int (l : List Int) (h : l.length ≤ 17592186044416) : slices_Clone_int_int.f l = some l := by unfold slices_Clone_int_int.f; rw [if_pos h]
theorem clone_str (l : List ByteArray) (h : l.length ≤ 8796093022208) : slices_Clone_string_string.f l = some l := by unfold slices_Clone_string_string.f; rw [if_pos h]
def itoS (x : Int) : ByteArray := mkS (Lib.itoa x)
theorem ints_loop (l : List Int) (hl : l.length ≤ 1099511627776) (hr : ∀ x ∈ l, in64 x = true) (d : Nat) : ∀ i : Nat, i + d = l.length →
    Ev (fun k => val_Ints.l0 k ((l.take i).map itoS) l (l.length : Int) (i : Int)) ([(l.length : Int)], l.map itoS) := by
  induction d with
  | zero =>
    intro i hi
    refine Ev.succ (fun k => by simp only [val_Ints.l0]; rfl) ?_
    refine Ev.neg (by omega) ?_
    rw [List.take_of_length_le (by omega)]
    refine Ev.bindc (vector_spec _ (by rw [List.length_map]; omega)) ?_
    rw [List.length_map]
    exact Ev.now _
  | succ d ih =>
    intro i hi
    have hlt : i < l.length := by omega
    have hrd : rd l (i : Int) = l[i] := by simp [rd, List.getD_eq_getElem?_getD, hlt]
    refine Ev.succ (fun k => by simp only [val_Ints.l0]; rfl) ?_
    refine Ev.pos (by omega) (Ev.pos (by omega) (Ev.pos (by omega) ?_))
    refine Ev.bindc (num_Of_spec _ (by rw [hrd]; exact hr _ (List.getElem_mem hlt))) ?_
    refine Ev.pos (by rw [List.length_map, List.length_take]; omega) ?_
    rw [w64 (by omega) (by omega)]
    have := ih (i + 1) (by omega)
    rw [List.take_succ_eq_append_getElem hlt, List.map_append] at this
    rw [hrd]
    exact this
theorem ints_spec (l : List Int) (hl : l.length ≤ 1099511627776) (hr : ∀ x ∈ l, in64 x = true) : Ev (fun k => val_Ints.f k l) ([(l.length : Int)], l.map itoS) := by
  unfold val_Ints.f
  exact ints_loop l hl hr l.length 0 (by omega)

/-! ### items -/
def manyV : List Int → Int
  | [] => 1
  | n :: _ => n
theorem items_spec (l : List Int) (h : l.length ≤ 17592186044416) : shape_Items.f l = some (manyV l, l.drop 1) := by
  unfold shape_Items.f
  cases l with
  | nil => rfl
  | cons n l =>
    rw [if_neg (by simp only [List.length_cons]; omega), if_pos (by simp only [List.length_cons]; omega), if_pos (by simp only [List.length_cons]; omega)]
    rw [clone_int _ (by simp only [List.length_cons, List.drop_one, List.tail_cons] at h ⊢; omega)]
    rfl
theorem many_spec (l : List Int) (e : List ByteArray) (h : l.length ≤ 17592186044416) : val_Many.f l e = some (manyV l) := by
  unfold val_Many.f
  rw [items_spec l h]
  rfl

/-! ### the same -/
theorem eqI_loop (a b : List Int) (hl : a.length = b.length) (hb : a.length ≤ 1099511627776) (d : Nat) : ∀ i : Nat, i + d = a.length → Ev (fun k => slices_Equal_int_int.l0 k a b (a.length : Int) (i : Int)) (decide (a.drop i = b.drop i)) := by
  induction d with
  | zero =>
    intro i hi
    refine Ev.succ (fun k => by simp only [slices_Equal_int_int.l0]; rfl) ?_
    refine Ev.neg (by omega) ?_
    rw [List.drop_eq_nil_of_le (by omega), List.drop_eq_nil_of_le (by omega), decide_eq_true rfl]
    exact Ev.now _
  | succ d ih =>
    intro i hi
    refine Ev.succ (fun k => by simp only [slices_Equal_int_int.l0]; rfl) ?_
    refine Ev.pos (by omega) (Ev.pos (by omega) (Ev.pos (by omega) (Ev.pos (by omega) ?_)))
    have ha := drop_rd a i (by omega)
    have hb := drop_rd b i (by omega)
    refine Ev.ite (fun h => ?_) (fun h => ?_)
    · rw [w64 (by omega) (by omega)]
      have e : decide (a.drop i = b.drop i) = decide (a.drop (i + 1) = b.drop (i + 1)) := by rw [ha, hb, h]; simp
      rw [e]
      exact ih (i + 1) (by omega)
    · rw [decide_eq_false (by rw [ha, hb]; simp [h])]
      exact Ev.now _
theorem eqI_spec (a b : List Int) (hb : a.length ≤ 1099511627776) : Ev (fun k => slices_Equal_int_int.f k a b) (decide (a = b)) := by
  unfold slices_Equal_int_int.f
  refine Ev.ite (fun h => ?_) (fun h => ?_)
  · have := eqI_loop a b (by omega) hb a.length 0 (by omega)
    rwa [List.drop_zero, List.drop_zero] at this
  · rw [decide_eq_false (fun e => h (by rw [e]))]
    exact Ev.now _
theorem eqS_loop (a b : List ByteArray) (hl : a.length = b.length) (hb : a.length ≤ 1099511627776) (d : Nat) : ∀ i : Nat, i + d = a.length → Ev (fun k => slices_Equal_string_string.l0 k a b (a.length : Int) (i : Int)) (decide (a.drop i = b.drop i)) := by
  induction d with
  | zero =>
    intro i hi
    refine Ev.succ (fun k => by simp only [slices_Equal_string_string.l0]; rfl) ?_
    refine Ev.neg (by omega) ?_
    rw [List.drop_eq_nil_of_le (by omega), List.drop_eq_nil_of_le (by omega), decide_eq_true rfl]
    exact Ev.now _
  | succ d ih =>
    intro i hi
    refine Ev.succ (fun k => by simp only [slices_Equal_string_string.l0]; rfl) ?_
    refine Ev.pos (by omega) (Ev.pos (by omega) (Ev.pos (by omega) (Ev.pos (by omega) ?_)))
    have ha := drop_rdOf a i (by omega)
    have hb := drop_rdOf b i (by omega)
    refine Ev.ite (fun h => ?_) (fun h => ?_)
    · rw [w64 (by omega) (by omega)]
      rw [Ls_eq, Ls_eq] at h
      have e : decide (a.drop i = b.drop i) = decide (a.drop (i + 1) = b.drop (i + 1)) := by rw [ha, hb, Ls_inj h]; simp
      rw [e]
      exact ih (i + 1) (by omega)
    · rw [decide_eq_false (fun e => h (by rw [ha, hb] at e; rw [(List.cons.inj e).1]))]
      exact Ev.now _
theorem eqS_spec (a b : List ByteArray) (hb : a.length ≤ 1099511627776) : Ev (fun k => slices_Equal_string_string.f k a b) (decide (a = b)) := by
  unfold slices_Equal_string_string.f
  refine Ev.ite (fun h => ?_) (fun h => ?_)
  · have := eqS_loop a b (by omega) hb a.length 0 (by omega)
    rwa [List.drop_zero, List.drop_zero] at this
  · rw [decide_eq_false (fun e => h (by rw [e]))]
    exact Ev.now _
theorem shape_Same_spec (a b : List Int) (hb : a.length ≤ 1099511627776) : Ev (fun k => shape_Same.f k a b) (decide (a = b)) := by
  unfold shape_Same.f
  exact Ev.bind (eqI_spec a b hb) (Ev.now _)
theorem val_Same_spec (a : List Int) (e : List ByteArray) (b : List Int) (f : List ByteArray) (h1 : a.length ≤ 1099511627776) (h2 : e.length ≤ 1099511627776) : Ev (fun k => val_Same.f k a e b f) (decide (a = b) && decide (e = f)) := by
  unfold val_Same.f
  refine Ev.bind (shape_Same_spec a b h1) (Ev.ite (fun h => ?_) (fun h => ?_))
  · rw [h, Bool.true_and]
    exact Ev.bind (eqS_spec e f h2) (Ev.now _)
  · rw [Bool.eq_false_iff.2 h, Bool.false_and]
    exact Ev.now _

/-! ### some items -/
/-- How many elements an item has. -/
def isz (l : List Int) (e : List ByteArray) : Int := if manyV l > 0 then (e.length : Int) / manyV l else 0
theorem some_spec (l : List Int) (e : List ByteArray) (a b : Nat) (hl : l.length ≤ 1099511627776) (he : e.length ≤ 1099511627776) (hab : a ≤ b) (hb : b ≤ 1099511627776) (hm : (b : Int) * isz l e ≤ e.length) :
    mould_some.f l e (a : Int) (b : Int) = some ([(b : Int) - (a : Int)] ++ l.drop 1, (e.drop (a * (isz l e).toNat)).take (b * (isz l e).toNat - a * (isz l e).toNat)) := by
  unfold mould_some.f
  rw [items_spec l (by omega)]
  simp only [Option.bind_some]
  have hw : wrap64 ((b : Int) - (a : Int)) = (b : Int) - (a : Int) := w64 (by omega) (by omega)
  have hdl : (l.drop 1).length ≤ l.length := by rw [List.length_drop]; omega
  by_cases hp : manyV l > 0
  · have hz : isz l e = (e.length : Int) / manyV l := by unfold isz; rw [if_pos hp]
    have hz0 : 0 ≤ isz l e := by rw [hz]; exact Int.ediv_nonneg (by omega) (by omega)
    have hz1 : isz l e ≤ e.length := by rw [hz]; exact Int.ediv_le_self _ (by omega)
    rw [if_pos hp, if_neg (by omega), hw]
    rw [← hz]
    obtain ⟨z, hzz⟩ := Int.eq_ofNat_of_zero_le hz0
    rw [hzz] at hm hz1 ⊢
    rw [w64 (x := (z : Int)) (by omega) (by omega)]
    have hba : a * z ≤ b * z := Nat.mul_le_mul_right _ hab
    have hbz : b * z ≤ e.length := by exact_mod_cast hm
    rw [w64 (x := (a : Int) * (z : Int)) (by rw [← Int.natCast_mul]; omega) (by rw [← Int.natCast_mul]; omega), w64 (x := (b : Int) * (z : Int)) (by rw [← Int.natCast_mul]; omega) (by rw [← Int.natCast_mul]; omega)]
    rw [← Int.natCast_mul, ← Int.natCast_mul]
    unfold mould_part_string.f
    rw [if_pos (by simp only [List.length_cons, List.length_nil]; omega), if_pos ⟨by omega, by omega, by omega⟩]
    simp only [Int.toNat_natCast]
    rw [clone_str _ (by rw [List.length_take, List.length_drop]; omega)]
    rfl
  · have hz : isz l e = 0 := by unfold isz; rw [if_neg hp]
    rw [if_neg hp, hw, hz]
    simp only [Int.toNat_zero, Nat.mul_zero, List.drop_zero, Nat.sub_zero, List.take_zero]
    rw [if_pos (by simp only [List.length_cons, List.length_nil]; omega)]
    unfold mould_part_string.f
    rw [show wrap64 0 = 0 by decide +kernel, if_pos ⟨by omega, by omega, by omega⟩]
    simp only [Int.toNat_zero, List.drop_zero, Nat.sub_zero, List.take_zero]
    rw [clone_str _ (by simp)]
    rfl
end Go.Proofs.YtfjilihppnndkaaDoor.P
namespace Go.Proofs.YtfjilihppnndkaaDoor.P
open Go.RowKit Go.Proofs.YtfjilihppnndkaaDoorW.PrintWords Go.Proofs.YtfjilihppnndkaaDoorW.PrintLast Go.Proofs.YtfjilihppnndkaaDoorW.PrintMore

/-! ### the numbers below one -/

/-! ### reversed -/
def chunkE (e : List ByteArray) (z i : Nat) : List ByteArray := (e.drop (i * z)).take z
def revE (e : List ByteArray) (z n : Nat) : List ByteArray := (List.range n).reverse.flatMap (chunkE e z)
theorem revE_succ (e : List ByteArray) (z n : Nat) : revE e z (n + 1) = chunkE e z n ++ revE e z n := by
  unfold revE
  rw [List.range_succ, List.reverse_append, List.flatMap_append]
  simp
theorem chunk_le (e : List ByteArray) (z i : Nat) : (chunkE e z i).length ≤ z := by unfold chunkE; rw [List.length_take]; omega
theorem rev_loop (l : List Int) (e : List ByteArray) (t : List Int) (hl : l.length ≤ 1099511627776) (he : e.length ≤ 1099511627776) (hz0 : 0 ≤ isz l e) (m : Nat) (hm1 : m ≤ 1099511627776) (hm : (m : Int) * isz l e ≤ e.length) : ∀ (n : Nat) (acc : List ByteArray), n ≤ m → acc.length + n * (isz l e).toNat ≤ 2199023255552 →
    Ev (fun k => mould_Reverse.l0 k ((n : Int) - 1) l e t acc) (t, acc ++ revE e (isz l e).toNat n, 0) := by
  intro n
  induction n with
  | zero =>
    intro acc _ _
    refine Ev.succ (fun k => by simp only [mould_Reverse.l0]; rfl) ?_
    refine Ev.neg (by omega) ?_
    simp only [revE, List.range_zero, List.reverse_nil, List.flatMap_nil, List.append_nil]
    exact Ev.now _
  | succ n ih =>
    intro acc hn hb
    have e1 : (((n + 1 : Nat) : Int) - 1) = (n : Int) := by omega
    rw [e1]
    refine Ev.succ (fun k => by simp only [mould_Reverse.l0]; rfl) ?_
    refine Ev.pos (by omega) ?_
    have hz1 : ((n + 1 : Nat) : Int) * isz l e ≤ e.length := Int.le_trans (Int.mul_le_mul_of_nonneg_right (by omega) hz0) hm
    have hs := some_spec l e n (n + 1) hl he (by omega) (by omega) hz1
    have e2 : (n + 1) * (isz l e).toNat - n * (isz l e).toNat = (isz l e).toNat := by rw [Nat.succ_mul]; omega
    rw [e2] at hs
    rw [show wrap64 ((n : Int) + 1) = ((n + 1 : Nat) : Int) by rw [w64 (by omega) (by omega)]; omega]
    refine Ev.bindc hs ?_
    have hc := chunk_le e (isz l e).toNat n
    rw [Nat.succ_mul] at hb
    refine Ev.pos (by show acc.length + (chunkE e (isz l e).toNat n).length < _; omega) ?_
    rw [w64 (x := (n : Int) - 1) (by omega) (by omega), revE_succ, ← List.append_assoc]
    exact ih (acc ++ chunkE e (isz l e).toNat n) (by omega) (by rw [List.length_append]; omega)
def revV (l : List Int) (e : List ByteArray) : List Int × List ByteArray × Int :=
  if mayV l e = true then (if l = [] ∨ e = [] then (l, e, 0) else (l, revE e (isz l e).toNat (manyV l).toNat, 0)) else ([], [], 1)
/-- What may be has its size: each axis is none or more, and as many elements as the axes say. -/
theorem mayV_size {l : List Int} {e : List ByteArray} (h : mayV l e = true) : (sizeV l).2 = 0 ∧ (e.length : Int) = (sizeV l).1 ∧ e.any (fun s => !mayB s) = false := by
  unfold mayV at h
  rw [Bool.and_eq_true, Bool.and_eq_true, decide_eq_true_eq, decide_eq_true_eq, Bool.not_eq_true'] at h
  exact ⟨h.1, h.2.1, h.2.2⟩
/-- The axes of what may be. -/
theorem sizeV_axes {l : List Int} (h : (sizeV l).2 = 0) : ∀ n ∈ l, 0 ≤ n ∧ n ≤ 1099511627776 := by
  unfold sizeV at h
  split at h
  · cases h
  · split at h
    · cases h
    · rename_i h1
      split at h
      · cases h
      · rename_i h2
        intro n hn
        have a := List.any_eq_false.1 (Bool.eq_false_iff.2 h1) n hn
        have b := List.any_eq_false.1 (Bool.eq_false_iff.2 h2) n hn
        simp only [decide_eq_true_eq] at a b
        omega
theorem Reverse_spec (l : List Int) (e : List ByteArray) : Ev (fun k => mould_Reverse.f k l e) (revV l e) := by
  unfold mould_Reverse.f revV
  refine Ev.bind (fine_one l e) (Ev.ite (fun h1 => ?_) (fun h1 => ?_))
  · rw [if_pos h1]
    have hlen := mayV_len h1
    have hj : ∀ b : Bool, b = decide (l = [] ∨ e = []) → Ev (fun k => mould_Reverse.j0 k b l e) (if l = [] ∨ e = [] then (l, e, 0) else (l, revE e (isz l e).toNat (manyV l).toNat, 0)) := by
      intro b hb
      refine Ev.succ (fun k => by simp only [mould_Reverse.j0]; rfl) ?_
      refine Ev.ite (fun h => ?_) (fun h => ?_)
      · rw [hb, decide_eq_true_eq] at h
        rw [if_pos h]
        exact Ev.bindc (clone_int l (by omega)) (Ev.bindc (clone_str e (by omega)) (Ev.now _))
      · rw [hb, decide_eq_true_eq] at h
        rw [if_neg h]
        refine Ev.bindc (clone_int l (by omega)) (Ev.bindc (many_spec l e (by omega)) ?_)
        have hax := sizeV_axes (mayV_size h1).1
        have hm0 : 0 ≤ manyV l ∧ manyV l ≤ 1099511627776 := by
          cases l with
          | nil => exact absurd (Or.inl rfl) h
          | cons n l => exact hax n (by simp)
        obtain ⟨m, hm⟩ := Int.eq_ofNat_of_zero_le hm0.1
        have hz0 : 0 ≤ isz l e := by unfold isz; split <;> first | exact Int.ediv_nonneg (by omega) (by omega) | omega
        have hzm : (m : Int) * isz l e ≤ e.length := by
          unfold isz
          split
          · rw [← hm]; exact Int.mul_ediv_self_le (by omega)
          · omega
        have hz1 : (isz l e).toNat ≤ 4096 := by
          have : isz l e ≤ e.length := by
            unfold isz
            split
            · exact Int.ediv_le_self _ (by omega)
            · omega
          omega
        rw [hm] at hm0
        rw [hm, w64 (x := (m : Int) - 1) (by omega) (by omega), Int.toNat_natCast]
        have hb2 : m * (isz l e).toNat ≤ 4096 := by
          have h4 : ((m * (isz l e).toNat : Nat) : Int) ≤ (e.length : Int) := by rw [Int.natCast_mul, Int.toNat_of_nonneg hz0]; exact hzm
          omega
        exact rev_loop l e l (by omega) (by omega) hz0 m (by omega) hzm m [] (Nat.le_refl _) (by rw [List.length_nil]; omega)
    refine Ev.ite (fun h2 => hj true ?_) (fun h2 => hj _ ?_)
    · rw [decide_eq_true (.inl (List.length_eq_zero_iff.1 (by omega)))]
    · have hl : l ≠ [] := fun e => h2 (by rw [e]; rfl)
      cases e with
      | nil => simp
      | cons x e => simp [hl]; omega
  · rw [if_neg h1]; exact Ev.now _
end Go.Proofs.YtfjilihppnndkaaDoor.P
namespace Go.Proofs.YtfjilihppnndkaaDoor.P
open Go.RowKit Go.Proofs.YtfjilihppnndkaaDoorW.PrintWords Go.Proofs.YtfjilihppnndkaaDoorW.PrintLast Go.Proofs.YtfjilihppnndkaaDoorW.PrintMore

theorem in64_abs {x : Int} (h : in64 x = true) : x.natAbs < 10 ^ 100 := by
  have := of_decide_eq_true h
  exact lt_100 (by omega)
theorem may_ito {x : Int} (h : in64 x = true) : mayB (itoS x) = true := by
  show mayL (Ls (mkS (Lib.itoa x))) = true
  rw [Ls_mk]
  exact itoa_may x (in64_abs h)
theorem int_ito {x : Int} (h : in64 x = true) : intB (itoS x) = (x, true) := by
  unfold intB
  rw [if_pos (may_ito h), show Ls (itoS x) = Lib.itoa x from Ls_mk _, valL_itoa, if_pos h]
theorem one_ito {x : Int} (h0 : -1099511627776 ≤ x) (h1 : x ≤ 1099511627776) : oneV (itoS x) = (x, 0) := by
  unfold oneV
  rw [int_ito (decide_eq_true (by omega)), if_pos rfl, if_neg (by show ¬ x < _; omega), if_neg (by show ¬ x > _; omega)]
theorem ito_size {x : Int} (h : in64 x = true) : (itoS x).size ≤ 120 := itoa_size_le 120 100 x (in64_abs h) (by omega) (by omega)
theorem sizeV_one {n : Int} (h0 : 0 ≤ n) (h1 : n ≤ 4096) : sizeV [n] = (n, 0) := by
  unfold sizeV
  rw [if_neg (by simp), if_neg (by simp; omega), if_neg (by simp; omega)]
  by_cases h : n = 0
  · subst h; rfl
  · rw [if_neg (by simp; omega)]
    unfold prodV
    rw [if_neg (by omega), Int.one_mul]
    rfl
theorem may_row {n : Nat} (h : n ≤ 4096) (l : List Int) (hl : l.length = n) (hr : ∀ x ∈ l, in64 x = true) : mayV [(n : Int)] (l.map itoS) = true := by
  unfold mayV
  rw [sizeV_one (by omega) (by omega), List.length_map, hl]
  have : (l.map itoS).any (fun s => !mayB s) = false := by
    rw [List.any_eq_false]
    intro s hs
    obtain ⟨x, hx, rfl⟩ := List.mem_map.1 hs
    rw [may_ito (hr x hx)]
    decide
  rw [this]
  simp

theorem rdOf_get (xs : List ByteArray) (i : Nat) (h : i < xs.length) : rdOf ByteArray.empty xs (i : Int) = xs[i] := by simp [rdOf, List.getD_eq_getElem?_getD, h]

end Go.Proofs.YtfjilihppnndkaaDoor.P
namespace Go.Proofs.YtfjilihppnndkaaDoor.P
open Go.RowKit Go.Proofs.YtfjilihppnndkaaDoorW.PrintWords Go.Proofs.YtfjilihppnndkaaDoorW.PrintLast Go.Proofs.YtfjilihppnndkaaDoorW.PrintMore

/-! ### places and offsets over natural numbers -/
def digN : List Nat → Nat → List Nat
  | [], _ => []
  | n :: r, i => i % n :: digN r (i / n)
def offN : List Nat → List Nat → Nat → Nat
  | n :: s, x :: d, acc => offN s d (acc * n + x)
  | _, _, acc => acc
def prodN : List Nat → Nat
  | [] => 1
  | n :: s => n * prodN s
theorem prodN_append (s t : List Nat) : prodN (s ++ t) = prodN s * prodN t := by
  induction s with
  | nil => simp [prodN]
  | cons n s ih => simp [prodN, ih, Nat.mul_assoc]
theorem prodN_reverse (s : List Nat) : prodN s.reverse = prodN s := by
  induction s with
  | nil => rfl
  | cons n s ih => rw [List.reverse_cons, prodN_append, ih]; simp [prodN, Nat.mul_comm]
theorem prodN_pos {s : List Nat} (h : ∀ n ∈ s, 1 ≤ n) : 1 ≤ prodN s := by
  induction s with
  | nil => exact Nat.le_refl _
  | cons n s ih => exact Nat.mul_pos (h n (by simp)) (ih (fun m hm => h m (by simp [hm])))
theorem digN_len (s : List Nat) : ∀ i, (digN s i).length = s.length := by
  induction s with
  | nil => exact fun _ => rfl
  | cons n s ih => intro i; simp [digN, ih]
theorem digN_snoc (s : List Nat) (n : Nat) : ∀ i, digN (s ++ [n]) i = digN s i ++ [i / prodN s % n] := by
  induction s with
  | nil => intro i; simp [digN, prodN]
  | cons m s ih => intro i; simp [digN, prodN, ih, Nat.div_div_eq_div_mul]
theorem offN_snoc (s : List Nat) (n x : Nat) : ∀ (d : List Nat) (acc : Nat), d.length = s.length → offN (s ++ [n]) (d ++ [x]) acc = offN s d acc * n + x := by
  induction s with
  | nil =>
    intro d acc h
    obtain rfl := List.length_eq_zero_iff.1 h
    rfl
  | cons m s ih =>
    intro d acc h
    cases d with
    | nil => cases h
    | cons y d => exact ih d _ (by simpa using h)
theorem offN_acc (s : List Nat) : ∀ (d : List Nat) (acc : Nat), d.length = s.length → offN s d acc = acc * prodN s + offN s d 0 := by
  induction s with
  | nil =>
    intro d acc h
    obtain rfl := List.length_eq_zero_iff.1 h
    simp [offN, prodN]
  | cons m s ih =>
    intro d acc h
    cases d with
    | nil => cases h
    | cons y d =>
      have h' : d.length = s.length := by simpa using h
      show offN s d (acc * m + y) = acc * (m * prodN s) + offN s d (0 * m + y)
      rw [ih d (acc * m + y) h', ih d (0 * m + y) h', Nat.zero_mul, Nat.zero_add, Nat.add_mul, Nat.mul_assoc, Nat.add_assoc]
/-- Where the element stands that comes to place i when the axes are turned round. -/
def tN (s : List Nat) (i : Nat) : Nat := offN s (digN s i) 0
theorem tN_tN (s : List Nat) : (∀ n ∈ s, 1 ≤ n) → ∀ j, tN s (tN s.reverse j) = j % prodN s := by
  induction s with
  | nil => intro _ j; simp [tN, offN, prodN, Nat.mod_one]
  | cons n s ih =>
    intro h j
    have hn : 1 ≤ n := h n (by simp)
    have ih' := ih (fun m hm => h m (by simp [hm])) j
    have hm : tN (n :: s).reverse j = tN s.reverse j * n + j / prodN s % n := by
      unfold tN
      rw [List.reverse_cons, digN_snoc, prodN_reverse, offN_snoc _ _ _ _ _ (digN_len _ _)]
    have hlt : j / prodN s % n < n := Nat.mod_lt _ hn
    have h1 : (tN s.reverse j * n + j / prodN s % n) % n = j / prodN s % n := by rw [Nat.mul_comm, Nat.mul_add_mod, Nat.mod_eq_of_lt hlt]
    have h2 : (tN s.reverse j * n + j / prodN s % n) / n = tN s.reverse j := by rw [Nat.mul_comm, Nat.mul_add_div hn, Nat.div_eq_of_lt hlt, Nat.add_zero]
    rw [hm]
    show offN (n :: s) (digN (n :: s) _) 0 = _
    unfold digN
    rw [h1, h2]
    show offN s (digN s (tN s.reverse j)) (0 * n + j / prodN s % n) = _
    rw [offN_acc _ _ _ (digN_len _ _)]
    show (0 * n + j / prodN s % n) * prodN s + tN s (tN s.reverse j) = j % (n * prodN s)
    rw [ih', Nat.zero_mul, Nat.zero_add, Nat.mul_comm n, Nat.mod_mul, Nat.mul_comm (prodN s), Nat.add_comm]
theorem offN_lt (s : List Nat) (hs : ∀ n ∈ s, 1 ≤ n) : ∀ (i acc : Nat), offN s (digN s i) acc < (acc + 1) * prodN s := by
  induction s with
  | nil => intro i acc; simp [offN, prodN]
  | cons n s ih =>
    intro i acc
    have hn : 1 ≤ n := hs n (by simp)
    have hlt : i % n < n := Nat.mod_lt _ hn
    have h1 := ih (fun m hm => hs m (by simp [hm])) (i / n) (acc * n + i % n)
    show offN s (digN s (i / n)) (acc * n + i % n) < (acc + 1) * (n * prodN s)
    refine Nat.lt_of_lt_of_le h1 ?_
    rw [← Nat.mul_assoc]
    refine Nat.mul_le_mul_right _ ?_
    rw [Nat.add_mul, Nat.one_mul]
    omega
theorem tN_lt {s : List Nat} (hs : ∀ n ∈ s, 1 ≤ n) (i : Nat) : tN s i < prodN s := by
  have := offN_lt s hs i 0
  simpa [tN] using this
theorem offN_ge (s : List Nat) (hs : ∀ n ∈ s, 1 ≤ n) : ∀ (d : List Nat) (acc : Nat), acc ≤ offN s d acc := by
  induction s with
  | nil => intro d acc; cases d <;> exact Nat.le_refl _
  | cons n s ih =>
    intro d acc
    cases d with
    | nil => exact Nat.le_refl _
    | cons x d =>
      have hn : 1 ≤ n := hs n (by simp)
      have := ih (fun m hm => hs m (by simp [hm])) d (acc * n + x)
      have h2 : acc * 1 ≤ acc * n := Nat.mul_le_mul_left _ hn
      show acc ≤ offN s d (acc * n + x)
      omega

/-! ### the program's own -/
abbrev ints (s : List Nat) : List Int := s.map (fun n : Nat => (n : Int))
theorem ints_get (s : List Nat) (i : Nat) (h : i < s.length) : rd (ints s) (i : Int) = (s[i] : Int) := by simp [rd, List.getD_eq_getElem?_getD, h]
theorem ints_of {l : List Int} (h : ∀ n ∈ l, 0 ≤ n) : ints (l.map Int.toNat) = l := by
  show (l.map Int.toNat).map (fun n : Nat => (n : Int)) = l
  rw [List.map_map]
  have : ∀ n ∈ l, ((fun n : Nat => (n : Int)) ∘ Int.toNat) n = id n := fun n hn => Int.toNat_of_nonneg (h n hn)
  rw [List.map_congr_left this, List.map_id]
theorem rev_get (l cur : List Int) (i : Nat) (hl : cur.length = l.length) (hc : ∀ j (h : j < l.length), cur[j]? = some (if j < i ∨ l.length - i ≤ j then l[l.length - 1 - j]'(by omega) else l[j])) (hi : l.length ≤ 2 * i + 1) : cur = l.reverse := by
  apply List.ext_getElem
  · rw [hl, List.length_reverse]
  · intro j h1 h2
    have := hc j (by omega)
    rw [List.getElem?_eq_getElem h1] at this
    have := Option.some.inj this
    rw [this, List.getElem_reverse]
    split
    · rfl
    · rename_i hn
      have : l.length - 1 - j = j := by omega
      simp only [this]
theorem rev_loopI (l : List Int) (hb : l.length ≤ 1099511627776) (d : Nat) : ∀ (i : Nat) (cur : List Int), 2 * i + d = l.length + 1 ∨ 2 * i + d = l.length → cur.length = l.length → (∀ j (h : j < l.length), cur[j]? = some (if j < i ∨ l.length - i ≤ j then l[l.length - 1 - j]'(by omega) else l[j])) →
    Ev (fun k => slices_Reverse_int_int.l0 k cur (i : Int) ((l.length : Int) - 1 - (i : Int))) l.reverse := by
  induction d using Nat.strongRecOn with
  | _ d ih =>
    intro i cur hd hlen hc
    refine Ev.succ (fun k => by simp only [slices_Reverse_int_int.l0]; rfl) ?_
    by_cases h : (i : Int) < (l.length : Int) - 1 - (i : Int)
    · have hj : ((l.length : Int) - 1 - (i : Int)) = ((l.length - 1 - i : Nat) : Int) := by omega
      refine Ev.pos h (Ev.pos (by omega) (Ev.pos (by omega) (Ev.pos (by omega) (Ev.pos (by omega) ?_))))
      rw [w64 (x := (i : Int) + 1) (by omega) (by omega), w64 (x := (l.length : Int) - 1 - (i : Int) - 1) (by omega) (by omega)]
      rw [show ((l.length : Int) - 1 - (i : Int) - 1) = (l.length : Int) - 1 - ((i + 1 : Nat) : Int) by omega]
      have hci : rd cur (i : Int) = l[i]'(by omega) := by
        have := hc i (by omega)
        rw [if_neg (by omega)] at this
        simp [rd, List.getD_eq_getElem?_getD, this]
      have hcj : rd cur ((l.length : Int) - 1 - (i : Int)) = l[l.length - 1 - i]'(by omega) := by
        have := hc (l.length - 1 - i) (by omega)
        rw [if_neg (by omega)] at this
        rw [hj]
        simp [rd, List.getD_eq_getElem?_getD, this]
      rw [hci, hcj, hj, Int.toNat_natCast, Int.toNat_natCast]
      refine ih (d - 2) (by omega) (i + 1) _ (by omega) (by simp [hlen]) (fun j hjl => ?_)
      rw [List.getElem?_set, List.getElem?_set]
      have hcj' := hc j hjl
      by_cases e1 : l.length - 1 - i = j
      · rw [if_pos e1, if_pos (by rw [List.length_set]; omega), if_pos (by omega)]
        have : l.length - 1 - j = i := by omega
        simp only [this]
      · rw [if_neg e1]
        by_cases e2 : i = j
        · rw [if_pos e2, if_pos (by omega), if_pos (by omega)]
          subst e2
          rfl
        · rw [if_neg e2, hcj']
          by_cases e3 : j < i ∨ l.length - i ≤ j
          · rw [if_pos e3, if_pos (by omega)]
          · rw [if_neg e3, if_neg (by omega)]
    · refine Ev.neg h ?_
      rw [← rev_get l cur i hlen hc (by omega)]
      exact Ev.now _
theorem revI_spec (l : List Int) (hb : l.length ≤ 1099511627776) : Ev (fun k => slices_Reverse_int_int.f k l) l.reverse := by
  unfold slices_Reverse_int_int.f
  rw [w64 (by omega) (by omega)]
  have := rev_loopI l hb (l.length + 1) 0 l (by omega) rfl (fun j h => by rw [if_neg (by omega), List.getElem?_eq_getElem h])
  rw [show ((l.length : Int) - 1 - ((0 : Nat) : Int)) = (l.length : Int) - 1 by omega] at this
  exact this

theorem off_loop (s : List Nat) (hs : ∀ n ∈ s, 1 ≤ n) (hl : s.length ≤ 1099511627776) (dg : List Nat) (hd : dg.length = s.length) (hv : ∀ i (h : i < s.length), dg[i]'(by omega) < s[i]) (R : Nat) (hR : R ≤ 1099511627776) (d : Nat) : ∀ (i acc : Nat), i + d = s.length → offN (s.drop i) (dg.drop i) acc = R →
    Ev (fun k => shape_Offset.l0 k (ints dg) (acc : Int) true (ints s) (s.length : Int) (i : Int)) ((R : Int), true) := by
  induction d with
  | zero =>
    intro i acc hi he
    refine Ev.succ (fun k => by simp only [shape_Offset.l0]; rfl) ?_
    rw [List.drop_eq_nil_of_le (by omega)] at he
    have : acc = R := by cases h : dg.drop i <;> rw [h] at he <;> exact he
    subst this
    exact Ev.neg (by omega) (Ev.pos trivial (Ev.now _))
  | succ d ih =>
    intro i acc hi he
    have hi1 : i < s.length := by omega
    rw [List.drop_eq_getElem_cons hi1, List.drop_eq_getElem_cons (show i < dg.length by omega)] at he
    have he' : offN (s.drop (i + 1)) (dg.drop (i + 1)) (acc * s[i] + dg[i]'(by omega)) = R := he
    have hge := offN_ge (s.drop (i + 1)) (fun n hn => hs n (List.mem_of_mem_drop hn)) (dg.drop (i + 1)) (acc * s[i] + dg[i]'(by omega))
    rw [he'] at hge
    have hlt := hv i hi1
    refine Ev.succ (fun k => by simp only [shape_Offset.l0]; rfl) ?_
    rw [ints_get s i hi1, ints_get dg i (by omega)]
    refine Ev.pos (by omega) (Ev.pos (by omega) (Ev.pos (by rw [List.length_map]; omega) (Ev.pos (by rw [List.length_map]; omega) (Ev.neg (by omega) (Ev.neg (by omega) ?_)))))
    have e1 : ((acc : Int) * (s[i] : Int)) = ((acc * s[i] : Nat) : Int) := by rw [Int.natCast_mul]
    rw [e1, w64 (x := ((acc * s[i] : Nat) : Int)) (by omega) (by omega), w64 (x := ((acc * s[i] : Nat) : Int) + ((dg[i]'(by omega) : Nat) : Int)) (by omega) (by omega), w64 (x := (i : Int) + 1) (by omega) (by omega)]
    exact ih (i + 1) (acc * s[i] + dg[i]'(by omega)) (by omega) he'
theorem digN_valid (s : List Nat) (hs : ∀ n ∈ s, 1 ≤ n) : ∀ (i j : Nat) (h : j < s.length), (digN s i)[j]'(by rw [digN_len]; exact h) < s[j] := by
  induction s with
  | nil => intro i j h; cases h
  | cons n s ih =>
    intro i j h
    cases j with
    | zero => exact Nat.mod_lt _ (hs n (by simp))
    | succ j => exact ih (fun m hm => hs m (by simp [hm])) (i / n) j (by simpa using h)
theorem shape_May_spec (l : List Int) : Ev (fun k => shape_May.f k l) ((sizeV l).2 == 0) := by
  unfold shape_May.f
  exact Ev.bind (shape_Size_spec l) (Ev.now _)
theorem offset_spec (s : List Nat) (hs : ∀ n ∈ s, 1 ≤ n) (hz : (sizeV (ints s)).2 = 0) (hp : prodN s ≤ 4096) (i : Nat) : Ev (fun k => shape_Offset.f k (ints s) (ints (digN s i))) ((tN s i : Int), true) := by
  unfold shape_Offset.f
  have h3 := sizeV_len hz
  rw [List.length_map] at h3
  refine Ev.bind (shape_May_spec _) (Ev.pos (by rw [hz]; rfl) ?_)
  rw [List.length_map, List.length_map, digN_len, bne_self_eq_false]
  refine Ev.succ (fun k => by simp only [shape_Offset.j0]; rfl) (Ev.neg (by decide) ?_)
  rw [List.length_map]
  have hlt := tN_lt hs i
  exact off_loop s hs (by omega) (digN s i) (digN_len _ _) (fun j h => digN_valid s hs i j h) (tN s i) (by omega) s.length 0 0 (by omega) rfl

theorem placeSt_eq (s : List Nat) (a : Nat) : ∀ d, d ≤ s.length → placeSt (ints s) (a : Int) d = (List.replicate (s.length - d) 0 ++ ints (digN (s.reverse.take d) a).reverse, ((a / prodN (s.reverse.take d) : Nat) : Int))
  | 0, _ => by simp [placeSt, digN, prodN]
  | d + 1, h => by
    have hr : d < s.reverse.length := by rw [List.length_reverse]; omega
    have hg : (ints s)[(ints s).length - 1 - d]?.getD 0 = (s.reverse[d] : Int) := by
      rw [List.getElem_reverse]
      have hi : s.length - 1 - d < s.length := by omega
      simp [List.getElem?_eq_getElem hi]
    show placeStep (ints s) (placeSt (ints s) (a : Int) d) ((ints s).length - 1 - d) = _
    rw [placeSt_eq s a d (by omega), List.take_succ_eq_append_getElem hr, digN_snoc, prodN_append]
    unfold placeStep
    rw [hg]
    simp only [prodN, Nat.mul_one, List.reverse_append, List.reverse_cons, List.reverse_nil, List.nil_append, List.singleton_append]
    rw [← Int.natCast_ediv, ← Int.natCast_emod, Nat.div_div_eq_div_mul, List.length_map]
    have e1 : s.length - d = (s.length - 1 - d) + 1 := by omega
    have e2 : s.length - (d + 1) = s.length - 1 - d := by omega
    rw [e1, e2, set_zero]
    rfl
theorem prodV_mk (s : List Nat) (hs : ∀ n ∈ s, 1 ≤ n) : ∀ a : Nat, 1 ≤ a → a * prodN s ≤ 4096 → prodV (a : Int) (ints s) = (((a * prodN s : Nat) : Int), 0) := by
  induction s with
  | nil => intro a _ _; simp [prodV, prodN]
  | cons n s ih =>
    intro a ha hp
    have hn := hs n (by simp)
    have hq := prodN_pos (s := s) (fun m hm => hs m (by simp [hm]))
    have h1 : a * n * 1 ≤ a * n * prodN s := Nat.mul_le_mul_left _ hq
    have h2 : a * n * prodN s ≤ 4096 := by rw [Nat.mul_assoc]; exact hp
    have h3 : 1 * 1 ≤ a * n := Nat.mul_le_mul ha hn
    show prodV (a : Int) ((n : Int) :: ints s) = _
    unfold prodV
    rw [← Int.natCast_mul, if_neg (by omega), ih (fun m hm => hs m (by simp [hm])) (a * n) (by omega) h2]
    simp [prodN, Nat.mul_assoc]
theorem prodV_of (s : List Nat) : ∀ a : Nat, (prodV (a : Int) (ints s)).2 = 0 → (prodV (a : Int) (ints s)).1 = ((a * prodN s : Nat) : Int) := by
  induction s with
  | nil => intro a _; simp [prodV, prodN]
  | cons n s ih =>
    intro a h
    show (prodV (a : Int) ((n : Int) :: ints s)).1 = _
    have h' : (prodV (a : Int) ((n : Int) :: ints s)).2 = 0 := h
    unfold prodV at h' ⊢
    split at h'
    · cases h'
    · rename_i hc
      rw [if_neg hc, ← Int.natCast_mul]
      rw [← Int.natCast_mul] at h'
      rw [ih (a * n) h']
      simp [prodN, Nat.mul_assoc]
/-- A shape that may be: its axes as natural numbers; turned round it may be, too, and is as large. -/
theorem sizeV_nat {l : List Int} (h : (sizeV l).2 = 0) : ∃ s : List Nat, l = ints s ∧ s.length ≤ 3 ∧ (sizeV l).1 = (prodN s : Int) ∧ prodN s ≤ 4096 ∧ (sizeV (ints s.reverse)) = ((prodN s : Int), 0) ∧ ((∀ n ∈ s, 1 ≤ n) ∨ prodN s = 0) ∧ ∀ n ∈ s, n ≤ 1099511627776 := by
  have hax := sizeV_axes h
  have h3 := sizeV_len h
  have hle := sizeV_le l
  refine ⟨l.map Int.toNat, (ints_of (fun n hn => (hax n hn).1)).symm, by rw [List.length_map]; exact h3, ?_⟩
  have hl := (ints_of (l := l) (fun n hn => (hax n hn).1))
  generalize l.map Int.toNat = s at hl
  subst hl
  rw [List.length_map] at h3
  have hup : ∀ n ∈ s, n ≤ 1099511627776 := fun n hn => by
    have := (hax (n : Int) (List.mem_map_of_mem hn)).2
    omega
  have e1 : ∀ t : List Nat, (∀ n ∈ t, n ≤ 1099511627776) → t.length ≤ 3 → sizeV (ints t) = if (ints t).any (fun n => decide (0 = n)) = true then (0, 0) else prodV 1 (ints t) := by
    intro t ht htl
    unfold sizeV
    rw [if_neg (by rw [List.length_map]; omega), if_neg (by simp), if_neg (by simp; intro n hn; have := ht n hn; omega)]
  rw [e1 s hup h3] at h hle ⊢
  rw [e1 s.reverse (fun n hn => hup n (List.mem_reverse.1 hn)) (by rw [List.length_reverse]; exact h3)]
  have ea : (ints s.reverse).any (fun n => decide (0 = n)) = (ints s).any (fun n => decide (0 = n)) := by simp [List.any_reverse]
  rw [ea]
  by_cases hz : (ints s).any (fun n => decide (0 = n)) = true
  · rw [if_pos hz] at h hle ⊢
    have hp : prodN s = 0 := by
      obtain ⟨x, hx, hx0⟩ := List.any_eq_true.1 hz
      obtain ⟨n, hn, rfl⟩ := List.mem_map.1 hx
      have hn0 : n = 0 := by have := of_decide_eq_true hx0; omega
      subst hn0
      clear h hle hz hx hx0 ea e1 hup h3 hax
      induction s with
      | nil => cases hn
      | cons m s ih =>
        rcases List.mem_cons.1 hn with h | h
        · rw [← h]; simp [prodN]
        · show m * prodN s = 0
          rw [ih h, Nat.mul_zero]
    rw [if_pos hz, hp]
    exact ⟨rfl, by omega, rfl, .inr rfl, hup⟩
  · rw [if_neg hz] at h hle ⊢
    have hpos : ∀ n ∈ s, 1 ≤ n := fun n hn => by
      have := List.any_eq_false.1 (Bool.eq_false_iff.2 hz) (n : Int) (List.mem_map_of_mem hn)
      simp only [decide_eq_true_eq] at this
      omega
    have hv := prodV_of s 1 h
    rw [Nat.one_mul] at hv
    have hv' : (prodV 1 (ints s)).1 = (prodN s : Int) := hv
    rw [hv'] at hle
    have hr := prodV_mk s.reverse (fun n hn => hpos n (List.mem_reverse.1 hn)) 1 (Nat.le_refl _) (by rw [prodN_reverse]; omega)
    rw [prodN_reverse, Nat.one_mul] at hr
    rw [if_neg hz]
    exact ⟨hv', by omega, hr, .inl hpos, hup⟩
theorem place_spec (s : List Nat) (hs : ∀ n ∈ s, 1 ≤ n) (a : Nat) (hz : sizeV (ints s) = ((prodN s : Int), 0)) (hp : prodN s ≤ 4096) (ha : a < prodN s) : Ev (fun k => shape_Place.f k (ints s) (a : Int)) (ints (digN s.reverse a).reverse, true) := by
  unfold shape_Place.f
  have h3 := sizeV_len (show (sizeV (ints s)).2 = 0 by rw [hz])
  have hsz := shape_Size_spec (ints s)
  rw [hz] at hsz
  refine Ev.bind hsz (Ev.pos ⟨rfl, by omega, by show (a : Int) < (prodN s : Int); omega⟩ (Ev.pos ⟨by omega, by omega, ?_⟩ ?_))
  · rw [List.all_eq_true]
    intro n hn
    obtain ⟨m, hm, rfl⟩ := List.mem_map.1 hn
    have := hs m hm
    exact decide_eq_true (by omega)
  · rw [List.length_map, placeSt_eq s a s.length (Nat.le_refl _), Nat.sub_self, List.replicate_zero, List.nil_append, List.take_of_length_le (by rw [List.length_reverse]; exact Nat.le_refl _)]
    exact Ev.now _

/-! ### Flip -/
def flipE (s : List Nat) (e : List ByteArray) (n : Nat) : List ByteArray := (List.range n).map (fun i => e.getD (tN s i) ByteArray.empty)
theorem flip_loop (s : List Nat) (e : List ByteArray) (hs : ∀ n ∈ s, 1 ≤ n) (hz : (sizeV (ints s)).2 = 0) (hzr : sizeV (ints s.reverse) = ((prodN s : Int), 0)) (hp : prodN s ≤ 4096) (hl : e.length = prodN s) (d : Nat) : ∀ i : Nat, i + d = e.length →
    Ev (fun k => mould_Flip.l0 k (e.length : Int) (i : Int) (ints s) e (ints s.reverse) (flipE s e i)) (ints s.reverse, flipE s e e.length, 0) := by
  induction d with
  | zero =>
    intro i hi
    refine Ev.succ (fun k => by simp only [mould_Flip.l0]; rfl) ?_
    obtain rfl : i = e.length := by omega
    exact Ev.neg (by omega) (Ev.now _)
  | succ d ih =>
    intro i hi
    refine Ev.succ (fun k => by simp only [mould_Flip.l0]; rfl) ?_
    have hpl := place_spec s.reverse (fun n hn => hs n (List.mem_reverse.1 hn)) i (by rw [prodN_reverse]; exact hzr) (by rw [prodN_reverse]; exact hp) (by rw [prodN_reverse]; omega)
    rw [List.reverse_reverse] at hpl
    have hrv := revI_spec (ints (digN s i).reverse) (by have := sizeV_len hz; rw [List.length_map] at this; rw [List.length_map, List.length_reverse, digN_len]; omega)
    have er : (ints (digN s i).reverse).reverse = ints (digN s i) := by simp
    rw [er] at hrv
    have hlt := tN_lt hs i
    refine Ev.pos (by omega) (Ev.bind hpl (Ev.bind hrv (Ev.bind (offset_spec s hs hz hp i) (Ev.pos (by show (0 : Int) ≤ (tN s i : Int); omega) (Ev.pos (by show (tN s i : Int) < _; omega) (Ev.pos (by simp [flipE]; omega) ?_))))))
    rw [w64 (by omega) (by omega)]
    have e2 : flipE s e i ++ [rdOf ByteArray.empty e (tN s i : Int)] = flipE s e (i + 1) := by simp [flipE, List.range_succ, rdOf]
    rw [e2]
    exact ih (i + 1) (by omega)
theorem Flip_spec (l : List Int) (e : List ByteArray) (h : mayV l e = true) : ∃ s : List Nat, l = ints s ∧ e.length = prodN s ∧ ((∀ n ∈ s, 1 ≤ n) ∨ e = []) ∧ sizeV (ints s.reverse) = ((prodN s : Int), 0) ∧ Ev (fun k => mould_Flip.f k l e) (ints s.reverse, flipE s e e.length, 0) := by
  obtain ⟨h1, h2, _⟩ := mayV_size h
  obtain ⟨s, rfl, h3, h4, h5, h6, h7, h8⟩ := sizeV_nat h1
  have hl : e.length = prodN s := by rw [h4] at h2; omega
  refine ⟨s, rfl, hl, h7.imp id (fun hz => List.length_eq_zero_iff.1 (by omega)), h6, ?_⟩
  unfold mould_Flip.f
  have hf := fine_one (ints s) e
  rw [h] at hf
  have hrv := revI_spec (ints s) (by rw [List.length_map]; omega)
  have er : (ints s).reverse = ints s.reverse := by simp
  rw [er] at hrv
  refine Ev.bind hf (Ev.pos rfl (Ev.bindc (clone_int _ (by rw [List.length_map]; omega)) (Ev.bind hrv ?_)))
  rcases h7 with h7 | h7
  · exact flip_loop s e h7 h1 h6 h5 hl e.length 0 (by omega)
  · have he : e = [] := List.length_eq_zero_iff.1 (by omega)
    subst he
    refine Ev.succ (fun k => by simp only [mould_Flip.l0]; rfl) (Ev.neg (by simp) (Ev.now _))
end Go.Proofs.YtfjilihppnndkaaDoor.P
namespace Go.Proofs.YtfjilihppnndkaaDoor.P
open Go.RowKit Go.Proofs.YtfjilihppnndkaaDoorW.PrintWords Go.Proofs.YtfjilihppnndkaaDoorW.PrintLast Go.Proofs.YtfjilihppnndkaaDoorW.PrintMore

/-! ### reversed twice -/
theorem chunk_flat (z : Nat) : ∀ (L : List (List ByteArray)), (∀ x ∈ L, x.length = z) → ∀ (i : Nat) (h : i < L.length), chunkE L.flatten z i = L[i]
  | [], _, i, h => by cases h
  | x :: L, hz, 0, _ => by
    have hx := hz x (by simp)
    simp only [chunkE, Nat.zero_mul, List.drop_zero, List.flatten_cons, List.getElem_cons_zero]
    rw [← hx, List.take_left]
  | x :: L, hz, i + 1, h => by
    have hx := hz x (by simp)
    have ih := chunk_flat z L (fun y hy => hz y (by simp [hy])) i (by simpa using h)
    rw [List.getElem_cons_succ, ← ih]
    unfold chunkE
    rw [List.flatten_cons, Nat.succ_mul, Nat.add_comm, ← List.drop_drop, ← hx, List.drop_left]
def chunksE (e : List ByteArray) (z m : Nat) : List (List ByteArray) := (List.range m).map (chunkE e z)
theorem chunks_of_flat (z : Nat) (L : List (List ByteArray)) (hz : ∀ x ∈ L, x.length = z) : chunksE L.flatten z L.length = L := by
  apply List.ext_getElem
  · simp [chunksE]
  · intro i h1 h2
    simp only [chunksE, List.getElem_map, List.getElem_range]
    exact chunk_flat z L hz i h2
theorem flat_chunks (e : List ByteArray) (z : Nat) : ∀ m, (chunksE e z m).flatten = e.take (m * z)
  | 0 => by simp [chunksE]
  | m + 1 => by
    unfold chunksE
    rw [List.range_succ, List.map_append, List.flatten_append]
    have := flat_chunks e z m
    unfold chunksE at this
    rw [this]
    simp only [List.map_cons, List.map_nil, List.flatten_cons, List.flatten_nil, List.append_nil, chunkE]
    rw [Nat.succ_mul, List.take_add]
theorem chunks_len {e : List ByteArray} {z m : Nat} (h : e.length = m * z) : ∀ x ∈ chunksE e z m, x.length = z := by
  intro x hx
  obtain ⟨i, hi, rfl⟩ := List.mem_map.1 hx
  have hi' := List.mem_range.1 hi
  have h2 : (i + 1) * z ≤ m * z := Nat.mul_le_mul_right _ hi'
  rw [Nat.succ_mul] at h2
  simp only [chunkE, List.length_take, List.length_drop]
  omega
theorem revE_eq (e : List ByteArray) (z m : Nat) : revE e z m = (chunksE e z m).reverse.flatten := by
  unfold revE chunksE
  rw [← List.map_reverse, List.flatMap_def]
theorem revE_revE {e : List ByteArray} {z m : Nat} (h : e.length = m * z) : revE (revE e z m) z m = e := by
  have hl : (chunksE e z m).reverse.length = m := by simp [chunksE]
  have h1 := chunks_of_flat z (chunksE e z m).reverse (fun x hx => chunks_len h x (List.mem_reverse.1 hx))
  rw [hl] at h1
  rw [revE_eq (revE e z m), revE_eq e, h1, List.reverse_reverse, flat_chunks, ← h, List.take_length]
theorem revE_mem {e : List ByteArray} {z m : Nat} {x : ByteArray} (h : x ∈ revE e z m) : x ∈ e := by
  obtain ⟨i, _, hx⟩ := List.mem_flatMap.1 h
  exact List.mem_of_mem_drop (List.mem_of_mem_take hx)
theorem revE_len {e : List ByteArray} {z m : Nat} (h : e.length = m * z) : (revE e z m).length = e.length := by
  rw [revE_eq, List.length_flatten, List.map_reverse, List.sum_reverse, ← List.length_flatten, flat_chunks, ← h, List.take_length]
theorem mayV_of {l l' : List Int} {e e' : List ByteArray} (h : mayV l e = true) (hl : sizeV l' = sizeV l) (he : e'.length = e.length) (hm : ∀ x ∈ e', x ∈ e) : mayV l' e' = true := by
  obtain ⟨h1, h2, h3⟩ := mayV_size h
  unfold mayV
  have : e'.any (fun s => !mayB s) = false := by
    rw [List.any_eq_false]
    intro x hx
    exact List.any_eq_false.1 h3 x (hm x hx)
  rw [hl, he, this, decide_eq_true h1, decide_eq_true h2]
  rfl
/-- What is reversed may be, too, and reversed again it is as it was. -/
theorem rev_twice {l : List Int} {e : List ByteArray} (h : mayV l e = true) : ∃ e', revV l e = (l, e', 0) ∧ mayV l e' = true ∧ revV l e' = (l, e, 0) := by
  unfold revV
  rw [if_pos h]
  by_cases hc : l = [] ∨ e = []
  · rw [if_pos hc]
    exact ⟨e, rfl, h, by rw [if_pos h, if_pos hc]⟩
  · rw [if_neg hc]
    obtain ⟨h1, h2, _⟩ := mayV_size h
    obtain ⟨s, rfl, h3, h4, h5, h6, h7, h8⟩ := sizeV_nat h1
    have hl : e.length = prodN s := by rw [h4] at h2; omega
    have hpos : ∀ n ∈ s, 1 ≤ n := by
      rcases h7 with h7 | h7
      · exact h7
      · exact absurd (.inr (List.length_eq_zero_iff.1 (by omega))) hc
    cases s with
    | nil => exact absurd (.inl rfl) hc
    | cons n s =>
      have hn : 1 ≤ n := hpos n (by simp)
      have hz : isz (ints (n :: s)) e = ((prodN s : Nat) : Int) := by
        unfold isz
        rw [show manyV (ints (n :: s)) = (n : Int) from rfl, if_pos (by omega), hl]
        show (((n * prodN s : Nat) : Int)) / (n : Int) = _
        rw [← Int.natCast_ediv, Nat.mul_div_cancel_left _ hn]
      have hlz : e.length = n * prodN s := hl
      rw [hz, show manyV (ints (n :: s)) = (n : Int) from rfl, Int.toNat_natCast, Int.toNat_natCast]
      have hm := mayV_of h rfl (revE_len hlz) (fun x hx => revE_mem hx)
      refine ⟨revE e (prodN s) n, rfl, hm, ?_⟩
      have hne : ¬ (ints (n :: s) = [] ∨ revE e (prodN s) n = []) := by
        rintro (h | h)
        · cases h
        · have := revE_len hlz
          rw [h] at this
          exact hc (.inr (List.length_eq_zero_iff.1 this.symm))
      have hz' : isz (ints (n :: s)) (revE e (prodN s) n) = ((prodN s : Nat) : Int) := by
        unfold isz at hz ⊢
        rw [revE_len hlz]
        exact hz
      rw [if_pos hm, if_neg hne, hz', Int.toNat_natCast, revE_revE hlz]

/-! ### flipped twice -/
theorem ints_inj {s t : List Nat} (h : ints s = ints t) : s = t := by
  have := congrArg (List.map Int.toNat) h
  simpa [Function.comp_def] using this
theorem flipE_len (s : List Nat) (e : List ByteArray) (n : Nat) : (flipE s e n).length = n := by simp [flipE]
theorem flip_twice {l : List Int} {e : List ByteArray} (h : mayV l e = true) : ∃ l' e', Ev (fun k => mould_Flip.f k l e) (l', e', 0) ∧ mayV l' e' = true ∧ Ev (fun k => mould_Flip.f k l' e') (l, e, 0) := by
  obtain ⟨s, rfl, h1, h2, h3, h4⟩ := Flip_spec l e h
  obtain ⟨m1, m2, _⟩ := mayV_size h
  have hs : sizeV (ints s) = ((prodN s : Int), 0) := by
    have e1 : (sizeV (ints s)).1 = (prodN s : Int) := by rw [← m2, h1]
    rw [← e1, ← m1]
  have hm : mayV (ints s.reverse) (flipE s e e.length) = true := by
    refine mayV_of h (by rw [h3, hs]) (flipE_len _ _ _) (fun x hx => ?_)
    rcases h2 with h2 | h2
    · obtain ⟨i, hi, rfl⟩ := List.mem_map.1 hx
      have hlt := tN_lt h2 i
      rw [List.getD_eq_getElem?_getD, List.getElem?_eq_getElem (show tN s i < e.length by omega)]
      exact List.getElem_mem _
    · subst h2
      simp [flipE] at hx
  refine ⟨_, _, h4, hm, ?_⟩
  obtain ⟨s', hs', g1, g2, g3, g4⟩ := Flip_spec _ _ hm
  obtain rfl := ints_inj hs'
  rw [List.reverse_reverse, flipE_len] at g4
  have : flipE s.reverse (flipE s e e.length) e.length = e := by
    apply List.ext_getElem
    · exact flipE_len _ _ _
    · intro j j1 j2
      rcases h2 with h2 | h2
      · have ht := tN_lt (s := s.reverse) (fun n hn => h2 n (List.mem_reverse.1 hn)) j
        rw [prodN_reverse, ← h1] at ht
        have htt := tN_tN s h2 j
        rw [Nat.mod_eq_of_lt (by omega)] at htt
        simp only [flipE, List.getElem_map, List.getElem_range]
        rw [List.getD_eq_getElem?_getD, List.getElem?_map, List.getElem?_range ht]
        simp only [Option.map_some, Option.getD_some, htt]
        rw [List.getD_eq_getElem?_getD, List.getElem?_eq_getElem j2]
        rfl
      · subst h2
        cases j2
  rw [this] at g4
  exact g4

/-! ### shaped anew -/
theorem in64_40 {n : Int} (h0 : 0 ≤ n) (h1 : n ≤ 1099511627776) : in64 n = true := decide_eq_true (by omega)
theorem Shape_spec {l : List Int} {e : List ByteArray} (h : mayV l e = true) : Ev (fun k => mould_Shape.f k l e) ([(l.length : Int)], l.map itoS, 0) := by
  unfold mould_Shape.f
  have hf := fine_one l e
  rw [h] at hf
  have hax := sizeV_axes (mayV_size h).1
  have hl := mayV_len h
  exact Ev.bind hf (Ev.pos rfl (Ev.bind (ints_spec l (by omega) (fun x hx => in64_40 (hax x hx).1 (hax x hx).2)) (Ev.now _)))
theorem Ravel_spec {l : List Int} {e : List ByteArray} (h : mayV l e = true) : Ev (fun k => mould_Ravel.f k l e) ([(e.length : Int)], e, 0) := by
  unfold mould_Ravel.f
  have hf := fine_one l e
  rw [h] at hf
  have hl := mayV_len h
  exact Ev.bind hf (Ev.pos rfl (Ev.bindc (vector_spec e (by omega)) (Ev.now _)))
theorem all_ito_loop (l : List Int) (hl : l.length ≤ 1099511627776) (hr : ∀ n ∈ l, -1099511627776 ≤ n ∧ n ≤ 1099511627776) (d : Nat) : ∀ i : Nat, i + d = l.length →
    Ev (fun k => val_All.l0 k (l.take i) (l.map itoS) (l.length : Int) (i : Int)) (l, 0) := by
  induction d with
  | zero =>
    intro i hi
    refine Ev.succ (fun k => by simp only [val_All.l0]; rfl) (Ev.neg (by omega) ?_)
    rw [List.take_of_length_le (by omega)]
    exact Ev.now _
  | succ d ih =>
    intro i hi
    have hlt : i < l.length := by omega
    have hg : rdOf ByteArray.empty (l.map itoS) (i : Int) = itoS l[i] := by rw [rdOf_get _ _ (by rw [List.length_map]; exact hlt), List.getElem_map]
    have hr' := hr _ (List.getElem_mem hlt)
    have hs := ito_size (x := l[i]) (decide_eq_true (by omega))
    refine Ev.succ (fun k => by simp only [val_All.l0]; rfl) ?_
    rw [hg]
    refine Ev.pos (by omega) (Ev.pos (by omega) (Ev.pos (by rw [List.length_map]; omega) (Ev.bindc (val_one_spec _ (by omega)) ?_)))
    rw [one_ito hr'.1 hr'.2]
    refine Ev.pos rfl (Ev.pos (by rw [List.length_take]; omega) ?_)
    rw [w64 (by omega) (by omega)]
    have := ih (i + 1) (by omega)
    rw [List.take_succ_eq_append_getElem hlt] at this
    exact this
theorem all_ito (l t : List Int) (hl : l.length ≤ 1099511627776) (hr : ∀ n ∈ l, -1099511627776 ≤ n ∧ n ≤ 1099511627776) : Ev (fun k => val_All.f k t (l.map itoS)) (l, 0) := by
  unfold val_All.f
  have := all_ito_loop l hl hr l.length 0 (by omega)
  rw [List.length_map]
  exact this
theorem reshape_loop (l t : List Int) (e : List ByteArray) (he : e.length ≤ 4096) (d : Nat) : ∀ i : Nat, i + d = e.length →
    Ev (fun k => mould_Reshape.l0 k (e.length : Int) (i : Int) t e l (e.take i)) (l, e, 0) := by
  induction d with
  | zero =>
    intro i hi
    refine Ev.succ (fun k => by simp only [mould_Reshape.l0]; rfl) (Ev.neg (by omega) ?_)
    rw [List.take_of_length_le (by omega)]
    exact Ev.now _
  | succ d ih =>
    intro i hi
    have hlt : i < e.length := by omega
    have hm : Int.tmod (i : Int) (e.length : Int) = (i : Int) := by rw [Int.tmod_eq_emod_of_nonneg (by omega)]; exact Int.emod_eq_of_lt (by omega) (by omega)
    refine Ev.succ (fun k => by simp only [mould_Reshape.l0]; rfl) ?_
    rw [hm]
    refine Ev.pos (by omega) (Ev.neg (by omega) (Ev.pos (by omega) (Ev.pos (by omega) (Ev.pos (by rw [List.length_take]; omega) ?_))))
    rw [w64 (by omega) (by omega), rdOf_get _ _ hlt]
    have := ih (i + 1) (by omega)
    rw [List.take_succ_eq_append_getElem hlt] at this
    exact this
theorem Reshape_back {l : List Int} {e : List ByteArray} (h : mayV l e = true) : Ev (fun k => mould_Reshape.f k [(l.length : Int)] (l.map itoS) [(e.length : Int)] e) (l, e, 0) := by
  unfold mould_Reshape.f
  have hax := sizeV_axes (mayV_size h).1
  have hlen := mayV_len h
  obtain ⟨h1, h2, h3⟩ := mayV_size h
  have m1 : mayV [(l.length : Int)] (l.map itoS) = true := may_row (by omega) l rfl (fun x hx => in64_40 (hax x hx).1 (hax x hx).2)
  have m2 : mayV [(e.length : Int)] e = true := by
    unfold mayV
    rw [sizeV_one (by omega) (by omega), h3]
    simp
  have hf := fine_two [(l.length : Int)] (l.map itoS) [(e.length : Int)] e
  rw [m1, m2] at hf
  have hsz := shape_Size_spec l
  have hj : Ev (fun k => mould_Reshape.j0 k l (sizeV l).1 [(e.length : Int)] e) (l, e, 0) := by
    refine Ev.succ (fun k => by simp only [mould_Reshape.j0]; rfl) ?_
    rw [← h2]
    exact reshape_loop l _ e (by omega) e.length 0 (by omega)
  refine Ev.bind hf (Ev.pos rfl (Ev.neg (by simp) (Ev.bind (all_ito l _ (by omega) (fun n hn => by have := hax n hn; omega)) (Ev.pos rfl (Ev.bind hsz (Ev.pos h1 (Ev.ite (fun h4 => Ev.neg (by omega) hj) (fun _ => hj))))))))

/-! ### the law -/
theorem twice_loop (l : List Int) (e : List ByteArray) (e1 : List ByteArray) (l2 : List Int) (e2 : List ByteArray) (h : mayV l e = true) (ha : mayV l e1 = true) (hc : mayV l2 e2 = true) (d : Nat) : ∀ i : Nat, i + d = l.length →
    Ev (fun k => reredoslaw14_MouldTwice.l0 k true 0 0 0 0 0 0 0 false (i : Int) l e l e1 l e l2 e2 l e l e) true := by
  have hax := sizeV_axes (mayV_size h).1
  have hlen := mayV_len h
  have hsame : Ev (fun k => val_Same.f k l e l e) true := by
    have := val_Same_spec l e l e (by omega) (by omega)
    simpa using this
  induction d with
  | zero =>
    intro i hi
    refine Ev.succ (fun k => by simp only [reredoslaw14_MouldTwice.l0]; rfl) ?_
    have hA := val_May_spec l e1
    rw [ha] at hA
    have hC := val_May_spec l2 e2
    rw [hc] at hC
    refine Ev.neg (by omega) (Ev.pos trivial (Ev.pos (by decide +kernel) (Ev.bind hsame (Ev.pos rfl (Ev.bind hsame (Ev.pos rfl (Ev.bind hA (Ev.pos rfl (Ev.bind hC (Ev.pos rfl (Ev.neg (by decide) (Ev.pos trivial (Ev.bind hsame (Ev.now _))))))))))))))
  | succ d ih =>
    intro i hi
    have hlt : i < l.length := by omega
    refine Ev.succ (fun k => by simp only [reredoslaw14_MouldTwice.l0]; rfl) ?_
    have hm := hax _ (rd_mem l i hlt)
    refine Ev.pos (by omega) (Ev.neg (by decide) (Ev.pos (by omega) ?_))
    rw [decide_eq_false (show ¬ rd l (i : Int) > 1099511627776 by omega), w64 (by omega) (by omega)]
    exact ih (i + 1) (by omega)
/-- MouldTwice, plainly. -/
theorem twice_law (l : List Int) (e : List ByteArray) : Ev (fun k => reredoslaw14_MouldTwice.f k l e) true := by
  unfold reredoslaw14_MouldTwice.f
  have hj : Ev (fun k => reredoslaw14_MouldTwice.j0 k true true l e) true := Ev.succ (fun k => by simp only [reredoslaw14_MouldTwice.j0]; rfl) (Ev.pos trivial (Ev.now _))
  refine Ev.bindc rfl (Ev.bind (few_spec l e) (Ev.ite (fun _ => ?_) (fun _ => hj)))
  refine Ev.bind (val_May_spec l e) ?_
  by_cases h : mayV l e = true
  · rw [h]
    refine Ev.succ (fun k => by simp only [reredoslaw14_MouldTwice.j0]; rfl) ?_
    obtain ⟨e1, r1, r2, r3⟩ := rev_twice h
    obtain ⟨l2, e2, f1, f2, f3⟩ := flip_twice h
    have R1 := Reverse_spec l e
    rw [r1] at R1
    have R2 := Reverse_spec l e1
    rw [r3] at R2
    refine Ev.neg (by decide) (Ev.bind R1 (Ev.bind R2 (Ev.bind f1 (Ev.bind f3 (Ev.bind (Shape_spec h) (Ev.bind (Ravel_spec h) (Ev.bind (Reshape_back h) ?_)))))))
    exact twice_loop l e e1 l2 e2 h r2 f2 l.length 0 (by omega)
  · rw [Bool.eq_false_iff.2 h]
    exact hj
end Go.Proofs.YtfjilihppnndkaaDoor.P
namespace Go.Proofs.YtfjilihppnndkaaDoor
open Go Go.ChangeShapes Go.WideShapes Go.ChangeAt Go.WideMaps Go.WideElems Go.RowKit
open Go.Proofs.YtfjilihppnndkaaDoorW.PrintWords
namespace MouldTwice

set_option maxRecDepth 100000 in
theorem lifted (os : Os) (started : os.Started) (H : Type) (enc : TypeId × Value → H) :
    ReturnsInHanded {} Tryd.checked os 6 .any (fun w args => (Rows.mouldTwiceSpec.pre enc Tryd.prog Tryd.f6 [] false w args ∧ laidMetH Tryd.prog laidList w) ∧ sizedMet enc Tryd.prog Tryd.f6 (OpenSpec.ofChange Rows.mouldTwiceSpec) false w args)
      (Rows.mouldTwiceSpec.post enc Tryd.prog Tryd.f6 false true false false) := by
  refine returnsInHanded_of_change_and (C := Tryd.checked) (X := fun w _ => laidMetH Tryd.prog laidList w) (fun _ _ _ hh h => h.of_heap hh) ownKnob_none started (by kernel_rfl) Tryd.func6
    (ChangeSpec.witness_shaped (enc := enc) (C := Tryd.checked) (os := os) (X := fun w _ => laidMetH Tryd.prog laidList w) false (World.doorLaid Tryd.prog 62 os) #[.agg #[.slice none 0 0, .slice none 0 0]] 8 rfl (World.shaped_of_RefB (by kernel_rfl) (by kernel_rfl)) (by kernel_rfl) (by kernel_rfl) (by kernel_rfl) (door_met os _)) ?_
  intro W base args ds gs before hval0 hW _ _ hL _
  have hval : ∀ (j : Nat) t v, Tryd.f6.params[j]? = some t → args[j]? = some v → Value.okWide Tryd.prog W .any base t v := hval0
  have hW' := hW
  obtain ⟨p, q, hA0, hV, rfl, hfz, hnd⟩ := hW
  have hA : DataW.TrodAll enc Tryd.prog W 0 (fun _ => true) true Tryd.f6.params.toList args.toList ds p := hA0
  rw [Tryd.params6] at hA hval
  obtain ⟨v0, vs0, d0, ds0, p0, q0, hargs, rfl, rfl, h0, r0⟩ := trodAll_cons hA
  obtain ⟨rfl, rfl, rfl⟩ := trodAll_nil r0
  obtain rfl : args = #[v0] := by cases args; simp_all
  obtain ⟨rfl, rfl⟩ := trodVars_none hV
  have k0 := h0
  have lt0 : ∀ x ∈ p0, x.block < W.heap.size := by obtain ⟨m, hm⟩ := k0; exact DataW.trod_lt m _ _ _ hm
  obtain ⟨b0_0, b0_1, y0_0, y0_1, n0, rfl, hd0, hp0, t0_0, t0_1⟩ := Joins.open_agg2 Tryd.underlying25 (by kernel_rfl) (by kernel_rfl) (hval 0 25 v0 rfl rfl) h0
  obtain ⟨A0_0, c0_0, l0_0, rfl, hc0_0, hr0_0⟩ := ints_row Tryd.underlying22 Tryd.underlying3 (by kernel_rfl) t0_0
  obtain ⟨A0_1, c0_1, l0_1, rfl, hc0_1, hr0_1⟩ := strings_row Tryd.underlying23 Tryd.underlying9 (by kernel_rfl) t0_1
  clear hA0 hval0
  obtain ⟨k, hk⟩ := (P.twice_law l0_0 l0_1).rounds
  refine (P.reredoslaw14_MouldTwice.calls k A0_0 c0_0 l0_0 A0_1 c0_1 l0_1 true W hr0_0 hc0_0 hr0_1 hc0_1 hk (glob_of_laid hL)).mono fun e W' ⟨he, bel⟩ => ?_
  subst he
  exact ⟨_, rfl, _, _, _, [], _, [], hW', trodAll_mk1 (shut_bool Tryd.underlying4 _), (trodAll_cons_mk (Below.trod laidOut (by kernel_rfl) (of_decide_eq_true (by kernel_rfl)) k0 bel lt0) trodAll_mk0), rfl, bel.frame _, fun h => by cases h⟩

theorem holds : Rows.MouldTwiceSaid :=
  OpenClaim.holds_of_wide 6 Tryd.f6 rfl rfl rfl rfl rfl rfl rfl ⟨rfl, rfl, rfl, rfl, rfl⟩ rfl rfl rfl rfl rfl (by kernel_rfl) Tryd.func6 (by kernel_rfl)
    (of_decide_eq_true (by kernel_rfl)) (by unfold Func.isWrapper; first | (rw [if_pos (by decide +kernel)]; kernel_rfl) | (rw [if_neg (by decide +kernel)]; exact ⟨rfl, rfl⟩))
    (fun os started H enc _ => lifted os started H enc)

end MouldTwice
end Go.Proofs.YtfjilihppnndkaaDoor
namespace Go.Proofs.YtfjilihppnndkaaDoor
open Go
theorem mouldTwice_card : Rows.MouldTwiceCardSaid :=
  Claim7.holds_tied_plain_at .later [] [.data, .data, .data, .sentinel, .sentinel] true (true, "35228e4847787544fae560c6fdf24a2cc747610a8f38ece4d28b79b85127ee5e") true
    MouldTwice.holds (fun _ h => by cases h) (by kernel_rfl) (fun _ h => by cases h) mouldTwice_row_tie rfl ⟨rfl, rfl⟩ (by kernel_rfl) rfl
    (fun f fn hf hfn => by
      obtain rfl : f = 6 := Option.some.inj ((show Tryd.prog.funcNamed "reredos/reredoslaw14.MouldTwice" = some 6 by kernel_rfl).symm.trans hf) |>.symm
      obtain rfl : fn = Tryd.f6 := (Option.some.inj (Tryd.func6.symm.trans hfn)).symm
      exact ⟨by kernel_rfl, fun j t ht => by
        rw [Tryd.params6] at ht
        have hm : t ∈ [25] := by simpa using Array.mem_of_getElem? ht
        have hall : ([25].all fun u => !Tryd.prog.wantsStandIn u) = true := by kernel_rfl
        exact (show Tryd.prog.wantsStandIn t = false by simpa using List.all_eq_true.1 hall t hm)⟩)
    (by kernel_rfl)
#print axioms mouldTwice_card
end Go.Proofs.YtfjilihppnndkaaDoor
