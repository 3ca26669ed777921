/- Out of the laid variables: what the program's calls of strconv ask of the world; rows of whole numbers and of texts, opened. -/
/- Plain lemmas on figures: what a row of figures tells, and that a number's figures are one row alone. -/
/- What the number functions of the program and of the document tell, on texts. -/
/- The document's number functions on texts: May, sizes, figures, sums and differences of sizes. -/
/- The document's number functions on texts: figures, sums and differences of sizes. -/
/- The document's number functions on texts: sums and differences, comparison, numbers of 64 bits, widths. -/
/- The document's number functions on texts: comparison, numbers of 64 bits, widths; the program's. -/
/- Numbers of 64 bits and widths: the document's functions and the program's. -/
/- Shapes and arrays: sizes, what may be, widths, bytes: the document's functions and the program's. -/
/- Packed arrays: the document's functions and the program's. -/
/- val and mould, plainly: what may be, numbers, rows that are the same, items. -/
/- Iota, Reverse, plainly. -/
/- Numbers as texts; the law of the numbers below one, plainly. -/
/- The row of the law MouldIota: whatever the arguments, the law answers true. -/
/- The law MouldIota: whatever the arguments, the law answers true, and the arguments read as they did: the tied card. Its condition: the listed variables of the library, tied to the program's text. -/
import Derived.Test.YtfjilihppnndkaaDoorRows
import Derived.Test.YtfjilihppnndkaaDoorMI1
import Derived.ProofKit
import Derived.LaidMore
import Derived.LaidLaws
import Derived.OpenShut
import Derived.Stop.Joined
import Derived.Lib.LaidTab
import Derived.Lib.LaidU8
import Derived.Lib.SmallJoins
import Derived.Lib.ItoaMem
import Derived.Lib.ParseIntBCases
import Derived.Test.YtfjilihppnndkaaDoorMI2
import Derived.Test.YtfjilihppnndkaaDoorMI3
import Derived.Test.YtfjilihppnndkaaDoorMI5
import Derived.Test.YtfjilihppnndkaaDoorMI4
import Derived.Test.YtfjilihppnndkaaDoorTie
import Derived.Test.YtfjilihppnndkaaDoorCards
import Derived.SevenTiedAt
namespace Go.Proofs.YtfjilihppnndkaaDoor
open Go Go.ChangeShapes Go.WideShapes Go.ChangeAt Go.WideMaps Go.WideElems Go.RowKit
open Go.Proofs.YtfjilihppnndkaaDoorW.PrintWords

theorem ownKnob_none : ownKnob Tryd.prog.godebug = none := by kernel_rfl
theorem laidOut : laidOutB Tryd.prog = true := by kernel_rfl
theorem gPow : Tryd.prog.globalNamed "internal/strconv.uint64pow10" = some 0 := by kernel_rfl
theorem gRange : Tryd.prog.globalNamed "strconv.ErrRange" = some 2 := by kernel_rfl
theorem tPow : (Tryd.prog.globals[0]?).map (·.type) = some 152 := by kernel_rfl
theorem tRange : (Tryd.prog.globals[2]?).map (·.type) = some 97 := by kernel_rfl

def laidList : List (String × DataW Unit) := [("math/bits.deBruijn32tab", Rows.laid_math_bits_deBruijn32tab), ("math/bits.deBruijn64tab", Rows.laid_math_bits_deBruijn64tab), ("internal/strconv.uint64pow10", Rows.laid_internal_strconv_uint64pow10), ("strconv.ErrRange", Rows.laid_strconv_ErrRange), ("strconv.ErrSyntax", Rows.laid_strconv_ErrSyntax)]

/-- The door's own heap meets the condition: three closed facts. -/
theorem door_met (os : Os) (args : Array Value) : laidMetH Tryd.prog laidList ((World.doorLaid Tryd.prog 62 os).forCall (fun _ _ => 0) ⟨#[], args, []⟩).memory :=
  laidMetH_of_parts3 (fuel := 8) (laidMet_of_run' 8 (by kernel_rfl) (by kernel_rfl)) (by kernel_rfl) (by kernel_rfl)

/-- What the condition gives the walks. -/
theorem glob_of_laid {W : World} (h : laidMetH Tryd.prog laidList W) : P.Glob W := by
  rw [MakeChecks.laidMetH_plain _ _ _ (by kernel_rfl)] at h
  constructor
  · obtain ⟨g, t, cs, fuel, p, hg, ht, hv, hd⟩ := Lib.laidMet.reads (show laidMet Tryd.prog laidList W from h) (n := "internal/strconv.uint64pow10") (d := Rows.laid_internal_strconv_uint64pow10) (by simp [laidList])
    obtain rfl := Option.some.inj (gPow.symm.trans hg)
    obtain rfl := Option.some.inj (tPow.symm.trans ht)
    have e : (Rows.laid_internal_strconv_uint64pow10 : DataW Unit) = Lib.tabData .u64 Lib.pow10Tab := rfl
    rw [e] at hd
    have := Lib.cells_of_tab Tryd.underlying152 Tryd.underlying135 (by kernel_rfl) (by kernel_rfl) hd
    unfold Lib.TabIs
    rw [hv, ← this]
  · obtain ⟨g, t, cs, fuel, p, hg, ht, hv, hd⟩ := Lib.laidMet.reads (show laidMet Tryd.prog laidList W from h) (n := "strconv.ErrRange") (d := Rows.laid_strconv_ErrRange) (by simp [laidList])
    obtain rfl := Option.some.inj (gRange.symm.trans hg)
    obtain rfl := Option.some.inj (tRange.symm.trans ht)
    obtain ⟨_, u, v, hcs, _, _⟩ := iface_of_trod Tryd.underlying97 hd
    refine ⟨u, v, ?_⟩
    rw [hv, Array.eq_one_of_toList hcs]

section
variable {H : Type} {enc : TypeId × Value → H} {P : Program} {w : World} {base : Nat} {spare : Nat → Bool} {held : Bool}
end
end Go.Proofs.YtfjilihppnndkaaDoor
namespace Go.Proofs.YtfjilihppnndkaaDoor.P
open Go.RowKit Go.Proofs.YtfjilihppnndkaaDoorW.PrintWords Go.Proofs.YtfjilihppnndkaaDoorW.PrintLast

def dval (l : List UInt8) : Nat := l.foldl (fun n c => n * 10 + (c.toNat - 48)) 0
def isDig (c : UInt8) : Prop := 48 ≤ c.toNat ∧ c.toNat ≤ 57
def Digs (l : List UInt8) : Prop := ∀ c ∈ l, isDig c

theorem dval_snoc (l : List UInt8) (c : UInt8) : dval (l ++ [c]) = dval l * 10 + (c.toNat - 48) := by
  unfold dval
  rw [List.foldl_append]
  rfl

theorem Digs.snoc {l : List UInt8} {c : UInt8} : Digs (l ++ [c]) ↔ Digs l ∧ isDig c := by
  unfold Digs
  constructor
  · intro h
    exact ⟨fun x hx => h x (by simp [hx]), h c (by simp)⟩
  · rintro ⟨h1, h2⟩ x hx
    rcases List.mem_append.1 hx with hx | hx
    · exact h1 x hx
    · rw [List.mem_singleton.1 hx]
      exact h2

theorem rev_ind {P : List UInt8 → Prop} (h0 : P []) (hs : ∀ l c, P l → P (l ++ [c])) (l : List UInt8) : P l := by
  have : ∀ n (l : List UInt8), l.length = n → P l := by
    intro n
    induction n with
    | zero => intro l hl; rw [List.length_eq_zero_iff.1 hl]; exact h0
    | succ n ih =>
      intro l hl
      have hne : l ≠ [] := by intro e; rw [e] at hl; simp at hl
      rw [← List.dropLast_concat_getLast hne]
      exact hs _ _ (ih _ (by simp [hl]))
  exact this _ l rfl

theorem dval_lt (l : List UInt8) (h : Digs l) : dval l < 10 ^ l.length := by
  induction l using rev_ind with
  | h0 => simp [dval]
  | hs l c ih =>
    have h2 := Digs.snoc.1 h
    have := ih h2.1
    have hc := h2.2
    unfold isDig at hc
    rw [dval_snoc, List.length_append, List.length_singleton, Nat.pow_succ]
    omega

theorem dval_cons (c : UInt8) (l : List UInt8) : dval (c :: l) = (c.toNat - 48) * 10 ^ l.length + dval l := by
  induction l using rev_ind with
  | h0 => simp [dval]
  | hs l d ih =>
    rw [show c :: (l ++ [d]) = (c :: l) ++ [d] from rfl, dval_snoc, ih, dval_snoc, List.length_append, List.length_singleton, Nat.pow_succ, Nat.add_mul, Nat.mul_assoc]
    omega

/-- Figures without a needless zero ahead. -/
def Canon (l : List UInt8) : Prop := Digs l ∧ l ≠ [] ∧ (l.head? = some 48 → l = [48])

theorem decDigits_small {i : Nat} (h : i < 10) : Lib.decDigits i = [UInt8.ofNat (48 + i)] := Lib.decDigits_one h
theorem decDigits_step {i : Nat} (h : 10 ≤ i) : Lib.decDigits i = Lib.decDigits (i / 10) ++ [UInt8.ofNat (48 + i % 10)] := by
  rw [Lib.decDigits, dif_neg (by omega)]
theorem ofNat_fig {d : Nat} (h : d < 10) : (UInt8.ofNat (48 + d)).toNat = 48 + d := by
  rw [UInt8.toNat_ofNat']
  omega
theorem fig_ofNat {c : UInt8} (h : isDig c) : UInt8.ofNat (48 + (c.toNat - 48)) = c := by
  unfold isDig at h
  rw [show 48 + (c.toNat - 48) = c.toNat by omega]
  exact UInt8.ofNat_toNat

theorem dval_ne_zero {l : List UInt8} (h : Canon l) (hne : l ≠ [48]) : 1 ≤ dval l := by
  obtain ⟨hd, hn, hz⟩ := h
  cases l with
  | nil => exact absurd rfl hn
  | cons c l =>
    have hc : isDig c := hd c (by simp)
    have hc0 : c ≠ 48 := by
      intro e
      subst e
      exact hne (hz rfl)
    unfold isDig at hc
    have : c.toNat ≠ 48 := fun e => hc0 (by apply UInt8.toNat.inj; rw [e]; rfl)
    rw [dval_cons]
    have hp : 1 ≤ 10 ^ l.length := Nat.one_le_pow _ _ (by omega)
    have hm : 1 * 1 ≤ (c.toNat - 48) * 10 ^ l.length := Nat.mul_le_mul (by omega) hp
    omega

theorem canon_eq (l : List UInt8) (h : Canon l) : l = Lib.decDigits (dval l) := by
  induction l using rev_ind with
  | h0 => exact absurd rfl h.2.1
  | hs l c ih =>
    obtain ⟨hd, hn, hz⟩ := h
    have h2 := Digs.snoc.1 hd
    have hc := h2.2
    unfold isDig at hc
    by_cases hl : l = []
    · subst hl
      have e : dval ([] ++ [c]) = c.toNat - 48 := by rw [dval_snoc]; simp [dval]
      rw [e, decDigits_small (by omega), fig_ofNat h2.2]
      rfl
    · have hcl : Canon l := by
        refine ⟨h2.1, hl, fun hh => ?_⟩
        exfalso
        have hh2 : (l ++ [c]).head? = some 48 := by
          cases l with
          | nil => exact absurd rfl hl
          | cons a l => simpa using hh
        have := hz hh2
        have hlen := congrArg List.length this
        simp at hlen
        exact hl hlen
      have hl48 : l ≠ [48] := by
        intro e
        subst e
        have := hz rfl
        simp at this
      have h1 := dval_ne_zero hcl hl48
      have e : dval (l ++ [c]) = dval l * 10 + (c.toNat - 48) := dval_snoc l c
      rw [e, decDigits_step (by omega), show (dval l * 10 + (c.toNat - 48)) / 10 = dval l by omega, show (dval l * 10 + (c.toNat - 48)) % 10 = c.toNat - 48 by omega, fig_ofNat h2.2, ← ih hcl]

theorem digs_dec (n : Nat) : Digs (Lib.decDigits n) ∧ dval (Lib.decDigits n) = n ∧ Lib.decDigits n ≠ [] := by
  induction n using Nat.strongRecOn with
  | _ n ih =>
    by_cases h : n < 10
    · rw [decDigits_small h]
      refine ⟨?_, ?_, by simp⟩
      · intro c hc
        rw [List.mem_singleton.1 hc]
        unfold isDig
        rw [ofNat_fig h]
        omega
      · have : dval ([] ++ [UInt8.ofNat (48 + n)]) = n := by
          rw [dval_snoc, ofNat_fig h]
          simp [dval]
        simpa using this
    · obtain ⟨h1, h2, h3⟩ := ih (n / 10) (by omega)
      rw [decDigits_step (by omega)]
      refine ⟨Digs.snoc.2 ⟨h1, ?_⟩, ?_, by simp⟩
      · unfold isDig
        rw [ofNat_fig (by omega)]
        omega
      · rw [dval_snoc, h2, ofNat_fig (by omega)]
        omega

theorem canon_dec (n : Nat) : Canon (Lib.decDigits n) := by
  refine ⟨(digs_dec n).1, (digs_dec n).2.2, ?_⟩
  induction n using Nat.strongRecOn with
  | _ n ih =>
    intro hh
    by_cases h : n < 10
    · rw [decDigits_small h] at hh ⊢
      simp only [List.head?_cons, Option.some.injEq] at hh
      rw [hh]
    · exfalso
      rw [decDigits_step (by omega)] at hh
      have hne := (digs_dec (n / 10)).2.2
      have hh2 : (Lib.decDigits (n / 10)).head? = some 48 := by
        cases hq : Lib.decDigits (n / 10) with
        | nil => exact absurd hq hne
        | cons a l => rw [hq] at hh; simpa using hh
      have e := ih (n / 10) (by omega) hh2
      have hv := (digs_dec (n / 10)).2.1
      rw [e] at hv
      have : dval [48] = 0 := rfl
      omega

theorem dec_len (n k : Nat) (h : n < 10 ^ k) (hk : 1 ≤ k) : (Lib.decDigits n).length ≤ k := by
  induction k generalizing n with
  | zero => omega
  | succ k ih =>
    by_cases hn : n < 10
    · rw [decDigits_small hn]; simp
    · rw [decDigits_step (by omega), List.length_append, List.length_singleton]
      have hk1 : 1 ≤ k := by
        cases k with
        | zero => simp at h; omega
        | succ k => omega
      have : n / 10 < 10 ^ k := by rw [Nat.pow_succ] at h; omega
      have := ih (n / 10) this hk1
      omega

end Go.Proofs.YtfjilihppnndkaaDoor.P
namespace Go.Proofs.YtfjilihppnndkaaDoor.P
open Go.RowKit Go.Proofs.YtfjilihppnndkaaDoorW.PrintWords Go.Proofs.YtfjilihppnndkaaDoorW.PrintLast

theorem w64 {x : Int} (h0 : -9223372036854775808 ≤ x) (h1 : x ≤ 9223372036854775807) : wrap64 x = x := IntWalk.wrap64_in x ⟨h0, h1⟩

def Ls (s : ByteArray) : List UInt8 := s.data.toList
theorem Ls_def (s : ByteArray) : s.data.toList = Ls s := rfl
theorem u8_eq {c : UInt8} {n : Nat} (hn : n < 256) (h : c.toNat = n) : c = UInt8.ofNat n := by
  apply UInt8.toNat.inj
  rw [h, UInt8.toNat_ofNat']
  omega
theorem Ls_len (s : ByteArray) : (Ls s).length = s.size := data_length s
theorem Ls_eq (s : ByteArray) : s.toList = Ls s := Lib.toList_data s
theorem Ls_inj {s t : ByteArray} (h : Ls s = Ls t) : s = t := by
  obtain ⟨a⟩ := s
  obtain ⟨b⟩ := t
  have : a = b := Array.toList_inj.1 h
  rw [this]
theorem bt_get (s : ByteArray) (i : Nat) (h : i < s.size) : bt s (i : Int) = (((Ls s)[i]'(by rw [Ls_len]; exact h)).toNat : Int) := by
  unfold bt
  rw [dif_pos (by simpa using h)]
  rfl
theorem bt_head (s : ByteArray) (h : 0 < s.size) : bt s 0 = (((Ls s)[0]'(by rw [Ls_len]; exact h)).toNat : Int) := bt_get s 0 h

/-- Is a text a number: figures without a needless zero ahead, 100 at most, behind a hyphen or not. -/
def mayL (l : List UInt8) : Bool :=
  let f := if l.head? = some 45 then l.tail else l
  decide (1 ≤ f.length) && decide (f.length ≤ 100) && (decide (f.head? ≠ some 48) || decide (l = [48])) && !(f.any noFig)
abbrev mayB (s : ByteArray) : Bool := mayL (Ls s)

theorem mayL_hyphen (l : List UInt8) (h : l.head? = some 45) : mayL l = (decide (1 ≤ l.tail.length) && decide (l.tail.length ≤ 100) && (decide (l.tail.head? ≠ some 48) || decide (l = [48])) && !(l.tail.any noFig)) := by
  simp only [mayL, if_pos h]
theorem mayL_plain (l : List UInt8) (h : ¬ l.head? = some 45) : mayL l = (decide (1 ≤ l.length) && decide (l.length ≤ 100) && (decide (l.head? ≠ some 48) || decide (l = [48])) && !(l.any noFig)) := by
  simp only [mayL, if_neg h]
theorem noFig_false (c : UInt8) : noFig c = false ↔ isDig c := by
  unfold noFig isDig
  rw [Bool.or_eq_false_iff, decide_eq_false_iff_not, decide_eq_false_iff_not]
  omega
theorem any_noFig (l : List UInt8) : l.any noFig = false ↔ Digs l := by
  rw [List.any_eq_false]
  unfold Digs
  constructor
  · intro h c hc
    have := h c hc
    rw [Bool.not_eq_true] at this
    exact (noFig_false c).1 this
  · intro h c hc
    rw [Bool.not_eq_true]
    exact (noFig_false c).2 (h c hc)

/-- What such a text tells. -/
theorem may_tells (l : List UInt8) (h : mayL l = true) : ∃ z : Int, l = Lib.itoa z ∧ z.natAbs < 10 ^ 100 := by
  unfold mayL at h
  simp only [Bool.and_eq_true, Bool.or_eq_true, Bool.not_eq_true', decide_eq_true_eq] at h
  obtain ⟨⟨⟨h1, h2⟩, h3⟩, h4⟩ := h
  by_cases hh : l.head? = some 45
  · rw [if_pos hh] at h1 h2 h3 h4
    have hd := (any_noFig _).1 h4
    have hl : l ≠ [48] := by intro e; rw [e] at hh; simp at hh
    have h5 : l.tail.head? ≠ some 48 := by rcases h3 with h3 | h3; exact h3; exact absurd h3 hl
    have hc : Canon l.tail := ⟨hd, by intro e; rw [e] at h1; simp at h1, fun e => absurd e h5⟩
    have hv := dval_lt _ hd
    have hp : 10 ^ l.tail.length ≤ 10 ^ 100 := Nat.pow_le_pow_right (by omega) h2
    have hpos : 1 ≤ dval l.tail := dval_ne_zero hc (by intro e; rw [e] at h5; simp at h5)
    refine ⟨-(dval l.tail : Int), ?_, by omega⟩
    rw [Lib.itoa_neg _ hpos, ← canon_eq _ hc]
    cases l with
    | nil => simp at hh
    | cons a l =>
      simp only [List.head?_cons, Option.some.injEq] at hh
      rw [hh]
      rfl
  · rw [if_neg hh] at h1 h2 h3 h4
    have hd := (any_noFig _).1 h4
    have hc : Canon l := ⟨hd, by intro e; rw [e] at h1; simp at h1, fun e => by rcases h3 with h3 | h3; exact absurd e h3; exact h3⟩
    have hv := dval_lt _ hd
    have hp : 10 ^ l.length ≤ 10 ^ 100 := Nat.pow_le_pow_right (by omega) h2
    exact ⟨(dval l : Int), by rw [Lib.itoa_nonneg, ← canon_eq _ hc], by omega⟩

theorem itoa_head (z : Int) : (Lib.itoa z).head? = some 45 ↔ z < 0 := by
  unfold Lib.itoa
  by_cases h : z < 0
  · rw [if_pos h]; simp [h]
  · rw [if_neg h]
    constructor
    · intro hh
      exfalso
      have hd := (digs_dec z.toNat).1
      cases hq : Lib.decDigits z.toNat with
      | nil => rw [hq] at hh; simp at hh
      | cons a l =>
        rw [hq] at hh hd
        simp only [List.head?_cons, Option.some.injEq] at hh
        have := hd a (by simp)
        unfold isDig at this
        rw [hh] at this
        simp at this
    · intro h'; exact absurd h' h

theorem itoa_may (z : Int) (h : z.natAbs < 10 ^ 100) : mayL (Lib.itoa z) = true := by
  unfold mayL
  simp only [Bool.and_eq_true, Bool.or_eq_true, Bool.not_eq_true', decide_eq_true_eq]
  by_cases hz : z < 0
  · have e : Lib.itoa z = 45 :: Lib.decDigits z.natAbs := by unfold Lib.itoa; rw [if_pos hz]
    rw [if_pos ((itoa_head z).2 hz), e]
    have hc := canon_dec z.natAbs
    simp only [List.tail_cons]
    refine ⟨⟨⟨?_, dec_len _ _ h (by omega)⟩, ?_⟩, (any_noFig _).2 hc.1⟩
    · have := hc.2.1
      cases hq : Lib.decDigits z.natAbs with
      | nil => exact absurd hq this
      | cons a l => simp
    · left
      intro hh
      have := hc.2.2 hh
      have hv := (digs_dec z.natAbs).2.1
      rw [this] at hv
      have : dval [48] = 0 := rfl
      omega
  · have e : Lib.itoa z = Lib.decDigits z.natAbs := by unfold Lib.itoa; rw [if_neg hz, show z.toNat = z.natAbs by omega]
    rw [if_neg (fun hh => hz ((itoa_head z).1 hh)), e]
    have hc := canon_dec z.natAbs
    refine ⟨⟨⟨?_, dec_len _ _ h (by omega)⟩, ?_⟩, (any_noFig _).2 hc.1⟩
    · have := hc.2.1
      cases hq : Lib.decDigits z.natAbs with
      | nil => exact absurd hq this
      | cons a l => simp
    · by_cases hh : (Lib.decDigits z.natAbs).head? = some 48
      · exact .inr (hc.2.2 hh)
      · exact .inl hh

/-! ### the program's num.May -/
theorem hyphen_size : (⟨#[45]⟩ : ByteArray).size = 1 := rfl
theorem trim_spec (s : ByteArray) : strings_TrimPrefix.f s ⟨#[45]⟩ = some (if (Ls s).head? = some 45 then s.extract 1 s.size else s) := by
  unfold strings_TrimPrefix.f stringslite_TrimPrefix.f stringslite_HasPrefix.f
  rw [hyphen_size]
  by_cases h : (s.size : Int) ≥ ((1 : Nat) : Int)
  · have h' : 1 ≤ s.size := by omega
    rw [if_pos h, if_pos (by omega), if_pos h]
    have e : (s.extract 0 ((1 : Nat) : Int).toNat).toList = (Ls s).take 1 := by
      rw [Lib.extract_toList]; simp [Ls_def]
    simp only [Option.bind_some]
    rw [e]
    cases hq : Ls s with
    | nil => have := Ls_len s; rw [hq] at this; simp at this; omega
    | cons a l =>
      simp only [List.take_succ_cons, List.take_zero, List.head?_cons, Option.some.injEq]
      have e2 : (⟨#[45]⟩ : ByteArray).toList = [45] := by rw [Ls_eq]; rfl
      rw [e2]
      by_cases ha : a = 45
      · subst ha
        simp
        omega
      · simp [ha]
  · rw [if_neg h]
    have h' : s.size = 0 := by omega
    have : Ls s = [] := List.length_eq_zero_iff.1 (by rw [Ls_len]; exact h')
    simp [this]

theorem num_May_spec (s : ByteArray) : num_May.f s = some (mayB s) := by
  unfold num_May.f
  rw [trim_spec]
  simp only [Option.bind_some]
  unfold mayB strings_ContainsFunc_digits.f
  simp only [Option.bind_some, Ls_def]
  have key : ∀ t : ByteArray, (if (t.size : Int) < 1 then some false else if (t.size : Int) > 100 then some false else if 0 < (t.size : Int) then if bt t 0 = 48 then if s.toList = [48] then some (!((Ls t).any noFig)) else some false else some (!((Ls t).any noFig)) else none) =
      some (decide (1 ≤ (Ls t).length) && decide ((Ls t).length ≤ 100) && (decide ((Ls t).head? ≠ some 48) || decide (Ls s = [48])) && !((Ls t).any noFig)) := by
    intro t
    rw [Ls_eq, Ls_len]
    by_cases h1 : (t.size : Int) < 1
    · rw [if_pos h1, decide_eq_false (by omega)]; simp
    · rw [if_neg h1, decide_eq_true (show 1 ≤ t.size by omega)]
      by_cases h2 : (t.size : Int) > 100
      · rw [if_pos h2, decide_eq_false (show ¬ t.size ≤ 100 by omega)]; simp
      · rw [if_neg h2, decide_eq_true (show t.size ≤ 100 by omega), if_pos (by omega), bt_head t (by omega)]
        have hl : 0 < (Ls t).length := by rw [Ls_len]; omega
        have eh : (Ls t).head? = some ((Ls t)[0]) := by rw [List.head?_eq_getElem?, List.getElem?_eq_getElem hl]
        rw [eh]
        by_cases h3 : (Ls t)[0] = 48
        · rw [if_pos (by rw [h3]; rfl), h3]
          by_cases h4 : Ls s = [48]
          · rw [if_pos h4]; simp [h4]
          · rw [if_neg h4]; simp [h4]
        · rw [if_neg (by intro e; exact h3 (u8_eq (n := 48) (by omega) (by omega)))]
          have h3' : ¬ (some (Ls t)[0] = some 48) := by intro e; exact h3 (Option.some.inj e)
          rw [decide_eq_true h3']
          simp
  by_cases hh : (Ls s).head? = some 45
  · have e := key (s.extract 1 s.size)
    have e1 : Ls (s.extract 1 s.size) = (Ls s).tail := by
      unfold Ls
      rw [Lib.extract_to_end, List.drop_one]
    rw [e1] at e
    rw [mayL_hyphen _ hh, ← e]
    simp only [if_pos hh, e1]
  · rw [mayL_plain _ hh, ← key s]
    simp only [if_neg hh]
end Go.Proofs.YtfjilihppnndkaaDoor.P
namespace Go.Proofs.YtfjilihppnndkaaDoor.P
open Go.RowKit Go.Proofs.YtfjilihppnndkaaDoorW.PrintWords Go.Proofs.YtfjilihppnndkaaDoorW.PrintLast

/-- One more round. -/
theorem Ev.succ {α : Type} {g f : Nat → Option α} {r : α} (h : ∀ k, g (k + 1) = f k) (hf : Ev f r) : Ev g r := Ev.step h hf
theorem Ev.bindc {α β : Type} {c : Option α} {f : Nat → α → Option β} {a : α} {r : β} (h : c = some a) (k : Ev (fun n => f n a) r) : Ev (fun n => c.bind (f n)) r := by
  subst h
  exact k
theorem Ev.ite {α : Type} {c : Prop} [Decidable c] {f g : Nat → Option α} {r : α} (h1 : c → Ev f r) (h2 : ¬ c → Ev g r) : Ev (fun k => if c then f k else g k) r := by
  by_cases h : c
  · simp only [if_pos h]; exact h1 h
  · simp only [if_neg h]; exact h2 h
theorem Ev.pos {α : Type} {c : Prop} [Decidable c] {f g : Nat → Option α} {r : α} (h : c) (h1 : Ev f r) : Ev (fun k => if c then f k else g k) r := by
  simp only [if_pos h]; exact h1
theorem Ev.neg {α : Type} {c : Prop} [Decidable c] {f g : Nat → Option α} {r : α} (h : ¬ c) (h1 : Ev g r) : Ev (fun k => if c then f k else g k) r := by
  simp only [if_neg h]; exact h1

abbrev mkS (l : List UInt8) : ByteArray := ⟨l.toArray⟩
theorem Ls_mk (l : List UInt8) : Ls (mkS l) = l := by simp [Ls]
theorem mk_size (l : List UInt8) : (mkS l).size = l.length := by rw [← Ls_len, Ls_mk]

/-! ### May -/

end Go.Proofs.YtfjilihppnndkaaDoor.P
namespace Go.Proofs.YtfjilihppnndkaaDoor.P
open Go.RowKit Go.Proofs.YtfjilihppnndkaaDoorW.PrintWords Go.Proofs.YtfjilihppnndkaaDoorW.PrintLast

/-! ### which of two sizes is greater -/

end Go.Proofs.YtfjilihppnndkaaDoor.P
namespace Go.Proofs.YtfjilihppnndkaaDoor.P
open Go.RowKit Go.Proofs.YtfjilihppnndkaaDoorW.PrintWords Go.Proofs.YtfjilihppnndkaaDoorW.PrintLast Go.Proofs.YtfjilihppnndkaaDoorW.PrintMore

/-! ### whole numbers -/
/-- A text that tells z. -/
def Tells (s : ByteArray) (z : Int) : Prop := Ls s = Lib.itoa z ∧ s.size ≤ 536870912
theorem itoa_size_le (n k : Nat) (z : Int) (h : z.natAbs < 10 ^ k) (hk : 1 ≤ k) (hn : k + 1 ≤ n) : (mkS (Lib.itoa z)).size ≤ n := by
  rw [mk_size]
  have := dec_len z.natAbs k h hk
  unfold Lib.itoa
  split
  · simp; omega
  · rw [show z.toNat = z.natAbs by omega]; omega

end Go.Proofs.YtfjilihppnndkaaDoor.P
namespace Go.Proofs.YtfjilihppnndkaaDoor.P
open Go.RowKit Go.Proofs.YtfjilihppnndkaaDoorW.PrintWords Go.Proofs.YtfjilihppnndkaaDoorW.PrintLast Go.Proofs.YtfjilihppnndkaaDoorW.PrintMore

theorem mayB_tells {s : ByteArray} (h : mayB s = true) : ∃ z : Int, Tells s z ∧ z.natAbs < 10 ^ 100 := by
  obtain ⟨z, h1, h2⟩ := may_tells _ h
  refine ⟨z, ⟨h1, ?_⟩, h2⟩
  have := itoa_size_le 101 100 z h2 (by omega) (by omega)
  rw [mk_size, ← h1, Ls_len] at this
  omega

/-! ### numbers of 64 bits -/
/-- The number that a text tells. -/
def valL (l : List UInt8) : Int := if l.head? = some 45 then -(dval l.tail : Int) else (dval l : Int)
theorem valL_itoa (z : Int) : valL (Lib.itoa z) = z := by
  unfold valL
  by_cases hz : z < 0
  · have e : Lib.itoa z = 45 :: Lib.decDigits z.natAbs := by unfold Lib.itoa; rw [if_pos hz]
    rw [if_pos ((itoa_head z).2 hz), e, List.tail_cons, (digs_dec _).2.1]
    omega
  · have e : Lib.itoa z = Lib.decDigits z.natAbs := by unfold Lib.itoa; rw [if_neg hz, show z.toNat = z.natAbs by omega]
    rw [if_neg (fun hh => hz ((itoa_head z).1 hh)), e, (digs_dec _).2.1]
    omega
def in64 (z : Int) : Bool := decide (-9223372036854775808 ≤ z ∧ z < 9223372036854775808)
def intB (s : ByteArray) : Int × Bool := if mayB s = true then (if in64 (valL (Ls s)) = true then (valL (Ls s), true) else (0, false)) else (0, false)

theorem parseU (l : List UInt8) (hd : Digs l) : ∀ acc : Nat, Lib.parseUintM (2 ^ 64 - 1) acc l = if acc * 10 ^ l.length + dval l ≤ 2 ^ 64 - 1 ∨ l = [] then .ok (acc * 10 ^ l.length + dval l) else .range := by
  induction l with
  | nil => intro acc; simp [Lib.parseUintM, dval]
  | cons c l ih =>
    intro acc
    have hc : isDig c := hd c (by simp)
    have hl : Digs l := fun x hx => hd x (by simp [hx])
    unfold isDig at hc
    unfold Lib.parseUintM
    rw [if_pos hc]
    have hp : 1 ≤ 10 ^ l.length := Nat.one_le_pow _ _ (by omega)
    have e : acc * 10 ^ (c :: l).length + dval (c :: l) = (acc * 10 + (c.toNat - 48)) * 10 ^ l.length + dval l := by
      rw [dval_cons, List.length_cons, Nat.pow_succ, Nat.add_mul, Nat.mul_comm (10 ^ l.length) 10, Nat.mul_assoc]
      omega
    have hle : (acc * 10 + (c.toNat - 48)) * 1 ≤ (acc * 10 + (c.toNat - 48)) * 10 ^ l.length := Nat.mul_le_mul_left _ hp
    rw [e]
    simp only [List.cons_ne_nil, or_false]
    by_cases h1 : 1844674407370955162 ≤ acc
    · rw [if_pos h1, if_neg (by omega)]
    · rw [if_neg h1]
      by_cases h2 : 2 ^ 64 - 1 < acc * 10 + (c.toNat - 48)
      · rw [if_pos h2, if_neg (by omega)]
      · rw [if_neg h2, ih hl]
        by_cases h3 : l = []
        · subst h3
          rw [if_pos (.inr rfl), if_pos]
          simp [dval] at h2 ⊢
          omega
        · by_cases h4 : (acc * 10 + (c.toNat - 48)) * 10 ^ l.length + dval l ≤ 2 ^ 64 - 1
          · rw [if_pos (.inl h4), if_pos h4]
          · rw [if_neg (fun h => h.elim h4 h3), if_neg h4]

theorem parseU_dec (n : Nat) : Lib.parseUintB 64 (Lib.decDigits n) = if n ≤ 18446744073709551615 then .ok n else .range := by
  unfold Lib.parseUintB
  have hne := (digs_dec n).2.2
  rw [if_neg hne, parseU _ (digs_dec n).1, (digs_dec n).2.1, Nat.zero_mul, Nat.zero_add]
  by_cases h : n ≤ 18446744073709551615
  · rw [if_pos (.inl h), if_pos h]
  · rw [if_neg (fun e => e.elim h hne), if_neg h]

theorem parseI (z : Int) : Lib.parseIntB 64 (Lib.itoa z) = if in64 z = true then .ok z else .range := by
  by_cases hz : z < 0
  · have e : Lib.itoa z = 45 :: Lib.decDigits z.natAbs := by unfold Lib.itoa; rw [if_pos hz]
    rw [e]
    unfold Lib.parseIntB
    simp only [show (45 : UInt8).toNat = 45 from rfl]
    rw [if_pos (.inr trivial), parseU_dec]
    by_cases h : z.natAbs ≤ 18446744073709551615
    · rw [if_pos h]
      simp only [not_true_eq_false, false_and, if_false, true_and]
      by_cases h2 : 2 ^ (64 - 1) < z.natAbs
      · rw [if_pos h2, if_neg]
        unfold in64
        rw [decide_eq_true_eq]
        omega
      · rw [if_neg h2]
        have h3 : in64 z = true := by
          unfold in64
          rw [decide_eq_true_eq]
          omega
        rw [if_pos h3]
        simp only [if_true]
        congr 1
        omega
    · rw [if_neg h, if_neg]
      unfold in64
      rw [decide_eq_true_eq]
      omega
  · have e : Lib.itoa z = Lib.decDigits z.natAbs := by unfold Lib.itoa; rw [if_neg hz, show z.toNat = z.natAbs by omega]
    rw [e]
    cases hq : Lib.decDigits z.natAbs with
    | nil => exact absurd hq (digs_dec _).2.2
    | cons c l =>
      have hc : isDig c := (digs_dec z.natAbs).1 c (by rw [hq]; simp)
      unfold isDig at hc
      unfold Lib.parseIntB
      simp only
      rw [if_neg (by omega), ← hq, parseU_dec]
      by_cases h : z.natAbs ≤ 18446744073709551615
      · rw [if_pos h]
        simp only
        have hc45 : ¬ c.toNat = 45 := by omega
        simp only [hc45, not_false_eq_true, true_and, false_and, if_false]
        by_cases h2 : 2 ^ (64 - 1) ≤ z.natAbs
        · rw [if_pos h2, if_neg]
          unfold in64
          rw [decide_eq_true_eq]
          omega
        · rw [if_neg h2, if_pos]
          · congr 1
            omega
          · unfold in64
            rw [decide_eq_true_eq]
            omega
      · rw [if_neg h, if_neg]
        unfold in64
        rw [decide_eq_true_eq]
        omega

theorem num_Int_spec (s : ByteArray) (hs : s.size ≤ 281474976710656) : num_Int.f s = some (intB s) := by
  unfold num_Int.f intB
  rw [if_pos hs, num_May_spec]
  simp only [Option.bind_some]
  by_cases h : mayB s = true
  · obtain ⟨z, h1, h2⟩ := mayB_tells h
    rw [if_pos h, if_pos h, Ls_def, h1.1, parseI, valL_itoa]
    by_cases h3 : in64 z = true
    · rw [if_pos h3, if_pos h3]
    · rw [if_neg h3, if_neg h3]
  · rw [if_neg h, if_neg h]
end Go.Proofs.YtfjilihppnndkaaDoor.P
namespace Go.Proofs.YtfjilihppnndkaaDoor.P
open Go.RowKit Go.Proofs.YtfjilihppnndkaaDoorW.PrintWords Go.Proofs.YtfjilihppnndkaaDoorW.PrintLast Go.Proofs.YtfjilihppnndkaaDoorW.PrintMore

theorem lt_100 {n : Nat} (h : n < 100000000000000000000) : n < 10 ^ 100 := by
  have : 10 ^ 20 ≤ 10 ^ 100 := Nat.pow_le_pow_right (by omega) (by omega)
  omega

/-! ### widths -/

end Go.Proofs.YtfjilihppnndkaaDoor.P
namespace Go.Proofs.YtfjilihppnndkaaDoor.P
open Go.RowKit Go.Proofs.YtfjilihppnndkaaDoorW.PrintWords Go.Proofs.YtfjilihppnndkaaDoorW.PrintLast Go.Proofs.YtfjilihppnndkaaDoorW.PrintMore

theorem drop_rd (xs : List Int) (i : Nat) (h : i < xs.length) : xs.drop i = rd xs (i : Int) :: xs.drop (i + 1) := by
  rw [List.drop_eq_getElem_cons h]
  congr 1
  unfold rd
  rw [Int.toNat_natCast, List.getD_eq_getElem?_getD, List.getElem?_eq_getElem h, Option.getD_some]
theorem drop_rdOf (xs : List ByteArray) (i : Nat) (h : i < xs.length) : xs.drop i = rdOf ByteArray.empty xs (i : Int) :: xs.drop (i + 1) := by
  rw [List.drop_eq_getElem_cons h]
  congr 1
  unfold rdOf
  rw [Int.toNat_natCast, List.getD_eq_getElem?_getD, List.getElem?_eq_getElem h, Option.getD_some]
theorem rd_mem (xs : List Int) (i : Nat) (h : i < xs.length) : rd xs (i : Int) ∈ xs := by
  have := List.mem_of_mem_drop (i := i) (l := xs) (a := rd xs (i : Int)) (by rw [drop_rd xs i h]; exact List.mem_cons_self)
  exact this

/-! ### is there one -/
theorem idx1 (xs : List Int) (hl : xs.length ≤ 1099511627776) (d : Nat) : ∀ i : Nat, i + d = xs.length →
    ∃ r : Int, Ev (fun k => slices_IndexFunc_int_int_at_shape_Size_1.l0 k xs (xs.length : Int) (i : Int)) r ∧ (decide (r ≥ 0) = (xs.drop i).any (fun n => decide (n < 0))) := by
  induction d with
  | zero =>
    intro i hi
    refine ⟨-1, ?_, ?_⟩
    · refine Ev.succ (f := fun _ => some (-1)) (fun k => by simp only [slices_IndexFunc_int_int_at_shape_Size_1.l0]; rw [if_neg (by omega)]) (Ev.now _)
    · rw [List.drop_eq_nil_of_le (by omega)]; rfl
  | succ d ih =>
    intro i hi
    have hd := drop_rd xs i (by omega)
    by_cases hp : rd xs (i : Int) < 0
    · refine ⟨(i : Int), ?_, ?_⟩
      · refine Ev.succ (fun k => by simp only [slices_IndexFunc_int_int_at_shape_Size_1.l0]; rfl) ?_
        refine Ev.pos (by omega) (Ev.pos (by omega) (Ev.pos (by omega) ?_))
        refine Ev.bindc (a := true) (by simp [shape_Size_1.f, hp]) (Ev.pos rfl (Ev.now _))
      · rw [hd, List.any_cons, decide_eq_true hp, Bool.true_or, decide_eq_true (by omega)]
    · obtain ⟨r, h1, h2⟩ := ih (i + 1) (by omega)
      refine ⟨r, ?_, ?_⟩
      · refine Ev.succ (fun k => by simp only [slices_IndexFunc_int_int_at_shape_Size_1.l0]; rfl) ?_
        refine Ev.pos (by omega) (Ev.pos (by omega) (Ev.pos (by omega) ?_))
        refine Ev.bindc (a := false) (by simp [shape_Size_1.f, hp]) (Ev.neg (by simp) ?_)
        rw [w64 (by omega) (by omega)]
        exact h1
      · rw [hd, List.any_cons, decide_eq_false hp, Bool.false_or, h2]
theorem any1 (xs : List Int) (v : Value) (hl : xs.length ≤ 1099511627776) : Ev (fun k => slices_ContainsFunc_int_int_at_shape_Size_1.f k xs v) (xs.any (fun n => decide (n < 0))) := by
  obtain ⟨r, h1, h2⟩ := idx1 xs hl xs.length 0 (by omega)
  unfold slices_ContainsFunc_int_int_at_shape_Size_1.f slices_IndexFunc_int_int_at_shape_Size_1.f
  refine Ev.bind h1 ?_
  rw [h2, List.drop_zero]
  exact Ev.now _

theorem idx2 (xs : List Int) (hl : xs.length ≤ 1099511627776) (d : Nat) : ∀ i : Nat, i + d = xs.length →
    ∃ r : Int, Ev (fun k => slices_IndexFunc_int_int_at_shape_Size_2.l0 k xs (xs.length : Int) (i : Int)) r ∧ (decide (r ≥ 0) = (xs.drop i).any (fun n => decide (n > 1099511627776))) := by
  induction d with
  | zero =>
    intro i hi
    refine ⟨-1, ?_, ?_⟩
    · refine Ev.succ (f := fun _ => some (-1)) (fun k => by simp only [slices_IndexFunc_int_int_at_shape_Size_2.l0]; rw [if_neg (by omega)]) (Ev.now _)
    · rw [List.drop_eq_nil_of_le (by omega)]; rfl
  | succ d ih =>
    intro i hi
    have hd := drop_rd xs i (by omega)
    by_cases hp : rd xs (i : Int) > 1099511627776
    · refine ⟨(i : Int), ?_, ?_⟩
      · refine Ev.succ (fun k => by simp only [slices_IndexFunc_int_int_at_shape_Size_2.l0]; rfl) ?_
        refine Ev.pos (by omega) (Ev.pos (by omega) (Ev.pos (by omega) ?_))
        refine Ev.bindc (a := true) (by simp [shape_Size_2.f]; omega) (Ev.pos rfl (Ev.now _))
      · rw [hd, List.any_cons, decide_eq_true hp, Bool.true_or, decide_eq_true (by omega)]
    · obtain ⟨r, h1, h2⟩ := ih (i + 1) (by omega)
      refine ⟨r, ?_, ?_⟩
      · refine Ev.succ (fun k => by simp only [slices_IndexFunc_int_int_at_shape_Size_2.l0]; rfl) ?_
        refine Ev.pos (by omega) (Ev.pos (by omega) (Ev.pos (by omega) ?_))
        refine Ev.bindc (a := false) (by simp [shape_Size_2.f]; omega) (Ev.neg (by simp) ?_)
        rw [w64 (by omega) (by omega)]
        exact h1
      · rw [hd, List.any_cons, decide_eq_false hp, Bool.false_or, h2]
theorem any2 (xs : List Int) (v : Value) (hl : xs.length ≤ 1099511627776) : Ev (fun k => slices_ContainsFunc_int_int_at_shape_Size_2.f k xs v) (xs.any (fun n => decide (n > 1099511627776))) := by
  obtain ⟨r, h1, h2⟩ := idx2 xs hl xs.length 0 (by omega)
  unfold slices_ContainsFunc_int_int_at_shape_Size_2.f slices_IndexFunc_int_int_at_shape_Size_2.f
  refine Ev.bind h1 ?_
  rw [h2, List.drop_zero]
  exact Ev.now _

theorem idxE (xs : List Int) (a : Int) (hl : xs.length ≤ 1099511627776) (d : Nat) : ∀ i : Nat, i + d = xs.length →
    ∃ r : Int, Ev (fun k => slices_Index_int_int.l0 k xs a (xs.length : Int) (i : Int)) r ∧ (decide (r ≥ 0) = (xs.drop i).any (fun n => decide (a = n))) := by
  induction d with
  | zero =>
    intro i hi
    refine ⟨-1, ?_, ?_⟩
    · refine Ev.succ (f := fun _ => some (-1)) (fun k => by simp only [slices_Index_int_int.l0]; rw [if_neg (by omega)]) (Ev.now _)
    · rw [List.drop_eq_nil_of_le (by omega)]; rfl
  | succ d ih =>
    intro i hi
    have hd := drop_rd xs i (by omega)
    by_cases hp : a = rd xs (i : Int)
    · refine ⟨(i : Int), ?_, ?_⟩
      · refine Ev.succ (fun k => by simp only [slices_Index_int_int.l0]; rfl) ?_
        refine Ev.pos (by omega) (Ev.pos (by omega) (Ev.pos (by omega) ?_))
        exact Ev.pos hp (Ev.now _)
      · rw [hd, List.any_cons, decide_eq_true hp, Bool.true_or, decide_eq_true (by omega)]
    · obtain ⟨r, h1, h2⟩ := ih (i + 1) (by omega)
      refine ⟨r, ?_, ?_⟩
      · refine Ev.succ (fun k => by simp only [slices_Index_int_int.l0]; rfl) ?_
        refine Ev.pos (by omega) (Ev.pos (by omega) (Ev.pos (by omega) ?_))
        refine Ev.neg hp ?_
        rw [w64 (by omega) (by omega)]
        exact h1
      · rw [hd, List.any_cons, decide_eq_false hp, Bool.false_or, h2]
theorem anyE (xs : List Int) (a : Int) (hl : xs.length ≤ 1099511627776) : Ev (fun k => slices_Contains_int_int.f k xs a) (xs.any (fun n => decide (a = n))) := by
  obtain ⟨r, h1, h2⟩ := idxE xs a hl xs.length 0 (by omega)
  unfold slices_Contains_int_int.f slices_Index_int_int.f
  refine Ev.bind h1 ?_
  rw [h2, List.drop_zero]
  exact Ev.now _

/-! ### sizes -/
def prodV : Int → List Int → Int × Int
  | s, [] => (s, 0)
  | s, n :: l => if s * n > 4096 then (0, 8) else prodV (s * n) l
/-- How many elements a shape has. -/
def sizeV (l : List Int) : Int × Int := if (l.length : Int) > 3 then (0, 3) else if l.any (fun n => decide (n < 0)) = true then (0, 5) else if l.any (fun n => decide (n > 1099511627776)) = true then (0, 8) else if l.any (fun n => decide (0 = n)) = true then (0, 0) else prodV 1 l

theorem prodV_le (l : List Int) : ∀ s : Int, 1 ≤ s → s ≤ 4096 → (∀ n ∈ l, 1 ≤ n) → 0 ≤ (prodV s l).1 ∧ (prodV s l).1 ≤ 4096 ∧ ((prodV s l).2 = 0 → 1 ≤ (prodV s l).1) := by
  induction l with
  | nil => intro s h0 h1 _; exact ⟨by simp only [prodV]; omega, by simp only [prodV]; omega, fun _ => by simp only [prodV]; omega⟩
  | cons n l ih =>
    intro s h0 h1 hn
    have hn1 := hn n List.mem_cons_self
    simp only [prodV]
    by_cases h : s * n > 4096
    · rw [if_pos h]; exact ⟨by decide, by decide, fun e => by simp at e⟩
    · rw [if_neg h]
      have : 1 ≤ s * n := by
        have := Int.mul_le_mul h0 hn1 (by omega) (by omega)
        omega
      exact ih (s * n) this (by omega) (fun m hm => hn m (List.mem_cons_of_mem _ hm))
theorem pos_of {l : List Int} (h1 : l.any (fun n => decide (n < 0)) = false) (h2 : l.any (fun n => decide (0 = n)) = false) : ∀ n ∈ l, 1 ≤ n := by
  intro n hn
  have a := List.any_eq_false.1 h1 n hn
  have b := List.any_eq_false.1 h2 n hn
  simp only [decide_eq_true_eq] at a b
  omega
theorem sizeV_le (l : List Int) : 0 ≤ (sizeV l).1 ∧ (sizeV l).1 ≤ 4096 := by
  unfold sizeV
  split
  · exact ⟨by decide, by decide⟩
  · split
    · exact ⟨by decide, by decide⟩
    · split
      · exact ⟨by decide, by decide⟩
      · split
        · exact ⟨by decide, by decide⟩
        · rename_i a b c e
          have := prodV_le l 1 (by decide) (by decide) (pos_of (Bool.eq_false_iff.2 b) (Bool.eq_false_iff.2 e))
          exact ⟨this.1, this.2.1⟩
theorem sizeV_len {l : List Int} (h : (sizeV l).2 = 0) : l.length ≤ 3 := by
  unfold sizeV at h
  split at h
  · simp at h
  · omega

theorem quo_gt (s n : Int) (hs : 1 ≤ s) (hs2 : s ≤ 4096) : (n > wrap64 (Int.tdiv 4096 s)) ↔ s * n > 4096 := by
  have e : Int.tdiv 4096 s = 4096 / s := Int.tdiv_eq_ediv_of_nonneg (by omega)
  have hb : 0 ≤ 4096 / s := Int.ediv_nonneg (by omega) (by omega)
  have hb2 : 4096 / s ≤ 4096 := Int.ediv_le_self _ (by omega)
  rw [e, w64 (by omega) (by omega)]
  have := Int.ediv_lt_iff_lt_mul (a := 4096) (b := n) (c := s) (by omega)
  rw [Int.mul_comm]
  exact this

theorem shape_loop (l : List Int) (hl : l.length ≤ 1099511627776) (hn : ∀ n ∈ l, 1 ≤ n ∧ n ≤ 1099511627776) (d : Nat) : ∀ (i : Nat) (s : Int), i + d = l.length → 1 ≤ s → s ≤ 4096 →
    Ev (fun k => shape_Size.l0 k s l (l.length : Int) (i : Int)) (prodV s (l.drop i)) := by
  induction d with
  | zero =>
    intro i s hi h0 h1
    rw [List.drop_eq_nil_of_le (by omega)]
    refine Ev.succ (f := fun _ => some (s, 0)) (fun k => by simp only [shape_Size.l0]; rw [if_neg (by omega)]) (Ev.now _)
  | succ d ih =>
    intro i s hi h0 h1
    have hd := drop_rd l i (by omega)
    have hm := hn _ (rd_mem l i (by omega))
    rw [hd]
    simp only [prodV]
    refine Ev.succ (fun k => by simp only [shape_Size.l0]; rfl) ?_
    refine Ev.pos (by omega) (Ev.pos (by omega) (Ev.pos (by omega) (Ev.neg (by omega) ?_)))
    have hq := quo_gt s (rd l (i : Int)) h0 h1
    by_cases h : s * rd l (i : Int) > 4096
    · rw [if_pos h]
      exact Ev.pos (hq.2 h) (Ev.now _)
    · rw [if_neg h]
      refine Ev.neg (fun e => h (hq.1 e)) ?_
      have h2 : 1 ≤ s * rd l (i : Int) := by
        have := Int.mul_le_mul h0 hm.1 (by omega) (by omega)
        omega
      rw [w64 (x := s * rd l (i : Int)) (by omega) (by omega), w64 (by omega) (by omega)]
      exact ih (i + 1) _ (by omega) h2 (by omega)

theorem size_bounds {l : List Int} (h1 : l.any (fun n => decide (n < 0)) = false) (h2 : l.any (fun n => decide (0 = n)) = false) (h3 : l.any (fun n => decide (n > 1099511627776)) = false) : ∀ n ∈ l, 1 ≤ n ∧ n ≤ 1099511627776 := by
  intro n hn
  have c := List.any_eq_false.1 h3 n hn
  simp only [decide_eq_true_eq] at c
  exact ⟨pos_of h1 h2 n hn, by omega⟩

theorem shape_Size_spec (l : List Int) : Ev (fun k => shape_Size.f k l) (sizeV l) := by
  unfold shape_Size.f sizeV
  by_cases h : (l.length : Int) > 3
  · rw [if_pos h]; exact Ev.pos h (Ev.now _)
  · rw [if_neg h]
    refine Ev.neg h (Ev.bind (any1 l _ (by omega)) ?_)
    by_cases ha : l.any (fun n => decide (n < 0)) = true
    · rw [if_pos ha]; exact Ev.pos ha (Ev.now _)
    · rw [if_neg ha]
      refine Ev.neg ha (Ev.bind (any2 l _ (by omega)) ?_)
      by_cases hb : l.any (fun n => decide (n > 1099511627776)) = true
      · rw [if_pos hb]; exact Ev.pos hb (Ev.now _)
      · rw [if_neg hb]
        refine Ev.neg hb (Ev.bind (anyE l 0 (by omega)) ?_)
        by_cases hc : l.any (fun n => decide (0 = n)) = true
        · rw [if_pos hc]; exact Ev.pos hc (Ev.now _)
        · rw [if_neg hc]
          refine Ev.neg hc ?_
          have := shape_loop l (by omega) (size_bounds (Bool.eq_false_iff.2 ha) (Bool.eq_false_iff.2 hc) (Bool.eq_false_iff.2 hb)) l.length 0 1 (by omega) (by decide) (by decide)
          rwa [List.drop_zero] at this

/-! ### what may be -/
def mayV (l : List Int) (e : List ByteArray) : Bool := decide ((sizeV l).2 = 0) && (decide ((e.length : Int) = (sizeV l).1) && !e.any (fun s => !mayB s))

theorem idx3 (xs : List ByteArray) (hl : xs.length ≤ 1099511627776) (d : Nat) : ∀ i : Nat, i + d = xs.length →
    ∃ r : Int, Ev (fun k => slices_IndexFunc_string_string_at_val_May_1.l0 k xs (xs.length : Int) (i : Int)) r ∧ (decide (r ≥ 0) = (xs.drop i).any (fun s => !mayB s)) := by
  induction d with
  | zero =>
    intro i hi
    refine ⟨-1, ?_, ?_⟩
    · refine Ev.succ (f := fun _ => some (-1)) (fun k => by simp only [slices_IndexFunc_string_string_at_val_May_1.l0]; rw [if_neg (by omega)]) (Ev.now _)
    · rw [List.drop_eq_nil_of_le (by omega)]; rfl
  | succ d ih =>
    intro i hi
    have hd := drop_rdOf xs i (by omega)
    have hs : val_May_1.f (rdOf ByteArray.empty xs (i : Int)) = some (!mayB (rdOf ByteArray.empty xs (i : Int))) := by
      unfold val_May_1.f; rw [num_May_spec]; rfl
    by_cases hp : (!mayB (rdOf ByteArray.empty xs (i : Int))) = true
    · refine ⟨(i : Int), ?_, ?_⟩
      · refine Ev.succ (fun k => by simp only [slices_IndexFunc_string_string_at_val_May_1.l0]; rfl) ?_
        refine Ev.pos (by omega) (Ev.pos (by omega) (Ev.pos (by omega) ?_))
        exact Ev.bindc hs (Ev.pos hp (Ev.now _))
      · rw [hd, List.any_cons, hp, Bool.true_or, decide_eq_true (by omega)]
    · obtain ⟨r, h1, h2⟩ := ih (i + 1) (by omega)
      refine ⟨r, ?_, ?_⟩
      · refine Ev.succ (fun k => by simp only [slices_IndexFunc_string_string_at_val_May_1.l0]; rfl) ?_
        refine Ev.pos (by omega) (Ev.pos (by omega) (Ev.pos (by omega) ?_))
        refine Ev.bindc hs (Ev.neg hp ?_)
        rw [w64 (by omega) (by omega)]
        exact h1
      · rw [hd, List.any_cons, Bool.eq_false_iff.2 hp, Bool.false_or, h2]
theorem any3 (xs : List ByteArray) (v : Value) (hl : xs.length ≤ 1099511627776) : Ev (fun k => slices_ContainsFunc_string_string_at_val_May_1.f k xs v) (xs.any (fun s => !mayB s)) := by
  obtain ⟨r, h1, h2⟩ := idx3 xs hl xs.length 0 (by omega)
  unfold slices_ContainsFunc_string_string_at_val_May_1.f slices_IndexFunc_string_string_at_val_May_1.f
  refine Ev.bind h1 ?_
  rw [h2, List.drop_zero]
  exact Ev.now _

theorem val_May_spec (l : List Int) (e : List ByteArray) : Ev (fun k => val_May.f k l e) (mayV l e) := by
  unfold val_May.f mayV
  have hb := sizeV_le l
  refine Ev.bind (shape_Size_spec l) (Ev.ite (fun h1 => ?_) (fun h1 => ?_))
  · rw [decide_eq_true h1, Bool.true_and]
    refine Ev.ite (fun h2 => ?_) (fun h2 => ?_)
    · rw [decide_eq_true h2, Bool.true_and]
      exact Ev.bind (any3 e _ (by omega)) (Ev.now _)
    · rw [decide_eq_false h2, Bool.false_and]
      exact Ev.now _
  · rw [decide_eq_false h1, Bool.false_and]
    exact Ev.now _

/-! ### few, same -/

end Go.Proofs.YtfjilihppnndkaaDoor.P
namespace Go.Proofs.YtfjilihppnndkaaDoor.P
open Go.RowKit Go.Proofs.YtfjilihppnndkaaDoorW.PrintWords Go.Proofs.YtfjilihppnndkaaDoorW.PrintLast Go.Proofs.YtfjilihppnndkaaDoorW.PrintMore

/-! ### widths -/

/-! ### bytes of a number -/

/-! ### numbers laid in a width -/

/-! ### packed -/

theorem mayV_len {l : List Int} {e : List ByteArray} (h : mayV l e = true) : e.length ≤ 4096 ∧ l.length ≤ 3 ∧ ∀ s ∈ e, mayB s = true := by
  unfold mayV at h
  rw [Bool.and_eq_true, Bool.and_eq_true, decide_eq_true_eq, decide_eq_true_eq, Bool.not_eq_true'] at h
  have := sizeV_le l
  refine ⟨by omega, sizeV_len h.1, fun s hs => ?_⟩
  have := List.any_eq_false.1 h.2.2 s hs
  simpa using this

end Go.Proofs.YtfjilihppnndkaaDoor.P
namespace Go.Proofs.YtfjilihppnndkaaDoor.P
open Go.RowKit Go.Proofs.YtfjilihppnndkaaDoorW.PrintWords Go.Proofs.YtfjilihppnndkaaDoorW.PrintLast Go.Proofs.YtfjilihppnndkaaDoorW.PrintMore

/-! ### are arrays fine -/
theorem drop_T (xs : List S25) (i : Nat) (h : i < xs.length) : xs.drop i = rd_T25 xs (i : Int) :: xs.drop (i + 1) := by
  rw [List.drop_eq_getElem_cons h]
  simp [rd_T25, List.getD_eq_getElem?_getD, h]
theorem idxF (xs : List S25) (hl : xs.length ≤ 1099511627776) (d : Nat) : ∀ i : Nat, i + d = xs.length →
    ∃ r : Int, Ev (fun k => slices_IndexFunc_api_Val_api_Val_at_mould_fine_1.l0 k xs (xs.length : Int) (i : Int)) r ∧ (decide (r ≥ 0) = (xs.drop i).any (fun s => !mayV s.f0 s.f1)) := by
  induction d with
  | zero =>
    intro i hi
    refine ⟨-1, ?_, ?_⟩
    · refine Ev.succ (f := fun _ => some (-1)) (fun k => by simp only [slices_IndexFunc_api_Val_api_Val_at_mould_fine_1.l0]; rw [if_neg (by omega)]) (Ev.now _)
    · rw [List.drop_eq_nil_of_le (by omega)]; rfl
  | succ d ih =>
    intro i hi
    have hd := drop_T xs i (by omega)
    have hs : Ev (fun k => mould_fine_1.f k (rd_T25 xs (i : Int)).f0 (rd_T25 xs (i : Int)).f1) (!mayV (rd_T25 xs (i : Int)).f0 (rd_T25 xs (i : Int)).f1) := by
      unfold mould_fine_1.f
      exact Ev.bind (val_May_spec _ _) (Ev.now _)
    by_cases hp : (!mayV (rd_T25 xs (i : Int)).f0 (rd_T25 xs (i : Int)).f1) = true
    · refine ⟨(i : Int), ?_, ?_⟩
      · refine Ev.succ (fun k => by simp only [slices_IndexFunc_api_Val_api_Val_at_mould_fine_1.l0]; rfl) ?_
        refine Ev.pos (by omega) (Ev.pos (by omega) (Ev.pos (by omega) ?_))
        exact Ev.bind hs (Ev.pos hp (Ev.now _))
      · rw [hd, List.any_cons, hp, Bool.true_or, decide_eq_true (by omega)]
    · obtain ⟨r, h1, h2⟩ := ih (i + 1) (by omega)
      refine ⟨r, ?_, ?_⟩
      · refine Ev.succ (fun k => by simp only [slices_IndexFunc_api_Val_api_Val_at_mould_fine_1.l0]; rfl) ?_
        refine Ev.pos (by omega) (Ev.pos (by omega) (Ev.pos (by omega) ?_))
        refine Ev.bind hs (Ev.neg hp ?_)
        rw [w64 (by omega) (by omega)]
        exact h1
      · rw [hd, List.any_cons, Bool.eq_false_iff.2 hp, Bool.false_or, h2]
theorem fine_spec (xs : List S25) (hl : xs.length ≤ 1099511627776) : Ev (fun k => mould_fine.f k xs) (!xs.any (fun s => !mayV s.f0 s.f1)) := by
  obtain ⟨r, h1, h2⟩ := idxF xs hl xs.length 0 (by omega)
  unfold mould_fine.f slices_ContainsFunc_api_Val_api_Val_at_mould_fine_1.f slices_IndexFunc_api_Val_api_Val_at_mould_fine_1.f
  refine Ev.bind (Ev.bind h1 (Ev.now _)) ?_
  rw [h2, List.drop_zero]
  exact Ev.now _
theorem fine_one (l : List Int) (e : List ByteArray) : Ev (fun k => mould_fine.f k [⟨l, e⟩]) (mayV l e) := by
  have := fine_spec [⟨l, e⟩] (by simp)
  simpa using this

/-! ### numbers as texts -/
theorem num_Of_spec (x : Int) (h : in64 x = true) : num_Of.f x = some (mkS (Lib.itoa x)) := by
  have h' := of_decide_eq_true h
  unfold num_Of.f strconv_FormatInt.f
  rw [if_pos ⟨rfl, by omega, by omega⟩]
  rfl
def oneV (s : ByteArray) : Int × Int := if (intB s).2 = true then (if (intB s).1 < -1099511627776 then (0, 5) else if (intB s).1 > 1099511627776 then (0, 5) else ((intB s).1, 0)) else (0, 5)
theorem val_one_spec (s : ByteArray) (hs : s.size ≤ 281474976710656) : val_one.f s = some (oneV s) := by
  unfold val_one.f oneV
  rw [num_Int_spec s hs]
  simp only [Option.bind_some]
  split
  · split
    · rfl
    · split <;> rfl
  · rfl
def intV1 (l : List Int) (e : List ByteArray) : Int × Int := if 0 < l.length then (0, 3) else match e with | [s] => oneV s | _ => (0, 3)
theorem val_Int_spec (l : List Int) (e : List ByteArray) (hs : ∀ s ∈ e, s.size ≤ 281474976710656) : val_Int.f l e = some (intV1 l e) := by
  unfold val_Int.f intV1
  by_cases h : 0 < l.length
  · rw [if_pos (by omega), if_pos h]
  · rw [if_neg (by omega), if_neg h]
    match e, hs with
    | [], _ => rfl
    | [s], hs =>
      rw [if_pos (by simp), if_pos (by simp)]
      rw [show rdOf ByteArray.empty [s] 0 = s from rfl, val_one_spec s (hs s (by simp))]
      rfl
    | _ :: _ :: _, _ => rw [if_neg (by simp only [List.length_cons]; omega)]
theorem vector_spec (l : List ByteArray) (h : l.length ≤ 8796093022208) : val_Vector.f l = some ([(l.length : Int)], l) := by
  unfold val_Vector.f slices_Clone_string_string.f
  rw [if_pos h]
  rfl
theorem clone_int (l : List Int) (h : l.length ≤ 17592186044416) : slices_Clone_int_int.f l = some l := by unfold slices_Clone_int_int.f; rw [if_pos h]
theorem clone_str (l : List ByteArray) (h : l.length ≤ 8796093022208) : slices_Clone_string_string.f l = some l := by unfold slices_Clone_string_string.f; rw [if_pos h]
def itoS (x : Int) : ByteArray := mkS (Lib.itoa x)
theorem ints_loop (l : List Int) (hl : l.length ≤ 1099511627776) (hr : ∀ x ∈ l, in64 x = true) (d : Nat) : ∀ i : Nat, i + d = l.length →
    Ev (fun k => val_Ints.l0 k ((l.take i).map itoS) l (l.length : Int) (i : Int)) ([(l.length : Int)], l.map itoS) := by
  induction d with
  | zero =>
    intro i hi
    refine Ev.succ (fun k => by simp only [val_Ints.l0]; rfl) ?_
    refine Ev.neg (by omega) ?_
    rw [List.take_of_length_le (by omega)]
    refine Ev.bindc (vector_spec _ (by rw [List.length_map]; omega)) ?_
    rw [List.length_map]
    exact Ev.now _
  | succ d ih =>
    intro i hi
    have hlt : i < l.length := by omega
    have hrd : rd l (i : Int) = l[i] := by simp [rd, List.getD_eq_getElem?_getD, hlt]
    refine Ev.succ (fun k => by simp only [val_Ints.l0]; rfl) ?_
    refine Ev.pos (by omega) (Ev.pos (by omega) (Ev.pos (by omega) ?_))
    refine Ev.bindc (num_Of_spec _ (by rw [hrd]; exact hr _ (List.getElem_mem hlt))) ?_
    refine Ev.pos (by rw [List.length_map, List.length_take]; omega) ?_
    rw [w64 (by omega) (by omega)]
    have := ih (i + 1) (by omega)
    rw [List.take_succ_eq_append_getElem hlt, List.map_append] at this
    rw [hrd]
    exact this
theorem ints_spec (l : List Int) (hl : l.length ≤ 1099511627776) (hr : ∀ x ∈ l, in64 x = true) : Ev (fun k => val_Ints.f k l) ([(l.length : Int)], l.map itoS) := by
  unfold val_Ints.f
  exact ints_loop l hl hr l.length 0 (by omega)

/-! ### items -/
def manyV : List Int → Int
  | [] => 1
  | n :: _ => n
theorem items_spec (l : List Int) (h : l.length ≤ 17592186044416) : shape_Items.f l = some (manyV l, l.drop 1) := by
  unfold shape_Items.f
  cases l with
  | nil => rfl
  | cons n l =>
    rw [if_neg (by simp only [List.length_cons]; omega), if_pos (by simp only [List.length_cons]; omega), if_pos (by simp only [List.length_cons]; omega)]
    rw [clone_int _ (by simp only [List.length_cons, List.drop_one, List.tail_cons] at h ⊢; omega)]
    rfl
theorem many_spec (l : List Int) (e : List ByteArray) (h : l.length ≤ 17592186044416) : val_Many.f l e = some (manyV l) := by
  unfold val_Many.f
  rw [items_spec l h]
  rfl

/-! ### the same -/
theorem eqI_loop (a b : List Int) (hl : a.length = b.length) (hb : a.length ≤ 1099511627776) (d : Nat) : ∀ i : Nat, i + d = a.length → Ev (fun k => slices_Equal_int_int.l0 k a b (a.length : Int) (i : Int)) (decide (a.drop i = b.drop i)) := by
  induction d with
  | zero =>
    intro i hi
    refine Ev.succ (fun k => by simp only [slices_Equal_int_int.l0]; rfl) ?_
    refine Ev.neg (by omega) ?_
    rw [List.drop_eq_nil_of_le (by omega), List.drop_eq_nil_of_le (by omega), decide_eq_true rfl]
    exact Ev.now _
  | succ d ih =>
    intro i hi
    refine Ev.succ (fun k => by simp only [slices_Equal_int_int.l0]; rfl) ?_
    refine Ev.pos (by omega) (Ev.pos (by omega) (Ev.pos (by omega) (Ev.pos (by omega) ?_)))
    have ha := drop_rd a i (by omega)
    have hb := drop_rd b i (by omega)
    refine Ev.ite (fun h => ?_) (fun h => ?_)
    · rw [w64 (by omega) (by omega)]
      have e : decide (a.drop i = b.drop i) = decide (a.drop (i + 1) = b.drop (i + 1)) := by rw [ha, hb, h]; simp
      rw [e]
      exact ih (i + 1) (by omega)
    · rw [decide_eq_false (by rw [ha, hb]; simp [h])]
      exact Ev.now _
theorem eqI_spec (a b : List Int) (hb : a.length ≤ 1099511627776) : Ev (fun k => slices_Equal_int_int.f k a b) (decide (a = b)) := by
  unfold slices_Equal_int_int.f
  refine Ev.ite (fun h => ?_) (fun h => ?_)
  · have := eqI_loop a b (by omega) hb a.length 0 (by omega)
    rwa [List.drop_zero, List.drop_zero] at this
  · rw [decide_eq_false (fun e => h (by rw [e]))]
    exact Ev.now _
theorem eqS_loop (a b : List ByteArray) (hl : a.length = b.length) (hb : a.length ≤ 1099511627776) (d : Nat) : ∀ i : Nat, i + d = a.length → Ev (fun k => slices_Equal_string_string.l0 k a b (a.length : Int) (i : Int)) (decide (a.drop i = b.drop i)) := by
  induction d with
  | zero =>
    intro i hi
    refine Ev.succ (fun k => by simp only [slices_Equal_string_string.l0]; rfl) ?_
    refine Ev.neg (by omega) ?_
    rw [List.drop_eq_nil_of_le (by omega), List.drop_eq_nil_of_le (by omega), decide_eq_true rfl]
    exact Ev.now _
  | succ d ih =>
    intro i hi
    refine Ev.succ (fun k => by simp only [slices_Equal_string_string.l0]; rfl) ?_
    refine Ev.pos (by omega) (Ev.pos (by omega) (Ev.pos (by omega) (Ev.pos (by omega) ?_)))
    have ha := drop_rdOf a i (by omega)
    have hb := drop_rdOf b i (by omega)
    refine Ev.ite (fun h => ?_) (fun h => ?_)
    · rw [w64 (by omega) (by omega)]
      rw [Ls_eq, Ls_eq] at h
      have e : decide (a.drop i = b.drop i) = decide (a.drop (i + 1) = b.drop (i + 1)) := by rw [ha, hb, Ls_inj h]; simp
      rw [e]
      exact ih (i + 1) (by omega)
    · rw [decide_eq_false (fun e => h (by rw [ha, hb] at e; rw [(List.cons.inj e).1]))]
      exact Ev.now _
theorem eqS_spec (a b : List ByteArray) (hb : a.length ≤ 1099511627776) : Ev (fun k => slices_Equal_string_string.f k a b) (decide (a = b)) := by
  unfold slices_Equal_string_string.f
  refine Ev.ite (fun h => ?_) (fun h => ?_)
  · have := eqS_loop a b (by omega) hb a.length 0 (by omega)
    rwa [List.drop_zero, List.drop_zero] at this
  · rw [decide_eq_false (fun e => h (by rw [e]))]
    exact Ev.now _
theorem shape_Same_spec (a b : List Int) (hb : a.length ≤ 1099511627776) : Ev (fun k => shape_Same.f k a b) (decide (a = b)) := by
  unfold shape_Same.f
  exact Ev.bind (eqI_spec a b hb) (Ev.now _)
theorem val_Same_spec (a : List Int) (e : List ByteArray) (b : List Int) (f : List ByteArray) (h1 : a.length ≤ 1099511627776) (h2 : e.length ≤ 1099511627776) : Ev (fun k => val_Same.f k a e b f) (decide (a = b) && decide (e = f)) := by
  unfold val_Same.f
  refine Ev.bind (shape_Same_spec a b h1) (Ev.ite (fun h => ?_) (fun h => ?_))
  · rw [h, Bool.true_and]
    exact Ev.bind (eqS_spec e f h2) (Ev.now _)
  · rw [Bool.eq_false_iff.2 h, Bool.false_and]
    exact Ev.now _

/-! ### some items -/
/-- How many elements an item has. -/
def isz (l : List Int) (e : List ByteArray) : Int := if manyV l > 0 then (e.length : Int) / manyV l else 0
theorem some_spec (l : List Int) (e : List ByteArray) (a b : Nat) (hl : l.length ≤ 1099511627776) (he : e.length ≤ 1099511627776) (hab : a ≤ b) (hb : b ≤ 1099511627776) (hm : (b : Int) * isz l e ≤ e.length) :
    mould_some.f l e (a : Int) (b : Int) = some ([(b : Int) - (a : Int)] ++ l.drop 1, (e.drop (a * (isz l e).toNat)).take (b * (isz l e).toNat - a * (isz l e).toNat)) := by
  unfold mould_some.f
  rw [items_spec l (by omega)]
  simp only [Option.bind_some]
  have hw : wrap64 ((b : Int) - (a : Int)) = (b : Int) - (a : Int) := w64 (by omega) (by omega)
  have hdl : (l.drop 1).length ≤ l.length := by rw [List.length_drop]; omega
  by_cases hp : manyV l > 0
  · have hz : isz l e = (e.length : Int) / manyV l := by unfold isz; rw [if_pos hp]
    have hz0 : 0 ≤ isz l e := by rw [hz]; exact Int.ediv_nonneg (by omega) (by omega)
    have hz1 : isz l e ≤ e.length := by rw [hz]; exact Int.ediv_le_self _ (by omega)
    rw [if_pos hp, if_neg (by omega), hw]
    rw [← hz]
    obtain ⟨z, hzz⟩ := Int.eq_ofNat_of_zero_le hz0
    rw [hzz] at hm hz1 ⊢
    rw [w64 (x := (z : Int)) (by omega) (by omega)]
    have hba : a * z ≤ b * z := Nat.mul_le_mul_right _ hab
    have hbz : b * z ≤ e.length := by exact_mod_cast hm
    rw [w64 (x := (a : Int) * (z : Int)) (by rw [← Int.natCast_mul]; omega) (by rw [← Int.natCast_mul]; omega), w64 (x := (b : Int) * (z : Int)) (by rw [← Int.natCast_mul]; omega) (by rw [← Int.natCast_mul]; omega)]
    rw [← Int.natCast_mul, ← Int.natCast_mul]
    unfold mould_part_string.f
    rw [if_pos (by simp only [List.length_cons, List.length_nil]; omega), if_pos ⟨by omega, by omega, by omega⟩]
    simp only [Int.toNat_natCast]
    rw [clone_str _ (by rw [List.length_take, List.length_drop]; omega)]
    rfl
  · have hz : isz l e = 0 := by unfold isz; rw [if_neg hp]
    rw [if_neg hp, hw, hz]
    simp only [Int.toNat_zero, Nat.mul_zero, List.drop_zero, Nat.sub_zero, List.take_zero]
    rw [if_pos (by simp only [List.length_cons, List.length_nil]; omega)]
    unfold mould_part_string.f
    rw [show wrap64 0 = 0 by decide +kernel, if_pos ⟨by omega, by omega, by omega⟩]
    simp only [Int.toNat_zero, List.drop_zero, Nat.sub_zero, List.take_zero]
    rw [clone_str _ (by simp)]
    rfl
end Go.Proofs.YtfjilihppnndkaaDoor.P
namespace Go.Proofs.YtfjilihppnndkaaDoor.P
open Go.RowKit Go.Proofs.YtfjilihppnndkaaDoorW.PrintWords Go.Proofs.YtfjilihppnndkaaDoorW.PrintLast Go.Proofs.YtfjilihppnndkaaDoorW.PrintMore

/-! ### the numbers below one -/
def nats (n : Nat) : List Int := (List.range n).map Int.ofNat
theorem nats_len (n : Nat) : (nats n).length = n := by simp [nats]
theorem nats_in (n : Nat) (h : n ≤ 1099511627776) : ∀ x ∈ nats n, in64 x = true := by
  intro x hx
  obtain ⟨i, hi, rfl⟩ := List.mem_map.1 hx
  have := List.mem_range.1 hi
  exact decide_eq_true ⟨by show _ ≤ ((i : Nat) : Int); omega, by show ((i : Nat) : Int) < _; omega⟩
theorem nats_set (i d : Nat) : (nats i ++ List.replicate (d + 1) 0).set i (i : Int) = nats (i + 1) ++ List.replicate d 0 := by
  have e : nats (i + 1) = nats i ++ [(i : Int)] := by simp [nats, List.range_succ]
  rw [e, List.set_append_right _ _ (by rw [nats_len]; exact Nat.le_refl _), nats_len, Nat.sub_self, List.replicate_succ, List.set_cons_zero, List.append_assoc]
  rfl
theorem iota_loop (n : Nat) (hn : n ≤ 1099511627776) (d : Nat) : ∀ i : Nat, i + d = n →
    Ev (fun k => mould_Iota.l0 k (nats i ++ List.replicate d 0) (n : Int) (i : Int)) ([(n : Int)], (nats n).map itoS, 0) := by
  induction d with
  | zero =>
    intro i hi
    refine Ev.succ (fun k => by simp only [mould_Iota.l0]; rfl) ?_
    refine Ev.neg (by omega) ?_
    obtain rfl : i = n := by omega
    rw [List.replicate_zero, List.append_nil]
    have := ints_spec (nats i) (by rw [nats_len]; omega) (nats_in i hn)
    rw [nats_len] at this
    exact Ev.bind this (Ev.now _)
  | succ d ih =>
    intro i hi
    refine Ev.succ (fun k => by simp only [mould_Iota.l0]; rfl) ?_
    refine Ev.pos (by omega) (Ev.pos (by omega) (Ev.pos (by rw [List.length_append, nats_len, List.length_replicate]; omega) ?_))
    rw [Int.toNat_natCast, nats_set, w64 (by omega) (by omega)]
    exact ih (i + 1) (by omega)
def iotaV (l : List Int) (e : List ByteArray) : List Int × List ByteArray × Int :=
  if mayV l e = true then (if (intV1 l e).2 = 0 then (if (intV1 l e).1 < 0 then ([], [], 5) else if (intV1 l e).1 > 4096 then ([], [], 8) else ([(intV1 l e).1], (nats (intV1 l e).1.toNat).map itoS, 0)) else ([], [], (intV1 l e).2)) else ([], [], 1)
theorem Iota_spec (l : List Int) (e : List ByteArray) (hs : ∀ s ∈ e, s.size ≤ 281474976710656) : Ev (fun k => mould_Iota.f k l e) (iotaV l e) := by
  unfold mould_Iota.f iotaV
  refine Ev.bind (fine_one l e) (Ev.ite (fun h1 => ?_) (fun h1 => ?_))
  · rw [if_pos h1]
    refine Ev.bindc (val_Int_spec l e hs) ?_
    generalize intV1 l e = p
    obtain ⟨n, er⟩ := p
    refine Ev.ite (fun h2 => ?_) (fun h2 => ?_)
    · rw [if_pos h2]
      refine Ev.ite (fun h3 => ?_) (fun h3 => ?_)
      · rw [if_pos h3]; exact Ev.now _
      · rw [if_neg h3]
        refine Ev.ite (fun h4 => ?_) (fun h4 => ?_)
        · rw [if_pos h4]; exact Ev.now _
        · rw [if_neg h4]
          simp only at h3 h4
          obtain ⟨m, rfl⟩ := Int.eq_ofNat_of_zero_le (show 0 ≤ n by omega)
          refine Ev.pos (by show (0 : Int) ≤ (m : Int); omega) (Ev.pos (by show (m : Int).toNat ≤ _; omega) (Ev.bindc rfl ?_))
          have := iota_loop m (by omega) m 0 (by omega)
          simp only [Int.toNat_natCast, List.length_replicate]
          exact this
    · rw [if_neg h2]; exact Ev.now _
  · rw [if_neg h1]; exact Ev.now _

/-! ### reversed -/
def chunkE (e : List ByteArray) (z i : Nat) : List ByteArray := (e.drop (i * z)).take z
def revE (e : List ByteArray) (z n : Nat) : List ByteArray := (List.range n).reverse.flatMap (chunkE e z)
theorem revE_succ (e : List ByteArray) (z n : Nat) : revE e z (n + 1) = chunkE e z n ++ revE e z n := by
  unfold revE
  rw [List.range_succ, List.reverse_append, List.flatMap_append]
  simp
theorem chunk_le (e : List ByteArray) (z i : Nat) : (chunkE e z i).length ≤ z := by unfold chunkE; rw [List.length_take]; omega
theorem rev_loop (l : List Int) (e : List ByteArray) (t : List Int) (hl : l.length ≤ 1099511627776) (he : e.length ≤ 1099511627776) (hz0 : 0 ≤ isz l e) (m : Nat) (hm1 : m ≤ 1099511627776) (hm : (m : Int) * isz l e ≤ e.length) : ∀ (n : Nat) (acc : List ByteArray), n ≤ m → acc.length + n * (isz l e).toNat ≤ 2199023255552 →
    Ev (fun k => mould_Reverse.l0 k ((n : Int) - 1) l e t acc) (t, acc ++ revE e (isz l e).toNat n, 0) := by
  intro n
  induction n with
  | zero =>
    intro acc _ _
    refine Ev.succ (fun k => by simp only [mould_Reverse.l0]; rfl) ?_
    refine Ev.neg (by omega) ?_
    simp only [revE, List.range_zero, List.reverse_nil, List.flatMap_nil, List.append_nil]
    exact Ev.now _
  | succ n ih =>
    intro acc hn hb
    have e1 : (((n + 1 : Nat) : Int) - 1) = (n : Int) := by omega
    rw [e1]
    refine Ev.succ (fun k => by simp only [mould_Reverse.l0]; rfl) ?_
    refine Ev.pos (by omega) ?_
    have hz1 : ((n + 1 : Nat) : Int) * isz l e ≤ e.length := Int.le_trans (Int.mul_le_mul_of_nonneg_right (by omega) hz0) hm
    have hs := some_spec l e n (n + 1) hl he (by omega) (by omega) hz1
    have e2 : (n + 1) * (isz l e).toNat - n * (isz l e).toNat = (isz l e).toNat := by rw [Nat.succ_mul]; omega
    rw [e2] at hs
    rw [show wrap64 ((n : Int) + 1) = ((n + 1 : Nat) : Int) by rw [w64 (by omega) (by omega)]; omega]
    refine Ev.bindc hs ?_
    have hc := chunk_le e (isz l e).toNat n
    rw [Nat.succ_mul] at hb
    refine Ev.pos (by show acc.length + (chunkE e (isz l e).toNat n).length < _; omega) ?_
    rw [w64 (x := (n : Int) - 1) (by omega) (by omega), revE_succ, ← List.append_assoc]
    exact ih (acc ++ chunkE e (isz l e).toNat n) (by omega) (by rw [List.length_append]; omega)
def revV (l : List Int) (e : List ByteArray) : List Int × List ByteArray × Int :=
  if mayV l e = true then (if l = [] ∨ e = [] then (l, e, 0) else (l, revE e (isz l e).toNat (manyV l).toNat, 0)) else ([], [], 1)
/-- What may be has its size: each axis is none or more, and as many elements as the axes say. -/
theorem mayV_size {l : List Int} {e : List ByteArray} (h : mayV l e = true) : (sizeV l).2 = 0 ∧ (e.length : Int) = (sizeV l).1 ∧ e.any (fun s => !mayB s) = false := by
  unfold mayV at h
  rw [Bool.and_eq_true, Bool.and_eq_true, decide_eq_true_eq, decide_eq_true_eq, Bool.not_eq_true'] at h
  exact ⟨h.1, h.2.1, h.2.2⟩
/-- The axes of what may be. -/
theorem sizeV_axes {l : List Int} (h : (sizeV l).2 = 0) : ∀ n ∈ l, 0 ≤ n ∧ n ≤ 1099511627776 := by
  unfold sizeV at h
  split at h
  · cases h
  · split at h
    · cases h
    · rename_i h1
      split at h
      · cases h
      · rename_i h2
        intro n hn
        have a := List.any_eq_false.1 (Bool.eq_false_iff.2 h1) n hn
        have b := List.any_eq_false.1 (Bool.eq_false_iff.2 h2) n hn
        simp only [decide_eq_true_eq] at a b
        omega
theorem Reverse_spec (l : List Int) (e : List ByteArray) : Ev (fun k => mould_Reverse.f k l e) (revV l e) := by
  unfold mould_Reverse.f revV
  refine Ev.bind (fine_one l e) (Ev.ite (fun h1 => ?_) (fun h1 => ?_))
  · rw [if_pos h1]
    have hlen := mayV_len h1
    have hj : ∀ b : Bool, b = decide (l = [] ∨ e = []) → Ev (fun k => mould_Reverse.j0 k b l e) (if l = [] ∨ e = [] then (l, e, 0) else (l, revE e (isz l e).toNat (manyV l).toNat, 0)) := by
      intro b hb
      refine Ev.succ (fun k => by simp only [mould_Reverse.j0]; rfl) ?_
      refine Ev.ite (fun h => ?_) (fun h => ?_)
      · rw [hb, decide_eq_true_eq] at h
        rw [if_pos h]
        exact Ev.bindc (clone_int l (by omega)) (Ev.bindc (clone_str e (by omega)) (Ev.now _))
      · rw [hb, decide_eq_true_eq] at h
        rw [if_neg h]
        refine Ev.bindc (clone_int l (by omega)) (Ev.bindc (many_spec l e (by omega)) ?_)
        have hax := sizeV_axes (mayV_size h1).1
        have hm0 : 0 ≤ manyV l ∧ manyV l ≤ 1099511627776 := by
          cases l with
          | nil => exact absurd (Or.inl rfl) h
          | cons n l => exact hax n (by simp)
        obtain ⟨m, hm⟩ := Int.eq_ofNat_of_zero_le hm0.1
        have hz0 : 0 ≤ isz l e := by unfold isz; split <;> first | exact Int.ediv_nonneg (by omega) (by omega) | omega
        have hzm : (m : Int) * isz l e ≤ e.length := by
          unfold isz
          split
          · rw [← hm]; exact Int.mul_ediv_self_le (by omega)
          · omega
        have hz1 : (isz l e).toNat ≤ 4096 := by
          have : isz l e ≤ e.length := by
            unfold isz
            split
            · exact Int.ediv_le_self _ (by omega)
            · omega
          omega
        rw [hm] at hm0
        rw [hm, w64 (x := (m : Int) - 1) (by omega) (by omega), Int.toNat_natCast]
        have hb2 : m * (isz l e).toNat ≤ 4096 := by
          have h4 : ((m * (isz l e).toNat : Nat) : Int) ≤ (e.length : Int) := by rw [Int.natCast_mul, Int.toNat_of_nonneg hz0]; exact hzm
          omega
        exact rev_loop l e l (by omega) (by omega) hz0 m (by omega) hzm m [] (Nat.le_refl _) (by rw [List.length_nil]; omega)
    refine Ev.ite (fun h2 => hj true ?_) (fun h2 => hj _ ?_)
    · rw [decide_eq_true (.inl (List.length_eq_zero_iff.1 (by omega)))]
    · have hl : l ≠ [] := fun e => h2 (by rw [e]; rfl)
      cases e with
      | nil => simp
      | cons x e => simp [hl]; omega
  · rw [if_neg h1]; exact Ev.now _
end Go.Proofs.YtfjilihppnndkaaDoor.P
namespace Go.Proofs.YtfjilihppnndkaaDoor.P
open Go.RowKit Go.Proofs.YtfjilihppnndkaaDoorW.PrintWords Go.Proofs.YtfjilihppnndkaaDoorW.PrintLast Go.Proofs.YtfjilihppnndkaaDoorW.PrintMore

theorem in64_abs {x : Int} (h : in64 x = true) : x.natAbs < 10 ^ 100 := by
  have := of_decide_eq_true h
  exact lt_100 (by omega)
theorem may_ito {x : Int} (h : in64 x = true) : mayB (itoS x) = true := by
  show mayL (Ls (mkS (Lib.itoa x))) = true
  rw [Ls_mk]
  exact itoa_may x (in64_abs h)
theorem int_ito {x : Int} (h : in64 x = true) : intB (itoS x) = (x, true) := by
  unfold intB
  rw [if_pos (may_ito h), show Ls (itoS x) = Lib.itoa x from Ls_mk _, valL_itoa, if_pos h]
theorem one_ito {x : Int} (h0 : -1099511627776 ≤ x) (h1 : x ≤ 1099511627776) : oneV (itoS x) = (x, 0) := by
  unfold oneV
  rw [int_ito (decide_eq_true (by omega)), if_pos rfl, if_neg (by show ¬ x < _; omega), if_neg (by show ¬ x > _; omega)]
theorem ito_size {x : Int} (h : in64 x = true) : (itoS x).size ≤ 120 := itoa_size_le 120 100 x (in64_abs h) (by omega) (by omega)
theorem sizeV_one {n : Int} (h0 : 0 ≤ n) (h1 : n ≤ 4096) : sizeV [n] = (n, 0) := by
  unfold sizeV
  rw [if_neg (by simp), if_neg (by simp; omega), if_neg (by simp; omega)]
  by_cases h : n = 0
  · subst h; rfl
  · rw [if_neg (by simp; omega)]
    unfold prodV
    rw [if_neg (by omega), Int.one_mul]
    rfl
theorem may_row {n : Nat} (h : n ≤ 4096) (l : List Int) (hl : l.length = n) (hr : ∀ x ∈ l, in64 x = true) : mayV [(n : Int)] (l.map itoS) = true := by
  unfold mayV
  rw [sizeV_one (by omega) (by omega), List.length_map, hl]
  have : (l.map itoS).any (fun s => !mayB s) = false := by
    rw [List.any_eq_false]
    intro s hs
    obtain ⟨x, hx, rfl⟩ := List.mem_map.1 hs
    rw [may_ito (hr x hx)]
    decide
  rw [this]
  simp
theorem may_scalar {x : Int} (h : in64 x = true) : mayV [] [itoS x] = true := by
  unfold mayV
  rw [show sizeV [] = (1, 0) by decide +kernel]
  simp [may_ito h]
theorem iota_of (m : Nat) (h : m < 5000) : iotaV [] [itoS (m : Int)] = if 4096 < m then ([], [], 8) else ([(m : Int)], (nats m).map itoS, 0) := by
  unfold iotaV
  rw [if_pos (may_scalar (decide_eq_true (by omega)))]
  rw [show intV1 [] [itoS (m : Int)] = oneV (itoS (m : Int)) from rfl, one_ito (by omega) (by omega), if_pos rfl]
  simp only
  rw [if_neg (by omega), Int.toNat_natCast]
  by_cases hm : 4096 < m
  · rw [if_pos (by omega), if_pos hm]
  · rw [if_neg (by omega), if_neg hm]
theorem revE_one : ∀ (n : Nat) (e : List ByteArray), n ≤ e.length → revE e 1 n = (e.take n).reverse
  | 0, e, _ => rfl
  | n + 1, e, h => by
    rw [revE_succ, revE_one n e (by omega), List.take_succ_eq_append_getElem (by omega), List.reverse_append]
    unfold chunkE
    rw [Nat.mul_one, List.drop_eq_getElem_cons (by omega)]
    rfl
theorem rev_of (m : Nat) (h : m ≤ 4096) : revV [(m : Int)] ((nats m).map itoS) = ([(m : Int)], ((nats m).map itoS).reverse, 0) := by
  unfold revV
  rw [if_pos (may_row h (nats m) (nats_len m) (nats_in m (by omega)))]
  by_cases hm : m = 0
  · subst hm; rfl
  · have hl : ((nats m).map itoS).length = m := by rw [List.length_map, nats_len]
    have hne : ¬ ([(m : Int)] = [] ∨ (nats m).map itoS = []) := by
      rintro (h | h)
      · cases h
      · rw [h] at hl; exact hm hl.symm
    rw [if_neg hne]
    have hz : isz [(m : Int)] ((nats m).map itoS) = 1 := by
      unfold isz
      rw [show manyV [(m : Int)] = (m : Int) from rfl, if_pos (by omega), hl, Int.ediv_self (by omega)]
    rw [hz, show manyV [(m : Int)] = (m : Int) from rfl, Int.toNat_natCast, show (1 : Int).toNat = 1 from rfl, revE_one _ _ (by omega), List.take_of_length_le (by omega)]

theorem rdOf_get (xs : List ByteArray) (i : Nat) (h : i < xs.length) : rdOf ByteArray.empty xs (i : Int) = xs[i] := by simp [rdOf, List.getD_eq_getElem?_getD, h]
theorem iota_law_loop (m : Nat) (h : m ≤ 4096) (d : Nat) : ∀ i : Nat, i + d = m →
    Ev (fun k => reredoslaw14_MouldIota.l0 k true (m : Int) (i : Int) [(m : Int)] ((nats m).map itoS) [(m : Int)] ((nats m).map itoS).reverse) true := by
  have hl : ((nats m).map itoS).length = m := by rw [List.length_map, nats_len]
  induction d with
  | zero =>
    intro i hi
    refine Ev.succ (fun k => by simp only [reredoslaw14_MouldIota.l0]; rfl) ?_
    refine Ev.neg (by omega) (Ev.pos trivial (Ev.pos rfl (Ev.pos (by simp) ?_)))
    rw [show (rd [(m : Int)] 0 == (m : Int)) = true by simp [rd]]
    exact Ev.now _
  | succ d ih =>
    intro i hi
    have h1 : rdOf ByteArray.empty ((nats m).map itoS) (i : Int) = itoS (i : Int) := by
      rw [rdOf_get _ _ (by omega)]
      simp [nats]
    have h2 : rdOf ByteArray.empty ((nats m).map itoS).reverse (i : Int) = itoS ((m : Int) - 1 - (i : Int)) := by
      rw [rdOf_get _ _ (by rw [List.length_reverse]; omega), List.getElem_reverse]
      have : ((m - 1 - i : Nat) : Int) = (m : Int) - 1 - (i : Int) := by omega
      rw [← this]
      simp [nats]
    refine Ev.succ (fun k => by simp only [reredoslaw14_MouldIota.l0]; rfl) ?_
    refine Ev.pos (by omega) (Ev.pos (by omega) (Ev.pos (by omega) (Ev.bindc (num_Of_spec (i : Int) (decide_eq_true (by omega))) (Ev.pos ?_ (Ev.pos (by rw [List.length_reverse]; omega) ?_)))))
    · rw [h1]; rfl
    · rw [w64 (x := (m : Int) - 1) (by omega) (by omega), w64 (x := (m : Int) - 1 - (i : Int)) (by omega) (by omega), w64 (x := (i : Int) + 1) (by omega) (by omega)]
      refine Ev.bindc (num_Of_spec ((m : Int) - 1 - (i : Int)) (decide_eq_true (by omega))) (Ev.pos ?_ (ih (i + 1) (by omega)))
      rw [h2]; rfl

/-- MouldIota, plainly. -/
theorem iota_law (a : Int) (h0 : 0 ≤ a) (h1 : a ≤ 65535) : Ev (fun k => reredoslaw14_MouldIota.f k a) true := by
  unfold reredoslaw14_MouldIota.f
  rw [w64 (x := a) (by omega) (by omega)]
  obtain ⟨m, hm⟩ := Int.eq_ofNat_of_zero_le (Int.tmod_nonneg 5000 h0)
  have hlt : m < 5000 := by
    have : Int.tmod a 5000 < 5000 := Int.tmod_lt_of_pos a (by omega)
    rw [hm] at this
    exact Int.ofNat_lt.1 this
  rw [hm]
  refine Ev.bindc rfl (Ev.bindc (num_Of_spec (m : Int) (decide_eq_true (by omega))) (Ev.bindc rfl ?_))
  have hI := Iota_spec [] [itoS (m : Int)] (fun s hs => by rw [List.mem_singleton.1 hs]; have := ito_size (x := (m : Int)) (decide_eq_true (by omega)); omega)
  rw [iota_of m hlt] at hI
  by_cases hb : 4096 < m
  · rw [if_pos hb] at hI
    refine Ev.bind hI (Ev.pos (by omega) (Ev.pos rfl (Ev.bind (val_Same_spec [] [] [] [] (by simp) (by simp)) ?_)))
    exact Ev.now _
  · rw [if_neg hb] at hI
    have hR := Reverse_spec [(m : Int)] ((nats m).map itoS)
    rw [rev_of m (by omega)] at hR
    have hl : (((nats m).map itoS).length : Int) = (m : Int) := by rw [List.length_map, nats_len]
    refine Ev.bind hI (Ev.neg (by omega) (Ev.bind hR (Ev.pos rfl (Ev.pos rfl (Ev.pos hl ?_)))))
    rw [List.length_reverse, hl, bne_self_eq_false]
    refine Ev.succ (fun k => by simp only [reredoslaw14_MouldIota.j0]; rfl) ?_
    refine Ev.neg (by decide) (iota_law_loop m (by omega) m 0 (by omega))
end Go.Proofs.YtfjilihppnndkaaDoor.P
namespace Go.Proofs.YtfjilihppnndkaaDoor
open Go Go.ChangeShapes Go.WideShapes Go.ChangeAt Go.WideMaps Go.WideElems Go.RowKit
open Go.Proofs.YtfjilihppnndkaaDoorW.PrintWords
namespace MouldIota

set_option maxRecDepth 100000 in
theorem lifted (os : Os) (started : os.Started) (H : Type) (enc : TypeId × Value → H) :
    ReturnsInHanded {} Tryd.checked os 5 .any (fun w args => (Rows.mouldIotaSpec.pre enc Tryd.prog Tryd.f5 [] false w args ∧ laidMetH Tryd.prog laidList w) ∧ sizedMet enc Tryd.prog Tryd.f5 (OpenSpec.ofChange Rows.mouldIotaSpec) false w args)
      (Rows.mouldIotaSpec.post enc Tryd.prog Tryd.f5 false true false false) := by
  refine returnsInHanded_of_change_and (C := Tryd.checked) (X := fun w _ => laidMetH Tryd.prog laidList w) (fun _ _ _ hh h => h.of_heap hh) ownKnob_none started (by kernel_rfl) Tryd.func5
    (ChangeSpec.witness_shaped (enc := enc) (C := Tryd.checked) (os := os) (X := fun w _ => laidMetH Tryd.prog laidList w) false (World.doorLaid Tryd.prog 62 os) #[.int .u16 0] 8 rfl (World.shaped_of_RefB (by kernel_rfl) (by kernel_rfl)) (by kernel_rfl) (by kernel_rfl) (by kernel_rfl) (door_met os _)) ?_
  intro W base args ds gs before hval0 hW _ _ hL _
  have hval : ∀ (j : Nat) t v, Tryd.f5.params[j]? = some t → args[j]? = some v → Value.okWide Tryd.prog W .any base t v := hval0
  have hW' := hW
  obtain ⟨p, q, hA0, hV, rfl, hfz, hnd⟩ := hW
  have hA : DataW.TrodAll enc Tryd.prog W 0 (fun _ => true) true Tryd.f5.params.toList args.toList ds p := hA0
  rw [Tryd.params5] at hA hval
  obtain ⟨v0, vs0, d0, ds0, p0, q0, hargs, rfl, rfl, h0, r0⟩ := trodAll_cons hA
  obtain ⟨rfl, rfl, rfl⟩ := trodAll_nil r0
  obtain rfl : args = #[v0] := by cases args; simp_all
  obtain ⟨rfl, rfl⟩ := trodVars_none hV
  have k0 := h0
  have lt0 : ∀ x ∈ p0, x.block < W.heap.size := by obtain ⟨m, hm⟩ := k0; exact DataW.trod_lt m _ _ _ hm
  obtain ⟨a0, rfl, rfl, rfl, w0⟩ := open_int Tryd.underlying45 (hval 0 45 v0 rfl rfl) h0
  have g0 : 0 ≤ a0 ∧ a0 ≤ 65535 := by simpa [Lit.wf, IntKind.min, IntKind.max, IntKind.bits, IntKind.signed] using w0
  clear hA0 hval0
  obtain ⟨k, hk⟩ := (P.iota_law a0 g0.1 g0.2).rounds
  refine (P.reredoslaw14_MouldIota.calls k a0 true W  hk (glob_of_laid hL)).mono fun e W' ⟨he, bel⟩ => ?_
  subst he
  exact ⟨_, rfl, _, _, _, [], _, [], hW', trodAll_mk1 (shut_bool Tryd.underlying4 _), (trodAll_cons_mk (Below.trod laidOut (by kernel_rfl) (of_decide_eq_true (by kernel_rfl)) k0 bel lt0) trodAll_mk0), rfl, bel.frame _, fun h => by cases h⟩

theorem holds : Rows.MouldIotaSaid :=
  OpenClaim.holds_of_wide 5 Tryd.f5 rfl rfl rfl rfl rfl rfl rfl ⟨rfl, rfl, rfl, rfl, rfl⟩ rfl rfl rfl rfl rfl (by kernel_rfl) Tryd.func5 (by kernel_rfl)
    (of_decide_eq_true (by kernel_rfl)) (by unfold Func.isWrapper; first | (rw [if_pos (by decide +kernel)]; kernel_rfl) | (rw [if_neg (by decide +kernel)]; exact ⟨rfl, rfl⟩))
    (fun os started H enc _ => lifted os started H enc)

end MouldIota
end Go.Proofs.YtfjilihppnndkaaDoor
namespace Go.Proofs.YtfjilihppnndkaaDoor
open Go
theorem mouldIota_card : Rows.MouldIotaCardSaid :=
  Claim7.holds_tied_plain_at .later [] [.data, .data, .data, .sentinel, .sentinel] true (true, "35228e4847787544fae560c6fdf24a2cc747610a8f38ece4d28b79b85127ee5e") true
    MouldIota.holds (fun _ h => by cases h) (by kernel_rfl) (fun _ h => by cases h) mouldIota_row_tie rfl ⟨rfl, rfl⟩ (by kernel_rfl) rfl
    (fun f fn hf hfn => by
      obtain rfl : f = 5 := Option.some.inj ((show Tryd.prog.funcNamed "reredos/reredoslaw14.MouldIota" = some 5 by kernel_rfl).symm.trans hf) |>.symm
      obtain rfl : fn = Tryd.f5 := (Option.some.inj (Tryd.func5.symm.trans hfn)).symm
      exact ⟨by kernel_rfl, fun j t ht => by
        rw [Tryd.params5] at ht
        have hm : t ∈ [45] := by simpa using Array.mem_of_getElem? ht
        have hall : ([45].all fun u => !Tryd.prog.wantsStandIn u) = true := by kernel_rfl
        exact (show Tryd.prog.wantsStandIn t = false by simpa using List.all_eq_true.1 hall t hm)⟩)
    (by kernel_rfl)
#print axioms mouldIota_card
end Go.Proofs.YtfjilihppnndkaaDoor
