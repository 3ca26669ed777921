/- Out of the laid variables: what the program's calls of strconv ask of the world; rows of whole numbers and of texts, opened. -/
/- Plain lemmas on figures: what a row of figures tells, and that a number's figures are one row alone. -/
/- What the number functions of the program and of the document tell, on texts. -/
/- The document's number functions on texts: May, sizes, figures, sums and differences of sizes. -/
/- The document's number functions on texts: figures, sums and differences of sizes. -/
/- The document's number functions on texts: sums and differences, comparison, numbers of 64 bits, widths. -/
/- The document's number functions on texts: comparison, numbers of 64 bits, widths; the program's. -/
/- Numbers of 64 bits and widths: the document's functions and the program's. -/
/- Shapes and arrays: sizes, what may be, widths, bytes: the document's functions and the program's. -/
/- Packed arrays: the document's functions and the program's. -/
/- Typed arrays, plainly: the bytes of a number and back. -/
/- Typed arrays, plainly: whether they may be, how many elements there are. -/
/- Typed arrays, plainly: an element, all elements. -/
/- Typed arrays, plainly: bytes and numbers, there and back. -/
/- Typed arrays, plainly: an array laid and read again. -/
/- The law of arrays in another width and back, plainly. -/
/- val and mould, plainly: what may be, numbers, rows that are the same, items. -/
/- Iota, Reverse, plainly. -/
/- Numbers as texts; the law of the numbers below one, plainly. -/
/- Typed arrays: the document's functions, plainly. -/
/- The law of what a typed array tells, plainly. -/
/- The row of the law TypedTells: whatever the arguments, the law answers true. -/
/- The law TypedTells: whatever the arguments, the law answers true, and the arguments read as they did: the tied card. Its condition: the listed variables of the library, tied to the program's text. -/
import Derived.Test.YtlemmdfjcnhjkaaGreatDoorRows
import Derived.Test.YtlemmdfjcnhjkaaGreatDoorTT1
import Derived.ProofKit
import Derived.LaidMore
import Derived.LaidLaws
import Derived.OpenShut
import Derived.Stop.Joined
import Derived.Lib.LaidTab
import Derived.Lib.LaidU8
import Derived.Lib.SmallJoins
import Derived.Lib.ItoaMem
import Derived.Lib.ParseIntBCases
import Derived.Test.YtlemmdfjcnhjkaaGreatDoorTT2
import Derived.Test.YtlemmdfjcnhjkaaGreatDoorTT4
import Derived.Test.YtlemmdfjcnhjkaaGreatDoorTT3
import Derived.Test.YtlemmdfjcnhjkaaGreatDoorTT5
import Derived.Laws.BitsLemmas
import Derived.Test.YtlemmdfjcnhjkaaGreatDoorTT6
import Derived.Test.YtlemmdfjcnhjkaaGreatDoorTie
import Derived.Test.YtlemmdfjcnhjkaaGreatDoorCards
import Derived.SevenTiedAt
namespace Go.Proofs.YtlemmdfjcnhjkaaGreatDoor
open Go Go.ChangeShapes Go.WideShapes Go.ChangeAt Go.WideMaps Go.WideElems Go.RowKit
open Go.Proofs.YtlemmdfjcnhjkaaGreatDoorW.PrintWords

theorem ownKnob_none : ownKnob Tryz.prog.godebug = none := by kernel_rfl
theorem laidOut : laidOutB Tryz.prog = true := by kernel_rfl
theorem gPow : Tryz.prog.globalNamed "internal/strconv.uint64pow10" = some 0 := by kernel_rfl
theorem gRange : Tryz.prog.globalNamed "strconv.ErrRange" = some 2 := by kernel_rfl
theorem tPow : (Tryz.prog.globals[0]?).map (·.type) = some 222 := by kernel_rfl
theorem tRange : (Tryz.prog.globals[2]?).map (·.type) = some 169 := by kernel_rfl

def laidList : List (String × DataW Unit) := [("math/bits.deBruijn32tab", Rows.laid_math_bits_deBruijn32tab), ("math/bits.deBruijn64tab", Rows.laid_math_bits_deBruijn64tab), ("internal/strconv.uint64pow10", Rows.laid_internal_strconv_uint64pow10), ("strconv.ErrRange", Rows.laid_strconv_ErrRange), ("strconv.ErrSyntax", Rows.laid_strconv_ErrSyntax)]

/-- The door's own heap meets the condition: three closed facts. -/
theorem door_met (os : Os) (args : Array Value) : laidMetH Tryz.prog laidList ((World.doorLaid Tryz.prog 62 os).forCall (fun _ _ => 0) ⟨#[], args, []⟩).memory :=
  laidMetH_of_parts3 (fuel := 8) (laidMet_of_run' 8 (by kernel_rfl) (by kernel_rfl)) (by kernel_rfl) (by kernel_rfl)

/-- What the condition gives the walks. -/
theorem glob_of_laid {W : World} (h : laidMetH Tryz.prog laidList W) : P.Glob W := by
  rw [MakeChecks.laidMetH_plain _ _ _ (by kernel_rfl)] at h
  constructor
  · obtain ⟨g, t, cs, fuel, p, hg, ht, hv, hd⟩ := Lib.laidMet.reads (show laidMet Tryz.prog laidList W from h) (n := "internal/strconv.uint64pow10") (d := Rows.laid_internal_strconv_uint64pow10) (by simp [laidList])
    obtain rfl := Option.some.inj (gPow.symm.trans hg)
    obtain rfl := Option.some.inj (tPow.symm.trans ht)
    have e : (Rows.laid_internal_strconv_uint64pow10 : DataW Unit) = Lib.tabData .u64 Lib.pow10Tab := rfl
    rw [e] at hd
    have := Lib.cells_of_tab Tryz.underlying222 Tryz.underlying167 (by kernel_rfl) (by kernel_rfl) hd
    unfold Lib.TabIs
    rw [hv, ← this]
  · obtain ⟨g, t, cs, fuel, p, hg, ht, hv, hd⟩ := Lib.laidMet.reads (show laidMet Tryz.prog laidList W from h) (n := "strconv.ErrRange") (d := Rows.laid_strconv_ErrRange) (by simp [laidList])
    obtain rfl := Option.some.inj (gRange.symm.trans hg)
    obtain rfl := Option.some.inj (tRange.symm.trans ht)
    obtain ⟨_, u, v, hcs, _, _⟩ := iface_of_trod Tryz.underlying169 hd
    refine ⟨u, v, ?_⟩
    rw [hv, Array.eq_one_of_toList hcs]

section
variable {H : Type} {enc : TypeId × Value → H} {P : Program} {w : World} {base : Nat} {spare : Nat → Bool} {held : Bool}
/-- A row of whole numbers that came in. -/
theorem ints_row {t e : TypeId} {fuel : Nat} {v : Value} {x : DataW H × List MemPlace} (ht : P.underlying t = some (.slice e)) (he : P.underlying e = some (.int .i64)) (hc : P.cellsOf e = 1)
    (h : DataW.trod enc P w base spare held fuel t [v] = some x) : ∃ (A : Option Addr) (cap : Nat) (l : List Int), v = .slice A l.length cap ∧ l.length ≤ cap ∧ Kd.C (Kd.int .i64) w A l.length l := by
  rcases open_ints ht he hc h with ⟨hcs, _⟩ | ⟨a, len, cap, zs, hcs, _, hl, hm, hz, _, hcell, _⟩
  · refine ⟨none, 0, [], by simpa using hcs, by simp, ?_⟩
    exact Kd.C_of_reads (d := (0 : Int)) ⟨rfl, by simp, fun h => by simp at h⟩
  · have hzl : len ≤ zs.length := by rw [hz]; split <;> omega
    have hlen : (zs.take len).length = len := by rw [List.length_take]; omega
    refine ⟨some a, cap, zs.take len, by rw [hlen]; simpa using hcs, by omega, ?_⟩
    refine Kd.C_of_reads (d := (0 : Int)) ⟨rfl, by unfold maxLen at hm; omega, fun _ => ⟨a, rfl, fun j hj => ?_⟩⟩
    rw [hcell j (by omega)]
    simp [List.getD_eq_getElem?_getD, show j < len by omega]
/-- A number's cell. -/
theorem int_cell {t : TypeId} {k : IntKind} {fuel : Nat} {v : Value} {x : DataW H × List MemPlace} (ht : P.underlying t = some (.int k)) (h : DataW.trod enc P w base spare held fuel t [v] = some x) : ∃ n, v = .int k n := by
  obtain ⟨n, e, _⟩ := DataW.trod_int ht h
  exact ⟨n, by simpa using e⟩
/-- A text's cell. -/
theorem string_cell {t : TypeId} {fuel : Nat} {v : Value} {x : DataW H × List MemPlace} (ht : P.underlying t = some .string) (h : DataW.trod enc P w base spare held fuel t [v] = some x) : ∃ s, v = .string s := by
  obtain ⟨n, e, _⟩ := DataW.trod_string ht h
  exact ⟨n, by simpa using e⟩
end
end Go.Proofs.YtlemmdfjcnhjkaaGreatDoor
namespace Go.Proofs.YtlemmdfjcnhjkaaGreatDoor.P
open Go.RowKit Go.Proofs.YtlemmdfjcnhjkaaGreatDoorW.PrintWords Go.Proofs.YtlemmdfjcnhjkaaGreatDoorW.PrintLast

def dval (l : List UInt8) : Nat := l.foldl (fun n c => n * 10 + (c.toNat - 48)) 0
def isDig (c : UInt8) : Prop := 48 ≤ c.toNat ∧ c.toNat ≤ 57
def Digs (l : List UInt8) : Prop := ∀ c ∈ l, isDig c

theorem dval_snoc (l : List UInt8) (c : UInt8) : dval (l ++ [c]) = dval l * 10 + (c.toNat - 48) := by
  unfold dval
  rw [List.foldl_append]
  rfl

theorem Digs.snoc {l : List UInt8} {c : UInt8} : Digs (l ++ [c]) ↔ Digs l ∧ isDig c := by
  unfold Digs
  constructor
  · intro h
    exact ⟨fun x hx => h x (by simp [hx]), h c (by simp)⟩
  · rintro ⟨h1, h2⟩ x hx
    rcases List.mem_append.1 hx with hx | hx
    · exact h1 x hx
    · rw [List.mem_singleton.1 hx]
      exact h2

theorem rev_ind {P : List UInt8 → Prop} (h0 : P []) (hs : ∀ l c, P l → P (l ++ [c])) (l : List UInt8) : P l := by
  have : ∀ n (l : List UInt8), l.length = n → P l := by
    intro n
    induction n with
    | zero => intro l hl; rw [List.length_eq_zero_iff.1 hl]; exact h0
    | succ n ih =>
      intro l hl
      have hne : l ≠ [] := by intro e; rw [e] at hl; simp at hl
      rw [← List.dropLast_concat_getLast hne]
      exact hs _ _ (ih _ (by simp [hl]))
  exact this _ l rfl

theorem dval_lt (l : List UInt8) (h : Digs l) : dval l < 10 ^ l.length := by
  induction l using rev_ind with
  | h0 => simp [dval]
  | hs l c ih =>
    have h2 := Digs.snoc.1 h
    have := ih h2.1
    have hc := h2.2
    unfold isDig at hc
    rw [dval_snoc, List.length_append, List.length_singleton, Nat.pow_succ]
    omega

theorem dval_cons (c : UInt8) (l : List UInt8) : dval (c :: l) = (c.toNat - 48) * 10 ^ l.length + dval l := by
  induction l using rev_ind with
  | h0 => simp [dval]
  | hs l d ih =>
    rw [show c :: (l ++ [d]) = (c :: l) ++ [d] from rfl, dval_snoc, ih, dval_snoc, List.length_append, List.length_singleton, Nat.pow_succ, Nat.add_mul, Nat.mul_assoc]
    omega

/-- The figure that stands i places from the end. -/
theorem digit_at (l : List UInt8) (h : Digs l) : ∀ (i : Nat) (hi : i < l.length), (l[l.length - 1 - i]'(by omega)).toNat - 48 = dval l / 10 ^ i % 10 := by
  induction l using rev_ind with
  | h0 => intro i hi; simp at hi
  | hs l c ih =>
    intro i hi
    have h2 := Digs.snoc.1 h
    have hc := h2.2
    unfold isDig at hc
    cases i with
    | zero =>
      have e : (l ++ [c])[(l ++ [c]).length - 1 - 0]'(by omega) = c := by simp
      rw [e, dval_snoc]
      omega
    | succ i =>
      have hi' : i < l.length := by simp at hi; omega
      have e : (l ++ [c])[(l ++ [c]).length - 1 - (i + 1)]'(by simp at hi ⊢; omega) = l[l.length - 1 - i]'(by omega) := by
        have e1 : (l ++ [c]).length - 1 - (i + 1) = l.length - 1 - i := by simp; omega
        have e2 : l.length - 1 - i < l.length := by omega
        simp only [e1]
        rw [List.getElem_append_left e2]
      rw [e, ih h2.1 i hi', dval_snoc, Nat.pow_succ, Nat.mul_comm (10 ^ i) 10, ← Nat.div_div_eq_div_mul]
      have e3 : (dval l * 10 + (c.toNat - 48)) / 10 = dval l := by omega
      rw [e3]

theorem digit_beyond (l : List UInt8) (h : Digs l) (i : Nat) (hi : l.length ≤ i) : dval l / 10 ^ i % 10 = 0 := by
  have h1 := dval_lt l h
  have h2 : 10 ^ l.length ≤ 10 ^ i := Nat.pow_le_pow_right (by omega) hi
  rw [Nat.div_eq_of_lt (by omega)]

/-- Figures without a needless zero ahead. -/
def Canon (l : List UInt8) : Prop := Digs l ∧ l ≠ [] ∧ (l.head? = some 48 → l = [48])

theorem decDigits_small {i : Nat} (h : i < 10) : Lib.decDigits i = [UInt8.ofNat (48 + i)] := Lib.decDigits_one h
theorem decDigits_step {i : Nat} (h : 10 ≤ i) : Lib.decDigits i = Lib.decDigits (i / 10) ++ [UInt8.ofNat (48 + i % 10)] := by
  rw [Lib.decDigits, dif_neg (by omega)]
theorem ofNat_fig {d : Nat} (h : d < 10) : (UInt8.ofNat (48 + d)).toNat = 48 + d := by
  rw [UInt8.toNat_ofNat']
  omega
theorem fig_ofNat {c : UInt8} (h : isDig c) : UInt8.ofNat (48 + (c.toNat - 48)) = c := by
  unfold isDig at h
  rw [show 48 + (c.toNat - 48) = c.toNat by omega]
  exact UInt8.ofNat_toNat

theorem dval_ne_zero {l : List UInt8} (h : Canon l) (hne : l ≠ [48]) : 1 ≤ dval l := by
  obtain ⟨hd, hn, hz⟩ := h
  cases l with
  | nil => exact absurd rfl hn
  | cons c l =>
    have hc : isDig c := hd c (by simp)
    have hc0 : c ≠ 48 := by
      intro e
      subst e
      exact hne (hz rfl)
    unfold isDig at hc
    have : c.toNat ≠ 48 := fun e => hc0 (by apply UInt8.toNat.inj; rw [e]; rfl)
    rw [dval_cons]
    have hp : 1 ≤ 10 ^ l.length := Nat.one_le_pow _ _ (by omega)
    have hm : 1 * 1 ≤ (c.toNat - 48) * 10 ^ l.length := Nat.mul_le_mul (by omega) hp
    omega

theorem canon_eq (l : List UInt8) (h : Canon l) : l = Lib.decDigits (dval l) := by
  induction l using rev_ind with
  | h0 => exact absurd rfl h.2.1
  | hs l c ih =>
    obtain ⟨hd, hn, hz⟩ := h
    have h2 := Digs.snoc.1 hd
    have hc := h2.2
    unfold isDig at hc
    by_cases hl : l = []
    · subst hl
      have e : dval ([] ++ [c]) = c.toNat - 48 := by rw [dval_snoc]; simp [dval]
      rw [e, decDigits_small (by omega), fig_ofNat h2.2]
      rfl
    · have hcl : Canon l := by
        refine ⟨h2.1, hl, fun hh => ?_⟩
        exfalso
        have hh2 : (l ++ [c]).head? = some 48 := by
          cases l with
          | nil => exact absurd rfl hl
          | cons a l => simpa using hh
        have := hz hh2
        have hlen := congrArg List.length this
        simp at hlen
        exact hl hlen
      have hl48 : l ≠ [48] := by
        intro e
        subst e
        have := hz rfl
        simp at this
      have h1 := dval_ne_zero hcl hl48
      have e : dval (l ++ [c]) = dval l * 10 + (c.toNat - 48) := dval_snoc l c
      rw [e, decDigits_step (by omega), show (dval l * 10 + (c.toNat - 48)) / 10 = dval l by omega, show (dval l * 10 + (c.toNat - 48)) % 10 = c.toNat - 48 by omega, fig_ofNat h2.2, ← ih hcl]

theorem digs_dec (n : Nat) : Digs (Lib.decDigits n) ∧ dval (Lib.decDigits n) = n ∧ Lib.decDigits n ≠ [] := by
  induction n using Nat.strongRecOn with
  | _ n ih =>
    by_cases h : n < 10
    · rw [decDigits_small h]
      refine ⟨?_, ?_, by simp⟩
      · intro c hc
        rw [List.mem_singleton.1 hc]
        unfold isDig
        rw [ofNat_fig h]
        omega
      · have : dval ([] ++ [UInt8.ofNat (48 + n)]) = n := by
          rw [dval_snoc, ofNat_fig h]
          simp [dval]
        simpa using this
    · obtain ⟨h1, h2, h3⟩ := ih (n / 10) (by omega)
      rw [decDigits_step (by omega)]
      refine ⟨Digs.snoc.2 ⟨h1, ?_⟩, ?_, by simp⟩
      · unfold isDig
        rw [ofNat_fig (by omega)]
        omega
      · rw [dval_snoc, h2, ofNat_fig (by omega)]
        omega

theorem canon_dec (n : Nat) : Canon (Lib.decDigits n) := by
  refine ⟨(digs_dec n).1, (digs_dec n).2.2, ?_⟩
  induction n using Nat.strongRecOn with
  | _ n ih =>
    intro hh
    by_cases h : n < 10
    · rw [decDigits_small h] at hh ⊢
      simp only [List.head?_cons, Option.some.injEq] at hh
      rw [hh]
    · exfalso
      rw [decDigits_step (by omega)] at hh
      have hne := (digs_dec (n / 10)).2.2
      have hh2 : (Lib.decDigits (n / 10)).head? = some 48 := by
        cases hq : Lib.decDigits (n / 10) with
        | nil => exact absurd hq hne
        | cons a l => rw [hq] at hh; simpa using hh
      have e := ih (n / 10) (by omega) hh2
      have hv := (digs_dec (n / 10)).2.1
      rw [e] at hv
      have : dval [48] = 0 := rfl
      omega

theorem dec_len (n k : Nat) (h : n < 10 ^ k) (hk : 1 ≤ k) : (Lib.decDigits n).length ≤ k := by
  induction k generalizing n with
  | zero => omega
  | succ k ih =>
    by_cases hn : n < 10
    · rw [decDigits_small hn]; simp
    · rw [decDigits_step (by omega), List.length_append, List.length_singleton]
      have hk1 : 1 ≤ k := by
        cases k with
        | zero => simp at h; omega
        | succ k => omega
      have : n / 10 < 10 ^ k := by rw [Nat.pow_succ] at h; omega
      have := ih (n / 10) this hk1
      omega

theorem dec_len_ge (n k : Nat) (h : 10 ^ k ≤ n) : k + 1 ≤ (Lib.decDigits n).length := by
  have h1 := dval_lt _ (digs_dec n).1
  rw [(digs_dec n).2.1] at h1
  have h2 : 10 ^ k < 10 ^ (Lib.decDigits n).length := by omega
  have := (Nat.pow_lt_pow_iff_right (by omega : 1 < 10)).1 h2
  omega
theorem dec_zero : Lib.decDigits 0 = [48] := by rw [decDigits_small (by omega)]; rfl
theorem dec_inj {m n : Nat} (h : Lib.decDigits m = Lib.decDigits n) : m = n := by
  have := congrArg dval h
  rwa [(digs_dec m).2.1, (digs_dec n).2.1] at this
end Go.Proofs.YtlemmdfjcnhjkaaGreatDoor.P
namespace Go.Proofs.YtlemmdfjcnhjkaaGreatDoor.P
open Go.RowKit Go.Proofs.YtlemmdfjcnhjkaaGreatDoorW.PrintWords Go.Proofs.YtlemmdfjcnhjkaaGreatDoorW.PrintLast

theorem w64 {x : Int} (h0 : -9223372036854775808 ≤ x) (h1 : x ≤ 9223372036854775807) : wrap64 x = x := IntWalk.wrap64_in x ⟨h0, h1⟩

def Ls (s : ByteArray) : List UInt8 := s.data.toList
theorem u8_eq {c : UInt8} {n : Nat} (hn : n < 256) (h : c.toNat = n) : c = UInt8.ofNat n := by
  apply UInt8.toNat.inj
  rw [h, UInt8.toNat_ofNat']
  omega
theorem Ls_len (s : ByteArray) : (Ls s).length = s.size := data_length s
theorem Ls_eq (s : ByteArray) : s.toList = Ls s := Lib.toList_data s
theorem Ls_inj {s t : ByteArray} (h : Ls s = Ls t) : s = t := by
  obtain ⟨a⟩ := s
  obtain ⟨b⟩ := t
  have : a = b := Array.toList_inj.1 h
  rw [this]
theorem bt_get (s : ByteArray) (i : Nat) (h : i < s.size) : bt s (i : Int) = (((Ls s)[i]'(by rw [Ls_len]; exact h)).toNat : Int) := by
  unfold bt
  rw [dif_pos (by simpa using h)]
  rfl
theorem bt_head (s : ByteArray) (h : 0 < s.size) : bt s 0 = (((Ls s)[0]'(by rw [Ls_len]; exact h)).toNat : Int) := bt_get s 0 h

/-- Is a text a number: figures without a needless zero ahead, 100 at most, behind a hyphen or not. -/
def mayL (l : List UInt8) : Bool :=
  let f := if l.head? = some 45 then l.tail else l
  decide (1 ≤ f.length) && decide (f.length ≤ 100) && (decide (f.head? ≠ some 48) || decide (l = [48])) && !(f.any noFig)
abbrev mayB (s : ByteArray) : Bool := mayL (Ls s)

theorem mayL_hyphen (l : List UInt8) (h : l.head? = some 45) : mayL l = (decide (1 ≤ l.tail.length) && decide (l.tail.length ≤ 100) && (decide (l.tail.head? ≠ some 48) || decide (l = [48])) && !(l.tail.any noFig)) := by
  simp only [mayL, if_pos h]
theorem mayL_plain (l : List UInt8) (h : ¬ l.head? = some 45) : mayL l = (decide (1 ≤ l.length) && decide (l.length ≤ 100) && (decide (l.head? ≠ some 48) || decide (l = [48])) && !(l.any noFig)) := by
  simp only [mayL, if_neg h]
theorem noFig_false (c : UInt8) : noFig c = false ↔ isDig c := by
  unfold noFig isDig
  rw [Bool.or_eq_false_iff, decide_eq_false_iff_not, decide_eq_false_iff_not]
  omega
theorem any_noFig (l : List UInt8) : l.any noFig = false ↔ Digs l := by
  rw [List.any_eq_false]
  unfold Digs
  constructor
  · intro h c hc
    have := h c hc
    rw [Bool.not_eq_true] at this
    exact (noFig_false c).1 this
  · intro h c hc
    rw [Bool.not_eq_true]
    exact (noFig_false c).2 (h c hc)

/-- What such a text tells. -/
theorem may_tells (l : List UInt8) (h : mayL l = true) : ∃ z : Int, l = Lib.itoa z ∧ z.natAbs < 10 ^ 100 := by
  unfold mayL at h
  simp only [Bool.and_eq_true, Bool.or_eq_true, Bool.not_eq_true', decide_eq_true_eq] at h
  obtain ⟨⟨⟨h1, h2⟩, h3⟩, h4⟩ := h
  by_cases hh : l.head? = some 45
  · rw [if_pos hh] at h1 h2 h3 h4
    have hd := (any_noFig _).1 h4
    have hl : l ≠ [48] := by intro e; rw [e] at hh; simp at hh
    have h5 : l.tail.head? ≠ some 48 := by rcases h3 with h3 | h3; exact h3; exact absurd h3 hl
    have hc : Canon l.tail := ⟨hd, by intro e; rw [e] at h1; simp at h1, fun e => absurd e h5⟩
    have hv := dval_lt _ hd
    have hp : 10 ^ l.tail.length ≤ 10 ^ 100 := Nat.pow_le_pow_right (by omega) h2
    have hpos : 1 ≤ dval l.tail := dval_ne_zero hc (by intro e; rw [e] at h5; simp at h5)
    refine ⟨-(dval l.tail : Int), ?_, by omega⟩
    rw [Lib.itoa_neg _ hpos, ← canon_eq _ hc]
    cases l with
    | nil => simp at hh
    | cons a l =>
      simp only [List.head?_cons, Option.some.injEq] at hh
      rw [hh]
      rfl
  · rw [if_neg hh] at h1 h2 h3 h4
    have hd := (any_noFig _).1 h4
    have hc : Canon l := ⟨hd, by intro e; rw [e] at h1; simp at h1, fun e => by rcases h3 with h3 | h3; exact absurd e h3; exact h3⟩
    have hv := dval_lt _ hd
    have hp : 10 ^ l.length ≤ 10 ^ 100 := Nat.pow_le_pow_right (by omega) h2
    exact ⟨(dval l : Int), by rw [Lib.itoa_nonneg, ← canon_eq _ hc], by omega⟩

theorem itoa_head (z : Int) : (Lib.itoa z).head? = some 45 ↔ z < 0 := by
  unfold Lib.itoa
  by_cases h : z < 0
  · rw [if_pos h]; simp [h]
  · rw [if_neg h]
    constructor
    · intro hh
      exfalso
      have hd := (digs_dec z.toNat).1
      cases hq : Lib.decDigits z.toNat with
      | nil => rw [hq] at hh; simp at hh
      | cons a l =>
        rw [hq] at hh hd
        simp only [List.head?_cons, Option.some.injEq] at hh
        have := hd a (by simp)
        unfold isDig at this
        rw [hh] at this
        simp at this
    · intro h'; exact absurd h' h

theorem itoa_may (z : Int) (h : z.natAbs < 10 ^ 100) : mayL (Lib.itoa z) = true := by
  unfold mayL
  simp only [Bool.and_eq_true, Bool.or_eq_true, Bool.not_eq_true', decide_eq_true_eq]
  by_cases hz : z < 0
  · have e : Lib.itoa z = 45 :: Lib.decDigits z.natAbs := by unfold Lib.itoa; rw [if_pos hz]
    rw [if_pos ((itoa_head z).2 hz), e]
    have hc := canon_dec z.natAbs
    simp only [List.tail_cons]
    refine ⟨⟨⟨?_, dec_len _ _ h (by omega)⟩, ?_⟩, (any_noFig _).2 hc.1⟩
    · have := hc.2.1
      cases hq : Lib.decDigits z.natAbs with
      | nil => exact absurd hq this
      | cons a l => simp
    · left
      intro hh
      have := hc.2.2 hh
      have hv := (digs_dec z.natAbs).2.1
      rw [this] at hv
      have : dval [48] = 0 := rfl
      omega
  · have e : Lib.itoa z = Lib.decDigits z.natAbs := by unfold Lib.itoa; rw [if_neg hz, show z.toNat = z.natAbs by omega]
    rw [if_neg (fun hh => hz ((itoa_head z).1 hh)), e]
    have hc := canon_dec z.natAbs
    refine ⟨⟨⟨?_, dec_len _ _ h (by omega)⟩, ?_⟩, (any_noFig _).2 hc.1⟩
    · have := hc.2.1
      cases hq : Lib.decDigits z.natAbs with
      | nil => exact absurd hq this
      | cons a l => simp
    · by_cases hh : (Lib.decDigits z.natAbs).head? = some 48
      · exact .inr (hc.2.2 hh)
      · exact .inl hh

/-! ### the program's num.May -/

end Go.Proofs.YtlemmdfjcnhjkaaGreatDoor.P
namespace Go.Proofs.YtlemmdfjcnhjkaaGreatDoor.P
open Go.RowKit Go.Proofs.YtlemmdfjcnhjkaaGreatDoorW.PrintWords Go.Proofs.YtlemmdfjcnhjkaaGreatDoorW.PrintLast

/-- One more round. -/
theorem Ev.succ {α : Type} {g f : Nat → Option α} {r : α} (h : ∀ k, g (k + 1) = f k) (hf : Ev f r) : Ev g r := Ev.step h hf
theorem Ev.const {α : Type} {g : Nat → Option α} {r : α} (h : ∀ k, g k = some r) : Ev g r := ⟨0, fun k _ => h k⟩
theorem Ev.bindc {α β : Type} {c : Option α} {f : Nat → α → Option β} {a : α} {r : β} (h : c = some a) (k : Ev (fun n => f n a) r) : Ev (fun n => c.bind (f n)) r := by
  subst h
  exact k
theorem Ev.ite {α : Type} {c : Prop} [Decidable c] {f g : Nat → Option α} {r : α} (h1 : c → Ev f r) (h2 : ¬ c → Ev g r) : Ev (fun k => if c then f k else g k) r := by
  by_cases h : c
  · simp only [if_pos h]; exact h1 h
  · simp only [if_neg h]; exact h2 h
theorem Ev.pos {α : Type} {c : Prop} [Decidable c] {f g : Nat → Option α} {r : α} (h : c) (h1 : Ev f r) : Ev (fun k => if c then f k else g k) r := by
  simp only [if_pos h]; exact h1
theorem Ev.neg {α : Type} {c : Prop} [Decidable c] {f g : Nat → Option α} {r : α} (h : ¬ c) (h1 : Ev g r) : Ev (fun k => if c then f k else g k) r := by
  simp only [if_neg h]; exact h1

abbrev mkS (l : List UInt8) : ByteArray := ⟨l.toArray⟩
theorem Ls_mk (l : List UInt8) : Ls (mkS l) = l := by simp [Ls]
theorem mk_Ls (s : ByteArray) : mkS (Ls s) = s := by
  apply Ls_inj
  rw [Ls_mk]
theorem mk_size (l : List UInt8) : (mkS l).size = l.length := by rw [← Ls_len, Ls_mk]
theorem Ls_append (a b : ByteArray) : Ls (a ++ b) = Ls a ++ Ls b := Joins.data_append a b
theorem Ls_tail (s : ByteArray) : Ls (s.extract 1 s.size) = (Ls s).tail := by
  unfold Ls
  rw [Lib.extract_to_end, List.drop_one]
theorem size_pos_of {s : ByteArray} {c : UInt8} (h : (Ls s).head? = some c) : 0 < s.size := by
  rw [← Ls_len]
  cases hq : Ls s with
  | nil => rw [hq] at h; simp at h
  | cons a l => simp
theorem head_get {s : ByteArray} (h : 0 < s.size) : (Ls s).head? = some ((Ls s)[0]'(by rw [Ls_len]; exact h)) := by
  rw [List.head?_eq_getElem?, List.getElem?_eq_getElem]

/-! ### May -/
theorem ref_may_loop (s : ByteArray) (hs : s.size ≤ 1099511627776) (d : Nat) : ∀ (k i : Nat), i + d = s.size → d < k → reredosref01_May.l0 k s (i : Int) = some (!((Ls s).drop i).any noFig) := by
  induction d with
  | zero =>
    intro k i hi hk
    obtain ⟨k, rfl⟩ : ∃ m, k = m + 1 := ⟨k - 1, by omega⟩
    simp only [reredosref01_May.l0]
    rw [if_neg (by omega), List.drop_eq_nil_of_le (by rw [Ls_len]; omega)]
    rfl
  | succ d ih =>
    intro k i hi hk
    obtain ⟨k, rfl⟩ : ∃ m, k = m + 1 := ⟨k - 1, by omega⟩
    have hl : i < s.size := by omega
    have hll : i < (Ls s).length := by rw [Ls_len]; exact hl
    simp only [reredosref01_May.l0]
    rw [if_pos (by omega), if_pos (by omega), bt_get s i hl, List.drop_eq_getElem_cons hll, List.any_cons]
    by_cases h1 : (((Ls s)[i]).toNat : Int) < 48
    · rw [if_pos h1]
      have : noFig (Ls s)[i] = true := by unfold noFig; rw [decide_eq_true (show ((Ls s)[i]).toNat < 48 by omega)]; rfl
      rw [this]; rfl
    · rw [if_neg h1]
      by_cases h2 : (((Ls s)[i]).toNat : Int) > 57
      · rw [if_pos h2]
        have : noFig (Ls s)[i] = true := by unfold noFig; rw [decide_eq_true (show 57 < ((Ls s)[i]).toNat by omega)]; simp
        rw [this]; rfl
      · rw [if_neg h2]
        have : noFig (Ls s)[i] = false := (noFig_false _).2 ⟨by omega, by omega⟩
        rw [this, w64 (by omega) (by omega), show ((i : Int) + 1) = ((i + 1 : Nat) : Int) by omega, ih k (i + 1) (by omega) (by omega)]
        rfl

theorem ref_may (s : ByteArray) (hs : s.size ≤ 1099511627776) : Ev (fun k => reredosref01_May.f k s) (mayB s) := by
  have hend : ∀ at_ : Nat, at_ ≤ s.size → Ev (fun k => reredosref01_May.l0 k s (at_ : Int)) (!((Ls s).drop at_).any noFig) := fun at_ h => ⟨s.size + 1, fun k hk => ref_may_loop s hs (s.size - at_) k at_ (by omega) (by omega)⟩
  -- behind the place of the first figure
  have hj1 : ∀ at_ : Nat, at_ ≤ 1 → at_ ≤ s.size → Ls s ≠ [48] → Ev (fun k => reredosref01_May.j1 k s (at_ : Int)) (decide (1 ≤ ((Ls s).drop at_).length) && decide (((Ls s).drop at_).length ≤ 100) && (decide (((Ls s).drop at_).head? ≠ some 48) || decide (Ls s = [48])) && !((Ls s).drop at_).any noFig) := by
    intro at_ ha has hz
    have hlen : ((Ls s).drop at_).length = s.size - at_ := by rw [List.length_drop, Ls_len]
    rw [decide_eq_false hz, Bool.or_false, hlen]
    have hj2t : Ev (fun k => reredosref01_May.j2 k s (at_ : Int) true) false := Ev.succ (f := fun _ => some false) (fun k => by simp [reredosref01_May.j2]) (Ev.const (fun _ => rfl))
    have hj2f : Ev (fun k => reredosref01_May.j2 k s (at_ : Int) false) (!((Ls s).drop at_).any noFig) := Ev.succ (fun k => by simp only [reredosref01_May.j2]; rw [if_neg (by simp)]) (hend at_ has)
    refine Ev.succ (fun k => by simp only [reredosref01_May.j1]; rfl) ?_
    rw [w64 (by omega) (by omega)]
    refine Ev.ite (fun h => ?_) (fun h => ?_)
    · rw [decide_eq_false (by omega)]
      simpa using hj2t
    · rw [decide_eq_true (by omega)]
      refine Ev.ite (fun h2 => ?_) (fun h2 => ?_)
      · rw [decide_eq_false (show ¬ s.size - at_ ≤ 100 by omega)]
        simpa using hj2t
      · rw [decide_eq_true (show s.size - at_ ≤ 100 by omega)]
        refine Ev.pos (by omega) (Ev.pos (by omega) ?_)
        have hll : at_ < (Ls s).length := by rw [Ls_len]; omega
        have hh : ((Ls s).drop at_).head? = some (Ls s)[at_] := by rw [List.drop_eq_getElem_cons hll]; rfl
        rw [bt_get s at_ (by omega), hh]
        by_cases h3 : (Ls s)[at_] = 48
        · have e : ((((Ls s)[at_]).toNat : Int) == 48) = true := by rw [h3]; rfl
          rw [e, h3]
          simpa using hj2t
        · have e : ((((Ls s)[at_]).toNat : Int) == 48) = false := by
            rw [beq_eq_false_iff_ne]
            intro e
            exact h3 (u8_eq (n := 48) (by omega) (by omega))
          have e2 : decide (some (Ls s)[at_] ≠ some 48) = true := decide_eq_true (fun e => h3 (Option.some.inj e))
          rw [e, e2]
          simpa using hj2f
  unfold reredosref01_May.f
  rw [Ls_eq]
  refine Ev.ite (fun h => ?_) (fun h => ?_)
  · have : mayB s = true := by unfold mayB; rw [h]; rfl
    rw [this]
    exact Ev.now true
  · refine Ev.ite (fun h2 => ?_) (fun h2 => ?_)
    · refine Ev.succ (f := fun k => reredosref01_May.j1 k s 0) (fun k => by simp only [reredosref01_May.j0]; rw [if_neg (by simp)]) ?_
      have := hj1 0 (by omega) (by omega) h
      rw [List.drop_zero] at this
      unfold mayB
      rw [mayL_plain _ (by rw [h2]; simp)]
      exact this
    · have hp : 0 < s.size := by
        rw [← Ls_len]
        exact List.length_pos_iff.2 h2
      refine Ev.pos (by omega) ?_
      rw [bt_head s hp]
      have hh := head_get hp
      by_cases h3 : (Ls s)[0]'(by rw [Ls_len]; exact hp) = 45
      · have e : ((((Ls s)[0]'(by rw [Ls_len]; exact hp)).toNat : Int) == 45) = true := by rw [h3]; rfl
        rw [e]
        refine Ev.succ (f := fun k => reredosref01_May.j1 k s 1) (fun k => by simp only [reredosref01_May.j0, if_true]) ?_
        have := hj1 1 (by omega) (by omega) h
        rw [List.drop_one] at this
        unfold mayB
        rw [mayL_hyphen _ (by rw [hh, h3])]
        exact this
      · have e : ((((Ls s)[0]'(by rw [Ls_len]; exact hp)).toNat : Int) == 45) = false := by
          rw [beq_eq_false_iff_ne]
          intro e
          exact h3 (u8_eq (n := 45) (by omega) (by omega))
        rw [e]
        refine Ev.succ (f := fun k => reredosref01_May.j1 k s 0) (fun k => by simp only [reredosref01_May.j0]; rw [if_neg (by simp)]) ?_
        have := hj1 0 (by omega) (by omega) h
        rw [List.drop_zero] at this
        unfold mayB
        rw [mayL_plain _ (by rw [hh]; intro e; exact h3 (Option.some.inj e))]
        exact this
end Go.Proofs.YtlemmdfjcnhjkaaGreatDoor.P
namespace Go.Proofs.YtlemmdfjcnhjkaaGreatDoor.P
open Go.RowKit Go.Proofs.YtlemmdfjcnhjkaaGreatDoorW.PrintWords Go.Proofs.YtlemmdfjcnhjkaaGreatDoorW.PrintLast

abbrev lowB (s : ByteArray) : Bool := decide ((Ls s).head? = some 45)
theorem low_spec (s : ByteArray) : reredosref01_low.f s = some (lowB s) := by
  unfold reredosref01_low.f lowB
  rw [Ls_eq]
  by_cases h : Ls s = []
  · rw [if_pos h, h]; rfl
  · have hp : 0 < s.size := by rw [← Ls_len]; exact List.length_pos_iff.2 h
    rw [if_neg h, if_pos (by omega), bt_head s hp, head_get hp]
    congr 1
    by_cases h3 : (Ls s)[0]'(by rw [Ls_len]; exact hp) = 45
    · rw [h3]; rfl
    · rw [decide_eq_false (fun e => h3 (Option.some.inj e)), beq_eq_false_iff_ne]
      intro e
      exact h3 (u8_eq (n := 45) (by omega) (by omega))

/-- A number's figures. -/
def absS (s : ByteArray) : ByteArray := if lowB s = true then s.extract 1 s.size else s
theorem size_spec (s : ByteArray) : reredosref01_size.f s = some (absS s) := by
  unfold reredosref01_size.f absS
  rw [low_spec]
  simp only [Option.bind_some]
  by_cases h : lowB s = true
  · rw [if_pos h, if_pos h, if_pos]
    have := size_pos_of (of_decide_eq_true h)
    omega
  · rw [if_neg h, if_neg h]

theorem digit_spec (s : ByteArray) (hd : Digs (Ls s)) (hs : s.size ≤ 1099511627776) (i : Nat) (hi : i ≤ 1099511627776) : reredosref01_digit.f s (i : Int) = some ((dval (Ls s) / 10 ^ i % 10 : Nat) : Int) := by
  unfold reredosref01_digit.f
  by_cases h : (i : Int) ≥ (s.size : Int)
  · rw [if_pos h, digit_beyond _ hd i (by rw [Ls_len]; omega)]; rfl
  · rw [if_neg h]
    have e1 : wrap64 ((s.size : Int) - 1) = ((s.size - 1 : Nat) : Int) := by rw [w64 (by omega) (by omega)]; omega
    have e2 : wrap64 (((s.size - 1 : Nat) : Int) - (i : Int)) = ((s.size - 1 - i : Nat) : Int) := by rw [w64 (by omega) (by omega)]; omega
    rw [e1, e2, if_pos (by omega), if_pos (by omega)]
    have hl : s.size - 1 - i < s.size := by omega
    have hg := digit_at (Ls s) hd i (by rw [Ls_len]; omega)
    have hb := bt_get s (s.size - 1 - i) hl
    have hidx : (Ls s)[s.size - 1 - i]'(by rw [Ls_len]; exact hl) = (Ls s)[(Ls s).length - 1 - i]'(by rw [Ls_len]; omega) := by
      congr 1
    have hdig : isDig ((Ls s)[(Ls s).length - 1 - i]'(by rw [Ls_len]; omega)) := hd _ (List.getElem_mem _)
    unfold isDig at hdig
    rw [hb, hidx]
    congr 1
    omega

theorem canon_bare_step {c : UInt8} {l : List UInt8} (hd : Digs (c :: l)) (hc : c = 48) : dval (c :: l) = dval l ∧ Digs l := by
  subst hc
  refine ⟨?_, fun x hx => hd x (by simp [hx])⟩
  rw [dval_cons]
  simp

theorem bare_spec_aux (n : Nat) : ∀ (s : ByteArray), Digs (Ls s) → s.size = n → s.size ≤ 1099511627776 → Ev (fun k => reredosref01_bare.l0 k s) (mkS (Lib.decDigits (dval (Ls s)))) := by
  induction n with
  | zero =>
    intro s hd hn hs
    have hnil : Ls s = [] := List.length_eq_zero_iff.1 (by rw [Ls_len]; exact hn)
    refine Ev.succ (fun k => by simp only [reredosref01_bare.l0]; rfl) ?_
    refine Ev.neg (by omega) ?_
    rw [Ls_eq]
    refine Ev.pos hnil ?_
    rw [hnil]
    have : Lib.decDigits (dval []) = [48] := dec_zero
    rw [this]
    exact Ev.now _
  | succ n ih =>
    intro s hd hn hs
    have hp : 0 < s.size := by omega
    refine Ev.succ (fun k => by simp only [reredosref01_bare.l0]; rfl) ?_
    rw [Ls_eq]
    have hne : Ls s ≠ [] := by intro e; have := Ls_len s; rw [e] at this; simp at this; omega
    have hlast : Canon (Ls s) → Ev (fun _ => if Ls s = [] then some (⟨#[48]⟩ : ByteArray) else some s) (mkS (Lib.decDigits (dval (Ls s)))) := by
      intro hc
      refine Ev.neg hne ?_
      rw [← canon_eq _ hc, mk_Ls]
      exact Ev.now _
    refine Ev.ite (fun h => ?_) (fun h => ?_)
    · refine Ev.pos (by omega) ?_
      rw [bt_head s hp]
      obtain ⟨c, l, hq⟩ : ∃ c l, Ls s = c :: l := List.exists_cons_of_ne_nil hne
      · have hc0 : (Ls s)[0]'(by rw [Ls_len]; exact hp) = c := by simp [hq]
        have hlen : l.length = n := by have := Ls_len s; rw [hq] at this; simp at this; omega
        rw [hc0]
        refine Ev.ite (fun h3 => ?_) (fun h3 => ?_)
        · have hc : c = 48 := u8_eq (n := 48) (by omega) (by omega)
          refine Ev.pos (by omega) ?_
          rw [hq] at hd
          obtain ⟨e1, e2⟩ := canon_bare_step hd hc
          have ht : Ls (s.extract 1 s.size) = l := by rw [Ls_tail, hq]; rfl
          have hsz : (s.extract 1 s.size).size = n := by rw [← Ls_len, ht, hlen]
          have := ih (s.extract 1 s.size) (by rw [ht]; exact e2) hsz (by omega)
          rw [ht] at this
          rw [hq, e1]
          exact this
        · refine hlast ⟨hd, hne, fun hh => ?_⟩
          · rw [hq] at hh
            simp only [List.head?_cons, Option.some.injEq] at hh
            exact absurd (by rw [hh]; rfl) h3
    · refine hlast ⟨hd, hne, fun hh => ?_⟩
      cases hq : Ls s with
      | nil => exact absurd hq hne
      | cons c l =>
        have hlen : l.length = 0 := by have := Ls_len s; rw [hq] at this; simp at this; omega
        rw [hq] at hh
        simp only [List.head?_cons, Option.some.injEq] at hh
        rw [hh, List.length_eq_zero_iff.1 hlen]

theorem bare_spec (s : ByteArray) (hd : Digs (Ls s)) (hs : s.size ≤ 1099511627776) : Ev (fun k => reredosref01_bare.f k s) (mkS (Lib.decDigits (dval (Ls s)))) := bare_spec_aux s.size s hd rfl hs

theorem signed_spec (s : ByteArray) (b : Bool) (hd : Digs (Ls s)) (hs : s.size ≤ 1099511627776) : Ev (fun k => reredosref01_signed.f k s b) (mkS (Lib.itoa (if b = true then -(dval (Ls s) : Int) else (dval (Ls s) : Int)))) := by
  have hb := bare_spec s hd hs
  have hj : ∀ c : Bool, Ev (fun k => reredosref01_signed.j0 k s c) (if c = true then ((⟨#[45]⟩ : ByteArray) ++ mkS (Lib.decDigits (dval (Ls s)))) else mkS (Lib.decDigits (dval (Ls s)))) := by
    intro c
    refine Ev.succ (fun k => by simp only [reredosref01_signed.j0]; rfl) ?_
    cases c with
    | true =>
      refine Ev.pos rfl (Ev.bind hb (Ev.pos ?_ (Ev.now _)))
      rw [mk_size]
      have h1 := dec_len (dval (Ls s)) (s.size + 1) (by have := dval_lt _ hd; rw [Ls_len] at this; rw [Nat.pow_succ]; omega) (by omega)
      omega
    | false => exact Ev.neg (by simp) (Ev.bind hb (Ev.now _))
  unfold reredosref01_signed.f
  cases b with
  | true =>
    refine Ev.pos rfl (Ev.bind hb ?_)
    rw [Ls_eq, Ls_mk]
    have h := hj (Lib.decDigits (dval (Ls s)) != [48])
    by_cases hz : dval (Ls s) = 0
    · rw [hz] at h ⊢
      rw [dec_zero] at h ⊢
      simpa [Lib.itoa, dec_zero] using h
    · have hne : (Lib.decDigits (dval (Ls s)) != [48]) = true := by
        rw [bne_iff_ne]
        intro e
        exact hz (dec_inj (e.trans dec_zero.symm))
      rw [hne] at h ⊢
      rw [if_pos rfl] at h
      have e : (⟨#[45]⟩ : ByteArray) ++ mkS (Lib.decDigits (dval (Ls s))) = mkS (Lib.itoa (-(dval (Ls s) : Int))) := by
        apply Ls_inj
        rw [Ls_append, Ls_mk, Ls_mk, Lib.itoa_neg _ (by omega)]
        rfl
      rw [e] at h
      exact h
  | false =>
    refine Ev.neg (by simp) ?_
    have h := hj false
    rw [if_neg (by simp)] at h
    rw [if_neg (by simp), Lib.itoa_nonneg]
    exact h

/-! ### which of two sizes is greater -/
theorem lex_lt : ∀ (a b : List UInt8), a.length = b.length → ∀ (i : Nat) (hi : i < a.length) (hib : i < b.length), Digs a → Digs b → a.take i = b.take i → (a[i]).toNat < (b[i]).toNat → dval a < dval b := by
  intro a b hlen i hi hib ha hb hpre hlt
  have ea : a = a.take i ++ (a[i] :: a.drop (i + 1)) := by rw [← List.drop_eq_getElem_cons hi, List.take_append_drop]
  have eb : b = b.take i ++ (b[i] :: b.drop (i + 1)) := by rw [← List.drop_eq_getElem_cons hib, List.take_append_drop]
  have happ : ∀ (x y : List UInt8), dval (x ++ y) = dval x * 10 ^ y.length + dval y := by
    intro x y
    induction y using rev_ind with
    | h0 => simp [dval]
    | hs y c ih => rw [← List.append_assoc, dval_snoc, ih, dval_snoc, List.length_append, List.length_singleton, Nat.pow_succ, Nat.add_mul, Nat.mul_assoc]; omega
  have hda : Digs (a.drop (i + 1)) := fun x hx => ha x (List.mem_of_mem_drop hx)
  have h1 := dval_lt _ hda
  have hxa : isDig a[i] := ha _ (List.getElem_mem _)
  have hxb : isDig b[i] := hb _ (List.getElem_mem _)
  unfold isDig at hxa hxb
  have hl : (a.drop (i + 1)).length = (b.drop (i + 1)).length := by simp [hlen]
  rw [ea, eb, happ, happ, hpre]
  simp only [List.length_cons, hl]
  rw [dval_cons, dval_cons, hl]
  rw [hl] at h1
  have hm : (a[i].toNat - 48 + 1) * 10 ^ (b.drop (i + 1)).length ≤ (b[i].toNat - 48) * 10 ^ (b.drop (i + 1)).length := Nat.mul_le_mul_right _ (by omega)
  rw [Nat.add_mul] at hm
  omega

theorem more_loop (s t : ByteArray) (hd : Digs (Ls s)) (he : Digs (Ls t)) (hlen : s.size = t.size) (hs : s.size ≤ 1099511627776) (d : Nat) : ∀ (i : Nat), i + d = s.size → (Ls s).take i = (Ls t).take i → Ev (fun k => reredosref01_more.l0 k s t (i : Int)) (if dval (Ls s) < dval (Ls t) then -1 else if dval (Ls s) = dval (Ls t) then 0 else 1) := by
  induction d with
  | zero =>
    intro i hi hpre
    refine Ev.succ (fun k => by simp only [reredosref01_more.l0]; rfl) (Ev.neg (by omega) ?_)
    have e : Ls s = Ls t := by
      rw [List.take_of_length_le (by rw [Ls_len]; omega), List.take_of_length_le (by rw [Ls_len]; omega)] at hpre
      exact hpre
    rw [e, if_neg (by omega), if_pos rfl]
    exact Ev.now _
  | succ d ih =>
    intro i hi hpre
    have h1 : i < (Ls s).length := by rw [Ls_len]; omega
    have h2 : i < (Ls t).length := by rw [Ls_len]; omega
    refine Ev.succ (fun k => by simp only [reredosref01_more.l0]; rfl) (Ev.pos (by omega) (Ev.pos (by omega) (Ev.pos (by omega) ?_)))
    rw [bt_get s i (by omega), bt_get t i (by omega)]
    have hl2 : (Ls s).length = (Ls t).length := by rw [Ls_len, Ls_len, hlen]
    refine Ev.ite (fun h => ?_) (fun h => Ev.ite (fun h' => ?_) (fun h' => ?_))
    · rw [if_pos (lex_lt _ _ hl2 i h1 h2 hd he hpre (by omega))]
      exact Ev.now _
    · have := lex_lt _ _ hl2.symm i h2 h1 he hd hpre.symm (by omega)
      rw [if_neg (by omega), if_neg (by omega)]
      exact Ev.now _
    · rw [w64 (by omega) (by omega), show ((i : Int) + 1) = ((i + 1 : Nat) : Int) by omega]
      refine ih (i + 1) (by omega) ?_
      have e : (Ls s)[i] = (Ls t)[i] := by apply UInt8.toNat.inj; omega
      rw [List.take_succ_eq_append_getElem h1, List.take_succ_eq_append_getElem h2, hpre, e]

theorem canon_len_lt {a b : List UInt8} (ha : Canon a) (hb : Canon b) (h : a.length < b.length) : dval a < dval b := by
  have h1 := dval_lt _ ha.1
  cases b with
  | nil => simp at h
  | cons c l =>
    have hne : (c :: l) ≠ [48] := by
      intro e
      rw [e] at h
      have := List.length_pos_iff.2 ha.2.1
      rw [List.length_singleton] at h
      omega
    have hc : isDig c := hb.1 c (by simp)
    have hc0 : c ≠ 48 := by intro e; subst e; exact hne (hb.2.2 rfl)
    unfold isDig at hc
    have : c.toNat ≠ 48 := fun e => hc0 (u8_eq (n := 48) (by omega) e)
    rw [dval_cons]
    have hp : 10 ^ a.length ≤ 10 ^ l.length := Nat.pow_le_pow_right (by omega) (by simp at h; omega)
    have hm : 1 * 10 ^ l.length ≤ (c.toNat - 48) * 10 ^ l.length := Nat.mul_le_mul_right _ (by omega)
    omega

theorem more_spec (s t : ByteArray) (hc : Canon (Ls s)) (he : Canon (Ls t)) (hs : s.size ≤ 1099511627776) : Ev (fun k => reredosref01_more.f k s t) (if dval (Ls s) < dval (Ls t) then -1 else if dval (Ls s) = dval (Ls t) then 0 else 1) := by
  unfold reredosref01_more.f
  refine Ev.ite (fun h => ?_) (fun h => Ev.ite (fun h' => ?_) (fun h' => ?_))
  · exact more_loop s t hc.1 he.1 (by omega) hs s.size 0 (by omega) (by simp)
  · have := canon_len_lt hc he (by rw [Ls_len, Ls_len]; omega)
    rw [if_pos this]
    exact Ev.now _
  · have := canon_len_lt he hc (by rw [Ls_len, Ls_len]; omega)
    rw [if_neg (by omega), if_neg (by omega)]
    exact Ev.now _
end Go.Proofs.YtlemmdfjcnhjkaaGreatDoor.P
namespace Go.Proofs.YtlemmdfjcnhjkaaGreatDoor.P
open Go.RowKit Go.Proofs.YtlemmdfjcnhjkaaGreatDoorW.PrintWords Go.Proofs.YtlemmdfjcnhjkaaGreatDoorW.PrintLast Go.Proofs.YtlemmdfjcnhjkaaGreatDoorW.PrintMore

theorem one_fig (d : Nat) (h : d < 10) : Ls (strOfNums [((48 + d : Nat) : Int) % 256]) = [UInt8.ofNat (48 + d)] := by
  have : (((48 + d : Nat) : Int) % 256).toNat = 48 + d := by omega
  simp only [Ls, strOfNums_data, List.map_cons, List.map_nil, this]
theorem fig_dig (d : Nat) (h : d < 10) : isDig (UInt8.ofNat (48 + d)) := by
  unfold isDig
  rw [ofNat_fig h]
  omega
theorem digs_cons {c : UInt8} {l : List UInt8} (hc : isDig c) (hl : Digs l) : Digs (c :: l) := by
  intro x hx
  rcases List.mem_cons.1 hx with rfl | hx
  · exact hc
  · exact hl x hx
theorem dval_fig_cons (d : Nat) (h : d < 10) (l : List UInt8) : dval (UInt8.ofNat (48 + d) :: l) = d * 10 ^ l.length + dval l := by
  rw [dval_cons, ofNat_fig h]
  congr 2
  omega
theorem mod_step (a i : Nat) : a % 10 ^ (i + 1) = a % 10 ^ i + 10 ^ i * (a / 10 ^ i % 10) := Nat.mod_pow_succ

theorem pe1 (x y c : Nat) (hx : x < 10) (hy : y < 10) (hc : c ≤ 1) : wrap64 (wrap64 ((x : Int) + (y : Int)) + (c : Int)) = ((x + y + c : Nat) : Int) := by rw [w64 (x := (x : Int) + (y : Int)) (by omega) (by omega), w64 (by omega) (by omega)]; omega
theorem pe2 (n : Nat) : Int.tmod (n : Int) 10 = ((n % 10 : Nat) : Int) := by rw [Int.tmod_eq_emod_of_nonneg (by omega)]; omega
theorem pe3 (n : Nat) (h : n < 10) : wrap64 (48 + (n : Int)) = ((48 + n : Nat) : Int) := by rw [w64 (by omega) (by omega)]; omega
theorem pe4 (n : Nat) (h : n < 100) : wrap64 (Int.tdiv (n : Int) 10) = ((n / 10 : Nat) : Int) := by rw [Int.tdiv_eq_ediv_of_nonneg (by omega), w64 (by omega) (by omega)]; omega
theorem pe5 (i : Nat) (h : i ≤ 1099511627776) : wrap64 ((i : Int) + 1) = ((i + 1 : Nat) : Int) := by rw [w64 (by omega) (by omega)]; omega
theorem pe6 (x y c : Nat) (hx : x < 10) (hy : y < 10) (hc : c ≤ 1) : wrap64 (wrap64 ((x : Int) - (y : Int)) - (c : Int)) = (x : Int) - y - c := by rw [w64 (x := (x : Int) - (y : Int)) (by omega) (by omega), w64 (by omega) (by omega)]
theorem pe7 (x y c : Nat) (hx : x < 10) (hy : y < 10) (hc : c ≤ 1) : wrap64 (48 + wrap64 ((x : Int) - y - c + 10)) = ((48 + (x + 10 - y - c) : Nat) : Int) := by rw [w64 (x := (x : Int) - y - c + 10) (by omega) (by omega), w64 (by omega) (by omega)]; omega
theorem pe8 (x y c : Nat) (hx : x < 10) (_hy : y < 10) (_hc : c ≤ 1) (h : ¬ (x : Int) - y - c < 0) : wrap64 (48 + ((x : Int) - y - c)) = ((48 + (x - y - c) : Nat) : Int) := by rw [w64 (by omega) (by omega)]; omega
theorem pn1 (P q r x y c acc S T s : Nat) (hdm : 10 * q + r = x + y + c) (hv : acc + c * P = S + T) (hs : s = P * 10) : r * P + acc + q * s = S + P * x + (T + P * y) := by
  subst hs
  have : (10 * q + r) * P = (x + y + c) * P := by rw [hdm]
  rw [Nat.add_mul, Nat.add_mul, Nat.add_mul] at this
  have m1 : P * x = x * P := Nat.mul_comm _ _
  have m2 : P * y = y * P := Nat.mul_comm _ _
  have m3 : q * (P * 10) = 10 * q * P := by rw [Nat.mul_comm P 10, ← Nat.mul_assoc, Nat.mul_comm q 10]
  omega
theorem pn2 (P r x y c c' acc S T s : Nat) (hr : r + y + c = x + 10 * c') (hv : acc + T = S + c * P) (hs : s = P * 10) : r * P + acc + (T + P * y) = S + P * x + c' * s := by
  subst hs
  have : (r + y + c) * P = (x + 10 * c') * P := by rw [hr]
  rw [Nat.add_mul, Nat.add_mul, Nat.add_mul] at this
  have m1 : P * x = x * P := Nat.mul_comm _ _
  have m2 : P * y = y * P := Nat.mul_comm _ _
  have m3 : c' * (P * 10) = 10 * c' * P := by rw [Nat.mul_comm P 10, ← Nat.mul_assoc, Nat.mul_comm c' 10]
  omega
theorem plus_loop (s t : ByteArray) (hd : Digs (Ls s)) (he : Digs (Ls t)) (hs : s.size ≤ 1073741824) (ht : t.size ≤ 1073741824) (d : Nat) :
    ∀ (i c : Nat) (acc : ByteArray), i + d = max s.size t.size + 1 → c ≤ 1 → Digs (Ls acc) → acc.size = i → dval (Ls acc) + c * 10 ^ i = dval (Ls s) % 10 ^ i + dval (Ls t) % 10 ^ i →
    Ev (fun k => reredosref01_plus.l0 k s t acc (c : Int) (i : Int)) (mkS (Lib.decDigits (dval (Ls s) + dval (Ls t)))) := by
  have hmx : mx (s.size : Int) (t.size : Int) = ((max s.size t.size : Nat) : Int) := by unfold mx; split <;> omega
  induction d with
  | zero =>
    intro i c acc hi hc hda hsz hv
    refine Ev.succ (fun k => by simp only [reredosref01_plus.l0]; rfl) ?_
    rw [hmx]
    refine Ev.neg (by omega) ?_
    have h1 := dval_lt _ hd
    have h2 := dval_lt _ he
    rw [Ls_len] at h1 h2
    have p1 : 10 ^ s.size ≤ 10 ^ (max s.size t.size) := Nat.pow_le_pow_right (by omega) (by omega)
    have p2 : 10 ^ t.size ≤ 10 ^ (max s.size t.size) := Nat.pow_le_pow_right (by omega) (by omega)
    have hi' : i = max s.size t.size + 1 := by omega
    have p3 : 10 ^ i = 10 * 10 ^ (max s.size t.size) := by rw [hi', Nat.pow_succ, Nat.mul_comm]
    rw [Nat.mod_eq_of_lt (by omega), Nat.mod_eq_of_lt (by omega)] at hv
    have hc0 : c = 0 := by
      have : c = 0 ∨ c = 1 := by omega
      rcases this with h | h
      · exact h
      · subst h; omega
    subst hc0
    have hvv : dval (Ls acc) = dval (Ls s) + dval (Ls t) := by omega
    have := bare_spec acc hda (by omega)
    rw [hvv] at this
    exact Ev.bind this (Ev.now _)
  | succ d ih =>
    intro i c acc hi hc hda hsz hv
    refine Ev.succ (fun k => by simp only [reredosref01_plus.l0]; rfl) ?_
    rw [hmx]
    refine Ev.pos (by clear hv; omega) (Ev.bindc (digit_spec s hd (by clear hv; omega) i (by clear hv; omega)) (Ev.bindc (digit_spec t he (by clear hv; omega) i (by clear hv; omega)) ?_))
    generalize hx : dval (Ls s) / 10 ^ i % 10 = x
    generalize hy : dval (Ls t) / 10 ^ i % 10 = y
    have hx9 : x < 10 := by rw [← hx]; exact Nat.mod_lt _ (by omega)
    have hy9 : y < 10 := by rw [← hy]; exact Nat.mod_lt _ (by omega)
    rw [pe1 x y c hx9 hy9 hc, pe2, pe3 _ (Nat.mod_lt _ (by omega)), pe4 _ (by clear hv hx hy; omega), pe5 i (by clear hv hx hy; omega)]
    simp only [Option.bind_some]
    have hone := one_fig ((x + y + c) % 10) (Nat.mod_lt _ (by omega))
    refine Ev.pos (by clear hv hx hy; rw [strOfNums_size, hsz]; simp; omega) ?_
    have hacc : Ls (strOfNums [((48 + (x + y + c) % 10 : Nat) : Int) % 256] ++ acc) = UInt8.ofNat (48 + (x + y + c) % 10) :: Ls acc := by rw [Ls_append, hone]; rfl
    refine ih (i + 1) ((x + y + c) / 10) _ (by clear hv hx hy; omega) (by clear hv hx hy; omega) ?_ ?_ ?_
    · rw [hacc]; exact digs_cons (fig_dig _ (Nat.mod_lt _ (by omega))) hda
    · rw [← Ls_len, hacc, List.length_cons, Ls_len, hsz]
    · rw [hacc, dval_fig_cons _ (Nat.mod_lt _ (by omega)), Ls_len, hsz, mod_step, mod_step, hx, hy]
      exact pn1 (10 ^ i) _ _ x y c _ _ _ _ (by clear hv hx hy; omega) hv (Nat.pow_succ ..)

theorem plus_spec (s t : ByteArray) (hd : Digs (Ls s)) (he : Digs (Ls t)) (hs : s.size ≤ 1073741824) (ht : t.size ≤ 1073741824) : Ev (fun k => reredosref01_plus.f k s t) (mkS (Lib.decDigits (dval (Ls s) + dval (Ls t)))) := by
  have := plus_loop s t hd he hs ht (max s.size t.size + 1) 0 0 ⟨#[]⟩ (by omega) (by omega) (by intro x hx; simp [Ls] at hx) rfl (by simp [Ls, dval, Nat.mod_one])
  exact this

theorem minus_loop (s t : ByteArray) (hd : Digs (Ls s)) (he : Digs (Ls t)) (hs : s.size ≤ 1073741824) (ht : t.size ≤ 1073741824) (hle : dval (Ls t) ≤ dval (Ls s)) (d : Nat) :
    ∀ (i c : Nat) (acc : ByteArray), i + d = s.size → c ≤ 1 → Digs (Ls acc) → acc.size = i → dval (Ls acc) + dval (Ls t) % 10 ^ i = dval (Ls s) % 10 ^ i + c * 10 ^ i →
    Ev (fun k => reredosref01_minus.l0 k s t acc (c : Int) (i : Int)) (mkS (Lib.decDigits (dval (Ls s) - dval (Ls t)))) := by
  induction d with
  | zero =>
    intro i c acc hi hc hda hsz hv
    refine Ev.succ (fun k => by simp only [reredosref01_minus.l0]; rfl) ?_
    refine Ev.neg (by omega) ?_
    have h1 := dval_lt _ hd
    have h3 := dval_lt _ hda
    rw [Ls_len] at h1 h3
    have hi' : i = s.size := by omega
    rw [hi'] at hv
    rw [Nat.mod_eq_of_lt (by omega), Nat.mod_eq_of_lt (by omega)] at hv
    have hvv : dval (Ls acc) = dval (Ls s) - dval (Ls t) := by
      rw [hsz, hi'] at h3
      have : c = 0 ∨ c = 1 := by omega
      rcases this with h | h
      · subst h; omega
      · subst h; omega
    have := bare_spec acc hda (by omega)
    rw [hvv] at this
    exact Ev.bind this (Ev.now _)
  | succ d ih =>
    intro i c acc hi hc hda hsz hv
    refine Ev.succ (fun k => by simp only [reredosref01_minus.l0]; rfl) ?_
    refine Ev.pos (by clear hv; omega) (Ev.bindc (digit_spec s hd (by clear hv; omega) i (by clear hv; omega)) (Ev.bindc (digit_spec t he (by clear hv; omega) i (by clear hv; omega)) ?_))
    generalize hx : dval (Ls s) / 10 ^ i % 10 = x
    generalize hy : dval (Ls t) / 10 ^ i % 10 = y
    have hx9 : x < 10 := by rw [← hx]; exact Nat.mod_lt _ (by omega)
    have hy9 : y < 10 := by rw [← hy]; exact Nat.mod_lt _ (by omega)
    rw [pe6 x y c hx9 hy9 hc, pe5 i (by clear hv hx hy; omega)]
    refine Ev.ite (fun h => ?_) (fun h => ?_)
    · have hd10 : x + 10 - y - c < 10 := by clear hv hx hy; omega
      rw [pe7 x y c hx9 hy9 hc]
      simp only [Option.bind_some]
      have hone := one_fig (x + 10 - y - c) hd10
      refine Ev.pos (by clear hv hx hy; rw [strOfNums_size, hsz]; simp; omega) ?_
      have hacc : Ls (strOfNums [((48 + (x + 10 - y - c) : Nat) : Int) % 256] ++ acc) = UInt8.ofNat (48 + (x + 10 - y - c)) :: Ls acc := by rw [Ls_append, hone]; rfl
      refine ih (i + 1) 1 _ (by clear hv hx hy; omega) (by omega) ?_ ?_ ?_
      · rw [hacc]; exact digs_cons (fig_dig _ hd10) hda
      · rw [← Ls_len, hacc, List.length_cons, Ls_len, hsz]
      · rw [hacc, dval_fig_cons _ hd10, Ls_len, hsz, mod_step, mod_step, hx, hy]
        exact pn2 (10 ^ i) _ x y c 1 _ _ _ _ (by clear hv hx hy; omega) hv (Nat.pow_succ ..)
    · have hd10 : x - y - c < 10 := by clear hv hx hy; omega
      rw [pe8 x y c hx9 hy9 hc h]
      simp only [Option.bind_some]
      have hone := one_fig (x - y - c) hd10
      refine Ev.pos (by clear hv hx hy; rw [strOfNums_size, hsz]; simp; omega) ?_
      have hacc : Ls (strOfNums [((48 + (x - y - c) : Nat) : Int) % 256] ++ acc) = UInt8.ofNat (48 + (x - y - c)) :: Ls acc := by rw [Ls_append, hone]; rfl
      refine ih (i + 1) 0 _ (by clear hv hx hy; omega) (by omega) ?_ ?_ ?_
      · rw [hacc]; exact digs_cons (fig_dig _ hd10) hda
      · rw [← Ls_len, hacc, List.length_cons, Ls_len, hsz]
      · rw [hacc, dval_fig_cons _ hd10, Ls_len, hsz, mod_step, mod_step, hx, hy]
        exact pn2 (10 ^ i) _ x y c 0 _ _ _ _ (by clear hv hx hy; omega) hv (Nat.pow_succ ..)

theorem minus_spec (s t : ByteArray) (hd : Digs (Ls s)) (he : Digs (Ls t)) (hs : s.size ≤ 1073741824) (ht : t.size ≤ 1073741824) (hle : dval (Ls t) ≤ dval (Ls s)) : Ev (fun k => reredosref01_minus.f k s t) (mkS (Lib.decDigits (dval (Ls s) - dval (Ls t)))) := by
  have := minus_loop s t hd he hs ht hle s.size 0 0 ⟨#[]⟩ (by omega) (by omega) (by intro x hx; simp [Ls] at hx) rfl (by simp [Ls, dval, Nat.mod_one])
  exact this

/-! ### whole numbers -/
/-- A text that tells z. -/
def Tells (s : ByteArray) (z : Int) : Prop := Ls s = Lib.itoa z ∧ s.size ≤ 536870912
theorem Tells.abs {s : ByteArray} {z : Int} (h : Tells s z) : Ls (absS s) = Lib.decDigits z.natAbs ∧ (absS s).size ≤ 536870912 ∧ lowB s = decide (z < 0) := by
  obtain ⟨h1, h2⟩ := h
  have hl : lowB s = decide (z < 0) := by
    unfold lowB
    rw [h1]
    exact decide_eq_decide.2 (itoa_head z)
  unfold absS
  rw [hl]
  by_cases hz : z < 0
  · rw [if_pos (by simp [hz]), Ls_tail, h1]
    have e : Lib.itoa z = 45 :: Lib.decDigits z.natAbs := by unfold Lib.itoa; rw [if_pos hz]
    refine ⟨by rw [e]; rfl, ?_, rfl⟩
    have : (Ls (s.extract 1 s.size)).length ≤ s.size := by rw [Ls_tail, List.length_tail, Ls_len]; omega
    rw [Ls_len] at this
    omega
  · rw [if_neg (by simp [hz]), h1]
    have e : Lib.itoa z = Lib.decDigits z.natAbs := by unfold Lib.itoa; rw [if_neg hz, show z.toNat = z.natAbs by omega]
    exact ⟨e, h2, rfl⟩
theorem Tells.digs {s : ByteArray} {z : Int} (h : Tells s z) : Digs (Ls (absS s)) ∧ Canon (Ls (absS s)) ∧ dval (Ls (absS s)) = z.natAbs := by
  rw [h.abs.1]
  exact ⟨(digs_dec _).1, canon_dec _, (digs_dec _).2.1⟩
theorem itoa_size_le (n k : Nat) (z : Int) (h : z.natAbs < 10 ^ k) (hk : 1 ≤ k) (hn : k + 1 ≤ n) : (mkS (Lib.itoa z)).size ≤ n := by
  rw [mk_size]
  have := dec_len z.natAbs k h hk
  unfold Lib.itoa
  split
  · simp; omega
  · rw [show z.toNat = z.natAbs by omega]; omega

theorem signed_dec (n : Nat) (b : Bool) (hn : (Lib.decDigits n).length ≤ 1099511627776) : Ev (fun k => reredosref01_signed.f k (mkS (Lib.decDigits n)) b) (mkS (Lib.itoa (if b = true then -(n : Int) else (n : Int)))) := by
  have := signed_spec (mkS (Lib.decDigits n)) b (by rw [Ls_mk]; exact (digs_dec n).1) (by rw [mk_size]; exact hn)
  rw [Ls_mk, (digs_dec n).2.1] at this
  exact this
theorem dec_len_sum {a b : Nat} {k : Nat} (ha : (Lib.decDigits a).length ≤ k) (hb : (Lib.decDigits b).length ≤ k) (hk : 1 ≤ k) : (Lib.decDigits (a + b)).length ≤ k + 1 := by
  have h1 := dval_lt _ (digs_dec a).1
  have h2 := dval_lt _ (digs_dec b).1
  rw [(digs_dec a).2.1] at h1
  rw [(digs_dec b).2.1] at h2
  have p1 : 10 ^ (Lib.decDigits a).length ≤ 10 ^ k := Nat.pow_le_pow_right (by omega) ha
  have p2 : 10 ^ (Lib.decDigits b).length ≤ 10 ^ k := Nat.pow_le_pow_right (by omega) hb
  exact dec_len _ _ (by rw [Nat.pow_succ]; omega) (by omega)
theorem dec_len_mono {a b : Nat} (h : a ≤ b) : (Lib.decDigits a).length ≤ (Lib.decDigits b).length := by
  have h2 := dval_lt _ (digs_dec b).1
  rw [(digs_dec b).2.1] at h2
  exact dec_len _ _ (by omega) (List.length_pos_iff.2 (digs_dec b).2.2)

theorem sum_spec (s t : ByteArray) (x y : Int) (hs : Tells s x) (ht : Tells t y) : Ev (fun k => reredosref01_sum.f k s t) (mkS (Lib.itoa (x + y))) := by
  obtain ⟨a1, a2, a3⟩ := hs.abs
  obtain ⟨b1, b2, b3⟩ := ht.abs
  obtain ⟨c1, c2, c3⟩ := hs.digs
  obtain ⟨d1, d2, d3⟩ := ht.digs
  have la : (Lib.decDigits x.natAbs).length ≤ 536870912 := by rw [← a1, Ls_len]; exact a2
  have lb : (Lib.decDigits y.natAbs).length ≤ 536870912 := by rw [← b1, Ls_len]; exact b2
  unfold reredosref01_sum.f
  refine Ev.bindc (low_spec s) (Ev.bindc (low_spec t) ?_)
  rw [a3, b3]
  refine Ev.ite (fun h => ?_) (fun h => ?_)
  · refine Ev.bindc (size_spec s) (Ev.bindc (size_spec t) (Ev.bind (plus_spec _ _ c1 d1 (by omega) (by omega)) (Ev.bindc (low_spec s) ?_)))
    rw [a3, c3, d3]
    have hz : (if decide (x < 0) = true then -((x.natAbs + y.natAbs : Nat) : Int) else ((x.natAbs + y.natAbs : Nat) : Int)) = x + y := by
      have h' : (x < 0) = (y < 0) := by
        have := beq_iff_eq.1 h
        by_cases hx : x < 0 <;> by_cases hy : y < 0 <;> simp [hx, hy] at this ⊢
      by_cases hx : x < 0
      · rw [if_pos (by simp [hx])]
        have : y < 0 := by rw [← h']; exact hx
        omega
      · rw [if_neg (by simp [hx])]
        have : ¬ y < 0 := by rw [← h']; exact hx
        omega
    have := signed_dec (x.natAbs + y.natAbs) (decide (x < 0)) (by have := dec_len_sum la lb (by omega); omega)
    rw [hz] at this
    exact Ev.bind this (Ev.now _)
  · have hxy : (x < 0 ∧ 0 ≤ y) ∨ (0 ≤ x ∧ y < 0) := by
      by_cases hx : x < 0 <;> by_cases hy : y < 0
      · simp [hx, hy] at h
      · left; omega
      · right; omega
      · simp [hx, hy] at h
    refine Ev.bindc (size_spec s) (Ev.bindc (size_spec t) (Ev.bind (more_spec _ _ c2 d2 (by omega)) ?_))
    rw [c3, d3]
    refine Ev.ite (fun h2 => ?_) (fun h2 => ?_)
    · have hge : y.natAbs ≤ x.natAbs := by
        by_cases h3 : x.natAbs < y.natAbs
        · rw [if_pos h3] at h2; omega
        · omega
      refine Ev.bindc (size_spec s) (Ev.bindc (size_spec t) (Ev.bind (minus_spec _ _ c1 d1 (by omega) (by omega) (by omega)) (Ev.bindc (low_spec s) ?_)))
      rw [a3, c3, d3]
      have hz : (if decide (x < 0) = true then -((x.natAbs - y.natAbs : Nat) : Int) else ((x.natAbs - y.natAbs : Nat) : Int)) = x + y := by
        by_cases hx : x < 0
        · rw [if_pos (by simp [hx])]; omega
        · rw [if_neg (by simp [hx])]; omega
      have := signed_dec (x.natAbs - y.natAbs) (decide (x < 0)) (by have := dec_len_mono (show x.natAbs - y.natAbs ≤ x.natAbs by omega); omega)
      rw [hz] at this
      exact Ev.bind this (Ev.now _)
    · have hge : x.natAbs ≤ y.natAbs := by
        by_cases h3 : x.natAbs < y.natAbs
        · omega
        · exfalso
          rw [if_neg h3] at h2
          by_cases h4 : x.natAbs = y.natAbs
          · rw [if_pos h4] at h2; omega
          · rw [if_neg h4] at h2; omega
      refine Ev.bindc (size_spec t) (Ev.bindc (size_spec s) (Ev.bind (minus_spec _ _ d1 c1 (by omega) (by omega) (by omega)) (Ev.bindc (low_spec t) ?_)))
      rw [b3, c3, d3]
      have hz : (if decide (y < 0) = true then -((y.natAbs - x.natAbs : Nat) : Int) else ((y.natAbs - x.natAbs : Nat) : Int)) = x + y := by
        by_cases hy : y < 0
        · rw [if_pos (by simp [hy])]; omega
        · rw [if_neg (by simp [hy])]; omega
      have := signed_dec (y.natAbs - x.natAbs) (decide (y < 0)) (by have := dec_len_mono (show y.natAbs - x.natAbs ≤ y.natAbs by omega); omega)
      rw [hz] at this
      exact Ev.bind this (Ev.now _)
end Go.Proofs.YtlemmdfjcnhjkaaGreatDoor.P
namespace Go.Proofs.YtlemmdfjcnhjkaaGreatDoor.P
open Go.RowKit Go.Proofs.YtlemmdfjcnhjkaaGreatDoorW.PrintWords Go.Proofs.YtlemmdfjcnhjkaaGreatDoorW.PrintLast Go.Proofs.YtlemmdfjcnhjkaaGreatDoorW.PrintMore

theorem tells_mk (z : Int) (k : Nat) (h : z.natAbs < 10 ^ k) (hk : 1 ≤ k) (hk2 : k ≤ 1000) : Tells (mkS (Lib.itoa z)) z := ⟨Ls_mk _, by have := itoa_size_le 1001 k z h hk (by omega); omega⟩

theorem turned_spec (s : ByteArray) (z : Int) (h : Tells s z) : Ev (fun k => reredosref01_turned.f k s) (mkS (Lib.itoa (-z))) := by
  obtain ⟨a1, a2, a3⟩ := h.abs
  unfold reredosref01_turned.f
  refine Ev.bindc (size_spec s) (Ev.bindc (low_spec s) ?_)
  have hs := signed_spec (absS s) (!lowB s) h.digs.1 (by omega)
  rw [h.digs.2.2, a3] at hs
  have e : (if (!decide (z < 0)) = true then -(z.natAbs : Int) else (z.natAbs : Int)) = -z := by
    by_cases hz : z < 0
    · rw [if_neg (by simp [hz])]; omega
    · rw [if_pos (by simp [hz])]; omega
  rw [e] at hs
  rw [a3]
  exact Ev.bind hs (Ev.now _)

theorem bounded_spec (s : ByteArray) (z : Int) (h : Tells s z) : ∃ y : Int, Ev (fun k => reredosref01_bounded.f k s) (mkS (Lib.itoa y)) ∧ y.natAbs < 10 ^ 100 ∧ (y < 0 ↔ z < 0) ∧ (y = 0 ↔ z = 0) := by
  obtain ⟨a1, a2, a3⟩ := h.abs
  unfold reredosref01_bounded.f
  by_cases hl : ((absS s).size : Int) > 100
  · have hbig : 10 ^ 100 ≤ z.natAbs := by
      by_cases hc : z.natAbs < 10 ^ 100
      · have := dec_len _ _ hc (by omega)
        rw [← a1, Ls_len] at this
        omega
      · omega
    have hp : 1 ≤ 10 ^ 100 := Nat.one_le_pow _ _ (by omega)
    refine ⟨if z < 0 then -1 else 1, Ev.bindc (size_spec s) (Ev.pos hl (Ev.bindc (low_spec s) ?_)), ?_, ?_, ?_⟩
    · have hs := signed_spec ⟨#[49]⟩ (lowB s) (by intro x hx; simp only [Ls, List.mem_singleton] at hx; rw [hx]; unfold isDig; decide) (by decide)
      have e1 : dval (Ls ⟨#[49]⟩) = 1 := rfl
      rw [e1, a3] at hs
      rw [a3]
      by_cases hz : z < 0
      · rw [if_pos (by simp [hz])] at hs
        rw [if_pos hz]
        exact Ev.bind hs (Ev.now _)
      · rw [if_neg (by simp [hz])] at hs
        rw [if_neg hz]
        exact Ev.bind hs (Ev.now _)
    · have : (if z < 0 then (-1 : Int) else 1).natAbs = 1 := by split <;> rfl
      rw [this]
      have : 10 ^ 1 ≤ 10 ^ 100 := Nat.pow_le_pow_right (by omega) (by omega)
      omega
    · split <;> omega
    · split <;> omega
  · refine ⟨z, Ev.bindc (size_spec s) (Ev.neg hl ?_), ?_, Iff.rfl, Iff.rfl⟩
    · rw [← h.1, mk_Ls]
      exact Ev.now _
    · by_cases hc : 10 ^ 100 ≤ z.natAbs
      · have := dec_len_ge _ _ hc
        rw [← a1, Ls_len] at this
        omega
      · omega

theorem may_itoa {s : ByteArray} {z : Int} (h : Ls s = Lib.itoa z) (hz : z.natAbs < 10 ^ 100) : mayB s = true := by
  unfold mayB
  rw [h]
  exact itoa_may z hz
theorem itoa_eq_zero (z : Int) : Lib.itoa z = [48] ↔ z = 0 := by
  constructor
  · intro h
    have hz : ¬ z < 0 := by
      intro hz
      have := (itoa_head z).2 hz
      rw [h] at this
      simp at this
    have e : Lib.itoa z = Lib.decDigits z.toNat := by unfold Lib.itoa; rw [if_neg hz]
    rw [e] at h
    have := dec_inj (h.trans dec_zero.symm)
    omega
  · rintro rfl
    exact dec_zero

theorem sign_spec (s : ByteArray) (z : Int) (h : Tells s z) (hz : z.natAbs < 10 ^ 100) : Ev (fun k => reredosref01_Sign.f k s) (if z = 0 then 0 else if z < 0 then -1 else 1) := by
  unfold reredosref01_Sign.f
  have hm := ref_may s (by have := h.2; omega)
  rw [may_itoa h.1 hz] at hm
  refine Ev.bind hm (Ev.pos rfl (Ev.succ (fun k => by simp only [reredosref01_Sign.j0]; rfl) ?_))
  rw [Ls_eq, h.1]
  refine Ev.ite (fun h2 => ?_) (fun h2 => ?_)
  · rw [if_pos ((itoa_eq_zero z).1 (beq_iff_eq.1 h2))]
    exact Ev.now _
  · rw [if_neg (fun e => h2 (beq_iff_eq.2 ((itoa_eq_zero z).2 e)))]
    refine Ev.bindc (low_spec s) ?_
    rw [h.abs.2.2]
    refine Ev.ite (fun h3 => ?_) (fun h3 => ?_)
    · rw [if_pos (of_decide_eq_true h3)]; exact Ev.now _
    · rw [if_neg (fun e => h3 (decide_eq_true e))]; exact Ev.now _

def sgn (z : Int) : Int := if z = 0 then 0 else if z < 0 then -1 else 1
theorem mayB_tells {s : ByteArray} (h : mayB s = true) : ∃ z : Int, Tells s z ∧ z.natAbs < 10 ^ 100 := by
  obtain ⟨z, h1, h2⟩ := may_tells _ h
  refine ⟨z, ⟨h1, ?_⟩, h2⟩
  have := itoa_size_le 101 100 z h2 (by omega) (by omega)
  rw [mk_size, ← h1, Ls_len] at this
  omega

theorem cmp_spec (s t : ByteArray) (x y : Int) (hs : Tells s x) (ht : Tells t y) (hx : x.natAbs < 10 ^ 100) (hy : y.natAbs < 10 ^ 100) : Ev (fun k => reredosref01_Cmp.f k s t) (sgn (x - y)) := by
  unfold reredosref01_Cmp.f
  have h1 := ref_may s (by have := hs.2; omega)
  have h2 := ref_may t (by have := ht.2; omega)
  rw [may_itoa hs.1 hx] at h1
  rw [may_itoa ht.1 hy] at h2
  refine Ev.bind h1 (Ev.pos rfl (Ev.bind h2 (Ev.succ (fun k => by simp only [reredosref01_Cmp.j0]; rfl) (Ev.neg (by simp) ?_))))
  have hneg : Tells (mkS (Lib.itoa (-y))) (-y) := tells_mk _ 100 (by omega) (by omega) (by omega)
  have hp : (x + -y).natAbs < 10 ^ 101 := by
    have : 10 ^ 101 = 10 ^ 100 * 10 := Nat.pow_succ ..
    omega
  have hsum : Tells (mkS (Lib.itoa (x + -y))) (x + -y) := tells_mk _ 101 hp (by omega) (by omega)
  obtain ⟨v, hb, hv, hv1, hv2⟩ := bounded_spec _ _ hsum
  have hsg := sign_spec (mkS (Lib.itoa v)) v (tells_mk _ 100 hv (by omega) (by omega)) hv
  have e : (if v = 0 then (0 : Int) else if v < 0 then -1 else 1) = sgn (x - y) := by
    unfold sgn
    have a1 : (v = 0) = (x - y = 0) := propext (hv2.trans (by omega))
    have a2 : (v < 0) = (x - y < 0) := propext (hv1.trans (by omega))
    simp only [a1, a2]
  rw [e] at hsg
  exact Ev.bind (turned_spec t y ht) (Ev.bind (sum_spec s _ x (-y) hs hneg) (Ev.bind hb (Ev.bind hsg (Ev.now _))))

/-! ### numbers of 64 bits -/
/-- The number that a text tells. -/
def valL (l : List UInt8) : Int := if l.head? = some 45 then -(dval l.tail : Int) else (dval l : Int)
theorem valL_itoa (z : Int) : valL (Lib.itoa z) = z := by
  unfold valL
  by_cases hz : z < 0
  · have e : Lib.itoa z = 45 :: Lib.decDigits z.natAbs := by unfold Lib.itoa; rw [if_pos hz]
    rw [if_pos ((itoa_head z).2 hz), e, List.tail_cons, (digs_dec _).2.1]
    omega
  · have e : Lib.itoa z = Lib.decDigits z.natAbs := by unfold Lib.itoa; rw [if_neg hz, show z.toNat = z.natAbs by omega]
    rw [if_neg (fun hh => hz ((itoa_head z).1 hh)), e, (digs_dec _).2.1]
    omega
def in64 (z : Int) : Bool := decide (-9223372036854775808 ≤ z ∧ z < 9223372036854775808)
def intB (s : ByteArray) : Int × Bool := if mayB s = true then (if in64 (valL (Ls s)) = true then (valL (Ls s), true) else (0, false)) else (0, false)

end Go.Proofs.YtlemmdfjcnhjkaaGreatDoor.P
namespace Go.Proofs.YtlemmdfjcnhjkaaGreatDoor.P
open Go.RowKit Go.Proofs.YtlemmdfjcnhjkaaGreatDoorW.PrintWords Go.Proofs.YtlemmdfjcnhjkaaGreatDoorW.PrintLast Go.Proofs.YtlemmdfjcnhjkaaGreatDoorW.PrintMore

theorem told_spec (s : ByteArray) (z : Int) (h : Tells s z) (hz : z.natAbs < 10 ^ 100) : reredosref01_told.f s = some (s, 0) := by
  unfold reredosref01_told.f
  rw [size_spec]
  simp only [Option.bind_some]
  rw [if_neg]
  have := dec_len z.natAbs 100 hz (by omega)
  rw [← h.abs.1, Ls_len] at this
  omega

theorem sub_spec (s t : ByteArray) (x y : Int) (hs : Tells s x) (ht : Tells t y) (hx : x.natAbs < 10 ^ 100) (hy : y.natAbs < 10 ^ 100) (hxy : (x - y).natAbs < 10 ^ 100) : Ev (fun k => reredosref01_Sub.f k s t) (mkS (Lib.itoa (x - y)), 0) := by
  unfold reredosref01_Sub.f
  have h1 := ref_may s (by have := hs.2; omega)
  have h2 := ref_may t (by have := ht.2; omega)
  rw [may_itoa hs.1 hx] at h1
  rw [may_itoa ht.1 hy] at h2
  refine Ev.bind h1 (Ev.pos rfl (Ev.bind h2 (Ev.succ (fun k => by simp only [reredosref01_Sub.j0]; rfl) (Ev.neg (by simp) ?_))))
  have hneg : Tells (mkS (Lib.itoa (-y))) (-y) := tells_mk _ 100 (by omega) (by omega) (by omega)
  have hsum : Tells (mkS (Lib.itoa (x - y))) (x - y) := tells_mk _ 100 hxy (by omega) (by omega)
  refine Ev.bind (turned_spec t y ht) (Ev.bind (sum_spec s _ x (-y) hs hneg) (Ev.bindc (a := (mkS (Lib.itoa (x - y)), 0)) ?_ (Ev.now _)))
  rw [show x + -y = x - y by omega]
  exact told_spec _ _ hsum hxy

theorem neg_spec (s : ByteArray) (x : Int) (hs : Tells s x) (hx : x.natAbs < 10 ^ 100) : Ev (fun k => reredosref01_Neg.f k s) (mkS (Lib.itoa (-x))) := by
  unfold reredosref01_Neg.f
  have h1 := ref_may s (by have := hs.2; omega)
  rw [may_itoa hs.1 hx] at h1
  exact Ev.bind h1 (Ev.pos rfl (Ev.bind (turned_spec s x hs) (Ev.now _)))

theorem lt_100 {n : Nat} (h : n < 100000000000000000000) : n < 10 ^ 100 := by
  have : 10 ^ 20 ≤ 10 ^ 100 := Nat.pow_le_pow_right (by omega) (by omega)
  omega

theorem max64_tells : Tells ⟨#[57, 50, 50, 51, 51, 55, 50, 48, 51, 54, 56, 53, 52, 55, 55, 53, 56, 48, 55]⟩ 9223372036854775807 := ⟨by decide +kernel, by decide⟩
theorem min64_tells : Tells ⟨#[45, 57, 50, 50, 51, 51, 55, 50, 48, 51, 54, 56, 53, 52, 55, 55, 53, 56, 48, 56]⟩ (-9223372036854775808) := ⟨by decide +kernel, by decide⟩

theorem sgn_pos (z : Int) : sgn z > 0 ↔ z > 0 := by unfold sgn; split <;> (try split) <;> omega
theorem sgn_neg (z : Int) : sgn z < 0 ↔ z < 0 := by unfold sgn; split <;> (try split) <;> omega
theorem sgn_le (z : Int) : sgn z ≤ 0 ↔ z ≤ 0 := by unfold sgn; split <;> (try split) <;> omega
theorem sgn_ge (z : Int) : sgn z ≥ 0 ↔ z ≥ 0 := by unfold sgn; split <;> (try split) <;> omega

theorem ref_Int_loop (s : ByteArray) (z : Int) (h : Tells s z) (hr : in64 z = true) (d : Nat) : ∀ (i : Nat), i + d = (absS s).size →
    Ev (fun k => reredosref01_Int.l0 k s (if z < 0 then -(dval ((Ls (absS s)).take i) : Int) else (dval ((Ls (absS s)).take i) : Int)) (i : Int)) (z, true) := by
  have hdig := h.digs
  have ha := h.abs
  unfold in64 at hr
  have hr' := of_decide_eq_true hr
  have hbound : ∀ i, i ≤ (absS s).size → dval ((Ls (absS s)).take i) ≤ z.natAbs := by
    intro i hi
    rw [← hdig.2.2]
    have happ : ∀ (x y : List UInt8), dval x ≤ dval (x ++ y) := by
      intro x y
      induction y using rev_ind with
      | h0 => simp
      | hs y c ih => rw [← List.append_assoc, dval_snoc]; omega
    have := happ ((Ls (absS s)).take i) ((Ls (absS s)).drop i)
    rwa [List.take_append_drop] at this
  induction d with
  | zero =>
    intro i hi
    refine Ev.succ (fun k => by simp only [reredosref01_Int.l0]; rfl) ?_
    refine Ev.bindc (size_spec s) (Ev.neg (by omega) ?_)
    rw [List.take_of_length_le (by rw [Ls_len]; omega), hdig.2.2]
    have : (if z < 0 then -(z.natAbs : Int) else (z.natAbs : Int)) = z := by split <;> omega
    rw [this]
    exact Ev.now _
  | succ d ih =>
    intro i hi
    have hl : i < (Ls (absS s)).length := by rw [Ls_len]; omega
    have hc : isDig ((Ls (absS s))[i]) := hdig.1 _ (List.getElem_mem _)
    unfold isDig at hc
    have hnext := ih (i + 1) (by omega)
    have hb := hbound (i + 1) (by omega)
    have hb0 := hbound i (by omega)
    have hstep : dval ((Ls (absS s)).take (i + 1)) = dval ((Ls (absS s)).take i) * 10 + (((Ls (absS s))[i]).toNat - 48) := by
      rw [List.take_succ_eq_append_getElem hl, dval_snoc]
    refine Ev.succ (fun k => by simp only [reredosref01_Int.l0]; rfl) ?_
    refine Ev.bindc (size_spec s) (Ev.pos (by omega) (Ev.bindc (size_spec s) (Ev.pos (by omega) (Ev.pos (by omega) (Ev.bindc (low_spec s) ?_)))))
    rw [bt_get _ i (by omega), ha.2.2, pe5 i (by have := ha.2.1; omega)]
    have hm : ((((Ls (absS s))[i]).toNat : Int) - 48) % 256 = ((((Ls (absS s))[i]).toNat - 48 : Nat) : Int) := by omega
    rw [hm]
    rw [hstep] at hnext hb
    generalize ((Ls (absS s))[i]).toNat - 48 = f at *
    generalize dval ((Ls (absS s)).take i) = v at *
    by_cases hz : z < 0
    · rw [if_pos hz] at hnext
      rw [if_pos hz]
      refine Ev.pos (by simp [hz]) ?_
      rw [w64 (x := 10 * -(v : Int)) (by omega) (by omega), w64 (by omega) (by omega), show 10 * -(v : Int) - (f : Int) = -((v * 10 + f : Nat) : Int) by omega]
      exact hnext
    · rw [if_neg hz] at hnext
      rw [if_neg hz]
      refine Ev.neg (by simp [hz]) ?_
      rw [w64 (x := 10 * (v : Int)) (by omega) (by omega), w64 (by omega) (by omega), show 10 * (v : Int) + (f : Int) = ((v * 10 + f : Nat) : Int) by omega]
      exact hnext

theorem ref_Int_spec (s : ByteArray) (hs : s.size ≤ 1099511627776) : Ev (fun k => reredosref01_Int.f k s) (intB s) := by
  unfold reredosref01_Int.f intB
  have hm := ref_may s hs
  have hj : Ev (fun k => reredosref01_Int.j0 k s true) (0, false) := Ev.succ (f := fun _ => some (0, false)) (fun k => by simp only [reredosref01_Int.j0, if_true]) (Ev.now _)
  by_cases h : mayB s = true
  · obtain ⟨z, h1, h2⟩ := mayB_tells h
    rw [h] at hm
    rw [if_pos h, h1.1, valL_itoa]
    refine Ev.bind hm (Ev.pos rfl (Ev.bind (cmp_spec s _ z _ h1 max64_tells h2 (lt_100 (by decide))) ?_))
    refine Ev.ite (fun h3 => ?_) (fun h3 => ?_)
    · have := (sgn_pos _).1 h3
      rw [if_neg]
      · exact hj
      · unfold in64; rw [decide_eq_true_eq]; omega
    · have h3' : ¬ z - 9223372036854775807 > 0 := fun e => h3 ((sgn_pos _).2 e)
      refine Ev.bind (cmp_spec s _ z _ h1 min64_tells h2 (lt_100 (by decide))) ?_
      by_cases h4 : z - -9223372036854775808 < 0
      · rw [decide_eq_true ((sgn_neg _).2 h4), if_neg]
        · exact hj
        · unfold in64; rw [decide_eq_true_eq]; omega
      · rw [decide_eq_false (fun e => h4 ((sgn_neg _).1 e))]
        have hin : in64 z = true := by unfold in64; rw [decide_eq_true_eq]; omega
        rw [if_pos hin]
        refine Ev.succ (f := fun k => reredosref01_Int.l0 k s 0 0) (fun k => by simp only [reredosref01_Int.j0]; rw [if_neg (by simp)]) ?_
        have := ref_Int_loop s z h1 hin (absS s).size 0 (by omega)
        simpa [dval] using this
  · rw [if_neg h]
    rw [Bool.not_eq_true] at h
    rw [h] at hm
    exact Ev.bind hm (Ev.neg (by simp) hj)

/-! ### widths -/
/-- How a text stands to a width's bounds. -/
theorem in_spec (s : ByteArray) (z : Int) (w : Int) (b : ByteArray) (y : Int) (h : Tells s z) (hz : z.natAbs < 10 ^ 100) (hb : reredosref02_bound.f w = some b) (hbt : Tells b y) (hy : 0 < y ∧ y < 10000000000000000000) : Ev (fun k => reredosref02_In.f k s w) (decide (-y - 1 ≤ z ∧ z ≤ y)) := by
  unfold reredosref02_In.f
  refine Ev.bindc hb ?_
  have hne : ¬ b.toList = [] := by
    rw [Ls_eq, hbt.1]
    intro e
    unfold Lib.itoa at e
    rw [if_neg (by omega)] at e
    exact (digs_dec _).2.2 e
  have hy100 : y.natAbs < 10 ^ 100 := lt_100 (by omega)
  have hny : (-y).natAbs < 10 ^ 100 := lt_100 (by omega)
  have h1 : Tells ⟨#[49]⟩ 1 := ⟨by decide +kernel, by decide⟩
  have htm : Tells (mkS (Lib.itoa (-y))) (-y) := tells_mk _ 100 hny (by omega) (by omega)
  have hlow : Tells (mkS (Lib.itoa (-y - 1))) (-y - 1) := tells_mk _ 100 (lt_100 (by omega)) (by omega) (by omega)
  refine Ev.neg hne (Ev.bind (neg_spec b y hbt hy100) (Ev.bind (sub_spec _ _ (-y) 1 htm h1 hny (lt_100 (by decide)) (lt_100 (by omega))) (Ev.bind (cmp_spec s b z y h hbt hz hy100) ?_)))
  refine Ev.ite (fun h2 => ?_) (fun h2 => ?_)
  · have h2' := (sgn_le _).1 h2
    refine Ev.bind (cmp_spec s _ z (-y - 1) h hlow hz (lt_100 (by omega))) ?_
    have e : decide (sgn (z - (-y - 1)) ≥ 0) = decide (-y - 1 ≤ z ∧ z ≤ y) := by
      apply decide_eq_decide.2
      rw [sgn_ge]
      omega
    rw [e]
    exact Ev.now _
  · have h2' : ¬ z - y ≤ 0 := fun e => h2 ((sgn_le _).2 e)
    rw [decide_eq_false (by omega)]
    exact Ev.now _

theorem bound_8 : reredosref02_bound.f 8 = some ⟨#[49, 50, 55]⟩ ∧ Tells ⟨#[49, 50, 55]⟩ 127 := ⟨rfl, by decide +kernel, by decide⟩
theorem bound_16 : reredosref02_bound.f 16 = some ⟨#[51, 50, 55, 54, 55]⟩ ∧ Tells ⟨#[51, 50, 55, 54, 55]⟩ 32767 := ⟨rfl, by decide +kernel, by decide⟩
theorem bound_32 : reredosref02_bound.f 32 = some ⟨#[50, 49, 52, 55, 52, 56, 51, 54, 52, 55]⟩ ∧ Tells ⟨#[50, 49, 52, 55, 52, 56, 51, 54, 52, 55]⟩ 2147483647 := ⟨rfl, by decide +kernel, by decide⟩
theorem bound_64 : reredosref02_bound.f 64 = some ⟨#[57, 50, 50, 51, 51, 55, 50, 48, 51, 54, 56, 53, 52, 55, 55, 53, 56, 48, 55]⟩ ∧ Tells ⟨#[57, 50, 50, 51, 51, 55, 50, 48, 51, 54, 56, 53, 52, 55, 55, 53, 56, 48, 55]⟩ 9223372036854775807 := ⟨rfl, max64_tells⟩

end Go.Proofs.YtlemmdfjcnhjkaaGreatDoor.P
namespace Go.Proofs.YtlemmdfjcnhjkaaGreatDoor.P
open Go.RowKit Go.Proofs.YtlemmdfjcnhjkaaGreatDoorW.PrintWords Go.Proofs.YtlemmdfjcnhjkaaGreatDoorW.PrintLast Go.Proofs.YtlemmdfjcnhjkaaGreatDoorW.PrintMore

theorem drop_rd (xs : List Int) (i : Nat) (h : i < xs.length) : xs.drop i = rd xs (i : Int) :: xs.drop (i + 1) := by
  rw [List.drop_eq_getElem_cons h]
  congr 1
  unfold rd
  rw [Int.toNat_natCast, List.getD_eq_getElem?_getD, List.getElem?_eq_getElem h, Option.getD_some]
theorem drop_rdOf (xs : List ByteArray) (i : Nat) (h : i < xs.length) : xs.drop i = rdOf ByteArray.empty xs (i : Int) :: xs.drop (i + 1) := by
  rw [List.drop_eq_getElem_cons h]
  congr 1
  unfold rdOf
  rw [Int.toNat_natCast, List.getD_eq_getElem?_getD, List.getElem?_eq_getElem h, Option.getD_some]
theorem rd_mem (xs : List Int) (i : Nat) (h : i < xs.length) : rd xs (i : Int) ∈ xs := by
  have := List.mem_of_mem_drop (i := i) (l := xs) (a := rd xs (i : Int)) (by rw [drop_rd xs i h]; exact List.mem_cons_self)
  exact this
theorem rdOf_mem (xs : List ByteArray) (i : Nat) (h : i < xs.length) : rdOf ByteArray.empty xs (i : Int) ∈ xs := by
  have := List.mem_of_mem_drop (i := i) (l := xs) (a := rdOf ByteArray.empty xs (i : Int)) (by rw [drop_rdOf xs i h]; exact List.mem_cons_self)
  exact this

/-! ### is there one -/
theorem idx1 (xs : List Int) (hl : xs.length ≤ 1099511627776) (d : Nat) : ∀ i : Nat, i + d = xs.length →
    ∃ r : Int, Ev (fun k => slices_IndexFunc_int_int_at_shape_Size_1.l0 k xs (xs.length : Int) (i : Int)) r ∧ (decide (r ≥ 0) = (xs.drop i).any (fun n => decide (n < 0))) := by
  induction d with
  | zero =>
    intro i hi
    refine ⟨-1, ?_, ?_⟩
    · refine Ev.succ (f := fun _ => some (-1)) (fun k => by simp only [slices_IndexFunc_int_int_at_shape_Size_1.l0]; rw [if_neg (by omega)]) (Ev.now _)
    · rw [List.drop_eq_nil_of_le (by omega)]; rfl
  | succ d ih =>
    intro i hi
    have hd := drop_rd xs i (by omega)
    by_cases hp : rd xs (i : Int) < 0
    · refine ⟨(i : Int), ?_, ?_⟩
      · refine Ev.succ (fun k => by simp only [slices_IndexFunc_int_int_at_shape_Size_1.l0]; rfl) ?_
        refine Ev.pos (by omega) (Ev.pos (by omega) (Ev.pos (by omega) ?_))
        refine Ev.bindc (a := true) (by simp [shape_Size_1.f, hp]) (Ev.pos rfl (Ev.now _))
      · rw [hd, List.any_cons, decide_eq_true hp, Bool.true_or, decide_eq_true (by omega)]
    · obtain ⟨r, h1, h2⟩ := ih (i + 1) (by omega)
      refine ⟨r, ?_, ?_⟩
      · refine Ev.succ (fun k => by simp only [slices_IndexFunc_int_int_at_shape_Size_1.l0]; rfl) ?_
        refine Ev.pos (by omega) (Ev.pos (by omega) (Ev.pos (by omega) ?_))
        refine Ev.bindc (a := false) (by simp [shape_Size_1.f, hp]) (Ev.neg (by simp) ?_)
        rw [w64 (by omega) (by omega)]
        exact h1
      · rw [hd, List.any_cons, decide_eq_false hp, Bool.false_or, h2]
theorem any1 (xs : List Int) (v : Value) (hl : xs.length ≤ 1099511627776) : Ev (fun k => slices_ContainsFunc_int_int_at_shape_Size_1.f k xs v) (xs.any (fun n => decide (n < 0))) := by
  obtain ⟨r, h1, h2⟩ := idx1 xs hl xs.length 0 (by omega)
  unfold slices_ContainsFunc_int_int_at_shape_Size_1.f slices_IndexFunc_int_int_at_shape_Size_1.f
  refine Ev.bind h1 ?_
  rw [h2, List.drop_zero]
  exact Ev.now _

theorem idx2 (xs : List Int) (hl : xs.length ≤ 1099511627776) (d : Nat) : ∀ i : Nat, i + d = xs.length →
    ∃ r : Int, Ev (fun k => slices_IndexFunc_int_int_at_shape_Size_2.l0 k xs (xs.length : Int) (i : Int)) r ∧ (decide (r ≥ 0) = (xs.drop i).any (fun n => decide (n > 1099511627776))) := by
  induction d with
  | zero =>
    intro i hi
    refine ⟨-1, ?_, ?_⟩
    · refine Ev.succ (f := fun _ => some (-1)) (fun k => by simp only [slices_IndexFunc_int_int_at_shape_Size_2.l0]; rw [if_neg (by omega)]) (Ev.now _)
    · rw [List.drop_eq_nil_of_le (by omega)]; rfl
  | succ d ih =>
    intro i hi
    have hd := drop_rd xs i (by omega)
    by_cases hp : rd xs (i : Int) > 1099511627776
    · refine ⟨(i : Int), ?_, ?_⟩
      · refine Ev.succ (fun k => by simp only [slices_IndexFunc_int_int_at_shape_Size_2.l0]; rfl) ?_
        refine Ev.pos (by omega) (Ev.pos (by omega) (Ev.pos (by omega) ?_))
        refine Ev.bindc (a := true) (by simp [shape_Size_2.f]; omega) (Ev.pos rfl (Ev.now _))
      · rw [hd, List.any_cons, decide_eq_true hp, Bool.true_or, decide_eq_true (by omega)]
    · obtain ⟨r, h1, h2⟩ := ih (i + 1) (by omega)
      refine ⟨r, ?_, ?_⟩
      · refine Ev.succ (fun k => by simp only [slices_IndexFunc_int_int_at_shape_Size_2.l0]; rfl) ?_
        refine Ev.pos (by omega) (Ev.pos (by omega) (Ev.pos (by omega) ?_))
        refine Ev.bindc (a := false) (by simp [shape_Size_2.f]; omega) (Ev.neg (by simp) ?_)
        rw [w64 (by omega) (by omega)]
        exact h1
      · rw [hd, List.any_cons, decide_eq_false hp, Bool.false_or, h2]
theorem any2 (xs : List Int) (v : Value) (hl : xs.length ≤ 1099511627776) : Ev (fun k => slices_ContainsFunc_int_int_at_shape_Size_2.f k xs v) (xs.any (fun n => decide (n > 1099511627776))) := by
  obtain ⟨r, h1, h2⟩ := idx2 xs hl xs.length 0 (by omega)
  unfold slices_ContainsFunc_int_int_at_shape_Size_2.f slices_IndexFunc_int_int_at_shape_Size_2.f
  refine Ev.bind h1 ?_
  rw [h2, List.drop_zero]
  exact Ev.now _

theorem idxE (xs : List Int) (a : Int) (hl : xs.length ≤ 1099511627776) (d : Nat) : ∀ i : Nat, i + d = xs.length →
    ∃ r : Int, Ev (fun k => slices_Index_int_int.l0 k xs a (xs.length : Int) (i : Int)) r ∧ (decide (r ≥ 0) = (xs.drop i).any (fun n => decide (a = n))) := by
  induction d with
  | zero =>
    intro i hi
    refine ⟨-1, ?_, ?_⟩
    · refine Ev.succ (f := fun _ => some (-1)) (fun k => by simp only [slices_Index_int_int.l0]; rw [if_neg (by omega)]) (Ev.now _)
    · rw [List.drop_eq_nil_of_le (by omega)]; rfl
  | succ d ih =>
    intro i hi
    have hd := drop_rd xs i (by omega)
    by_cases hp : a = rd xs (i : Int)
    · refine ⟨(i : Int), ?_, ?_⟩
      · refine Ev.succ (fun k => by simp only [slices_Index_int_int.l0]; rfl) ?_
        refine Ev.pos (by omega) (Ev.pos (by omega) (Ev.pos (by omega) ?_))
        exact Ev.pos hp (Ev.now _)
      · rw [hd, List.any_cons, decide_eq_true hp, Bool.true_or, decide_eq_true (by omega)]
    · obtain ⟨r, h1, h2⟩ := ih (i + 1) (by omega)
      refine ⟨r, ?_, ?_⟩
      · refine Ev.succ (fun k => by simp only [slices_Index_int_int.l0]; rfl) ?_
        refine Ev.pos (by omega) (Ev.pos (by omega) (Ev.pos (by omega) ?_))
        refine Ev.neg hp ?_
        rw [w64 (by omega) (by omega)]
        exact h1
      · rw [hd, List.any_cons, decide_eq_false hp, Bool.false_or, h2]
theorem anyE (xs : List Int) (a : Int) (hl : xs.length ≤ 1099511627776) : Ev (fun k => slices_Contains_int_int.f k xs a) (xs.any (fun n => decide (a = n))) := by
  obtain ⟨r, h1, h2⟩ := idxE xs a hl xs.length 0 (by omega)
  unfold slices_Contains_int_int.f slices_Index_int_int.f
  refine Ev.bind h1 ?_
  rw [h2, List.drop_zero]
  exact Ev.now _

/-! ### sizes -/
def prodV : Int → List Int → Int × Int
  | s, [] => (s, 0)
  | s, n :: l => if s * n > 4096 then (0, 8) else prodV (s * n) l
/-- How many elements a shape has. -/
def sizeV (l : List Int) : Int × Int := if (l.length : Int) > 3 then (0, 3) else if l.any (fun n => decide (n < 0)) = true then (0, 5) else if l.any (fun n => decide (n > 1099511627776)) = true then (0, 8) else if l.any (fun n => decide (0 = n)) = true then (0, 0) else prodV 1 l

theorem prodV_le (l : List Int) : ∀ s : Int, 1 ≤ s → s ≤ 4096 → (∀ n ∈ l, 1 ≤ n) → 0 ≤ (prodV s l).1 ∧ (prodV s l).1 ≤ 4096 ∧ ((prodV s l).2 = 0 → 1 ≤ (prodV s l).1) := by
  induction l with
  | nil => intro s h0 h1 _; exact ⟨by simp only [prodV]; omega, by simp only [prodV]; omega, fun _ => by simp only [prodV]; omega⟩
  | cons n l ih =>
    intro s h0 h1 hn
    have hn1 := hn n List.mem_cons_self
    simp only [prodV]
    by_cases h : s * n > 4096
    · rw [if_pos h]; exact ⟨by decide, by decide, fun e => by simp at e⟩
    · rw [if_neg h]
      have : 1 ≤ s * n := by
        have := Int.mul_le_mul h0 hn1 (by omega) (by omega)
        omega
      exact ih (s * n) this (by omega) (fun m hm => hn m (List.mem_cons_of_mem _ hm))
theorem pos_of {l : List Int} (h1 : l.any (fun n => decide (n < 0)) = false) (h2 : l.any (fun n => decide (0 = n)) = false) : ∀ n ∈ l, 1 ≤ n := by
  intro n hn
  have a := List.any_eq_false.1 h1 n hn
  have b := List.any_eq_false.1 h2 n hn
  simp only [decide_eq_true_eq] at a b
  omega
theorem sizeV_le (l : List Int) : 0 ≤ (sizeV l).1 ∧ (sizeV l).1 ≤ 4096 := by
  unfold sizeV
  split
  · exact ⟨by decide, by decide⟩
  · split
    · exact ⟨by decide, by decide⟩
    · split
      · exact ⟨by decide, by decide⟩
      · split
        · exact ⟨by decide, by decide⟩
        · rename_i a b c e
          have := prodV_le l 1 (by decide) (by decide) (pos_of (Bool.eq_false_iff.2 b) (Bool.eq_false_iff.2 e))
          exact ⟨this.1, this.2.1⟩
theorem sizeV_len {l : List Int} (h : (sizeV l).2 = 0) : l.length ≤ 3 := by
  unfold sizeV at h
  split at h
  · simp at h
  · omega

theorem quo_gt (s n : Int) (hs : 1 ≤ s) (hs2 : s ≤ 4096) : (n > wrap64 (Int.tdiv 4096 s)) ↔ s * n > 4096 := by
  have e : Int.tdiv 4096 s = 4096 / s := Int.tdiv_eq_ediv_of_nonneg (by omega)
  have hb : 0 ≤ 4096 / s := Int.ediv_nonneg (by omega) (by omega)
  have hb2 : 4096 / s ≤ 4096 := Int.ediv_le_self _ (by omega)
  rw [e, w64 (by omega) (by omega)]
  have := Int.ediv_lt_iff_lt_mul (a := 4096) (b := n) (c := s) (by omega)
  rw [Int.mul_comm]
  exact this

theorem shape_loop (l : List Int) (hl : l.length ≤ 1099511627776) (hn : ∀ n ∈ l, 1 ≤ n ∧ n ≤ 1099511627776) (d : Nat) : ∀ (i : Nat) (s : Int), i + d = l.length → 1 ≤ s → s ≤ 4096 →
    Ev (fun k => shape_Size.l0 k s l (l.length : Int) (i : Int)) (prodV s (l.drop i)) := by
  induction d with
  | zero =>
    intro i s hi h0 h1
    rw [List.drop_eq_nil_of_le (by omega)]
    refine Ev.succ (f := fun _ => some (s, 0)) (fun k => by simp only [shape_Size.l0]; rw [if_neg (by omega)]) (Ev.now _)
  | succ d ih =>
    intro i s hi h0 h1
    have hd := drop_rd l i (by omega)
    have hm := hn _ (rd_mem l i (by omega))
    rw [hd]
    simp only [prodV]
    refine Ev.succ (fun k => by simp only [shape_Size.l0]; rfl) ?_
    refine Ev.pos (by omega) (Ev.pos (by omega) (Ev.pos (by omega) (Ev.neg (by omega) ?_)))
    have hq := quo_gt s (rd l (i : Int)) h0 h1
    by_cases h : s * rd l (i : Int) > 4096
    · rw [if_pos h]
      exact Ev.pos (hq.2 h) (Ev.now _)
    · rw [if_neg h]
      refine Ev.neg (fun e => h (hq.1 e)) ?_
      have h2 : 1 ≤ s * rd l (i : Int) := by
        have := Int.mul_le_mul h0 hm.1 (by omega) (by omega)
        omega
      rw [w64 (x := s * rd l (i : Int)) (by omega) (by omega), w64 (by omega) (by omega)]
      exact ih (i + 1) _ (by omega) h2 (by omega)

theorem size_bounds {l : List Int} (h1 : l.any (fun n => decide (n < 0)) = false) (h2 : l.any (fun n => decide (0 = n)) = false) (h3 : l.any (fun n => decide (n > 1099511627776)) = false) : ∀ n ∈ l, 1 ≤ n ∧ n ≤ 1099511627776 := by
  intro n hn
  have c := List.any_eq_false.1 h3 n hn
  simp only [decide_eq_true_eq] at c
  exact ⟨pos_of h1 h2 n hn, by omega⟩

theorem shape_Size_spec (l : List Int) : Ev (fun k => shape_Size.f k l) (sizeV l) := by
  unfold shape_Size.f sizeV
  by_cases h : (l.length : Int) > 3
  · rw [if_pos h]; exact Ev.pos h (Ev.now _)
  · rw [if_neg h]
    refine Ev.neg h (Ev.bind (any1 l _ (by omega)) ?_)
    by_cases ha : l.any (fun n => decide (n < 0)) = true
    · rw [if_pos ha]; exact Ev.pos ha (Ev.now _)
    · rw [if_neg ha]
      refine Ev.neg ha (Ev.bind (any2 l _ (by omega)) ?_)
      by_cases hb : l.any (fun n => decide (n > 1099511627776)) = true
      · rw [if_pos hb]; exact Ev.pos hb (Ev.now _)
      · rw [if_neg hb]
        refine Ev.neg hb (Ev.bind (anyE l 0 (by omega)) ?_)
        by_cases hc : l.any (fun n => decide (0 = n)) = true
        · rw [if_pos hc]; exact Ev.pos hc (Ev.now _)
        · rw [if_neg hc]
          refine Ev.neg hc ?_
          have := shape_loop l (by omega) (size_bounds (Bool.eq_false_iff.2 ha) (Bool.eq_false_iff.2 hc) (Bool.eq_false_iff.2 hb)) l.length 0 1 (by omega) (by decide) (by decide)
          rwa [List.drop_zero] at this

theorem ref_size_2 (l : List Int) (hl : l.length ≤ 1099511627776) (hn : ∀ n ∈ l, 1 ≤ n ∧ n ≤ 1099511627776) (d : Nat) : ∀ (i : Nat) (s : Int), i + d = l.length → 1 ≤ s → s ≤ 4096 →
    Ev (fun k => reredosref03_Size.l2 k l s (i : Int)) (prodV s (l.drop i)) := by
  induction d with
  | zero =>
    intro i s hi h0 h1
    rw [List.drop_eq_nil_of_le (by omega)]
    refine Ev.succ (f := fun _ => some (s, 0)) (fun k => by simp only [reredosref03_Size.l2]; rw [if_neg (by omega)]) (Ev.now _)
  | succ d ih =>
    intro i s hi h0 h1
    have hd := drop_rd l i (by omega)
    have hm := hn _ (rd_mem l i (by omega))
    rw [hd]
    simp only [prodV]
    refine Ev.succ (fun k => by simp only [reredosref03_Size.l2]; rfl) ?_
    refine Ev.pos (by omega) (Ev.pos (by omega) ?_)
    have h2 : rd l (i : Int) ≤ s * rd l (i : Int) := by
      have := Int.mul_le_mul_of_nonneg_right h0 (show 0 ≤ rd l (i : Int) by omega)
      omega
    by_cases hb : rd l (i : Int) > 4096
    · rw [if_pos (by omega)]
      exact Ev.pos hb (Ev.now _)
    · refine Ev.neg hb ?_
      have h3 : s * rd l (i : Int) ≤ 4096 * 4096 := Int.mul_le_mul h1 (by omega) (by omega) (by omega)
      rw [w64 (x := s * rd l (i : Int)) (by omega) (by omega)]
      by_cases h : s * rd l (i : Int) > 4096
      · rw [if_pos h]
        exact Ev.pos h (Ev.now _)
      · rw [if_neg h]
        refine Ev.neg h ?_
        rw [w64 (by omega) (by omega)]
        exact ih (i + 1) _ (by omega) (by omega) (by omega)

theorem ref_size_1 (l : List Int) (hl : l.length ≤ 1099511627776) (b : Bool) (r : Int × Int) (d : Nat) : ∀ (i : Nat), i + d = l.length →
    ((l.drop i).any (fun n => decide (n > 1099511627776)) = false → Ev (fun k => if b = true then some (0, 0) else reredosref03_Size.l2 k l 1 0) r) →
    Ev (fun k => reredosref03_Size.l1 k l b (i : Int)) (if (l.drop i).any (fun n => decide (n > 1099511627776)) = true then (0, 8) else r) := by
  induction d with
  | zero =>
    intro i hi hr
    rw [List.drop_eq_nil_of_le (by omega)] at hr ⊢
    refine Ev.succ (fun k => by simp only [reredosref03_Size.l1]; rfl) ?_
    refine Ev.neg (by omega) ?_
    rw [if_neg (by simp)]
    exact hr rfl
  | succ d ih =>
    intro i hi hr
    have hd := drop_rd l i (by omega)
    rw [hd, List.any_cons] at hr ⊢
    refine Ev.succ (fun k => by simp only [reredosref03_Size.l1]; rfl) ?_
    refine Ev.pos (by omega) (Ev.pos (by omega) ?_)
    by_cases h : rd l (i : Int) > 1099511627776
    · rw [decide_eq_true h, Bool.true_or, if_pos rfl]
      exact Ev.pos h (Ev.now _)
    · rw [decide_eq_false h, Bool.false_or] at hr ⊢
      refine Ev.neg h ?_
      rw [w64 (by omega) (by omega)]
      exact ih (i + 1) (by omega) hr

theorem ref_size_0 (l : List Int) (hl : l.length ≤ 1099511627776) (r : Int × Int) (d : Nat) : ∀ (i : Nat) (b : Bool), i + d = l.length →
    ((l.drop i).any (fun n => decide (n < 0)) = false → Ev (fun k => reredosref03_Size.l1 k l (b || (l.drop i).any (fun n => decide (0 = n))) 0) r) →
    Ev (fun k => reredosref03_Size.l0 k l b (i : Int)) (if (l.drop i).any (fun n => decide (n < 0)) = true then (0, 5) else r) := by
  induction d with
  | zero =>
    intro i b hi hr
    rw [List.drop_eq_nil_of_le (by omega)] at hr ⊢
    refine Ev.succ (fun k => by simp only [reredosref03_Size.l0]; rfl) ?_
    refine Ev.neg (by omega) ?_
    have hr := hr rfl
    simp only [List.any_nil, Bool.or_false] at hr
    rw [if_neg (by simp)]
    exact hr
  | succ d ih =>
    intro i b hi hr
    have hd := drop_rd l i (by omega)
    rw [hd, List.any_cons, List.any_cons] at hr
    rw [hd, List.any_cons]
    refine Ev.succ (fun k => by simp only [reredosref03_Size.l0]; rfl) ?_
    refine Ev.pos (by omega) (Ev.pos (by omega) ?_)
    by_cases h : rd l (i : Int) < 0
    · rw [decide_eq_true h, Bool.true_or, if_pos rfl]
      exact Ev.pos h (Ev.now _)
    · rw [decide_eq_false h, Bool.false_or] at hr ⊢
      refine Ev.neg h ?_
      rw [w64 (by omega) (by omega)]
      rw [← Bool.or_assoc] at hr
      cases b with
      | true => exact Ev.pos rfl (ih (i + 1) true (by omega) hr)
      | false =>
        refine Ev.neg (by simp) ?_
        have e : (rd l (i : Int) == 0) = (false || decide (0 = rd l (i : Int))) := by
          rw [Bool.false_or, Bool.beq_eq_decide_eq]
          exact decide_eq_decide.2 ⟨fun e => e.symm, fun e => e.symm⟩
        rw [e]
        exact ih (i + 1) _ (by omega) hr

theorem ref_Size_spec (l : List Int) : Ev (fun k => reredosref03_Size.f k l) (sizeV l) := by
  unfold reredosref03_Size.f sizeV
  by_cases h : (l.length : Int) > 3
  · rw [if_pos h]; exact Ev.pos h (Ev.now _)
  · rw [if_neg h]
    refine Ev.neg h ?_
    have h0 := ref_size_0 l (by omega) (if l.any (fun n => decide (n > 1099511627776)) = true then (0, 8) else if l.any (fun n => decide (0 = n)) = true then (0, 0) else prodV 1 l) l.length 0 false (by omega)
    rw [List.drop_zero] at h0
    refine h0 (fun ha => ?_)
    rw [Bool.false_or]
    have h1 := ref_size_1 l (by omega) (l.any (fun n => decide (0 = n))) (if l.any (fun n => decide (0 = n)) = true then (0, 0) else prodV 1 l) l.length 0 (by omega)
    rw [List.drop_zero] at h1
    refine h1 (fun hb => ?_)
    refine Ev.ite (fun hc => ?_) (fun hc => ?_)
    · rw [if_pos hc]; exact Ev.now _
    · rw [if_neg hc]
      have := ref_size_2 l (by omega) (size_bounds ha (Bool.eq_false_iff.2 hc) hb) l.length 0 1 (by omega) (by decide) (by decide)
      rwa [List.drop_zero] at this

/-! ### what may be -/

/-! ### few, same -/

theorem same_loop (l : List Int) (hl : l.length ≤ 1099511627776) (d : Nat) : ∀ i : Nat, i + d = l.length → Ev (fun k => reredosref03_Same.l0 k l l (i : Int)) true := by
  induction d with
  | zero =>
    intro i hi
    refine Ev.succ (f := fun _ => some true) (fun k => by simp only [reredosref03_Same.l0]; rw [if_neg (by omega)]) (Ev.now _)
  | succ d ih =>
    intro i hi
    refine Ev.succ (fun k => by simp only [reredosref03_Same.l0]; rfl) ?_
    refine Ev.pos (by omega) (Ev.pos (by omega) (Ev.pos (by omega) (Ev.pos trivial ?_)))
    rw [w64 (by omega) (by omega)]
    exact ih (i + 1) (by omega)
theorem same_self (l : List Int) (hl : l.length ≤ 1099511627776) : Ev (fun k => reredosref03_Same.f k l l) true := by
  unfold reredosref03_Same.f
  exact Ev.pos rfl (same_loop l hl l.length 0 (by omega))

end Go.Proofs.YtlemmdfjcnhjkaaGreatDoor.P
namespace Go.Proofs.YtlemmdfjcnhjkaaGreatDoor.P
open Go.RowKit Go.Proofs.YtlemmdfjcnhjkaaGreatDoorW.PrintWords Go.Proofs.YtlemmdfjcnhjkaaGreatDoorW.PrintLast Go.Proofs.YtlemmdfjcnhjkaaGreatDoorW.PrintMore

/-! ### widths -/

/-! ### bytes of a number -/
def putI (x : Int) : Nat → List Int
  | 0 => []
  | m + 1 => x / 256 ^ m % 256 :: putI x m
theorem putI_len (x : Int) (m : Nat) : (putI x m).length = m := by
  induction m with
  | zero => rfl
  | succ m ih => simp only [putI, List.length_cons, ih]

theorem Ls_nums (xs : List Int) : Ls (strOfNums xs) = xs.map (fun n => UInt8.ofNat n.toNat) := by simp [Ls, strOfNums]
theorem nums_append (xs ys : List Int) : strOfNums (xs ++ ys) = strOfNums xs ++ strOfNums ys := by
  apply Ls_inj
  rw [Ls_append, Ls_nums, Ls_nums, Ls_nums, List.map_append]
theorem nums_size (xs : List Int) : (strOfNums xs).size = xs.length := by rw [← Ls_len, Ls_nums, List.length_map]

theorem set_zero (d : Nat) (l : List Int) (v : Int) : (List.replicate (d + 1) 0 ++ l).set d v = List.replicate d 0 ++ v :: l := by
  induction d with
  | zero => rfl
  | succ d ih =>
    rw [List.replicate_succ, List.cons_append, List.set_cons_succ, ih, List.replicate_succ (n := d), List.cons_append]

theorem pow_256 (i : Nat) (h : i < 8) (y : Int) (hy : y = 8 * (i : Int)) : (2 : Int) ^ min y.toNat (IntKind.bits .i64) = 256 ^ i := by
  have e : y.toNat = 8 * i := by omega
  have hb : IntKind.bits .i64 = 64 := rfl
  rw [e, hb, Nat.min_eq_left (by omega), Int.pow_mul]
  rfl

theorem put_loop (x : Int) (m : Nat) (hm : m ≤ 8) (d : Nat) : ∀ i : Nat, i + d = m → Ev (fun k => typed_put.l0 k x (List.replicate d 0 ++ putI x i) (m : Int) (i : Int)) (putI x m) := by
  induction d with
  | zero =>
    intro i hi
    rw [show i = m by omega]
    refine Ev.succ (f := fun _ => some (putI x m)) (fun k => by simp only [typed_put.l0]; rw [if_neg (by omega)]; rfl) (Ev.now _)
  | succ d ih =>
    intro i hi
    have hlen : (List.replicate (d + 1) (0 : Int) ++ putI x i).length = m := by rw [List.length_append, List.length_replicate, putI_len]; omega
    refine Ev.succ (fun k => by simp only [typed_put.l0]; rfl) ?_
    rw [hlen]
    rw [w64 (x := 8 * (i : Int)) (by omega) (by omega), w64 (x := (m : Int) - 1) (by omega) (by omega), w64 (x := (m : Int) - 1 - (i : Int)) (by omega) (by omega), w64 (x := (i : Int) + 1) (by omega) (by omega)]
    refine Ev.pos (by omega) (Ev.pos (by omega) (Ev.pos (by omega) (Ev.pos (by omega) ?_)))
    have e : ((m : Int) - 1 - (i : Int)).toNat = d := by omega
    rw [e, set_zero]
    unfold shr
    rw [pow_256 i (by omega) _ rfl]
    exact ih (i + 1) (by omega)

theorem typed_put_spec (x w : Int) (m : Nat) (hm : m ≤ 8) (hw : w = 8 * (m : Int)) : Ev (fun k => typed_put.f k x w) (putI x m) := by
  unfold typed_put.f
  have e : wrap64 (Int.tdiv w 8) = (m : Int) := by
    rw [Int.tdiv_eq_ediv_of_nonneg (by omega), w64 (by omega) (by omega)]; omega
  rw [e]
  refine Ev.pos (by omega) (Ev.pos (by omega) (Ev.bindc (a := List.replicate m 0) (by rw [Int.toNat_natCast]) ?_))
  rw [List.length_replicate]
  have := put_loop x m hm m 0 (by omega)
  rwa [putI, List.append_nil] at this

theorem floor_spec (y : Int) (h : in64 y = true) : reredosref05_floor.f y = some (y / 256) := by
  unfold in64 at h
  rw [decide_eq_true_eq] at h
  unfold reredosref05_floor.f
  rw [Int.tdiv_eq_ediv, Int.tmod_eq_emod]
  by_cases h0 : y < 0
  · rw [if_pos h0]
    by_cases h1 : (256 : Int) ∣ y
    · rw [if_pos (Or.inr h1), if_pos (by omega), if_pos (Or.inr h1), Int.add_zero, w64 (by omega) (by omega)]
    · rw [if_neg (show ¬ (0 ≤ y ∨ (256 : Int) ∣ y) by omega)]
      have e : Int.sign 256 = 1 := rfl
      rw [if_neg (by omega), if_neg (show ¬ (0 ≤ y ∨ (256 : Int) ∣ y) by omega), e, w64 (x := y / 256 + 1) (by omega) (by omega), w64 (by omega) (by omega)]
      congr 1; omega
  · rw [if_neg h0, if_pos (Or.inl (by omega)), Int.add_zero, w64 (by omega) (by omega)]

theorem ref_put_loop (x : Int) (m : Nat) (hm : m ≤ 8) (d : Nat) : ∀ (i : Nat), i + d = m → in64 (x / 256 ^ i) = true →
    Ev (fun k => reredosref05_put.l0 k (x / 256 ^ i) (m : Int) (strOfNums (putI x i)) (i : Int)) (strOfNums (putI x m)) := by
  induction d with
  | zero =>
    intro i hi _
    rw [show i = m by omega]
    refine Ev.succ (f := fun _ => some (strOfNums (putI x m))) (fun k => by simp only [reredosref05_put.l0]; rw [if_neg (by omega)]) (Ev.now _)
  | succ d ih =>
    intro i hi hin
    have hnext := ih (i + 1) (by omega)
    have e1 : x / 256 ^ (i + 1) = x / 256 ^ i / 256 := by
      rw [Int.pow_succ, Int.ediv_ediv_of_nonneg (Int.pow_nonneg (by omega))]
    rw [e1] at hnext
    have hf := floor_spec _ hin
    have hp : putI x (i + 1) = [x / 256 ^ i % 256] ++ putI x i := rfl
    rw [hp, nums_append] at hnext
    have hsz : (strOfNums (putI x i)).size = i := by rw [nums_size, putI_len]
    have hin' := hin
    generalize x / 256 ^ i = y at *
    unfold in64 at hin
    rw [decide_eq_true_eq] at hin
    have hnext := hnext (by unfold in64; rw [decide_eq_true_eq]; omega)
    refine Ev.succ (fun k => by simp only [reredosref05_put.l0]; rfl) ?_
    rw [w64 (x := (i : Int) + 1) (by omega) (by omega)]
    refine Ev.pos (by omega) ?_
    rw [Int.tmod_eq_emod]
    have e256 : (256 : Int).natAbs = 256 := rfl
    rw [e256]
    by_cases h0 : 0 ≤ y ∨ (256 : Int) ∣ y
    · rw [if_pos h0]
      refine Ev.neg (by omega) (Ev.bindc (a := [y % 256]) (by congr 2; omega) ?_)
      refine Ev.pos (by rw [nums_size, hsz, List.length_singleton]; omega) (Ev.bindc hf hnext)
    · rw [if_neg h0]
      have e3 : (y % 256 - ((256 : Nat) : Int) + 256) = y % 256 := by omega
      refine Ev.pos (by omega) (Ev.bindc (a := [y % 256]) (by rw [e3, w64 (by omega) (by omega)]; rw [Int.emod_emod]) ?_)
      refine Ev.pos (by rw [nums_size, hsz, List.length_singleton]; omega) (Ev.bindc hf hnext)

theorem ref_put_spec (x : Int) (hx : in64 x = true) (m : Nat) (hm : m ≤ 8) : Ev (fun k => reredosref05_put.f k x (m : Int)) (strOfNums (putI x m)) := by
  unfold reredosref05_put.f
  have := ref_put_loop x m hm m 0 (by omega) (by rwa [Int.pow_zero, Int.ediv_one])
  rw [Int.pow_zero, Int.ediv_one] at this
  exact this

/-! ### numbers laid in a width -/
def layV (l : List Int) (m : Nat) : List Int := l.flatMap (fun x => putI x m)
theorem layV_len (l : List Int) (m : Nat) : (layV l m).length = l.length * m := by
  induction l with
  | nil => simp [layV]
  | cons x l ih =>
    unfold layV at ih ⊢
    rw [List.flatMap_cons, List.length_append, ih, putI_len, List.length_cons, Nat.succ_mul, Nat.add_comm]
theorem layV_cons (x : Int) (l : List Int) (m : Nat) : layV (x :: l) m = putI x m ++ layV l m := rfl

theorem lay_loop (l s : List Int) (hl : l.length ≤ 1099511627776) (hs : s.length ≤ 1099511627776) (m : Nat) (hm : m ≤ 8) (w : Int) (hw : w = 8 * (m : Int)) (d : Nat) : ∀ (i : Nat) (acc : List Int), i + d = l.length → acc.length ≤ i * 8 →
    Ev (fun k => typed_lay.l0 k s w acc l (l.length : Int) (i : Int)) (w, s, strOfNums (acc ++ layV (l.drop i) m)) := by
  induction d with
  | zero =>
    intro i acc hi ha
    rw [List.drop_eq_nil_of_le (by omega)]
    have hc : slices_Clone_int_int.f s = some s := by unfold slices_Clone_int_int.f; rw [if_pos (by omega)]
    refine Ev.succ (fun k => by simp only [typed_lay.l0]; rfl) ?_
    refine Ev.neg (by omega) (Ev.bindc hc ?_)
    rw [layV, List.flatMap_nil, List.append_nil]
    exact Ev.now _
  | succ d ih =>
    intro i acc hi ha
    have hd := drop_rd l i (by omega)
    rw [hd, layV_cons, ← List.append_assoc]
    refine Ev.succ (fun k => by simp only [typed_lay.l0]; rfl) ?_
    refine Ev.pos (by omega) (Ev.pos (by omega) (Ev.pos (by omega) (Ev.bind (typed_put_spec _ w m hm hw) ?_)))
    rw [putI_len, w64 (by omega) (by omega)]
    refine Ev.pos (by omega) ?_
    exact ih (i + 1) _ (by omega) (by rw [List.length_append, putI_len]; omega)
theorem lay_spec (l s : List Int) (hl : l.length ≤ 1099511627776) (hs : s.length ≤ 1099511627776) (m : Nat) (hm : m ≤ 8) (w : Int) (hw : w = 8 * (m : Int)) : Ev (fun k => typed_lay.f k l s w) (w, s, strOfNums (layV l m)) := by
  unfold typed_lay.f
  have := lay_loop l s hl hs m hm w hw l.length 0 [] (by omega) (by simp)
  rwa [List.nil_append, List.drop_zero] at this

theorem intB_in (s : ByteArray) : in64 (intB s).1 = true := by
  unfold intB
  split
  · split
    · rename_i h; exact h
    · rfl
  · rfl
def intsV (e : List ByteArray) : List Int := e.map (fun s => (intB s).1)

theorem ref_lay_loop (l : List Int) (e : List ByteArray) (hl : e.length ≤ 1099511627776) (hs : ∀ s ∈ e, s.size ≤ 1099511627776) (m : Nat) (hm : m ≤ 8) (w : Int) (hw : w = 8 * (m : Int)) (d : Nat) : ∀ (i : Nat) (acc : List Int), i + d = e.length → acc.length ≤ i * 8 →
    Ev (fun k => reredosref05_lay.l0 k w (i : Int) l e w l (strOfNums acc)) (w, l, strOfNums (acc ++ layV (intsV (e.drop i)) m)) := by
  induction d with
  | zero =>
    intro i acc hi ha
    rw [List.drop_eq_nil_of_le (by omega)]
    refine Ev.succ (f := fun _ => some (w, l, strOfNums acc)) (fun k => by simp only [reredosref05_lay.l0]; rw [if_neg (by omega)]) ?_
    rw [intsV, List.map_nil, layV, List.flatMap_nil, List.append_nil]
    exact Ev.now _
  | succ d ih =>
    intro i acc hi ha
    have hd := drop_rdOf e i (by omega)
    have h1 := ref_Int_spec _ (hs _ (rdOf_mem e i (by omega)))
    have e1 : wrap64 (Int.tdiv w 8) = (m : Int) := by
      rw [Int.tdiv_eq_ediv_of_nonneg (by omega), w64 (by omega) (by omega)]; omega
    rw [hd, intsV, List.map_cons, layV_cons, ← List.append_assoc]
    refine Ev.succ (fun k => by simp only [reredosref05_lay.l0]; rfl) ?_
    rw [e1]
    refine Ev.pos (by omega) (Ev.pos (by omega) (Ev.bind h1 (Ev.bind (ref_put_spec _ (intB_in _) m hm) ?_)))
    rw [nums_size, nums_size, putI_len, w64 (by omega) (by omega)]
    refine Ev.pos (by omega) ?_
    rw [← nums_append]
    exact ih (i + 1) _ (by omega) (by rw [List.length_append, putI_len]; omega)
theorem ref_lay_spec (l : List Int) (e : List ByteArray) (hl : e.length ≤ 1099511627776) (hs : ∀ s ∈ e, s.size ≤ 1099511627776) (m : Nat) (hm : m ≤ 8) (w : Int) (hw : w = 8 * (m : Int)) : Ev (fun k => reredosref05_lay.f k l e w) (w, l, strOfNums (layV (intsV e) m)) := by
  unfold reredosref05_lay.f
  have := ref_lay_loop l e hl hs m hm w hw e.length 0 [] (by omega) (by simp)
  rwa [List.nil_append, List.drop_zero] at this

/-! ### packed -/
theorem known_spec (w : Int) : Ev (fun k => typed_known.f k w) (decide (w = 8 ∨ w = 16 ∨ w = 32 ∨ w = 64)) := by
  unfold typed_known.f
  refine Ev.bind (anyE [8, 16, 32, 64] w (by decide)) ?_
  have e : ([8, 16, 32, 64] : List Int).any (fun n => decide (w = n)) = decide (w = 8 ∨ w = 16 ∨ w = 32 ∨ w = 64) := by
    simp [Bool.decide_or]
  rw [e]
  exact Ev.now _

theorem lsame_self (w : Int) (l : List Int) (d : ByteArray) (hl : l.length ≤ 1099511627776) : Ev (fun k => reredoslaw05_same.f k w l d w l d) true := by
  unfold reredoslaw05_same.f
  refine Ev.pos rfl (Ev.bind (same_self l hl) (Ev.pos rfl ?_))
  rw [beq_self_eq_true]
  exact Ev.now _

end Go.Proofs.YtlemmdfjcnhjkaaGreatDoor.P
namespace Go.Proofs.YtlemmdfjcnhjkaaGreatDoor.P
open Go.RowKit Go.Proofs.YtlemmdfjcnhjkaaGreatDoorW.PrintWords Go.Proofs.YtlemmdfjcnhjkaaGreatDoorW.PrintLast Go.Proofs.YtlemmdfjcnhjkaaGreatDoorW.PrintMore

/-- A byte behind what stands 256 times higher. -/
theorem or_byte (a b : Int) (ha0 : -9223372036854775808 ≤ a * 256) (ha1 : a * 256 < 9223372036854775808) (hb0 : 0 ≤ b) (hb1 : b < 256) : Go.bits .or .i64 (a * 256) b = a * 256 + b := by
  have hm : ∃ m : Nat, ((a * 256) % 18446744073709551616).toNat = m <<< 8 := ⟨((a % 72057594037927936).toNat), by rw [Nat.shiftLeft_eq]; omega⟩
  obtain ⟨m, hm⟩ := hm
  have hb : (b % 18446744073709551616).toNat = b.toNat := by omega
  have hlt : b.toNat < 2 ^ 8 := by omega
  have h64 : IntKind.bits .i64 = 64 := rfl
  simp only [Go.bits, h64, BitVec.toNat_or, BitVec.toNat_ofInt]
  rw [show ((2 ^ 64 : Nat) : Int) = 18446744073709551616 from rfl, hm, hb, ← Nat.shiftLeft_add_eq_or_of_lt hlt]
  rw [← hm]
  rw [IntKind.wrap_i64]
  omega

/-- A text's bytes as a number, the highest first, behind a number. -/
def getI : Int → List UInt8 → Int
  | x, [] => x
  | x, c :: l => getI (x * 256 + (c.toNat : Int)) l
/-- How many bytes in: what a number of so many bytes may be. -/
def inB (x : Int) (m : Nat) : Prop := -(128 * 256 ^ m) ≤ x ∧ x < 128 * 256 ^ m
theorem inB_step (x : Int) (m : Nat) (c : UInt8) (h : inB x m) : inB (x * 256 + (c.toNat : Int)) (m + 1) := by
  have := c.toNat_lt
  unfold inB at h ⊢
  rw [Int.pow_succ]
  generalize (256 : Int) ^ m = p at *
  omega
theorem inB_64 (x : Int) (m : Nat) (h : inB x m) (hm : m ≤ 7) : -9223372036854775808 ≤ x ∧ x ≤ 9223372036854775807 := by
  unfold inB at h
  have e : ∀ k, k < 8 → (256 : Int) ^ k ≤ 72057594037927936 := by decide
  have := e m (by omega)
  omega
def sgnB (c : UInt8) : Int := if c.toNat < 128 then (c.toNat : Int) else (c.toNat : Int) - 256
def getV : List UInt8 → Int
  | [] => 0
  | c :: l => getI (sgnB c) l

theorem get_loop (s : ByteArray) (hs : s.size ≤ 8) (d : Nat) : ∀ (i : Nat) (x : Int), i + 1 + d = s.size → inB x i →
    Ev (fun k => typed_get.l0 k s x ((s.size : Int) - 1) (i : Int)) (getI x ((Ls s).drop (i + 1))) := by
  induction d with
  | zero =>
    intro i x hi _
    rw [List.drop_eq_nil_of_le (by rw [Ls_len]; omega)]
    refine Ev.succ (f := fun _ => some x) (fun k => by simp only [typed_get.l0]; rw [if_neg (by omega)]) (Ev.now _)
  | succ d ih =>
    intro i x hi hx
    have hl : i + 1 < (Ls s).length := by rw [Ls_len]; omega
    have hn := inB_step x i ((Ls s)[i + 1]) hx
    have h1 := inB_64 _ _ hn (by omega)
    have hc := ((Ls s)[i + 1]).toNat_lt
    rw [List.drop_eq_getElem_cons hl]
    refine Ev.succ (fun k => by simp only [typed_get.l0]; rfl) ?_
    rw [w64 (x := (i : Int) + 1) (by omega) (by omega)]
    refine Ev.pos (by omega) (Ev.pos (by omega) (Ev.pos (by omega) ?_))
    have e : bt s ((i : Int) + 1) = (((Ls s)[i + 1]).toNat : Int) := by
      have := bt_get s (i + 1) (by omega)
      rw [← this]; rfl
    rw [e, w64 (x := x * 256) (by omega) (by omega), w64 (x := (((Ls s)[i + 1]).toNat : Int)) (by omega) (by omega), or_byte x _ (by omega) (by omega) (by omega) (by omega)]
    exact ih (i + 1) _ (by omega) hn

theorem get_spec (s : ByteArray) (h0 : 0 < s.size) (hs : s.size ≤ 8) : Ev (fun k => typed_get.f k s) (getV (Ls s)) := by
  unfold typed_get.f
  have hl : 0 < (Ls s).length := by rw [Ls_len]; omega
  have hc := ((Ls s)[0]).toNat_lt
  have e : IntKind.i8.wrap (bt s 0) = sgnB ((Ls s)[0]) := by
    have e8 : ∀ n : Int, IntKind.i8.wrap n = (n + 128) % 256 - 128 := by
      intro n
      simp [IntKind.wrap, IntKind.bits, IntKind.signed]
      split <;> omega
    rw [bt_head s h0, e8]
    unfold sgnB
    split <;> omega
  have hg0 : ∀ (l : List UInt8) (h : 0 < l.length), getV l = getI (sgnB (l[0])) (l.drop 1) := by
    intro l h
    cases l with
    | nil => simp at h
    | cons c l => rfl
  have hg := hg0 (Ls s) hl
  have hb : inB (sgnB ((Ls s)[0])) 0 := by
    unfold inB sgnB
    rw [Int.pow_zero]
    split <;> omega
  have hb' := inB_64 _ _ hb (by omega)
  refine Ev.pos (by omega) ?_
  rw [e, w64 hb'.1 hb'.2, w64 (by omega) (by omega), hg]
  exact get_loop s hs (s.size - 1) 0 _ (by omega) hb

end Go.Proofs.YtlemmdfjcnhjkaaGreatDoor.P
namespace Go.Proofs.YtlemmdfjcnhjkaaGreatDoor.P
open Go.RowKit Go.Proofs.YtlemmdfjcnhjkaaGreatDoorW.PrintWords Go.Proofs.YtlemmdfjcnhjkaaGreatDoorW.PrintLast Go.Proofs.YtlemmdfjcnhjkaaGreatDoorW.PrintMore

/-- How many bytes an element has. -/
def mB (w : Int) : Nat := (w / 8).toNat
def mayT (w : Int) (s : List Int) (d : ByteArray) : Bool := decide (w = 8 ∨ w = 16 ∨ w = 32 ∨ w = 64) && (decide ((sizeV s).2 = 0) && decide ((d.size : Int) = (sizeV s).1 * (mB w : Int)))
def manyT (w : Int) (s : List Int) (d : ByteArray) : Int := if mayT w s d = true then (sizeV s).1 else 0

theorem mB_spec (w : Int) (h : w = 8 ∨ w = 16 ∨ w = 32 ∨ w = 64) : 1 ≤ mB w ∧ mB w ≤ 8 ∧ w = 8 * (mB w : Int) := by unfold mB; omega

theorem T_May_spec (w : Int) (s : List Int) (d : ByteArray) : Ev (fun k => typed_Typed_May.f k w s d) (mayT w s d) := by
  unfold typed_Typed_May.f mayT
  have hb := sizeV_le s
  refine Ev.bind (shape_Size_spec s) (Ev.bind (known_spec w) ?_)
  by_cases hw : w = 8 ∨ w = 16 ∨ w = 32 ∨ w = 64
  · rw [decide_eq_true hw, Bool.true_and]
    have hm := mB_spec w hw
    refine Ev.pos rfl (Ev.ite (fun h => ?_) (fun h => ?_))
    · rw [decide_eq_true h, Bool.true_and]
      have hp0 : 0 ≤ (sizeV s).1 * (mB w : Int) := Int.mul_nonneg hb.1 (by omega)
      have hp1 : (sizeV s).1 * (mB w : Int) ≤ 4096 * 8 := Int.mul_le_mul hb.2 (by omega) (by omega) (by omega)
      have e : (sizeV s).1 * w = 8 * ((sizeV s).1 * (mB w : Int)) := by
        have h2 := hm.2.2
        generalize (mB w : Int) = m at h2 ⊢
        rw [h2]
        exact Int.mul_left_comm _ _ _
      rw [e]
      generalize (sizeV s).1 * (mB w : Int) = p at *
      rw [w64 (x := 8 * p) (by omega) (by omega), Int.tdiv_eq_ediv_of_nonneg (by omega), w64 (by omega) (by omega), Int.mul_ediv_cancel_left _ (by decide), Bool.beq_eq_decide_eq]
      exact Ev.now _
    · rw [decide_eq_false h, Bool.false_and]
      exact Ev.now _
  · rw [decide_eq_false hw, Bool.false_and]
    exact Ev.neg (by simp) (Ev.now _)

theorem mayT_tells {w : Int} {s : List Int} {d : ByteArray} (h : mayT w s d = true) : (w = 8 ∨ w = 16 ∨ w = 32 ∨ w = 64) ∧ (sizeV s).2 = 0 ∧ (d.size : Int) = (sizeV s).1 * (mB w : Int) := by
  unfold mayT at h
  rw [Bool.and_eq_true, Bool.and_eq_true, decide_eq_true_eq, decide_eq_true_eq, decide_eq_true_eq] at h
  exact ⟨h.1, h.2.1, h.2.2⟩

theorem T_Many_spec (w : Int) (s : List Int) (d : ByteArray) : Ev (fun k => typed_Typed_Many.f k w s d) (manyT w s d) := by
  unfold typed_Typed_Many.f manyT
  refine Ev.bind (T_May_spec w s d) (Ev.ite (fun h => ?_) (fun h => ?_))
  · rw [if_pos h]
    have ht := mayT_tells h
    have hm := mB_spec w ht.1
    have hb := sizeV_le s
    have hp0 : 0 ≤ (sizeV s).1 * (mB w : Int) := Int.mul_nonneg hb.1 (by omega)
    have hp1 : (sizeV s).1 * (mB w : Int) ≤ 4096 * 8 := Int.mul_le_mul hb.2 (by omega) (by omega) (by omega)
    refine Ev.neg (by omega) ?_
    have e : (d.size : Int) * 8 = (sizeV s).1 * w := by
      rw [ht.2.2, Int.mul_assoc]
      congr 1
      omega
    rw [w64 (x := (d.size : Int) * 8) (by omega) (by omega), e, Int.mul_tdiv_cancel _ (by omega), w64 (by omega) (by omega)]
    exact Ev.now _
  · rw [if_neg h]
    exact Ev.now _

end Go.Proofs.YtlemmdfjcnhjkaaGreatDoor.P
namespace Go.Proofs.YtlemmdfjcnhjkaaGreatDoor.P
open Go.RowKit Go.Proofs.YtlemmdfjcnhjkaaGreatDoorW.PrintWords Go.Proofs.YtlemmdfjcnhjkaaGreatDoorW.PrintLast Go.Proofs.YtlemmdfjcnhjkaaGreatDoorW.PrintMore

theorem Ls_extract (s : ByteArray) (a b : Nat) : Ls (s.extract a b) = ((Ls s).drop a).take (b - a) := by
  unfold Ls
  rw [ByteArray.data_extract, Array.toList_extract]

/-- The element i of an array of one width. -/
def atV (w : Int) (d : ByteArray) (i : Nat) : Int := getV (((Ls d).drop (i * mB w)).take (mB w))

theorem T_At_out (w : Int) (s : List Int) (d : ByteArray) (i : Int) (h : i < 0 ∨ manyT w s d ≤ i) : Ev (fun k => typed_Typed_At.f k w s d i) (0, false) := by
  unfold typed_Typed_At.f
  refine Ev.ite (fun _ => Ev.now _) (fun h0 => ?_)
  exact Ev.bind (T_Many_spec w s d) (Ev.pos (by omega) (Ev.now _))

theorem T_At_spec (w : Int) (s : List Int) (d : ByteArray) (i : Nat) (h : (i : Int) < manyT w s d) : Ev (fun k => typed_Typed_At.f k w s d (i : Int)) (atV w d i, true) := by
  unfold typed_Typed_At.f
  refine Ev.neg (by omega) (Ev.bind (T_Many_spec w s d) (Ev.neg (by omega) ?_))
  have hmay : mayT w s d = true := by
    unfold manyT at h
    split at h
    · rename_i e; exact e
    · omega
  have ht := mayT_tells hmay
  have hm := mB_spec w ht.1
  have hb := sizeV_le s
  have hn : manyT w s d = (sizeV s).1 := by unfold manyT; rw [if_pos hmay]
  rw [hn] at h
  have e8 : wrap64 (Int.tdiv w 8) = (mB w : Int) := by
    rw [Int.tdiv_eq_ediv_of_nonneg (by omega), w64 (by omega) (by omega)]; omega
  have hi1 : ((i + 1 : Nat) : Int) * (mB w : Int) ≤ (sizeV s).1 * (mB w : Int) := Int.mul_le_mul_of_nonneg_right (by omega) (by omega)
  have hp1 : (sizeV s).1 * (mB w : Int) ≤ 4096 * 8 := Int.mul_le_mul hb.2 (by omega) (by omega) (by omega)
  have ei : (i : Int) * (mB w : Int) = ((i * mB w : Nat) : Int) := (Int.natCast_mul _ _).symm
  have ei1 : ((i : Int) + 1) * (mB w : Int) = (((i + 1) * mB w : Nat) : Int) := (Int.natCast_mul _ _).symm
  have es : (i + 1) * mB w = i * mB w + mB w := Nat.succ_mul _ _
  rw [e8, w64 (x := (i : Int) + 1) (by omega) (by omega), ei, ei1]
  have hi1' : (((i + 1) * mB w : Nat) : Int) ≤ (d.size : Int) := by rw [ht.2.2, ← ei1]; exact hi1
  rw [es] at hi1' ⊢
  generalize hq : i * mB w = q at *
  rw [w64 (x := (q : Int)) (by omega) (by omega), w64 (x := ((q + mB w : Nat) : Int)) (by omega) (by omega)]
  refine Ev.pos (by omega) (Ev.pos (by omega) (Ev.pos (by omega) ?_))
  rw [Int.toNat_natCast, Int.toNat_natCast]
  have hl : (d.extract q (q + mB w)).size = mB w := by rw [ByteArray.size_extract]; omega
  have hg := get_spec (d.extract q (q + mB w)) (by omega) (by omega)
  rw [Ls_extract, show q + mB w - q = mB w by omega] at hg
  have ea : atV w d i = getV (((Ls d).drop q).take (mB w)) := by unfold atV; rw [hq]
  rw [ea]
  exact Ev.bind hg (Ev.now _)

/-- All elements. -/
def allV (w : Int) (s : List Int) (d : ByteArray) : List Int := (List.range (manyT w s d).toNat).map (atV w d)
theorem manyT_le (w : Int) (s : List Int) (d : ByteArray) : 0 ≤ manyT w s d ∧ manyT w s d ≤ 4096 := by
  unfold manyT
  have := sizeV_le s
  split
  · exact this
  · exact ⟨by decide, by decide⟩

theorem all_loop (w : Int) (s : List Int) (d : ByteArray) (n : Nat) (hn : (n : Int) = manyT w s d) (e : Nat) : ∀ i : Nat, i + e = n →
    Ev (fun k => typed_Typed_all.l0 k ((List.range i).map (atV w d)) (manyT w s d) (i : Int) w s d) ((List.range n).map (atV w d)) := by
  have hb := manyT_le w s d
  induction e with
  | zero =>
    intro i hi
    rw [show i = n by omega]
    refine Ev.succ (f := fun _ => some ((List.range n).map (atV w d))) (fun k => by simp only [typed_Typed_all.l0]; rw [if_neg (by omega)]) (Ev.now _)
  | succ e ih =>
    intro i hi
    have hnext := ih (i + 1) (by omega)
    rw [List.range_succ, List.map_append] at hnext
    refine Ev.succ (fun k => by simp only [typed_Typed_all.l0]; rfl) ?_
    refine Ev.pos (by omega) (Ev.bind (T_At_spec w s d i (by omega)) (Ev.pos (by rw [List.length_map, List.length_range]; omega) ?_))
    rw [w64 (by omega) (by omega)]
    exact hnext
theorem T_all_spec (w : Int) (s : List Int) (d : ByteArray) : Ev (fun k => typed_Typed_all.f k w s d) (allV w s d) := by
  unfold typed_Typed_all.f allV
  have hb := manyT_le w s d
  exact Ev.bind (T_Many_spec w s d) (all_loop w s d _ (by omega) _ 0 (Nat.zero_add _))
theorem allV_len (w : Int) (s : List Int) (d : ByteArray) : ((allV w s d).length : Int) = manyT w s d := by
  have hb := manyT_le w s d
  unfold allV
  rw [List.length_map, List.length_range]
  omega

/-- An array in another width. -/
def toV (w : Int) (s : List Int) (d : ByteArray) (u : Int) : Int × List Int × ByteArray × Bool :=
  if mayT w s d = true ∧ knownB u = true ∧ ((allV w s d).any fun x => !(fitsB x u)) = false then (u, s, strOfNums (layV (allV w s d) (mB u)), true) else (0, [], ⟨#[]⟩, false)
theorem T_To_spec (w : Int) (s : List Int) (d : ByteArray) (u : Int) : Ev (fun k => typed_Typed_To.f k w s d u) (toV w s d u) := by
  unfold typed_Typed_To.f toV
  refine Ev.bind (T_all_spec w s d) (Ev.bind (T_May_spec w s d) (Ev.ite (fun h1 => Ev.ite (fun h2 => Ev.ite (fun h3 => ?_) (fun h3 => ?_)) (fun h2 => ?_)) (fun h1 => ?_)))
  · rw [if_neg (fun e => by rw [h3] at e; exact absurd e.2.2 (by simp))]
    exact Ev.now _
  · rw [if_pos ⟨h1, h2, Bool.eq_false_iff.2 h3⟩]
    have hk : u = 8 ∨ u = 16 ∨ u = 32 ∨ u = 64 := of_decide_eq_true h2
    have hm := mB_spec u hk
    have hl := allV_len w s d
    have hb := manyT_le w s d
    have hs := sizeV_len (mayT_tells h1).2.1
    exact Ev.bind (lay_spec (allV w s d) s (by omega) (by omega) (mB u) hm.2.1 u hm.2.2) (Ev.now _)
  · rw [if_neg (fun e => h2 e.2.1)]
    exact Ev.now _
  · rw [if_neg (fun e => h1 e.1)]
    exact Ev.now _

end Go.Proofs.YtlemmdfjcnhjkaaGreatDoor.P
namespace Go.Proofs.YtlemmdfjcnhjkaaGreatDoor.P
open Go.RowKit Go.Proofs.YtlemmdfjcnhjkaaGreatDoorW.PrintWords Go.Proofs.YtlemmdfjcnhjkaaGreatDoorW.PrintLast Go.Proofs.YtlemmdfjcnhjkaaGreatDoorW.PrintMore

def u8s (xs : List Int) : List UInt8 := xs.map (fun n => UInt8.ofNat n.toNat)
theorem u8_mod (y : Int) : ((UInt8.ofNat (y % 256).toNat).toNat : Int) = y % 256 := by
  rw [UInt8.toNat_ofNat']
  omega
theorem div_step (y : Int) (m : Nat) : y / 256 ^ (m + 1) = y / 256 ^ m / 256 := by
  rw [Int.pow_succ, Int.ediv_ediv_of_nonneg (Int.pow_nonneg (by omega))]
theorem getI_put (y : Int) (m : Nat) : getI (y / 256 ^ m) (u8s (putI y m)) = y := by
  induction m with
  | zero =>
    simp only [putI, u8s, List.map_nil, getI, Int.pow_zero, Int.ediv_one]
  | succ m ih =>
    simp only [putI, u8s, List.map_cons, getI]
    rw [u8_mod, div_step, show y / 256 ^ m / 256 * 256 + y / 256 ^ m % 256 = y / 256 ^ m by omega]
    exact ih
theorem getV_put (y : Int) (m : Nat) (h : -128 ≤ y / 256 ^ m ∧ y / 256 ^ m < 128) : getV (u8s (putI y (m + 1))) = y := by
  simp only [putI, u8s, List.map_cons, getV]
  have e : sgnB (UInt8.ofNat (y / 256 ^ m % 256).toNat) = y / 256 ^ m := by
    have := u8_mod (y / 256 ^ m)
    unfold sgnB
    split <;> omega
  rw [e]
  exact getI_put y m

theorem getI_back (l : List UInt8) : ∀ x : Int, getI x l / 256 ^ l.length = x ∧ u8s (putI (getI x l) l.length) = l := by
  induction l with
  | nil => intro x; exact ⟨by simp only [getI, List.length_nil, Int.pow_zero, Int.ediv_one], rfl⟩
  | cons c l ih =>
    intro x
    obtain ⟨h1, h2⟩ := ih (x * 256 + (c.toNat : Int))
    have hc := c.toNat_lt
    simp only [getI, List.length_cons]
    refine ⟨by rw [div_step, h1]; omega, ?_⟩
    simp only [putI, u8s, List.map_cons]
    unfold u8s at h2
    rw [h1, h2, show ((x * 256 + (c.toNat : Int)) % 256).toNat = c.toNat by omega, UInt8.ofNat_toNat]
theorem getV_back (c : UInt8) (l : List UInt8) : u8s (putI (getV (c :: l)) (l.length + 1)) = c :: l ∧ -128 ≤ getV (c :: l) / 256 ^ l.length ∧ getV (c :: l) / 256 ^ l.length < 128 := by
  obtain ⟨h1, h2⟩ := getI_back l (sgnB c)
  have hc := c.toNat_lt
  have hs : (sgnB c % 256).toNat = c.toNat ∧ -128 ≤ sgnB c ∧ sgnB c < 128 := by unfold sgnB; split <;> omega
  simp only [getV]
  refine ⟨?_, by rw [h1]; exact hs.2.1, by rw [h1]; exact hs.2.2⟩
  simp only [putI, u8s, List.map_cons]
  unfold u8s at h2
  rw [h1, h2, hs.1, UInt8.ofNat_toNat]

theorem fits_iff (y u : Int) (hk : u = 8 ∨ u = 16 ∨ u = 32 ∨ u = 64) (h : in64 y = true) : fitsB y u = true ↔ -128 ≤ y / 256 ^ (mB u - 1) ∧ y / 256 ^ (mB u - 1) < 128 := by
  unfold in64 at h
  rw [decide_eq_true_eq] at h
  have e0 : (256 : Int) ^ 0 = 1 := rfl
  have e1 : (256 : Int) ^ 1 = 256 := rfl
  have e3 : (256 : Int) ^ 3 = 16777216 := rfl
  have e7 : (256 : Int) ^ 7 = 72057594037927936 := rfl
  rcases hk with rfl | rfl | rfl | rfl
  · rw [show mB 8 - 1 = 0 from rfl, e0]; simp only [fitsB, if_true, decide_eq_true_eq]; omega
  · rw [show mB 16 - 1 = 1 from rfl, e1]; simp only [fitsB, if_true]; rw [if_neg (by decide), decide_eq_true_eq]; omega
  · rw [show mB 32 - 1 = 3 from rfl, e3]; simp only [fitsB, if_true]; rw [if_neg (by decide), if_neg (by decide), decide_eq_true_eq]; omega
  · rw [show mB 64 - 1 = 7 from rfl, e7]; simp only [fitsB]; rw [if_neg (by decide), if_neg (by decide), if_neg (by decide)]; simp only [true_iff]; omega

end Go.Proofs.YtlemmdfjcnhjkaaGreatDoor.P
namespace Go.Proofs.YtlemmdfjcnhjkaaGreatDoor.P
open Go.RowKit Go.Proofs.YtlemmdfjcnhjkaaGreatDoorW.PrintWords Go.Proofs.YtlemmdfjcnhjkaaGreatDoorW.PrintLast Go.Proofs.YtlemmdfjcnhjkaaGreatDoorW.PrintMore

theorem u8s_lay (l : List Int) (m : Nat) : Ls (strOfNums (layV l m)) = l.flatMap (fun x => u8s (putI x m)) := by
  rw [Ls_nums]
  unfold layV u8s
  rw [List.map_flatMap]
theorem u8s_len (x : Int) (m : Nat) : (u8s (putI x m)).length = m := by unfold u8s; rw [List.length_map, putI_len]

theorem chunk_lay (m : Nat) (l : List Int) : ∀ (i : Nat) (h : i < l.length), ((l.flatMap (fun x => u8s (putI x m))).drop (i * m)).take m = u8s (putI (l[i]) m) := by
  induction l with
  | nil => intro i h; simp at h
  | cons x l ih =>
    intro i h
    rw [List.flatMap_cons]
    cases i with
    | zero =>
      rw [Nat.zero_mul, List.drop_zero, List.take_append_of_le_length (by rw [u8s_len]; exact Nat.le_refl _), List.take_of_length_le (by rw [u8s_len]; exact Nat.le_refl _)]
      rfl
    | succ i =>
      have h' : i < l.length := by simpa using h
      rw [Nat.succ_mul, Nat.add_comm, ← List.drop_drop, List.drop_left' (u8s_len x m)]
      exact ih i h'

theorem getV_in64 (L : List UInt8) (h1 : 1 ≤ L.length) (h2 : L.length ≤ 8) : in64 (getV L) = true := by
  cases L with
  | nil => simp at h1
  | cons c l =>
    obtain ⟨_, ha, hb⟩ := getV_back c l
    have hp : ∀ k, k < 8 → (0 : Int) < 256 ^ k ∧ (256 : Int) ^ k ≤ 72057594037927936 := by decide
    have hq := hp l.length (by simp only [List.length_cons] at h2; omega)
    generalize (256 : Int) ^ l.length = p at *
    rw [Int.le_ediv_iff_mul_le hq.1] at ha
    rw [Int.ediv_lt_iff_lt_mul hq.1] at hb
    unfold in64
    rw [decide_eq_true_eq]
    omega

theorem size_many {w : Int} {s : List Int} {d : ByteArray} (h : mayT w s d = true) : d.size = (manyT w s d).toNat * mB w := by
  have ht := mayT_tells h
  have hb := sizeV_le s
  have hn : manyT w s d = (sizeV s).1 := by unfold manyT; rw [if_pos h]
  have : ((manyT w s d).toNat : Int) = (sizeV s).1 := by rw [hn]; omega
  apply Int.ofNat_inj.1
  rw [Int.natCast_mul, this]
  exact ht.2.2

theorem chunk_len {w : Int} {s : List Int} {d : ByteArray} (h : mayT w s d = true) (i : Nat) (hi : i < (manyT w s d).toNat) : (((Ls d).drop (i * mB w)).take (mB w)).length = mB w := by
  rw [List.length_take, List.length_drop, Ls_len, size_many h]
  have : (i + 1) * mB w ≤ (manyT w s d).toNat * mB w := Nat.mul_le_mul_right _ hi
  rw [Nat.succ_mul] at this
  omega

theorem at_in64 {w : Int} {s : List Int} {d : ByteArray} (h : mayT w s d = true) (i : Nat) (hi : i < (manyT w s d).toNat) : in64 (atV w d i) = true := by
  have hm := mB_spec w (mayT_tells h).1
  have hc := chunk_len h i hi
  exact getV_in64 _ (by omega) (by omega)

/-- All elements laid in a width that they fit: an array of that width, of as many elements, the same ones. -/
theorem laid {w : Int} {s : List Int} {d : ByteArray} {u : Int} (h : mayT w s d = true) (hk : u = 8 ∨ u = 16 ∨ u = 32 ∨ u = 64) (hf : ((allV w s d).any fun x => !(fitsB x u)) = false) :
    mayT u s (strOfNums (layV (allV w s d) (mB u))) = true ∧ manyT u s (strOfNums (layV (allV w s d) (mB u))) = manyT w s d ∧ ∀ i, i < (manyT w s d).toNat → atV u (strOfNums (layV (allV w s d) (mB u))) i = atV w d i := by
  have ht := mayT_tells h
  have hm := mB_spec u hk
  have hb := manyT_le w s d
  have hl := allV_len w s d
  have hn : manyT w s d = (sizeV s).1 := by unfold manyT; rw [if_pos h]
  have hmay : mayT u s (strOfNums (layV (allV w s d) (mB u))) = true := by
    unfold mayT
    rw [decide_eq_true hk, decide_eq_true ht.2.1, nums_size, layV_len, Int.natCast_mul, hl, hn, decide_eq_true rfl]
    rfl
  refine ⟨hmay, by unfold manyT; rw [if_pos hmay, if_pos h], fun i hi => ?_⟩
  have hil : i < (allV w s d).length := by omega
  have he : (allV w s d)[i] = atV w d i := by simp [allV]
  have hfit : fitsB (atV w d i) u = true := by
    have := List.any_eq_false.1 hf _ (List.getElem_mem hil)
    rw [he] at this
    simpa using this
  have hin := (fits_iff _ u hk (at_in64 h i hi)).1 hfit
  have hq : atV u (strOfNums (layV (allV w s d) (mB u))) i = getV (u8s (putI (atV w d i) (mB u))) := by
    unfold atV
    rw [u8s_lay, chunk_lay _ _ i hil, he]
    rfl
  rw [hq]
  have e : mB u = (mB u - 1) + 1 := by omega
  rw [e]
  exact getV_put _ _ hin

end Go.Proofs.YtlemmdfjcnhjkaaGreatDoor.P
namespace Go.Proofs.YtlemmdfjcnhjkaaGreatDoor.P
open Go.RowKit Go.Proofs.YtlemmdfjcnhjkaaGreatDoorW.PrintWords Go.Proofs.YtlemmdfjcnhjkaaGreatDoorW.PrintLast Go.Proofs.YtlemmdfjcnhjkaaGreatDoorW.PrintMore

theorem lfew_eq (x : Int) (l : List Int) (d : ByteArray) : reredoslaw05_few.f x l d = some (decide ((d.size : Int) ≤ 2400) && decide ((l.length : Int) ≤ 20)) := by
  unfold reredoslaw05_few.f
  by_cases h : (d.size : Int) ≤ 2400
  · rw [if_pos h, decide_eq_true h]; rfl
  · rw [if_neg h, decide_eq_false h]; rfl

end Go.Proofs.YtlemmdfjcnhjkaaGreatDoor.P
namespace Go.Proofs.YtlemmdfjcnhjkaaGreatDoor.P
open Go.RowKit Go.Proofs.YtlemmdfjcnhjkaaGreatDoorW.PrintWords Go.Proofs.YtlemmdfjcnhjkaaGreatDoorW.PrintLast Go.Proofs.YtlemmdfjcnhjkaaGreatDoorW.PrintMore

/-! ### are arrays fine -/

/-! ### numbers as texts -/
theorem num_Of_spec (x : Int) (h : in64 x = true) : num_Of.f x = some (mkS (Lib.itoa x)) := by
  have h' := of_decide_eq_true h
  show Option.bind (if (10 : Int) = 10 ∧ -9223372036854775808 ≤ x ∧ x ≤ 9223372036854775807 then some (⟨(Lib.itoa x).toArray⟩ : ByteArray) else none) (fun t => some t) = _
  rw [if_pos ⟨rfl, by omega, by omega⟩]
  rfl
theorem clone_int (l : List Int) (h : l.length ≤ 17592186044416) : slices_Clone_int_int.f l = some l := by unfold slices_Clone_int_int.f; rw [if_pos h]
def itoS (x : Int) : ByteArray := mkS (Lib.itoa x)

/-! ### items -/

/-! ### the same -/

/-! ### some items -/
end Go.Proofs.YtlemmdfjcnhjkaaGreatDoor.P
namespace Go.Proofs.YtlemmdfjcnhjkaaGreatDoor.P
open Go.RowKit Go.Proofs.YtlemmdfjcnhjkaaGreatDoorW.PrintWords Go.Proofs.YtlemmdfjcnhjkaaGreatDoorW.PrintLast Go.Proofs.YtlemmdfjcnhjkaaGreatDoorW.PrintMore

/-! ### the numbers below one -/

/-! ### reversed -/
end Go.Proofs.YtlemmdfjcnhjkaaGreatDoor.P
namespace Go.Proofs.YtlemmdfjcnhjkaaGreatDoor.P
open Go.RowKit Go.Proofs.YtlemmdfjcnhjkaaGreatDoorW.PrintWords Go.Proofs.YtlemmdfjcnhjkaaGreatDoorW.PrintLast Go.Proofs.YtlemmdfjcnhjkaaGreatDoorW.PrintMore

theorem in64_abs {x : Int} (h : in64 x = true) : x.natAbs < 10 ^ 100 := by
  have := of_decide_eq_true h
  exact lt_100 (by omega)
theorem may_ito {x : Int} (h : in64 x = true) : mayB (itoS x) = true := by
  show mayL (Ls (mkS (Lib.itoa x))) = true
  rw [Ls_mk]
  exact itoa_may x (in64_abs h)
theorem int_ito {x : Int} (h : in64 x = true) : intB (itoS x) = (x, true) := by
  unfold intB
  rw [if_pos (may_ito h), show Ls (itoS x) = Lib.itoa x from Ls_mk _, valL_itoa, if_pos h]
theorem ito_size {x : Int} (h : in64 x = true) : (itoS x).size ≤ 120 := itoa_size_le 120 100 x (in64_abs h) (by omega) (by omega)

theorem rdOf_get (xs : List ByteArray) (i : Nat) (h : i < xs.length) : rdOf ByteArray.empty xs (i : Int) = xs[i] := by simp [rdOf, List.getD_eq_getElem?_getD, h]
end Go.Proofs.YtlemmdfjcnhjkaaGreatDoor.P
namespace Go.Proofs.YtlemmdfjcnhjkaaGreatDoor.P
open Go.RowKit Go.Proofs.YtlemmdfjcnhjkaaGreatDoorW.PrintWords Go.Proofs.YtlemmdfjcnhjkaaGreatDoorW.PrintLast Go.Proofs.YtlemmdfjcnhjkaaGreatDoorW.PrintMore

/-! ### a number as a text -/
theorem ref_of_nat (n : Nat) : ∀ x : Int, x.natAbs = n → in64 x = true → Ev (fun k => reredosref01_Of.f k x) (itoS x) := by
  induction n using Nat.strongRecOn with
  | _ n ih =>
    intro x hn h64
    have h := of_decide_eq_true h64
    refine Ev.succ (fun k => by simp only [reredosref01_Of.f]; rfl) ?_
    by_cases h0 : x < 0
    · refine Ev.pos h0 ?_
      by_cases h1 : x > -10
      · refine Ev.pos h1 (Ev.bindc rfl ?_)
        rw [w64 (by omega) (by omega), show (48 - x : Int) = ((48 + x.natAbs : Nat) : Int) by omega]
        have e : (⟨#[45]⟩ : ByteArray) ++ strOfNums [((48 + x.natAbs : Nat) : Int) % 256] = itoS x := by
          apply Ls_inj
          rw [Ls_append, one_fig _ (by omega)]
          show [45] ++ _ = Ls (mkS (Lib.itoa x))
          rw [Ls_mk, show x = -(x.natAbs : Int) by omega, Lib.itoa_neg _ (by omega), decDigits_small (by omega)]
          simp
        rw [e]
        refine Ev.pos ?_ (Ev.now _)
        rw [nums_size]
        show 1 + 1 ≤ 9223372036854775807
        omega
      · refine Ev.neg h1 ?_
        have hq : Int.tdiv x 10 = -((x.natAbs / 10 : Nat) : Int) := by
          rw [show x = -(x.natAbs : Int) by omega, Int.neg_tdiv, Int.tdiv_eq_ediv_of_nonneg (by omega)]; omega
        have hr : Int.tmod x 10 = -((x.natAbs % 10 : Nat) : Int) := by
          rw [show x = -(x.natAbs : Int) by omega, Int.neg_tmod, Int.tmod_eq_emod_of_nonneg (by omega)]; omega
        rw [hq, hr, w64 (x := -((x.natAbs / 10 : Nat) : Int)) (by omega) (by omega)]
        have ih1 := ih (x.natAbs / 10) (by omega) (-((x.natAbs / 10 : Nat) : Int)) (by omega) (decide_eq_true (by omega))
        refine Ev.bind ih1 (Ev.bindc rfl ?_)
        rw [w64 (by omega) (by omega), show (48 - -((x.natAbs % 10 : Nat) : Int) : Int) = ((48 + x.natAbs % 10 : Nat) : Int) by omega]
        have e : itoS (-((x.natAbs / 10 : Nat) : Int)) ++ strOfNums [((48 + x.natAbs % 10 : Nat) : Int) % 256] = itoS x := by
          apply Ls_inj
          rw [Ls_append, one_fig _ (by omega)]
          show Ls (mkS _) ++ _ = Ls (mkS (Lib.itoa x))
          rw [Ls_mk, Ls_mk]
          conv => rhs; rw [show x = -(x.natAbs : Int) by omega]
          rw [Lib.itoa_neg _ (by omega), Lib.itoa_neg _ (by omega), decDigits_step (i := x.natAbs) (by omega)]
          rfl
        rw [e]
        refine Ev.pos ?_ (Ev.now _)
        have := ito_size (x := -((x.natAbs / 10 : Nat) : Int)) (decide_eq_true (by omega))
        rw [nums_size]
        show _ + 1 ≤ _
        omega
    · refine Ev.neg h0 ?_
      by_cases h1 : x < 10
      · refine Ev.pos h1 ?_
        rw [w64 (by omega) (by omega), show (48 + x : Int) = ((48 + x.natAbs : Nat) : Int) by omega]
        have e : strOfNums [((48 + x.natAbs : Nat) : Int) % 256] = itoS x := by
          apply Ls_inj
          rw [one_fig _ (by omega)]
          show _ = Ls (mkS (Lib.itoa x))
          rw [Ls_mk, show x = (x.natAbs : Int) by omega, Lib.itoa_nonneg, decDigits_small (by omega)]
          simp
        rw [e]
        exact Ev.now _
      · refine Ev.neg h1 ?_
        have hq : Int.tdiv x 10 = ((x.natAbs / 10 : Nat) : Int) := by
          rw [Int.tdiv_eq_ediv_of_nonneg (by omega)]; omega
        have hr : Int.tmod x 10 = ((x.natAbs % 10 : Nat) : Int) := by
          rw [Int.tmod_eq_emod_of_nonneg (by omega)]; omega
        rw [hq, hr, w64 (x := ((x.natAbs / 10 : Nat) : Int)) (by omega) (by omega)]
        have ih1 := ih (x.natAbs / 10) (by omega) (((x.natAbs / 10 : Nat) : Int)) (by omega) (decide_eq_true (by omega))
        refine Ev.bind ih1 (Ev.bindc rfl ?_)
        rw [w64 (by omega) (by omega), show (48 + ((x.natAbs % 10 : Nat) : Int) : Int) = ((48 + x.natAbs % 10 : Nat) : Int) by omega]
        have e : itoS (((x.natAbs / 10 : Nat) : Int)) ++ strOfNums [((48 + x.natAbs % 10 : Nat) : Int) % 256] = itoS x := by
          apply Ls_inj
          rw [Ls_append, one_fig _ (by omega)]
          show Ls (mkS _) ++ _ = Ls (mkS (Lib.itoa x))
          rw [Ls_mk, Ls_mk]
          conv => rhs; rw [show x = (x.natAbs : Int) by omega]
          rw [Lib.itoa_nonneg, Lib.itoa_nonneg, decDigits_step (i := x.natAbs) (by omega)]
        rw [e]
        refine Ev.pos ?_ (Ev.now _)
        have := ito_size (x := ((x.natAbs / 10 : Nat) : Int)) (decide_eq_true (by omega))
        rw [nums_size]
        show _ + 1 ≤ _
        omega
theorem ref_of (x : Int) (h : in64 x = true) : Ev (fun k => reredosref01_Of.f k x) (itoS x) := ref_of_nat _ x rfl h

/-! ### typed arrays -/
theorem R_known (w : Int) : reredosref05_known.f w = some (decide (w = 8 ∨ w = 16 ∨ w = 32 ∨ w = 64)) := by
  unfold reredosref05_known.f
  by_cases h1 : w = 8
  · rw [if_pos h1, decide_eq_true (by omega)]
  rw [if_neg h1]
  by_cases h2 : w = 16
  · rw [if_pos h2, decide_eq_true (by omega)]
  rw [if_neg h2]
  by_cases h3 : w = 32
  · rw [if_pos h3, decide_eq_true (by omega)]
  rw [if_neg h3, Bool.beq_eq_decide_eq]
  congr 1
  apply decide_eq_decide.2
  omega
theorem R_May_spec (w : Int) (s : List Int) (d : ByteArray) (hd : d.size ≤ 1099511627776) : Ev (fun k => reredosref05_May.f k w s d) (mayT w s d) := by
  unfold reredosref05_May.f mayT
  have hb := sizeV_le s
  refine Ev.bind (ref_Size_spec s) (Ev.bindc (R_known w) ?_)
  by_cases hw : w = 8 ∨ w = 16 ∨ w = 32 ∨ w = 64
  · rw [decide_eq_true hw, Bool.true_and]
    have hm := mB_spec w hw
    refine Ev.pos rfl (Ev.ite (fun h => ?_) (fun h => ?_))
    · rw [decide_eq_true h, Bool.true_and]
      have hp0 : 0 ≤ (sizeV s).1 * (mB w : Int) := Int.mul_nonneg hb.1 (by omega)
      have hp1 : (sizeV s).1 * (mB w : Int) ≤ 4096 * 8 := Int.mul_le_mul hb.2 (by omega) (by omega) (by omega)
      have e : (sizeV s).1 * w = 8 * ((sizeV s).1 * (mB w : Int)) := by
        have h2 := hm.2.2
        generalize (mB w : Int) = m at h2 ⊢
        rw [h2]
        exact Int.mul_left_comm _ _ _
      rw [e]
      generalize (sizeV s).1 * (mB w : Int) = p at *
      rw [w64 (x := 8 * p) (by omega) (by omega), w64 (by omega) (by omega), Bool.beq_eq_decide_eq, decide_eq_decide.2 (show 8 * (d.size : Int) = 8 * p ↔ (d.size : Int) = p by omega)]
      exact Ev.now _
    · rw [decide_eq_false h, Bool.false_and]
      exact Ev.now _
  · rw [decide_eq_false hw, Bool.false_and]
    exact Ev.neg (by simp) (Ev.now _)
theorem R_Many_spec (w : Int) (s : List Int) (d : ByteArray) (hd : d.size ≤ 1099511627776) : Ev (fun k => reredosref05_Many.f k w s d) (manyT w s d) := by
  unfold reredosref05_Many.f manyT
  refine Ev.bind (ref_Size_spec s) (Ev.bind (R_May_spec w s d hd) (Ev.ite (fun h => ?_) (fun h => ?_)))
  · rw [if_pos h]; exact Ev.now _
  · rw [if_neg h]; exact Ev.now _

/-! ### an element -/
theorem R_low (s : ByteArray) (c : UInt8) (l : List UInt8) (h : Ls s = c :: l) : reredosref05_low.f s = some (decide (128 ≤ c.toNat)) := by
  have hp : 0 < s.size := by rw [← Ls_len, h]; simp
  unfold reredosref05_low.f
  rw [Ls_eq, h, if_neg (by simp), if_pos (by omega), bt_head s hp]
  have e : (Ls s)[0]'(by rw [Ls_len]; exact hp) = c := by simp [h]
  rw [e, decide_eq_decide.2 (show ((c.toNat : Int) ≥ 128) ↔ 128 ≤ c.toNat by omega)]
theorem R_At_loop (s : ByteArray) (b : Bool) (hb : reredosref05_low.f s = some b) (hs : s.size ≤ 8) (d : Nat) : ∀ (i : Nat) (y : Int), i + 1 + d = s.size → inB y i → (b = true → y ≤ -1) →
    Ev (fun k => reredosref05_At.l0 k (s.size : Int) s (y + (if b = true then 1 else 0)) ((i : Int) + 1)) (getI y ((Ls s).drop (i + 1)), true) := by
  induction d with
  | zero =>
    intro i y hi hy hneg
    have h1 := inB_64 _ _ hy (by omega)
    have hy' := hy
    rw [List.drop_eq_nil_of_le (by rw [Ls_len]; omega)]
    refine Ev.succ (fun k => by simp only [reredosref05_At.l0]; rfl) ?_
    refine Ev.neg (by omega) (Ev.bindc hb ?_)
    cases b with
    | true =>
      refine Ev.pos rfl ?_
      rw [if_pos rfl, w64 (by omega) (by omega), show y + 1 - 1 = y by omega]
      exact Ev.now _
    | false =>
      refine Ev.neg (by simp) ?_
      rw [if_neg (by simp), Int.add_zero]
      exact Ev.now _
  | succ d ih =>
    intro i y hi hy hneg
    have hl : i + 1 < (Ls s).length := by rw [Ls_len]; omega
    have hn := inB_step y i ((Ls s)[i + 1]) hy
    have h1 := inB_64 _ _ hn (by omega)
    have hc := ((Ls s)[i + 1]).toNat_lt
    have e : bt s ((i : Int) + 1) = (((Ls s)[i + 1]).toNat : Int) := by
      have := bt_get s (i + 1) (by omega)
      rw [← this]; rfl
    have ih' := ih (i + 1) _ (by omega) hn (fun e_ => by have := hneg e_; omega)
    rw [List.drop_eq_getElem_cons hl]
    refine Ev.succ (fun k => by simp only [reredosref05_At.l0]; rfl) ?_
    refine Ev.pos (by omega) (Ev.bindc hb ?_)
    rw [e]
    cases b with
    | true =>
      refine Ev.pos rfl (Ev.pos (by omega) (Ev.pos (by omega) ?_))
      rw [if_pos rfl] at ih' ⊢
      rw [w64 (x := (((Ls s)[i + 1]).toNat : Int)) (by omega) (by omega), w64 (x := 255 - (((Ls s)[i + 1]).toNat : Int)) (by omega) (by omega)]
      have hneg' := hneg rfl
      have e2 : wrap64 (wrap64 (256 * (y + 1)) - (255 - (((Ls s)[i + 1]).toNat : Int))) = y * 256 + (((Ls s)[i + 1]).toNat : Int) + 1 := by
        unfold wrap64
        omega
      rw [e2, w64 (by omega) (by omega)]
      exact ih'
    | false =>
      refine Ev.neg (by simp) (Ev.pos (by omega) (Ev.pos (by omega) ?_))
      rw [if_neg (by simp), Int.add_zero] at ih' ⊢
      rw [w64 (x := (((Ls s)[i + 1]).toNat : Int)) (by omega) (by omega)]
      have e2 : wrap64 (wrap64 (256 * y) + (((Ls s)[i + 1]).toNat : Int)) = y * 256 + (((Ls s)[i + 1]).toNat : Int) := by
        unfold wrap64
        omega
      rw [e2, w64 (by omega) (by omega)]
      exact ih'
theorem R_At_elem (s : ByteArray) (h0 : 0 < s.size) (hs : s.size ≤ 8) : Ev (fun k => reredosref05_At.l0 k (s.size : Int) s 0 0) (getV (Ls s), true) := by
  cases hc : Ls s with
  | nil => rw [← Ls_len, hc] at h0; simp at h0
  | cons c l =>
    have hlow := R_low s c l hc
    have hlt := c.toNat_lt
    have e : bt s 0 = (c.toNat : Int) := by rw [bt_head s h0]; simp [hc]
    have hb : inB (sgnB c) 0 := by unfold inB sgnB; split <;> omega
    have hl := R_At_loop s _ hlow hs (s.size - 1) 0 (sgnB c) (by omega) hb (fun e_ => by rw [decide_eq_true_eq] at e_; unfold sgnB; rw [if_neg (by omega)]; omega)
    rw [hc] at hl
    refine Ev.succ (fun k => by simp only [reredosref05_At.l0]; rfl) ?_
    refine Ev.pos (by omega) (Ev.bindc hlow ?_)
    rw [e, show wrap64 (0 + 1) = ((0 : Nat) : Int) + 1 by rw [w64 (by omega) (by omega)]; rfl, w64 (x := (c.toNat : Int)) (by omega) (by omega)]
    by_cases h : 128 ≤ c.toNat
    · rw [decide_eq_true h] at hl ⊢
      refine Ev.pos rfl (Ev.pos (by omega) (Ev.pos (by omega) ?_))
      rw [if_pos rfl] at hl
      rw [w64 (x := 255 - (c.toNat : Int)) (by omega) (by omega)]
      have e2 : wrap64 (wrap64 (256 * 0) - (255 - (c.toNat : Int))) = sgnB c + 1 := by
        unfold wrap64 sgnB
        rw [if_neg (by omega)]
        omega
      rw [e2]
      exact hl
    · rw [decide_eq_false h] at hl ⊢
      refine Ev.neg (by simp) (Ev.pos (by omega) (Ev.pos (by omega) ?_))
      rw [if_neg (by simp), Int.add_zero] at hl
      have e2 : wrap64 (wrap64 (256 * 0) + (c.toNat : Int)) = sgnB c := by
        unfold wrap64 sgnB
        rw [if_pos (by omega)]
        omega
      rw [e2]
      exact hl
theorem R_At_out (w : Int) (s : List Int) (d : ByteArray) (i : Int) (hd : d.size ≤ 1099511627776) (h : i < 0 ∨ manyT w s d ≤ i) : Ev (fun k => reredosref05_At.f k w s d i) (0, false) := by
  unfold reredosref05_At.f
  have hj : Ev (fun k => reredosref05_At.j0 k i true w s d) (0, false) := Ev.succ (fun k => by simp only [reredosref05_At.j0]; rfl) (Ev.pos trivial (Ev.now _))
  refine Ev.bind (R_May_spec w s d hd) (Ev.ite (fun _ => Ev.ite (fun _ => hj) (fun h0 => Ev.bind (R_Many_spec w s d hd) ?_)) (fun _ => hj))
  rw [decide_eq_true (by omega)]
  exact hj
theorem R_At_spec (w : Int) (s : List Int) (d : ByteArray) (i : Nat) (hd : d.size ≤ 1099511627776) (h : (i : Int) < manyT w s d) : Ev (fun k => reredosref05_At.f k w s d (i : Int)) (atV w d i, true) := by
  unfold reredosref05_At.f
  have hmay : mayT w s d = true := by
    unfold manyT at h
    split at h
    · rename_i e; exact e
    · omega
  have hMay := R_May_spec w s d hd
  rw [hmay] at hMay
  refine Ev.bind hMay (Ev.pos rfl (Ev.neg (by omega) (Ev.bind (R_Many_spec w s d hd) ?_)))
  rw [decide_eq_false (by omega)]
  refine Ev.succ (fun k => by simp only [reredosref05_At.j0]; rfl) ?_
  refine (Ev.neg (by decide) ?_)
  have ht := mayT_tells hmay
  have hm := mB_spec w ht.1
  have hb := sizeV_le s
  have hn : manyT w s d = (sizeV s).1 := by unfold manyT; rw [if_pos hmay]
  rw [hn] at h
  have e8 : wrap64 (Int.tdiv w 8) = (mB w : Int) := by
    rw [Int.tdiv_eq_ediv_of_nonneg (by omega), w64 (by omega) (by omega)]; omega
  have hi1 : ((i + 1 : Nat) : Int) * (mB w : Int) ≤ (sizeV s).1 * (mB w : Int) := Int.mul_le_mul_of_nonneg_right (by omega) (by omega)
  have hp1 : (sizeV s).1 * (mB w : Int) ≤ 4096 * 8 := Int.mul_le_mul hb.2 (by omega) (by omega) (by omega)
  have ei : (i : Int) * (mB w : Int) = ((i * mB w : Nat) : Int) := (Int.natCast_mul _ _).symm
  have ei1 : ((i : Int) + 1) * (mB w : Int) = (((i + 1) * mB w : Nat) : Int) := (Int.natCast_mul _ _).symm
  have es : (i + 1) * mB w = i * mB w + mB w := Nat.succ_mul _ _
  rw [e8, w64 (x := (i : Int) + 1) (by omega) (by omega), ei, ei1]
  have hi1' : (((i + 1) * mB w : Nat) : Int) ≤ (d.size : Int) := by rw [ht.2.2, ← ei1]; exact hi1
  rw [es] at hi1' ⊢
  have ea : atV w d i = getV (((Ls d).drop (i * mB w)).take (mB w)) := rfl
  rw [ea]
  generalize i * mB w = q at *
  rw [w64 (x := (q : Int)) (by omega) (by omega), w64 (x := ((q + mB w : Nat) : Int)) (by omega) (by omega)]
  refine Ev.pos (by omega) (Ev.pos (by omega) (Ev.pos (by omega) ?_))
  rw [Int.toNat_natCast, Int.toNat_natCast]
  have hl : (d.extract q (q + mB w)).size = mB w := by rw [ByteArray.size_extract]; omega
  have hg := R_At_elem (d.extract q (q + mB w)) (by omega) (by omega)
  rw [Ls_extract, show q + mB w - q = mB w by omega, hl] at hg
  exact hg

/-! ### the array of numbers as texts -/
def valT (w : Int) (s : List Int) (d : ByteArray) : List Int × List ByteArray × Bool := if mayT w s d = true then (s, (allV w s d).map itoS, true) else ([], [], false)
theorem all_in64 {w : Int} {s : List Int} {d : ByteArray} (h : mayT w s d = true) : ∀ x ∈ allV w s d, in64 x = true := by
  intro x hx
  unfold allV at hx
  obtain ⟨i, hi, rfl⟩ := List.mem_map.1 hx
  exact at_in64 h i (List.mem_range.1 hi)
theorem R_Val_loop (w : Int) (s : List Int) (d : ByteArray) (hd : d.size ≤ 1099511627776) (hm : mayT w s d = true) (n : Nat) (hn : (n : Int) = manyT w s d) (e : Nat) : ∀ i : Nat, i + e = n →
    Ev (fun k => reredosref05_Val.l0 k (i : Int) w s d s (((List.range i).map (atV w d)).map itoS)) (s, ((List.range n).map (atV w d)).map itoS, true) := by
  have hb := manyT_le w s d
  induction e with
  | zero =>
    intro i hi
    rw [show i = n by omega]
    refine Ev.succ (fun k => by simp only [reredosref05_Val.l0]; rfl) ?_
    exact (Ev.bind (R_Many_spec w s d hd) (Ev.neg (by omega) (Ev.now _)))
  | succ e ih =>
    intro i hi
    have hnext := ih (i + 1) (by omega)
    rw [List.range_succ, List.map_append, List.map_append] at hnext
    refine Ev.succ (fun k => by simp only [reredosref05_Val.l0]; rfl) ?_
    refine (Ev.bind (R_Many_spec w s d hd) (Ev.pos (by omega) (Ev.bind (R_At_spec w s d i hd (by omega)) (Ev.bind (ref_of (atV w d i) (at_in64 hm i (by omega))) (Ev.pos (by rw [List.length_map, List.length_map, List.length_range]; omega) ?_)))))
    rw [w64 (by omega) (by omega)]
    exact hnext
theorem R_Val_spec (w : Int) (s : List Int) (d : ByteArray) (hd : d.size ≤ 1099511627776) : Ev (fun k => reredosref05_Val.f k w s d) (valT w s d) := by
  unfold reredosref05_Val.f valT
  have hb := manyT_le w s d
  refine Ev.bind (R_May_spec w s d hd) (Ev.ite (fun h => ?_) (fun h => ?_))
  · rw [if_pos h]
    exact R_Val_loop w s d hd h (manyT w s d).toNat (by omega) _ 0 (Nat.zero_add _)
  · rw [if_neg h]; exact Ev.now _
theorem T_Val_loop (s : List Int) (l : List Int) (hl : l.length ≤ 1099511627776) (hr : ∀ x ∈ l, in64 x = true) (e : Nat) : ∀ i : Nat, i + e = l.length →
    Ev (fun k => typed_Typed_Val.l0 k l (l.length : Int) (i : Int) s ((l.take i).map itoS)) (s, l.map itoS, true) := by
  induction e with
  | zero =>
    intro i hi
    rw [List.take_of_length_le (by omega)]
    refine Ev.succ (fun k => by simp only [typed_Typed_Val.l0]; rfl) ?_
    exact (Ev.neg (by omega) (Ev.now _))
  | succ e ih =>
    intro i hi
    have hlt : i < l.length := by omega
    have hnext := ih (i + 1) (by omega)
    have eg : rd l (i : Int) = l[i] := by simp [rd, hlt]
    rw [List.take_succ_eq_append_getElem hlt, List.map_append] at hnext
    refine Ev.succ (fun k => by simp only [typed_Typed_Val.l0]; rfl) ?_
    refine (Ev.pos (by omega) (Ev.pos (by omega) (Ev.pos (by omega) (Ev.bindc (num_Of_spec _ (hr _ (rd_mem l i hlt))) (Ev.pos (by rw [List.length_map, List.length_take]; omega) ?_)))))
    rw [w64 (by omega) (by omega), eg]
    exact hnext
theorem T_Val_spec (w : Int) (s : List Int) (d : ByteArray) : Ev (fun k => typed_Typed_Val.f k w s d) (valT w s d) := by
  unfold typed_Typed_Val.f valT
  have hb := manyT_le w s d
  have hl := allV_len w s d
  refine Ev.bind (T_May_spec w s d) (Ev.ite (fun h => ?_) (fun h => ?_))
  · rw [if_pos h]
    have hs := sizeV_len (mayT_tells h).2.1
    refine Ev.bindc (clone_int s (by omega)) (Ev.bind (T_all_spec w s d) ?_)
    have := T_Val_loop s (allV w s d) (by omega) (all_in64 h) _ 0 (Nat.zero_add _)
    exact this
  · rw [if_neg h]; exact Ev.now _

/-! ### an array in another width -/
theorem fits_in (x u y : Int) (h : in64 x = true) (hk : (u = 8 ∧ y = 127) ∨ (u = 16 ∧ y = 32767) ∨ (u = 32 ∧ y = 2147483647) ∨ (u = 64 ∧ y = 9223372036854775807)) : decide (-y - 1 ≤ x ∧ x ≤ y) = fitsB x u := by
  have h' := of_decide_eq_true h
  rw [Bool.eq_iff_iff, decide_eq_true_eq]
  rcases hk with ⟨rfl, rfl⟩ | ⟨rfl, rfl⟩ | ⟨rfl, rfl⟩ | ⟨rfl, rfl⟩
  · simp only [fitsB, if_true, decide_eq_true_eq]; omega
  · simp only [fitsB, if_true]; rw [if_neg (by decide), decide_eq_true_eq]; omega
  · simp only [fitsB, if_true]; rw [if_neg (by decide), if_neg (by decide), decide_eq_true_eq]; omega
  · simp only [fitsB]; rw [if_neg (by decide), if_neg (by decide), if_neg (by decide)]; simp only [iff_true]; omega
theorem R_In (x u : Int) (h : in64 x = true) (hk : u = 8 ∨ u = 16 ∨ u = 32 ∨ u = 64) : Ev (fun k => reredosref02_In.f k (itoS x) u) (fitsB x u) := by
  have ht : Tells (itoS x) x := tells_mk x 100 (in64_abs h) (by omega) (by omega)
  rcases hk with rfl | rfl | rfl | rfl
  · rw [← fits_in x 8 127 h (by simp)]
    exact in_spec _ x 8 _ 127 ht (in64_abs h) bound_8.1 bound_8.2 (by decide)
  · rw [← fits_in x 16 32767 h (by simp)]
    exact in_spec _ x 16 _ 32767 ht (in64_abs h) bound_16.1 bound_16.2 (by decide)
  · rw [← fits_in x 32 2147483647 h (by simp)]
    exact in_spec _ x 32 _ 2147483647 ht (in64_abs h) bound_32.1 bound_32.2 (by decide)
  · rw [← fits_in x 64 9223372036854775807 h (by simp)]
    exact in_spec _ x 64 _ 9223372036854775807 ht (in64_abs h) bound_64.1 bound_64.2 (by decide)
theorem ints_ito (l : List Int) (hr : ∀ x ∈ l, in64 x = true) : intsV (l.map itoS) = l := by
  unfold intsV
  rw [List.map_map]
  conv => rhs; rw [← List.map_id l]
  apply List.map_congr_left
  intro x hx
  show (intB (itoS x)).1 = x
  rw [int_ito (hr x hx)]
theorem R_To_loop (l s : List Int) (u : Int) (hk : u = 8 ∨ u = 16 ∨ u = 32 ∨ u = 64) (hl : l.length ≤ 1099511627776) (hr : ∀ x ∈ l, in64 x = true) (e : Nat) : ∀ i : Nat, i + e = l.length →
    Ev (fun k => reredosref05_To.l0 k u (i : Int) s (l.map itoS)) (if ((l.drop i).any fun x => !(fitsB x u)) = false then (u, s, strOfNums (layV l (mB u)), true) else (0, [], ⟨#[]⟩, false)) := by
  have hm := mB_spec u hk
  induction e with
  | zero =>
    intro i hi
    rw [List.drop_eq_nil_of_le (by omega), if_pos (show (([] : List Int).any fun x => !(fitsB x u)) = false from rfl)]
    have hlay := ref_lay_spec s (l.map itoS) (by rw [List.length_map]; omega) (fun t ht => by obtain ⟨x, hx, rfl⟩ := List.mem_map.1 ht; have := ito_size (hr x hx); omega) (mB u) hm.2.1 u hm.2.2
    rw [ints_ito l hr] at hlay
    refine Ev.succ (fun k => by simp only [reredosref05_To.l0]; rfl) ?_
    exact (Ev.neg (by rw [List.length_map]; omega) (Ev.bind hlay (Ev.now _)))
  | succ e ih =>
    intro i hi
    have hlt : i < l.length := by omega
    have eg : rdOf ByteArray.empty (l.map itoS) (i : Int) = itoS l[i] := by rw [rdOf_get _ _ (by rw [List.length_map]; exact hlt), List.getElem_map]
    refine Ev.succ (fun k => by simp only [reredosref05_To.l0]; rfl) ?_
    refine (Ev.pos (by rw [List.length_map]; omega) (Ev.pos (by omega) ?_))
    rw [eg]
    refine Ev.bind (R_In l[i] u (hr _ (List.getElem_mem hlt)) hk) ?_
    rw [List.drop_eq_getElem_cons hlt, List.any_cons]
    cases hf : fitsB l[i] u with
    | true =>
      refine Ev.pos rfl ?_
      rw [w64 (by omega) (by omega)]
      exact ih (i + 1) (by omega)
    | false => exact Ev.neg (by simp) (Ev.now _)
theorem R_To_spec (w : Int) (s : List Int) (d : ByteArray) (u : Int) (hd : d.size ≤ 1099511627776) : Ev (fun k => reredosref05_To.f k w s d u) (toV w s d u) := by
  unfold reredosref05_To.f toV
  refine Ev.bind (R_Val_spec w s d hd) ?_
  have hj : ∀ a b, Ev (fun k => reredosref05_To.j0 k u true a b) (0, [], ⟨#[]⟩, false) := fun a b => Ev.succ (fun k => by simp only [reredosref05_To.j0]; rfl) (Ev.pos trivial (Ev.now _))
  by_cases hm : mayT w s d = true
  · have e : valT w s d = (s, (allV w s d).map itoS, true) := by unfold valT; rw [if_pos hm]
    rw [e]
    refine Ev.pos rfl (Ev.bindc (R_known u) ?_)
    by_cases hk : u = 8 ∨ u = 16 ∨ u = 32 ∨ u = 64
    · have hkb : knownB u = true := decide_eq_true hk
      rw [decide_eq_true hk]
      have hl := allV_len w s d
      have hb := manyT_le w s d
      have := R_To_loop (allV w s d) s u hk (by omega) (all_in64 hm) _ 0 (Nat.zero_add _)
      rw [List.drop_zero] at this
      refine Ev.succ (fun k => by simp only [reredosref05_To.j0]; rfl) ?_
      refine (Ev.neg (by decide) ?_)
      simp only [hm, hkb, true_and]
      exact this
    · have hkb : ¬ knownB u = true := fun e => hk (of_decide_eq_true e)
      rw [decide_eq_false hk, if_neg (fun e => hkb e.2.1)]
      exact hj _ _
  · have e : valT w s d = ([], [], false) := by unfold valT; rw [if_neg hm]
    rw [e, if_neg (fun e => hm e.1)]
    exact Ev.neg (by decide) (hj _ _)

end Go.Proofs.YtlemmdfjcnhjkaaGreatDoor.P
namespace Go.Proofs.YtlemmdfjcnhjkaaGreatDoor.P
open Go.RowKit Go.Proofs.YtlemmdfjcnhjkaaGreatDoorW.PrintWords Go.Proofs.YtlemmdfjcnhjkaaGreatDoorW.PrintLast Go.Proofs.YtlemmdfjcnhjkaaGreatDoorW.PrintMore

theorem same04_loop (l : List Int) (e : List ByteArray) (he : e.length ≤ 1099511627776) (d : Nat) : ∀ i : Nat, i + d = e.length → Ev (fun k => reredosref04_Same.l0 k (i : Int) l e l e) true := by
  induction d with
  | zero =>
    intro i hi
    exact Ev.succ (fun k => by simp only [reredosref04_Same.l0]; rfl) (Ev.neg (by omega) (Ev.now _))
  | succ d ih =>
    intro i hi
    refine Ev.succ (fun k => by simp only [reredosref04_Same.l0]; rfl) (Ev.pos (by omega) (Ev.pos (by omega) (Ev.pos (by omega) (Ev.pos trivial ?_))))
    rw [w64 (by omega) (by omega)]
    exact ih (i + 1) (by omega)
theorem same04_self (l : List Int) (e : List ByteArray) (hl : l.length ≤ 1099511627776) (he : e.length ≤ 1099511627776) : Ev (fun k => reredosref04_Same.f k l e l e) true := by
  unfold reredosref04_Same.f
  refine Ev.bind (same_self l hl) (Ev.pos rfl ?_)
  rw [bne_self_eq_false]
  refine Ev.succ (fun k => by simp only [reredosref04_Same.j0]; rfl) ?_
  exact Ev.neg (by decide) (same04_loop l e he e.length 0 (by omega))

theorem at_both (w : Int) (s : List Int) (d : ByteArray) (i : Int) (hd : d.size ≤ 1099511627776) : ∃ r : Int × Bool, Ev (fun k => typed_Typed_At.f k w s d i) r ∧ Ev (fun k => reredosref05_At.f k w s d i) r := by
  by_cases h : i < 0 ∨ manyT w s d ≤ i
  · exact ⟨_, T_At_out w s d i h, R_At_out w s d i hd h⟩
  · obtain ⟨n, rfl⟩ := Int.eq_ofNat_of_zero_le (show 0 ≤ i by omega)
    exact ⟨_, T_At_spec w s d n (by omega), R_At_spec w s d n hd (by omega)⟩
/-- TypedTells, plainly. -/
theorem tells_law (w : Int) (s : List Int) (d : ByteArray) (i u : Int) : Ev (fun k => reredoslaw05_TypedTells.f k w s d i u) true := by
  unfold reredoslaw05_TypedTells.f
  refine Ev.bindc rfl (Ev.bindc (lfew_eq w s d) (Ev.ite (fun h => ?_) (fun _ => Ev.now _)))
  rw [Bool.and_eq_true, decide_eq_true_eq, decide_eq_true_eq] at h
  have hd : d.size ≤ 1099511627776 := by omega
  obtain ⟨r, r1, r2⟩ := at_both w s d i hd
  have hv : (valT w s d).1.length ≤ 1099511627776 ∧ (valT w s d).2.1.length ≤ 1099511627776 := by
    have hl := allV_len w s d
    have hb := manyT_le w s d
    unfold valT
    split
    · exact ⟨by show s.length ≤ _; omega, by show ((allV w s d).map itoS).length ≤ _; rw [List.length_map]; omega⟩
    · exact ⟨by decide, by decide⟩
  have ht : (toV w s d u).2.1.length ≤ 1099511627776 := by
    unfold toV
    split
    · show s.length ≤ _; omega
    · decide
  refine Ev.bindc rfl (Ev.bind r1 (Ev.bind r2 (Ev.bind (T_Val_spec w s d) (Ev.bind (R_Val_spec w s d hd) (Ev.bind (T_To_spec w s d u) (Ev.bind (R_To_spec w s d u hd) (Ev.bind (T_May_spec w s d) (Ev.bind (R_May_spec w s d hd) ?_))))))))
  refine Ev.pos (by simp) (Ev.bind (T_Many_spec w s d) (Ev.bind (R_Many_spec w s d hd) (Ev.pos rfl (Ev.pos rfl (Ev.pos (by simp) (Ev.bind (same04_self _ _ hv.1 hv.2) (Ev.pos rfl (Ev.pos (by simp) (Ev.bind (lsame_self _ _ _ ht) (Ev.pos rfl ?_))))))))))
  rw [beq_self_eq_true]
  exact Ev.now _

end Go.Proofs.YtlemmdfjcnhjkaaGreatDoor.P
namespace Go.Proofs.YtlemmdfjcnhjkaaGreatDoor
open Go Go.ChangeShapes Go.WideShapes Go.ChangeAt Go.WideMaps Go.WideElems Go.RowKit
open Go.Proofs.YtlemmdfjcnhjkaaGreatDoorW.PrintWords
namespace TypedTells

set_option maxRecDepth 100000 in
theorem lifted (os : Os) (started : os.Started) (H : Type) (enc : TypeId × Value → H) :
    ReturnsInHanded {} Tryz.checked os 3 .any (fun w args => (Rows.typedTellsSpec.pre enc Tryz.prog Tryz.f3 [] false w args ∧ laidMetH Tryz.prog laidList w) ∧ sizedMet enc Tryz.prog Tryz.f3 (OpenSpec.ofChange Rows.typedTellsSpec) false w args)
      (Rows.typedTellsSpec.post enc Tryz.prog Tryz.f3 false true false false) := by
  refine returnsInHanded_of_change_and (C := Tryz.checked) (X := fun w _ => laidMetH Tryz.prog laidList w) (fun _ _ _ hh h => h.of_heap hh) ownKnob_none started (by kernel_rfl) Tryz.func3
    (ChangeSpec.witness_shaped (enc := enc) (C := Tryz.checked) (os := os) (X := fun w _ => laidMetH Tryz.prog laidList w) false (World.doorLaid Tryz.prog 62 os) #[.agg #[.int .i64 0, .slice none 0 0, .string ByteArray.empty], .int .i64 0, .int .i64 0] 8 rfl (World.shaped_of_RefB (by kernel_rfl) (by kernel_rfl)) (by kernel_rfl) (by kernel_rfl) (by kernel_rfl) (door_met os _)) ?_
  intro W base args ds gs before hval0 hW _ _ hL _
  have hval : ∀ (j : Nat) t v, Tryz.f3.params[j]? = some t → args[j]? = some v → Value.okWide Tryz.prog W .any base t v := hval0
  have hW' := hW
  obtain ⟨p, q, hA0, hV, rfl, hfz, hnd⟩ := hW
  have hA : DataW.TrodAll enc Tryz.prog W 0 (fun _ => true) true Tryz.f3.params.toList args.toList ds p := hA0
  rw [Tryz.params3] at hA hval
  obtain ⟨v0, vs0, d0, ds0, p0, q0, hargs, rfl, rfl, h0, r0⟩ := trodAll_cons hA
  obtain ⟨v1, vs1, d1, ds1, p1, q1, rfl, rfl, rfl, h1, r1⟩ := trodAll_cons r0
  obtain ⟨v2, vs2, d2, ds2, p2, q2, rfl, rfl, rfl, h2, r2⟩ := trodAll_cons r1
  obtain ⟨rfl, rfl, rfl⟩ := trodAll_nil r2
  obtain rfl : args = #[v0, v1, v2] := by cases args; simp_all
  obtain ⟨rfl, rfl⟩ := trodVars_none hV
  have k0 := h0
  have lt0 : ∀ x ∈ p0, x.block < W.heap.size := by obtain ⟨m, hm⟩ := k0; exact DataW.trod_lt m _ _ _ hm
  obtain ⟨b0_0, b0_1, b0_2, y0_0, y0_1, y0_2, n0, rfl, hd0, hp0, t0_0, t0_1, t0_2⟩ := Joins.open_agg3 Tryz.underlying24 (by kernel_rfl) (by kernel_rfl) (hval 0 24 v0 rfl rfl) h0
  obtain ⟨x0_0, rfl⟩ := int_cell Tryz.underlying3 t0_0
  obtain ⟨A0_1, c0_1, l0_1, rfl, hc0_1, hr0_1⟩ := ints_row Tryz.underlying22 Tryz.underlying3 (by kernel_rfl) t0_1
  obtain ⟨x0_2, rfl⟩ := string_cell Tryz.underlying9 t0_2
  have k1 := h1
  have lt1 : ∀ x ∈ p1, x.block < W.heap.size := by obtain ⟨m, hm⟩ := k1; exact DataW.trod_lt m _ _ _ hm
  obtain ⟨a1, rfl, rfl, rfl, w1⟩ := open_int Tryz.underlying3 (hval 1 3 v1 rfl rfl) h1
  have k2 := h2
  have lt2 : ∀ x ∈ p2, x.block < W.heap.size := by obtain ⟨m, hm⟩ := k2; exact DataW.trod_lt m _ _ _ hm
  obtain ⟨a2, rfl, rfl, rfl, w2⟩ := open_int Tryz.underlying3 (hval 2 3 v2 rfl rfl) h2
  clear hA0 hval0
  obtain ⟨k, hk⟩ := (P.tells_law x0_0 l0_1 x0_2 a1 a2).rounds
  refine (P.reredoslaw05_TypedTells.calls k x0_0 A0_1 c0_1 l0_1 x0_2 a1 a2 true W hr0_1 hc0_1 hk (glob_of_laid hL)).mono fun e W' ⟨he, bel⟩ => ?_
  subst he
  exact ⟨_, rfl, _, _, _, [], _, [], hW', trodAll_mk1 (shut_bool Tryz.underlying4 _), (trodAll_cons_mk (Below.trod laidOut (by kernel_rfl) (of_decide_eq_true (by kernel_rfl)) k0 bel lt0) (trodAll_cons_mk (Below.trod laidOut (by kernel_rfl) (of_decide_eq_true (by kernel_rfl)) k1 bel lt1) (trodAll_cons_mk (Below.trod laidOut (by kernel_rfl) (of_decide_eq_true (by kernel_rfl)) k2 bel lt2) trodAll_mk0))), rfl, bel.frame _, fun h => by cases h⟩

theorem holds : Rows.TypedTellsSaid :=
  OpenClaim.holds_of_wide 3 Tryz.f3 rfl rfl rfl rfl rfl rfl rfl ⟨rfl, rfl, rfl, rfl, rfl⟩ rfl rfl rfl rfl rfl (by kernel_rfl) Tryz.func3 (by kernel_rfl)
    (of_decide_eq_true (by kernel_rfl)) (by unfold Func.isWrapper; first | (rw [if_pos (by decide +kernel)]; kernel_rfl) | (rw [if_neg (by decide +kernel)]; exact ⟨rfl, rfl⟩))
    (fun os started H enc _ => lifted os started H enc)

end TypedTells
end Go.Proofs.YtlemmdfjcnhjkaaGreatDoor
namespace Go.Proofs.YtlemmdfjcnhjkaaGreatDoor
open Go
theorem typedTells_card : Rows.TypedTellsCardSaid :=
  Claim7.holds_tied_plain_at .later [] [.data, .data, .data, .sentinel, .sentinel] true (true, "202a8b2abff13e2b4643db5914ea2509029bcaf382787f93df11c28321498560") true
    TypedTells.holds (fun _ h => by cases h) (by kernel_rfl) (fun _ h => by cases h) typedTells_row_tie rfl ⟨rfl, rfl⟩ (by kernel_rfl) rfl
    (fun f fn hf hfn => by
      obtain rfl : f = 3 := Option.some.inj ((show Tryz.prog.funcNamed "reredos/reredoslaw05.TypedTells" = some 3 by kernel_rfl).symm.trans hf) |>.symm
      obtain rfl : fn = Tryz.f3 := (Option.some.inj (Tryz.func3.symm.trans hfn)).symm
      exact ⟨by kernel_rfl, fun j t ht => by
        rw [Tryz.params3] at ht
        have hm : t ∈ [24, 3, 3] := by simpa using Array.mem_of_getElem? ht
        have hall : ([24, 3, 3].all fun u => !Tryz.prog.wantsStandIn u) = true := by kernel_rfl
        exact (show Tryz.prog.wantsStandIn t = false by simpa using List.all_eq_true.1 hall t hm)⟩)
    (by kernel_rfl)
#print axioms typedTells_card
end Go.Proofs.YtlemmdfjcnhjkaaGreatDoor
