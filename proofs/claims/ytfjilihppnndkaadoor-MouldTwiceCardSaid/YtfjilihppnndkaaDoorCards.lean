/-
  DERIVED. GIVEN WITH THE SEED: THE CARDS: each row of YtfjilihppnndkaaDoorRows.lean that lists a variable, with what it lists TIED to the program's text (the seventh form; the later family's looks); each row that meets fmt, with fmt's text TOLD by the authors' own Lean function (tested against real Go, not proved from fmt's source: count such statements apart). THE CARD IS WHAT COUNTS. Prove the row's statement (the work); the ties are given (YtfjilihppnndkaaDoorTie.lean); close each card by the builder's one call (the guide's Derived/Test/ToyasCard.lean, 'card_holds'). Laid BY PROGRAM, IN A SANDBOX (cutbox-door.mjs). By AI agents, Wed Nov 11 2026. No macro, syntax, notation, axiom, sorry.
-/
import Derived.Test.YtfjilihppnndkaaDoorRows
import GoSem.ClaimSeven
namespace Go.Proofs.YtfjilihppnndkaaDoor
namespace Rows

/-- THE TIED CARD OF 'reredoslaw05.TypedPacks'. -/
def typedPacksCard : Claim7 := { stood := { row := typedPacksRow, standIns := [], harness := (true, "35228e4847787544fae560c6fdf24a2cc747610a8f38ece4d28b79b85127ee5e"), looks := true }, kinds := [], alts := [], laidByText := true, laidKinds := [.data, .data, .data, .sentinel, .sentinel], laidTests := true, laidLooks := .later }
def TypedPacksCardSaid : Prop := Claim7.holds Tryd.pinned (.plain (OpenSpec.ofChange typedPacksSpec)) typedPacksCard

/-- THE TIED CARD OF 'reredoslaw05.TypedNarrow'. -/
def typedNarrowCard : Claim7 := { stood := { row := typedNarrowRow, standIns := [], harness := (true, "35228e4847787544fae560c6fdf24a2cc747610a8f38ece4d28b79b85127ee5e"), looks := true }, kinds := [], alts := [], laidByText := true, laidKinds := [.data, .data, .data, .sentinel, .sentinel], laidTests := true, laidLooks := .later }
def TypedNarrowCardSaid : Prop := Claim7.holds Tryd.pinned (.plain (OpenSpec.ofChange typedNarrowSpec)) typedNarrowCard

/-- THE TIED CARD OF 'reredoslaw14.MouldIota'. -/
def mouldIotaCard : Claim7 := { stood := { row := mouldIotaRow, standIns := [], harness := (true, "35228e4847787544fae560c6fdf24a2cc747610a8f38ece4d28b79b85127ee5e"), looks := true }, kinds := [], alts := [], laidByText := true, laidKinds := [.data, .data, .data, .sentinel, .sentinel], laidTests := true, laidLooks := .later }
def MouldIotaCardSaid : Prop := Claim7.holds Tryd.pinned (.plain (OpenSpec.ofChange mouldIotaSpec)) mouldIotaCard

/-- THE TIED CARD OF 'reredoslaw14.MouldTwice'. -/
def mouldTwiceCard : Claim7 := { stood := { row := mouldTwiceRow, standIns := [], harness := (true, "35228e4847787544fae560c6fdf24a2cc747610a8f38ece4d28b79b85127ee5e"), looks := true }, kinds := [], alts := [], laidByText := true, laidKinds := [.data, .data, .data, .sentinel, .sentinel], laidTests := true, laidLooks := .later }
def MouldTwiceCardSaid : Prop := Claim7.holds Tryd.pinned (.plain (OpenSpec.ofChange mouldTwiceSpec)) mouldTwiceCard

/-- THE TIED CARD OF 'reredoslaw14.MouldJoins'. -/
def mouldJoinsCard : Claim7 := { stood := { row := mouldJoinsRow, standIns := [], harness := (true, "35228e4847787544fae560c6fdf24a2cc747610a8f38ece4d28b79b85127ee5e"), looks := true }, kinds := [], alts := [], laidByText := true, laidKinds := [.data, .data, .data, .sentinel, .sentinel], laidTests := true, laidLooks := .later }
def MouldJoinsCardSaid : Prop := Claim7.holds Tryd.pinned (.plain (OpenSpec.ofChange mouldJoinsSpec)) mouldJoinsCard

/-- THE TIED CARD OF 'reredoslaw14.MouldCuts'. -/
def mouldCutsCard : Claim7 := { stood := { row := mouldCutsRow, standIns := [], harness := (true, "35228e4847787544fae560c6fdf24a2cc747610a8f38ece4d28b79b85127ee5e"), looks := true }, kinds := [], alts := [], laidByText := true, laidKinds := [.data, .data, .data, .sentinel, .sentinel], laidTests := true, laidLooks := .later }
def MouldCutsCardSaid : Prop := Claim7.holds Tryd.pinned (.plain (OpenSpec.ofChange mouldCutsSpec)) mouldCutsCard

/-- THE SECOND FORM's CARD OF 'reredoslaw05.TypedPacks'. -/
def typedPacksUptoCard : Claim7 := { stood := { row := typedPacksUptoRow, standIns := [], harness := (true, "35228e4847787544fae560c6fdf24a2cc747610a8f38ece4d28b79b85127ee5e"), looks := true }, kinds := [], alts := [], laidByText := true, laidKinds := [.data, .data, .data, .sentinel, .sentinel], laidTests := true, laidLooks := .later }
def TypedPacksUptoCardSaid : Prop := Claim7.holds Tryd.pinned (.plain (OpenSpec.upto typedPacksSpec)) typedPacksUptoCard

/-- THE SECOND FORM's CARD OF 'reredoslaw05.TypedNarrow'. -/
def typedNarrowUptoCard : Claim7 := { stood := { row := typedNarrowUptoRow, standIns := [], harness := (true, "35228e4847787544fae560c6fdf24a2cc747610a8f38ece4d28b79b85127ee5e"), looks := true }, kinds := [], alts := [], laidByText := true, laidKinds := [.data, .data, .data, .sentinel, .sentinel], laidTests := true, laidLooks := .later }
def TypedNarrowUptoCardSaid : Prop := Claim7.holds Tryd.pinned (.plain (OpenSpec.upto typedNarrowSpec)) typedNarrowUptoCard

/-- THE SECOND FORM's CARD OF 'reredoslaw14.MouldIota'. -/
def mouldIotaUptoCard : Claim7 := { stood := { row := mouldIotaUptoRow, standIns := [], harness := (true, "35228e4847787544fae560c6fdf24a2cc747610a8f38ece4d28b79b85127ee5e"), looks := true }, kinds := [], alts := [], laidByText := true, laidKinds := [.data, .data, .data, .sentinel, .sentinel], laidTests := true, laidLooks := .later }
def MouldIotaUptoCardSaid : Prop := Claim7.holds Tryd.pinned (.plain (OpenSpec.upto mouldIotaSpec)) mouldIotaUptoCard

/-- THE SECOND FORM's CARD OF 'reredoslaw14.MouldTwice'. -/
def mouldTwiceUptoCard : Claim7 := { stood := { row := mouldTwiceUptoRow, standIns := [], harness := (true, "35228e4847787544fae560c6fdf24a2cc747610a8f38ece4d28b79b85127ee5e"), looks := true }, kinds := [], alts := [], laidByText := true, laidKinds := [.data, .data, .data, .sentinel, .sentinel], laidTests := true, laidLooks := .later }
def MouldTwiceUptoCardSaid : Prop := Claim7.holds Tryd.pinned (.plain (OpenSpec.upto mouldTwiceSpec)) mouldTwiceUptoCard

/-- THE SECOND FORM's CARD OF 'reredoslaw14.MouldJoins'. -/
def mouldJoinsUptoCard : Claim7 := { stood := { row := mouldJoinsUptoRow, standIns := [], harness := (true, "35228e4847787544fae560c6fdf24a2cc747610a8f38ece4d28b79b85127ee5e"), looks := true }, kinds := [], alts := [], laidByText := true, laidKinds := [.data, .data, .data, .sentinel, .sentinel], laidTests := true, laidLooks := .later }
def MouldJoinsUptoCardSaid : Prop := Claim7.holds Tryd.pinned (.plain (OpenSpec.upto mouldJoinsSpec)) mouldJoinsUptoCard

/-- THE SECOND FORM's CARD OF 'reredoslaw14.MouldCuts'. -/
def mouldCutsUptoCard : Claim7 := { stood := { row := mouldCutsUptoRow, standIns := [], harness := (true, "35228e4847787544fae560c6fdf24a2cc747610a8f38ece4d28b79b85127ee5e"), looks := true }, kinds := [], alts := [], laidByText := true, laidKinds := [.data, .data, .data, .sentinel, .sentinel], laidTests := true, laidLooks := .later }
def MouldCutsUptoCardSaid : Prop := Claim7.holds Tryd.pinned (.plain (OpenSpec.upto mouldCutsSpec)) mouldCutsUptoCard
end Rows
end Go.Proofs.YtfjilihppnndkaaDoor
