/-
  DERIVED. GIVEN WITH THE SEED: THE CARDS: each row of YtlemmdfjcnhjkaaGreatDoorRows.lean that lists a variable, with what it lists TIED to the program's text (the seventh form; the later family's looks); each row that meets fmt, with fmt's text TOLD by the authors' own Lean function (tested against real Go, not proved from fmt's source: count such statements apart). THE CARD IS WHAT COUNTS. Prove the row's statement (the work); the ties are given (YtlemmdfjcnhjkaaGreatDoorTie.lean); close each card by the builder's one call (the guide's Derived/Test/ToyasCard.lean, 'card_holds'). Laid BY PROGRAM, IN A SANDBOX (cutbox-door.mjs). By AI agents, Wed Nov 11 2026. No macro, syntax, notation, axiom, sorry.
-/
import Derived.Test.YtlemmdfjcnhjkaaGreatDoorRows
import GoSem.ClaimSeven
namespace Go.Proofs.YtlemmdfjcnhjkaaGreatDoor
namespace Rows

/-- THE TIED CARD OF 'reredoslaw05.TypedTells'. -/
def typedTellsCard : Claim7 := { stood := { row := typedTellsRow, standIns := [], harness := (true, "202a8b2abff13e2b4643db5914ea2509029bcaf382787f93df11c28321498560"), looks := true }, kinds := [], alts := [], laidByText := true, laidKinds := [.data, .data, .data, .sentinel, .sentinel], laidTests := true, laidLooks := .later }
def TypedTellsCardSaid : Prop := Claim7.holds Tryz.pinned (.plain (OpenSpec.ofChange typedTellsSpec)) typedTellsCard

/-- THE TIED CARD OF 'reredoslaw14.MouldOnes'. -/
def mouldOnesCard : Claim7 := { stood := { row := mouldOnesRow, standIns := [], harness := (true, "202a8b2abff13e2b4643db5914ea2509029bcaf382787f93df11c28321498560"), looks := true }, kinds := [], alts := [], laidByText := true, laidKinds := [.data, .data, .data, .sentinel, .sentinel], laidTests := true, laidLooks := .later }
def MouldOnesCardSaid : Prop := Claim7.holds Tryz.pinned (.plain (OpenSpec.ofChange mouldOnesSpec)) mouldOnesCard

/-- THE TIED CARD OF 'reredoslaw14.MouldTwos'. -/
def mouldTwosCard : Claim7 := { stood := { row := mouldTwosRow, standIns := [], harness := (true, "202a8b2abff13e2b4643db5914ea2509029bcaf382787f93df11c28321498560"), looks := true }, kinds := [], alts := [], laidByText := true, laidKinds := [.data, .data, .data, .sentinel, .sentinel], laidTests := true, laidLooks := .later }
def MouldTwosCardSaid : Prop := Claim7.holds Tryz.pinned (.plain (OpenSpec.ofChange mouldTwosSpec)) mouldTwosCard

/-- THE TIED CARD OF 'reredoslaw15.SeekWhere'. -/
def seekWhereCard : Claim7 := { stood := { row := seekWhereRow, standIns := [], harness := (true, "202a8b2abff13e2b4643db5914ea2509029bcaf382787f93df11c28321498560"), looks := true }, kinds := [], alts := [], laidByText := true, laidKinds := [.data, .data, .data, .sentinel, .sentinel], laidTests := true, laidLooks := .later }
def SeekWhereCardSaid : Prop := Claim7.holds Tryz.pinned (.plain (OpenSpec.ofChange seekWhereSpec)) seekWhereCard

/-- THE TIED CARD OF 'reredoslaw15.SeekOnes'. -/
def seekOnesCard : Claim7 := { stood := { row := seekOnesRow, standIns := [], harness := (true, "202a8b2abff13e2b4643db5914ea2509029bcaf382787f93df11c28321498560"), looks := true }, kinds := [], alts := [], laidByText := true, laidKinds := [.data, .data, .data, .sentinel, .sentinel], laidTests := true, laidLooks := .later }
def SeekOnesCardSaid : Prop := Claim7.holds Tryz.pinned (.plain (OpenSpec.ofChange seekOnesSpec)) seekOnesCard

/-- THE TIED CARD OF 'reredoslaw15.SeekAmends'. -/
def seekAmendsCard : Claim7 := { stood := { row := seekAmendsRow, standIns := [], harness := (true, "202a8b2abff13e2b4643db5914ea2509029bcaf382787f93df11c28321498560"), looks := true }, kinds := [], alts := [], laidByText := true, laidKinds := [.data, .data, .data, .sentinel, .sentinel], laidTests := true, laidLooks := .later }
def SeekAmendsCardSaid : Prop := Claim7.holds Tryz.pinned (.plain (OpenSpec.ofChange seekAmendsSpec)) seekAmendsCard

/-- THE TIED CARD OF 'reredoslaw15.SeekRises'. -/
def seekRisesCard : Claim7 := { stood := { row := seekRisesRow, standIns := [], harness := (true, "202a8b2abff13e2b4643db5914ea2509029bcaf382787f93df11c28321498560"), looks := true }, kinds := [], alts := [], laidByText := true, laidKinds := [.data, .data, .data, .sentinel, .sentinel], laidTests := true, laidLooks := .later }
def SeekRisesCardSaid : Prop := Claim7.holds Tryz.pinned (.plain (OpenSpec.ofChange seekRisesSpec)) seekRisesCard

/-- THE SECOND FORM's CARD OF 'reredoslaw05.TypedTells'. -/
def typedTellsUptoCard : Claim7 := { stood := { row := typedTellsUptoRow, standIns := [], harness := (true, "202a8b2abff13e2b4643db5914ea2509029bcaf382787f93df11c28321498560"), looks := true }, kinds := [], alts := [], laidByText := true, laidKinds := [.data, .data, .data, .sentinel, .sentinel], laidTests := true, laidLooks := .later }
def TypedTellsUptoCardSaid : Prop := Claim7.holds Tryz.pinned (.plain (OpenSpec.upto typedTellsSpec)) typedTellsUptoCard

/-- THE SECOND FORM's CARD OF 'reredoslaw14.MouldOnes'. -/
def mouldOnesUptoCard : Claim7 := { stood := { row := mouldOnesUptoRow, standIns := [], harness := (true, "202a8b2abff13e2b4643db5914ea2509029bcaf382787f93df11c28321498560"), looks := true }, kinds := [], alts := [], laidByText := true, laidKinds := [.data, .data, .data, .sentinel, .sentinel], laidTests := true, laidLooks := .later }
def MouldOnesUptoCardSaid : Prop := Claim7.holds Tryz.pinned (.plain (OpenSpec.upto mouldOnesSpec)) mouldOnesUptoCard

/-- THE SECOND FORM's CARD OF 'reredoslaw14.MouldTwos'. -/
def mouldTwosUptoCard : Claim7 := { stood := { row := mouldTwosUptoRow, standIns := [], harness := (true, "202a8b2abff13e2b4643db5914ea2509029bcaf382787f93df11c28321498560"), looks := true }, kinds := [], alts := [], laidByText := true, laidKinds := [.data, .data, .data, .sentinel, .sentinel], laidTests := true, laidLooks := .later }
def MouldTwosUptoCardSaid : Prop := Claim7.holds Tryz.pinned (.plain (OpenSpec.upto mouldTwosSpec)) mouldTwosUptoCard

/-- THE SECOND FORM's CARD OF 'reredoslaw15.SeekWhere'. -/
def seekWhereUptoCard : Claim7 := { stood := { row := seekWhereUptoRow, standIns := [], harness := (true, "202a8b2abff13e2b4643db5914ea2509029bcaf382787f93df11c28321498560"), looks := true }, kinds := [], alts := [], laidByText := true, laidKinds := [.data, .data, .data, .sentinel, .sentinel], laidTests := true, laidLooks := .later }
def SeekWhereUptoCardSaid : Prop := Claim7.holds Tryz.pinned (.plain (OpenSpec.upto seekWhereSpec)) seekWhereUptoCard

/-- THE SECOND FORM's CARD OF 'reredoslaw15.SeekOnes'. -/
def seekOnesUptoCard : Claim7 := { stood := { row := seekOnesUptoRow, standIns := [], harness := (true, "202a8b2abff13e2b4643db5914ea2509029bcaf382787f93df11c28321498560"), looks := true }, kinds := [], alts := [], laidByText := true, laidKinds := [.data, .data, .data, .sentinel, .sentinel], laidTests := true, laidLooks := .later }
def SeekOnesUptoCardSaid : Prop := Claim7.holds Tryz.pinned (.plain (OpenSpec.upto seekOnesSpec)) seekOnesUptoCard

/-- THE SECOND FORM's CARD OF 'reredoslaw15.SeekAmends'. -/
def seekAmendsUptoCard : Claim7 := { stood := { row := seekAmendsUptoRow, standIns := [], harness := (true, "202a8b2abff13e2b4643db5914ea2509029bcaf382787f93df11c28321498560"), looks := true }, kinds := [], alts := [], laidByText := true, laidKinds := [.data, .data, .data, .sentinel, .sentinel], laidTests := true, laidLooks := .later }
def SeekAmendsUptoCardSaid : Prop := Claim7.holds Tryz.pinned (.plain (OpenSpec.upto seekAmendsSpec)) seekAmendsUptoCard

/-- THE SECOND FORM's CARD OF 'reredoslaw15.SeekRises'. -/
def seekRisesUptoCard : Claim7 := { stood := { row := seekRisesUptoRow, standIns := [], harness := (true, "202a8b2abff13e2b4643db5914ea2509029bcaf382787f93df11c28321498560"), looks := true }, kinds := [], alts := [], laidByText := true, laidKinds := [.data, .data, .data, .sentinel, .sentinel], laidTests := true, laidLooks := .later }
def SeekRisesUptoCardSaid : Prop := Claim7.holds Tryz.pinned (.plain (OpenSpec.upto seekRisesSpec)) seekRisesUptoCard
end Rows
end Go.Proofs.YtlemmdfjcnhjkaaGreatDoor
