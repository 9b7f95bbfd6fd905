/-
  DERIVED. GIVEN WITH THE SEED: THE CARDS: each row of YtmhajfnfjjbflaaGreatDoorRows.lean that lists a variable, with what it lists TIED to the program's text (the seventh form; the later family's looks); each row that meets fmt, with fmt's text TOLD by the authors' own Lean function (tested against real Go, not proved from fmt's source: count such statements apart). THE CARD IS WHAT COUNTS. Prove the row's statement (the work); the ties are given (YtmhajfnfjjbflaaGreatDoorTie.lean); close each card by the builder's one call (the guide's Derived/Test/ToyasCard.lean, 'card_holds'). Laid BY PROGRAM, IN A SANDBOX (cutbox-door.mjs). By AI agents, Wed Nov 11 2026. No macro, syntax, notation, axiom, sorry.
-/
import Derived.Test.YtmhajfnfjjbflaaGreatDoorRows
import GoSem.ClaimSeven
namespace Go.Proofs.YtmhajfnfjjbflaaGreatDoor
namespace Rows

/-- THE TIED CARD OF 'polyglotlaw16.ResolveRings'. -/
def resolveRingsCard : Claim7 := { stood := { row := resolveRingsRow, standIns := [], harness := (true, "76b2230f72d6b046c94ee1c5b306aeae67a9ea10b8e70b2f1723715765f304e1"), looks := true }, kinds := [], alts := [], laidByText := true, laidKinds := [.data, .data, .data, .data, .listed, .sentinel, .data, .pinned], laidTests := true, laidLooks := .later }
def ResolveRingsCardSaid : Prop := Claim7.holds Tryz.pinned (.plain (OpenSpec.ofChange resolveRingsSpec)) resolveRingsCard

/-- THE TIED CARD OF 'polyglotlaw16.ResolveMany'. -/
def resolveManyCard : Claim7 := { stood := { row := resolveManyRow, standIns := [], harness := (true, "76b2230f72d6b046c94ee1c5b306aeae67a9ea10b8e70b2f1723715765f304e1"), looks := true }, kinds := [], alts := [], laidByText := true, laidKinds := [.data, .data, .data, .data, .listed, .sentinel, .data, .pinned], laidTests := true, laidLooks := .later }
def ResolveManyCardSaid : Prop := Claim7.holds Tryz.pinned (.plain (OpenSpec.ofChange resolveManySpec)) resolveManyCard

/-- THE TIED CARD OF 'polyglotlaw16.ResolveLong'. -/
def resolveLongCard : Claim7 := { stood := { row := resolveLongRow, standIns := [], harness := (true, "76b2230f72d6b046c94ee1c5b306aeae67a9ea10b8e70b2f1723715765f304e1"), looks := true }, kinds := [], alts := [], laidByText := true, laidKinds := [.data, .data, .data, .data, .listed, .sentinel, .data, .pinned], laidTests := true, laidLooks := .later }
def ResolveLongCardSaid : Prop := Claim7.holds Tryz.pinned (.plain (OpenSpec.ofChange resolveLongSpec)) resolveLongCard

/-- THE TIED CARD OF 'polyglotlaw20.TellWords'. -/
def tellWordsCard : Claim7 := { stood := { row := tellWordsRow, standIns := [], harness := (true, "76b2230f72d6b046c94ee1c5b306aeae67a9ea10b8e70b2f1723715765f304e1"), looks := true }, kinds := [], alts := [], laidByText := true, laidKinds := [.data, .data, .data, .data, .sentinel, .sentinel, .listed, .sentinel, .data, .pinned], laidTests := true, laidLooks := .later }
def TellWordsCardSaid : Prop := Claim7.holds Tryz.pinned (.plain (OpenSpec.ofChange tellWordsSpec)) tellWordsCard

/-- THE TIED CARD OF 'polyglotlaw20.TellMany'. -/
def tellManyCard : Claim7 := { stood := { row := tellManyRow, standIns := [], harness := (true, "76b2230f72d6b046c94ee1c5b306aeae67a9ea10b8e70b2f1723715765f304e1"), looks := true }, kinds := [], alts := [], laidByText := true, laidKinds := [.data, .data, .data, .data, .sentinel, .sentinel, .listed, .sentinel, .data, .pinned], laidTests := true, laidLooks := .later }
def TellManyCardSaid : Prop := Claim7.holds Tryz.pinned (.plain (OpenSpec.ofChange tellManySpec)) tellManyCard

/-- THE SECOND FORM's CARD OF 'polyglotlaw16.ResolveRings'. -/
def resolveRingsUptoCard : Claim7 := { stood := { row := resolveRingsUptoRow, standIns := [], harness := (true, "76b2230f72d6b046c94ee1c5b306aeae67a9ea10b8e70b2f1723715765f304e1"), looks := true }, kinds := [], alts := [], laidByText := true, laidKinds := [.data, .data, .data, .data, .listed, .sentinel, .data, .pinned], laidTests := true, laidLooks := .later }
def ResolveRingsUptoCardSaid : Prop := Claim7.holds Tryz.pinned (.plain (OpenSpec.upto resolveRingsSpec)) resolveRingsUptoCard

/-- THE SECOND FORM's CARD OF 'polyglotlaw16.ResolveMany'. -/
def resolveManyUptoCard : Claim7 := { stood := { row := resolveManyUptoRow, standIns := [], harness := (true, "76b2230f72d6b046c94ee1c5b306aeae67a9ea10b8e70b2f1723715765f304e1"), looks := true }, kinds := [], alts := [], laidByText := true, laidKinds := [.data, .data, .data, .data, .listed, .sentinel, .data, .pinned], laidTests := true, laidLooks := .later }
def ResolveManyUptoCardSaid : Prop := Claim7.holds Tryz.pinned (.plain (OpenSpec.upto resolveManySpec)) resolveManyUptoCard

/-- THE SECOND FORM's CARD OF 'polyglotlaw16.ResolveLong'. -/
def resolveLongUptoCard : Claim7 := { stood := { row := resolveLongUptoRow, standIns := [], harness := (true, "76b2230f72d6b046c94ee1c5b306aeae67a9ea10b8e70b2f1723715765f304e1"), looks := true }, kinds := [], alts := [], laidByText := true, laidKinds := [.data, .data, .data, .data, .listed, .sentinel, .data, .pinned], laidTests := true, laidLooks := .later }
def ResolveLongUptoCardSaid : Prop := Claim7.holds Tryz.pinned (.plain (OpenSpec.upto resolveLongSpec)) resolveLongUptoCard

/-- THE SECOND FORM's CARD OF 'polyglotlaw20.TellWords'. -/
def tellWordsUptoCard : Claim7 := { stood := { row := tellWordsUptoRow, standIns := [], harness := (true, "76b2230f72d6b046c94ee1c5b306aeae67a9ea10b8e70b2f1723715765f304e1"), looks := true }, kinds := [], alts := [], laidByText := true, laidKinds := [.data, .data, .data, .data, .sentinel, .sentinel, .listed, .sentinel, .data, .pinned], laidTests := true, laidLooks := .later }
def TellWordsUptoCardSaid : Prop := Claim7.holds Tryz.pinned (.plain (OpenSpec.upto tellWordsSpec)) tellWordsUptoCard

/-- THE SECOND FORM's CARD OF 'polyglotlaw20.TellMany'. -/
def tellManyUptoCard : Claim7 := { stood := { row := tellManyUptoRow, standIns := [], harness := (true, "76b2230f72d6b046c94ee1c5b306aeae67a9ea10b8e70b2f1723715765f304e1"), looks := true }, kinds := [], alts := [], laidByText := true, laidKinds := [.data, .data, .data, .data, .sentinel, .sentinel, .listed, .sentinel, .data, .pinned], laidTests := true, laidLooks := .later }
def TellManyUptoCardSaid : Prop := Claim7.holds Tryz.pinned (.plain (OpenSpec.upto tellManySpec)) tellManyUptoCard
end Rows
end Go.Proofs.YtmhajfnfjjbflaaGreatDoor
