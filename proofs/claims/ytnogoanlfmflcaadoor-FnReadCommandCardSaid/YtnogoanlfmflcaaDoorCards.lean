/-
  DERIVED. GIVEN WITH THE SEED: THE CARDS: each row of YtnogoanlfmflcaaDoorRows.lean that lists a variable, with what it lists TIED to the program's text (the seventh form; the later family's looks); each row that meets fmt, with fmt's text TOLD by the authors' own Lean function (tested against real Go, not proved from fmt's source: count such statements apart). THE CARD IS WHAT COUNTS. Prove the row's statement (the work); the ties are given (YtnogoanlfmflcaaDoorTie.lean); close each card by the builder's one call (the guide's Derived/Test/ToyasCard.lean, 'card_holds'). Laid BY PROGRAM, IN A SANDBOX (cutbox-door.mjs). By AI agents, Wed Nov 11 2026. No macro, syntax, notation, axiom, sorry.
-/
import Derived.Test.YtnogoanlfmflcaaDoorRows
import GoSem.ClaimSeven
namespace Go.Proofs.YtnogoanlfmflcaaDoor
namespace Rows

/-- THE TIED CARD OF 'laws.FnExactReplyText'. -/
def fnExactReplyTextCard : Claim7 := { stood := { row := fnExactReplyTextRow, standIns := [], harness := (true, "07798daa4dfc4c018043c89b63f4b7aac8c8ec32524dbc06f2de29eefcb146f4"), looks := true }, kinds := [], alts := [], laidByText := true, laidKinds := [.data, .data, .data], laidTests := true, laidLooks := .later }
def FnExactReplyTextCardSaid : Prop := Claim7.holds Tryd.pinned (.plain (OpenSpec.ofChange fnExactReplyTextSpec)) fnExactReplyTextCard

/-- THE TIED CARD OF 'laws.FnExactCommandText'. -/
def fnExactCommandTextCard : Claim7 := { stood := { row := fnExactCommandTextRow, standIns := [], harness := (true, "07798daa4dfc4c018043c89b63f4b7aac8c8ec32524dbc06f2de29eefcb146f4"), looks := true }, kinds := [], alts := [], laidByText := true, laidKinds := [.data, .data, .data], laidTests := true, laidLooks := .later }
def FnExactCommandTextCardSaid : Prop := Claim7.holds Tryd.pinned (.plain (OpenSpec.ofChange fnExactCommandTextSpec)) fnExactCommandTextCard

/-- THE TIED CARD OF 'laws.FnExactReadReply'. -/
def fnExactReadReplyCard : Claim7 := { stood := { row := fnExactReadReplyRow, standIns := [], harness := (true, "07798daa4dfc4c018043c89b63f4b7aac8c8ec32524dbc06f2de29eefcb146f4"), looks := true }, kinds := [], alts := [], laidByText := true, laidKinds := [.data, .data, .data, .sentinel, .sentinel], laidTests := true, laidLooks := .later }
def FnExactReadReplyCardSaid : Prop := Claim7.holds Tryd.pinned (.plain (OpenSpec.ofChange fnExactReadReplySpec)) fnExactReadReplyCard

/-- THE TIED CARD OF 'laws.FnExactReadCommand'. -/
def fnExactReadCommandCard : Claim7 := { stood := { row := fnExactReadCommandRow, standIns := [], harness := (true, "07798daa4dfc4c018043c89b63f4b7aac8c8ec32524dbc06f2de29eefcb146f4"), looks := true }, kinds := [], alts := [], laidByText := true, laidKinds := [.data, .data, .data, .data, .sentinel, .sentinel, .pinned], laidTests := true, laidLooks := .later }
def FnExactReadCommandCardSaid : Prop := Claim7.holds Tryd.pinned (.plain (OpenSpec.ofChange fnExactReadCommandSpec)) fnExactReadCommandCard

/-- THE TIED CARD OF 'laws.FnReplyText'. -/
def fnReplyTextCard : Claim7 := { stood := { row := fnReplyTextRow, standIns := [], harness := (true, "07798daa4dfc4c018043c89b63f4b7aac8c8ec32524dbc06f2de29eefcb146f4"), looks := true }, kinds := [], alts := [], laidByText := true, laidKinds := [.data, .data, .data, .sentinel, .sentinel], laidTests := true, laidLooks := .later }
def FnReplyTextCardSaid : Prop := Claim7.holds Tryd.pinned (.plain (OpenSpec.ofChange fnReplyTextSpec)) fnReplyTextCard

/-- THE TIED CARD OF 'laws.FnReadReply'. -/
def fnReadReplyCard : Claim7 := { stood := { row := fnReadReplyRow, standIns := [], harness := (true, "07798daa4dfc4c018043c89b63f4b7aac8c8ec32524dbc06f2de29eefcb146f4"), looks := true }, kinds := [], alts := [], laidByText := true, laidKinds := [.data, .data, .data, .sentinel, .sentinel], laidTests := true, laidLooks := .later }
def FnReadReplyCardSaid : Prop := Claim7.holds Tryd.pinned (.plain (OpenSpec.ofChange fnReadReplySpec)) fnReadReplyCard

/-- THE TIED CARD OF 'laws.FnCommandText'. -/
def fnCommandTextCard : Claim7 := { stood := { row := fnCommandTextRow, standIns := [], harness := (true, "07798daa4dfc4c018043c89b63f4b7aac8c8ec32524dbc06f2de29eefcb146f4"), looks := true }, kinds := [], alts := [], laidByText := true, laidKinds := [.data, .data, .data, .data, .sentinel, .sentinel, .pinned], laidTests := true, laidLooks := .later }
def FnCommandTextCardSaid : Prop := Claim7.holds Tryd.pinned (.plain (OpenSpec.ofChange fnCommandTextSpec)) fnCommandTextCard

/-- THE TIED CARD OF 'laws.FnReadCommand'. -/
def fnReadCommandCard : Claim7 := { stood := { row := fnReadCommandRow, standIns := [], harness := (true, "07798daa4dfc4c018043c89b63f4b7aac8c8ec32524dbc06f2de29eefcb146f4"), looks := true }, kinds := [], alts := [], laidByText := true, laidKinds := [.data, .data, .data, .data, .sentinel, .sentinel, .pinned], laidTests := true, laidLooks := .later }
def FnReadCommandCardSaid : Prop := Claim7.holds Tryd.pinned (.plain (OpenSpec.ofChange fnReadCommandSpec)) fnReadCommandCard

/-- THE SECOND FORM's CARD OF 'laws.FnExactReplyText'. -/
def fnExactReplyTextUptoCard : Claim7 := { stood := { row := fnExactReplyTextUptoRow, standIns := [], harness := (true, "07798daa4dfc4c018043c89b63f4b7aac8c8ec32524dbc06f2de29eefcb146f4"), looks := true }, kinds := [], alts := [], laidByText := true, laidKinds := [.data, .data, .data], laidTests := true, laidLooks := .later }
def FnExactReplyTextUptoCardSaid : Prop := Claim7.holds Tryd.pinned (.plain (OpenSpec.upto fnExactReplyTextSpec)) fnExactReplyTextUptoCard

/-- THE SECOND FORM's CARD OF 'laws.FnExactCommandText'. -/
def fnExactCommandTextUptoCard : Claim7 := { stood := { row := fnExactCommandTextUptoRow, standIns := [], harness := (true, "07798daa4dfc4c018043c89b63f4b7aac8c8ec32524dbc06f2de29eefcb146f4"), looks := true }, kinds := [], alts := [], laidByText := true, laidKinds := [.data, .data, .data], laidTests := true, laidLooks := .later }
def FnExactCommandTextUptoCardSaid : Prop := Claim7.holds Tryd.pinned (.plain (OpenSpec.upto fnExactCommandTextSpec)) fnExactCommandTextUptoCard

/-- THE SECOND FORM's CARD OF 'laws.FnExactReadReply'. -/
def fnExactReadReplyUptoCard : Claim7 := { stood := { row := fnExactReadReplyUptoRow, standIns := [], harness := (true, "07798daa4dfc4c018043c89b63f4b7aac8c8ec32524dbc06f2de29eefcb146f4"), looks := true }, kinds := [], alts := [], laidByText := true, laidKinds := [.data, .data, .data, .sentinel, .sentinel], laidTests := true, laidLooks := .later }
def FnExactReadReplyUptoCardSaid : Prop := Claim7.holds Tryd.pinned (.plain (OpenSpec.upto fnExactReadReplySpec)) fnExactReadReplyUptoCard

/-- THE SECOND FORM's CARD OF 'laws.FnExactReadCommand'. -/
def fnExactReadCommandUptoCard : Claim7 := { stood := { row := fnExactReadCommandUptoRow, standIns := [], harness := (true, "07798daa4dfc4c018043c89b63f4b7aac8c8ec32524dbc06f2de29eefcb146f4"), looks := true }, kinds := [], alts := [], laidByText := true, laidKinds := [.data, .data, .data, .data, .sentinel, .sentinel, .pinned], laidTests := true, laidLooks := .later }
def FnExactReadCommandUptoCardSaid : Prop := Claim7.holds Tryd.pinned (.plain (OpenSpec.upto fnExactReadCommandSpec)) fnExactReadCommandUptoCard

/-- THE SECOND FORM's CARD OF 'laws.FnReplyText'. -/
def fnReplyTextUptoCard : Claim7 := { stood := { row := fnReplyTextUptoRow, standIns := [], harness := (true, "07798daa4dfc4c018043c89b63f4b7aac8c8ec32524dbc06f2de29eefcb146f4"), looks := true }, kinds := [], alts := [], laidByText := true, laidKinds := [.data, .data, .data, .sentinel, .sentinel], laidTests := true, laidLooks := .later }
def FnReplyTextUptoCardSaid : Prop := Claim7.holds Tryd.pinned (.plain (OpenSpec.upto fnReplyTextSpec)) fnReplyTextUptoCard

/-- THE SECOND FORM's CARD OF 'laws.FnReadReply'. -/
def fnReadReplyUptoCard : Claim7 := { stood := { row := fnReadReplyUptoRow, standIns := [], harness := (true, "07798daa4dfc4c018043c89b63f4b7aac8c8ec32524dbc06f2de29eefcb146f4"), looks := true }, kinds := [], alts := [], laidByText := true, laidKinds := [.data, .data, .data, .sentinel, .sentinel], laidTests := true, laidLooks := .later }
def FnReadReplyUptoCardSaid : Prop := Claim7.holds Tryd.pinned (.plain (OpenSpec.upto fnReadReplySpec)) fnReadReplyUptoCard

/-- THE SECOND FORM's CARD OF 'laws.FnCommandText'. -/
def fnCommandTextUptoCard : Claim7 := { stood := { row := fnCommandTextUptoRow, standIns := [], harness := (true, "07798daa4dfc4c018043c89b63f4b7aac8c8ec32524dbc06f2de29eefcb146f4"), looks := true }, kinds := [], alts := [], laidByText := true, laidKinds := [.data, .data, .data, .data, .sentinel, .sentinel, .pinned], laidTests := true, laidLooks := .later }
def FnCommandTextUptoCardSaid : Prop := Claim7.holds Tryd.pinned (.plain (OpenSpec.upto fnCommandTextSpec)) fnCommandTextUptoCard

/-- THE SECOND FORM's CARD OF 'laws.FnReadCommand'. -/
def fnReadCommandUptoCard : Claim7 := { stood := { row := fnReadCommandUptoRow, standIns := [], harness := (true, "07798daa4dfc4c018043c89b63f4b7aac8c8ec32524dbc06f2de29eefcb146f4"), looks := true }, kinds := [], alts := [], laidByText := true, laidKinds := [.data, .data, .data, .data, .sentinel, .sentinel, .pinned], laidTests := true, laidLooks := .later }
def FnReadCommandUptoCardSaid : Prop := Claim7.holds Tryd.pinned (.plain (OpenSpec.upto fnReadCommandSpec)) fnReadCommandUptoCard
end Rows
end Go.Proofs.YtnogoanlfmflcaaDoor
