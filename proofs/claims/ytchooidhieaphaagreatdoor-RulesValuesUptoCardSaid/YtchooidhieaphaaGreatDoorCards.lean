/-
  DERIVED. GIVEN WITH THE SEED: THE CARDS: each row of YtchooidhieaphaaGreatDoorRows.lean that lists a variable, with what it lists TIED to the program's text (the seventh form; the later family's looks); each row that meets fmt, with fmt's text TOLD by the authors' own Lean function (tested against real Go, not proved from fmt's source: count such statements apart). THE CARD IS WHAT COUNTS. Prove the row's statement (the work); the ties are given (YtchooidhieaphaaGreatDoorTie.lean); close each card by the builder's one call (the guide's Derived/Test/ToyasCard.lean, 'card_holds'). Laid BY PROGRAM, IN A SANDBOX (cutbox-door.mjs). By AI agents, Wed Nov 11 2026. No macro, syntax, notation, axiom, sorry.
-/
import Derived.Test.YtchooidhieaphaaGreatDoorRows
import GoSem.ClaimSeven
namespace Go.Proofs.YtchooidhieaphaaGreatDoor
namespace Rows

/-- THE TIED CARD OF 'muslinlaw18.RulesNames'. -/
def rulesNamesCard : Claim7 := { stood := { row := rulesNamesRow, standIns := [], harness := (true, "5544d07426346e51791737e417c9ff50a8ba8e0ed8c8589d15f6baf16245bf17"), looks := true }, kinds := [], alts := [], laidByText := true, laidKinds := [.data, .data, .data, .data, .sentinel, .sentinel, .widerDeep, .pinned], laidTests := true, laidLooks := .later }
def RulesNamesCardSaid : Prop := Claim7.holds Tryz.pinned (.plain (OpenSpec.ofChange rulesNamesSpec)) rulesNamesCard

/-- THE TIED CARD OF 'muslinlaw18.RulesValues'. -/
def rulesValuesCard : Claim7 := { stood := { row := rulesValuesRow, standIns := [], harness := (true, "5544d07426346e51791737e417c9ff50a8ba8e0ed8c8589d15f6baf16245bf17"), looks := true }, kinds := [], alts := [], laidByText := true, laidKinds := [.data, .data, .data, .data, .sentinel, .sentinel, .widerDeep, .pinned], laidTests := true, laidLooks := .later }
def RulesValuesCardSaid : Prop := Claim7.holds Tryz.pinned (.plain (OpenSpec.ofChange rulesValuesSpec)) rulesValuesCard

/-- THE TIED CARD OF 'muslinlaw18.RulesAgain'. -/
def rulesAgainCard : Claim7 := { stood := { row := rulesAgainRow, standIns := [], harness := (true, "5544d07426346e51791737e417c9ff50a8ba8e0ed8c8589d15f6baf16245bf17"), looks := true }, kinds := [], alts := [], laidByText := true, laidKinds := [.data, .data, .data, .data, .sentinel, .sentinel, .widerDeep, .pinned], laidTests := true, laidLooks := .later }
def RulesAgainCardSaid : Prop := Claim7.holds Tryz.pinned (.plain (OpenSpec.ofChange rulesAgainSpec)) rulesAgainCard

/-- THE TIED CARD OF 'muslinlaw18.RulesSafe'. -/
def rulesSafeCard : Claim7 := { stood := { row := rulesSafeRow, standIns := [], harness := (true, "5544d07426346e51791737e417c9ff50a8ba8e0ed8c8589d15f6baf16245bf17"), looks := true }, kinds := [], alts := [], laidByText := true, laidKinds := [.data, .data, .data, .data, .sentinel, .sentinel, .widerDeep, .pinned], laidTests := true, laidLooks := .later }
def RulesSafeCardSaid : Prop := Claim7.holds Tryz.pinned (.plain (OpenSpec.ofChange rulesSafeSpec)) rulesSafeCard

/-- THE TIED CARD OF 'muslinlaw18.RulesOff'. -/
def rulesOffCard : Claim7 := { stood := { row := rulesOffRow, standIns := [], harness := (true, "5544d07426346e51791737e417c9ff50a8ba8e0ed8c8589d15f6baf16245bf17"), looks := true }, kinds := [], alts := [], laidByText := true, laidKinds := [.data, .data, .data, .data, .sentinel, .sentinel, .widerDeep, .pinned], laidTests := true, laidLooks := .later }
def RulesOffCardSaid : Prop := Claim7.holds Tryz.pinned (.plain (OpenSpec.ofChange rulesOffSpec)) rulesOffCard

/-- THE SECOND FORM's CARD OF 'muslinlaw18.RulesNames'. -/
def rulesNamesUptoCard : Claim7 := { stood := { row := rulesNamesUptoRow, standIns := [], harness := (true, "5544d07426346e51791737e417c9ff50a8ba8e0ed8c8589d15f6baf16245bf17"), looks := true }, kinds := [], alts := [], laidByText := true, laidKinds := [.data, .data, .data, .data, .sentinel, .sentinel, .widerDeep, .pinned], laidTests := true, laidLooks := .later }
def RulesNamesUptoCardSaid : Prop := Claim7.holds Tryz.pinned (.plain (OpenSpec.upto rulesNamesSpec)) rulesNamesUptoCard

/-- THE SECOND FORM's CARD OF 'muslinlaw18.RulesValues'. -/
def rulesValuesUptoCard : Claim7 := { stood := { row := rulesValuesUptoRow, standIns := [], harness := (true, "5544d07426346e51791737e417c9ff50a8ba8e0ed8c8589d15f6baf16245bf17"), looks := true }, kinds := [], alts := [], laidByText := true, laidKinds := [.data, .data, .data, .data, .sentinel, .sentinel, .widerDeep, .pinned], laidTests := true, laidLooks := .later }
def RulesValuesUptoCardSaid : Prop := Claim7.holds Tryz.pinned (.plain (OpenSpec.upto rulesValuesSpec)) rulesValuesUptoCard

/-- THE SECOND FORM's CARD OF 'muslinlaw18.RulesAgain'. -/
def rulesAgainUptoCard : Claim7 := { stood := { row := rulesAgainUptoRow, standIns := [], harness := (true, "5544d07426346e51791737e417c9ff50a8ba8e0ed8c8589d15f6baf16245bf17"), looks := true }, kinds := [], alts := [], laidByText := true, laidKinds := [.data, .data, .data, .data, .sentinel, .sentinel, .widerDeep, .pinned], laidTests := true, laidLooks := .later }
def RulesAgainUptoCardSaid : Prop := Claim7.holds Tryz.pinned (.plain (OpenSpec.upto rulesAgainSpec)) rulesAgainUptoCard

/-- THE SECOND FORM's CARD OF 'muslinlaw18.RulesSafe'. -/
def rulesSafeUptoCard : Claim7 := { stood := { row := rulesSafeUptoRow, standIns := [], harness := (true, "5544d07426346e51791737e417c9ff50a8ba8e0ed8c8589d15f6baf16245bf17"), looks := true }, kinds := [], alts := [], laidByText := true, laidKinds := [.data, .data, .data, .data, .sentinel, .sentinel, .widerDeep, .pinned], laidTests := true, laidLooks := .later }
def RulesSafeUptoCardSaid : Prop := Claim7.holds Tryz.pinned (.plain (OpenSpec.upto rulesSafeSpec)) rulesSafeUptoCard

/-- THE SECOND FORM's CARD OF 'muslinlaw18.RulesOff'. -/
def rulesOffUptoCard : Claim7 := { stood := { row := rulesOffUptoRow, standIns := [], harness := (true, "5544d07426346e51791737e417c9ff50a8ba8e0ed8c8589d15f6baf16245bf17"), looks := true }, kinds := [], alts := [], laidByText := true, laidKinds := [.data, .data, .data, .data, .sentinel, .sentinel, .widerDeep, .pinned], laidTests := true, laidLooks := .later }
def RulesOffUptoCardSaid : Prop := Claim7.holds Tryz.pinned (.plain (OpenSpec.upto rulesOffSpec)) rulesOffUptoCard
end Rows
end Go.Proofs.YtchooidhieaphaaGreatDoor
