/-
  DERIVED. GIVEN WITH THE SEED: THE CARDS: each row of YtiolpldihoghiaaDoorRows.lean that lists a variable, with what it lists TIED to the program's text (the seventh form; the later family's looks); each row that meets fmt, with fmt's text TOLD by the authors' own Lean function (tested against real Go, not proved from fmt's source: count such statements apart). THE CARD IS WHAT COUNTS. Prove the row's statement (the work); the ties are given (YtiolpldihoghiaaDoorTie.lean); close each card by the builder's one call (the guide's Derived/Test/ToyasCard.lean, 'card_holds'). Laid BY PROGRAM, IN A SANDBOX (cutbox-door.mjs). By AI agents, Wed Nov 11 2026. No macro, syntax, notation, axiom, sorry.
-/
import Derived.Test.YtiolpldihoghiaaDoorRows
import GoSem.ClaimSeven
namespace Go.Proofs.YtiolpldihoghiaaDoor
namespace Rows

/-- THE TIED CARD OF 'standbylaw47.ReverseUndoes'. -/
def reverseUndoesCard : Claim7 := { stood := { row := reverseUndoesRow, standIns := [], harness := (true, "0fbea9f7a9363770ef7d7c442e923654834488058ca280ed95a31cbd94370fd7"), looks := false }, kinds := [], alts := [], laidByText := true, laidKinds := [.data], laidTests := true, laidLooks := .later }
def ReverseUndoesCardSaid : Prop := Claim7.holds Tryd.pinned (.plain (OpenSpec.ofChange reverseUndoesSpec)) reverseUndoesCard

/-- THE TIED CARD OF 'standbylaw47.ReverseCycles'. -/
def reverseCyclesCard : Claim7 := { stood := { row := reverseCyclesRow, standIns := [], harness := (true, "0fbea9f7a9363770ef7d7c442e923654834488058ca280ed95a31cbd94370fd7"), looks := false }, kinds := [], alts := [], laidByText := true, laidKinds := [.data], laidTests := true, laidLooks := .later }
def ReverseCyclesCardSaid : Prop := Claim7.holds Tryd.pinned (.plain (OpenSpec.ofChange reverseCyclesSpec)) reverseCyclesCard

/-- THE TIED CARD OF 'standbylaw47.ReverseRestores'. -/
def reverseRestoresCard : Claim7 := { stood := { row := reverseRestoresRow, standIns := [], harness := (true, "0fbea9f7a9363770ef7d7c442e923654834488058ca280ed95a31cbd94370fd7"), looks := false }, kinds := [], alts := [], laidByText := true, laidKinds := [.data], laidTests := true, laidLooks := .later }
def ReverseRestoresCardSaid : Prop := Claim7.holds Tryd.pinned (.plain (OpenSpec.ofChange reverseRestoresSpec)) reverseRestoresCard

/-- THE TIED CARD OF 'standbylaw47.ReverseSettles'. -/
def reverseSettlesCard : Claim7 := { stood := { row := reverseSettlesRow, standIns := [], harness := (true, "0fbea9f7a9363770ef7d7c442e923654834488058ca280ed95a31cbd94370fd7"), looks := false }, kinds := [], alts := [], laidByText := true, laidKinds := [.data], laidTests := true, laidLooks := .later }
def ReverseSettlesCardSaid : Prop := Claim7.holds Tryd.pinned (.plain (OpenSpec.ofChange reverseSettlesSpec)) reverseSettlesCard

/-- THE TIED CARD OF 'standbylaw47.ReverseDiscards'. -/
def reverseDiscardsCard : Claim7 := { stood := { row := reverseDiscardsRow, standIns := [], harness := (true, "0fbea9f7a9363770ef7d7c442e923654834488058ca280ed95a31cbd94370fd7"), looks := false }, kinds := [], alts := [], laidByText := true, laidKinds := [.data], laidTests := true, laidLooks := .later }
def ReverseDiscardsCardSaid : Prop := Claim7.holds Tryd.pinned (.plain (OpenSpec.ofChange reverseDiscardsSpec)) reverseDiscardsCard

/-- THE TIED CARD OF 'standbylaw47.ReverseDivides'. -/
def reverseDividesCard : Claim7 := { stood := { row := reverseDividesRow, standIns := [], harness := (true, "0fbea9f7a9363770ef7d7c442e923654834488058ca280ed95a31cbd94370fd7"), looks := false }, kinds := [], alts := [], laidByText := true, laidKinds := [.data], laidTests := true, laidLooks := .later }
def ReverseDividesCardSaid : Prop := Claim7.holds Tryd.pinned (.plain (OpenSpec.ofChange reverseDividesSpec)) reverseDividesCard

/-- THE TIED CARD OF 'standbylaw47.ReverseTurns'. -/
def reverseTurnsCard : Claim7 := { stood := { row := reverseTurnsRow, standIns := [], harness := (true, "0fbea9f7a9363770ef7d7c442e923654834488058ca280ed95a31cbd94370fd7"), looks := false }, kinds := [], alts := [], laidByText := true, laidKinds := [.data], laidTests := true, laidLooks := .later }
def ReverseTurnsCardSaid : Prop := Claim7.holds Tryd.pinned (.plain (OpenSpec.ofChange reverseTurnsSpec)) reverseTurnsCard

/-- THE SECOND FORM's CARD OF 'standbylaw47.ReverseUndoes'. -/
def reverseUndoesUptoCard : Claim7 := { stood := { row := reverseUndoesUptoRow, standIns := [], harness := (true, "0fbea9f7a9363770ef7d7c442e923654834488058ca280ed95a31cbd94370fd7"), looks := false }, kinds := [], alts := [], laidByText := true, laidKinds := [.data], laidTests := true, laidLooks := .later }
def ReverseUndoesUptoCardSaid : Prop := Claim7.holds Tryd.pinned (.plain (OpenSpec.upto reverseUndoesSpec)) reverseUndoesUptoCard

/-- THE SECOND FORM's CARD OF 'standbylaw47.ReverseCycles'. -/
def reverseCyclesUptoCard : Claim7 := { stood := { row := reverseCyclesUptoRow, standIns := [], harness := (true, "0fbea9f7a9363770ef7d7c442e923654834488058ca280ed95a31cbd94370fd7"), looks := false }, kinds := [], alts := [], laidByText := true, laidKinds := [.data], laidTests := true, laidLooks := .later }
def ReverseCyclesUptoCardSaid : Prop := Claim7.holds Tryd.pinned (.plain (OpenSpec.upto reverseCyclesSpec)) reverseCyclesUptoCard

/-- THE SECOND FORM's CARD OF 'standbylaw47.ReverseRestores'. -/
def reverseRestoresUptoCard : Claim7 := { stood := { row := reverseRestoresUptoRow, standIns := [], harness := (true, "0fbea9f7a9363770ef7d7c442e923654834488058ca280ed95a31cbd94370fd7"), looks := false }, kinds := [], alts := [], laidByText := true, laidKinds := [.data], laidTests := true, laidLooks := .later }
def ReverseRestoresUptoCardSaid : Prop := Claim7.holds Tryd.pinned (.plain (OpenSpec.upto reverseRestoresSpec)) reverseRestoresUptoCard

/-- THE SECOND FORM's CARD OF 'standbylaw47.ReverseSettles'. -/
def reverseSettlesUptoCard : Claim7 := { stood := { row := reverseSettlesUptoRow, standIns := [], harness := (true, "0fbea9f7a9363770ef7d7c442e923654834488058ca280ed95a31cbd94370fd7"), looks := false }, kinds := [], alts := [], laidByText := true, laidKinds := [.data], laidTests := true, laidLooks := .later }
def ReverseSettlesUptoCardSaid : Prop := Claim7.holds Tryd.pinned (.plain (OpenSpec.upto reverseSettlesSpec)) reverseSettlesUptoCard

/-- THE SECOND FORM's CARD OF 'standbylaw47.ReverseDiscards'. -/
def reverseDiscardsUptoCard : Claim7 := { stood := { row := reverseDiscardsUptoRow, standIns := [], harness := (true, "0fbea9f7a9363770ef7d7c442e923654834488058ca280ed95a31cbd94370fd7"), looks := false }, kinds := [], alts := [], laidByText := true, laidKinds := [.data], laidTests := true, laidLooks := .later }
def ReverseDiscardsUptoCardSaid : Prop := Claim7.holds Tryd.pinned (.plain (OpenSpec.upto reverseDiscardsSpec)) reverseDiscardsUptoCard

/-- THE SECOND FORM's CARD OF 'standbylaw47.ReverseDivides'. -/
def reverseDividesUptoCard : Claim7 := { stood := { row := reverseDividesUptoRow, standIns := [], harness := (true, "0fbea9f7a9363770ef7d7c442e923654834488058ca280ed95a31cbd94370fd7"), looks := false }, kinds := [], alts := [], laidByText := true, laidKinds := [.data], laidTests := true, laidLooks := .later }
def ReverseDividesUptoCardSaid : Prop := Claim7.holds Tryd.pinned (.plain (OpenSpec.upto reverseDividesSpec)) reverseDividesUptoCard

/-- THE SECOND FORM's CARD OF 'standbylaw47.ReverseTurns'. -/
def reverseTurnsUptoCard : Claim7 := { stood := { row := reverseTurnsUptoRow, standIns := [], harness := (true, "0fbea9f7a9363770ef7d7c442e923654834488058ca280ed95a31cbd94370fd7"), looks := false }, kinds := [], alts := [], laidByText := true, laidKinds := [.data], laidTests := true, laidLooks := .later }
def ReverseTurnsUptoCardSaid : Prop := Claim7.holds Tryd.pinned (.plain (OpenSpec.upto reverseTurnsSpec)) reverseTurnsUptoCard
end Rows
end Go.Proofs.YtiolpldihoghiaaDoor
