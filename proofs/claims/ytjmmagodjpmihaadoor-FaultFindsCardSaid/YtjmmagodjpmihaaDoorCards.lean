/-
  DERIVED. GIVEN WITH THE SEED: THE CARDS: each row of YtjmmagodjpmihaaDoorRows.lean that lists a variable, with what it lists TIED to the program's text (the seventh form; the later family's looks); each row that meets fmt, with fmt's text TOLD by the authors' own Lean function (tested against real Go, not proved from fmt's source: count such statements apart). THE CARD IS WHAT COUNTS. Prove the row's statement (the work); the ties are given (YtjmmagodjpmihaaDoorTie.lean); close each card by the builder's one call (the guide's Derived/Test/ToyasCard.lean, 'card_holds'). Laid BY PROGRAM, IN A SANDBOX (cutbox-door.mjs). By AI agents, Wed Nov 11 2026. No macro, syntax, notation, axiom, sorry.
-/
import Derived.Test.YtjmmagodjpmihaaDoorRows
import GoSem.ClaimSeven
namespace Go.Proofs.YtjmmagodjpmihaaDoor
namespace Rows

/-- THE TIED CARD OF 'dolmenlaw3.FaultKeeps'. -/
def faultKeepsCard : Claim7 := { stood := { row := faultKeepsRow, standIns := [], harness := (true, "4cda845f7a88830122cfb726b6a4ba1585e72c54ae382f50db83135bebbaa9df"), looks := true }, kinds := [], alts := [], laidByText := true, laidKinds := [.handle], laidTests := true, laidLooks := .later }
def FaultKeepsCardSaid : Prop := Claim7.holds Tryd.pinned (.plain (OpenSpec.ofChange faultKeepsSpec)) faultKeepsCard

/-- THE TIED CARD OF 'dolmenlaw3.FaultOrder'. -/
def faultOrderCard : Claim7 := { stood := { row := faultOrderRow, standIns := [], harness := (true, "4cda845f7a88830122cfb726b6a4ba1585e72c54ae382f50db83135bebbaa9df"), looks := true }, kinds := [], alts := [], laidByText := true, laidKinds := [.handle], laidTests := true, laidLooks := .later }
def FaultOrderCardSaid : Prop := Claim7.holds Tryd.pinned (.plain (OpenSpec.ofChange faultOrderSpec)) faultOrderCard

/-- THE TIED CARD OF 'dolmenlaw3.FaultBoth'. -/
def faultBothCard : Claim7 := { stood := { row := faultBothRow, standIns := [], harness := (true, "4cda845f7a88830122cfb726b6a4ba1585e72c54ae382f50db83135bebbaa9df"), looks := true }, kinds := [], alts := [], laidByText := true, laidKinds := [.handle], laidTests := true, laidLooks := .later }
def FaultBothCardSaid : Prop := Claim7.holds Tryd.pinned (.plain (OpenSpec.ofChange faultBothSpec)) faultBothCard

/-- THE TIED CARD OF 'dolmenlaw3.FaultFinds'. -/
def faultFindsCard : Claim7 := { stood := { row := faultFindsRow, standIns := [], harness := (true, "4cda845f7a88830122cfb726b6a4ba1585e72c54ae382f50db83135bebbaa9df"), looks := true }, kinds := [], alts := [], laidByText := true, laidKinds := [.handle], laidTests := true, laidLooks := .later }
def FaultFindsCardSaid : Prop := Claim7.holds Tryd.pinned (.plain (OpenSpec.ofChange faultFindsSpec)) faultFindsCard

/-- THE TIED CARD OF 'dolmenlaw3.FaultAsks'. -/
def faultAsksCard : Claim7 := { stood := { row := faultAsksRow, standIns := [], harness := (true, "4cda845f7a88830122cfb726b6a4ba1585e72c54ae382f50db83135bebbaa9df"), looks := true }, kinds := [], alts := [], laidByText := true, laidKinds := [.handle], laidTests := true, laidLooks := .later }
def FaultAsksCardSaid : Prop := Claim7.holds Tryd.pinned (.plain (OpenSpec.ofChange faultAsksSpec)) faultAsksCard

/-- THE TIED CARD OF 'dolmenlaw3.FaultInner'. -/
def faultInnerCard : Claim7 := { stood := { row := faultInnerRow, standIns := [], harness := (true, "4cda845f7a88830122cfb726b6a4ba1585e72c54ae382f50db83135bebbaa9df"), looks := true }, kinds := [], alts := [], laidByText := true, laidKinds := [.handle], laidTests := true, laidLooks := .later }
def FaultInnerCardSaid : Prop := Claim7.holds Tryd.pinned (.plain (OpenSpec.ofChange faultInnerSpec)) faultInnerCard

/-- THE TIED CARD OF 'dolmenlaw3.FaultNone'. -/
def faultNoneCard : Claim7 := { stood := { row := faultNoneRow, standIns := [], harness := (true, "4cda845f7a88830122cfb726b6a4ba1585e72c54ae382f50db83135bebbaa9df"), looks := true }, kinds := [], alts := [], laidByText := true, laidKinds := [.handle], laidTests := true, laidLooks := .later }
def FaultNoneCardSaid : Prop := Claim7.holds Tryd.pinned (.plain (OpenSpec.ofChange faultNoneSpec)) faultNoneCard

/-- THE SECOND FORM's CARD OF 'dolmenlaw3.FaultKeeps'. -/
def faultKeepsUptoCard : Claim7 := { stood := { row := faultKeepsUptoRow, standIns := [], harness := (true, "4cda845f7a88830122cfb726b6a4ba1585e72c54ae382f50db83135bebbaa9df"), looks := true }, kinds := [], alts := [], laidByText := true, laidKinds := [.handle], laidTests := true, laidLooks := .later }
def FaultKeepsUptoCardSaid : Prop := Claim7.holds Tryd.pinned (.plain (OpenSpec.upto faultKeepsSpec)) faultKeepsUptoCard

/-- THE SECOND FORM's CARD OF 'dolmenlaw3.FaultOrder'. -/
def faultOrderUptoCard : Claim7 := { stood := { row := faultOrderUptoRow, standIns := [], harness := (true, "4cda845f7a88830122cfb726b6a4ba1585e72c54ae382f50db83135bebbaa9df"), looks := true }, kinds := [], alts := [], laidByText := true, laidKinds := [.handle], laidTests := true, laidLooks := .later }
def FaultOrderUptoCardSaid : Prop := Claim7.holds Tryd.pinned (.plain (OpenSpec.upto faultOrderSpec)) faultOrderUptoCard

/-- THE SECOND FORM's CARD OF 'dolmenlaw3.FaultBoth'. -/
def faultBothUptoCard : Claim7 := { stood := { row := faultBothUptoRow, standIns := [], harness := (true, "4cda845f7a88830122cfb726b6a4ba1585e72c54ae382f50db83135bebbaa9df"), looks := true }, kinds := [], alts := [], laidByText := true, laidKinds := [.handle], laidTests := true, laidLooks := .later }
def FaultBothUptoCardSaid : Prop := Claim7.holds Tryd.pinned (.plain (OpenSpec.upto faultBothSpec)) faultBothUptoCard

/-- THE SECOND FORM's CARD OF 'dolmenlaw3.FaultFinds'. -/
def faultFindsUptoCard : Claim7 := { stood := { row := faultFindsUptoRow, standIns := [], harness := (true, "4cda845f7a88830122cfb726b6a4ba1585e72c54ae382f50db83135bebbaa9df"), looks := true }, kinds := [], alts := [], laidByText := true, laidKinds := [.handle], laidTests := true, laidLooks := .later }
def FaultFindsUptoCardSaid : Prop := Claim7.holds Tryd.pinned (.plain (OpenSpec.upto faultFindsSpec)) faultFindsUptoCard

/-- THE SECOND FORM's CARD OF 'dolmenlaw3.FaultAsks'. -/
def faultAsksUptoCard : Claim7 := { stood := { row := faultAsksUptoRow, standIns := [], harness := (true, "4cda845f7a88830122cfb726b6a4ba1585e72c54ae382f50db83135bebbaa9df"), looks := true }, kinds := [], alts := [], laidByText := true, laidKinds := [.handle], laidTests := true, laidLooks := .later }
def FaultAsksUptoCardSaid : Prop := Claim7.holds Tryd.pinned (.plain (OpenSpec.upto faultAsksSpec)) faultAsksUptoCard

/-- THE SECOND FORM's CARD OF 'dolmenlaw3.FaultInner'. -/
def faultInnerUptoCard : Claim7 := { stood := { row := faultInnerUptoRow, standIns := [], harness := (true, "4cda845f7a88830122cfb726b6a4ba1585e72c54ae382f50db83135bebbaa9df"), looks := true }, kinds := [], alts := [], laidByText := true, laidKinds := [.handle], laidTests := true, laidLooks := .later }
def FaultInnerUptoCardSaid : Prop := Claim7.holds Tryd.pinned (.plain (OpenSpec.upto faultInnerSpec)) faultInnerUptoCard

/-- THE SECOND FORM's CARD OF 'dolmenlaw3.FaultNone'. -/
def faultNoneUptoCard : Claim7 := { stood := { row := faultNoneUptoRow, standIns := [], harness := (true, "4cda845f7a88830122cfb726b6a4ba1585e72c54ae382f50db83135bebbaa9df"), looks := true }, kinds := [], alts := [], laidByText := true, laidKinds := [.handle], laidTests := true, laidLooks := .later }
def FaultNoneUptoCardSaid : Prop := Claim7.holds Tryd.pinned (.plain (OpenSpec.upto faultNoneSpec)) faultNoneUptoCard
end Rows
end Go.Proofs.YtjmmagodjpmihaaDoor
