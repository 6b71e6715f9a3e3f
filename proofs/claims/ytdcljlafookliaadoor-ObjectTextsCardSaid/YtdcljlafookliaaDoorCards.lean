/-
  DERIVED. GIVEN WITH THE SEED: THE CARDS: each row of YtdcljlafookliaaDoorRows.lean that lists a variable, with what it lists TIED to the program's text (the seventh form; the later family's looks); each row that meets fmt, with fmt's text TOLD by the authors' own Lean function (tested against real Go, not proved from fmt's source: count such statements apart). THE CARD IS WHAT COUNTS. Prove the row's statement (the work); the ties are given (YtdcljlafookliaaDoorTie.lean); close each card by the builder's one call (the guide's Derived/Test/ToyasCard.lean, 'card_holds'). Laid BY PROGRAM, IN A SANDBOX (cutbox-door.mjs). By AI agents, Wed Nov 11 2026. No macro, syntax, notation, axiom, sorry.
-/
import Derived.Test.YtdcljlafookliaaDoorRows
import GoSem.ClaimSeven
namespace Go.Proofs.YtdcljlafookliaaDoor
namespace Rows

/-- THE TIED CARD OF 'cruciblelaw15.ObjectTexts'. -/
def objectTextsCard : Claim7 := { stood := { row := objectTextsRow, standIns := [], harness := (true, "1dd3e192dc27647b48295b4989a89ed4ab8b405671b08b862e7564bafabda58e"), looks := true }, kinds := [], alts := [], laidByText := true, laidKinds := [.data, .pinned], laidTests := true, laidLooks := .later }
def ObjectTextsCardSaid : Prop := Claim7.holds Tryd.pinned (.plain (OpenSpec.ofChange objectTextsSpec)) objectTextsCard

/-- THE TIED CARD OF 'cruciblelaw15.ObjectKeeps'. -/
def objectKeepsCard : Claim7 := { stood := { row := objectKeepsRow, standIns := [], harness := (true, "1dd3e192dc27647b48295b4989a89ed4ab8b405671b08b862e7564bafabda58e"), looks := true }, kinds := [], alts := [], laidByText := true, laidKinds := [.data, .pinned], laidTests := true, laidLooks := .later }
def ObjectKeepsCardSaid : Prop := Claim7.holds Tryd.pinned (.plain (OpenSpec.ofChange objectKeepsSpec)) objectKeepsCard

/-- THE TIED CARD OF 'cruciblelaw15.ObjectFits'. -/
def objectFitsCard : Claim7 := { stood := { row := objectFitsRow, standIns := [], harness := (true, "1dd3e192dc27647b48295b4989a89ed4ab8b405671b08b862e7564bafabda58e"), looks := true }, kinds := [], alts := [], laidByText := true, laidKinds := [.data, .pinned], laidTests := true, laidLooks := .later }
def ObjectFitsCardSaid : Prop := Claim7.holds Tryd.pinned (.plain (OpenSpec.ofChange objectFitsSpec)) objectFitsCard

/-- THE TIED CARD OF 'cruciblelaw15.ObjectDrops'. -/
def objectDropsCard : Claim7 := { stood := { row := objectDropsRow, standIns := [], harness := (true, "1dd3e192dc27647b48295b4989a89ed4ab8b405671b08b862e7564bafabda58e"), looks := true }, kinds := [], alts := [], laidByText := true, laidKinds := [.data, .pinned], laidTests := true, laidLooks := .later }
def ObjectDropsCardSaid : Prop := Claim7.holds Tryd.pinned (.plain (OpenSpec.ofChange objectDropsSpec)) objectDropsCard

/-- THE SECOND FORM's CARD OF 'cruciblelaw15.ObjectTexts'. -/
def objectTextsUptoCard : Claim7 := { stood := { row := objectTextsUptoRow, standIns := [], harness := (true, "1dd3e192dc27647b48295b4989a89ed4ab8b405671b08b862e7564bafabda58e"), looks := true }, kinds := [], alts := [], laidByText := true, laidKinds := [.data, .pinned], laidTests := true, laidLooks := .later }
def ObjectTextsUptoCardSaid : Prop := Claim7.holds Tryd.pinned (.plain (OpenSpec.upto objectTextsSpec)) objectTextsUptoCard

/-- THE SECOND FORM's CARD OF 'cruciblelaw15.ObjectKeeps'. -/
def objectKeepsUptoCard : Claim7 := { stood := { row := objectKeepsUptoRow, standIns := [], harness := (true, "1dd3e192dc27647b48295b4989a89ed4ab8b405671b08b862e7564bafabda58e"), looks := true }, kinds := [], alts := [], laidByText := true, laidKinds := [.data, .pinned], laidTests := true, laidLooks := .later }
def ObjectKeepsUptoCardSaid : Prop := Claim7.holds Tryd.pinned (.plain (OpenSpec.upto objectKeepsSpec)) objectKeepsUptoCard

/-- THE SECOND FORM's CARD OF 'cruciblelaw15.ObjectFits'. -/
def objectFitsUptoCard : Claim7 := { stood := { row := objectFitsUptoRow, standIns := [], harness := (true, "1dd3e192dc27647b48295b4989a89ed4ab8b405671b08b862e7564bafabda58e"), looks := true }, kinds := [], alts := [], laidByText := true, laidKinds := [.data, .pinned], laidTests := true, laidLooks := .later }
def ObjectFitsUptoCardSaid : Prop := Claim7.holds Tryd.pinned (.plain (OpenSpec.upto objectFitsSpec)) objectFitsUptoCard

/-- THE SECOND FORM's CARD OF 'cruciblelaw15.ObjectDrops'. -/
def objectDropsUptoCard : Claim7 := { stood := { row := objectDropsUptoRow, standIns := [], harness := (true, "1dd3e192dc27647b48295b4989a89ed4ab8b405671b08b862e7564bafabda58e"), looks := true }, kinds := [], alts := [], laidByText := true, laidKinds := [.data, .pinned], laidTests := true, laidLooks := .later }
def ObjectDropsUptoCardSaid : Prop := Claim7.holds Tryd.pinned (.plain (OpenSpec.upto objectDropsSpec)) objectDropsUptoCard
end Rows
end Go.Proofs.YtdcljlafookliaaDoor
