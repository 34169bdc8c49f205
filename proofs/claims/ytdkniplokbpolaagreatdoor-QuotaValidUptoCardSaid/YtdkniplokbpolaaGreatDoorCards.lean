/-
  DERIVED. GIVEN WITH THE SEED: THE CARDS: each row of YtdkniplokbpolaaGreatDoorRows.lean that lists a variable, with what it lists TIED to the program's text (the seventh form; the later family's looks); each row that meets fmt, with fmt's text TOLD by the authors' own Lean function (tested against real Go, not proved from fmt's source: count such statements apart). THE CARD IS WHAT COUNTS. Prove the row's statement (the work); the ties are given (YtdkniplokbpolaaGreatDoorTie.lean); close each card by the builder's one call (the guide's Derived/Test/ToyasCard.lean, 'card_holds'). Laid BY PROGRAM, IN A SANDBOX (cutbox-door.mjs). By AI agents, Wed Nov 11 2026. No macro, syntax, notation, axiom, sorry.
-/
import Derived.Test.YtdkniplokbpolaaGreatDoorRows
import GoSem.ClaimSeven
namespace Go.Proofs.YtdkniplokbpolaaGreatDoor
namespace Rows

/-- THE TIED CARD OF 'downspoutlaw20.QuotaMatchesReference'. -/
def quotaMatchesReferenceCard : Claim7 := { stood := { row := quotaMatchesReferenceRow, standIns := [], harness := (true, "b382cf9c3a450327042a6a4dc3117eea1b4fde0956e335050ec5bcdbfeeca2c8"), looks := false }, kinds := [], alts := [], laidByText := true, laidKinds := [.data, .pinned], laidTests := true, laidLooks := .later }
def QuotaMatchesReferenceCardSaid : Prop := Claim7.holds Tryz.pinned (.plain (OpenSpec.ofChange quotaMatchesReferenceSpec)) quotaMatchesReferenceCard

/-- THE TIED CARD OF 'downspoutlaw20.QuotaValid'. -/
def quotaValidCard : Claim7 := { stood := { row := quotaValidRow, standIns := [], harness := (true, "b382cf9c3a450327042a6a4dc3117eea1b4fde0956e335050ec5bcdbfeeca2c8"), looks := false }, kinds := [], alts := [], laidByText := true, laidKinds := [.data, .pinned], laidTests := true, laidLooks := .later }
def QuotaValidCardSaid : Prop := Claim7.holds Tryz.pinned (.plain (OpenSpec.ofChange quotaValidSpec)) quotaValidCard

/-- THE TIED CARD OF 'downspoutlaw20.QuotaSums'. -/
def quotaSumsCard : Claim7 := { stood := { row := quotaSumsRow, standIns := [], harness := (true, "b382cf9c3a450327042a6a4dc3117eea1b4fde0956e335050ec5bcdbfeeca2c8"), looks := false }, kinds := [], alts := [], laidByText := true, laidKinds := [.data, .pinned], laidTests := true, laidLooks := .later }
def QuotaSumsCardSaid : Prop := Claim7.holds Tryz.pinned (.plain (OpenSpec.ofChange quotaSumsSpec)) quotaSumsCard

/-- THE TIED CARD OF 'downspoutlaw20.QuotaFits'. -/
def quotaFitsCard : Claim7 := { stood := { row := quotaFitsRow, standIns := [], harness := (true, "b382cf9c3a450327042a6a4dc3117eea1b4fde0956e335050ec5bcdbfeeca2c8"), looks := false }, kinds := [], alts := [], laidByText := true, laidKinds := [.data, .pinned], laidTests := true, laidLooks := .later }
def QuotaFitsCardSaid : Prop := Claim7.holds Tryz.pinned (.plain (OpenSpec.ofChange quotaFitsSpec)) quotaFitsCard

/-- THE TIED CARD OF 'downspoutlaw20.QuotaAllows'. -/
def quotaAllowsCard : Claim7 := { stood := { row := quotaAllowsRow, standIns := [], harness := (true, "b382cf9c3a450327042a6a4dc3117eea1b4fde0956e335050ec5bcdbfeeca2c8"), looks := false }, kinds := [], alts := [], laidByText := true, laidKinds := [.data, .pinned], laidTests := true, laidLooks := .later }
def QuotaAllowsCardSaid : Prop := Claim7.holds Tryz.pinned (.plain (OpenSpec.ofChange quotaAllowsSpec)) quotaAllowsCard

/-- THE TIED CARD OF 'downspoutlaw20.QuotaSets'. -/
def quotaSetsCard : Claim7 := { stood := { row := quotaSetsRow, standIns := [], harness := (true, "b382cf9c3a450327042a6a4dc3117eea1b4fde0956e335050ec5bcdbfeeca2c8"), looks := false }, kinds := [], alts := [], laidByText := true, laidKinds := [.data, .pinned], laidTests := true, laidLooks := .later }
def QuotaSetsCardSaid : Prop := Claim7.holds Tryz.pinned (.plain (OpenSpec.ofChange quotaSetsSpec)) quotaSetsCard

/-- THE TIED CARD OF 'downspoutlaw20.QuotaMoves'. -/
def quotaMovesCard : Claim7 := { stood := { row := quotaMovesRow, standIns := [], harness := (true, "b382cf9c3a450327042a6a4dc3117eea1b4fde0956e335050ec5bcdbfeeca2c8"), looks := false }, kinds := [], alts := [], laidByText := true, laidKinds := [.data, .pinned], laidTests := true, laidLooks := .later }
def QuotaMovesCardSaid : Prop := Claim7.holds Tryz.pinned (.plain (OpenSpec.ofChange quotaMovesSpec)) quotaMovesCard

/-- THE TIED CARD OF 'downspoutlaw20.QuotaRefuses'. -/
def quotaRefusesCard : Claim7 := { stood := { row := quotaRefusesRow, standIns := [], harness := (true, "b382cf9c3a450327042a6a4dc3117eea1b4fde0956e335050ec5bcdbfeeca2c8"), looks := false }, kinds := [], alts := [], laidByText := true, laidKinds := [.data, .pinned], laidTests := true, laidLooks := .later }
def QuotaRefusesCardSaid : Prop := Claim7.holds Tryz.pinned (.plain (OpenSpec.ofChange quotaRefusesSpec)) quotaRefusesCard

/-- THE SECOND FORM's CARD OF 'downspoutlaw20.QuotaMatchesReference'. -/
def quotaMatchesReferenceUptoCard : Claim7 := { stood := { row := quotaMatchesReferenceUptoRow, standIns := [], harness := (true, "b382cf9c3a450327042a6a4dc3117eea1b4fde0956e335050ec5bcdbfeeca2c8"), looks := false }, kinds := [], alts := [], laidByText := true, laidKinds := [.data, .pinned], laidTests := true, laidLooks := .later }
def QuotaMatchesReferenceUptoCardSaid : Prop := Claim7.holds Tryz.pinned (.plain (OpenSpec.upto quotaMatchesReferenceSpec)) quotaMatchesReferenceUptoCard

/-- THE SECOND FORM's CARD OF 'downspoutlaw20.QuotaValid'. -/
def quotaValidUptoCard : Claim7 := { stood := { row := quotaValidUptoRow, standIns := [], harness := (true, "b382cf9c3a450327042a6a4dc3117eea1b4fde0956e335050ec5bcdbfeeca2c8"), looks := false }, kinds := [], alts := [], laidByText := true, laidKinds := [.data, .pinned], laidTests := true, laidLooks := .later }
def QuotaValidUptoCardSaid : Prop := Claim7.holds Tryz.pinned (.plain (OpenSpec.upto quotaValidSpec)) quotaValidUptoCard

/-- THE SECOND FORM's CARD OF 'downspoutlaw20.QuotaSums'. -/
def quotaSumsUptoCard : Claim7 := { stood := { row := quotaSumsUptoRow, standIns := [], harness := (true, "b382cf9c3a450327042a6a4dc3117eea1b4fde0956e335050ec5bcdbfeeca2c8"), looks := false }, kinds := [], alts := [], laidByText := true, laidKinds := [.data, .pinned], laidTests := true, laidLooks := .later }
def QuotaSumsUptoCardSaid : Prop := Claim7.holds Tryz.pinned (.plain (OpenSpec.upto quotaSumsSpec)) quotaSumsUptoCard

/-- THE SECOND FORM's CARD OF 'downspoutlaw20.QuotaFits'. -/
def quotaFitsUptoCard : Claim7 := { stood := { row := quotaFitsUptoRow, standIns := [], harness := (true, "b382cf9c3a450327042a6a4dc3117eea1b4fde0956e335050ec5bcdbfeeca2c8"), looks := false }, kinds := [], alts := [], laidByText := true, laidKinds := [.data, .pinned], laidTests := true, laidLooks := .later }
def QuotaFitsUptoCardSaid : Prop := Claim7.holds Tryz.pinned (.plain (OpenSpec.upto quotaFitsSpec)) quotaFitsUptoCard

/-- THE SECOND FORM's CARD OF 'downspoutlaw20.QuotaAllows'. -/
def quotaAllowsUptoCard : Claim7 := { stood := { row := quotaAllowsUptoRow, standIns := [], harness := (true, "b382cf9c3a450327042a6a4dc3117eea1b4fde0956e335050ec5bcdbfeeca2c8"), looks := false }, kinds := [], alts := [], laidByText := true, laidKinds := [.data, .pinned], laidTests := true, laidLooks := .later }
def QuotaAllowsUptoCardSaid : Prop := Claim7.holds Tryz.pinned (.plain (OpenSpec.upto quotaAllowsSpec)) quotaAllowsUptoCard

/-- THE SECOND FORM's CARD OF 'downspoutlaw20.QuotaSets'. -/
def quotaSetsUptoCard : Claim7 := { stood := { row := quotaSetsUptoRow, standIns := [], harness := (true, "b382cf9c3a450327042a6a4dc3117eea1b4fde0956e335050ec5bcdbfeeca2c8"), looks := false }, kinds := [], alts := [], laidByText := true, laidKinds := [.data, .pinned], laidTests := true, laidLooks := .later }
def QuotaSetsUptoCardSaid : Prop := Claim7.holds Tryz.pinned (.plain (OpenSpec.upto quotaSetsSpec)) quotaSetsUptoCard

/-- THE SECOND FORM's CARD OF 'downspoutlaw20.QuotaMoves'. -/
def quotaMovesUptoCard : Claim7 := { stood := { row := quotaMovesUptoRow, standIns := [], harness := (true, "b382cf9c3a450327042a6a4dc3117eea1b4fde0956e335050ec5bcdbfeeca2c8"), looks := false }, kinds := [], alts := [], laidByText := true, laidKinds := [.data, .pinned], laidTests := true, laidLooks := .later }
def QuotaMovesUptoCardSaid : Prop := Claim7.holds Tryz.pinned (.plain (OpenSpec.upto quotaMovesSpec)) quotaMovesUptoCard

/-- THE SECOND FORM's CARD OF 'downspoutlaw20.QuotaRefuses'. -/
def quotaRefusesUptoCard : Claim7 := { stood := { row := quotaRefusesUptoRow, standIns := [], harness := (true, "b382cf9c3a450327042a6a4dc3117eea1b4fde0956e335050ec5bcdbfeeca2c8"), looks := false }, kinds := [], alts := [], laidByText := true, laidKinds := [.data, .pinned], laidTests := true, laidLooks := .later }
def QuotaRefusesUptoCardSaid : Prop := Claim7.holds Tryz.pinned (.plain (OpenSpec.upto quotaRefusesSpec)) quotaRefusesUptoCard
end Rows
end Go.Proofs.YtdkniplokbpolaaGreatDoor
