/-
  DERIVED. GIVEN WITH THE SEED: THE CARDS: each row of YtpkbfdgohkakaaaGreatDoorRows.lean that lists a variable, with what it lists TIED to the program's text (the seventh form; the later family's looks); each row that meets fmt, with fmt's text TOLD by the authors' own Lean function (tested against real Go, not proved from fmt's source: count such statements apart). THE CARD IS WHAT COUNTS. Prove the row's statement (the work); the ties are given (YtpkbfdgohkakaaaGreatDoorTie.lean); close each card by the builder's one call (the guide's Derived/Test/ToyasCard.lean, 'card_holds'). Laid BY PROGRAM, IN A SANDBOX (cutbox-door.mjs). By AI agents, Wed Nov 11 2026. No macro, syntax, notation, axiom, sorry.
-/
import Derived.Test.YtpkbfdgohkakaaaGreatDoorRows
import GoSem.ClaimSeven
namespace Go.Proofs.YtpkbfdgohkakaaaGreatDoor
namespace Rows

/-- THE TIED CARD OF 'stutterlaw34.KernelSequents'. -/
def kernelSequentsCard : Claim7 := { stood := { row := kernelSequentsRow, standIns := [], harness := (true, "64adb20edd6de2473363fc17a46b26cf9fc65c36dd939fc77ff4e20642d8eb1e"), looks := false }, kinds := [], alts := [], laidByText := true, laidKinds := [.data, .data, .data, .listed, .data], laidTests := true, laidLooks := .later }
def KernelSequentsCardSaid : Prop := Claim7.holds Tryz.pinned (.plain (OpenSpec.ofChange kernelSequentsSpec)) kernelSequentsCard

/-- THE TIED CARD OF 'stutterlaw34.KernelMeanings'. -/
def kernelMeaningsCard : Claim7 := { stood := { row := kernelMeaningsRow, standIns := [], harness := (true, "64adb20edd6de2473363fc17a46b26cf9fc65c36dd939fc77ff4e20642d8eb1e"), looks := false }, kinds := [], alts := [], laidByText := true, laidKinds := [.data, .data, .data, .listed, .data], laidTests := true, laidLooks := .later }
def KernelMeaningsCardSaid : Prop := Claim7.holds Tryz.pinned (.plain (OpenSpec.ofChange kernelMeaningsSpec)) kernelMeaningsCard

/-- THE TIED CARD OF 'stutterlaw34.KernelFollows'. -/
def kernelFollowsCard : Claim7 := { stood := { row := kernelFollowsRow, standIns := [], harness := (true, "64adb20edd6de2473363fc17a46b26cf9fc65c36dd939fc77ff4e20642d8eb1e"), looks := false }, kinds := [], alts := [], laidByText := true, laidKinds := [.data, .data, .data, .listed, .data], laidTests := true, laidLooks := .later }
def KernelFollowsCardSaid : Prop := Claim7.holds Tryz.pinned (.plain (OpenSpec.ofChange kernelFollowsSpec)) kernelFollowsCard

/-- THE TIED CARD OF 'stutterlaw34.KernelLinear'. -/
def kernelLinearCard : Claim7 := { stood := { row := kernelLinearRow, standIns := [], harness := (true, "64adb20edd6de2473363fc17a46b26cf9fc65c36dd939fc77ff4e20642d8eb1e"), looks := false }, kinds := [], alts := [], laidByText := true, laidKinds := [.data, .data, .data, .listed, .data], laidTests := true, laidLooks := .later }
def KernelLinearCardSaid : Prop := Claim7.holds Tryz.pinned (.plain (OpenSpec.ofChange kernelLinearSpec)) kernelLinearCard

/-- THE TIED CARD OF 'stutterlaw34.KernelChecks'. -/
def kernelChecksCard : Claim7 := { stood := { row := kernelChecksRow, standIns := [], harness := (true, "64adb20edd6de2473363fc17a46b26cf9fc65c36dd939fc77ff4e20642d8eb1e"), looks := false }, kinds := [], alts := [], laidByText := true, laidKinds := [.data, .data, .data, .listed, .data], laidTests := true, laidLooks := .later }
def KernelChecksCardSaid : Prop := Claim7.holds Tryz.pinned (.plain (OpenSpec.ofChange kernelChecksSpec)) kernelChecksCard

/-- THE TIED CARD OF 'stutterlaw34.KernelPart'. -/
def kernelPartCard : Claim7 := { stood := { row := kernelPartRow, standIns := [], harness := (true, "64adb20edd6de2473363fc17a46b26cf9fc65c36dd939fc77ff4e20642d8eb1e"), looks := false }, kinds := [], alts := [], laidByText := true, laidKinds := [.data, .data, .data, .listed, .data], laidTests := true, laidLooks := .later }
def KernelPartCardSaid : Prop := Claim7.holds Tryz.pinned (.plain (OpenSpec.ofChange kernelPartSpec)) kernelPartCard

/-- THE TIED CARD OF 'stutterlaw34.KernelModels'. -/
def kernelModelsCard : Claim7 := { stood := { row := kernelModelsRow, standIns := [], harness := (true, "64adb20edd6de2473363fc17a46b26cf9fc65c36dd939fc77ff4e20642d8eb1e"), looks := false }, kinds := [], alts := [], laidByText := true, laidKinds := [.data, .data, .data, .listed, .data], laidTests := true, laidLooks := .later }
def KernelModelsCardSaid : Prop := Claim7.holds Tryz.pinned (.plain (OpenSpec.ofChange kernelModelsSpec)) kernelModelsCard

/-- THE TIED CARD OF 'stutterlaw34.KernelSound'. -/
def kernelSoundCard : Claim7 := { stood := { row := kernelSoundRow, standIns := [], harness := (true, "64adb20edd6de2473363fc17a46b26cf9fc65c36dd939fc77ff4e20642d8eb1e"), looks := false }, kinds := [], alts := [], laidByText := true, laidKinds := [.data, .data, .data, .listed, .data], laidTests := true, laidLooks := .later }
def KernelSoundCardSaid : Prop := Claim7.holds Tryz.pinned (.plain (OpenSpec.ofChange kernelSoundSpec)) kernelSoundCard

/-- THE SECOND FORM's CARD OF 'stutterlaw34.KernelSequents'. -/
def kernelSequentsUptoCard : Claim7 := { stood := { row := kernelSequentsUptoRow, standIns := [], harness := (true, "64adb20edd6de2473363fc17a46b26cf9fc65c36dd939fc77ff4e20642d8eb1e"), looks := false }, kinds := [], alts := [], laidByText := true, laidKinds := [.data, .data, .data, .listed, .data], laidTests := true, laidLooks := .later }
def KernelSequentsUptoCardSaid : Prop := Claim7.holds Tryz.pinned (.plain (OpenSpec.upto kernelSequentsSpec)) kernelSequentsUptoCard

/-- THE SECOND FORM's CARD OF 'stutterlaw34.KernelMeanings'. -/
def kernelMeaningsUptoCard : Claim7 := { stood := { row := kernelMeaningsUptoRow, standIns := [], harness := (true, "64adb20edd6de2473363fc17a46b26cf9fc65c36dd939fc77ff4e20642d8eb1e"), looks := false }, kinds := [], alts := [], laidByText := true, laidKinds := [.data, .data, .data, .listed, .data], laidTests := true, laidLooks := .later }
def KernelMeaningsUptoCardSaid : Prop := Claim7.holds Tryz.pinned (.plain (OpenSpec.upto kernelMeaningsSpec)) kernelMeaningsUptoCard

/-- THE SECOND FORM's CARD OF 'stutterlaw34.KernelFollows'. -/
def kernelFollowsUptoCard : Claim7 := { stood := { row := kernelFollowsUptoRow, standIns := [], harness := (true, "64adb20edd6de2473363fc17a46b26cf9fc65c36dd939fc77ff4e20642d8eb1e"), looks := false }, kinds := [], alts := [], laidByText := true, laidKinds := [.data, .data, .data, .listed, .data], laidTests := true, laidLooks := .later }
def KernelFollowsUptoCardSaid : Prop := Claim7.holds Tryz.pinned (.plain (OpenSpec.upto kernelFollowsSpec)) kernelFollowsUptoCard

/-- THE SECOND FORM's CARD OF 'stutterlaw34.KernelLinear'. -/
def kernelLinearUptoCard : Claim7 := { stood := { row := kernelLinearUptoRow, standIns := [], harness := (true, "64adb20edd6de2473363fc17a46b26cf9fc65c36dd939fc77ff4e20642d8eb1e"), looks := false }, kinds := [], alts := [], laidByText := true, laidKinds := [.data, .data, .data, .listed, .data], laidTests := true, laidLooks := .later }
def KernelLinearUptoCardSaid : Prop := Claim7.holds Tryz.pinned (.plain (OpenSpec.upto kernelLinearSpec)) kernelLinearUptoCard

/-- THE SECOND FORM's CARD OF 'stutterlaw34.KernelChecks'. -/
def kernelChecksUptoCard : Claim7 := { stood := { row := kernelChecksUptoRow, standIns := [], harness := (true, "64adb20edd6de2473363fc17a46b26cf9fc65c36dd939fc77ff4e20642d8eb1e"), looks := false }, kinds := [], alts := [], laidByText := true, laidKinds := [.data, .data, .data, .listed, .data], laidTests := true, laidLooks := .later }
def KernelChecksUptoCardSaid : Prop := Claim7.holds Tryz.pinned (.plain (OpenSpec.upto kernelChecksSpec)) kernelChecksUptoCard

/-- THE SECOND FORM's CARD OF 'stutterlaw34.KernelPart'. -/
def kernelPartUptoCard : Claim7 := { stood := { row := kernelPartUptoRow, standIns := [], harness := (true, "64adb20edd6de2473363fc17a46b26cf9fc65c36dd939fc77ff4e20642d8eb1e"), looks := false }, kinds := [], alts := [], laidByText := true, laidKinds := [.data, .data, .data, .listed, .data], laidTests := true, laidLooks := .later }
def KernelPartUptoCardSaid : Prop := Claim7.holds Tryz.pinned (.plain (OpenSpec.upto kernelPartSpec)) kernelPartUptoCard

/-- THE SECOND FORM's CARD OF 'stutterlaw34.KernelModels'. -/
def kernelModelsUptoCard : Claim7 := { stood := { row := kernelModelsUptoRow, standIns := [], harness := (true, "64adb20edd6de2473363fc17a46b26cf9fc65c36dd939fc77ff4e20642d8eb1e"), looks := false }, kinds := [], alts := [], laidByText := true, laidKinds := [.data, .data, .data, .listed, .data], laidTests := true, laidLooks := .later }
def KernelModelsUptoCardSaid : Prop := Claim7.holds Tryz.pinned (.plain (OpenSpec.upto kernelModelsSpec)) kernelModelsUptoCard

/-- THE SECOND FORM's CARD OF 'stutterlaw34.KernelSound'. -/
def kernelSoundUptoCard : Claim7 := { stood := { row := kernelSoundUptoRow, standIns := [], harness := (true, "64adb20edd6de2473363fc17a46b26cf9fc65c36dd939fc77ff4e20642d8eb1e"), looks := false }, kinds := [], alts := [], laidByText := true, laidKinds := [.data, .data, .data, .listed, .data], laidTests := true, laidLooks := .later }
def KernelSoundUptoCardSaid : Prop := Claim7.holds Tryz.pinned (.plain (OpenSpec.upto kernelSoundSpec)) kernelSoundUptoCard
end Rows
end Go.Proofs.YtpkbfdgohkakaaaGreatDoor
