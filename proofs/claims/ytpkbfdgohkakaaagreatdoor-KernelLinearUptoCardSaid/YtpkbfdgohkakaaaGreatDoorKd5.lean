/- Part 5. -/
import Derived.Test.YtpkbfdgohkakaaaGreatDoorKd4
set_option linter.unusedVariables false
set_option linter.unusedSectionVars false
set_option linter.unusedSimpArgs false
section
namespace Go.Proofs.YtpkbfdgohkakaaaGreatDoor.kernelLinear
open Go.ChangeShapes Go.WideShapes Go.ChangeAt Go.RowKit Go.VL
set_option maxRecDepth 100000
theorem said (Mi: ∀(x0:List (List Nd)) (x1:Case) (x2:List Nd),mG ((bR (bR Nd.cells)) x0)<=1048576->mG (Case.cells x1)<=1048576->mG ((bR Nd.cells) x2)<=1048576->aW Tryz.prog 6 [(.ah (x0.map (bR Nd.cells)) .unk),(.agg (Case.cells x1)),(.ah (x2.map Nd.cells) .unk)] AH.empty fun v _=>v= .bool true):Rows.KernelLinearUptoSaid:=
 OpenClaim.holds_of_cond 6 Tryz.f6 rfl rfl rfl rfl rfl rfl rfl ⟨rfl,rfl,rfl,rfl,rfl⟩ rfl rfl rfl rfl rfl (by kernel_rfl) Tryz.func6 closed
  (W5 (by kernel_rfl)) (by unfold Func.isWrapper;first|(rw [if_pos (by decide+kernel)];kernel_rfl)|(rw [if_neg (by decide+kernel)];exact⟨rfl,rfl⟩))
  (fun os started H enc _ F=>by rw [OpenClaim.pre_eq_preRow];exact lifted Mi os started H enc F)
end Go.Proofs.YtpkbfdgohkakaaaGreatDoor.kernelLinear
end
