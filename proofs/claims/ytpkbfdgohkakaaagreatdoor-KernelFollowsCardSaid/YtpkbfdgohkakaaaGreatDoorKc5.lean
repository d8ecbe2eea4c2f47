/- Part 5. -/
import Derived.Test.YtpkbfdgohkakaaaGreatDoorKc4
set_option linter.unusedVariables false
set_option linter.unusedSectionVars false
set_option linter.unusedSimpArgs false
section
namespace Go.Proofs.YtpkbfdgohkakaaaGreatDoor.kernelFollows
open Go.ChangeShapes Go.WideShapes Go.ChangeAt Go.RowKit Go.VL
set_option maxRecDepth 100000
theorem said (MK: ∀(x0:List (List Nd)) (x1:List Int) (x2:List Nd),bg Tryz.prog 5 [(.ah (x0.map (dx Nd.cells)) .unk),(.ah (x1.map aK) .unk),(.ah (x2.map Nd.cells) .unk)] AH.empty fun v _=>v= .bool true):Rows.KernelFollowsSaid:=
 OpenClaim.holds_of_cond 5 Tryz.f5 rfl rfl rfl rfl rfl rfl rfl ⟨rfl,rfl,rfl,rfl,rfl⟩ rfl rfl rfl rfl rfl (by kernel_rfl) Tryz.func5 closed
  (of_decide_eq_true (by kernel_rfl)) (by unfold Func.isWrapper;first|(rw [if_pos (by decide+kernel)];kernel_rfl)|(rw [if_neg (by decide+kernel)];exact⟨rfl,rfl⟩))
  (fun os started H enc _ F=>by rw [OpenClaim.pre_eq_preRow];exact lifted MK os started H enc F)
end Go.Proofs.YtpkbfdgohkakaaaGreatDoor.kernelFollows
end
