/- Part 4. -/
import Derived.Test.YtpkbfdgohkakaaaGreatDoorKd3
set_option linter.unusedVariables false
set_option linter.unusedSectionVars false
set_option linter.unusedSimpArgs false
section
namespace Go.Proofs.YtpkbfdgohkakaaaGreatDoor.kernelLinear
open Go.ChangeShapes Go.WideShapes Go.ChangeAt Go.RowKit Go.VL
set_option maxRecDepth 100000
set_option maxHeartbeats 4000000
theorem awd {a b:Bool} (ha:a=true) (hb:b=true):(a&&b)=true:=by rw [ha,hb];rfl
theorem closed:joinedFacts Tryz.pinned.checked.prog 6 Tryz.f6 (Rows.OpenSpec.upto Rows.kernelLinearSpec).bare Rows.kernelLinearUptoRow=true:=by
 unfold joinedFacts
 repeat' (with_reducible apply awd)
 all_goals as_aux_lemma=>kernel_rfl
end Go.Proofs.YtpkbfdgohkakaaaGreatDoor.kernelLinear
end
