/- Part 4. -/
import Derived.Test.YtpkbfdgohkakaaaGreatDoorKc3
set_option linter.unusedVariables false
set_option linter.unusedSectionVars false
set_option linter.unusedSimpArgs false
section
namespace Go.Proofs.YtpkbfdgohkakaaaGreatDoor.kernelFollows
open Go.ChangeShapes Go.WideShapes Go.ChangeAt Go.RowKit Go.VL
set_option maxRecDepth 100000
set_option maxHeartbeats 4000000
theorem auY {a b:Bool} (ha:a=true) (hb:b=true):(a&&b)=true:=by rw [ha,hb];rfl
theorem closed:joinedFacts Tryz.pinned.checked.prog 5 Tryz.f5 (OpenSpec.ofChange Rows.kernelFollowsSpec).bare Rows.kernelFollowsRow=true:=by
 unfold joinedFacts
 repeat' (with_reducible apply auY)
 all_goals as_aux_lemma=>kernel_rfl
end Go.Proofs.YtpkbfdgohkakaaaGreatDoor.kernelFollows
end
