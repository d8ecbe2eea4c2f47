/- Part 6. -/
import Derived.Test.YtpkbfdgohkakaaaGreatDoorKc5
set_option linter.unusedVariables false
set_option linter.unusedSectionVars false
set_option linter.unusedSimpArgs false
section
namespace Go.Proofs.YtpkbfdgohkakaaaGreatDoor.kernelFollows
open Go.ChangeShapes Go.WideShapes Go.ChangeAt Go.RowKit Go.VL
set_option maxRecDepth 100000
theorem plain (f:FuncId) (fn:Func) (hf:Tryz.pinned.checked.prog.funcNamed "stutter/stutterlaw34.KernelFollows" =some f) (hfn:Tryz.pinned.checked.prog.funcs[f]? =some fn):
 false=Tryz.pinned.checked.prog.looks []/\ ∀(j:Nat) t,fn.params[j]? =some t->Tryz.pinned.checked.prog.wantsStandIn t=false:=by
 obtain rfl:f=5:=Option.some.inj ((show Tryz.prog.funcNamed "stutter/stutterlaw34.KernelFollows" =some 5 by kernel_rfl).symm.trans hf)|>.symm;obtain rfl:fn=Tryz.f5:=(Option.some.inj (Tryz.func5.symm.trans hfn)).symm;refine⟨by kernel_rfl,fun j t ht=> ?_⟩;rw [Tryz.params5]at ht;have hm:t=22\/t=44\/t=24:=by simpa using Array.mem_of_getElem? ht
 rcases hm with rfl|rfl|rfl
 · exact(show Tryz.prog.wantsStandIn 22=false by kernel_rfl)
 · exact(show Tryz.prog.wantsStandIn 44=false by kernel_rfl)
 · exact(show Tryz.prog.wantsStandIn 24=false by kernel_rfl)
theorem card (MK: ∀(x0:List (List Nd)) (x1:List Int) (x2:List Nd),bg Tryz.prog 5 [(.ah (x0.map (dx Nd.cells)) .unk),(.ah (x1.map aK) .unk),(.ah (x2.map Nd.cells) .unk)] AH.empty fun v _=>v= .bool true):Rows.KernelFollowsCardSaid:=
 Claim7.holds_tied_plain_at .later [] _ _ _ _ (said MK) (fun _ h=>by cases h) (by as_aux_lemma=>kernel_rfl) (fun _ h=>by cases h) kernelFollows_row_tie rfl ⟨rfl,rfl⟩ (by as_aux_lemma=>kernel_rfl) rfl plain (by as_aux_lemma=>kernel_rfl)
end Go.Proofs.YtpkbfdgohkakaaaGreatDoor.kernelFollows
end
