/- Part 6. -/
import Derived.Test.YtpkbfdgohkakaaaGreatDoorKd5
set_option linter.unusedVariables false
set_option linter.unusedSectionVars false
set_option linter.unusedSimpArgs false
section
namespace Go.Proofs.YtpkbfdgohkakaaaGreatDoor.kernelLinear
open Go.ChangeShapes Go.WideShapes Go.ChangeAt Go.RowKit Go.VL
set_option maxRecDepth 100000
theorem plain (f:FuncId) (fn:Func) (hf:Tryz.pinned.checked.prog.funcNamed "stutter/stutterlaw34.KernelLinear" =some f) (hfn:Tryz.pinned.checked.prog.funcs[f]? =some fn):
 false=Tryz.pinned.checked.prog.looks []/\ ∀(j:Nat) t,fn.params[j]? =some t->Tryz.pinned.checked.prog.wantsStandIn t=false:=by
 obtain rfl:f=6:=V2 ((show Tryz.prog.funcNamed "stutter/stutterlaw34.KernelLinear" =some 6 by kernel_rfl).symm.trans hf)|>.symm;obtain rfl:fn=Tryz.f6:=(V2 (Tryz.func6.symm.trans hfn)).symm;refine⟨by kernel_rfl,fun j t ht=> ?_⟩;rw [Tryz.params6]at ht;have hm:t=22\/t=53\/t=24:=by simpa using Array.mem_of_getElem? ht
 rcases hm with rfl|rfl|rfl
 · exact(show Tryz.prog.wantsStandIn 22=false by kernel_rfl)
 · exact(show Tryz.prog.wantsStandIn 53=false by kernel_rfl)
 · exact(show Tryz.prog.wantsStandIn 24=false by kernel_rfl)
theorem card (Mi: ∀(x0:List (List Nd)) (x1:Case) (x2:List Nd),mG ((bR (bR Nd.cells)) x0)<=1048576->mG (Case.cells x1)<=1048576->mG ((bR Nd.cells) x2)<=1048576->aW Tryz.prog 6 [(.ah (x0.map (bR Nd.cells)) .unk),(.agg (Case.cells x1)),(.ah (x2.map Nd.cells) .unk)] AH.empty fun v _=>v= .bool true):Rows.KernelLinearUptoCardSaid:=
 Claim7.holds_tied_plain_at .later [] _ _ _ _ (said Mi) (fun _ h=>by cases h) (by as_aux_lemma=>kernel_rfl) (fun _ h=>by cases h) kernelLinearUpto_row_tie rfl ⟨rfl,rfl⟩ (by as_aux_lemma=>kernel_rfl) rfl plain (by as_aux_lemma=>kernel_rfl)
end Go.Proofs.YtpkbfdgohkakaaaGreatDoor.kernelLinear
end
