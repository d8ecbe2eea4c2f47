/- Part 6. -/
import Derived.Test.YtpkbfdgohkakaaaGreatDoorKa5
set_option linter.unusedVariables false
set_option linter.unusedSectionVars false
set_option linter.unusedSimpArgs false
section
namespace Go.Proofs.YtpkbfdgohkakaaaGreatDoor.kernelSequents
open Go.ChangeShapes Go.WideShapes Go.ChangeAt Go.RowKit Go.VL
set_option maxRecDepth 100000
theorem plain (f:FuncId) (fn:Func) (hf:Tryz.pinned.checked.prog.funcNamed "stutter/stutterlaw34.KernelSequents" =some f) (hfn:Tryz.pinned.checked.prog.funcs[f]? =some fn):
 false=Tryz.pinned.checked.prog.looks []/\ ∀(j:Nat) t,fn.params[j]? =some t->Tryz.pinned.checked.prog.wantsStandIn t=false:=by
 obtain rfl:f=3:=Option.some.inj ((show Tryz.prog.funcNamed "stutter/stutterlaw34.KernelSequents" =some 3 by kernel_rfl).symm.trans hf)|>.symm;obtain rfl:fn=Tryz.f3:=(Option.some.inj (Tryz.func3.symm.trans hfn)).symm;refine⟨by kernel_rfl,fun j t ht=> ?_⟩;rw [Tryz.params3]at ht;have hm:t=26:=by simpa using Array.mem_of_getElem? ht
 subst hm;exact(show Tryz.prog.wantsStandIn 26=false by kernel_rfl)
theorem card (KS: ∀(x0:Sq),bA Tryz.prog 3 [(.agg (Sq.cells x0))] AH.empty fun v _=>v= .bool true):Rows.KernelSequentsCardSaid:=
 Claim7.holds_tied_plain_at .later [] _ _ _ _ (said KS) (fun _ h=>by cases h) (by as_aux_lemma=>kernel_rfl) (fun _ h=>by cases h) kernelSequents_row_tie rfl ⟨rfl,rfl⟩ (by as_aux_lemma=>kernel_rfl) rfl plain (by as_aux_lemma=>kernel_rfl)
end Go.Proofs.YtpkbfdgohkakaaaGreatDoor.kernelSequents
end
