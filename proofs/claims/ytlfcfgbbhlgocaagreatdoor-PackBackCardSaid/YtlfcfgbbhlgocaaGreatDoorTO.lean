/- tabula/tabulalaw25.PackBack returns true for every input, and each argument reads behind the call as it read before: the card of the given row. Its conditions: those that the row and its card name (the listed package variables hold what the program's text lays). -/
import Derived.Test.YtlfcfgbbhlgocaaGreatDoorTN
set_option linter.unusedVariables false
set_option linter.unusedSimpArgs false
set_option maxHeartbeats 4000000
open Option.some renaming inj->kW
namespace Go.Proofs.YtlfcfgbbhlgocaaGreatDoor.packBack
open Go.Abs Go.Shelf Go.ChangeShapes Go.WideShapes Go.ChangeAt Go.RowKit
set_option maxRecDepth 100000
theorem plain (f:FuncId)(fn:Func)(hf:Tryz.pinned.checked.prog.funcNamed "tabula/tabulalaw25.PackBack" =some f)(hfn:Tryz.pinned.checked.prog.funcs[f]?=some fn):
 true=Tryz.pinned.checked.prog.looks []∧∀(j:Nat) t,fn.params[j]?=some t→Tryz.pinned.checked.prog.wantsStandIn t=false:=by
 obtain rfl:f=3:=kW ((show Tryz.prog.funcNamed "tabula/tabulalaw25.PackBack" =some 3 by kernel_rfl).symm.trans hf)|>.symm;obtain rfl:fn=Tryz.f3:=(kW<|Tryz.func3.symm.trans hfn).symm;refine⟨by kernel_rfl,fun j t ht=>?_⟩;rw[Tryz.params3]at ht;have hm:t=24:=by simpa using Array.mem_of_getElem? ht
 subst hm;exact(show Tryz.prog.wantsStandIn 24=false by kernel_rfl)
theorem card :Rows.PackBackCardSaid:=Claim7.holds_tied_plain_at .later [] _ _ _ _ said (λ_ h=>by cases h) (by as_aux_lemma=>kernel_rfl) (λ_ h=>by cases h) packBack_row_tie (by as_aux_lemma=>rfl) ⟨by as_aux_lemma=>rfl,by as_aux_lemma=>rfl⟩ (by as_aux_lemma=>kernel_rfl) (by as_aux_lemma=>rfl) plain (by as_aux_lemma=>kernel_rfl)
end Go.Proofs.YtlfcfgbbhlgocaaGreatDoor.packBack
namespace Go.Proofs.YtlfcfgbbhlgocaaGreatDoor
theorem packBack_card : Rows.PackBackCardSaid := packBack.card
end Go.Proofs.YtlfcfgbbhlgocaaGreatDoor
