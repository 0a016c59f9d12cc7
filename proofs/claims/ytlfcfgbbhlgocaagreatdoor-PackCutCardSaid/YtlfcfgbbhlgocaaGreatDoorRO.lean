/- tabula/tabulalaw25.PackCut returns true for every input, and each argument reads behind the call as it read before: the card of the given row. Its conditions: those that the row and its card name (the listed package variables hold what the program's text lays). -/
import Derived.Test.YtlfcfgbbhlgocaaGreatDoorRN
set_option linter.unusedVariables false
set_option linter.unusedSimpArgs false
set_option maxHeartbeats 4000000
open Go.Proofs.Tryz renaming prog->gH
open Option.some renaming inj->kW
namespace Go.Proofs.YtlfcfgbbhlgocaaGreatDoor.packCut
open Go.Abs Go.Shelf Go.ChangeShapes Go.WideShapes Go.ChangeAt Go.RowKit
set_option maxRecDepth 100000
theorem plain (f:FuncId)(fn:Func)(hf:Tryz.pinned.checked.prog.funcNamed "tabula/tabulalaw25.PackCut" =some f)(hfn:Tryz.pinned.checked.prog.funcs[f]?=some fn):
 true=Tryz.pinned.checked.prog.looks []∧∀(j:Nat) t,fn.params[j]?=some t→Tryz.pinned.checked.prog.wantsStandIn t=false:=by
 obtain rfl:f=4:=kW ((show gH.funcNamed "tabula/tabulalaw25.PackCut" =some 4 by kernel_rfl).symm.trans hf)|>.symm;obtain rfl:fn=Tryz.f4:=(kW<|Tryz.func4.symm.trans hfn).symm;refine⟨by kernel_rfl,fun j t ht=>?_⟩;rw[Tryz.params4]at ht;have hm:t=24∨t=3∨t=9:=by simpa using Array.mem_of_getElem? ht
 rcases hm with rfl|rfl|rfl;·exact(show gH.wantsStandIn 24=false by kernel_rfl)
 ·exact(show gH.wantsStandIn 3=false by kernel_rfl)
 ·exact(show gH.wantsStandIn 9=false by kernel_rfl)
theorem card :Rows.PackCutCardSaid:=Claim7.holds_tied_plain_at .later [] _ _ _ _ said (λ_ h=>by cases h) (by as_aux_lemma=>kernel_rfl) (λ_ h=>by cases h) packCut_row_tie (by as_aux_lemma=>rfl) ⟨by as_aux_lemma=>rfl,by as_aux_lemma=>rfl⟩ (by as_aux_lemma=>kernel_rfl) (by as_aux_lemma=>rfl) plain (by as_aux_lemma=>kernel_rfl)
end Go.Proofs.YtlfcfgbbhlgocaaGreatDoor.packCut
namespace Go.Proofs.YtlfcfgbbhlgocaaGreatDoor
theorem packCut_card : Rows.PackCutCardSaid := packCut.card
end Go.Proofs.YtlfcfgbbhlgocaaGreatDoor
