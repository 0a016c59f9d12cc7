/- tabula/tabulalaw25.PackSums returns true for every input, and each argument reads behind the call as it read before: the card of the given row. Its conditions: those that the row and its card name (the listed package variables hold what the program's text lays). -/
import Derived.Test.YtjlpdflobkhkcaaGreatDoorPN
set_option linter.unusedVariables false
set_option linter.unusedSimpArgs false
set_option maxHeartbeats 4000000
namespace Go.Proofs.YtjlpdflobkhkcaaGreatDoor.packSums
open Go.Abs Go.Shelf Go.ChangeShapes Go.WideShapes Go.ChangeAt Go.RowKit
set_option maxRecDepth 100000
theorem plain (f:FuncId)(fn:Func)(hf:Tryz.pinned.checked.prog.funcNamed "tabula/tabulalaw25.PackSums" =some f)(hfn:Tryz.pinned.checked.prog.funcs[f]?=some fn):
 true=Tryz.pinned.checked.prog.looks []∧∀(j:Nat) t,fn.params[j]?=some t→Tryz.pinned.checked.prog.wantsStandIn t=false:=by
 obtain rfl:f=3:=Option.some.inj ((show Tryz.prog.funcNamed "tabula/tabulalaw25.PackSums" =some 3 by kernel_rfl).symm.trans hf)|>.symm;obtain rfl:fn=Tryz.f3:=(Option.some.inj<|Tryz.func3.symm.trans hfn).symm;refine⟨Am,fun j t ht=>?_⟩;rw[Tryz.params3]at ht;have hm:t=24∨t=3∨t=5:=by grind
 rcases hm with rfl|rfl|rfl;·exact(show Tryz.prog.wantsStandIn 24=false by kernel_rfl)
 ·exact(show Tryz.prog.wantsStandIn 3=false by kernel_rfl)
 ·exact(show Tryz.prog.wantsStandIn 5=false by kernel_rfl)
theorem card :Rows.PackSumsCardSaid:=Claim7.holds_tied_plain_at .later [] _ _ _ _ said (λ_ h=>by cases h) Ac9 (λ_ h=>by cases h) packSums_row_tie A9v ⟨A9v,A9v⟩ Ac9 (by grind) plain Ac9
end Go.Proofs.YtjlpdflobkhkcaaGreatDoor.packSums
namespace Go.Proofs.YtjlpdflobkhkcaaGreatDoor
theorem packSums_card : Rows.PackSumsCardSaid := packSums.card
end Go.Proofs.YtjlpdflobkhkcaaGreatDoor
