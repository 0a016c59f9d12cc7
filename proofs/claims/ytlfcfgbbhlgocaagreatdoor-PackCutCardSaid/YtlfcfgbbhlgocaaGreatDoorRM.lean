/- A part of the proof that tabula/tabulalaw25.PackCut returns true for every input, each argument reading as it did (its card: the last text). No conditions of its own. -/
import Derived.Test.YtlfcfgbbhlgocaaGreatDoorRL
set_option linter.unusedVariables false
set_option linter.unusedSimpArgs false
set_option maxHeartbeats 4000000
namespace Go.Proofs.YtlfcfgbbhlgocaaGreatDoor.packCut
open Go.Abs Go.Shelf Go.ChangeShapes Go.WideShapes Go.ChangeAt Go.RowKit
set_option maxRecDepth 100000
set_option maxHeartbeats 20000000 in
theorem closed :joinedFacts Tryz.prog 4 Tryz.f4 (OpenSpec.ofChange Rows.packCutSpec).bare Rows.packCutRow=true:=by
 unfold joinedFacts;simp only[bAt];repeat' apply And.intro
 all_goals as_aux_lemma=>kernel_rfl
end Go.Proofs.YtlfcfgbbhlgocaaGreatDoor.packCut
