/- A part of the proof that tabula/tabulalaw25.PackSums returns true for every input, each argument reading as it did (its card: the last text). No conditions of its own. -/
import Derived.Test.YtjlpdflobkhkcaaGreatDoorPL
set_option linter.unusedVariables false
set_option linter.unusedSimpArgs false
set_option maxHeartbeats 4000000
namespace Go.Proofs.YtjlpdflobkhkcaaGreatDoor.packSums
open Go.Abs Go.Shelf Go.ChangeShapes Go.WideShapes Go.ChangeAt Go.RowKit
set_option maxRecDepth 100000
set_option maxHeartbeats 20000000 in
theorem closed :joinedFacts Tryz.prog 3 Tryz.f3 (OpenSpec.ofChange Rows.packSumsSpec).bare Rows.packSumsRow=true:=by
 unfold joinedFacts;simp only[bAt];repeat' apply And.intro
 all_goals as_aux_lemma=>kernel_rfl
end Go.Proofs.YtjlpdflobkhkcaaGreatDoor.packSums
