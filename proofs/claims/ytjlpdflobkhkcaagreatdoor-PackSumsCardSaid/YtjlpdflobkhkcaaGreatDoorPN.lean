/- A part of the proof that tabula/tabulalaw25.PackSums returns true for every input, each argument reading as it did (its card: the last text). No conditions of its own. -/
import Derived.Test.YtjlpdflobkhkcaaGreatDoorPM
set_option linter.unusedVariables false
set_option linter.unusedSimpArgs false
set_option maxHeartbeats 4000000
namespace Go.Proofs.YtjlpdflobkhkcaaGreatDoor.packSums
open Go.Abs Go.Shelf Go.ChangeShapes Go.WideShapes Go.ChangeAt Go.RowKit
set_option maxRecDepth 100000
theorem reads (os:Os){H:Type}(enc:TypeId×Value→H):∃ds places,DataW.whole enc Tryz.prog ((Sz os).forCall (λ_ _=>0) ⟨#[],A5u,[]⟩).memory Tryz.f3.params.toList Rows.packSumsSpec.vars false A5u.toList 8=some (ds,[],places)∧ds=[.agg [.lit<|.int .i64 0,.nil,.lit<|.bool false,.lit<|.bool false,.nil],.lit<|.int .i64 0,.lit<|.int .u8 0]:=⟨_,[],Am,rfl⟩
set_option maxRecDepth 100000 in
theorem lifted (os:Os)(started:os.Started)(H:Type)(enc:TypeId×Value→H)(F:Stop.Interp):
 ReturnsInHanded {} Tryz.checked os 3 .any ((OpenSpec.ofChange Rows.packSumsSpec).preRow enc Tryz.prog Tryz.f3 Rows.packSumsRow.domain false Rows.packSumsRow.laid) (((OpenSpec.ofChange Rows.packSumsSpec).at F).post enc Tryz.prog Tryz.f3 false true false false):=by
 obtain⟨ds,places,hx,rfl⟩:=reads os enc;refine returnsInHanded_of_row (C:=Tryz.checked) (s:=OpenSpec.ofChange Rows.packSumsSpec) own started Am Tryz.func3
  (witness_row_atRef (enc:=enc) (C:=Tryz.checked) false (Sz os) A5u rfl Am Am Am
   (OpenSpec.preRow_of_cond 8 hx Am (λk hk=>by cases hk) Am (Aaj os))) ?_
 intro W base args ds gs before hval hW _ _ hR hL hS _;exact Aco H enc W base args ds gs before hval hW hR hL hS
theorem said :Rows.PackSumsSaid:=
 OpenClaim.holds_of_cond 3 Tryz.f3 rfl rfl rfl rfl rfl rfl rfl ⟨rfl,rfl,rfl,rfl,rfl⟩ rfl rfl rfl rfl rfl Am Tryz.func3 closed
  (of_decide_eq_true Am) (by unfold Func.isWrapper;first|(rw[if_pos (by decide+kernel)];kernel_rfl)|(rw[if_neg (by decide+kernel)];exact⟨rfl,rfl⟩))
  (λos started H enc _ F=>by rw[OpenClaim.pre_eq_preRow];exact lifted os started H enc F)
end Go.Proofs.YtjlpdflobkhkcaaGreatDoor.packSums
