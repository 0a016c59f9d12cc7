/- A part of the proof that tabula/tabulalaw25.PackSums returns true for every input, each argument reading as it did (its card: the last text). No conditions of its own. -/
import Derived.Test.YtjlpdflobkhkcaaGreatDoorPK
set_option linter.unusedVariables false
set_option linter.unusedSimpArgs false
set_option maxHeartbeats 4000000
namespace Go.Proofs.YtjlpdflobkhkcaaGreatDoor.packSums
open Go.Abs Go.Shelf Go.ChangeShapes Go.WideShapes Go.ChangeAt Go.RowKit
set_option maxRecDepth 100000
def strCells (l:List Bz):Array Value:=(l.map λs=>Value.string ⟨s.toArray⟩).toArray
def bytesOf {H:Type}:DataW H→Bz
 |.lit (.string s)=>s|_=>[]
def Ww {H:Type}:DataW H→List Value
 |.agg l=>l.map λ|.lit (.int k n)=>.int k n|_=>.bool false
 |_=>[]
def K1 {H:Type}:DataW H→List Bz
 |.slice l _=>l.map bytesOf|.iface _ (.ptr<|.agg l)=>l.map bytesOf|_=>[]
def pairsOf {H:Type}:DataW H→List Value
 |.agg l=>l.flatMap Ww|_=>[]
noncomputable def Sz (os:Os):World:=
 let N:=(World.settled Tryz.prog os).heap.size
 let w0:=World.holding Tryz.prog os ⟨#[
  .cells (strCells<|K1<|Rows.laid_tabula_lex_signs (H:=Unit)) 9,
  .cells (strCells<|K1<|Rows.laid_tabula_lex_faults (H:=Unit)) 9,
  .cells (strCells<|K1<|Rows.laid_strconv_ErrSyntax (H:=Unit)) 351,
  .cells (strCells (K1 (Rows.laid_strconv_ErrRange (H:=Unit)))) 351],#[],[]⟩
 let put (h:Array Obj) (g:Nat) (cs:Array Value):Array Obj:=h.modify g fun
  |.cells _ t frozen=>.cells cs t frozen|o=>o
 let h0:=put w0.heap 0 (Ww Rows.laid_unicode_utf8_first).toArray;let h1:=put h0 1 (pairsOf<|Rows.laid_unicode_utf8_acceptRanges (H:=Unit)).toArray;let h2:=put h1 3 #[.slice (some ⟨N,0,none⟩) 20 20];let h3:=put h2 4 #[.slice (some ⟨N+1,0,none⟩) 9 9];let h4:=put h3 7 #[.iface 349<|.pointer<|some ⟨N+2,0,none⟩];let h5:=put h4 8 #[.iface 349<|.pointer<|some ⟨N+3,0,none⟩];let h6:=put h5 9 (Ww<|Rows.laid_internal_strconv_uint64pow10 (H:=Unit)).toArray;let h7:=put h6 10 (Ww<|Rows.laid_math_bits_deBruijn32tab (H:=Unit)).toArray;let h8:=put h7 11 (Ww<|Rows.laid_math_bits_deBruijn64tab (H:=Unit)).toArray
 {w0 with heap:=h8}
def arg0 :Value:=.agg #[.int .i64 0,.slice none 0 0,.bool false,.bool false,.slice none 0 0]
def A5u :Array Value:=#[arg0,.int .i64 0,.int .u8 0]
theorem Aaj (os:Os):laidMet Tryz.prog Rows.packSumsRow.laid ((Sz os).forCall (λ_ _=>0) ⟨#[],A5u,[]⟩).memory:=laidMet_of_run3 8 Am Am Am
end Go.Proofs.YtjlpdflobkhkcaaGreatDoor.packSums
