/- A part of the proof that tabula/tabulalaw17.ShiftElse returns true for every input, each argument reading as it did (its card: the last text). No conditions of its own. -/
import Derived.Test.YtanjcjdiabfggaaGreatDoorPJ4
namespace Go.Abs
open Go.Proofs Go.RowKit
set_option maxRecDepth 10000000
def awe0 : Ent := ⟨172, [.str [65, 50]], N282⟩
theorem awr0 : An [] 60 172 [.str [65, 50]] [] = some (N282, []) := by kernel_rfl
theorem A04 {W0 : World} (hk : Kn W0) : B8 Tryz.prog W0 awe0 := A8 hk Ad awr0 (by kernel_rfl) (by kernel_rfl)
def awe1 : Ent := ⟨172, [.str [65, 51]], N283⟩
theorem awr1 : An [] 60 172 [.str [65, 51]] [] = some (N283, []) := by kernel_rfl
theorem awk1 {W0 : World} (hk : Kn W0) : B8 Tryz.prog W0 awe1 := A8 hk Ad awr1 (by kernel_rfl) (by kernel_rfl)
def awe2 : Ent := ⟨172, [.str [65, 49]], N284⟩
theorem awr2 : An [] 60 172 [.str [65, 49]] [] = some (N284, []) := by kernel_rfl
theorem awk2 {W0 : World} (hk : Kn W0) : B8 Tryz.prog W0 awe2 := A8 hk Ad awr2 (by kernel_rfl) (by kernel_rfl)
def awe3 : Ent := ⟨172, [.str [65, 52]], N285⟩
theorem awr3 : An [] 60 172 [.str [65, 52]] [] = some (N285, []) := by kernel_rfl
theorem awk3 {W0 : World} (hk : Kn W0) : B8 Tryz.prog W0 awe3 := A8 hk Ad awr3 (by kernel_rfl) (by kernel_rfl)
def awe4 : Ent := ⟨78, [.str [65, 50, 43, 65, 51, 43, 83, 85, 77, 40, 65, 49, 58, 65, 52, 41]], N288⟩
theorem awr4 : An [awe3, awe2, awe1, awe0] 60 78 [.str [65, 50, 43, 65, 51, 43, 83, 85, 77, 40, 65, 49, 58, 65, 52, 41]] [] = some (N288, []) := by kernel_rfl
theorem awk4 {W0 : World} (hk : Kn W0) : B8 Tryz.prog W0 awe4 := A8 hk (Ak (awk3 hk) (Ak (awk2 hk) (Ak (awk1 hk) (Ak (A04 hk) Ad)))) awr4 (by kernel_rfl) (by kernel_rfl)
def awe5 : Ent := ⟨133, [A3x], N292⟩
theorem awr5 : An [] 60 133 [A3x] [] = some (N292, []) := by kernel_rfl
theorem awk5 {W0 : World} (hk : Kn W0) : B8 Tryz.prog W0 awe5 := A8 hk Ad awr5 (by kernel_rfl) (by kernel_rfl)
def awe6 : Ent := ⟨133, [N293], We⟩
theorem awr6 : An [] 60 133 [N293] [] = some (We, []) := by kernel_rfl
theorem awk6 {W0 : World} (hk : Kn W0) : B8 Tryz.prog W0 awe6 := A8 hk Ad awr6 (by kernel_rfl) (by kernel_rfl)
def awe7 : Ent := ⟨79, [N287], N295⟩
theorem awr7 : An [awe6, awe5, awe3, awe2, awe1, awe0] 60 79 [N287] [] = some (N295, []) := by kernel_rfl
theorem awk7 {W0 : World} (hk : Kn W0) : B8 Tryz.prog W0 awe7 := A8 hk (Ak (awk6 hk) (Ak (awk5 hk) (Ak (awk3 hk) (Ak (awk2 hk) (Ak (awk1 hk) (Ak (A04 hk) Ad)))))) awr7 (by kernel_rfl) (by kernel_rfl)
def awe8 : Ent := ⟨46, [A3x, Yw], zB⟩
theorem awr8 : An [] 60 46 [A3x, Yw] [] = some (zB, []) := by kernel_rfl
theorem awk8 {W0 : World} (hk : Kn W0) : B8 Tryz.prog W0 awe8 := A8 hk Ad awr8 (by kernel_rfl) (by kernel_rfl)
def awe9 : Ent := ⟨133, [Yw], N292⟩
theorem awr9 : An [] 60 133 [Yw] [] = some (N292, []) := by kernel_rfl
theorem awk9 {W0 : World} (hk : Kn W0) : B8 Tryz.prog W0 awe9 := A8 hk Ad awr9 (by kernel_rfl) (by kernel_rfl)
def awe10 : Ent := ⟨133, [N298], We⟩
theorem awr10 : An [] 60 133 [N298] [] = some (We, []) := by kernel_rfl
theorem awk10 {W0 : World} (hk : Kn W0) : B8 Tryz.prog W0 awe10 := A8 hk Ad awr10 (by kernel_rfl) (by kernel_rfl)
def awe11 : Ent := ⟨85, [Yw], .str [65, 50, 43, 65, 54]⟩
theorem awr11 : An [] 60 85 [Yw] [] = some (.str [65, 50, 43, 65, 54], []) := by kernel_rfl
theorem awk11 {W0 : World} (hk : Kn W0) : B8 Tryz.prog W0 awe11 := A8 hk Ad awr11 (by kernel_rfl) (by kernel_rfl)
def awe12 : Ent := ⟨140, [.nilSl, N297], .str [65, 49, 58, 65, 55]⟩
theorem awr12 : An [] 60 140 [.nilSl, N297] [] = some (.str [65, 49, 58, 65, 55], []) := by kernel_rfl
theorem awk12 {W0 : World} (hk : Kn W0) : B8 Tryz.prog W0 awe12 := A8 hk Ad awr12 (by kernel_rfl) (by kernel_rfl)
def awe13 : Ent := ⟨47, [N299], N300⟩
theorem awr13 : An [awe12, awe11, awe10, awe9] 60 47 [N299] [] = some (N300, []) := by kernel_rfl
theorem awk13 {W0 : World} (hk : Kn W0) : B8 Tryz.prog W0 awe13 := A8 hk (Ak (awk12 hk) (Ak (awk11 hk) (Ak (awk10 hk) (Ak (awk9 hk) Ad)))) awr13 (by kernel_rfl) (by kernel_rfl)
def awe14 : Ent := ⟨10, [.str [61, 65, 50, 43, 65, 51, 43, 83, 85, 77, 40, 65, 49, 58, 65, 52, 41], .str [83], N301], N302⟩
theorem awr14 : An [awe13, awe8, awe7, awe4] 60 10 [.str [61, 65, 50, 43, 65, 51, 43, 83, 85, 77, 40, 65, 49, 58, 65, 52, 41], .str [83], N301] [] = some (N302, []) := by kernel_rfl
theorem awk14 {W0 : World} (hk : Kn W0) : B8 Tryz.prog W0 awe14 := A8 hk (Ak (awk13 hk) (Ak (awk8 hk) (Ak (awk7 hk) (Ak (awk4 hk) Ad)))) awr14 (by kernel_rfl) (by kernel_rfl)
def awe15 : Ent := ⟨172, [.str [65, 53]], N303⟩
theorem awr15 : An [] 60 172 [.str [65, 53]] [] = some (N303, []) := by kernel_rfl
theorem awk15 {W0 : World} (hk : Kn W0) : B8 Tryz.prog W0 awe15 := A8 hk Ad awr15 (by kernel_rfl) (by kernel_rfl)
def awe16 : Ent := ⟨78, [.str [65, 50, 43, 83, 85, 77, 40, 65, 50, 58, 65, 53, 41]], N305⟩
theorem awr16 : An [awe15, awe0] 60 78 [.str [65, 50, 43, 83, 85, 77, 40, 65, 50, 58, 65, 53, 41]] [] = some (N305, []) := by kernel_rfl
theorem awk16 {W0 : World} (hk : Kn W0) : B8 Tryz.prog W0 awe16 := A8 hk (Ak (awk15 hk) (Ak (A04 hk) Ad)) awr16 (by kernel_rfl) (by kernel_rfl)
def awe17 : Ent := ⟨133, [N306], We⟩
theorem awr17 : An [] 60 133 [N306] [] = some (We, []) := by kernel_rfl
theorem awk17 {W0 : World} (hk : Kn W0) : B8 Tryz.prog W0 awe17 := A8 hk Ad awr17 (by kernel_rfl) (by kernel_rfl)
def awe18 : Ent := ⟨133, [N307], N308⟩
theorem awr18 : An [awe17] 60 133 [N307] [] = some (N308, []) := by kernel_rfl
theorem awk18 {W0 : World} (hk : Kn W0) : B8 Tryz.prog W0 awe18 := A8 hk (Ak (awk17 hk) Ad) awr18 (by kernel_rfl) (by kernel_rfl)
def awe19 : Ent := ⟨79, [N304], N309⟩
theorem awr19 : An [awe18, awe15, awe0] 60 79 [N304] [] = some (N309, []) := by kernel_rfl
theorem awk19 {W0 : World} (hk : Kn W0) : B8 Tryz.prog W0 awe19 := A8 hk (Ak (awk18 hk) (Ak (awk15 hk) (Ak (A04 hk) Ad))) awr19 (by kernel_rfl) (by kernel_rfl)
def awe20 : Ent := ⟨133, [N311], We⟩
theorem awr20 : An [] 60 133 [N311] [] = some (We, []) := by kernel_rfl
theorem awk20 {W0 : World} (hk : Kn W0) : B8 Tryz.prog W0 awe20 := A8 hk Ad awr20 (by kernel_rfl) (by kernel_rfl)
def awe21 : Ent := ⟨133, [N312], N308⟩
theorem awr21 : An [awe20] 60 133 [N312] [] = some (N308, []) := by kernel_rfl
theorem awk21 {W0 : World} (hk : Kn W0) : B8 Tryz.prog W0 awe21 := A8 hk (Ak (awk20 hk) Ad) awr21 (by kernel_rfl) (by kernel_rfl)
def awe22 : Ent := ⟨140, [.nilSl, N310], .str [65, 50, 58, 65, 51]⟩
theorem awr22 : An [] 60 140 [.nilSl, N310] [] = some (.str [65, 50, 58, 65, 51], []) := by kernel_rfl
theorem awk22 {W0 : World} (hk : Kn W0) : B8 Tryz.prog W0 awe22 := A8 hk Ad awr22 (by kernel_rfl) (by kernel_rfl)
def awe23 : Ent := ⟨10, [.str [61, 65, 50, 43, 83, 85, 77, 40, 65, 50, 58, 65, 53, 41], .str [83], N313], N314⟩
theorem awr23 : An [awe22, awe21, awe19, awe16] 60 10 [.str [61, 65, 50, 43, 83, 85, 77, 40, 65, 50, 58, 65, 53, 41], .str [83], N313] [] = some (N314, []) := by kernel_rfl
theorem awk23 {W0 : World} (hk : Kn W0) : B8 Tryz.prog W0 awe23 := A8 hk (Ak (awk22 hk) (Ak (awk21 hk) (Ak (awk19 hk) (Ak (awk16 hk) Ad)))) awr23 (by kernel_rfl) (by kernel_rfl)
def awe24 : Ent := ⟨78, [.str [65, 50]], N316⟩
theorem awr24 : An [awe0] 60 78 [.str [65, 50]] [] = some (N316, []) := by kernel_rfl
theorem awk24 {W0 : World} (hk : Kn W0) : B8 Tryz.prog W0 awe24 := A8 hk (Ak (A04 hk) Ad) awr24 (by kernel_rfl) (by kernel_rfl)
def awe25 : Ent := ⟨79, [N315], N317⟩
theorem awr25 : An [awe0] 60 79 [N315] [] = some (N317, []) := by kernel_rfl
theorem awk25 {W0 : World} (hk : Kn W0) : B8 Tryz.prog W0 awe25 := A8 hk (Ak (A04 hk) Ad) awr25 (by kernel_rfl) (by kernel_rfl)
def awe26 : Ent := ⟨10, [.str [61, 65, 50], .str [84], N313], .tup [.str [61, 65, 50], zI]⟩
theorem awr26 : An [awe25, awe24] 60 10 [.str [61, 65, 50], .str [84], N313] [] = some (.tup [.str [61, 65, 50], zI], []) := by kernel_rfl
theorem awk26 {W0 : World} (hk : Kn W0) : B8 Tryz.prog W0 awe26 := A8 hk (Ak (awk25 hk) (Ak (awk24 hk) Ad)) awr26 (by kernel_rfl) (by kernel_rfl)
def awe27 : Ent := ⟨78, [.str [65, 49]], N319⟩
theorem awr27 : An [awe2] 60 78 [.str [65, 49]] [] = some (N319, []) := by kernel_rfl
theorem awk27 {W0 : World} (hk : Kn W0) : B8 Tryz.prog W0 awe27 := A8 hk (Ak (awk2 hk) Ad) awr27 (by kernel_rfl) (by kernel_rfl)
def awe28 : Ent := ⟨79, [N318], N320⟩
theorem awr28 : An [awe2] 60 79 [N318] [] = some (N320, []) := by kernel_rfl
theorem awk28 {W0 : World} (hk : Kn W0) : B8 Tryz.prog W0 awe28 := A8 hk (Ak (awk2 hk) Ad) awr28 (by kernel_rfl) (by kernel_rfl)
def awe29 : Ent := ⟨47, [N290], .tup [.str [65, 51], zI]⟩
theorem awr29 : An [] 60 47 [N290] [] = some (.tup [.str [65, 51], zI], []) := by kernel_rfl
theorem awk29 {W0 : World} (hk : Kn W0) : B8 Tryz.prog W0 awe29 := A8 hk Ad awr29 (by kernel_rfl) (by kernel_rfl)
def awe30 : Ent := ⟨78, [.str [65, 51]], N322⟩
theorem awr30 : An [awe1] 60 78 [.str [65, 51]] [] = some (N322, []) := by kernel_rfl
theorem awk30 {W0 : World} (hk : Kn W0) : B8 Tryz.prog W0 awe30 := A8 hk (Ak (awk1 hk) Ad) awr30 (by kernel_rfl) (by kernel_rfl)
def awe31 : Ent := ⟨79, [N321], N323⟩
theorem awr31 : An [awe1] 60 79 [N321] [] = some (N323, []) := by kernel_rfl
theorem awk31 {W0 : World} (hk : Kn W0) : B8 Tryz.prog W0 awe31 := A8 hk (Ak (awk1 hk) Ad) awr31 (by kernel_rfl) (by kernel_rfl)
def awe32 : Ent := ⟨4, [], .bool true⟩
theorem awr32 : An [awe31, awe30, awe29, awe28, awe27, awe26, awe23, awe14] 60 4 [] [] = some (.bool true, []) := by kernel_rfl
theorem A2l {W0 : World} (hk : Kn W0) : B8 Tryz.prog W0 awe32 := A8 hk (Ak (awk31 hk) (Ak (awk30 hk) (Ak (awk29 hk) (Ak (awk28 hk) (Ak (awk27 hk) (Ak (awk26 hk) (Ak (awk23 hk) (Ak (awk14 hk) Ad)))))))) awr32 (by kernel_rfl) (by kernel_rfl)
end Go.Abs
