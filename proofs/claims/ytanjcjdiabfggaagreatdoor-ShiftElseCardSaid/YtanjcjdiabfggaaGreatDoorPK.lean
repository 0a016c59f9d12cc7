/- A part of the proof that tabula/tabulalaw17.ShiftElse returns true for every input, each argument reading as it did (its card: the last text). No conditions of its own. -/
import Derived.Test.YtanjcjdiabfggaaGreatDoorPJ5
namespace Go.Abs
open Go.Proofs Go.RowKit
set_option maxRecDepth 10000000
variable {W0 : World} {G : List (Nat × AVal)}
def bkV : Nat → AVal
 | 0 => Rm
 | 1 => Io
 | _ => Fj
theorem bk0 (hk : Kn W0) : cP W0 6 [N260] [] (bkV 0) [] := (A8 hk Ad (d := 60) (show An [] 60 6 [N260] [] = some (bkV 0, []) by kernel_rfl) (by kernel_rfl) (by kernel_rfl)).2.2
theorem bk1 (hk : Kn W0) : cP W0 6 [N261] [] (bkV 1) [] := (A8 hk Ad (d := 60) (show An [] 60 6 [N261] [] = some (bkV 1, []) by kernel_rfl) (by kernel_rfl) (by kernel_rfl)).2.2
theorem bk2 (hk : Kn W0) : cP W0 6 [N262] [] (bkV 2) [] := (A8 hk Ad (d := 60) (show An [] 60 6 [N262] [] = some (bkV 2, []) by kernel_rfl) (by kernel_rfl) (by kernel_rfl)).2.2
theorem tl42_0 (hk : Kn W0) : cP W0 42 [.str [83]] [] (.bool true) [] := (A8 hk Ad (d := 60) (show An [] 60 42 [.str [83]] [] = some (.bool true, []) by kernel_rfl) (by kernel_rfl) (by kernel_rfl)).2.2
theorem tl42_1 (hk : Kn W0) : cP W0 42 [.str [84, 119, 111, 32, 120]] [] (.bool true) [] := (A8 hk Ad (d := 60) (show An [] 60 42 [.str [84, 119, 111, 32, 120]] [] = some (.bool true, []) by kernel_rfl) (by kernel_rfl) (by kernel_rfl)).2.2
theorem tl42_2 (hk : Kn W0) : cP W0 42 [.str [116, 104, 105, 114, 100]] [] (.bool true) [] := (A8 hk Ad (d := 60) (show An [] 60 42 [.str [116, 104, 105, 114, 100]] [] = some (.bool true, []) by kernel_rfl) (by kernel_rfl) (by kernel_rfl)).2.2
theorem Xi (hk : Kn W0) : cP W0 42 [.str [101, 108, 115, 101, 119, 104, 101, 114, 101]] [] (.bool true) [] := (A8 hk Ad (d := 60) (show An [] 60 42 [.str [101, 108, 115, 101, 119, 104, 101, 114, 101]] [] = some (.bool true, []) by kernel_rfl) (by kernel_rfl) (by kernel_rfl)).2.2
theorem Of (hk : Kn W0) : cP W0 42 [.str [78, 101, 119]] [] (.bool true) [] := (A8 hk Ad (d := 60) (show An [] 60 42 [.str [78, 101, 119]] [] = some (.bool true, []) by kernel_rfl) (by kernel_rfl) (by kernel_rfl)).2.2
theorem Oh (hk : Kn W0) : cP W0 42 [.str [105, 116, 39, 115]] [] (.bool true) [] := (A8 hk Ad (d := 60) (show An [] 60 42 [.str [105, 116, 39, 115]] [] = some (.bool true, []) by kernel_rfl) (by kernel_rfl) (by kernel_rfl)).2.2
theorem O5 (hk : Kn W0) : cP W0 42 [.str [115]] [] (.bool true) [] := (A8 hk Ad (d := 60) (show An [] 60 42 [.str [115]] [] = some (.bool true, []) by kernel_rfl) (by kernel_rfl) (by kernel_rfl)).2.2
theorem Nv (hk : Kn W0) : cP W0 42 [.str [116, 119, 111, 32, 88]] [] (.bool true) [] := (A8 hk Ad (d := 60) (show An [] 60 42 [.str [116, 119, 111, 32, 88]] [] = some (.bool true, []) by kernel_rfl) (by kernel_rfl) (by kernel_rfl)).2.2
theorem tlT (hk : Kn W0) (m : Nat) : cP W0 42 [.str (ttl m)] [] (.bool true) [] := by
 match m with
 | 0 => exact tl42_0 hk
 | 1 => exact tl42_1 hk
 | _ + 2 => exact tl42_2 hk
def Cc (f : Nat) : Bool := Nat.beq f 5
theorem sh000 (hk : Kn W0) {a1 a2 a3 a4 a5 a40 a50 : Int} (h1 : oC W0 5 [jI a4, jI 5] (jI a50)) (h2 : oC W0 5 [jI a3, jI 13] (jI a40)) (h3 : oC W0 5 [jI a2, jI 1] zI) (h4 : oC W0 5 [jI a1, jI 6] zI) : cP W0 9 [C3 a1 a2 a3 a4 a5, Rm] [] (N264 a40 (IntKind.i64.wrap (1 + a50))) [] :=
 Aa hk Cc (ss0 3 [] 1 [] [(zI, none), (zI, none), (jI a40, none), (jI a50, none)] [1, 1, 2, 2]) (by kernel_rfl) (gdC h1 (gdC h2 (gdC h3 (gdC h4 gdN))))
theorem sh001 (hk : Kn W0) {a1 a2 a3 a4 a5 a40 a50 : Int} (h1 : oC W0 5 [jI a4, jI 5] (jI a50)) (h2 : oC W0 5 [jI a3, jI 13] (jI a40)) (h3 : oC W0 5 [jI a2, jI 1] zI) (h4 : oC W0 5 [jI a1, jI 6] (jI 1)) : cP W0 9 [C3 a1 a2 a3 a4 a5, Rm] [] (N265 a40 (IntKind.i64.wrap (1 + a50))) [] :=
 Aa hk Cc (ss0 4 [] 1 [] [(jI 1, none), (zI, none), (jI a40, none), (jI a50, none)] [1, 1, 2, 2]) (by kernel_rfl) (gdC h1 (gdC h2 (gdC h3 (gdC h4 gdN))))
theorem sh002 (hk : Kn W0) {a1 a2 a3 a4 a5 a60 a70 : Int} (h1 : oC W0 5 [jI a4, jI 3] (jI a70)) (h2 : oC W0 5 [jI a3, jI 7] (jI a60)) (h3 : oC W0 5 [jI a2, jI 1] zI) (h4 : oC W0 5 [jI a1, jI 6] (jI 2)) : cP W0 9 [C3 a1 a2 a3 a4 a5, Rm] [] (N266 a60 (IntKind.i64.wrap (1 + a70))) [] :=
 Aa hk Cc (ss0 4 [] 1 [] [(jI 2, none), (zI, none), (jI a60, none), (jI a70, none)] [1, 1, 2, 2]) (by kernel_rfl) (gdC h1 (gdC h2 (gdC h3 (gdC h4 gdN))))
theorem sh003 (hk : Kn W0) {a1 a2 a3 a4 a5 a60 a70 : Int} (h1 : oC W0 5 [jI a4, jI 3] (jI a70)) (h2 : oC W0 5 [jI a3, jI 7] (jI a60)) (h3 : oC W0 5 [jI a2, jI 1] zI) (h4 : oC W0 5 [jI a1, jI 6] (jI 3)) : cP W0 9 [C3 a1 a2 a3 a4 a5, Rm] [] (N267 a60 (IntKind.i64.wrap (1 + a70))) [] :=
 Aa hk Cc (ss0 4 [] 1 [] [(jI 3, none), (zI, none), (jI a60, none), (jI a70, none)] [1, 1, 2, 2]) (by kernel_rfl) (gdC h1 (gdC h2 (gdC h3 (gdC h4 gdN))))
theorem sh005 (hk : Kn W0) {a1 a2 a3 a4 a5 : Int} (h1 : oC W0 5 [jI a2, jI 1] zI) (h2 : oC W0 5 [jI a1, jI 6] (jI 5)) : cP W0 9 [C3 a1 a2 a3 a4 a5, Rm] [] (N268) [] :=
 Aa hk Cc (ss0 2 [] 1 [] [(jI 5, none), (zI, none)] [1, 1, 2, 2]) (by kernel_rfl) (gdC h1 (gdC h2 gdN))
theorem sh0040 (hk : Kn W0) {a1 a2 a3 a4 a5 : Int} (h1 : oC W0 5 [jI a5, jI 4] zI) (h2 : oC W0 5 [jI a2, jI 1] zI) (h3 : oC W0 5 [jI a1, jI 6] (jI 4)) : cP W0 9 [C3 a1 a2 a3 a4 a5, Rm] [] (N269) [] :=
 Aa hk Cc (ss0 1 [] 2 [] [(jI 4, none), (zI, none), (zI, none)] [1, 1, 2, 2]) (by kernel_rfl) (gdC h1 (gdC h2 (gdC h3 gdN)))
theorem sh0041 (hk : Kn W0) {a1 a2 a3 a4 a5 : Int} (h1 : oC W0 5 [jI a5, jI 4] (jI 1)) (h2 : oC W0 5 [jI a2, jI 1] zI) (h3 : oC W0 5 [jI a1, jI 6] (jI 4)) : cP W0 9 [C3 a1 a2 a3 a4 a5, Rm] [] (N270) [] :=
 Aa hk Cc (ss0 1 [] 2 [] [(jI 4, none), (zI, none), (jI 1, none)] [1, 1, 2, 2]) (by kernel_rfl) (gdC h1 (gdC h2 (gdC h3 gdN)))
theorem sh0042 (hk : Kn W0) {a1 a2 a3 a4 a5 : Int} (h1 : oC W0 5 [jI a5, jI 4] (jI 2)) (h2 : oC W0 5 [jI a2, jI 1] zI) (h3 : oC W0 5 [jI a1, jI 6] (jI 4)) : cP W0 9 [C3 a1 a2 a3 a4 a5, Rm] [] (N271) [] :=
 Aa hk Cc (ss0 1 [] 2 [] [(jI 4, none), (zI, none), (jI 2, none)] [1, 1, 2, 2]) (by kernel_rfl) (gdC h1 (gdC h2 (gdC h3 gdN)))
theorem sh0043 (hk : Kn W0) {a1 a2 a3 a4 a5 : Int} (h1 : oC W0 5 [jI a5, jI 4] (jI 3)) (h2 : oC W0 5 [jI a2, jI 1] zI) (h3 : oC W0 5 [jI a1, jI 6] (jI 4)) : cP W0 9 [C3 a1 a2 a3 a4 a5, Rm] [] (N272) [] :=
 Aa hk Cc (ss0 1 [] 2 [] [(jI 4, none), (zI, none), (jI 3, none)] [1, 1, 2, 2]) (by kernel_rfl) (gdC h1 (gdC h2 (gdC h3 gdN)))
theorem sh100 (hk : Kn W0) {a1 a2 a3 a4 a5 a40 a50 : Int} (h1 : oC W0 5 [jI a4, jI 5] (jI a50)) (h2 : oC W0 5 [jI a3, jI 13] (jI a40)) (h3 : oC W0 5 [jI a2, jI 2] zI) (h4 : oC W0 5 [jI a1, jI 6] zI) : cP W0 9 [C3 a1 a2 a3 a4 a5, Io] [] (N264 a40 (IntKind.i64.wrap (1 + a50))) [] :=
 Aa hk Cc (ss0 3 [] 1 [] [(zI, none), (zI, none), (jI a40, none), (jI a50, none)] [1, 1, 2, 2]) (by kernel_rfl) (gdC h1 (gdC h2 (gdC h3 (gdC h4 gdN))))
theorem sh101 (hk : Kn W0) {a1 a2 a3 a4 a5 a40 a50 : Int} (h1 : oC W0 5 [jI a4, jI 5] (jI a50)) (h2 : oC W0 5 [jI a3, jI 13] (jI a40)) (h3 : oC W0 5 [jI a2, jI 2] zI) (h4 : oC W0 5 [jI a1, jI 6] (jI 1)) : cP W0 9 [C3 a1 a2 a3 a4 a5, Io] [] (N265 a40 (IntKind.i64.wrap (1 + a50))) [] :=
 Aa hk Cc (ss0 4 [] 1 [] [(jI 1, none), (zI, none), (jI a40, none), (jI a50, none)] [1, 1, 2, 2]) (by kernel_rfl) (gdC h1 (gdC h2 (gdC h3 (gdC h4 gdN))))
theorem sh102 (hk : Kn W0) {a1 a2 a3 a4 a5 a60 a70 : Int} (h1 : oC W0 5 [jI a4, jI 3] (jI a70)) (h2 : oC W0 5 [jI a3, jI 7] (jI a60)) (h3 : oC W0 5 [jI a2, jI 2] zI) (h4 : oC W0 5 [jI a1, jI 6] (jI 2)) : cP W0 9 [C3 a1 a2 a3 a4 a5, Io] [] (N266 a60 (IntKind.i64.wrap (1 + a70))) [] :=
 Aa hk Cc (ss0 4 [] 1 [] [(jI 2, none), (zI, none), (jI a60, none), (jI a70, none)] [1, 1, 2, 2]) (by kernel_rfl) (gdC h1 (gdC h2 (gdC h3 (gdC h4 gdN))))
theorem sh103 (hk : Kn W0) {a1 a2 a3 a4 a5 a60 a70 : Int} (h1 : oC W0 5 [jI a4, jI 3] (jI a70)) (h2 : oC W0 5 [jI a3, jI 7] (jI a60)) (h3 : oC W0 5 [jI a2, jI 2] zI) (h4 : oC W0 5 [jI a1, jI 6] (jI 3)) : cP W0 9 [C3 a1 a2 a3 a4 a5, Io] [] (N267 a60 (IntKind.i64.wrap (1 + a70))) [] :=
 Aa hk Cc (ss0 4 [] 1 [] [(jI 3, none), (zI, none), (jI a60, none), (jI a70, none)] [1, 1, 2, 2]) (by kernel_rfl) (gdC h1 (gdC h2 (gdC h3 (gdC h4 gdN))))
theorem sh105 (hk : Kn W0) {a1 a2 a3 a4 a5 : Int} (h1 : oC W0 5 [jI a2, jI 2] zI) (h2 : oC W0 5 [jI a1, jI 6] (jI 5)) : cP W0 9 [C3 a1 a2 a3 a4 a5, Io] [] (N268) [] :=
 Aa hk Cc (ss0 2 [] 1 [] [(jI 5, none), (zI, none)] [1, 1, 2, 2]) (by kernel_rfl) (gdC h1 (gdC h2 gdN))
theorem sh1040 (hk : Kn W0) {a1 a2 a3 a4 a5 : Int} (h1 : oC W0 5 [jI a5, jI 4] zI) (h2 : oC W0 5 [jI a2, jI 2] zI) (h3 : oC W0 5 [jI a1, jI 6] (jI 4)) : cP W0 9 [C3 a1 a2 a3 a4 a5, Io] [] (N269) [] :=
 Aa hk Cc (ss0 1 [] 2 [] [(jI 4, none), (zI, none), (zI, none)] [1, 1, 2, 2]) (by kernel_rfl) (gdC h1 (gdC h2 (gdC h3 gdN)))
theorem sh1041 (hk : Kn W0) {a1 a2 a3 a4 a5 : Int} (h1 : oC W0 5 [jI a5, jI 4] (jI 1)) (h2 : oC W0 5 [jI a2, jI 2] zI) (h3 : oC W0 5 [jI a1, jI 6] (jI 4)) : cP W0 9 [C3 a1 a2 a3 a4 a5, Io] [] (N270) [] :=
 Aa hk Cc (ss0 1 [] 2 [] [(jI 4, none), (zI, none), (jI 1, none)] [1, 1, 2, 2]) (by kernel_rfl) (gdC h1 (gdC h2 (gdC h3 gdN)))
theorem sh1042 (hk : Kn W0) {a1 a2 a3 a4 a5 : Int} (h1 : oC W0 5 [jI a5, jI 4] (jI 2)) (h2 : oC W0 5 [jI a2, jI 2] zI) (h3 : oC W0 5 [jI a1, jI 6] (jI 4)) : cP W0 9 [C3 a1 a2 a3 a4 a5, Io] [] (N271) [] :=
 Aa hk Cc (ss0 1 [] 2 [] [(jI 4, none), (zI, none), (jI 2, none)] [1, 1, 2, 2]) (by kernel_rfl) (gdC h1 (gdC h2 (gdC h3 gdN)))
theorem sh1043 (hk : Kn W0) {a1 a2 a3 a4 a5 : Int} (h1 : oC W0 5 [jI a5, jI 4] (jI 3)) (h2 : oC W0 5 [jI a2, jI 2] zI) (h3 : oC W0 5 [jI a1, jI 6] (jI 4)) : cP W0 9 [C3 a1 a2 a3 a4 a5, Io] [] (N272) [] :=
 Aa hk Cc (ss0 1 [] 2 [] [(jI 4, none), (zI, none), (jI 3, none)] [1, 1, 2, 2]) (by kernel_rfl) (gdC h1 (gdC h2 (gdC h3 gdN)))
theorem sh110 (hk : Kn W0) {a1 a2 a3 a4 a5 a40 a50 : Int} (h1 : oC W0 5 [jI a4, jI 5] (jI a50)) (h2 : oC W0 5 [jI a3, jI 13] (jI a40)) (h3 : oC W0 5 [jI a2, jI 2] (jI 1)) (h4 : oC W0 5 [jI a1, jI 6] zI) : cP W0 9 [C3 a1 a2 a3 a4 a5, Io] [] (N273 a40 (IntKind.i64.wrap (1 + a50))) [] :=
 Aa hk Cc (ss0 3 [] 1 [] [(zI, none), (jI 1, none), (jI a40, none), (jI a50, none)] [1, 1, 2, 2]) (by kernel_rfl) (gdC h1 (gdC h2 (gdC h3 (gdC h4 gdN))))
theorem sh111 (hk : Kn W0) {a1 a2 a3 a4 a5 a40 a50 : Int} (h1 : oC W0 5 [jI a4, jI 5] (jI a50)) (h2 : oC W0 5 [jI a3, jI 13] (jI a40)) (h3 : oC W0 5 [jI a2, jI 2] (jI 1)) (h4 : oC W0 5 [jI a1, jI 6] (jI 1)) : cP W0 9 [C3 a1 a2 a3 a4 a5, Io] [] (N274 a40 (IntKind.i64.wrap (1 + a50))) [] :=
 Aa hk Cc (ss0 4 [] 1 [] [(jI 1, none), (jI 1, none), (jI a40, none), (jI a50, none)] [1, 1, 2, 2]) (by kernel_rfl) (gdC h1 (gdC h2 (gdC h3 (gdC h4 gdN))))
theorem sh112 (hk : Kn W0) {a1 a2 a3 a4 a5 a60 a70 : Int} (h1 : oC W0 5 [jI a4, jI 3] (jI a70)) (h2 : oC W0 5 [jI a3, jI 7] (jI a60)) (h3 : oC W0 5 [jI a2, jI 2] (jI 1)) (h4 : oC W0 5 [jI a1, jI 6] (jI 2)) : cP W0 9 [C3 a1 a2 a3 a4 a5, Io] [] (N275 a60 (IntKind.i64.wrap (1 + a70))) [] :=
 Aa hk Cc (ss0 4 [] 1 [] [(jI 2, none), (jI 1, none), (jI a60, none), (jI a70, none)] [1, 1, 2, 2]) (by kernel_rfl) (gdC h1 (gdC h2 (gdC h3 (gdC h4 gdN))))
theorem sh113 (hk : Kn W0) {a1 a2 a3 a4 a5 a60 a70 : Int} (h1 : oC W0 5 [jI a4, jI 3] (jI a70)) (h2 : oC W0 5 [jI a3, jI 7] (jI a60)) (h3 : oC W0 5 [jI a2, jI 2] (jI 1)) (h4 : oC W0 5 [jI a1, jI 6] (jI 3)) : cP W0 9 [C3 a1 a2 a3 a4 a5, Io] [] (N276 a60 (IntKind.i64.wrap (1 + a70))) [] :=
 Aa hk Cc (ss0 4 [] 1 [] [(jI 3, none), (jI 1, none), (jI a60, none), (jI a70, none)] [1, 1, 2, 2]) (by kernel_rfl) (gdC h1 (gdC h2 (gdC h3 (gdC h4 gdN))))
theorem sh115 (hk : Kn W0) {a1 a2 a3 a4 a5 : Int} (h1 : oC W0 5 [jI a2, jI 2] (jI 1)) (h2 : oC W0 5 [jI a1, jI 6] (jI 5)) : cP W0 9 [C3 a1 a2 a3 a4 a5, Io] [] (N277) [] :=
 Aa hk Cc (ss0 2 [] 1 [] [(jI 5, none), (jI 1, none)] [1, 1, 2, 2]) (by kernel_rfl) (gdC h1 (gdC h2 gdN))
theorem sh1140 (hk : Kn W0) {a1 a2 a3 a4 a5 : Int} (h1 : oC W0 5 [jI a5, jI 4] zI) (h2 : oC W0 5 [jI a2, jI 2] (jI 1)) (h3 : oC W0 5 [jI a1, jI 6] (jI 4)) : cP W0 9 [C3 a1 a2 a3 a4 a5, Io] [] (N278) [] :=
 Aa hk Cc (ss0 1 [] 2 [] [(jI 4, none), (jI 1, none), (zI, none)] [1, 1, 2, 2]) (by kernel_rfl) (gdC h1 (gdC h2 (gdC h3 gdN)))
theorem sh1141 (hk : Kn W0) {a1 a2 a3 a4 a5 : Int} (h1 : oC W0 5 [jI a5, jI 4] (jI 1)) (h2 : oC W0 5 [jI a2, jI 2] (jI 1)) (h3 : oC W0 5 [jI a1, jI 6] (jI 4)) : cP W0 9 [C3 a1 a2 a3 a4 a5, Io] [] (N279) [] :=
 Aa hk Cc (ss0 1 [] 2 [] [(jI 4, none), (jI 1, none), (jI 1, none)] [1, 1, 2, 2]) (by kernel_rfl) (gdC h1 (gdC h2 (gdC h3 gdN)))
theorem sh1142 (hk : Kn W0) {a1 a2 a3 a4 a5 : Int} (h1 : oC W0 5 [jI a5, jI 4] (jI 2)) (h2 : oC W0 5 [jI a2, jI 2] (jI 1)) (h3 : oC W0 5 [jI a1, jI 6] (jI 4)) : cP W0 9 [C3 a1 a2 a3 a4 a5, Io] [] (N280) [] :=
 Aa hk Cc (ss0 1 [] 2 [] [(jI 4, none), (jI 1, none), (jI 2, none)] [1, 1, 2, 2]) (by kernel_rfl) (gdC h1 (gdC h2 (gdC h3 gdN)))
theorem sh1143 (hk : Kn W0) {a1 a2 a3 a4 a5 : Int} (h1 : oC W0 5 [jI a5, jI 4] (jI 3)) (h2 : oC W0 5 [jI a2, jI 2] (jI 1)) (h3 : oC W0 5 [jI a1, jI 6] (jI 4)) : cP W0 9 [C3 a1 a2 a3 a4 a5, Io] [] (N281) [] :=
 Aa hk Cc (ss0 1 [] 2 [] [(jI 4, none), (jI 1, none), (jI 3, none)] [1, 1, 2, 2]) (by kernel_rfl) (gdC h1 (gdC h2 (gdC h3 gdN)))
theorem sh200 (hk : Kn W0) {a1 a2 a3 a4 a5 a40 a50 : Int} (h1 : oC W0 5 [jI a4, jI 5] (jI a50)) (h2 : oC W0 5 [jI a3, jI 13] (jI a40)) (h3 : oC W0 5 [jI a2, jI 3] zI) (h4 : oC W0 5 [jI a1, jI 6] zI) : cP W0 9 [C3 a1 a2 a3 a4 a5, Fj] [] (N264 a40 (IntKind.i64.wrap (1 + a50))) [] :=
 Aa hk Cc (ss0 3 [] 1 [] [(zI, none), (zI, none), (jI a40, none), (jI a50, none)] [1, 1, 2, 2]) (by kernel_rfl) (gdC h1 (gdC h2 (gdC h3 (gdC h4 gdN))))
theorem sh201 (hk : Kn W0) {a1 a2 a3 a4 a5 a40 a50 : Int} (h1 : oC W0 5 [jI a4, jI 5] (jI a50)) (h2 : oC W0 5 [jI a3, jI 13] (jI a40)) (h3 : oC W0 5 [jI a2, jI 3] zI) (h4 : oC W0 5 [jI a1, jI 6] (jI 1)) : cP W0 9 [C3 a1 a2 a3 a4 a5, Fj] [] (N265 a40 (IntKind.i64.wrap (1 + a50))) [] :=
 Aa hk Cc (ss0 4 [] 1 [] [(jI 1, none), (zI, none), (jI a40, none), (jI a50, none)] [1, 1, 2, 2]) (by kernel_rfl) (gdC h1 (gdC h2 (gdC h3 (gdC h4 gdN))))
theorem sh202 (hk : Kn W0) {a1 a2 a3 a4 a5 a60 a70 : Int} (h1 : oC W0 5 [jI a4, jI 3] (jI a70)) (h2 : oC W0 5 [jI a3, jI 7] (jI a60)) (h3 : oC W0 5 [jI a2, jI 3] zI) (h4 : oC W0 5 [jI a1, jI 6] (jI 2)) : cP W0 9 [C3 a1 a2 a3 a4 a5, Fj] [] (N266 a60 (IntKind.i64.wrap (1 + a70))) [] :=
 Aa hk Cc (ss0 4 [] 1 [] [(jI 2, none), (zI, none), (jI a60, none), (jI a70, none)] [1, 1, 2, 2]) (by kernel_rfl) (gdC h1 (gdC h2 (gdC h3 (gdC h4 gdN))))
theorem sh203 (hk : Kn W0) {a1 a2 a3 a4 a5 a60 a70 : Int} (h1 : oC W0 5 [jI a4, jI 3] (jI a70)) (h2 : oC W0 5 [jI a3, jI 7] (jI a60)) (h3 : oC W0 5 [jI a2, jI 3] zI) (h4 : oC W0 5 [jI a1, jI 6] (jI 3)) : cP W0 9 [C3 a1 a2 a3 a4 a5, Fj] [] (N267 a60 (IntKind.i64.wrap (1 + a70))) [] :=
 Aa hk Cc (ss0 4 [] 1 [] [(jI 3, none), (zI, none), (jI a60, none), (jI a70, none)] [1, 1, 2, 2]) (by kernel_rfl) (gdC h1 (gdC h2 (gdC h3 (gdC h4 gdN))))
theorem sh205 (hk : Kn W0) {a1 a2 a3 a4 a5 : Int} (h1 : oC W0 5 [jI a2, jI 3] zI) (h2 : oC W0 5 [jI a1, jI 6] (jI 5)) : cP W0 9 [C3 a1 a2 a3 a4 a5, Fj] [] (N268) [] :=
 Aa hk Cc (ss0 2 [] 1 [] [(jI 5, none), (zI, none)] [1, 1, 2, 2]) (by kernel_rfl) (gdC h1 (gdC h2 gdN))
theorem sh2040 (hk : Kn W0) {a1 a2 a3 a4 a5 : Int} (h1 : oC W0 5 [jI a5, jI 4] zI) (h2 : oC W0 5 [jI a2, jI 3] zI) (h3 : oC W0 5 [jI a1, jI 6] (jI 4)) : cP W0 9 [C3 a1 a2 a3 a4 a5, Fj] [] (N269) [] :=
 Aa hk Cc (ss0 1 [] 2 [] [(jI 4, none), (zI, none), (zI, none)] [1, 1, 2, 2]) (by kernel_rfl) (gdC h1 (gdC h2 (gdC h3 gdN)))
theorem sh2041 (hk : Kn W0) {a1 a2 a3 a4 a5 : Int} (h1 : oC W0 5 [jI a5, jI 4] (jI 1)) (h2 : oC W0 5 [jI a2, jI 3] zI) (h3 : oC W0 5 [jI a1, jI 6] (jI 4)) : cP W0 9 [C3 a1 a2 a3 a4 a5, Fj] [] (N270) [] :=
 Aa hk Cc (ss0 1 [] 2 [] [(jI 4, none), (zI, none), (jI 1, none)] [1, 1, 2, 2]) (by kernel_rfl) (gdC h1 (gdC h2 (gdC h3 gdN)))
theorem sh2042 (hk : Kn W0) {a1 a2 a3 a4 a5 : Int} (h1 : oC W0 5 [jI a5, jI 4] (jI 2)) (h2 : oC W0 5 [jI a2, jI 3] zI) (h3 : oC W0 5 [jI a1, jI 6] (jI 4)) : cP W0 9 [C3 a1 a2 a3 a4 a5, Fj] [] (N271) [] :=
 Aa hk Cc (ss0 1 [] 2 [] [(jI 4, none), (zI, none), (jI 2, none)] [1, 1, 2, 2]) (by kernel_rfl) (gdC h1 (gdC h2 (gdC h3 gdN)))
theorem sh2043 (hk : Kn W0) {a1 a2 a3 a4 a5 : Int} (h1 : oC W0 5 [jI a5, jI 4] (jI 3)) (h2 : oC W0 5 [jI a2, jI 3] zI) (h3 : oC W0 5 [jI a1, jI 6] (jI 4)) : cP W0 9 [C3 a1 a2 a3 a4 a5, Fj] [] (N272) [] :=
 Aa hk Cc (ss0 1 [] 2 [] [(jI 4, none), (zI, none), (jI 3, none)] [1, 1, 2, 2]) (by kernel_rfl) (gdC h1 (gdC h2 (gdC h3 gdN)))
theorem sh210 (hk : Kn W0) {a1 a2 a3 a4 a5 a40 a50 : Int} (h1 : oC W0 5 [jI a4, jI 5] (jI a50)) (h2 : oC W0 5 [jI a3, jI 13] (jI a40)) (h3 : oC W0 5 [jI a2, jI 3] (jI 1)) (h4 : oC W0 5 [jI a1, jI 6] zI) : cP W0 9 [C3 a1 a2 a3 a4 a5, Fj] [] (N273 a40 (IntKind.i64.wrap (1 + a50))) [] :=
 Aa hk Cc (ss0 3 [] 1 [] [(zI, none), (jI 1, none), (jI a40, none), (jI a50, none)] [1, 1, 2, 2]) (by kernel_rfl) (gdC h1 (gdC h2 (gdC h3 (gdC h4 gdN))))
theorem sh211 (hk : Kn W0) {a1 a2 a3 a4 a5 a40 a50 : Int} (h1 : oC W0 5 [jI a4, jI 5] (jI a50)) (h2 : oC W0 5 [jI a3, jI 13] (jI a40)) (h3 : oC W0 5 [jI a2, jI 3] (jI 1)) (h4 : oC W0 5 [jI a1, jI 6] (jI 1)) : cP W0 9 [C3 a1 a2 a3 a4 a5, Fj] [] (N274 a40 (IntKind.i64.wrap (1 + a50))) [] :=
 Aa hk Cc (ss0 4 [] 1 [] [(jI 1, none), (jI 1, none), (jI a40, none), (jI a50, none)] [1, 1, 2, 2]) (by kernel_rfl) (gdC h1 (gdC h2 (gdC h3 (gdC h4 gdN))))
theorem sh212 (hk : Kn W0) {a1 a2 a3 a4 a5 a60 a70 : Int} (h1 : oC W0 5 [jI a4, jI 3] (jI a70)) (h2 : oC W0 5 [jI a3, jI 7] (jI a60)) (h3 : oC W0 5 [jI a2, jI 3] (jI 1)) (h4 : oC W0 5 [jI a1, jI 6] (jI 2)) : cP W0 9 [C3 a1 a2 a3 a4 a5, Fj] [] (N275 a60 (IntKind.i64.wrap (1 + a70))) [] :=
 Aa hk Cc (ss0 4 [] 1 [] [(jI 2, none), (jI 1, none), (jI a60, none), (jI a70, none)] [1, 1, 2, 2]) (by kernel_rfl) (gdC h1 (gdC h2 (gdC h3 (gdC h4 gdN))))
theorem sh213 (hk : Kn W0) {a1 a2 a3 a4 a5 a60 a70 : Int} (h1 : oC W0 5 [jI a4, jI 3] (jI a70)) (h2 : oC W0 5 [jI a3, jI 7] (jI a60)) (h3 : oC W0 5 [jI a2, jI 3] (jI 1)) (h4 : oC W0 5 [jI a1, jI 6] (jI 3)) : cP W0 9 [C3 a1 a2 a3 a4 a5, Fj] [] (N276 a60 (IntKind.i64.wrap (1 + a70))) [] :=
 Aa hk Cc (ss0 4 [] 1 [] [(jI 3, none), (jI 1, none), (jI a60, none), (jI a70, none)] [1, 1, 2, 2]) (by kernel_rfl) (gdC h1 (gdC h2 (gdC h3 (gdC h4 gdN))))
theorem sh215 (hk : Kn W0) {a1 a2 a3 a4 a5 : Int} (h1 : oC W0 5 [jI a2, jI 3] (jI 1)) (h2 : oC W0 5 [jI a1, jI 6] (jI 5)) : cP W0 9 [C3 a1 a2 a3 a4 a5, Fj] [] (N277) [] :=
 Aa hk Cc (ss0 2 [] 1 [] [(jI 5, none), (jI 1, none)] [1, 1, 2, 2]) (by kernel_rfl) (gdC h1 (gdC h2 gdN))
theorem sh2140 (hk : Kn W0) {a1 a2 a3 a4 a5 : Int} (h1 : oC W0 5 [jI a5, jI 4] zI) (h2 : oC W0 5 [jI a2, jI 3] (jI 1)) (h3 : oC W0 5 [jI a1, jI 6] (jI 4)) : cP W0 9 [C3 a1 a2 a3 a4 a5, Fj] [] (N278) [] :=
 Aa hk Cc (ss0 1 [] 2 [] [(jI 4, none), (jI 1, none), (zI, none)] [1, 1, 2, 2]) (by kernel_rfl) (gdC h1 (gdC h2 (gdC h3 gdN)))
theorem sh2141 (hk : Kn W0) {a1 a2 a3 a4 a5 : Int} (h1 : oC W0 5 [jI a5, jI 4] (jI 1)) (h2 : oC W0 5 [jI a2, jI 3] (jI 1)) (h3 : oC W0 5 [jI a1, jI 6] (jI 4)) : cP W0 9 [C3 a1 a2 a3 a4 a5, Fj] [] (N279) [] :=
 Aa hk Cc (ss0 1 [] 2 [] [(jI 4, none), (jI 1, none), (jI 1, none)] [1, 1, 2, 2]) (by kernel_rfl) (gdC h1 (gdC h2 (gdC h3 gdN)))
theorem sh2142 (hk : Kn W0) {a1 a2 a3 a4 a5 : Int} (h1 : oC W0 5 [jI a5, jI 4] (jI 2)) (h2 : oC W0 5 [jI a2, jI 3] (jI 1)) (h3 : oC W0 5 [jI a1, jI 6] (jI 4)) : cP W0 9 [C3 a1 a2 a3 a4 a5, Fj] [] (N280) [] :=
 Aa hk Cc (ss0 1 [] 2 [] [(jI 4, none), (jI 1, none), (jI 2, none)] [1, 1, 2, 2]) (by kernel_rfl) (gdC h1 (gdC h2 (gdC h3 gdN)))
theorem sh2143 (hk : Kn W0) {a1 a2 a3 a4 a5 : Int} (h1 : oC W0 5 [jI a5, jI 4] (jI 3)) (h2 : oC W0 5 [jI a2, jI 3] (jI 1)) (h3 : oC W0 5 [jI a1, jI 6] (jI 4)) : cP W0 9 [C3 a1 a2 a3 a4 a5, Fj] [] (N281) [] :=
 Aa hk Cc (ss0 1 [] 2 [] [(jI 4, none), (jI 1, none), (jI 3, none)] [1, 1, 2, 2]) (by kernel_rfl) (gdC h1 (gdC h2 (gdC h3 gdN)))
theorem sh220 (hk : Kn W0) {a1 a2 a3 a4 a5 a40 a50 : Int} (h1 : oC W0 5 [jI a4, jI 5] (jI a50)) (h2 : oC W0 5 [jI a3, jI 13] (jI a40)) (h3 : oC W0 5 [jI a2, jI 3] (jI 2)) (h4 : oC W0 5 [jI a1, jI 6] zI) : cP W0 9 [C3 a1 a2 a3 a4 a5, Fj] [] (.agg [jI 1, .str [116, 104, 105, 114, 100], jI a40, jI (IntKind.i64.wrap (1 + a50)), zT]) [] :=
 Aa hk Cc (ss0 3 [] 1 [] [(zI, none), (jI 2, none), (jI a40, none), (jI a50, none)] [1, 1, 2, 2]) (by kernel_rfl) (gdC h1 (gdC h2 (gdC h3 (gdC h4 gdN))))
theorem sh221 (hk : Kn W0) {a1 a2 a3 a4 a5 a40 a50 : Int} (h1 : oC W0 5 [jI a4, jI 5] (jI a50)) (h2 : oC W0 5 [jI a3, jI 13] (jI a40)) (h3 : oC W0 5 [jI a2, jI 3] (jI 2)) (h4 : oC W0 5 [jI a1, jI 6] (jI 1)) : cP W0 9 [C3 a1 a2 a3 a4 a5, Fj] [] (.agg [jI 2, .str [116, 104, 105, 114, 100], jI a40, jI (IntKind.i64.wrap (1 + a50)), zT]) [] :=
 Aa hk Cc (ss0 4 [] 1 [] [(jI 1, none), (jI 2, none), (jI a40, none), (jI a50, none)] [1, 1, 2, 2]) (by kernel_rfl) (gdC h1 (gdC h2 (gdC h3 (gdC h4 gdN))))
theorem sh222 (hk : Kn W0) {a1 a2 a3 a4 a5 a60 a70 : Int} (h1 : oC W0 5 [jI a4, jI 3] (jI a70)) (h2 : oC W0 5 [jI a3, jI 7] (jI a60)) (h3 : oC W0 5 [jI a2, jI 3] (jI 2)) (h4 : oC W0 5 [jI a1, jI 6] (jI 2)) : cP W0 9 [C3 a1 a2 a3 a4 a5, Fj] [] (.agg [jI 3, .str [116, 104, 105, 114, 100], jI a60, jI (IntKind.i64.wrap (1 + a70)), zT]) [] :=
 Aa hk Cc (ss0 4 [] 1 [] [(jI 2, none), (jI 2, none), (jI a60, none), (jI a70, none)] [1, 1, 2, 2]) (by kernel_rfl) (gdC h1 (gdC h2 (gdC h3 (gdC h4 gdN))))
theorem sh223 (hk : Kn W0) {a1 a2 a3 a4 a5 a60 a70 : Int} (h1 : oC W0 5 [jI a4, jI 3] (jI a70)) (h2 : oC W0 5 [jI a3, jI 7] (jI a60)) (h3 : oC W0 5 [jI a2, jI 3] (jI 2)) (h4 : oC W0 5 [jI a1, jI 6] (jI 3)) : cP W0 9 [C3 a1 a2 a3 a4 a5, Fj] [] (.agg [jI 4, .str [116, 104, 105, 114, 100], jI a60, jI (IntKind.i64.wrap (1 + a70)), zT]) [] :=
 Aa hk Cc (ss0 4 [] 1 [] [(jI 3, none), (jI 2, none), (jI a60, none), (jI a70, none)] [1, 1, 2, 2]) (by kernel_rfl) (gdC h1 (gdC h2 (gdC h3 (gdC h4 gdN))))
theorem sh225 (hk : Kn W0) {a1 a2 a3 a4 a5 : Int} (h1 : oC W0 5 [jI a2, jI 3] (jI 2)) (h2 : oC W0 5 [jI a1, jI 6] (jI 5)) : cP W0 9 [C3 a1 a2 a3 a4 a5, Fj] [] (.agg [jI 6, .str [116, 104, 105, 114, 100], zI, zI, zT]) [] :=
 Aa hk Cc (ss0 2 [] 1 [] [(jI 5, none), (jI 2, none)] [1, 1, 2, 2]) (by kernel_rfl) (gdC h1 (gdC h2 gdN))
theorem sh2240 (hk : Kn W0) {a1 a2 a3 a4 a5 : Int} (h1 : oC W0 5 [jI a5, jI 4] zI) (h2 : oC W0 5 [jI a2, jI 3] (jI 2)) (h3 : oC W0 5 [jI a1, jI 6] (jI 4)) : cP W0 9 [C3 a1 a2 a3 a4 a5, Fj] [] (.agg [jI 5, .str [116, 104, 105, 114, 100], zI, zI, .str [78, 101, 119]]) [] :=
 Aa hk Cc (ss0 1 [] 2 [] [(jI 4, none), (jI 2, none), (zI, none)] [1, 1, 2, 2]) (by kernel_rfl) (gdC h1 (gdC h2 (gdC h3 gdN)))
theorem sh2241 (hk : Kn W0) {a1 a2 a3 a4 a5 : Int} (h1 : oC W0 5 [jI a5, jI 4] (jI 1)) (h2 : oC W0 5 [jI a2, jI 3] (jI 2)) (h3 : oC W0 5 [jI a1, jI 6] (jI 4)) : cP W0 9 [C3 a1 a2 a3 a4 a5, Fj] [] (.agg [jI 5, .str [116, 104, 105, 114, 100], zI, zI, .str [105, 116, 39, 115]]) [] :=
 Aa hk Cc (ss0 1 [] 2 [] [(jI 4, none), (jI 2, none), (jI 1, none)] [1, 1, 2, 2]) (by kernel_rfl) (gdC h1 (gdC h2 (gdC h3 gdN)))
theorem sh2242 (hk : Kn W0) {a1 a2 a3 a4 a5 : Int} (h1 : oC W0 5 [jI a5, jI 4] (jI 2)) (h2 : oC W0 5 [jI a2, jI 3] (jI 2)) (h3 : oC W0 5 [jI a1, jI 6] (jI 4)) : cP W0 9 [C3 a1 a2 a3 a4 a5, Fj] [] (.agg [jI 5, .str [116, 104, 105, 114, 100], zI, zI, .str [115]]) [] :=
 Aa hk Cc (ss0 1 [] 2 [] [(jI 4, none), (jI 2, none), (jI 2, none)] [1, 1, 2, 2]) (by kernel_rfl) (gdC h1 (gdC h2 (gdC h3 gdN)))
theorem sh2243 (hk : Kn W0) {a1 a2 a3 a4 a5 : Int} (h1 : oC W0 5 [jI a5, jI 4] (jI 3)) (h2 : oC W0 5 [jI a2, jI 3] (jI 2)) (h3 : oC W0 5 [jI a1, jI 6] (jI 4)) : cP W0 9 [C3 a1 a2 a3 a4 a5, Fj] [] (.agg [jI 5, .str [116, 104, 105, 114, 100], zI, zI, .str [116, 119, 111, 32, 88]]) [] :=
 Aa hk Cc (ss0 1 [] 2 [] [(jI 4, none), (jI 2, none), (jI 3, none)] [1, 1, 2, 2]) (by kernel_rfl) (gdC h1 (gdC h2 (gdC h3 gdN)))
def KF16 : AFn := ⟨(sQ [wV 1 (.box 46 0), wV 2 (.move (.val (.bool false)))] (.seq (sQ [wV 4 (.fieldAddr 1 1), wV 5 (.load 1 false 4), wV 6 (kF 42 [5]), wV 7 (.un .not 6)] (.cond 7 (sQ [wV 2 (.move (.val (.bool false)))] .ret) .skip)) (sQ [wV 3 (.move (vI 200))] (.seq (sQ [wV 8 (.fieldAddr 0 1), wV 9 (.load 1 false 8)] (.block 0 (.seq (.block 3 (.seq (.block 2 (.seq (.block 1 (.seq (.seq (.seq (sQ [wV 11 (.bin .eql none 9 (vI 3)), wM 10 11] (.cond 10 .skip (.ops [wV 12 (.bin .eql none 9 (vI 4)), wM 10 12]))) (.cond 10 (.exit 1) .skip)) (.seq (.seq (sQ [wV 14 (.bin .eql none 9 (vI 1)), wM 13 14] (.cond 13 .skip (.ops [wV 15 (.bin .eql none 9 (vI 2)), wM 13 15]))) (.cond 13 (.exit 2) .skip)) (sQ [wV 17 (.bin .eql none 9 (vI 5)), wM 16 17] (.cond 16 (.exit 3) .skip)))) (.exit 0))) (.ops [wV 3 (.move (vI 52))]))) (.seq (sQ [wV 18 (.fieldAddr 2 1), wV 19 (.load 1 false 18), wV 20 (.bin .geq none 19 (vI 0)), wM 21 20, wT 22 21 (.fieldAddr 2 1), wT 23 21 (.load 1 false 22), wT 24 21 (.move 3), wT 25 21 (.bin .lss none 23 24), wV 26 (.pick 21 25 (.val (.bool false))), wM 27 26, wT 28 27 (.fieldAddr 3 1), wT 29 27 (.load 1 false 28), wT 30 27 (.bin .geq none 29 (vI 1)), wV 31 (.pick 27 30 (.val (.bool false))), wM 32 31, wT 33 32 (.fieldAddr 3 1), wT 34 32 (.load 1 false 33), wT 35 32 (.move 3), wT 36 32 (.fieldAddr 2 1), wT 37 32 (.load 1 false 36), wT 38 32 (.bin .sub none 35 37), wT 39 32 (.bin .leq none 34 38), wV 40 (.pick 32 39 (.val (.bool false))), wM 41 40, wT 42 41 (.fieldAddr 4 1), wT 43 41 (.load 1 false 42), wT 44 41 (.bin .eql none 43 (.val (.str []))), wV 45 (.pick 41 44 (.val (.bool false))), wM 2 45] .ret) (.exit 0)))) (.seq (sQ [wV 46 (.fieldAddr 2 1), wV 47 (.load 1 false 46), wV 48 (.bin .eql none 47 (vI 0)), wM 49 48, wT 50 49 (.fieldAddr 3 1), wT 51 49 (.load 1 false 50), wT 52 49 (.bin .eql none 51 (vI 0)), wV 53 (.pick 49 52 (.val (.bool false))), wM 54 53, wT 55 54 (.fieldAddr 4 1), wT 56 54 (.load 1 false 55), wT 57 54 (kF 42 [56]), wV 58 (.pick 54 57 (.val (.bool false))), wM 2 58] .ret) (.exit 0))))) (sQ [wV 59 (.fieldAddr 0 1), wV 60 (.load 1 false 59), wV 61 (.bin .eql none 60 (vI 6)), wM 62 61, wT 63 62 (.fieldAddr 2 1), wT 64 62 (.load 1 false 63), wT 65 62 (.bin .eql none 64 (vI 0)), wV 66 (.pick 62 65 (.val (.bool false))), wM 67 66, wT 68 67 (.fieldAddr 3 1), wT 69 67 (.load 1 false 68), wT 70 67 (.bin .eql none 69 (vI 0)), wV 71 (.pick 67 70 (.val (.bool false))), wM 72 71, wT 73 72 (.fieldAddr 4 1), wT 74 72 (.load 1 false 73), wT 75 72 (.bin .eql none 74 (.val (.str []))), wV 76 (.pick 72 75 (.val (.bool false))), wM 2 76] .ret))))), [2], 77⟩
theorem A1i : Au Tryz.prog 16 = some KF16 := by kernel_rfl
theorem Gk (hk : Kn W0) {sh : Bz} (ht : cP W0 42 [.str sh] [] (.bool true) []) {a n : Int} (h1 : 0 ≤ a) (h2 : 1 ≤ n) (h3 : a + n ≤ 200) : cP W0 16 [.agg [.int .i64 1, .str sh, .int .i64 a, .int .i64 n, .str []]] [] (.bool true) [] := by
 have hg := grK hk
 refine A3.of_fnM A1i (by simp) rfl ?_
 refine sO (mV (v := .ptr 0 0) rfl (mV rfl (mn (sq (sO (mV rfl (mV rfl (Ek hg gN (c := true) rfl rfl (A3.pure rfl rfl ht _) rfl (mV rfl (mn (cF rfl (kM (sO (mV rfl (mn (sq (sO (mV rfl (mV rfl (mn (bM (sq (bM (sq (bM (sq (bM (sq (sq (sq (sO (mBk hg gN (c := false) rfl rfl rfl (mV rfl (mn (cF rfl (oM (mBk hg gN (c := false) rfl rfl rfl (mV rfl (mn (cF rfl (kM (sq (sq (sO (mBk hg gN (c := true) rfl rfl rfl (mV rfl (mn (cT rfl (kM (cT rfl ?_))))))))))))))))))))))))))))))))))))))))))))))))))
 refine ExM.exit ?_
 refine sq (sO (mV rfl (mV rfl (mT rfl (mV rfl (mV rfl (mV rfl (mV rfl (mT rfl (mV rfl (mV rfl (mV rfl (mV rfl (mT rfl (mV rfl (mV rfl (mV rfl (mV rfl (mV rfl (mV rfl (mV rfl (mK (v := .int .i64 (200 - a)) rfl (Br (by omega) (by omega) rfl) (mT rfl (mV rfl (mV rfl (mV rfl (mV rfl (mBk hg (gS rfl) (c := true) rfl rfl rfl (mV rfl (mV rfl (mn ?_)))))))))))))))))))))))))))))))
 exact ExM.ret (A4 trivial rfl rfl 100 rfl rfl)
theorem Gq (hk : Kn W0) {sh : Bz} (ht : cP W0 42 [.str sh] [] (.bool true) []) {a n : Int} (h1 : 0 ≤ a) (h2 : 1 ≤ n) (h3 : a + n ≤ 200) : cP W0 16 [.agg [.int .i64 2, .str sh, .int .i64 a, .int .i64 n, .str []]] [] (.bool true) [] := by
 have hg := grK hk
 refine A3.of_fnM A1i (by simp) rfl ?_
 refine sO (mV (v := .ptr 0 0) rfl (mV rfl (mn (sq (sO (mV rfl (mV rfl (Ek hg gN (c := true) rfl rfl (A3.pure rfl rfl ht _) rfl (mV rfl (mn (cF rfl (kM (sO (mV rfl (mn (sq (sO (mV rfl (mV rfl (mn (bM (sq (bM (sq (bM (sq (bM (sq (sq (sq (sO (mBk hg gN (c := false) rfl rfl rfl (mV rfl (mn (cF rfl (oM (mBk hg gN (c := false) rfl rfl rfl (mV rfl (mn (cF rfl (kM (sq (sq (sO (mBk hg gN (c := false) rfl rfl rfl (mV rfl (mn (cF rfl (oM (mBk hg gN (c := true) rfl rfl rfl (mV rfl (mn (cT rfl ?_)))))))))))))))))))))))))))))))))))))))))))))))))))))
 refine ExM.exit ?_
 refine sq (sO (mV rfl (mV rfl (mT rfl (mV rfl (mV rfl (mV rfl (mV rfl (mT rfl (mV rfl (mV rfl (mV rfl (mV rfl (mT rfl (mV rfl (mV rfl (mV rfl (mV rfl (mV rfl (mV rfl (mV rfl (mK (v := .int .i64 (200 - a)) rfl (Br (by omega) (by omega) rfl) (mT rfl (mV rfl (mV rfl (mV rfl (mV rfl (mBk hg (gS rfl) (c := true) rfl rfl rfl (mV rfl (mV rfl (mn ?_)))))))))))))))))))))))))))))))
 exact ExM.ret (A4 trivial rfl rfl 100 rfl rfl)
theorem Gt (hk : Kn W0) {sh : Bz} (ht : cP W0 42 [.str sh] [] (.bool true) []) {a n : Int} (h1 : 0 ≤ a) (h2 : 1 ≤ n) (h3 : a + n ≤ 52) : cP W0 16 [.agg [.int .i64 3, .str sh, .int .i64 a, .int .i64 n, .str []]] [] (.bool true) [] := by
 have hg := grK hk
 refine A3.of_fnM A1i (by simp) rfl ?_
 refine sO (mV (v := .ptr 0 0) rfl (mV rfl (mn (sq (sO (mV rfl (mV rfl (Ek hg gN (c := true) rfl rfl (A3.pure rfl rfl ht _) rfl (mV rfl (mn (cF rfl (kM (sO (mV rfl (mn (sq (sO (mV rfl (mV rfl (mn (bM (sq (bM (sq (bM (sq (bM (sq (sq (sq (sO (mBk hg gN (c := true) rfl rfl rfl (mV rfl (mn (cT rfl (kM (cT rfl ?_)))))))))))))))))))))))))))))))))))))
 refine ExM.exit ?_
 refine oM (mV rfl (mn (sq (sO (mV rfl (mV rfl (mT rfl (mV rfl (mV rfl (mV rfl (mV rfl (mT rfl (mV rfl (mV rfl (mV rfl (mV rfl (mT rfl (mV rfl (mV rfl (mV rfl (mV rfl (mV rfl (mV rfl (mV rfl (mK (v := .int .i64 (52 - a)) rfl (Br (by omega) (by omega) rfl) (mT rfl (mV rfl (mV rfl (mV rfl (mV rfl (mBk hg (gS rfl) (c := true) rfl rfl rfl (mV rfl (mV rfl (mn ?_))))))))))))))))))))))))))))))))))
 exact ExM.ret (A4 trivial rfl rfl 100 rfl rfl)
theorem Gu (hk : Kn W0) {sh : Bz} (ht : cP W0 42 [.str sh] [] (.bool true) []) {a n : Int} (h1 : 0 ≤ a) (h2 : 1 ≤ n) (h3 : a + n ≤ 52) : cP W0 16 [.agg [.int .i64 4, .str sh, .int .i64 a, .int .i64 n, .str []]] [] (.bool true) [] := by
 have hg := grK hk
 refine A3.of_fnM A1i (by simp) rfl ?_
 refine sO (mV (v := .ptr 0 0) rfl (mV rfl (mn (sq (sO (mV rfl (mV rfl (Ek hg gN (c := true) rfl rfl (A3.pure rfl rfl ht _) rfl (mV rfl (mn (cF rfl (kM (sO (mV rfl (mn (sq (sO (mV rfl (mV rfl (mn (bM (sq (bM (sq (bM (sq (bM (sq (sq (sq (sO (mBk hg gN (c := false) rfl rfl rfl (mV rfl (mn (cF rfl (oM (mBk hg gN (c := true) rfl rfl rfl (mV rfl (mn (cT rfl ?_))))))))))))))))))))))))))))))))))))))))
 refine ExM.exit ?_
 refine oM (mV rfl (mn (sq (sO (mV rfl (mV rfl (mT rfl (mV rfl (mV rfl (mV rfl (mV rfl (mT rfl (mV rfl (mV rfl (mV rfl (mV rfl (mT rfl (mV rfl (mV rfl (mV rfl (mV rfl (mV rfl (mV rfl (mV rfl (mK (v := .int .i64 (52 - a)) rfl (Br (by omega) (by omega) rfl) (mT rfl (mV rfl (mV rfl (mV rfl (mV rfl (mBk hg (gS rfl) (c := true) rfl rfl rfl (mV rfl (mV rfl (mn ?_))))))))))))))))))))))))))))))))))
 exact ExM.ret (A4 trivial rfl rfl 100 rfl rfl)
theorem Bc (hk : Kn W0) {sh : Bz} (ht : cP W0 42 [.str sh] [] (.bool true) []) {nm : Bz} (hn : cP W0 42 [.str nm] [] (.bool true) []) : cP W0 16 [.agg [.int .i64 5, .str sh, .int .i64 0, .int .i64 0, .str nm]] [] (.bool true) [] := by
 have hg := grK hk
 refine A3.of_fnM A1i (by simp) rfl ?_
 refine sO (mV (v := .ptr 0 0) rfl (mV rfl (mn (sq (sO (mV rfl (mV rfl (Ek hg gN (c := true) rfl rfl (A3.pure rfl rfl ht _) rfl (mV rfl (mn (cF rfl (kM (sO (mV rfl (mn (sq (sO (mV rfl (mV rfl (mn (bM (sq (bM (sq (bM (sq (bM (sq (sq (sq (sO (mBk hg gN (c := false) rfl rfl rfl (mV rfl (mn (cF rfl (oM (mBk hg gN (c := false) rfl rfl rfl (mV rfl (mn (cF rfl (kM (sq (sq (sO (mBk hg gN (c := false) rfl rfl rfl (mV rfl (mn (cF rfl (oM (mBk hg gN (c := false) rfl rfl rfl (mV rfl (mn (cF rfl (kM (sO (mBk hg gN (c := true) rfl rfl rfl (mV rfl (mn (cT rfl ?_)))))))))))))))))))))))))))))))))))))))))))))))))))))))))))
 refine ExM.exit ?_
 refine sq (sO (mV rfl (mV rfl (mBk hg gN (c := true) rfl rfl rfl (mV rfl (mV rfl (mV rfl (mBk hg (gS rfl) (c := true) rfl rfl rfl (mV rfl (mV rfl (mV rfl (mV rfl (Ek hg (gS rfl) (c := true) rfl rfl (A3.pure rfl rfl hn _) rfl (mV rfl (mV rfl (mn ?_))))))))))))))))
 exact ExM.ret (A4 trivial rfl rfl 100 rfl rfl)
theorem Gl (hk : Kn W0) {sh : Bz} (ht : cP W0 42 [.str sh] [] (.bool true) [])  : cP W0 16 [.agg [.int .i64 6, .str sh, .int .i64 0, .int .i64 0, .str []]] [] (.bool true) [] := by
 have hg := grK hk
 refine A3.of_fnM A1i (by simp) rfl ?_
 refine sO (mV (v := .ptr 0 0) rfl (mV rfl (mn (sq (sO (mV rfl (mV rfl (Ek hg gN (c := true) rfl rfl (A3.pure rfl rfl ht _) rfl (mV rfl (mn (cF rfl (kM (sO (mV rfl (mn (sq (sO (mV rfl (mV rfl (mn (bM (sq (bM (sq (bM (sq (bM (sq (sq (sq (sO (mBk hg gN (c := false) rfl rfl rfl (mV rfl (mn (cF rfl (oM (mBk hg gN (c := false) rfl rfl rfl (mV rfl (mn (cF rfl (kM (sq (sq (sO (mBk hg gN (c := false) rfl rfl rfl (mV rfl (mn (cF rfl (oM (mBk hg gN (c := false) rfl rfl rfl (mV rfl (mn (cF rfl (kM (sO (mBk hg gN (c := false) rfl rfl rfl (mV rfl (mn (cF rfl (kM ?_))))))))))))))))))))))))))))))))))))))))))))))))))))))))))))
 refine ExM.exit ?_
 refine sO (mV rfl (mV rfl (mBk hg gN (c := true) rfl rfl rfl (mV rfl (mV rfl (mV rfl (mBk hg (gS rfl) (c := true) rfl rfl rfl (mV rfl (mV rfl (mV rfl (mV rfl (mBk hg (gS rfl) (c := true) rfl rfl rfl (mV rfl (mV rfl (mV rfl (mV rfl (mBk hg (gS rfl) (c := true) rfl rfl rfl (mV rfl (mV rfl (mn ?_))))))))))))))))))))
 exact ExM.ret (A4 trivial rfl rfl 100 rfl rfl)
structure Sf (W0 : World) (r : AVal) (j : Nat) (K : Int) (m : Nat) (a n : Int) (nm : Bz) : Prop where
 c : cP W0 9 [r, bkV j] [] (N234 K (ttl m) a n nm) []
 k : 1 ≤ K ∧ K ≤ 6
 r : ∀ sh, cP W0 42 [.str sh] [] (.bool true) [] → cP W0 16 [N234 K sh a n nm] [] (.bool true) []
theorem wrA {x : Nat} (h : x < 100) : IntKind.i64.wrap (1 + (x : Int)) = 1 + (x : Int) := w64 (by omega) (by omega)
theorem Yp (hk : Kn W0) {a1 a2 a3 a4 a5 : Int} {j : Nat} (h1 : i64 a1) (h2 : i64 a2) (h3 : i64 a3) (h4 : i64 a4) (h5 : i64 a5) (hj : j ≤ 2) : ∃ K m a n nm, Sf W0 (C3 a1 a2 a3 a4 a5) j K m a n nm := by
 have hg := grK hk
 have c6 := H9 hg (c := a1) (n := 6) h1.1 h1.2 (by decide)
 have cj := H9 hg (c := a2) (n := j + 1) h2.1 h2.2 (by omega)
 have c13 := H9 hg (c := a3) (n := 13) h3.1 h3.2 (by decide)
 have c7 := H9 hg (c := a3) (n := 7) h3.1 h3.2 (by decide)
 have c5 := H9 hg (c := a4) (n := 5) h4.1 h4.2 (by decide)
 have c3 := H9 hg (c := a4) (n := 3) h4.1 h4.2 (by decide)
 have c4 := H9 hg (c := a5) (n := 4) h5.1 h5.2 (by decide)
 have l6 := Bf (c := a1) (n := 6) (by decide)
 have lj := Bf (c := a2) (n := j + 1) (by omega)
 have l13 := Bf (c := a3) (n := 13) (by decide)
 have l7 := Bf (c := a3) (n := 7) (by decide)
 have l5 := Bf (c := a4) (n := 5) (by decide)
 have l3 := Bf (c := a4) (n := 3) (by decide)
 have l4 := Bf (c := a5) (n := 4) (by decide)
 have w5 := wrA (x := Am a4 5) (by omega)
 have w3 := wrA (x := Am a4 3) (by omega)
 generalize Am a3 13 = x13 at *
 generalize Am a3 7 = x7 at *
 generalize Am a4 5 = x5 at *
 generalize Am a4 3 = x3 at *
 have e6 : Am a1 6 = 0 ∨ Am a1 6 = 1 ∨ Am a1 6 = 2 ∨ Am a1 6 = 3 ∨ Am a1 6 = 4 ∨ Am a1 6 = 5 := by omega
 have e4 : Am a5 4 = 0 ∨ Am a5 4 = 1 ∨ Am a5 4 = 2 ∨ Am a5 4 = 3 := by omega
 have ej : j = 0 ∨ j = 1 ∨ j = 2 := by omega
 generalize Am a1 6 = x6 at *
 generalize Am a5 4 = x4 at *
 generalize Am a2 (j + 1) = xj at *
 rcases ej with rfl | rfl | rfl
 · have em : xj = 0 := by omega
   rcases em with rfl
   · rcases e6 with rfl | rfl | rfl | rfl | rfl | rfl
     · exact ⟨1, 0, (x13 : Nat), 1 + (x5 : Nat), [], by have h := sh000 (a5 := a5) hk c5 c13 cj c6; rw [w5] at h; exact h, by decide, fun sh ht => Gk hk ht (by omega) (by omega) (by omega)⟩
     · exact ⟨2, 0, (x13 : Nat), 1 + (x5 : Nat), [], by have h := sh001 (a5 := a5) hk c5 c13 cj c6; rw [w5] at h; exact h, by decide, fun sh ht => Gq hk ht (by omega) (by omega) (by omega)⟩
     · exact ⟨3, 0, (x7 : Nat), 1 + (x3 : Nat), [], by have h := sh002 (a5 := a5) hk c3 c7 cj c6; rw [w3] at h; exact h, by decide, fun sh ht => Gt hk ht (by omega) (by omega) (by omega)⟩
     · exact ⟨4, 0, (x7 : Nat), 1 + (x3 : Nat), [], by have h := sh003 (a5 := a5) hk c3 c7 cj c6; rw [w3] at h; exact h, by decide, fun sh ht => Gu hk ht (by omega) (by omega) (by omega)⟩
     · rcases e4 with rfl | rfl | rfl | rfl
       · exact ⟨5, 0, 0, 0, [78, 101, 119], sh0040 hk c4 cj c6, by decide, fun sh ht => Bc hk ht (Of hk)⟩
       · exact ⟨5, 0, 0, 0, [105, 116, 39, 115], sh0041 hk c4 cj c6, by decide, fun sh ht => Bc hk ht (Oh hk)⟩
       · exact ⟨5, 0, 0, 0, [115], sh0042 hk c4 cj c6, by decide, fun sh ht => Bc hk ht (O5 hk)⟩
       · exact ⟨5, 0, 0, 0, [116, 119, 111, 32, 88], sh0043 hk c4 cj c6, by decide, fun sh ht => Bc hk ht (Nv hk)⟩
     · exact ⟨6, 0, 0, 0, [], sh005 hk cj c6, by decide, fun sh ht => Gl hk ht⟩
 · have em : xj = 0 ∨ xj = 1 := by omega
   rcases em with rfl | rfl
   · rcases e6 with rfl | rfl | rfl | rfl | rfl | rfl
     · exact ⟨1, 0, (x13 : Nat), 1 + (x5 : Nat), [], by have h := sh100 (a5 := a5) hk c5 c13 cj c6; rw [w5] at h; exact h, by decide, fun sh ht => Gk hk ht (by omega) (by omega) (by omega)⟩
     · exact ⟨2, 0, (x13 : Nat), 1 + (x5 : Nat), [], by have h := sh101 (a5 := a5) hk c5 c13 cj c6; rw [w5] at h; exact h, by decide, fun sh ht => Gq hk ht (by omega) (by omega) (by omega)⟩
     · exact ⟨3, 0, (x7 : Nat), 1 + (x3 : Nat), [], by have h := sh102 (a5 := a5) hk c3 c7 cj c6; rw [w3] at h; exact h, by decide, fun sh ht => Gt hk ht (by omega) (by omega) (by omega)⟩
     · exact ⟨4, 0, (x7 : Nat), 1 + (x3 : Nat), [], by have h := sh103 (a5 := a5) hk c3 c7 cj c6; rw [w3] at h; exact h, by decide, fun sh ht => Gu hk ht (by omega) (by omega) (by omega)⟩
     · rcases e4 with rfl | rfl | rfl | rfl
       · exact ⟨5, 0, 0, 0, [78, 101, 119], sh1040 hk c4 cj c6, by decide, fun sh ht => Bc hk ht (Of hk)⟩
       · exact ⟨5, 0, 0, 0, [105, 116, 39, 115], sh1041 hk c4 cj c6, by decide, fun sh ht => Bc hk ht (Oh hk)⟩
       · exact ⟨5, 0, 0, 0, [115], sh1042 hk c4 cj c6, by decide, fun sh ht => Bc hk ht (O5 hk)⟩
       · exact ⟨5, 0, 0, 0, [116, 119, 111, 32, 88], sh1043 hk c4 cj c6, by decide, fun sh ht => Bc hk ht (Nv hk)⟩
     · exact ⟨6, 0, 0, 0, [], sh105 hk cj c6, by decide, fun sh ht => Gl hk ht⟩
   · rcases e6 with rfl | rfl | rfl | rfl | rfl | rfl
     · exact ⟨1, 1, (x13 : Nat), 1 + (x5 : Nat), [], by have h := sh110 (a5 := a5) hk c5 c13 cj c6; rw [w5] at h; exact h, by decide, fun sh ht => Gk hk ht (by omega) (by omega) (by omega)⟩
     · exact ⟨2, 1, (x13 : Nat), 1 + (x5 : Nat), [], by have h := sh111 (a5 := a5) hk c5 c13 cj c6; rw [w5] at h; exact h, by decide, fun sh ht => Gq hk ht (by omega) (by omega) (by omega)⟩
     · exact ⟨3, 1, (x7 : Nat), 1 + (x3 : Nat), [], by have h := sh112 (a5 := a5) hk c3 c7 cj c6; rw [w3] at h; exact h, by decide, fun sh ht => Gt hk ht (by omega) (by omega) (by omega)⟩
     · exact ⟨4, 1, (x7 : Nat), 1 + (x3 : Nat), [], by have h := sh113 (a5 := a5) hk c3 c7 cj c6; rw [w3] at h; exact h, by decide, fun sh ht => Gu hk ht (by omega) (by omega) (by omega)⟩
     · rcases e4 with rfl | rfl | rfl | rfl
       · exact ⟨5, 1, 0, 0, [78, 101, 119], sh1140 hk c4 cj c6, by decide, fun sh ht => Bc hk ht (Of hk)⟩
       · exact ⟨5, 1, 0, 0, [105, 116, 39, 115], sh1141 hk c4 cj c6, by decide, fun sh ht => Bc hk ht (Oh hk)⟩
       · exact ⟨5, 1, 0, 0, [115], sh1142 hk c4 cj c6, by decide, fun sh ht => Bc hk ht (O5 hk)⟩
       · exact ⟨5, 1, 0, 0, [116, 119, 111, 32, 88], sh1143 hk c4 cj c6, by decide, fun sh ht => Bc hk ht (Nv hk)⟩
     · exact ⟨6, 1, 0, 0, [], sh115 hk cj c6, by decide, fun sh ht => Gl hk ht⟩
 · have em : xj = 0 ∨ xj = 1 ∨ xj = 2 := by omega
   rcases em with rfl | rfl | rfl
   · rcases e6 with rfl | rfl | rfl | rfl | rfl | rfl
     · exact ⟨1, 0, (x13 : Nat), 1 + (x5 : Nat), [], by have h := sh200 (a5 := a5) hk c5 c13 cj c6; rw [w5] at h; exact h, by decide, fun sh ht => Gk hk ht (by omega) (by omega) (by omega)⟩
     · exact ⟨2, 0, (x13 : Nat), 1 + (x5 : Nat), [], by have h := sh201 (a5 := a5) hk c5 c13 cj c6; rw [w5] at h; exact h, by decide, fun sh ht => Gq hk ht (by omega) (by omega) (by omega)⟩
     · exact ⟨3, 0, (x7 : Nat), 1 + (x3 : Nat), [], by have h := sh202 (a5 := a5) hk c3 c7 cj c6; rw [w3] at h; exact h, by decide, fun sh ht => Gt hk ht (by omega) (by omega) (by omega)⟩
     · exact ⟨4, 0, (x7 : Nat), 1 + (x3 : Nat), [], by have h := sh203 (a5 := a5) hk c3 c7 cj c6; rw [w3] at h; exact h, by decide, fun sh ht => Gu hk ht (by omega) (by omega) (by omega)⟩
     · rcases e4 with rfl | rfl | rfl | rfl
       · exact ⟨5, 0, 0, 0, [78, 101, 119], sh2040 hk c4 cj c6, by decide, fun sh ht => Bc hk ht (Of hk)⟩
       · exact ⟨5, 0, 0, 0, [105, 116, 39, 115], sh2041 hk c4 cj c6, by decide, fun sh ht => Bc hk ht (Oh hk)⟩
       · exact ⟨5, 0, 0, 0, [115], sh2042 hk c4 cj c6, by decide, fun sh ht => Bc hk ht (O5 hk)⟩
       · exact ⟨5, 0, 0, 0, [116, 119, 111, 32, 88], sh2043 hk c4 cj c6, by decide, fun sh ht => Bc hk ht (Nv hk)⟩
     · exact ⟨6, 0, 0, 0, [], sh205 hk cj c6, by decide, fun sh ht => Gl hk ht⟩
   · rcases e6 with rfl | rfl | rfl | rfl | rfl | rfl
     · exact ⟨1, 1, (x13 : Nat), 1 + (x5 : Nat), [], by have h := sh210 (a5 := a5) hk c5 c13 cj c6; rw [w5] at h; exact h, by decide, fun sh ht => Gk hk ht (by omega) (by omega) (by omega)⟩
     · exact ⟨2, 1, (x13 : Nat), 1 + (x5 : Nat), [], by have h := sh211 (a5 := a5) hk c5 c13 cj c6; rw [w5] at h; exact h, by decide, fun sh ht => Gq hk ht (by omega) (by omega) (by omega)⟩
     · exact ⟨3, 1, (x7 : Nat), 1 + (x3 : Nat), [], by have h := sh212 (a5 := a5) hk c3 c7 cj c6; rw [w3] at h; exact h, by decide, fun sh ht => Gt hk ht (by omega) (by omega) (by omega)⟩
     · exact ⟨4, 1, (x7 : Nat), 1 + (x3 : Nat), [], by have h := sh213 (a5 := a5) hk c3 c7 cj c6; rw [w3] at h; exact h, by decide, fun sh ht => Gu hk ht (by omega) (by omega) (by omega)⟩
     · rcases e4 with rfl | rfl | rfl | rfl
       · exact ⟨5, 1, 0, 0, [78, 101, 119], sh2140 hk c4 cj c6, by decide, fun sh ht => Bc hk ht (Of hk)⟩
       · exact ⟨5, 1, 0, 0, [105, 116, 39, 115], sh2141 hk c4 cj c6, by decide, fun sh ht => Bc hk ht (Oh hk)⟩
       · exact ⟨5, 1, 0, 0, [115], sh2142 hk c4 cj c6, by decide, fun sh ht => Bc hk ht (O5 hk)⟩
       · exact ⟨5, 1, 0, 0, [116, 119, 111, 32, 88], sh2143 hk c4 cj c6, by decide, fun sh ht => Bc hk ht (Nv hk)⟩
     · exact ⟨6, 1, 0, 0, [], sh215 hk cj c6, by decide, fun sh ht => Gl hk ht⟩
   · rcases e6 with rfl | rfl | rfl | rfl | rfl | rfl
     · exact ⟨1, 2, (x13 : Nat), 1 + (x5 : Nat), [], by have h := sh220 (a5 := a5) hk c5 c13 cj c6; rw [w5] at h; exact h, by decide, fun sh ht => Gk hk ht (by omega) (by omega) (by omega)⟩
     · exact ⟨2, 2, (x13 : Nat), 1 + (x5 : Nat), [], by have h := sh221 (a5 := a5) hk c5 c13 cj c6; rw [w5] at h; exact h, by decide, fun sh ht => Gq hk ht (by omega) (by omega) (by omega)⟩
     · exact ⟨3, 2, (x7 : Nat), 1 + (x3 : Nat), [], by have h := sh222 (a5 := a5) hk c3 c7 cj c6; rw [w3] at h; exact h, by decide, fun sh ht => Gt hk ht (by omega) (by omega) (by omega)⟩
     · exact ⟨4, 2, (x7 : Nat), 1 + (x3 : Nat), [], by have h := sh223 (a5 := a5) hk c3 c7 cj c6; rw [w3] at h; exact h, by decide, fun sh ht => Gu hk ht (by omega) (by omega) (by omega)⟩
     · rcases e4 with rfl | rfl | rfl | rfl
       · exact ⟨5, 2, 0, 0, [78, 101, 119], sh2240 hk c4 cj c6, by decide, fun sh ht => Bc hk ht (Of hk)⟩
       · exact ⟨5, 2, 0, 0, [105, 116, 39, 115], sh2241 hk c4 cj c6, by decide, fun sh ht => Bc hk ht (Oh hk)⟩
       · exact ⟨5, 2, 0, 0, [115], sh2242 hk c4 cj c6, by decide, fun sh ht => Bc hk ht (O5 hk)⟩
       · exact ⟨5, 2, 0, 0, [116, 119, 111, 32, 88], sh2243 hk c4 cj c6, by decide, fun sh ht => Bc hk ht (Nv hk)⟩
     · exact ⟨6, 2, 0, 0, [], sh225 hk cj c6, by decide, fun sh ht => Gl hk ht⟩
def KF7 : AFn := ⟨(sQ [wV 4 (.box 28 0), wV 8 (.move (.val (.str [])))] (.seq (sQ [wV 9 (.fieldAddr 3 4), wV 10 (.load 1 false 9), wV 11 (.bin .quo none 10 (vI 16)), wV 12 (kF 13 [11, (vI 2)]), wV 13 (.bin .eql none 12 (vI 0))] (.cond 13 (sQ [wV 14 (.load 15 true 4), wM 15 1, wM 16 2, wM 17 3, wV 18 (kF 15 [14, 15, 16, 17]), wM 8 18] .ret) .skip)) (sQ [wV 19 (.fieldAddr 10 4), wV 20 (.load 5 true 19), wV 21 (kF 11 [20]), wM 8 21] .ret))), [8], 22⟩
theorem KG7 : Au Tryz.prog 7 = some KF7 := by kernel_rfl
theorem litLeft (hk : Kn W0) {t : Bz} (h : Fo t) : Left W0 t := fun _ _ _ _ _ _ hK hr => Z8 hk h hK hr
theorem tdiv16 {k : Int} (h : i64 k) : IntKind.i64.wrap (k.tdiv 16) = k.tdiv 16 ∧ i64 (k.tdiv 16) := by
 have h1 : (k.tdiv 16).natAbs = k.natAbs / 16 := Int.natAbs_tdiv k 16
 have h2 : -9223372036854775808 ≤ k.tdiv 16 ∧ k.tdiv 16 ≤ 9223372036854775807 := by obtain ⟨_, _⟩ := h; omega
 exact ⟨w64 h2.1 h2.2, h2⟩
theorem side16 : Ae [((1 : Int), 16 * 16)] := ⟨by decide, trivial⟩
theorem Y2 (hk : Kn W0) {vs : Bz} {sn rw cl kd A0 A1 A2 B0 B1 B2 vk vm ve : Int} {vb : Bool} {n : Nat} (hkd : i64 kd) (hA0 : i64 A0) (hA1 : i64 A1) (hA2 : i64 A2) (hB0 : i64 B0) (hB1 : i64 B1) (hB2 : i64 B2) (hvk : i64 vk) (hvm : i64 vm) (hve : i64 ve) (hvs : vs.length ≤ 150000000000000) (hn : 1 ≤ n ∧ n ≤ 3) : Aq Tryz.prog W0 7 [.agg [.int .i64 sn, .int .i64 rw, .int .i64 cl, .int .i64 kd, .int .i64 A0, .int .i64 A1, .int .i64 A2, .int .i64 B0, .int .i64 B1, .int .i64 B2, .int .i64 vk, .int .i64 vm, .int .i64 ve, .str vs, .bool vb], .int .i64 (n : Nat), .bool true, .bool true] (fun v => ∃ t : Bz, v = .str t ∧ Left W0 t ∧ t.length ≤ 1000) := by
 have hg := grK hk
 obtain ⟨hq, hq2⟩ := tdiv16 hkd
 have k2 := Hv hg (c := kd.tdiv 16) (n := 2) hq2.1 hq2.2 (by decide)
 have l2 := Bf (c := kd.tdiv 16) (n := 2) (by decide)
 have : Am (kd.tdiv 16) 2 = 0 ∨ Am (kd.tdiv 16) 2 = 1 := by omega
 rcases this with h | h
 · rw [h] at k2
   obtain ⟨t, c, hl, htl⟩ := A4f hk (vs := vs) (sn := sn) (rw := rw) (cl := cl) (vk := vk) (vm := vm) (ve := ve) (vb := vb) hkd hA0 hA1 hA2 hB0 hB1 hB2 hn
   exact (Aq.of (inF hg hq (fun H => A3.pure rfl rfl k2 H) (fun H => A3.pure rfl rfl c H))).mono fun v hv => ⟨t, hv, hl, htl⟩
 · rw [h] at k2
   refine Aq.of_fnM KG7 (by simp) rfl ?_
   refine sO (mV (v := .ptr 0 0) rfl (mV rfl (mn (sq (sO (mV rfl (mV rfl (mKv hg gN (v := .int .i64 (kd.tdiv 16)) rfl rfl side16 (iE hq) (mC rfl (A3.pure rfl rfl k2 _) (mF rfl (mn (cF rfl (kM (sO (mV rfl (mV rfl ?_))))))))))))))))
   refine Bm hg gN rfl rfl rfl (Lt hk hvk hvm hve hvs) ?_ ?_
   · rintro _ ⟨t, rfl, ht, htl⟩; rfl
   rintro _ ⟨t, rfl, ht, htl⟩
   refine mV rfl (mn ?_)
   exact ExM.ret ⟨_, ⟨t, rfl, litLeft hk ht, htl⟩, A4 trivial rfl rfl 100 rfl rfl⟩
def KF3 : AFn := ⟨(sQ [wV 3 (.box 28 0), wV 4 (.box 30 1), wV 6 (.move (.val (.bool false)))] (sQ [wV 18 (kF 4 []), wM 7 18] (sQ [wM 19 2, wV 20 (kF 5 [19, (vI 3)]), wV 21 (.bin .add none (vI 1) 20), wM 8 21] (sQ [wM 22 8, wV 23 (.bin .sub none 22 (vI 1)), wV 24 (.build [.int .i64 0, .nilSl, .bool false, .bool false, .nilSl] [(0, 1, 23)]), wV 25 (kF 6 [24]), wV 9 (.alloc 38 [.nilSl, .nilSl, .nilSl, .nilSl]), wN (.store 4 9 25)] (sQ [wV 26 (.load 15 true 3), wM 27 8, wV 28 (kF 7 [26, 27, (.val (.bool true)), (.val (.bool true))]), wM 10 28] (sQ [wV 29 (.fieldAddr 0 3), wV 30 (.load 1 false 29), wM 31 8, wV 32 (kF 5 [30, 31]), wV 33 (kF 8 [32]), wM 11 33] (sQ [wV 34 (.load 5 true 4), wV 35 (.load 4 true 9), wV 36 (kF 9 [34, 35]), wV 12 (.alloc 46 [.int .i64 0, .str [], .int .i64 0, .int .i64 0, .str []]), wN (.store 5 12 36)] (sQ [wV 37 (.fieldAddr 1 12), wN (.store 1 37 (.val (.str [101, 108, 115, 101, 119, 104, 101, 114, 101])))] (sQ [wM 39 10, wM 40 11, wV 41 (.load 5 true 12), wV 42 (kF 10 [39, 40, 41]), wM 38 42, wV 43 (.extract 38 0), wV 44 (.extract 38 1), wM 13 43, wM 14 44] (sQ [wV 45 (.fieldAddr 10 3), wV 46 (.load 5 true 45), wV 47 (kF 11 [46]), wM 15 47] (sQ [wM 49 15, wM 50 11, wV 51 (.load 5 true 4), wV 52 (.load 4 true 9), wV 53 (kF 9 [51, 52]), wV 54 (kF 10 [49, 50, 53]), wM 48 54, wV 55 (.extract 48 0), wV 56 (.extract 48 1), wM 16 55, wM 17 56] (sQ [wM 57 7, wM 58 57, wT 59 58 (.move 14), wT 60 58 (.bin .eql none 59 (vI 0)), wV 61 (.pick 58 60 (.val (.bool false))), wM 62 61, wT 63 62 (.move 13), wT 64 62 (.move 10), wT 65 62 (.bin .eql none 63 64), wV 66 (.pick 62 65 (.val (.bool false))), wM 67 66, wT 68 67 (.move 17), wT 69 67 (.bin .eql none 68 (vI 0)), wV 70 (.pick 67 69 (.val (.bool false))), wM 71 70, wT 72 71 (.move 16), wT 73 71 (.move 15), wT 74 71 (.bin .eql none 72 73), wV 75 (.pick 71 74 (.val (.bool false))), wM 6 75] .ret)))))))))))), [6], 76⟩
theorem KG3 : Au Tryz.prog 3 = some KF3 := by kernel_rfl
theorem Yb (hk : Kn W0) {vs : Bz} {sn rw cl kd A0 A1 A2 B0 B1 B2 vk vm ve y1 y2 y3 y4 y5 S : Int} {vb : Bool} (hsn : i64 sn) (hkd : i64 kd) (hA0 : i64 A0) (hA1 : i64 A1) (hA2 : i64 A2) (hB0 : i64 B0) (hB1 : i64 B1) (hB2 : i64 B2) (hvk : i64 vk) (hvm : i64 vm) (hve : i64 ve) (h1 : i64 y1) (h2 : i64 y2) (h3 : i64 y3) (h4 : i64 y4) (h5 : i64 y5) (hS : i64 S) (hvs : vs.length ≤ 150000000000000) : Aq Tryz.prog W0 3 [.agg [.int .i64 sn, .int .i64 rw, .int .i64 cl, .int .i64 kd, .int .i64 A0, .int .i64 A1, .int .i64 A2, .int .i64 B0, .int .i64 B1, .int .i64 B2, .int .i64 vk, .int .i64 vm, .int .i64 ve, .str vs, .bool vb], C3 y1 y2 y3 y4 y5, .int .i64 S] (fun v => v = .bool true) := by
 have hg := grK hk
 have kS := H9 hg (c := S) (n := 3) hS.1 hS.2 (by decide)
 have lS := Bf (c := S) (n := 3) (by decide)
 have eS : Am S 3 = 0 ∨ Am S 3 = 1 ∨ Am S 3 = 2 := by omega
 rcases eS with e | e | e
 · rw [e] at kS
   have kO := H9 hg (c := sn) (n := 1) hsn.1 hsn.2 (by decide)
   have lO := Bf (c := sn) (n := 1) (by decide)
   have hT := Uo hk (a := ((Am sn 1 : Nat) : Int)) ⟨by omega, by omega⟩
   obtain ⟨K, m, a, n, nm, hs⟩ := Yp hk (j := 0) h1 h2 h3 h4 h5 (by decide)
   refine Aq.of_fnM KG3 (by simp) rfl ?_
   refine sO (mV (v := .ptr 0 0) rfl (mV (v := .ptr 1 0) rfl (mV rfl (mn (sO (Ek hg gN (c := true) rfl rfl (A3.pure rfl rfl (A2l hk).2.2 _) rfl (mV rfl (mn (sO (mV rfl (mC rfl (A3.pure rfl rfl kS _) (mKs (v := .int .i64 1) rfl rfl (mV rfl (mn (sO (mV rfl (mK (v := .int .i64 0) rfl rfl (mV rfl (mC rfl (A3.pure rfl rfl (bk0 hk) _) (mV (v := .ptr 2 0) rfl (Ai hg gN rfl (mn (sO (mV rfl (mV rfl ?_)))))))))))))))))))))))))
   refine Bm hg gN rfl rfl rfl (Y2 hk (n := 1) hkd hA0 hA1 hA2 hB0 hB1 hB2 hvk hvm hve hvs (by decide)) ?_ ?_
   · rintro _ ⟨tin, rfl, hl, htl⟩; rfl
   rintro _ ⟨tin, rfl, hl, htl⟩
   refine mV rfl (mn (sO (mV rfl (mV rfl (mV rfl (mC rfl (A3.pure rfl rfl kO _) (mC rfl (A3.pure rfl rfl hT _) (mV rfl (mn (sO (mV rfl (mV rfl (mC rfl (A3.pure rfl rfl hs.c _) (mV (v := .ptr 3 0) rfl (Ai hg gN rfl (mn (sO (mV rfl (Ai hg gN rfl (mn (sO (mV rfl (mV rfl (mV rfl (mC rfl (A3.pure rfl rfl (hl _ _ _ _ _ (F6 _) hs.k (hs.r _ (Xi hk))) _) (mV rfl (mV rfl (mV rfl (mV rfl (mV rfl (mn (sO (mV rfl (mV rfl ?_))))))))))))))))))))))))))))))))))
   refine Bm hg gN rfl rfl rfl (Lt hk hvk hvm hve hvs) ?_ ?_
   · rintro _ ⟨lt, rfl, hlt, hltl⟩; rfl
   rintro _ ⟨lt, rfl, hlt, hltl⟩
   refine mV rfl (mn (sO (mV rfl (mV rfl (mV rfl (mV rfl (mC rfl (A3.pure rfl rfl hs.c _) (mC rfl (A3.pure rfl rfl (Z8 hk hlt hs.k (hs.r _ (tlT hk _))) _) (mV rfl (mV rfl (mV rfl (mV rfl (mV rfl (mn (sO (mV rfl (mV rfl (mV rfl (mBk hg (gS rfl) (c := true) rfl rfl rfl (mV rfl (mV rfl (mV rfl (mV rfl (mBk hg (gS rfl) (c := true) rfl rfl (beq_self_eq_true _) (mV rfl (mV rfl (mV rfl (mBk hg (gS rfl) (c := true) rfl rfl rfl (mV rfl (mV rfl (mV rfl (mV rfl (mBk hg (gS rfl) (c := true) rfl rfl (beq_self_eq_true _) (mV rfl (mV rfl (mn ?_))))))))))))))))))))))))))))))))))))
   exact ExM.ret ⟨_, rfl, A4 trivial rfl rfl 100 rfl rfl⟩
 · rw [e] at kS
   have kO := H9 hg (c := sn) (n := 2) hsn.1 hsn.2 (by decide)
   have lO := Bf (c := sn) (n := 2) (by decide)
   have hT := Uo hk (a := ((Am sn 2 : Nat) : Int)) ⟨by omega, by omega⟩
   obtain ⟨K, m, a, n, nm, hs⟩ := Yp hk (j := 1) h1 h2 h3 h4 h5 (by decide)
   refine Aq.of_fnM KG3 (by simp) rfl ?_
   refine sO (mV (v := .ptr 0 0) rfl (mV (v := .ptr 1 0) rfl (mV rfl (mn (sO (Ek hg gN (c := true) rfl rfl (A3.pure rfl rfl (A2l hk).2.2 _) rfl (mV rfl (mn (sO (mV rfl (mC rfl (A3.pure rfl rfl kS _) (mKs (v := .int .i64 2) rfl rfl (mV rfl (mn (sO (mV rfl (mK (v := .int .i64 1) rfl rfl (mV rfl (mC rfl (A3.pure rfl rfl (bk1 hk) _) (mV (v := .ptr 2 0) rfl (Ai hg gN rfl (mn (sO (mV rfl (mV rfl ?_)))))))))))))))))))))))))
   refine Bm hg gN rfl rfl rfl (Y2 hk (n := 2) hkd hA0 hA1 hA2 hB0 hB1 hB2 hvk hvm hve hvs (by decide)) ?_ ?_
   · rintro _ ⟨tin, rfl, hl, htl⟩; rfl
   rintro _ ⟨tin, rfl, hl, htl⟩
   refine mV rfl (mn (sO (mV rfl (mV rfl (mV rfl (mC rfl (A3.pure rfl rfl kO _) (mC rfl (A3.pure rfl rfl hT _) (mV rfl (mn (sO (mV rfl (mV rfl (mC rfl (A3.pure rfl rfl hs.c _) (mV (v := .ptr 3 0) rfl (Ai hg gN rfl (mn (sO (mV rfl (Ai hg gN rfl (mn (sO (mV rfl (mV rfl (mV rfl (mC rfl (A3.pure rfl rfl (hl _ _ _ _ _ (F6 _) hs.k (hs.r _ (Xi hk))) _) (mV rfl (mV rfl (mV rfl (mV rfl (mV rfl (mn (sO (mV rfl (mV rfl ?_))))))))))))))))))))))))))))))))))
   refine Bm hg gN rfl rfl rfl (Lt hk hvk hvm hve hvs) ?_ ?_
   · rintro _ ⟨lt, rfl, hlt, hltl⟩; rfl
   rintro _ ⟨lt, rfl, hlt, hltl⟩
   refine mV rfl (mn (sO (mV rfl (mV rfl (mV rfl (mV rfl (mC rfl (A3.pure rfl rfl hs.c _) (mC rfl (A3.pure rfl rfl (Z8 hk hlt hs.k (hs.r _ (tlT hk _))) _) (mV rfl (mV rfl (mV rfl (mV rfl (mV rfl (mn (sO (mV rfl (mV rfl (mV rfl (mBk hg (gS rfl) (c := true) rfl rfl rfl (mV rfl (mV rfl (mV rfl (mV rfl (mBk hg (gS rfl) (c := true) rfl rfl (beq_self_eq_true _) (mV rfl (mV rfl (mV rfl (mBk hg (gS rfl) (c := true) rfl rfl rfl (mV rfl (mV rfl (mV rfl (mV rfl (mBk hg (gS rfl) (c := true) rfl rfl (beq_self_eq_true _) (mV rfl (mV rfl (mn ?_))))))))))))))))))))))))))))))))))))
   exact ExM.ret ⟨_, rfl, A4 trivial rfl rfl 100 rfl rfl⟩
 · rw [e] at kS
   have kO := H9 hg (c := sn) (n := 3) hsn.1 hsn.2 (by decide)
   have lO := Bf (c := sn) (n := 3) (by decide)
   have hT := Uo hk (a := ((Am sn 3 : Nat) : Int)) ⟨by omega, by omega⟩
   obtain ⟨K, m, a, n, nm, hs⟩ := Yp hk (j := 2) h1 h2 h3 h4 h5 (by decide)
   refine Aq.of_fnM KG3 (by simp) rfl ?_
   refine sO (mV (v := .ptr 0 0) rfl (mV (v := .ptr 1 0) rfl (mV rfl (mn (sO (Ek hg gN (c := true) rfl rfl (A3.pure rfl rfl (A2l hk).2.2 _) rfl (mV rfl (mn (sO (mV rfl (mC rfl (A3.pure rfl rfl kS _) (mKs (v := .int .i64 3) rfl rfl (mV rfl (mn (sO (mV rfl (mK (v := .int .i64 2) rfl rfl (mV rfl (mC rfl (A3.pure rfl rfl (bk2 hk) _) (mV (v := .ptr 2 0) rfl (Ai hg gN rfl (mn (sO (mV rfl (mV rfl ?_)))))))))))))))))))))))))
   refine Bm hg gN rfl rfl rfl (Y2 hk (n := 3) hkd hA0 hA1 hA2 hB0 hB1 hB2 hvk hvm hve hvs (by decide)) ?_ ?_
   · rintro _ ⟨tin, rfl, hl, htl⟩; rfl
   rintro _ ⟨tin, rfl, hl, htl⟩
   refine mV rfl (mn (sO (mV rfl (mV rfl (mV rfl (mC rfl (A3.pure rfl rfl kO _) (mC rfl (A3.pure rfl rfl hT _) (mV rfl (mn (sO (mV rfl (mV rfl (mC rfl (A3.pure rfl rfl hs.c _) (mV (v := .ptr 3 0) rfl (Ai hg gN rfl (mn (sO (mV rfl (Ai hg gN rfl (mn (sO (mV rfl (mV rfl (mV rfl (mC rfl (A3.pure rfl rfl (hl _ _ _ _ _ (F6 _) hs.k (hs.r _ (Xi hk))) _) (mV rfl (mV rfl (mV rfl (mV rfl (mV rfl (mn (sO (mV rfl (mV rfl ?_))))))))))))))))))))))))))))))))))
   refine Bm hg gN rfl rfl rfl (Lt hk hvk hvm hve hvs) ?_ ?_
   · rintro _ ⟨lt, rfl, hlt, hltl⟩; rfl
   rintro _ ⟨lt, rfl, hlt, hltl⟩
   refine mV rfl (mn (sO (mV rfl (mV rfl (mV rfl (mV rfl (mC rfl (A3.pure rfl rfl hs.c _) (mC rfl (A3.pure rfl rfl (Z8 hk hlt hs.k (hs.r _ (tlT hk _))) _) (mV rfl (mV rfl (mV rfl (mV rfl (mV rfl (mn (sO (mV rfl (mV rfl (mV rfl (mBk hg (gS rfl) (c := true) rfl rfl rfl (mV rfl (mV rfl (mV rfl (mV rfl (mBk hg (gS rfl) (c := true) rfl rfl (beq_self_eq_true _) (mV rfl (mV rfl (mV rfl (mBk hg (gS rfl) (c := true) rfl rfl rfl (mV rfl (mV rfl (mV rfl (mV rfl (mBk hg (gS rfl) (c := true) rfl rfl (beq_self_eq_true _) (mV rfl (mV rfl (mn ?_))))))))))))))))))))))))))))))))))))
   exact ExM.ret ⟨_, rfl, A4 trivial rfl rfl 100 rfl rfl⟩
end Go.Abs
