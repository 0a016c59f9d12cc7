/- A part of the proof that tabula/tabulalaw17.ShiftElse returns true for every input, each argument reading as it did (its card: the last text). No conditions of its own. -/
import Derived.Test.YtanjcjdiabfggaaGreatDoorPF
namespace Go.Abs
open Go.Proofs Go.RowKit
set_option maxRecDepth 100000
variable {W0 : World}
structure Af (W0 : World) (p sh : Bz) (row col : Int) (fr fc : Bool) : Prop where
 lex : R2 W0 p
 len : 0 < p.length
 h32 : p.getD 0 0 ≠ 32
 asc : asc p = true
 short : p.length ≤ 20
 rd : cP W0 172 [.str p] [] (Dm sh row col fr fc) []
 right : cP W0 58 [Ag sh row col fr fc] [] (.bool true) []
theorem nmR {w : Bz} (h : B8 Tryz.prog W0 ⟨172, [.str w], Fe⟩) : Ff W0 w false := ⟨[], 0, 0, false, false, false, 20, h.2.2, rfl⟩
theorem dgR {w : Bz} {M : Int} (h : B8 Tryz.prog W0 ⟨157, [.str w], .tup [.agg [jI M, zI], zI]⟩) : ∀ H, cP W0 157 [.str w] H (.tup [.agg [jI M, zI], zI]) H := fun H => A3.pure h.1 h.2.1 h.2.2 H
def bd0 (p : Bz) : Bz := (p ++ (43 :: (49 :: [])))
def tk0 (p : Bz) : List Tk := [⟨5, p, 0⟩, ⟨8, [43], (0 + p.length)⟩, ⟨1, [49], ((0 + p.length) + 1)⟩]
theorem lx0 (hk : Kn W0) {p : Bz} {sp : Bz} {rp cp : Int} {frp fcp : Bool} (hp : Af W0 p sp rp cp frp fcp) (ha : asc (bd0 p) = true) (hl : (bd0 p).length ≤ 1000000) : Lx W0 (bd0 p) 0 (tk0 p) := by
 have a0 := At.zero ha hl
 have a1 := At.step (w := p) a0
 have a2 := At.step (w := [43]) a1
 have a3 := At.step (w := [49]) a2
 exact Ef hp.lex hp.len hp.h32 a0 rfl (Ax hk (k := 7) a1 rfl rfl (J7 hk (dgR (Rn hk)) rfl rfl a2 rfl rfl (Lx.end a3)))
def bd1 (p q : Bz) : Bz := (p ++ (42 :: (q ++ [])))
def tk1 (p q : Bz) : List Tk := [⟨5, p, 0⟩, ⟨8, [42], (0 + p.length)⟩, ⟨5, q, ((0 + p.length) + 1)⟩]
theorem lx1 (hk : Kn W0) {p q : Bz} {sp : Bz} {rp cp : Int} {frp fcp : Bool} (hp : Af W0 p sp rp cp frp fcp) {sq : Bz} {rq cq : Int} {frq fcq : Bool} (hq : Af W0 q sq rq cq frq fcq) (ha : asc (bd1 p q) = true) (hl : (bd1 p q).length ≤ 1000000) : Lx W0 (bd1 p q) 0 (tk1 p q) := by
 have a0 := At.zero ha hl
 have a1 := At.step (w := p) a0
 have a2 := At.step (w := [42]) a1
 have a3 := At.step (w := q) a2
 exact Ef hp.lex hp.len hp.h32 a0 rfl (Ax hk (k := 9) a1 rfl rfl (Ef hq.lex hq.len hq.h32 a2 rfl (Lx.end a3)))
def bd2 (p u : Bz) : Bz := (83 :: 85 :: 77 :: (40 :: (p ++ (58 :: (u ++ (41 :: []))))))
def tk2 (p u : Bz) : List Tk := [⟨7, [83, 85, 77], 0⟩, ⟨8, [40], (0 + 3)⟩, ⟨5, p, ((0 + 3) + 1)⟩, ⟨8, [58], (((0 + 3) + 1) + p.length)⟩, ⟨5, u, ((((0 + 3) + 1) + p.length) + 1)⟩, ⟨8, [41], (((((0 + 3) + 1) + p.length) + 1) + u.length)⟩]
theorem lx2 (hk : Kn W0) {p u : Bz} {sp : Bz} {rp cp : Int} {frp fcp : Bool} (hp : Af W0 p sp rp cp frp fcp) {su : Bz} {ru cu : Int} {fru fcu : Bool} (hu : Af W0 u su ru cu fru fcu) (ha : asc (bd2 p u) = true) (hl : (bd2 p u).length ≤ 1000000) : Lx W0 (bd2 p u) 0 (tk2 p u) := by
 have a0 := At.zero ha hl
 have a1 := At.step (w := [83, 85, 77]) a0
 have a2 := At.step (w := [40]) a1
 have a3 := At.step (w := p) a2
 have a4 := At.step (w := [58]) a3
 have a5 := At.step (w := u) a4
 have a6 := At.step (w := [41]) a5
 exact I4 hk a0 rfl rfl rfl rfl (Ax hk (k := 13) a1 rfl rfl (Ef hp.lex hp.len hp.h32 a2 rfl (Ax hk (k := 17) a3 rfl rfl (Ef hu.lex hu.len hu.h32 a4 rfl (Ax hk (k := 14) a5 rfl rfl (Lx.end a6))))))
def bd3 (p q : Bz) : Bz := (73 :: 70 :: (40 :: (p ++ (62 :: (50 :: (44 :: (q ++ (44 :: (48 :: (41 :: []))))))))))
def tk3 (p q : Bz) : List Tk := [⟨7, [73, 70], 0⟩, ⟨8, [40], (0 + 2)⟩, ⟨5, p, ((0 + 2) + 1)⟩, ⟨8, [62], (((0 + 2) + 1) + p.length)⟩, ⟨1, [50], ((((0 + 2) + 1) + p.length) + 1)⟩, ⟨8, [44], (((((0 + 2) + 1) + p.length) + 1) + 1)⟩, ⟨5, q, ((((((0 + 2) + 1) + p.length) + 1) + 1) + 1)⟩, ⟨8, [44], (((((((0 + 2) + 1) + p.length) + 1) + 1) + 1) + q.length)⟩, ⟨1, [48], ((((((((0 + 2) + 1) + p.length) + 1) + 1) + 1) + q.length) + 1)⟩, ⟨8, [41], (((((((((0 + 2) + 1) + p.length) + 1) + 1) + 1) + q.length) + 1) + 1)⟩]
theorem lx3 (hk : Kn W0) {p q : Bz} {sp : Bz} {rp cp : Int} {frp fcp : Bool} (hp : Af W0 p sp rp cp frp fcp) {sq : Bz} {rq cq : Int} {frq fcq : Bool} (hq : Af W0 q sq rq cq frq fcq) (ha : asc (bd3 p q) = true) (hl : (bd3 p q).length ≤ 1000000) : Lx W0 (bd3 p q) 0 (tk3 p q) := by
 have a0 := At.zero ha hl
 have a1 := At.step (w := [73, 70]) a0
 have a2 := At.step (w := [40]) a1
 have a3 := At.step (w := p) a2
 have a4 := At.step (w := [62]) a3
 have a5 := At.step (w := [50]) a4
 have a6 := At.step (w := [44]) a5
 have a7 := At.step (w := q) a6
 have a8 := At.step (w := [44]) a7
 have a9 := At.step (w := [48]) a8
 have a10 := At.step (w := [41]) a9
 exact I4 hk a0 rfl rfl rfl rfl (Ax hk (k := 13) a1 rfl rfl (Ef hp.lex hp.len hp.h32 a2 rfl (Ax hk (k := 5) a3 rfl rfl (J7 hk (dgR (A0g hk)) rfl rfl a4 rfl rfl (Ax hk (k := 15) a5 rfl rfl (Ef hq.lex hq.len hq.h32 a6 rfl (Ax hk (k := 15) a7 rfl rfl (J7 hk (dgR (dgk1 hk)) rfl rfl a8 rfl rfl (Ax hk (k := 14) a9 rfl rfl (Lx.end a10))))))))))
def bd4 (p : Bz) : Bz := (123 :: (49 :: (44 :: (50 :: (59 :: (51 :: (44 :: (52 :: (125 :: (43 :: (p ++ [])))))))))))
def tk4 (p : Bz) : List Tk := [⟨8, [123], 0⟩, ⟨1, [49], (0 + 1)⟩, ⟨8, [44], ((0 + 1) + 1)⟩, ⟨1, [50], (((0 + 1) + 1) + 1)⟩, ⟨8, [59], ((((0 + 1) + 1) + 1) + 1)⟩, ⟨1, [51], (((((0 + 1) + 1) + 1) + 1) + 1)⟩, ⟨8, [44], ((((((0 + 1) + 1) + 1) + 1) + 1) + 1)⟩, ⟨1, [52], (((((((0 + 1) + 1) + 1) + 1) + 1) + 1) + 1)⟩, ⟨8, [125], ((((((((0 + 1) + 1) + 1) + 1) + 1) + 1) + 1) + 1)⟩, ⟨8, [43], (((((((((0 + 1) + 1) + 1) + 1) + 1) + 1) + 1) + 1) + 1)⟩, ⟨5, p, ((((((((((0 + 1) + 1) + 1) + 1) + 1) + 1) + 1) + 1) + 1) + 1)⟩]
theorem lx4 (hk : Kn W0) {p : Bz} {sp : Bz} {rp cp : Int} {frp fcp : Bool} (hp : Af W0 p sp rp cp frp fcp) (ha : asc (bd4 p) = true) (hl : (bd4 p).length ≤ 1000000) : Lx W0 (bd4 p) 0 (tk4 p) := by
 have a0 := At.zero ha hl
 have a1 := At.step (w := [123]) a0
 have a2 := At.step (w := [49]) a1
 have a3 := At.step (w := [44]) a2
 have a4 := At.step (w := [50]) a3
 have a5 := At.step (w := [59]) a4
 have a6 := At.step (w := [51]) a5
 have a7 := At.step (w := [44]) a6
 have a8 := At.step (w := [52]) a7
 have a9 := At.step (w := [125]) a8
 have a10 := At.step (w := [43]) a9
 have a11 := At.step (w := p) a10
 exact Ax hk (k := 18) a0 rfl rfl (J7 hk (dgR (Rn hk)) rfl rfl a1 rfl rfl (Ax hk (k := 15) a2 rfl rfl (J7 hk (dgR (A0g hk)) rfl rfl a3 rfl rfl (Ax hk (k := 16) a4 rfl rfl (J7 hk (dgR (dgk7 hk)) rfl rfl a5 rfl rfl (Ax hk (k := 15) a6 rfl rfl (J7 hk (dgR (dgk9 hk)) rfl rfl a7 rfl rfl (Ax hk (k := 19) a8 rfl rfl (Ax hk (k := 7) a9 rfl rfl (Ef hp.lex hp.len hp.h32 a10 rfl (Lx.end a11)))))))))))
def bd5 (p u : Bz) : Bz := (p ++ (58 :: (u ++ (42 :: (50 :: [])))))
def tk5 (p u : Bz) : List Tk := [⟨5, p, 0⟩, ⟨8, [58], (0 + p.length)⟩, ⟨5, u, ((0 + p.length) + 1)⟩, ⟨8, [42], (((0 + p.length) + 1) + u.length)⟩, ⟨1, [50], ((((0 + p.length) + 1) + u.length) + 1)⟩]
theorem lx5 (hk : Kn W0) {p u : Bz} {sp : Bz} {rp cp : Int} {frp fcp : Bool} (hp : Af W0 p sp rp cp frp fcp) {su : Bz} {ru cu : Int} {fru fcu : Bool} (hu : Af W0 u su ru cu fru fcu) (ha : asc (bd5 p u) = true) (hl : (bd5 p u).length ≤ 1000000) : Lx W0 (bd5 p u) 0 (tk5 p u) := by
 have a0 := At.zero ha hl
 have a1 := At.step (w := p) a0
 have a2 := At.step (w := [58]) a1
 have a3 := At.step (w := u) a2
 have a4 := At.step (w := [42]) a3
 have a5 := At.step (w := [50]) a4
 exact Ef hp.lex hp.len hp.h32 a0 rfl (Ax hk (k := 17) a1 rfl rfl (Ef hu.lex hu.len hu.h32 a2 rfl (Ax hk (k := 9) a3 rfl rfl (J7 hk (dgR (A0g hk)) rfl rfl a4 rfl rfl (Lx.end a5)))))
def bd6 (p q : Bz) : Bz := (76 :: 69 :: 84 :: (40 :: (120 :: (44 :: (p ++ (44 :: (120 :: (42 :: (120 :: (45 :: (q ++ (41 :: []))))))))))))
def tk6 (p q : Bz) : List Tk := [⟨7, [76, 69, 84], 0⟩, ⟨8, [40], (0 + 3)⟩, ⟨6, [120], ((0 + 3) + 1)⟩, ⟨8, [44], (((0 + 3) + 1) + 1)⟩, ⟨5, p, ((((0 + 3) + 1) + 1) + 1)⟩, ⟨8, [44], (((((0 + 3) + 1) + 1) + 1) + p.length)⟩, ⟨6, [120], ((((((0 + 3) + 1) + 1) + 1) + p.length) + 1)⟩, ⟨8, [42], (((((((0 + 3) + 1) + 1) + 1) + p.length) + 1) + 1)⟩, ⟨6, [120], ((((((((0 + 3) + 1) + 1) + 1) + p.length) + 1) + 1) + 1)⟩, ⟨8, [45], (((((((((0 + 3) + 1) + 1) + 1) + p.length) + 1) + 1) + 1) + 1)⟩, ⟨5, q, ((((((((((0 + 3) + 1) + 1) + 1) + p.length) + 1) + 1) + 1) + 1) + 1)⟩, ⟨8, [41], (((((((((((0 + 3) + 1) + 1) + 1) + p.length) + 1) + 1) + 1) + 1) + 1) + q.length)⟩]
theorem lx6 (hk : Kn W0) {p q : Bz} {sp : Bz} {rp cp : Int} {frp fcp : Bool} (hp : Af W0 p sp rp cp frp fcp) {sq : Bz} {rq cq : Int} {frq fcq : Bool} (hq : Af W0 q sq rq cq frq fcq) (ha : asc (bd6 p q) = true) (hl : (bd6 p q).length ≤ 1000000) : Lx W0 (bd6 p q) 0 (tk6 p q) := by
 have a0 := At.zero ha hl
 have a1 := At.step (w := [76, 69, 84]) a0
 have a2 := At.step (w := [40]) a1
 have a3 := At.step (w := [120]) a2
 have a4 := At.step (w := [44]) a3
 have a5 := At.step (w := p) a4
 have a6 := At.step (w := [44]) a5
 have a7 := At.step (w := [120]) a6
 have a8 := At.step (w := [42]) a7
 have a9 := At.step (w := [120]) a8
 have a10 := At.step (w := [45]) a9
 have a11 := At.step (w := q) a10
 have a12 := At.step (w := [41]) a11
 exact I4 hk a0 rfl rfl rfl rfl (Ax hk (k := 13) a1 rfl rfl (I3 hk (w := []) a2 rfl rfl rfl rfl rfl (nmR (nmk1 hk)) rfl (Ax hk (k := 15) a3 rfl rfl (Ef hp.lex hp.len hp.h32 a4 rfl (Ax hk (k := 15) a5 rfl rfl (I3 hk (w := []) a6 rfl rfl rfl rfl rfl (nmR (nmk1 hk)) rfl (Ax hk (k := 9) a7 rfl rfl (I3 hk (w := []) a8 rfl rfl rfl rfl rfl (nmR (nmk1 hk)) rfl (Ax hk (k := 8) a9 rfl rfl (Ef hq.lex hq.len hq.h32 a10 rfl (Ax hk (k := 14) a11 rfl rfl (Lx.end a12))))))))))))
def bd7 (p : Bz) : Bz := (76 :: 69 :: 84 :: (40 :: (102 :: (44 :: (76 :: 65 :: 77 :: 66 :: 68 :: 65 :: (40 :: (110 :: (44 :: (73 :: 70 :: (40 :: (110 :: (60 :: (49 :: (44 :: (49 :: (44 :: (110 :: (42 :: (102 :: (40 :: (110 :: (45 :: (49 :: (41 :: (41 :: (41 :: (44 :: (102 :: (40 :: (p ++ (41 :: (41 :: []))))))))))))))))))))))))))))))))
def tk7 (p : Bz) : List Tk := [⟨7, [76, 69, 84], 0⟩, ⟨8, [40], (0 + 3)⟩, ⟨6, [102], ((0 + 3) + 1)⟩, ⟨8, [44], (((0 + 3) + 1) + 1)⟩, ⟨7, [76, 65, 77, 66, 68, 65], ((((0 + 3) + 1) + 1) + 1)⟩, ⟨8, [40], (((((0 + 3) + 1) + 1) + 1) + 6)⟩, ⟨6, [110], ((((((0 + 3) + 1) + 1) + 1) + 6) + 1)⟩, ⟨8, [44], (((((((0 + 3) + 1) + 1) + 1) + 6) + 1) + 1)⟩, ⟨7, [73, 70], ((((((((0 + 3) + 1) + 1) + 1) + 6) + 1) + 1) + 1)⟩, ⟨8, [40], (((((((((0 + 3) + 1) + 1) + 1) + 6) + 1) + 1) + 1) + 2)⟩, ⟨6, [110], ((((((((((0 + 3) + 1) + 1) + 1) + 6) + 1) + 1) + 1) + 2) + 1)⟩, ⟨8, [60], (((((((((((0 + 3) + 1) + 1) + 1) + 6) + 1) + 1) + 1) + 2) + 1) + 1)⟩, ⟨1, [49], ((((((((((((0 + 3) + 1) + 1) + 1) + 6) + 1) + 1) + 1) + 2) + 1) + 1) + 1)⟩, ⟨8, [44], (((((((((((((0 + 3) + 1) + 1) + 1) + 6) + 1) + 1) + 1) + 2) + 1) + 1) + 1) + 1)⟩, ⟨1, [49], ((((((((((((((0 + 3) + 1) + 1) + 1) + 6) + 1) + 1) + 1) + 2) + 1) + 1) + 1) + 1) + 1)⟩, ⟨8, [44], (((((((((((((((0 + 3) + 1) + 1) + 1) + 6) + 1) + 1) + 1) + 2) + 1) + 1) + 1) + 1) + 1) + 1)⟩, ⟨6, [110], ((((((((((((((((0 + 3) + 1) + 1) + 1) + 6) + 1) + 1) + 1) + 2) + 1) + 1) + 1) + 1) + 1) + 1) + 1)⟩, ⟨8, [42], (((((((((((((((((0 + 3) + 1) + 1) + 1) + 6) + 1) + 1) + 1) + 2) + 1) + 1) + 1) + 1) + 1) + 1) + 1) + 1)⟩, ⟨7, [102], ((((((((((((((((((0 + 3) + 1) + 1) + 1) + 6) + 1) + 1) + 1) + 2) + 1) + 1) + 1) + 1) + 1) + 1) + 1) + 1) + 1)⟩, ⟨8, [40], (((((((((((((((((((0 + 3) + 1) + 1) + 1) + 6) + 1) + 1) + 1) + 2) + 1) + 1) + 1) + 1) + 1) + 1) + 1) + 1) + 1) + 1)⟩, ⟨6, [110], ((((((((((((((((((((0 + 3) + 1) + 1) + 1) + 6) + 1) + 1) + 1) + 2) + 1) + 1) + 1) + 1) + 1) + 1) + 1) + 1) + 1) + 1) + 1)⟩, ⟨8, [45], (((((((((((((((((((((0 + 3) + 1) + 1) + 1) + 6) + 1) + 1) + 1) + 2) + 1) + 1) + 1) + 1) + 1) + 1) + 1) + 1) + 1) + 1) + 1) + 1)⟩, ⟨1, [49], ((((((((((((((((((((((0 + 3) + 1) + 1) + 1) + 6) + 1) + 1) + 1) + 2) + 1) + 1) + 1) + 1) + 1) + 1) + 1) + 1) + 1) + 1) + 1) + 1) + 1)⟩, ⟨8, [41], (((((((((((((((((((((((0 + 3) + 1) + 1) + 1) + 6) + 1) + 1) + 1) + 2) + 1) + 1) + 1) + 1) + 1) + 1) + 1) + 1) + 1) + 1) + 1) + 1) + 1) + 1)⟩, ⟨8, [41], ((((((((((((((((((((((((0 + 3) + 1) + 1) + 1) + 6) + 1) + 1) + 1) + 2) + 1) + 1) + 1) + 1) + 1) + 1) + 1) + 1) + 1) + 1) + 1) + 1) + 1) + 1) + 1)⟩, ⟨8, [41], (((((((((((((((((((((((((0 + 3) + 1) + 1) + 1) + 6) + 1) + 1) + 1) + 2) + 1) + 1) + 1) + 1) + 1) + 1) + 1) + 1) + 1) + 1) + 1) + 1) + 1) + 1) + 1) + 1)⟩, ⟨8, [44], ((((((((((((((((((((((((((0 + 3) + 1) + 1) + 1) + 6) + 1) + 1) + 1) + 2) + 1) + 1) + 1) + 1) + 1) + 1) + 1) + 1) + 1) + 1) + 1) + 1) + 1) + 1) + 1) + 1) + 1)⟩, ⟨7, [102], (((((((((((((((((((((((((((0 + 3) + 1) + 1) + 1) + 6) + 1) + 1) + 1) + 2) + 1) + 1) + 1) + 1) + 1) + 1) + 1) + 1) + 1) + 1) + 1) + 1) + 1) + 1) + 1) + 1) + 1) + 1)⟩, ⟨8, [40], ((((((((((((((((((((((((((((0 + 3) + 1) + 1) + 1) + 6) + 1) + 1) + 1) + 2) + 1) + 1) + 1) + 1) + 1) + 1) + 1) + 1) + 1) + 1) + 1) + 1) + 1) + 1) + 1) + 1) + 1) + 1) + 1)⟩, ⟨5, p, (((((((((((((((((((((((((((((0 + 3) + 1) + 1) + 1) + 6) + 1) + 1) + 1) + 2) + 1) + 1) + 1) + 1) + 1) + 1) + 1) + 1) + 1) + 1) + 1) + 1) + 1) + 1) + 1) + 1) + 1) + 1) + 1) + 1)⟩, ⟨8, [41], ((((((((((((((((((((((((((((((0 + 3) + 1) + 1) + 1) + 6) + 1) + 1) + 1) + 2) + 1) + 1) + 1) + 1) + 1) + 1) + 1) + 1) + 1) + 1) + 1) + 1) + 1) + 1) + 1) + 1) + 1) + 1) + 1) + 1) + p.length)⟩, ⟨8, [41], (((((((((((((((((((((((((((((((0 + 3) + 1) + 1) + 1) + 6) + 1) + 1) + 1) + 2) + 1) + 1) + 1) + 1) + 1) + 1) + 1) + 1) + 1) + 1) + 1) + 1) + 1) + 1) + 1) + 1) + 1) + 1) + 1) + 1) + p.length) + 1)⟩]
theorem lx7 (hk : Kn W0) {p : Bz} {sp : Bz} {rp cp : Int} {frp fcp : Bool} (hp : Af W0 p sp rp cp frp fcp) (ha : asc (bd7 p) = true) (hl : (bd7 p).length ≤ 1000000) : Lx W0 (bd7 p) 0 (tk7 p) := by
 have a0 := At.zero ha hl
 have a1 := At.step (w := [76, 69, 84]) a0
 have a2 := At.step (w := [40]) a1
 have a3 := At.step (w := [102]) a2
 have a4 := At.step (w := [44]) a3
 have a5 := At.step (w := [76, 65, 77, 66, 68, 65]) a4
 have a6 := At.step (w := [40]) a5
 have a7 := At.step (w := [110]) a6
 have a8 := At.step (w := [44]) a7
 have a9 := At.step (w := [73, 70]) a8
 have a10 := At.step (w := [40]) a9
 have a11 := At.step (w := [110]) a10
 have a12 := At.step (w := [60]) a11
 have a13 := At.step (w := [49]) a12
 have a14 := At.step (w := [44]) a13
 have a15 := At.step (w := [49]) a14
 have a16 := At.step (w := [44]) a15
 have a17 := At.step (w := [110]) a16
 have a18 := At.step (w := [42]) a17
 have a19 := At.step (w := [102]) a18
 have a20 := At.step (w := [40]) a19
 have a21 := At.step (w := [110]) a20
 have a22 := At.step (w := [45]) a21
 have a23 := At.step (w := [49]) a22
 have a24 := At.step (w := [41]) a23
 have a25 := At.step (w := [41]) a24
 have a26 := At.step (w := [41]) a25
 have a27 := At.step (w := [44]) a26
 have a28 := At.step (w := [102]) a27
 have a29 := At.step (w := [40]) a28
 have a30 := At.step (w := p) a29
 have a31 := At.step (w := [41]) a30
 have a32 := At.step (w := [41]) a31
 exact I4 hk a0 rfl rfl rfl rfl (Ax hk (k := 13) a1 rfl rfl (I3 hk (w := []) a2 rfl rfl rfl rfl rfl (nmR (nmk2 hk)) rfl (Ax hk (k := 15) a3 rfl rfl (I4 hk a4 rfl rfl rfl rfl (Ax hk (k := 13) a5 rfl rfl (I3 hk (w := []) a6 rfl rfl rfl rfl rfl (nmR (A4m hk)) rfl (Ax hk (k := 15) a7 rfl rfl (I4 hk a8 rfl rfl rfl rfl (Ax hk (k := 13) a9 rfl rfl (I3 hk (w := []) a10 rfl rfl rfl rfl rfl (nmR (A4m hk)) rfl (Ax hk (k := 4) a11 rfl rfl (J7 hk (dgR (Rn hk)) rfl rfl a12 rfl rfl (Ax hk (k := 15) a13 rfl rfl (J7 hk (dgR (Rn hk)) rfl rfl a14 rfl rfl (Ax hk (k := 15) a15 rfl rfl (I3 hk (w := []) a16 rfl rfl rfl rfl rfl (nmR (A4m hk)) rfl (Ax hk (k := 9) a17 rfl rfl (I4 hk a18 rfl rfl rfl rfl (Ax hk (k := 13) a19 rfl rfl (I3 hk (w := []) a20 rfl rfl rfl rfl rfl (nmR (A4m hk)) rfl (Ax hk (k := 8) a21 rfl rfl (J7 hk (dgR (Rn hk)) rfl rfl a22 rfl rfl (Ax hk (k := 14) a23 rfl rfl (Ax hk (k := 14) a24 rfl rfl (Ax hk (k := 14) a25 rfl rfl (Ax hk (k := 15) a26 rfl rfl (I4 hk a27 rfl rfl rfl rfl (Ax hk (k := 13) a28 rfl rfl (Ef hp.lex hp.len hp.h32 a29 rfl (Ax hk (k := 14) a30 rfl rfl (Ax hk (k := 14) a31 rfl rfl (Lx.end a32))))))))))))))))))))))))))))))))
def bd8 (p : Bz) : Bz := (p ++ (38 :: (34 :: 97 :: 34 :: [])))
def tk8 (p : Bz) : List Tk := [⟨5, p, 0⟩, ⟨8, [38], (0 + p.length)⟩, ⟨2, [97], ((0 + p.length) + 1)⟩]
theorem lx8 (hk : Kn W0) {p : Bz} {sp : Bz} {rp cp : Int} {frp fcp : Bool} (hp : Af W0 p sp rp cp frp fcp) (ha : asc (bd8 p) = true) (hl : (bd8 p).length ≤ 1000000) : Lx W0 (bd8 p) 0 (tk8 p) := by
 have a0 := At.zero ha hl
 have a1 := At.step (w := p) a0
 have a2 := At.step (w := [38]) a1
 have a3 := At.step (w := [34, 97, 34]) a2
 exact Ef hp.lex hp.len hp.h32 a0 rfl (Ax hk (k := 6) a1 rfl rfl (lxText hk a2 (by simp) (Lx.end a3)))
def bd9 (p : Bz) : Bz := (49 :: (47 :: (p ++ [])))
def tk9 (p : Bz) : List Tk := [⟨1, [49], 0⟩, ⟨8, [47], (0 + 1)⟩, ⟨5, p, ((0 + 1) + 1)⟩]
theorem lx9 (hk : Kn W0) {p : Bz} {sp : Bz} {rp cp : Int} {frp fcp : Bool} (hp : Af W0 p sp rp cp frp fcp) (ha : asc (bd9 p) = true) (hl : (bd9 p).length ≤ 1000000) : Lx W0 (bd9 p) 0 (tk9 p) := by
 have a0 := At.zero ha hl
 have a1 := At.step (w := [49]) a0
 have a2 := At.step (w := [47]) a1
 have a3 := At.step (w := p) a2
 exact J7 hk (dgR (Rn hk)) rfl rfl a0 rfl rfl (Ax hk (k := 10) a1 rfl rfl (Ef hp.lex hp.len hp.h32 a2 rfl (Lx.end a3)))
def Ij (p : Bz) : Bz := (35 :: 82 :: 69 :: 70 :: 33 :: (43 :: (p ++ [])))
def tk10 (p : Bz) : List Tk := [⟨5, [35, 82, 69, 70, 33], 0⟩, ⟨8, [43], (0 + 5)⟩, ⟨5, p, ((0 + 5) + 1)⟩]
theorem lx10 (hk : Kn W0) {p : Bz} {sp : Bz} {rp cp : Int} {frp fcp : Bool} (hp : Af W0 p sp rp cp frp fcp) (ha : asc (Ij p) = true) (hl : (Ij p).length ≤ 1000000) : Lx W0 (Ij p) 0 (tk10 p) := by
 have a0 := At.zero ha hl
 have a1 := At.step (w := [35, 82, 69, 70, 33]) a0
 have a2 := At.step (w := [43]) a1
 have a3 := At.step (w := p) a2
 exact lxFault hk a0 (Ax hk (k := 7) a1 rfl rfl (Ef hp.lex hp.len hp.h32 a2 rfl (Lx.end a3)))
def Ik (p : Bz) : Bz := (45 :: (p ++ (37 :: [])))
def tk11 (p : Bz) : List Tk := [⟨8, [45], 0⟩, ⟨5, p, (0 + 1)⟩, ⟨8, [37], ((0 + 1) + p.length)⟩]
theorem lx11 (hk : Kn W0) {p : Bz} {sp : Bz} {rp cp : Int} {frp fcp : Bool} (hp : Af W0 p sp rp cp frp fcp) (ha : asc (Ik p) = true) (hl : (Ik p).length ≤ 1000000) : Lx W0 (Ik p) 0 (tk11 p) := by
 have a0 := At.zero ha hl
 have a1 := At.step (w := [45]) a0
 have a2 := At.step (w := p) a1
 have a3 := At.step (w := [37]) a2
 exact Ax hk (k := 8) a0 rfl rfl (Ef hp.lex hp.len hp.h32 a1 rfl (Ax hk (k := 12) a2 rfl rfl (Lx.end a3)))
def Ih (p q u : Bz) : Bz := (67 :: 79 :: 85 :: 78 :: 84 :: (40 :: (p ++ (58 :: (u ++ (44 :: (q ++ (41 :: []))))))))
def tk12 (p q u : Bz) : List Tk := [⟨7, [67, 79, 85, 78, 84], 0⟩, ⟨8, [40], (0 + 5)⟩, ⟨5, p, ((0 + 5) + 1)⟩, ⟨8, [58], (((0 + 5) + 1) + p.length)⟩, ⟨5, u, ((((0 + 5) + 1) + p.length) + 1)⟩, ⟨8, [44], (((((0 + 5) + 1) + p.length) + 1) + u.length)⟩, ⟨5, q, ((((((0 + 5) + 1) + p.length) + 1) + u.length) + 1)⟩, ⟨8, [41], (((((((0 + 5) + 1) + p.length) + 1) + u.length) + 1) + q.length)⟩]
theorem lx12 (hk : Kn W0) {p q u : Bz} {sp : Bz} {rp cp : Int} {frp fcp : Bool} (hp : Af W0 p sp rp cp frp fcp) {sq : Bz} {rq cq : Int} {frq fcq : Bool} (hq : Af W0 q sq rq cq frq fcq) {su : Bz} {ru cu : Int} {fru fcu : Bool} (hu : Af W0 u su ru cu fru fcu) (ha : asc (Ih p q u) = true) (hl : (Ih p q u).length ≤ 1000000) : Lx W0 (Ih p q u) 0 (tk12 p q u) := by
 have a0 := At.zero ha hl
 have a1 := At.step (w := [67, 79, 85, 78, 84]) a0
 have a2 := At.step (w := [40]) a1
 have a3 := At.step (w := p) a2
 have a4 := At.step (w := [58]) a3
 have a5 := At.step (w := u) a4
 have a6 := At.step (w := [44]) a5
 have a7 := At.step (w := q) a6
 have a8 := At.step (w := [41]) a7
 exact I4 hk a0 rfl rfl rfl rfl (Ax hk (k := 13) a1 rfl rfl (Ef hp.lex hp.len hp.h32 a2 rfl (Ax hk (k := 17) a3 rfl rfl (Ef hu.lex hu.len hu.h32 a4 rfl (Ax hk (k := 15) a5 rfl rfl (Ef hq.lex hq.len hq.h32 a6 rfl (Ax hk (k := 14) a7 rfl rfl (Lx.end a8))))))))
def Ib (p : Bz) : Bz := (114 :: 97 :: 116 :: 101 :: (42 :: (p ++ [])))
def tk13 (p : Bz) : List Tk := [⟨6, [114, 97, 116, 101], 0⟩, ⟨8, [42], (0 + 4)⟩, ⟨5, p, ((0 + 4) + 1)⟩]
theorem lx13 (hk : Kn W0) {p : Bz} {sp : Bz} {rp cp : Int} {frp fcp : Bool} (hp : Af W0 p sp rp cp frp fcp) (ha : asc (Ib p) = true) (hl : (Ib p).length ≤ 1000000) : Lx W0 (Ib p) 0 (tk13 p) := by
 have a0 := At.zero ha hl
 have a1 := At.step (w := [114, 97, 116, 101]) a0
 have a2 := At.step (w := [42]) a1
 have a3 := At.step (w := p) a2
 exact I3 hk (w := [97, 116, 101]) a0 rfl rfl rfl rfl rfl (nmR (nmk6 hk)) rfl (Ax hk (k := 9) a1 rfl rfl (Ef hp.lex hp.len hp.h32 a2 rfl (Lx.end a3)))
def Ia (p : Bz) : Bz := (79 :: 119 :: 110 :: (43 :: (p ++ [])))
def tk14 (p : Bz) : List Tk := [⟨6, [79, 119, 110], 0⟩, ⟨8, [43], (0 + 3)⟩, ⟨5, p, ((0 + 3) + 1)⟩]
theorem lx14 (hk : Kn W0) {p : Bz} {sp : Bz} {rp cp : Int} {frp fcp : Bool} (hp : Af W0 p sp rp cp frp fcp) (ha : asc (Ia p) = true) (hl : (Ia p).length ≤ 1000000) : Lx W0 (Ia p) 0 (tk14 p) := by
 have a0 := At.zero ha hl
 have a1 := At.step (w := [79, 119, 110]) a0
 have a2 := At.step (w := [43]) a1
 have a3 := At.step (w := p) a2
 exact I3 hk (w := [119, 110]) a0 rfl rfl rfl rfl rfl (nmR (nmk7 hk)) rfl (Ax hk (k := 7) a1 rfl rfl (Ef hp.lex hp.len hp.h32 a2 rfl (Lx.end a3)))
def Ii (p : Bz) : Bz := (83 :: 85 :: 77 :: (40 :: (84 :: 97 :: 98 :: 91 :: 120 :: 93 :: (41 :: (43 :: (p ++ []))))))
def tk15 (p : Bz) : List Tk := [⟨7, [83, 85, 77], 0⟩, ⟨8, [40], (0 + 3)⟩, ⟨9, [84, 97, 98, 91, 120, 93], ((0 + 3) + 1)⟩, ⟨8, [41], (((0 + 3) + 1) + 6)⟩, ⟨8, [43], ((((0 + 3) + 1) + 6) + 1)⟩, ⟨5, p, (((((0 + 3) + 1) + 6) + 1) + 1)⟩]
theorem lx15 (hk : Kn W0) {p : Bz} {sp : Bz} {rp cp : Int} {frp fcp : Bool} (hp : Af W0 p sp rp cp frp fcp) (ha : asc (Ii p) = true) (hl : (Ii p).length ≤ 1000000) : Lx W0 (Ii p) 0 (tk15 p) := by
 have a0 := At.zero ha hl
 have a1 := At.step (w := [83, 85, 77]) a0
 have a2 := At.step (w := [40]) a1
 have a3 := At.step (w := [84, 97, 98, 91, 120, 93]) a2
 have a4 := At.step (w := [41]) a3
 have a5 := At.step (w := [43]) a4
 have a6 := At.step (w := p) a5
 exact I4 hk a0 rfl rfl rfl rfl (Ax hk (k := 13) a1 rfl rfl (lxCol hk (nmR (nmk5 hk)) a2 (Ax hk (k := 14) a3 rfl rfl (Ax hk (k := 7) a4 rfl rfl (Ef hp.lex hp.len hp.h32 a5 rfl (Lx.end a6))))))
end Go.Abs
namespace Go.Abs
open Go.Proofs Go.RowKit
set_option maxRecDepth 100000
variable {W0 : World} {G : List (Nat × AVal)}
theorem A1q {a : List Nat} {n : Nat} (h : n < a.length) : (Cb a).getD n .nilIf = .int .i64 (a.getD n 0 : Nat) := by
 rw [List.getD_eq_getElem?_getD, Cb, List.getElem?_map, List.getD_eq_getElem?_getD, gGe h]; rfl
theorem Ew {s : St} {x i : AOpd} {a : List Nat} {n : Nat} (hx : ev G s x = some (dg a)) (hi : ev G s i = some (.int .i64 (n : Nat))) (hn : n < a.length) : aop G s (.idxSl 1 x i) = some (.val (.eptr (.int .i64 (a.getD n 0 : Nat)) 0) s.H [(0, (n : Nat)), ((n : Nat) + 1, (a.length : Nat))]) := by
 have h1 := A1q hn
 have h2 := B7 a
 simp only [aop, hx, hi, dg, Int.toNat_natCast, h1, h2]
 rfl
theorem E0 {s : St} {x : AOpd} {a : List Nat} (hx : ev G s x = some (dg a)) : aop G s (.len false x) = some (.val (.int .i64 (a.length : Nat)) s.H []) := by
 have h2 := B7 a
 simp only [aop, hx, dg, A2y, h2]
 rfl
theorem Yz {a : List Nat} {n : Nat} (h : n = Gy a a.length) : AVal.row 1 ((Cb a).take (((n : Nat) : Int)).toNat) = dg (If a) := by
 subst h
 rw [Int.toNat_natCast, If, dg, Cb, Cb, List.map_take]
def KF146 : AFn := ⟨(sQ [wV 2 (.move (.val (.nilSl)))] (sQ [wM 4 0, wV 5 (.len false 4), wM 3 5] (.seq (.block 0 (.loop (.seq (sQ [wM 6 3, wV 7 (.bin .gtr none 6 (vI 0)), wM 8 7, wT 9 8 (.move 0), wT 10 8 (.move 3), wT 11 8 (.bin .sub none 10 (vI 1)), wT 12 8 (.idxSl 1 9 11), wT 13 8 (.load 1 false 12), wT 14 8 (.bin .eql none 13 (vI 0)), wV 15 (.pick 8 14 (.val (.bool false)))] (.cond 15 .skip (.exit 0))) (.block 1 (.ops [wM 16 3, wV 17 (.bin .sub none 16 (vI 1)), wM 3 17]))))) (sQ [wM 18 0, wM 19 3, wV 20 (.cutSl 1 18 none (some 19)), wM 2 20] .ret)))), [2], 21⟩
theorem KG146 : Au Tryz.prog 146 = some KF146 := by kernel_rfl
theorem Tt (hg : Gr Tryz.prog W0 G) {a : List Nat} (hl : a.length ≤ 1000000) : cP W0 146 [dg a] [] (dg (If a)) [] := by
 refine A3.of_fnM KG146 (by simp) rfl ?_
 refine sO (mV rfl (mn (sO (mV rfl (mV (v := .int .i64 (a.length : Nat)) (E0 rfl) (mV rfl (mn (sq (bM ?_)))))))))
 refine ExM.loop (σ := Nat) (fun n => ⟨.al [(0, dg a), (3, .int .i64 (n : Nat))], [], 21⟩) (fun n => n ≤ a.length ∧ Gy a n = Gy a a.length) (fun n => n) a.length (Ap 0 rfl (Nat.le_refl _) rfl rfl (fzC rfl fvD (fzC rfl fvI fzN))) ⟨Nat.le_refl _, rfl⟩ ?_
 rintro n ⟨hn, ht⟩
 cases n with
 | zero =>
   refine sq (sO (mV rfl (mBk hg gN (c := false) rfl rfl (by simp) (mV rfl (mG (mG (mG (mG (mG (mG (mV rfl (mn (cF rfl ?_)))))))))))))
   refine ExM.exit ?_
   refine sO (mV rfl (mV rfl (mS rfl (mV rfl (mn ?_)))))
   exact ExM.ret (A5 trivial rfl (Yz (by rw [← ht]; rfl)) rfl)
 | succ k =>
   by_cases hz : a.getD k 0 = 0
   · refine sq (sO (mV rfl (mT rfl (mV rfl (mV rfl (mV rfl (mI ((k : Nat)) rfl (mS (v := .eptr (.int .i64 (a.getD k 0 : Nat)) 0) (Ew rfl rfl (by omega)) (mV rfl (mBk hg (gS rfl) (c := true) rfl rfl (by rw [hz]; decide) (mV rfl (mn (cT rfl (kM (bM (oM (mV rfl (mI ((k : Nat)) rfl (mV rfl (mn ?_))))))))))))))))))))
     exact ⟨k, ⟨by omega, by rw [← ht]; simp only [Gy, hz, if_true]⟩, by omega, Ap 0 rfl (Nat.le_refl _) rfl rfl (fzC rfl fvD (fzC rfl fvI fzN))⟩
   · refine sq (sO (mV rfl (mT rfl (mV rfl (mV rfl (mV rfl (mI ((k : Nat)) rfl (mS (v := .eptr (.int .i64 (a.getD k 0 : Nat)) 0) (Ew rfl rfl (by omega)) (mV rfl (mF rfl (mV rfl (mn (cF rfl ?_)))))))))))))
     refine ExM.exit ?_
     refine sO (mV rfl (mV rfl (mS rfl (mV rfl (mn ?_)))))
     exact ExM.ret (A5 trivial rfl (Yz (by rw [← ht]; simp only [Gy, hz, if_false])) rfl)
def dN (n : Nat) : AVal := dg (D6 n)
theorem A32 (n : Nat) (l : List Nat) : blw n (dg l) = true := C7 l
def ov (b : Nat) : List Nat → AVal
 | [] => .nilSl
 | d :: r => .hsl 1 (b + 1) 0 (d :: r).length none
def oh : List Nat → Hz
 | [] => []
 | d :: r => [.cells 3 [.int .i64 (d : Nat)] false, .cells 3 (Cb (d :: r)) true]
theorem fvOv {l : List Nat} : FzV (oh l) 0 (ov 0 l) (dg l) := by
 cases l with
 | nil => exact Zn
 | cons d r => exact L5 (Nat.zero_le _) rfl
theorem fvOv1 {o : HObj} {l : List Nat} : FzV (o :: oh l) 1 (ov 1 l) (dg l) := by
 cases l with
 | nil => exact Zn
 | cons d r => exact L5 (by decide) rfl
theorem A1e (l : List Nat) (d : Nat) : Cb (l ++ [d]) = Cb l ++ [.int .i64 (d : Nat)] := by simp [Cb]
theorem Qa {s : St} {x y : AOpd} {l : List Nat} {id idy e : Nat} {H' : Hz} {cp : Option Nat} (hx : ev G s x = some (.hsl 1 id 0 l.length none)) (hy : ev G s y = some (.hsl 1 idy 0 1 cp)) (hoy : s.H[idy]? = some (.cells 3 [.int .i64 (e : Nat)] false))
 (ho : s.H[id]? = some (.cells 3 (Cb l) true)) (hH : s.H.set id (.cells 3 (Cb (l ++ [e])) true) = H') : aop G s (.append 3 1 8 x y) = some (.val (.hsl 1 id 0 (l ++ [e]).length none) H' [(((l.length + 1) * 8 : Nat), C2), ((l.length + 1 : Nat), C2)]) := by
 subst hH
 have h1 : (Cb l).length = l.length * 1 := by rw [B7, Nat.mul_one]
 have h2 : (l ++ [e]).length = l.length + 1 := by simp
 have hy' : F5 1 s.H (.hsl 1 idy 0 1 cp) = some ([.int .i64 (e : Nat)], 1) := by
  simp only [F5, hoy]; rfl
 rw [h2, A1e]
 simp only [aop, hx, hy, Yu, hy', Iy, ho, h1, Nat.beq_refl, cond_true, Bool.and_self]
 rfl
theorem E3 {n : Nat} (h : n ≤ 1000000) : Ae [((n * 8 : Nat), C2), ((n : Nat), C2)] := by
 simp only [Ae, C2, and_true]; omega
def KF153 : AFn := ⟨(sQ [wV 4 (.move (vI 0))] (.seq (sQ [wM 5 1, wM 6 0, wV 7 (.len false 6), wV 8 (.bin .lss none 5 7)] (.cond 8 (sQ [wM 9 0, wM 10 1, wV 11 (.idxSl 1 9 10), wV 12 (.load 1 false 11), wM 4 12] .ret) .skip)) (sQ [wV 4 (.move (vI 0))] .ret))), [4], 13⟩
theorem KG153 : Au Tryz.prog 153 = some KF153 := by kernel_rfl
def KF97 : AFn := ⟨(sQ [wV 4 (.move (.val (.bool false)))] (.seq (sQ [wM 6 0, wV 7 (.len false 6), wM 8 1, wV 9 (.len false 8), wV 10 (.bin .neq none 7 9)] (.cond 10 (sQ [wM 11 0, wV 12 (.len false 11), wM 13 1, wV 14 (.len false 13), wV 15 (.bin .lss none 12 14), wM 4 15] .ret) .skip)) (.seq (sQ [wM 16 0, wV 17 (.len false 16), wV 18 (.bin .sub none 17 (vI 1)), wM 5 18] (.block 0 (.loop (.seq (sQ [wM 19 5, wV 20 (.bin .geq none 19 (vI 0))] (.cond 20 .skip (.exit 0))) (.seq (.block 1 (.seq (.draw [wM 23 0, wM 24 5, wV 25 (.idxSl 1 23 24), wV 26 (.load 1 false 25), wM 27 1, wM 28 5, wV 29 (.idxSl 1 27 28), wV 30 (.load 1 false 29), wV 31 (.bin .neq none 26 30)]) (.cond 31 (.seq (.draw [wM 32 0, wM 33 5, wV 34 (.idxSl 1 32 33), wV 35 (.load 1 false 34), wM 36 1, wM 37 5, wV 38 (.idxSl 1 36 37), wV 39 (.load 1 false 38), wV 40 (.bin .lss none 35 39), wM 4 40]) .ret) .skip))) (.ops [wM 21 5, wV 22 (.bin .sub none 21 (vI 1)), wM 5 22])))))) (sQ [wV 4 (.move (.val (.bool false)))] .ret)))), [4], 41⟩
theorem KG97 : Au Tryz.prog 97 = some KF97 := by kernel_rfl
def KF96 : AFn := ⟨(sQ [wV 2 (.move (.val (.nilSl)))] (sQ [wV 3 (.move (.val (.nilSl)))] (.seq (.block 0 (.loop (.seq (sQ [wM 5 0, wV 6 (.bin .neq none 5 (vI 0))] (.cond 6 .skip (.exit 0))) (.block 1 (sQ [wM 7 0, wV 8 (.bin .rem none 7 (vI 10)), wM 4 8] (.seq (sQ [wM 9 4, wV 10 (.bin .lss none 9 (vI 0))] (.cond 10 (.ops [wM 11 4, wV 12 (.un .neg 11), wM 4 12]) .skip)) (sQ [wM 13 3, wM 14 4, wV 15 (.bslice 3 1 1 [.int .i64 0] [(0, 1, 14)]), wV 16 (.append 3 1 8 13 15), wM 3 16] (.ops [wM 17 0, wV 18 (.bin .quo none 17 (vI 10)), wM 0 18])))))))) (sQ [wM 19 3, wM 2 19] .ret)))), [2], 20⟩
theorem KG96 : Au Tryz.prog 96 = some KF96 := by kernel_rfl
def KF99 : AFn := ⟨(sQ [wV 4 (.move (.val (.nilSl)))] (.seq (sQ [wM 5 0, wV 6 (.len false 5), wV 7 (.bin .eql none 6 (vI 0))] (.cond 7 (sQ [wV 4 (.move (.val (.nilSl)))] .ret) .skip)) (sQ [wM 8 1, wV 9 (.mm true 8 (vI 0)), wV 10 (.mkSl 3 1 [.int .i64 0] 9 9), wM 11 0, wV 12 (.append 3 1 8 10 11), wM 4 12] .ret))), [4], 13⟩
theorem KG99 : Au Tryz.prog 99 = some KF99 := by kernel_rfl
theorem atP (hg : Gr Tryz.prog W0 G) {a : List Nat} {i : Nat} (H : Hz) : cP W0 153 [dg a, .int .i64 (i : Nat)] H (.int .i64 (a.getD i 0 : Nat)) H := by
 refine A3.pure (by simp [C0, blw, dg, C7]) rfl ?_ H
 refine A3.of_fnM KG153 (by simp) rfl ?_
 by_cases hi : i < a.length
 · skip
   refine sO (mV rfl (mn (sq (sO (mV rfl (mV rfl (mV (v := .int .i64 (a.length : Nat)) (E0 rfl) (mT rfl (mn (cT rfl (sO (mV rfl (mV rfl (mS (v := .eptr (.int .i64 (a.getD i 0 : Nat)) 0) (Ew rfl rfl (by omega)) (mV rfl (mV rfl (mn ?_)))))))))))))))))
   exact ExM.ret (A5 trivial rfl rfl rfl)
 · skip
   refine sO (mV rfl (mn (sq (sO (mV rfl (mV rfl (mV (v := .int .i64 (a.length : Nat)) (E0 rfl) (mF rfl (mn (cF rfl (kM (sO (mV rfl (mn ?_))))))))))))))
   exact ExM.ret (A5 trivial rfl (iE (by rw [Lr (by omega)]; rfl)) rfl)
theorem lessP (hg : Gr Tryz.prog W0 G) {a b : List Nat} (hl : a.length ≤ 1000000) (_ : b.length ≤ 1000000) (H : Hz) : cP W0 97 [dg a, dg b] H (.bool (Q8 a b)) H := by
 refine A3.pure (by simp [C0, blw, dg, C7]) rfl ?_ H
 refine A3.of_fnM KG97 (by simp) rfl ?_
 by_cases hab : a.length = b.length
 · skip
   refine sO (mV rfl (mn (sq (sO (mV rfl (mV (v := .int .i64 (a.length : Nat)) (E0 rfl) (mV rfl (mV (v := .int .i64 (b.length : Nat)) (E0 rfl) (mBk hg gN (c := false) rfl rfl (by rw [hab]; exact bne_self_eq_false _) (mn (cF rfl (kM (sq (sO (mV rfl (mV (v := .int .i64 (a.length : Nat)) (E0 rfl) (mK (v := .int .i64 ((a.length : Nat) - 1)) rfl (Br (by omega) (by omega) rfl) (mV rfl (mn (bM ?_))))))))))))))))))))
   refine ExM.loop (σ := Nat) (fun n => ⟨.al [(0, dg a), (1, dg b), (5, .int .i64 (((n : Nat) : Int) - 1))], [], 41⟩) (fun n => n ≤ a.length ∧ Nk a b n = Nk a b a.length) (fun n => n) a.length (Ap 0 rfl (Nat.le_refl _) rfl rfl (fzC rfl fvD (fzC rfl fvD (fzC rfl fvI fzN)))) ⟨Nat.le_refl _, rfl⟩ ?_
   rintro n ⟨hn, ht⟩
   cases n with
   | zero =>
     refine sq (sO (mV rfl (mF rfl (mn (cF rfl ?_)))))
     refine ExM.exit ?_
     refine sO (mV rfl (mn ?_))
     exact ExM.ret (A5 trivial rfl (congrArg AVal.bool (by rw [Q8, if_pos hab, ← ht]; rfl)) rfl)
   | succ k =>
     by_cases hz : a.getD k 0 = b.getD k 0
     · refine sq (sO (mV rfl (mT rfl (mn (cT rfl (kM (sq (bM (sq ?_)))))))))
       refine ExM.draw hg ?_
       refine qV rfl (qKv (v := .int .i64 (k : Nat)) rfl rfl trivial (iE (by omega)) (C5 (v := .eptr (.int .i64 (a.getD k 0 : Nat)) 0) (Ew rfl rfl (by omega)) rfl (by first | exact trivial | decide | (simp only [Ae, and_true]; omega)) (qV rfl (qV rfl (qKv (v := .int .i64 (k : Nat)) rfl rfl trivial (iE (by omega)) (C5 (v := .eptr (.int .i64 (b.getD k 0 : Nat)) 0) (Ew rfl rfl (by omega)) rfl (by first | exact trivial | decide | (simp only [Ae, and_true]; omega)) (qV rfl (qBk (c := false) rfl rfl (by rw [hz]; exact bne_self_eq_false _) (Et (ExM.condF hg rfl (ExM.skip (ExM.ops hg (Ba hg gN rfl rfl trivial (mKv hg gN (v := .int .i64 ((k : Nat) - 1)) rfl rfl trivial (Br (by omega) (by omega) (by omega)) (Ba hg gN rfl rfl trivial (Hl (?_)))))))))))))))))
       exact ⟨k, ⟨by omega, by rw [← ht]; simp only [Nk, hz, if_true]⟩, by omega, Ap 0 rfl (Nat.le_refl _) rfl rfl (fzC rfl fvD (fzC rfl fvD (fzC rfl fvI fzN)))⟩
     · refine sq (sO (mV rfl (mT rfl (mn (cT rfl (kM (sq (bM (sq ?_)))))))))
       refine ExM.draw hg ?_
       refine qV rfl (qKv (v := .int .i64 (k : Nat)) rfl rfl trivial (iE (by omega)) (C5 (v := .eptr (.int .i64 (a.getD k 0 : Nat)) 0) (Ew rfl rfl (by omega)) rfl (by first | exact trivial | decide | (simp only [Ae, and_true]; omega)) (qV rfl (qV rfl (qKv (v := .int .i64 (k : Nat)) rfl rfl trivial (iE (by omega)) (C5 (v := .eptr (.int .i64 (b.getD k 0 : Nat)) 0) (Ew rfl rfl (by omega)) rfl (by first | exact trivial | decide | (simp only [Ae, and_true]; omega)) (qV rfl (qBk (c := true) rfl rfl (by rw [bne_iff_ne]; omega) (Et (ExM.condT hg rfl (ExM.seq ?_)))))))))))
       refine ExM.draw hg ?_
       refine qV rfl (qKv (v := .int .i64 (k : Nat)) rfl rfl trivial (iE (by omega)) (C5 (v := .eptr (.int .i64 (a.getD k 0 : Nat)) 0) (Ew rfl rfl (by omega)) rfl (by first | exact trivial | decide | (simp only [Ae, and_true]; omega)) (qV rfl (qV rfl (qKv (v := .int .i64 (k : Nat)) rfl rfl trivial (iE (by omega)) (C5 (v := .eptr (.int .i64 (b.getD k 0 : Nat)) 0) (Ew rfl rfl (by omega)) rfl (by first | exact trivial | decide | (simp only [Ae, and_true]; omega)) (qV rfl (qV rfl (qV rfl (Et (?_)))))))))))
       exact ExM.ret (A5 trivial rfl (congrArg AVal.bool (by rw [Q8, if_pos hab, ← ht, Nk, if_neg hz]; exact decide_eq_decide.2 (by omega))) rfl)
 · skip
   refine sO (mV rfl (mn (sq (sO (mV rfl (mV (v := .int .i64 (a.length : Nat)) (E0 rfl) (mV rfl (mV (v := .int .i64 (b.length : Nat)) (E0 rfl) (mT rfl (mn (cT rfl (sO (mV rfl (mV (v := .int .i64 (a.length : Nat)) (E0 rfl) (mV rfl (mV (v := .int .i64 (b.length : Nat)) (E0 rfl) (mV rfl (mV rfl (mn ?_)))))))))))))))))))
   exact ExM.ret (A5 trivial rfl (congrArg AVal.bool (by rw [Q8, if_neg hab]; exact decide_eq_decide.2 (by omega))) rfl)
theorem A18 (n : Nat) : Hw [.int .i64 0] n = Cb (List.replicate n 0) := by
 rw [Hw, Cb, List.map_replicate, List.eq_replicate_iff]
 refine ⟨by simp, fun b hb => ?_⟩
 obtain ⟨j, _, rfl⟩ := List.mem_map.1 hb
 have : j % [AVal.int .i64 0].length = 0 := Nat.mod_one j
 rw [this]; rfl
theorem Ze {H : Hz} (l : List Nat) : F5 1 H (dg l) = some (Cb l, l.length) := by
 have h : (Cb l).flatMap AVal.cells = Cb l := by
  induction l with
  | nil => rfl
  | cons d l ih => rw [Cb, List.map_cons, List.flatMap_cons]; rw [Cb] at ih; rw [ih]; rfl
 simp only [dg, F5, Nat.beq_refl, cond_true, h, B7]
theorem all_one (l : List Nat) : (Cb l).all AVal.one = true := by
 induction l with
 | nil => rfl
 | cons d l ih => exact ih
theorem A3h {s : St} {x y : AOpd} {l z : List Nat} {id m : Nat} {H' : Hz} (hx : ev G s x = some (.hsl 1 id 0 m (some m))) (hy : ev G s y = some (dg l)) (hl : l.length ≠ 0)
 (ho : s.H[id]? = some (.cells 3 (Cb z) false)) (hm : z.length = m) (hH : s.H ++ [.cells 3 (Cb (z ++ l)) true] = H') : aop G s (.append 3 1 8 x y) = some (.val (.hsl 1 s.H.length 0 (z ++ l).length none) H' [((((z ++ l).length) * 8 : Nat), C2), (((z ++ l).length : Nat), C2)]) := by
 subst hH; subst hm
 have h3 : Nat.beq l.length 0 = false := by
  cases hb : Nat.beq l.length 0 with
  | false => rfl
  | true => exact absurd (nBq hb) hl
 have h4 : ((Cb z).drop 0).take (z.length * 1) = Cb z := by rw [List.drop_zero, Nat.mul_one, List.take_of_length_le (by rw [B7]; exact Nat.le_refl _)]
 have h5 : Cb (z ++ l) = Cb z ++ Cb l := by simp [Cb]
 have h6 : (z ++ l).length = z.length + l.length := by simp
 rw [h5, h6]
 simp only [aop, hx, hy, Yu, Ze, h3, cond_false, all_one, cond_true, Iy, Nat.beq_refl, ho, h4]
theorem A44 {s : St} {x y : AOpd} {l : List Nat} {id m : Nat} {c : Option Nat} (hx : ev G s x = some (.hsl 1 id 0 m c)) (hy : ev G s y = some (dg l)) (hl : l.length = 0) : aop G s (.append 3 1 8 x y) = some (.val (.hsl 1 id 0 m c) s.H []) := by
 have : l = [] := List.length_eq_zero_iff.1 hl
 subst this
 simp only [aop, hx, hy, Yu, Ze]
 rfl
theorem mkSlD {s : St} {x : AOpd} {n : Nat} (hx : ev G s x = some (.int .i64 (n : Nat))) : aop G s (.mkSl 3 1 [.int .i64 0] x x) = some (.val (.hsl 1 s.H.length 0 n (some n)) (s.H ++ [.cells 3 (Cb (List.replicate n 0)) false]) [(0, (n : Nat)), ((n : Nat), 1000000), ((n : Nat), (n : Nat)), ((n : Nat), (n : Nat))]) := by
 have h1 := A18 n
 simp only [aop, hx, Int.toNat_natCast, Nat.mul_one, h1]
theorem frzOpen {H : Hz} {n id T : Nat} {l : List Nat} {cap : Option Nat} (hn : n ≤ id) (ho : H[id]? = some (.cells T (Cb l) true)) : frz H n (l.length + 3) (.hsl 1 id 0 l.length cap) = some (dg l) := by
 have h1 : Nat.blt id n = false := A2j (by omega)
 have h2 : (Nat.beq 0 0 && Nat.beq (l.length * 1) (Cb l).length) = true := by simp [B7]
 have h3 := Hm l []
 rw [List.append_nil] at h3
 simp only [frz, h1, cond_false, ho, h2, cond_true, h3, Il]
 rfl
def Xa (a : List Nat) (n : Int) : AVal := if a.length = 0 then .nilSl else dg (List.replicate n.toNat 0 ++ a)
theorem tenP (hg : Gr Tryz.prog W0 G) {a : List Nat} {n : Int} (hl : a.length ≤ 1000000) (hn : n ≤ 1000) (H : Hz) : cP W0 99 [dg a, .int .i64 n] H (Xa a n) H := by
 refine A3.pure (by simp [C0, blw, dg, C7]) (by rw [Xa]; split; rfl; exact A32 0 _) ?_ H
 refine A3.of_fnM KG99 (by simp) rfl ?_
 by_cases hz : a.length = 0
 · skip
   refine sO (mV rfl (mn (sq (sO (mV rfl (mV (v := .int .i64 (a.length : Nat)) (E0 rfl) (mBk hg gN (c := true) rfl rfl (by rw [hz]; decide) (mn (cT rfl (sO (mV rfl (mn ?_))))))))))))
   refine ExM.ret ?_
   refine A5 trivial rfl ?_ rfl
   rw [Xa, if_pos hz]; rfl
 · skip
   refine sO (mV rfl (mn (sq (sO (mV rfl (mV (v := .int .i64 (a.length : Nat)) (E0 rfl) (mF rfl (mn (cF rfl (kM (sO (mV rfl (mK (v := .int .i64 (n.toNat : Nat)) rfl (iE (by by_cases h : n < 0 <;> simp [h] <;> omega)) (Ba hg gN (v := .hsl 1 0 0 n.toNat (some n.toNat)) (mkSlD rfl) rfl (by simp only [Ae, and_true]; omega) (mV rfl (Ba hg gN (v := .hsl 1 1 0 (List.replicate n.toNat 0 ++ a).length none) (A3h rfl rfl hz rfl (by simp) rfl) rfl (by simp only [Ae, C2, and_true, lAp, List.length_replicate]; omega) (mV rfl (mn ?_))))))))))))))))))
   refine ExM.ret ?_
   refine A4 trivial rfl rfl ((List.replicate n.toNat 0 ++ a).length + 3) ?_ rfl
   rw [Xa, if_neg hz]
   exact frzOpen (by decide) rfl
theorem Dh : Ae [((1 : Int), 10 * 10)] := ⟨by decide, trivial⟩
theorem A28 {x : Int} (h : 0 ≤ x) : x.tmod 10 = ((x.natAbs % 10 : Nat) : Int) := by
 obtain ⟨m, rfl⟩ := Int.eq_ofNat_of_zero_le h
 rw [Int.natAbs_natCast]; exact (Int.ofNat_tmod m 10).symm
theorem Ug {x : Int} (h : x ≤ 0) : x.tmod 10 = -((x.natAbs % 10 : Nat) : Int) := by
 obtain ⟨m, hm⟩ := Int.eq_ofNat_of_zero_le (show 0 ≤ -x by omega)
 have : x = -(m : Int) := by omega
 subst this
 rw [Int.neg_tmod, Int.natAbs_neg, Int.natAbs_natCast]; congr 1
theorem tdivA (x : Int) : (x.tdiv 10).natAbs = x.natAbs / 10 := by rw [Int.natAbs_tdiv]; rfl
theorem Dw {k : Nat} (l : List Nat) : Fg k (oh l) = true := by
 cases l with
 | nil => rfl
 | cons d r =>
   show cond (C0 k (Cb [d])) (cond (C0 k (Cb (d :: r))) true false) false = true
   rw [C7, C7]; rfl
theorem fvH {H : Hz} {k id off n : Nat} {c : Option Nat} (h : Nat.blt id k = true) : FzV H k (.hsl 1 id off n c) (.hsl 1 id off n c) := .inl ⟨1, by simp only [frz, h, cond_true]⟩
theorem fvP {H : Hz} {k id off : Nat} (h : Nat.blt id k = true) : FzV H k (.ptr id off) (.ptr id off) := .inl ⟨1, by simp only [frz, h, cond_true]⟩
def KF152 : AFn := ⟨(sQ [wV 4 (.move (.val (.nilSl)))] (sQ [wV 5 (.move (.val (.nilSl)))] (sQ [wV 6 (.move (vI 0))] (.seq (sQ [wV 7 (.move (vI 0))] (.block 0 (.loop (.seq (sQ [wM 9 7, wM 10 0, wV 11 (.len false 10), wV 12 (.bin .lss none 9 11), wM 13 12, wF 14 13 (.move 7), wF 15 13 (.move 1), wF 16 13 (.len false 15), wF 17 13 (.bin .lss none 14 16), wV 18 (.pick 13 (.val (.bool true)) 17), wM 19 18, wF 20 19 (.move 6), wF 21 19 (.bin .gtr none 20 (vI 0)), wV 22 (.pick 19 (.val (.bool true)) 21)] (.cond 22 .skip (.exit 0))) (.seq (.block 1 (sQ [wM 25 0, wM 26 7, wV 27 (kF 153 [25, 26]), wM 28 1, wM 29 7, wV 30 (kF 153 [28, 29]), wV 31 (.bin .add none 27 30), wM 32 6, wV 33 (.bin .add none 31 32), wM 8 33] (sQ [wM 34 5, wM 35 8, wV 36 (.bin .rem none 35 (vI 10)), wV 37 (.bslice 3 1 1 [.int .i64 0] [(0, 1, 36)]), wV 38 (.append 3 1 8 34 37), wM 5 38] (.ops [wM 39 8, wV 40 (.bin .quo none 39 (vI 10)), wM 6 40])))) (.ops [wM 23 7, wV 24 (.bin .add none 23 (vI 1)), wM 7 24])))))) (sQ [wM 41 5, wV 42 (kF 146 [41]), wM 4 42] .ret))))), [4], 43⟩
theorem KG152 : Au Tryz.prog 152 = some KF152 := by kernel_rfl
def KF220 : AFn := ⟨(sQ [wV 4 (.move (.val (.nilSl)))] (sQ [wV 5 (.move (.val (.nilSl)))] (sQ [wV 6 (.move (vI 0))] (.seq (sQ [wV 7 (.move (vI 0))] (.block 0 (.loop (.seq (sQ [wM 9 7, wM 10 0, wV 11 (.len false 10), wV 12 (.bin .lss none 9 11)] (.cond 12 .skip (.exit 0))) (.seq (.block 1 (.seq (.draw [wM 15 0, wM 16 7, wV 17 (.idxSl 1 15 16), wV 18 (.load 1 false 17), wM 19 1, wM 20 7, wV 21 (kF 153 [19, 20]), wV 22 (.bin .sub none 18 21), wM 23 6, wV 24 (.bin .sub none 22 23), wM 8 24]) (sQ [wV 6 (.move (vI 0))] (.seq (sQ [wM 25 8, wV 26 (.bin .lss none 25 (vI 0))] (.cond 26 (sQ [wM 27 8, wV 28 (.bin .add none 27 (vI 10)), wM 8 28] (.ops [wV 6 (.move (vI 1))])) .skip)) (.ops [wM 29 5, wM 30 8, wV 31 (.bslice 3 1 1 [.int .i64 0] [(0, 1, 30)]), wV 32 (.append 3 1 8 29 31), wM 5 32]))))) (.ops [wM 13 7, wV 14 (.bin .add none 13 (vI 1)), wM 7 14])))))) (sQ [wM 33 5, wV 34 (kF 146 [33]), wM 4 34] .ret))))), [4], 35⟩
theorem KG220 : Au Tryz.prog 220 = some KF220 := by kernel_rfl
theorem Bw (hg : Gr Tryz.prog W0 G) {n : Int} (hn1 : -1000000000000000 < n) (hn2 : n < 1000000000000000) (H : Hz) : cP W0 96 [.int .i64 n] H (dN n.natAbs) H := by
 refine A3.pure rfl (A32 0 _) ?_ H
 refine A3.of_fnM KG96 (by simp) rfl ?_
 refine sO (mV rfl (mn (sO (mV rfl (mn (sq (bM ?_)))))))
 refine ExM.loop (σ := Int × List Nat) (fun σ => ⟨.al [(0, .int .i64 σ.1), (3, ov 0 σ.2)], oh σ.2, 20⟩) (fun σ => -1000000000000000 < σ.1 ∧ σ.1 < 1000000000000000 ∧ σ.2 ++ D6 σ.1.natAbs = D6 n.natAbs) (fun σ => σ.1.natAbs) (n, []) (Ap 0 rfl (Nat.le_refl _) rfl rfl (fzC rfl fvI (fzC rfl J0 fzN))) ⟨hn1, hn2, rfl⟩ ?_
 rintro ⟨x, l⟩ ⟨hx1, hx2, hx⟩
 simp only at hx1 hx2 hx ⊢
 have hlen : l.length ≤ 15 := by
  have h1 := congrArg List.length hx
  rw [lAp] at h1
  have h2 := E1 (n := n.natAbs) (k := 15) (by omega)
  omega
 by_cases h0 : x = 0
 · subst h0
   refine sq (sO (mV rfl (mF rfl (mn (cF rfl ?_)))))
   refine ExM.exit ?_
   refine sO ?_
   refine mFz (Ap (l := [(3, dg l)]) 0 rfl (Nat.le_refl _) rfl rfl (fzC rfl fvOv fzN)) ?_
   refine mV rfl (mV rfl (mn ?_))
   exact ExM.ret (A5 trivial rfl (by show dg l = dg (D6 n.natAbs); rw [← hx, show D6 (Int.natAbs 0) = [] from E4, List.append_nil]) rfl)
 · have hdv := tdivA x
   have hm0 : x.natAbs ≠ 0 := by omega
   rw [H7 hm0] at hx
   by_cases hp : 0 ≤ x
   · rcases l with _ | ⟨d, r⟩
     · refine sq (sO (mV rfl (mBk hg gN (c := true) rfl rfl (by rw [bne_iff_ne]; exact h0) (mn (cT rfl (kM (bM (sO (mV rfl (mKv hg gN (v := .int .i64 ((x.natAbs % 10 : Nat))) rfl rfl Dh (iE (A28 (by omega))) (mV rfl (mn (sq (sO (mV rfl (mF rfl (mn (cF rfl (kM (sO (mV rfl (mV rfl (mV (v := .hsl 1 0 0 1 (some 1)) rfl (Ba hg gN (v := .hsl 1 1 0 ([] ++ [x.natAbs % 10]).length none) rfl rfl (E3 (n := 1) (by decide)) (mV rfl (mn (oM (mV rfl (mKv hg gN (v := .int .i64 (x.tdiv 10)) rfl rfl Dh (Br (by omega) (by omega) rfl) (mV rfl (mn ?_)))))))))))))))))))))))))))))))
       exact ⟨(x.tdiv 10, [] ++ [x.natAbs % 10]), ⟨by simp only; omega, by simp only; omega, by simp only; rw [hdv, List.append_assoc]; exact hx⟩, by simp only; omega, Ap 2 rfl (Nat.zero_le _) rfl (Dw _) (fzC rfl fvI (fzC rfl (fvH rfl) fzN))⟩
     · refine sq (sO (mV rfl (mBk hg gN (c := true) rfl rfl (by rw [bne_iff_ne]; exact h0) (mn (cT rfl (kM (bM (sO (mV rfl (mKv hg gN (v := .int .i64 ((x.natAbs % 10 : Nat))) rfl rfl Dh (iE (A28 (by omega))) (mV rfl (mn (sq (sO (mV rfl (mF rfl (mn (cF rfl (kM (sO (mV rfl (mV rfl (mV (v := .hsl 1 2 0 1 (some 1)) rfl (Ba hg gN (v := .hsl 1 1 0 ((d :: r) ++ [x.natAbs % 10]).length none) (Qa rfl rfl rfl rfl rfl) rfl (E3 (by simp only [lCo] at *; omega)) (mV rfl (mn (oM (mV rfl (mKv hg gN (v := .int .i64 (x.tdiv 10)) rfl rfl Dh (Br (by omega) (by omega) rfl) (mV rfl (mn ?_)))))))))))))))))))))))))))))))
       exact ⟨(x.tdiv 10, (d :: r) ++ [x.natAbs % 10]), ⟨by simp only; omega, by simp only; omega, by simp only; rw [hdv, List.append_assoc]; exact hx⟩, by simp only; omega, Ap 2 rfl (Nat.zero_le _) rfl (Dw _) (fzC rfl fvI (fzC rfl (fvH rfl) fzN))⟩
   · by_cases hz : x.natAbs % 10 = 0
     · rcases l with _ | ⟨d, r⟩
       · refine sq (sO (mV rfl (mBk hg gN (c := true) rfl rfl (by rw [bne_iff_ne]; exact h0) (mn (cT rfl (kM (bM (sO (mV rfl (mKv hg gN (v := .int .i64 ((x.natAbs % 10 : Nat))) rfl rfl Dh (iE (by rw [Ug (by omega)]; omega)) (mV rfl (mn (sq (sO (mV rfl (mF rfl (mn (cF rfl (kM (sO (mV rfl (mV rfl (mV (v := .hsl 1 0 0 1 (some 1)) rfl (Ba hg gN (v := .hsl 1 1 0 ([] ++ [x.natAbs % 10]).length none) rfl rfl (E3 (n := 1) (by decide)) (mV rfl (mn (oM (mV rfl (mKv hg gN (v := .int .i64 (x.tdiv 10)) rfl rfl Dh (Br (by omega) (by omega) rfl) (mV rfl (mn ?_)))))))))))))))))))))))))))))))
         exact ⟨(x.tdiv 10, [] ++ [x.natAbs % 10]), ⟨by simp only; omega, by simp only; omega, by simp only; rw [hdv, List.append_assoc]; exact hx⟩, by simp only; omega, Ap 2 rfl (Nat.zero_le _) rfl (Dw _) (fzC rfl fvI (fzC rfl (fvH rfl) fzN))⟩
       · refine sq (sO (mV rfl (mBk hg gN (c := true) rfl rfl (by rw [bne_iff_ne]; exact h0) (mn (cT rfl (kM (bM (sO (mV rfl (mKv hg gN (v := .int .i64 ((x.natAbs % 10 : Nat))) rfl rfl Dh (iE (by rw [Ug (by omega)]; omega)) (mV rfl (mn (sq (sO (mV rfl (mF rfl (mn (cF rfl (kM (sO (mV rfl (mV rfl (mV (v := .hsl 1 2 0 1 (some 1)) rfl (Ba hg gN (v := .hsl 1 1 0 ((d :: r) ++ [x.natAbs % 10]).length none) (Qa rfl rfl rfl rfl rfl) rfl (E3 (by simp only [lCo] at *; omega)) (mV rfl (mn (oM (mV rfl (mKv hg gN (v := .int .i64 (x.tdiv 10)) rfl rfl Dh (Br (by omega) (by omega) rfl) (mV rfl (mn ?_)))))))))))))))))))))))))))))))
         exact ⟨(x.tdiv 10, (d :: r) ++ [x.natAbs % 10]), ⟨by simp only; omega, by simp only; omega, by simp only; rw [hdv, List.append_assoc]; exact hx⟩, by simp only; omega, Ap 2 rfl (Nat.zero_le _) rfl (Dw _) (fzC rfl fvI (fzC rfl (fvH rfl) fzN))⟩
     · rcases l with _ | ⟨d, r⟩
       · refine sq (sO (mV rfl (mBk hg gN (c := true) rfl rfl (by rw [bne_iff_ne]; exact h0) (mn (cT rfl (kM (bM (sO (mV rfl (mKv hg gN (v := .int .i64 (-((x.natAbs % 10 : Nat) : Int))) rfl rfl Dh (iE (Ug (by omega))) (mV rfl (mn (sq (sO (mV rfl (mT rfl (mn (cT rfl (oM (mV rfl (mI ((x.natAbs % 10 : Nat)) rfl (mV rfl (mn (sO (mV rfl (mV rfl (mV (v := .hsl 1 0 0 1 (some 1)) rfl (Ba hg gN (v := .hsl 1 1 0 ([] ++ [x.natAbs % 10]).length none) rfl rfl (E3 (n := 1) (by decide)) (mV rfl (mn (oM (mV rfl (mKv hg gN (v := .int .i64 (x.tdiv 10)) rfl rfl Dh (Br (by omega) (by omega) rfl) (mV rfl (mn ?_)))))))))))))))))))))))))))))))))))
         exact ⟨(x.tdiv 10, [] ++ [x.natAbs % 10]), ⟨by simp only; omega, by simp only; omega, by simp only; rw [hdv, List.append_assoc]; exact hx⟩, by simp only; omega, Ap 2 rfl (Nat.zero_le _) rfl (Dw _) (fzC rfl fvI (fzC rfl (fvH rfl) fzN))⟩
       · refine sq (sO (mV rfl (mBk hg gN (c := true) rfl rfl (by rw [bne_iff_ne]; exact h0) (mn (cT rfl (kM (bM (sO (mV rfl (mKv hg gN (v := .int .i64 (-((x.natAbs % 10 : Nat) : Int))) rfl rfl Dh (iE (Ug (by omega))) (mV rfl (mn (sq (sO (mV rfl (mT rfl (mn (cT rfl (oM (mV rfl (mI ((x.natAbs % 10 : Nat)) rfl (mV rfl (mn (sO (mV rfl (mV rfl (mV (v := .hsl 1 2 0 1 (some 1)) rfl (Ba hg gN (v := .hsl 1 1 0 ((d :: r) ++ [x.natAbs % 10]).length none) (Qa rfl rfl rfl rfl rfl) rfl (E3 (by simp only [lCo] at *; omega)) (mV rfl (mn (oM (mV rfl (mKv hg gN (v := .int .i64 (x.tdiv 10)) rfl rfl Dh (Br (by omega) (by omega) rfl) (mV rfl (mn ?_)))))))))))))))))))))))))))))))))))
         exact ⟨(x.tdiv 10, (d :: r) ++ [x.natAbs % 10]), ⟨by simp only; omega, by simp only; omega, by simp only; rw [hdv, List.append_assoc]; exact hx⟩, by simp only; omega, Ap 2 rfl (Nat.zero_le _) rfl (Dw _) (fzC rfl fvI (fzC rfl (fvH rfl) fzN))⟩
theorem Int.ofNat_tdiv_ten {x : Nat} : ((x : Nat) : Int).tdiv 10 = ((x / 10 : Nat) : Int) := (Int.ofNat_tdiv x 10).symm
theorem plusP (hg : Gr Tryz.prog W0 G) {a b : List Nat} (ha : Dig a) (hb : Dig b) (hla : a.length ≤ 100000) (hlb : b.length ≤ 100000) (H : Hz) : cP W0 152 [dg a, dg b] H (dN (val a + val b)) H := by
 refine A3.pure (by simp [C0, blw, dg, C7]) (A32 0 _) ?_ H
 refine A3.of_fnM KG152 (by simp) rfl ?_
 refine sO (mV rfl (mn (sO (mV rfl (mn (sO (mV rfl (mn (sq (sO (mV rfl (mn (bM ?_)))))))))))))
 refine ExM.loop (σ := Nat × Nat × List Nat) (fun σ => ⟨.al [(0, dg a), (1, dg b), (5, ov 0 σ.2.2), (6, .int .i64 (σ.2.1 : Nat)), (7, .int .i64 (σ.1 : Nat))], oh σ.2.2, 43⟩) (fun σ => Np a b σ.2.2 σ.1 σ.2.1) (fun σ => max a.length b.length + 1 - σ.1) (0, 0, []) (Ap 0 rfl (Nat.le_refl _) rfl rfl (fzC rfl fvD (fzC rfl fvD (fzC rfl J0 (fzC rfl fvI (fzC rfl fvI fzN)))))) (Np.zero a b) ?_
 rintro ⟨i, c, l⟩ hI
 simp only at hI ⊢
 have hll := hI.len
 have hc := hI.hc
 have hib : i ≤ 100001 := by have := hI.e; omega
 have hka := ha.get i
 have hkb := hb.get i
 by_cases h1 : i < a.length
 · rcases l with _ | ⟨d, r⟩
   · refine sq (sO (mV rfl (mV rfl (mV (v := .int .i64 (a.length : Nat)) (E0 rfl) (mT rfl (mV rfl (mG (mG (mG (mG (mV rfl (mV rfl (mG (mG (mV rfl (mn (cT rfl (kM (sq (bM (sO (mV rfl (mV rfl (mC rfl (atP hg _) (mV rfl (mV rfl (mC rfl (atP hg _) (mI ((a.getD i 0 + b.getD i 0 : Nat)) rfl (mV rfl (mI ((a.getD i 0 + b.getD i 0 + c : Nat)) rfl (mV rfl (mn (sO (mV rfl (mV rfl (mKv hg gN (v := .int .i64 (((a.getD i 0 + b.getD i 0 + c) % 10 : Nat))) rfl rfl Dh (iE (Int.ofNat_tmod _ 10).symm) (mV (v := .hsl 1 0 0 1 (some 1)) rfl (Ba hg gN (v := .hsl 1 1 0 ([] ++ [(a.getD i 0 + b.getD i 0 + c) % 10]).length none) rfl rfl (E3 (n := 1) (by decide)) (mV rfl (mn (oM (mV rfl (mKv hg gN (v := .int .i64 (((a.getD i 0 + b.getD i 0 + c) / 10 : Nat))) rfl rfl Dh (Br (by rw [Int.ofNat_tdiv_ten]; omega) (by rw [Int.ofNat_tdiv_ten]; omega) Int.ofNat_tdiv_ten) (mV rfl (mn (oM (mV rfl (mI ((i + 1 : Nat)) rfl (mV rfl (mn ?_))))))))))))))))))))))))))))))))))))))))))))))))))
     exact ⟨(i + 1, (a.getD i 0 + b.getD i 0 + c) / 10, [] ++ [(a.getD i 0 + b.getD i 0 + c) % 10]), hI.step ha hb (by omega), by simp only; have := hI.e; omega, Ap 2 rfl (Nat.zero_le _) rfl (Dw _) (fzC rfl fvD (fzC rfl fvD (fzC rfl (fvH rfl) (fzC rfl fvI (fzC rfl fvI fzN)))))⟩
   · refine sq (sO (mV rfl (mV rfl (mV (v := .int .i64 (a.length : Nat)) (E0 rfl) (mT rfl (mV rfl (mG (mG (mG (mG (mV rfl (mV rfl (mG (mG (mV rfl (mn (cT rfl (kM (sq (bM (sO (mV rfl (mV rfl (mC rfl (atP hg _) (mV rfl (mV rfl (mC rfl (atP hg _) (mI ((a.getD i 0 + b.getD i 0 : Nat)) rfl (mV rfl (mI ((a.getD i 0 + b.getD i 0 + c : Nat)) rfl (mV rfl (mn (sO (mV rfl (mV rfl (mKv hg gN (v := .int .i64 (((a.getD i 0 + b.getD i 0 + c) % 10 : Nat))) rfl rfl Dh (iE (Int.ofNat_tmod _ 10).symm) (mV (v := .hsl 1 2 0 1 (some 1)) rfl (Ba hg gN (v := .hsl 1 1 0 ((d :: r) ++ [(a.getD i 0 + b.getD i 0 + c) % 10]).length none) (Qa rfl rfl rfl rfl rfl) rfl (E3 (by simp only [lCo] at *; omega)) (mV rfl (mn (oM (mV rfl (mKv hg gN (v := .int .i64 (((a.getD i 0 + b.getD i 0 + c) / 10 : Nat))) rfl rfl Dh (Br (by rw [Int.ofNat_tdiv_ten]; omega) (by rw [Int.ofNat_tdiv_ten]; omega) Int.ofNat_tdiv_ten) (mV rfl (mn (oM (mV rfl (mI ((i + 1 : Nat)) rfl (mV rfl (mn ?_))))))))))))))))))))))))))))))))))))))))))))))))))
     exact ⟨(i + 1, (a.getD i 0 + b.getD i 0 + c) / 10, (d :: r) ++ [(a.getD i 0 + b.getD i 0 + c) % 10]), hI.step ha hb (by omega), by simp only; have := hI.e; omega, Ap 2 rfl (Nat.zero_le _) rfl (Dw _) (fzC rfl fvD (fzC rfl fvD (fzC rfl (fvH rfl) (fzC rfl fvI (fzC rfl fvI fzN)))))⟩
 · by_cases h2 : i < b.length
   · rcases l with _ | ⟨d, r⟩
     · refine sq (sO (mV rfl (mV rfl (mV (v := .int .i64 (a.length : Nat)) (E0 rfl) (mF rfl (mV rfl (mV rfl (mV rfl (mV (v := .int .i64 (b.length : Nat)) (E0 rfl) (mT rfl (mV rfl (mV rfl (mG (mG (mV rfl (mn (cT rfl (kM (sq (bM (sO (mV rfl (mV rfl (mC rfl (atP hg _) (mV rfl (mV rfl (mC rfl (atP hg _) (mI ((a.getD i 0 + b.getD i 0 : Nat)) rfl (mV rfl (mI ((a.getD i 0 + b.getD i 0 + c : Nat)) rfl (mV rfl (mn (sO (mV rfl (mV rfl (mKv hg gN (v := .int .i64 (((a.getD i 0 + b.getD i 0 + c) % 10 : Nat))) rfl rfl Dh (iE (Int.ofNat_tmod _ 10).symm) (mV (v := .hsl 1 0 0 1 (some 1)) rfl (Ba hg gN (v := .hsl 1 1 0 ([] ++ [(a.getD i 0 + b.getD i 0 + c) % 10]).length none) rfl rfl (E3 (n := 1) (by decide)) (mV rfl (mn (oM (mV rfl (mKv hg gN (v := .int .i64 (((a.getD i 0 + b.getD i 0 + c) / 10 : Nat))) rfl rfl Dh (Br (by rw [Int.ofNat_tdiv_ten]; omega) (by rw [Int.ofNat_tdiv_ten]; omega) Int.ofNat_tdiv_ten) (mV rfl (mn (oM (mV rfl (mI ((i + 1 : Nat)) rfl (mV rfl (mn ?_))))))))))))))))))))))))))))))))))))))))))))))))))
       exact ⟨(i + 1, (a.getD i 0 + b.getD i 0 + c) / 10, [] ++ [(a.getD i 0 + b.getD i 0 + c) % 10]), hI.step ha hb (by omega), by simp only; have := hI.e; omega, Ap 2 rfl (Nat.zero_le _) rfl (Dw _) (fzC rfl fvD (fzC rfl fvD (fzC rfl (fvH rfl) (fzC rfl fvI (fzC rfl fvI fzN)))))⟩
     · refine sq (sO (mV rfl (mV rfl (mV (v := .int .i64 (a.length : Nat)) (E0 rfl) (mF rfl (mV rfl (mV rfl (mV rfl (mV (v := .int .i64 (b.length : Nat)) (E0 rfl) (mT rfl (mV rfl (mV rfl (mG (mG (mV rfl (mn (cT rfl (kM (sq (bM (sO (mV rfl (mV rfl (mC rfl (atP hg _) (mV rfl (mV rfl (mC rfl (atP hg _) (mI ((a.getD i 0 + b.getD i 0 : Nat)) rfl (mV rfl (mI ((a.getD i 0 + b.getD i 0 + c : Nat)) rfl (mV rfl (mn (sO (mV rfl (mV rfl (mKv hg gN (v := .int .i64 (((a.getD i 0 + b.getD i 0 + c) % 10 : Nat))) rfl rfl Dh (iE (Int.ofNat_tmod _ 10).symm) (mV (v := .hsl 1 2 0 1 (some 1)) rfl (Ba hg gN (v := .hsl 1 1 0 ((d :: r) ++ [(a.getD i 0 + b.getD i 0 + c) % 10]).length none) (Qa rfl rfl rfl rfl rfl) rfl (E3 (by simp only [lCo] at *; omega)) (mV rfl (mn (oM (mV rfl (mKv hg gN (v := .int .i64 (((a.getD i 0 + b.getD i 0 + c) / 10 : Nat))) rfl rfl Dh (Br (by rw [Int.ofNat_tdiv_ten]; omega) (by rw [Int.ofNat_tdiv_ten]; omega) Int.ofNat_tdiv_ten) (mV rfl (mn (oM (mV rfl (mI ((i + 1 : Nat)) rfl (mV rfl (mn ?_))))))))))))))))))))))))))))))))))))))))))))))))))
       exact ⟨(i + 1, (a.getD i 0 + b.getD i 0 + c) / 10, (d :: r) ++ [(a.getD i 0 + b.getD i 0 + c) % 10]), hI.step ha hb (by omega), by simp only; have := hI.e; omega, Ap 2 rfl (Nat.zero_le _) rfl (Dw _) (fzC rfl fvD (fzC rfl fvD (fzC rfl (fvH rfl) (fzC rfl fvI (fzC rfl fvI fzN)))))⟩
   · by_cases h3 : 0 < c
     · rcases l with _ | ⟨d, r⟩
       · refine sq (sO (mV rfl (mV rfl (mV (v := .int .i64 (a.length : Nat)) (E0 rfl) (mF rfl (mV rfl (mV rfl (mV rfl (mV (v := .int .i64 (b.length : Nat)) (E0 rfl) (mF rfl (mV rfl (mV rfl (mV rfl (mT rfl (mV rfl (mn (cT rfl (kM (sq (bM (sO (mV rfl (mV rfl (mC rfl (atP hg _) (mV rfl (mV rfl (mC rfl (atP hg _) (mI ((a.getD i 0 + b.getD i 0 : Nat)) rfl (mV rfl (mI ((a.getD i 0 + b.getD i 0 + c : Nat)) rfl (mV rfl (mn (sO (mV rfl (mV rfl (mKv hg gN (v := .int .i64 (((a.getD i 0 + b.getD i 0 + c) % 10 : Nat))) rfl rfl Dh (iE (Int.ofNat_tmod _ 10).symm) (mV (v := .hsl 1 0 0 1 (some 1)) rfl (Ba hg gN (v := .hsl 1 1 0 ([] ++ [(a.getD i 0 + b.getD i 0 + c) % 10]).length none) rfl rfl (E3 (n := 1) (by decide)) (mV rfl (mn (oM (mV rfl (mKv hg gN (v := .int .i64 (((a.getD i 0 + b.getD i 0 + c) / 10 : Nat))) rfl rfl Dh (Br (by rw [Int.ofNat_tdiv_ten]; omega) (by rw [Int.ofNat_tdiv_ten]; omega) Int.ofNat_tdiv_ten) (mV rfl (mn (oM (mV rfl (mI ((i + 1 : Nat)) rfl (mV rfl (mn ?_))))))))))))))))))))))))))))))))))))))))))))))))))
         exact ⟨(i + 1, (a.getD i 0 + b.getD i 0 + c) / 10, [] ++ [(a.getD i 0 + b.getD i 0 + c) % 10]), hI.step ha hb (by omega), by simp only; have := hI.e; omega, Ap 2 rfl (Nat.zero_le _) rfl (Dw _) (fzC rfl fvD (fzC rfl fvD (fzC rfl (fvH rfl) (fzC rfl fvI (fzC rfl fvI fzN)))))⟩
       · refine sq (sO (mV rfl (mV rfl (mV (v := .int .i64 (a.length : Nat)) (E0 rfl) (mF rfl (mV rfl (mV rfl (mV rfl (mV (v := .int .i64 (b.length : Nat)) (E0 rfl) (mF rfl (mV rfl (mV rfl (mV rfl (mT rfl (mV rfl (mn (cT rfl (kM (sq (bM (sO (mV rfl (mV rfl (mC rfl (atP hg _) (mV rfl (mV rfl (mC rfl (atP hg _) (mI ((a.getD i 0 + b.getD i 0 : Nat)) rfl (mV rfl (mI ((a.getD i 0 + b.getD i 0 + c : Nat)) rfl (mV rfl (mn (sO (mV rfl (mV rfl (mKv hg gN (v := .int .i64 (((a.getD i 0 + b.getD i 0 + c) % 10 : Nat))) rfl rfl Dh (iE (Int.ofNat_tmod _ 10).symm) (mV (v := .hsl 1 2 0 1 (some 1)) rfl (Ba hg gN (v := .hsl 1 1 0 ((d :: r) ++ [(a.getD i 0 + b.getD i 0 + c) % 10]).length none) (Qa rfl rfl rfl rfl rfl) rfl (E3 (by simp only [lCo] at *; omega)) (mV rfl (mn (oM (mV rfl (mKv hg gN (v := .int .i64 (((a.getD i 0 + b.getD i 0 + c) / 10 : Nat))) rfl rfl Dh (Br (by rw [Int.ofNat_tdiv_ten]; omega) (by rw [Int.ofNat_tdiv_ten]; omega) Int.ofNat_tdiv_ten) (mV rfl (mn (oM (mV rfl (mI ((i + 1 : Nat)) rfl (mV rfl (mn ?_))))))))))))))))))))))))))))))))))))))))))))))))))
         exact ⟨(i + 1, (a.getD i 0 + b.getD i 0 + c) / 10, (d :: r) ++ [(a.getD i 0 + b.getD i 0 + c) % 10]), hI.step ha hb (by omega), by simp only; have := hI.e; omega, Ap 2 rfl (Nat.zero_le _) rfl (Dw _) (fzC rfl fvD (fzC rfl fvD (fzC rfl (fvH rfl) (fzC rfl fvI (fzC rfl fvI fzN)))))⟩
     · refine sq (sO (mV rfl (mV rfl (mV (v := .int .i64 (a.length : Nat)) (E0 rfl) (mF rfl (mV rfl (mV rfl (mV rfl (mV (v := .int .i64 (b.length : Nat)) (E0 rfl) (mF rfl (mV rfl (mV rfl (mV rfl (mF rfl (mV rfl (mn (cF rfl ?_)))))))))))))))))
       refine ExM.exit ?_
       refine sO (mV rfl ?_)
       refine mFz (Ap (l := [(41, dg l)]) 0 rfl (Nat.le_refl _) rfl rfl (fzC rfl fvOv fzN)) ?_
       refine mC rfl (show cP W0 146 [dg l] [] (dN (val a + val b)) [] from by rw [dN, ← hI.fin h1 h2 h3, ← Jf hI.dig]; exact Tt hg (by have := hI.e; omega)) (mV rfl (mn ?_))
       exact ExM.ret (A5 trivial rfl rfl rfl)
theorem minusP (hg : Gr Tryz.prog W0 G) {a b : List Nat} (ha : Dig a) (hb : Dig b) (tb : Trd b) (hv : val b ≤ val a) (hla : a.length ≤ 100000) (H : Hz) : cP W0 220 [dg a, dg b] H (dN (val a - val b)) H := by
 refine A3.pure (by simp [C0, blw, dg, C7]) (A32 0 _) ?_ H
 refine A3.of_fnM KG220 (by simp) rfl ?_
 refine sO (mV rfl (mn (sO (mV rfl (mn (sO (mV rfl (mn (sq (sO (mV rfl (mn (bM ?_)))))))))))))
 refine ExM.loop (σ := Nat × Nat × List Nat) (fun σ => ⟨.al [(0, dg a), (1, dg b), (5, ov 0 σ.2.2), (6, .int .i64 (σ.2.1 : Nat)), (7, .int .i64 (σ.1 : Nat))], oh σ.2.2, 35⟩) (fun σ => σ.1 ≤ a.length ∧ G8 a b σ.2.2 σ.1 σ.2.1) (fun σ => a.length - σ.1) (0, 0, []) (Ap 0 rfl (Nat.le_refl _) rfl rfl (fzC rfl fvD (fzC rfl fvD (fzC rfl J0 (fzC rfl fvI (fzC rfl fvI fzN)))))) ⟨Nat.zero_le _, G8.zero a b⟩ ?_
 rintro ⟨i, c, l⟩ ⟨hi, hI⟩
 simp only at hi hI ⊢
 have hll := hI.len
 have hc := hI.hc
 have hka := ha.get i
 have hkb := hb.get i
 by_cases h1 : i < a.length
 · by_cases hb1 : a.getD i 0 < b.getD i 0 + c
   · rcases l with _ | ⟨d, r⟩
     · refine sq (sO (mV rfl (mV rfl (mV (v := .int .i64 (a.length : Nat)) (E0 rfl) (mT rfl (mn (cT rfl (kM (sq (bM (sq ?_)))))))))))
       refine ExM.draw hg ?_
       refine qV rfl (qV rfl (C5 (v := .eptr (.int .i64 (a.getD i 0 : Nat)) 0) (Ew rfl rfl (by omega)) rfl (by first | exact trivial | decide | (simp only [Ae, and_true]; omega)) (qV rfl (qV rfl (qV rfl (Da rfl rfl (atP hg _) (qKv (v := .int .i64 ((a.getD i 0 : Nat) - (b.getD i 0 : Nat))) rfl rfl trivial (Br (by omega) (by omega) rfl) (qV rfl (qKv (v := .int .i64 ((a.getD i 0 : Nat) - (b.getD i 0 : Nat) - (c : Nat))) rfl rfl trivial (Br (by omega) (by omega) (by omega)) (qV rfl (Et (ExM.seq (ExM.ops hg (Ba hg gN rfl rfl trivial (Hl (ExM.seq (ExM.seq (ExM.ops hg (Ba hg gN rfl rfl trivial (mBk hg gN (c := true) rfl rfl (decide_eq_true (by omega)) (Hl (ExM.condT hg rfl (ExM.seq (ExM.ops hg (Ba hg gN rfl rfl trivial (mKv hg gN (v := .int .i64 ((a.getD i 0 + 10 - b.getD i 0 - c : Nat))) rfl rfl (by first | exact trivial | (simp only [Ae, and_true, lCo, lNi, lAp]; omega)) (Br (by omega) (by omega) (by omega)) (Ba hg gN rfl rfl trivial (Hl (ExM.ops hg (Ba hg gN rfl rfl trivial (Hl (ExM.ops hg (Ba hg gN rfl rfl trivial (Ba hg gN rfl rfl trivial (Ba hg gN (v := .hsl 1 0 0 1 (some 1)) rfl rfl trivial (Ba hg gN (v := .hsl 1 1 0 ([] ++ [a.getD i 0 + 10 - b.getD i 0 - c]).length none) rfl rfl (E3 (n := 1) (by decide)) (Ba hg gN rfl rfl trivial (Hl (ExM.ops hg (Ba hg gN rfl rfl trivial (mKv hg gN (v := .int .i64 ((i + 1 : Nat))) rfl rfl (by first | exact trivial | (simp only [Ae, and_true, lCo, lNi, lAp]; omega)) (Br (by omega) (by omega) (by omega)) (Ba hg gN rfl rfl trivial (Hl (?_))))))))))))))))))))))))))))))))))))))))))))
       exact ⟨(i + 1, 1, [] ++ [a.getD i 0 + 10 - b.getD i 0 - c]), ⟨by simp only; omega, hI.step1 (by omega) (by omega)⟩, by simp only; omega, Ap 2 rfl (Nat.zero_le _) rfl (Dw _) (fzC rfl fvD (fzC rfl fvD (fzC rfl (fvH rfl) (fzC rfl fvI (fzC rfl fvI fzN)))))⟩
     · refine sq (sO (mV rfl (mV rfl (mV (v := .int .i64 (a.length : Nat)) (E0 rfl) (mT rfl (mn (cT rfl (kM (sq (bM (sq ?_)))))))))))
       refine ExM.draw hg ?_
       refine qV rfl (qV rfl (C5 (v := .eptr (.int .i64 (a.getD i 0 : Nat)) 0) (Ew rfl rfl (by omega)) rfl (by first | exact trivial | decide | (simp only [Ae, and_true]; omega)) (qV rfl (qV rfl (qV rfl (Da rfl rfl (atP hg _) (qKv (v := .int .i64 ((a.getD i 0 : Nat) - (b.getD i 0 : Nat))) rfl rfl trivial (Br (by omega) (by omega) rfl) (qV rfl (qKv (v := .int .i64 ((a.getD i 0 : Nat) - (b.getD i 0 : Nat) - (c : Nat))) rfl rfl trivial (Br (by omega) (by omega) (by omega)) (qV rfl (Et (ExM.seq (ExM.ops hg (Ba hg gN rfl rfl trivial (Hl (ExM.seq (ExM.seq (ExM.ops hg (Ba hg gN rfl rfl trivial (mBk hg gN (c := true) rfl rfl (decide_eq_true (by omega)) (Hl (ExM.condT hg rfl (ExM.seq (ExM.ops hg (Ba hg gN rfl rfl trivial (mKv hg gN (v := .int .i64 ((a.getD i 0 + 10 - b.getD i 0 - c : Nat))) rfl rfl (by first | exact trivial | (simp only [Ae, and_true, lCo, lNi, lAp]; omega)) (Br (by omega) (by omega) (by omega)) (Ba hg gN rfl rfl trivial (Hl (ExM.ops hg (Ba hg gN rfl rfl trivial (Hl (ExM.ops hg (Ba hg gN rfl rfl trivial (Ba hg gN rfl rfl trivial (Ba hg gN (v := .hsl 1 2 0 1 (some 1)) rfl rfl trivial (Ba hg gN (v := .hsl 1 1 0 ((d :: r) ++ [a.getD i 0 + 10 - b.getD i 0 - c]).length none) (Qa rfl rfl rfl rfl rfl) rfl (E3 (by simp only [lCo] at *; omega)) (Ba hg gN rfl rfl trivial (Hl (ExM.ops hg (Ba hg gN rfl rfl trivial (mKv hg gN (v := .int .i64 ((i + 1 : Nat))) rfl rfl (by first | exact trivial | (simp only [Ae, and_true, lCo, lNi, lAp]; omega)) (Br (by omega) (by omega) (by omega)) (Ba hg gN rfl rfl trivial (Hl (?_))))))))))))))))))))))))))))))))))))))))))))
       exact ⟨(i + 1, 1, (d :: r) ++ [a.getD i 0 + 10 - b.getD i 0 - c]), ⟨by simp only; omega, hI.step1 (by omega) (by omega)⟩, by simp only; omega, Ap 2 rfl (Nat.zero_le _) rfl (Dw _) (fzC rfl fvD (fzC rfl fvD (fzC rfl (fvH rfl) (fzC rfl fvI (fzC rfl fvI fzN)))))⟩
   · rcases l with _ | ⟨d, r⟩
     · refine sq (sO (mV rfl (mV rfl (mV (v := .int .i64 (a.length : Nat)) (E0 rfl) (mT rfl (mn (cT rfl (kM (sq (bM (sq ?_)))))))))))
       refine ExM.draw hg ?_
       refine qV rfl (qV rfl (C5 (v := .eptr (.int .i64 (a.getD i 0 : Nat)) 0) (Ew rfl rfl (by omega)) rfl (by first | exact trivial | decide | (simp only [Ae, and_true]; omega)) (qV rfl (qV rfl (qV rfl (Da rfl rfl (atP hg _) (qKv (v := .int .i64 ((a.getD i 0 : Nat) - (b.getD i 0 : Nat))) rfl rfl trivial (Br (by omega) (by omega) rfl) (qV rfl (qKv (v := .int .i64 ((a.getD i 0 - b.getD i 0 - c : Nat))) rfl rfl trivial (Br (by omega) (by omega) (by omega)) (qV rfl (Et (ExM.seq (ExM.ops hg (Ba hg gN rfl rfl trivial (Hl (ExM.seq (ExM.seq (ExM.ops hg (Ba hg gN rfl rfl trivial (mBk hg gN (c := false) rfl rfl (dF (by omega)) (Hl (ExM.condF hg rfl (ExM.skip (ExM.ops hg (Ba hg gN rfl rfl trivial (Ba hg gN rfl rfl trivial (Ba hg gN (v := .hsl 1 0 0 1 (some 1)) rfl rfl trivial (Ba hg gN (v := .hsl 1 1 0 ([] ++ [a.getD i 0 - b.getD i 0 - c]).length none) rfl rfl (E3 (n := 1) (by decide)) (Ba hg gN rfl rfl trivial (Hl (ExM.ops hg (Ba hg gN rfl rfl trivial (mKv hg gN (v := .int .i64 ((i + 1 : Nat))) rfl rfl (by first | exact trivial | (simp only [Ae, and_true, lCo, lNi, lAp]; omega)) (Br (by omega) (by omega) (by omega)) (Ba hg gN rfl rfl trivial (Hl (?_))))))))))))))))))))))))))))))))))))
       exact ⟨(i + 1, 0, [] ++ [a.getD i 0 - b.getD i 0 - c]), ⟨by simp only; omega, hI.step0 (by omega) (by omega)⟩, by simp only; omega, Ap 2 rfl (Nat.zero_le _) rfl (Dw _) (fzC rfl fvD (fzC rfl fvD (fzC rfl (fvH rfl) (fzC rfl fvI (fzC rfl fvI fzN)))))⟩
     · refine sq (sO (mV rfl (mV rfl (mV (v := .int .i64 (a.length : Nat)) (E0 rfl) (mT rfl (mn (cT rfl (kM (sq (bM (sq ?_)))))))))))
       refine ExM.draw hg ?_
       refine qV rfl (qV rfl (C5 (v := .eptr (.int .i64 (a.getD i 0 : Nat)) 0) (Ew rfl rfl (by omega)) rfl (by first | exact trivial | decide | (simp only [Ae, and_true]; omega)) (qV rfl (qV rfl (qV rfl (Da rfl rfl (atP hg _) (qKv (v := .int .i64 ((a.getD i 0 : Nat) - (b.getD i 0 : Nat))) rfl rfl trivial (Br (by omega) (by omega) rfl) (qV rfl (qKv (v := .int .i64 ((a.getD i 0 - b.getD i 0 - c : Nat))) rfl rfl trivial (Br (by omega) (by omega) (by omega)) (qV rfl (Et (ExM.seq (ExM.ops hg (Ba hg gN rfl rfl trivial (Hl (ExM.seq (ExM.seq (ExM.ops hg (Ba hg gN rfl rfl trivial (mBk hg gN (c := false) rfl rfl (dF (by omega)) (Hl (ExM.condF hg rfl (ExM.skip (ExM.ops hg (Ba hg gN rfl rfl trivial (Ba hg gN rfl rfl trivial (Ba hg gN (v := .hsl 1 2 0 1 (some 1)) rfl rfl trivial (Ba hg gN (v := .hsl 1 1 0 ((d :: r) ++ [a.getD i 0 - b.getD i 0 - c]).length none) (Qa rfl rfl rfl rfl rfl) rfl (E3 (by simp only [lCo] at *; omega)) (Ba hg gN rfl rfl trivial (Hl (ExM.ops hg (Ba hg gN rfl rfl trivial (mKv hg gN (v := .int .i64 ((i + 1 : Nat))) rfl rfl (by first | exact trivial | (simp only [Ae, and_true, lCo, lNi, lAp]; omega)) (Br (by omega) (by omega) (by omega)) (Ba hg gN rfl rfl trivial (Hl (?_))))))))))))))))))))))))))))))))))))
       exact ⟨(i + 1, 0, (d :: r) ++ [a.getD i 0 - b.getD i 0 - c]), ⟨by simp only; omega, hI.step0 (by omega) (by omega)⟩, by simp only; omega, Ap 2 rfl (Nat.zero_le _) rfl (Dw _) (fzC rfl fvD (fzC rfl fvD (fzC rfl (fvH rfl) (fzC rfl fvI (fzC rfl fvI fzN)))))⟩
 · have : i = a.length := by omega
   subst this
   have hf := hI.fin ha hb tb hv
   refine sq (sO (mV rfl (mV rfl (mV (v := .int .i64 (a.length : Nat)) (E0 rfl) (mF rfl (mn (cF rfl ?_)))))))
   refine ExM.exit ?_
   refine sO (mV rfl ?_)
   refine mFz (Ap (l := [(33, dg l)]) 0 rfl (Nat.le_refl _) rfl rfl (fzC rfl fvOv fzN)) ?_
   refine mC rfl (show cP W0 146 [dg l] [] (dN (val a - val b)) [] from by rw [dN, show val a - val b = val l by omega, ← Jf hI.dig]; exact Tt hg (by omega)) (mV rfl (mn ?_))
   exact ExM.ret (A5 trivial rfl rfl rfl)
theorem Cf {H : Hz} {n v : Nat} : FzV H n (dN v) (dN v) := fvD
theorem A20 (n v : Nat) : blw n (dN v) = true := A32 n _
theorem dN0 : dN 0 = dg [] := by rw [dN, E4]
theorem dN1 : dN 1 = dg [1] := by rw [dN, H7 (by decide), show (1 : Nat) / 10 = 0 from rfl, E4]
theorem Bl (hg : Gr Tryz.prog W0 G) {x y : Nat} (hx : x < 10 ^ 250) (hy : y < 10 ^ 250) (H : Hz) : cP W0 97 [dN x, dN y] H (.bool (decide (x < y))) H := by
 rw [← less_dN]
 have h1 := E1 hx
 have h2 := E1 hy
 exact lessP hg (by omega) (by omega) H
theorem A2n (hg : Gr Tryz.prog W0 G) {x y : Nat} (hx : x < 10 ^ 250) (hxy : y ≤ x) (H : Hz) : cP W0 220 [dN x, dN y] H (dN (x - y)) H := by
 have h1 := E1 hx
 have := minusP hg (Eu x) (Eu y) (Jp y) (by rw [D5, D5]; exact hxy) (by omega) H
 rw [D5, D5] at this
 exact this
theorem Ft (hg : Gr Tryz.prog W0 G) {x y : Nat} (hx : x < 10 ^ 250) (hy : y < 10 ^ 250) (H : Hz) : cP W0 152 [dN x, dN y] H (dN (x + y)) H := by
 have h1 := E1 hx
 have h2 := E1 hy
 have := plusP hg (Eu x) (Eu y) (by omega) (by omega) H
 rw [D5, D5] at this
 exact this
theorem bnd1 {y r s d x : Nat} (hyl : y < 10 ^ 249) (hry : r < y) (hx : x < 10) (hs : d * y + s = x + 10 * r) : s < 10 ^ 250 := by
 have h1 : 10 ^ 250 = 10 * 10 ^ 249 := by rw [← Nat.pow_succ']
 rw [h1]
 generalize 10 ^ 249 = P at *
 omega
theorem bnd2 {y r s d x : Nat} (hry : r < y) (hx : x < 10) (hs : d * y + s = x + 10 * r) : d ≤ 20 := by
 apply Classical.byContradiction
 intro hc
 have : 21 * y ≤ d * y := Nat.mul_le_mul_right _ (by omega)
 omega
theorem Ao {k : Nat} (h : k ≤ 250) : 10 ^ k ≤ 10 ^ 250 := Nat.pow_le_pow_right (by decide) h
theorem S7 {x v : Nat} (hx : x < 10) : If (x :: D6 v) = D6 (x + 10 * v) := by
 rw [Jf ((Eu v).cons hx), G5, D5]
def KF151 : AFn := ⟨(sQ [wV 4 (.move (.val (.nilSl))), wV 5 (.move (.val (.nilSl)))] (sQ [wV 6 (.move (.val (.nilSl)))] (sQ [wV 7 (.move (.val (.nilSl)))] (.seq (sQ [wM 10 0, wV 11 (.len false 10), wV 12 (.bin .sub none 11 (vI 1)), wM 8 12] (.block 0 (.loop (.seq (sQ [wM 13 8, wV 14 (.bin .geq none 13 (vI 0))] (.cond 14 .skip (.exit 0))) (.seq (.block 1 (sQ [wM 17 0, wM 18 8, wV 19 (.idxSl 1 17 18), wV 20 (.load 1 false 19), wV 21 (.bslice 3 1 1 [.int .i64 0] [(0, 1, 20)]), wM 22 7, wV 23 (.append 3 1 8 21 22), wV 24 (kF 146 [23]), wM 7 24] (sQ [wV 9 (.move (vI 0))] (.seq (.block 2 (.loop (.seq (sQ [wM 25 7, wM 26 1, wV 27 (kF 97 [25, 26]), wV 28 (.un .not 27)] (.cond 28 .skip (.exit 2))) (.block 3 (sQ [wM 29 7, wM 30 1, wV 31 (kF 220 [29, 30]), wM 7 31] (.ops [wM 32 9, wV 33 (.bin .add none 32 (vI 1)), wM 9 33])))))) (.ops [wM 34 9, wV 35 (.bslice 3 1 1 [.int .i64 0] [(0, 1, 34)]), wM 36 6, wV 37 (.append 3 1 8 35 36), wM 6 37]))))) (.ops [wM 15 8, wV 16 (.bin .sub none 15 (vI 1)), wM 8 16])))))) (sQ [wM 38 6, wV 39 (kF 146 [38]), wM 40 7, wM 4 39, wM 5 40] .ret))))), [4, 5], 41⟩
theorem KG151 : Au Tryz.prog 151 = some KF151 := by kernel_rfl
theorem byP (hg : Gr Tryz.prog W0 G) {a : List Nat} {y : Nat} (ha : Dig a) (hy : 0 < y) (hyl : y < 10 ^ 249) (hla : a.length ≤ 1000) (H : Hz) : cP W0 151 [dg a, dN y] H (.tup [dN (val a / y), dN (val a % y)]) H := by
 refine A3.pure (by simp [C0, blw, dg, C7, A20]) (by simp [blw, C0, A20]) ?_ H
 refine A3.of_fnM KG151 (by simp) rfl ?_
 refine sO (mV rfl (mV rfl (mn (sO (mV rfl (mn (sO (mV rfl (mn (sq (sO (mV rfl (mV (v := .int .i64 (a.length : Nat)) (E0 rfl) (mK (v := .int .i64 ((a.length : Nat) - 1)) rfl (Br (by omega) (by omega) rfl) (mV rfl (mn (bM ?_)))))))))))))))))
 refine ExM.loop (σ := Nat × List Nat × Nat) (fun σ => ⟨.al [(0, dg a), (1, dN y), (6, dg σ.2.1), (7, dN σ.2.2), (8, .int .i64 (((σ.1 : Nat) : Int) - 1))], [], 41⟩) (fun σ => ByI a y σ.2.1 σ.2.2 σ.1) (fun σ => σ.1) (a.length, [], 0) (Ap 0 rfl (Nat.le_refl _) rfl rfl (fzC rfl fvD (fzC rfl Cf (fzC rfl Zn (fzC rfl (by rw [dN0]; exact Zn) (fzC rfl fvI fzN)))))) (ByI.zero a hy) ?_
 rintro ⟨k, q, r⟩ hI
 simp only at hI ⊢
 cases k with
 | zero =>
   have hf := hI.fin
   have hql : q.length ≤ 1000 := by have := hI.len; omega
   refine sq (sO (mV rfl (mF rfl (mn (cF rfl ?_)))))
   refine ExM.exit ?_
   refine sO (mV rfl (mC rfl (show cP W0 146 [dg q] [] (dN (val a / y)) [] from by rw [dN, ← hf.1, ← Jf hI.dig]; exact Tt hg (by omega)) (mV rfl (mV rfl (mV rfl (mn ?_))))))
   exact ExM.ret (A5 trivial rfl (by rw [← hf.2]; rfl) rfl)
 | succ k =>
   have hkl := hI.hk
   have hkd := ha.get k
   have hry := hI.hr
   have hrl := E1 (n := r) (k := 249) (by omega)
   have hkn : ((k : Nat) : Int) + 1 - 1 = k := by omega
   by_cases hz : (D6 r).length = 0
   · have hd0 : D6 r = [] := List.length_eq_zero_iff.1 hz
     refine sq (sO (mV rfl (mT rfl (mn (cT rfl (kM (sq (bM (sO (mV rfl (mK (v := .int .i64 (k : Nat)) rfl (iE (by omega)) (mS (v := .eptr (.int .i64 (a.getD k 0 : Nat)) 0) (Ew rfl rfl (by omega)) (mV rfl (mV (v := .hsl 1 0 0 1 (some 1)) rfl (mV rfl (mS (v := .hsl 1 0 0 1 (some 1)) (A44 rfl rfl hz) ?_))))))))))))))))
     refine mFz (Ap (l := [(0, dg a), (1, dN y), (6, dg q), (8, .int .i64 ((((k + 1 : Nat)) : Int) - 1)), (23, dg [a.getD k 0])]) 0 rfl (Nat.le_refl _) rfl rfl (fzC rfl fvD (fzC rfl Cf (fzC rfl fvD (fzC rfl fvI (fzC rfl (Di (l := [a.getD k 0]) (by decide) rfl) fzN)))))) ?_
     refine mC rfl (show cP W0 146 [dg [a.getD k 0]] [] (dN (a.getD k 0 + 10 * r)) [] from by have h := S7 (v := r) hkd; rw [hd0] at h; rw [dN, ← h]; exact Tt hg (by simp)) (mV rfl (mn (sO (mV rfl (mn (sq (bM ?_)))))))
     refine ExM.loop (σ := Nat × Nat) (fun σ => ⟨.al [(0, dg a), (1, dN y), (6, dg q), (8, .int .i64 ((((k + 1 : Nat)) : Int) - 1)), (7, dN σ.2), (9, .int .i64 (σ.1 : Nat))], [], 41⟩) (fun σ => σ.1 * y + σ.2 = a.getD k 0 + 10 * r) (fun σ => σ.2) (0, a.getD k 0 + 10 * r) (Ap 0 rfl (Nat.le_refl _) rfl rfl (fzC rfl fvD (fzC rfl Cf (fzC rfl fvD (fzC rfl fvI (fzC rfl Cf (fzC rfl fvI fzN))))))) (by simp) ?_
     rintro ⟨d, s⟩ hs
     simp only at hs ⊢
     have hsb := bnd1 hyl hry hkd hs
     have hyb : y < 10 ^ 250 := nLl hyl (Ao (by decide))
     have hdb := bnd2 hry hkd hs
     by_cases hsy : s < y
     · obtain ⟨hI', hd10⟩ := hI.step ha hsy hs
       by_cases hq : q.length = 0
       · have hq0 : q = [] := List.length_eq_zero_iff.1 hq
         subst hq0
         refine sq (sO (mV rfl (mV rfl (mC rfl (Bl hg hsb hyb []) (mBk hg gN (c := false) rfl rfl (by rw [decide_eq_true hsy]; rfl) (mn (cF rfl ?_)))))))
         refine ExM.exit ?_
         refine oM (mV rfl (mV (v := .hsl 1 0 0 1 (some 1)) rfl (mV rfl (mS (v := .hsl 1 0 0 1 (some 1)) (A44 rfl rfl rfl) (mV rfl (mn (oM (mV rfl (mI ((k : Nat) - 1) rfl (mV rfl (mn ?_)))))))))))
         exact ⟨(k, d :: [], s), hI', by simp only; omega, Ap 0 rfl (Nat.le_refl _) rfl rfl (fzC rfl fvD (fzC rfl Cf (fzC rfl (Di (l := [d]) (by decide) rfl) (fzC rfl Cf (fzC rfl fvI fzN)))))⟩
       · refine sq (sO (mV rfl (mV rfl (mC rfl (Bl hg hsb hyb []) (mBk hg gN (c := false) rfl rfl (by rw [decide_eq_true hsy]; rfl) (mn (cF rfl ?_)))))))
         refine ExM.exit ?_
         refine oM (mV rfl (mV (v := .hsl 1 0 0 1 (some 1)) rfl (mV rfl (Ba hg gN (v := .hsl 1 1 0 ([d] ++ q).length none) (A3h rfl rfl hq rfl rfl rfl) rfl (E3 (by have := hI.len; simp only [lAp, lCo, lNi]; omega)) (mV rfl (mn (oM (mV rfl (mI ((k : Nat) - 1) rfl (mV rfl (mn ?_)))))))))))
         exact ⟨(k, d :: q, s), hI', by simp only; omega, Ap 0 rfl (Nat.le_refl _) rfl rfl (fzC rfl fvD (fzC rfl Cf (fzC rfl (L5 (l := [d] ++ q) (by decide) rfl) (fzC rfl Cf (fzC rfl fvI fzN)))))⟩
     · refine sq (sO (mV rfl (mV rfl (mC rfl (Bl hg hsb hyb []) (mBk hg gN (c := true) rfl rfl (by rw [dF hsy]; rfl) (mn (cT rfl (kM (bM (sO (mV rfl (mV rfl (mC rfl (A2n hg hsb (by omega) []) (mV rfl (mn (oM (mV rfl (mI ((d + 1 : Nat)) rfl (mV rfl (mn ?_))))))))))))))))))))
       exact ⟨(d + 1, s - y), by simp only; rw [Nat.add_mul]; omega, by simp only; omega, Ap 0 rfl (Nat.le_refl _) rfl rfl (fzC rfl fvD (fzC rfl Cf (fzC rfl fvD (fzC rfl fvI (fzC rfl Cf (fzC rfl fvI fzN))))))⟩
   · refine sq (sO (mV rfl (mT rfl (mn (cT rfl (kM (sq (bM (sO (mV rfl (mK (v := .int .i64 (k : Nat)) rfl (iE (by omega)) (mS (v := .eptr (.int .i64 (a.getD k 0 : Nat)) 0) (Ew rfl rfl (by omega)) (mV rfl (mV (v := .hsl 1 0 0 1 (some 1)) rfl (mV rfl (Ba hg gN (v := .hsl 1 1 0 ([a.getD k 0] ++ D6 r).length none) (A3h rfl rfl hz rfl rfl rfl) rfl (E3 (by simp only [lAp, lCo, lNi]; omega)) ?_))))))))))))))))
     refine mFz (Ap (l := [(0, dg a), (1, dN y), (6, dg q), (8, .int .i64 ((((k + 1 : Nat)) : Int) - 1)), (23, dg ([a.getD k 0] ++ D6 r))]) 0 rfl (Nat.le_refl _) rfl rfl (fzC rfl fvD (fzC rfl Cf (fzC rfl fvD (fzC rfl fvI (fzC rfl (L5 (l := [a.getD k 0] ++ D6 r) (by decide) rfl) fzN)))))) ?_
     refine mC rfl (show cP W0 146 [dg ([a.getD k 0] ++ D6 r)] [] (dN (a.getD k 0 + 10 * r)) [] from by rw [dN, ← S7 hkd]; exact Tt hg (by simp only [lAp, lCo, lNi]; omega)) (mV rfl (mn (sO (mV rfl (mn (sq (bM ?_)))))))
     refine ExM.loop (σ := Nat × Nat) (fun σ => ⟨.al [(0, dg a), (1, dN y), (6, dg q), (8, .int .i64 ((((k + 1 : Nat)) : Int) - 1)), (7, dN σ.2), (9, .int .i64 (σ.1 : Nat))], [], 41⟩) (fun σ => σ.1 * y + σ.2 = a.getD k 0 + 10 * r) (fun σ => σ.2) (0, a.getD k 0 + 10 * r) (Ap 0 rfl (Nat.le_refl _) rfl rfl (fzC rfl fvD (fzC rfl Cf (fzC rfl fvD (fzC rfl fvI (fzC rfl Cf (fzC rfl fvI fzN))))))) (by simp) ?_
     rintro ⟨d, s⟩ hs
     simp only at hs ⊢
     have hsb := bnd1 hyl hry hkd hs
     have hyb : y < 10 ^ 250 := nLl hyl (Ao (by decide))
     have hdb := bnd2 hry hkd hs
     by_cases hsy : s < y
     · obtain ⟨hI', hd10⟩ := hI.step ha hsy hs
       by_cases hq : q.length = 0
       · have hq0 : q = [] := List.length_eq_zero_iff.1 hq
         subst hq0
         refine sq (sO (mV rfl (mV rfl (mC rfl (Bl hg hsb hyb []) (mBk hg gN (c := false) rfl rfl (by rw [decide_eq_true hsy]; rfl) (mn (cF rfl ?_)))))))
         refine ExM.exit ?_
         refine oM (mV rfl (mV (v := .hsl 1 0 0 1 (some 1)) rfl (mV rfl (mS (v := .hsl 1 0 0 1 (some 1)) (A44 rfl rfl rfl) (mV rfl (mn (oM (mV rfl (mI ((k : Nat) - 1) rfl (mV rfl (mn ?_)))))))))))
         exact ⟨(k, d :: [], s), hI', by simp only; omega, Ap 0 rfl (Nat.le_refl _) rfl rfl (fzC rfl fvD (fzC rfl Cf (fzC rfl (Di (l := [d]) (by decide) rfl) (fzC rfl Cf (fzC rfl fvI fzN)))))⟩
       · refine sq (sO (mV rfl (mV rfl (mC rfl (Bl hg hsb hyb []) (mBk hg gN (c := false) rfl rfl (by rw [decide_eq_true hsy]; rfl) (mn (cF rfl ?_)))))))
         refine ExM.exit ?_
         refine oM (mV rfl (mV (v := .hsl 1 0 0 1 (some 1)) rfl (mV rfl (Ba hg gN (v := .hsl 1 1 0 ([d] ++ q).length none) (A3h rfl rfl hq rfl rfl rfl) rfl (E3 (by have := hI.len; simp only [lAp, lCo, lNi]; omega)) (mV rfl (mn (oM (mV rfl (mI ((k : Nat) - 1) rfl (mV rfl (mn ?_)))))))))))
         exact ⟨(k, d :: q, s), hI', by simp only; omega, Ap 0 rfl (Nat.le_refl _) rfl rfl (fzC rfl fvD (fzC rfl Cf (fzC rfl (L5 (l := [d] ++ q) (by decide) rfl) (fzC rfl Cf (fzC rfl fvI fzN)))))⟩
     · refine sq (sO (mV rfl (mV rfl (mC rfl (Bl hg hsb hyb []) (mBk hg gN (c := true) rfl rfl (by rw [dF hsy]; rfl) (mn (cT rfl (kM (bM (sO (mV rfl (mV rfl (mC rfl (A2n hg hsb (by omega) []) (mV rfl (mn (oM (mV rfl (mI ((d + 1 : Nat)) rfl (mV rfl (mn ?_))))))))))))))))))))
       exact ⟨(d + 1, s - y), by simp only; rw [Nat.add_mul]; omega, by simp only; omega, Ap 0 rfl (Nat.le_refl _) rfl rfl (fzC rfl fvD (fzC rfl Cf (fzC rfl fvD (fzC rfl fvI (fzC rfl Cf (fzC rfl fvI fzN))))))⟩
def Sub (a b : AVal) : Prop := ∀ (F : Nat → Prop) (bs : List Nat) (H : Hz) (w : World) (v : Value), Rep F bs H w a v → Rep F bs H w b v
theorem Sub.refl (a : AVal) : Sub a a := fun _ _ _ _ _ h => h
theorem Sub.nil : Sub .nilSl (dg []) := fun F bs H w v h => by
 simp only [Rep] at h
 subst h
 simp only [dg, Cb, List.map_nil, Rep, A9]
 exact ⟨none, 0, [], rfl, rfl, by simp, rfl, rfl⟩
theorem A3.argW {P : Program} {f : FuncId} {args args' : List AVal} {H H' : Hz} {v : AVal} (hs : ∀ (F : Nat → Prop) (bs : List Nat) (w : World) (l : List Value), A9 F bs H w args' l → A9 F bs H w args l) (hc : A3 P W0 f args H v H') : A3 P W0 f args' H v H' :=
 ⟨hc.1, fun F bs w cargs hh hr => hc.2 F bs w cargs hh (hs F bs w cargs hr)⟩
theorem A3.sub2 {P : Program} {f : FuncId} {a b a' b' : AVal} {H H' : Hz} {v : AVal} (h1 : Sub a' a) (h2 : Sub b' b) (hc : A3 P W0 f [a, b] H v H') : A3 P W0 f [a', b'] H v H' := hc.argW fun F bs w l h => by
 simp only [A9] at h ⊢
 obtain ⟨u, us, rfl, k1, u2, us2, rfl, k2, rfl⟩ := h
 exact ⟨u, [u2], rfl, h1 _ _ _ _ _ k1, u2, [], rfl, h2 _ _ _ _ _ k2, rfl⟩
theorem A3.sub3 {P : Program} {f : FuncId} {a b c a' b' c' : AVal} {H H' : Hz} {v : AVal} (h1 : Sub a' a) (h2 : Sub b' b) (h3 : Sub c' c) (hc : A3 P W0 f [a, b, c] H v H') : A3 P W0 f [a', b', c'] H v H' := hc.argW fun F bs w l h => by
 simp only [A9] at h ⊢
 obtain ⟨u, us, rfl, k1, u2, us2, rfl, k2, u3, us3, rfl, k3, rfl⟩ := h
 exact ⟨u, [u2, u3], rfl, h1 _ _ _ _ _ k1, u2, [u3], rfl, h2 _ _ _ _ _ k2, u3, [], rfl, h3 _ _ _ _ _ k3, rfl⟩
def tN (x : Nat) (n : Int) : AVal := if x = 0 then .nilSl else dN (x * 10 ^ n.toNat)
theorem Bt (x : Nat) (n : Int) : Sub (tN x n) (dN (x * 10 ^ n.toNat)) := by
 unfold tN
 split
 · rename_i h; subst h; rw [Nat.zero_mul, dN0]; exact Sub.nil
 · exact Sub.refl _
theorem blwT (k x : Nat) (n : Int) : blw k (tN x n) = true := by
 unfold tN; split
 · rfl
 · exact A20 _ _
theorem fvT {H : Hz} {k x : Nat} {n : Int} : FzV H k (tN x n) (tN x n) := by
 unfold tN; split
 · exact J0
 · exact Cf
theorem Em (hg : Gr Tryz.prog W0 G) {x : Nat} {n : Int} (hx : x < 10 ^ 250) (hn : n ≤ 1000) (H : Hz) : cP W0 99 [dN x, .int .i64 n] H (tN x n) H := by
 have h1 := E1 hx
 have := tenP hg (a := D6 x) (n := n) (by omega) hn H
 by_cases h0 : x = 0
 · subst h0
   have h2 : Xa (D6 0) n = .nilSl := by rw [Xa, E4]; rfl
   rw [h2] at this
   rw [tN, if_pos rfl]; exact this
 · rw [Xa, if_neg (Pz h0), ten_dN h0] at this
   rw [tN, if_neg h0]; exact this
theorem Ot : ∀ (a : List Nat) (k : Nat), val (a.drop k) ≤ val a
 | [], k => by simp
 | x :: a, 0 => by simp
 | x :: a, k + 1 => by
   have := Ot a k
   rw [G5, List.drop_succ_cons]; omega
theorem A2r {a : List Nat} {k : Nat} (h : k < a.length) : val (a.drop k) = a.getD k 0 + 10 * val (a.drop (k + 1)) := by rw [Qb h, G5]
def KF155 : AFn := ⟨(sQ [wV 2 (.move (vI 0))] (sQ [wV 3 (.move (vI 0))] (.seq (sQ [wM 5 0, wV 6 (.len false 5), wV 7 (.bin .sub none 6 (vI 1)), wM 4 7] (.block 0 (.loop (.seq (sQ [wM 8 4, wV 9 (.bin .geq none 8 (vI 0))] (.cond 9 .skip (.exit 0))) (.seq (.block 1 (.ops [wM 12 3, wV 13 (.bin .mul none (vI 10) 12), wM 14 0, wM 15 4, wV 16 (.idxSl 1 14 15), wV 17 (.load 1 false 16), wV 18 (.bin .add none 13 17), wM 3 18])) (.ops [wM 10 4, wV 11 (.bin .sub none 10 (vI 1)), wM 4 11])))))) (sQ [wM 19 3, wM 2 19] .ret)))), [2], 20⟩
theorem KG155 : Au Tryz.prog 155 = some KF155 := by kernel_rfl
def KF154 : AFn := ⟨(sQ [wV 4 (.alloc 24 [.int .i64 0, .int .i64 0])] (.seq (sQ [wM 5 0, wV 6 (.bin .eql none 5 (vI 0))] (.cond 6 (sQ [wV 7 (.build [.int .i64 0, .int .i64 0] []), wN (.store 2 4 7)] .ret) .skip)) (.seq (.block 0 (.loop (.seq (sQ [wM 8 0, wV 9 (.bin .rem none 8 (vI 10)), wV 10 (.bin .eql none 9 (vI 0)), wM 11 10, wT 12 11 (.move 1), wT 13 11 (.bin .lss none 12 (vI 9)), wV 14 (.pick 11 13 (.val (.bool false)))] (.cond 14 .skip (.exit 0))) (.block 1 (sQ [wM 15 0, wV 16 (.bin .quo none 15 (vI 10)), wM 0 16] (.ops [wM 17 1, wV 18 (.bin .add none 17 (vI 1)), wM 1 18])))))) (sQ [wM 19 0, wM 20 1, wV 21 (.build [.int .i64 0, .int .i64 0] [(0, 1, 19), (1, 1, 20)]), wN (.store 2 4 21)] .ret)))), [.cell 4 2 true], 22⟩
theorem KG154 : Au Tryz.prog 154 = some KF154 := by kernel_rfl
theorem valueP (hg : Gr Tryz.prog W0 G) {a : List Nat} (hv : val a < 1000000000000000000) (hla : a.length ≤ 1000) (H : Hz) : cP W0 155 [dg a] H (.int .i64 (val a : Nat)) H := by
 refine A3.pure (by simp [C0, blw, dg, C7]) rfl ?_ H
 refine A3.of_fnM KG155 (by simp) rfl ?_
 refine sO (mV rfl (mn (sO (mV rfl (mn (sq (sO (mV rfl (mV (v := .int .i64 (a.length : Nat)) (E0 rfl) (mK (v := .int .i64 ((a.length : Nat) - 1)) rfl (Br (by omega) (by omega) rfl) (mV rfl (mn (bM ?_)))))))))))))
 refine ExM.loop (σ := Nat) (fun k => ⟨.al [(0, dg a), (3, .int .i64 (val (a.drop k) : Nat)), (4, .int .i64 (((k : Nat) : Int) - 1))], [], 20⟩) (fun k => k ≤ a.length) (fun k => k) a.length (Ap 0 rfl (Nat.le_refl _) rfl rfl (fzC rfl fvD (fzC rfl (by rw [List.drop_length]; exact fvI) (fzC rfl fvI fzN)))) (Nat.le_refl _) ?_
 rintro k hk
 cases k with
 | zero =>
   refine sq (sO (mV rfl (mF rfl (mn (cF rfl ?_)))))
   refine ExM.exit ?_
   refine sO (mV rfl (mV rfl (mn ?_)))
   exact ExM.ret (A5 trivial rfl rfl rfl)
 | succ k =>
   have hvd := A2r (a := a) (k := k) (by omega)
   have hvl := Ot a k
   refine sq (sO (mV rfl (mT rfl (mn (cT rfl (kM (sq (bM (oM (mV rfl (mI (10 * (val (a.drop (k + 1)) : Nat)) rfl (mV rfl (mK (v := .int .i64 (k : Nat)) rfl (iE (by omega)) (mS (v := .eptr (.int .i64 (a.getD k 0 : Nat)) 0) (Ew rfl rfl (by omega)) (mV rfl (mI (val (a.drop k) : Nat) rfl (mV rfl (mn (oM (mV rfl (mI ((k : Nat) - 1) rfl (mV rfl (mn ?_)))))))))))))))))))))))
   exact ⟨k, by omega, by omega, Ap 0 rfl (Nat.le_refl _) rfl rfl (fzC rfl fvD (fzC rfl fvI (fzC rfl fvI fzN)))⟩
theorem Jn (hg : Gr Tryz.prog W0 G) {x : Nat} (hx : x ≤ 999999999999999) (H : Hz) : cP W0 155 [dN x] H (.int .i64 (x : Nat)) H := by
 have h1 := E1 (n := x) (k := 15) (by omega)
 have := valueP hg (a := D6 x) (by rw [D5]; omega) (by omega) H
 rw [D5] at this
 exact this
def lwF : Nat → Nat → Int → Nat × Int
 | 0, m, e => (m, e)
 | f + 1, m, e => if m % 10 = 0 then lwF f (m / 10) (e + 1) else (m, e)
def Jc (m : Nat) (e : Int) : Nat × Int := if m = 0 then (0, 0) else lwF (9 - e).toNat m e
theorem lwF_b : ∀ (f m : Nat) (e : Int), (f : Int) ≤ 9 - e → -9 ≤ e → (lwF f m e).1 ≤ m ∧ -9 ≤ (lwF f m e).2 ∧ (lwF f m e).2 ≤ 9
 | 0, m, e, h, h1 => ⟨Nat.le_refl _, h1, by simp only [lwF]; omega⟩
 | f + 1, m, e, h, h1 => by
   simp only [lwF]
   split
   · have := lwF_b f (m / 10) (e + 1) (by omega) (by omega)
     exact ⟨by omega, this.2.1, this.2.2⟩
   · exact ⟨Nat.le_refl _, h1, by simp only; omega⟩
theorem Qd {m : Nat} {e : Int} (h1 : -9 ≤ e) (h2 : e ≤ 9) : (Jc m e).1 ≤ m ∧ -9 ≤ (Jc m e).2 ∧ (Jc m e).2 ≤ 9 := by
 unfold Jc
 split
 · exact ⟨Nat.zero_le _, by decide, by decide⟩
 · exact lwF_b _ _ _ (by omega) h1
theorem Wl (hg : Gr Tryz.prog W0 G) {m : Nat} {e : Int} (hm : m ≤ 999999999999999) (h1 : -9 ≤ e) (h2 : e ≤ 9) (H : Hz) : cP W0 154 [.int .i64 (m : Nat), .int .i64 e] H (.agg [.int .i64 ((Jc m e).1 : Nat), .int .i64 (Jc m e).2]) H := by
 refine A3.pure rfl rfl ?_ H
 refine A3.of_fnM KG154 (by simp) rfl ?_
 by_cases hm0 : m = 0
 · skip
   refine sO (mV (v := .ptr 0 0) rfl (mn (sq (sO (mV rfl (mBk hg gN (c := true) rfl rfl (by rw [hm0]; decide) (mn (cT rfl (sO (mV rfl (Ai hg gN rfl (mn ?_))))))))))))
   refine ExM.ret ?_
   refine A4 trivial rfl rfl 100 ?_ rfl
   rw [Jc, if_pos hm0]; rfl
 · skip
   refine sO (mV (v := .ptr 0 0) rfl (mn (sq (sO (mV rfl (mF rfl (mn (cF rfl (kM (sq (bM ?_)))))))))))
   refine ExM.loop (σ := Nat × Int) (fun σ => ⟨.al [(0, .int .i64 (σ.1 : Nat)), (1, .int .i64 σ.2), (4, .ptr 0 0)], [.cells 24 [.int .i64 0, .int .i64 0] false], 22⟩) (fun σ => σ.1 ≤ m ∧ -9 ≤ σ.2 ∧ σ.2 ≤ 9 ∧ lwF (9 - σ.2).toNat σ.1 σ.2 = Jc m e) (fun σ => (9 - σ.2).toNat) (m, e) (Ap 1 rfl (Nat.zero_le _) rfl rfl (fzC rfl fvI (fzC rfl fvI (fzC rfl (fvP rfl) fzN)))) ⟨Nat.le_refl _, h1, h2, by rw [Jc, if_neg hm0]⟩ ?_
   rintro ⟨x, y⟩ ⟨hx, hy1, hy2, hl⟩
   simp only at hx hy1 hy2 hl ⊢
   by_cases hx10 : x % 10 = 0
   · by_cases hy9 : y < 9
     · rw [show (9 - y).toNat = (9 - (y + 1)).toNat + 1 by omega, lwF, if_pos hx10] at hl
       refine sq (sO (mV rfl (mKv hg gN (v := .int .i64 ((x % 10 : Nat))) rfl rfl Dh (iE (Int.ofNat_tmod x 10).symm) (mT rfl (mV rfl (mV rfl (mT rfl (mV rfl (mn (cT rfl (kM (bM (sO (mV rfl (mKv hg gN (v := .int .i64 ((x / 10 : Nat))) rfl rfl Dh (Br (by rw [Int.ofNat_tdiv_ten]; omega) (by rw [Int.ofNat_tdiv_ten]; omega) Int.ofNat_tdiv_ten) (mV rfl (mn (oM (mV rfl (mKs (v := .int .i64 (y + 1)) rfl (Br (by omega) (by omega) rfl) (mV rfl (mn ?_))))))))))))))))))))))
       exact ⟨(x / 10, y + 1), ⟨by simp only; omega, by simp only; omega, by simp only; omega, hl⟩, by simp only; omega, Ap 1 rfl (Nat.zero_le _) rfl rfl (fzC rfl fvI (fzC rfl fvI (fzC rfl (fvP rfl) fzN)))⟩
     · rw [show (9 - y).toNat = 0 by omega, lwF] at hl
       refine sq (sO (mV rfl (mKv hg gN (v := .int .i64 ((x % 10 : Nat))) rfl rfl Dh (iE (Int.ofNat_tmod x 10).symm) (mT rfl (mV rfl (mV rfl (mF rfl (mV rfl (mn (cF rfl ?_))))))))))
       refine ExM.exit ?_
       refine sO (mV rfl (mV rfl (mV rfl (Ai hg gN rfl (mn ?_)))))
       refine ExM.ret ?_
       refine A4 trivial rfl rfl 100 ?_ rfl
       rw [← hl]; rfl
   · have hl' : (x, y) = Jc m e := by rw [← hl]; cases (9 - y).toNat with | zero => rfl | succ f => rw [lwF, if_neg hx10]
     refine sq (sO (mV rfl (mKv hg gN (v := .int .i64 ((x % 10 : Nat))) rfl rfl Dh (iE (Int.ofNat_tmod x 10).symm) (mF rfl (mV rfl (mG (mG (mV rfl (mn (cF rfl ?_))))))))))
     refine ExM.exit ?_
     refine sO (mV rfl (mV rfl (mV rfl (Ai hg gN rfl (mn ?_)))))
     refine ExM.ret ?_
     refine A4 trivial rfl rfl 100 ?_ rfl
     rw [← hl']; rfl
def nQ2 (D r q : Nat) : Nat := if D < r + r then q + 1 else if r + r < D then q else if q % 10 % 2 = 1 then q + 1 else q
def Ru (n d : Nat) (e : Int) : Nat := nQ2 (d * 10 ^ e.toNat) ((n * 10 ^ (-e).toNat) % (d * 10 ^ e.toNat)) ((n * 10 ^ (-e).toNat) / (d * 10 ^ e.toNat))
def Ic (s : Bool) (n d : Nat) : Nat → Int → Int × Int × Int
 | 0, _ => (0, 0, 10)
 | f + 1, e => if 999999999999999 < Ru n d e then Ic s n d f (e + 1) else (if s then -((Jc (Ru n d e) e).1 : Int) else ((Jc (Ru n d e) e).1 : Int), (Jc (Ru n d e) e).2, 0)
def Hh (s : Bool) (n d : Nat) : Int × Int × Int := Ic s n d 19 (-9)
theorem Z4 (s : Bool) (n d : Nat) : ∀ (f : Nat) (e : Int), (f : Int) = 10 - e → -9 ≤ e → -999999999999999 ≤ (Ic s n d f e).1 ∧ (Ic s n d f e).1 ≤ 999999999999999 ∧ -9 ≤ (Ic s n d f e).2.1 ∧ (Ic s n d f e).2.1 ≤ 9
 | 0, e, _, _ => by simp [Ic]
 | f + 1, e, h, h1 => by
   simp only [Ic]
   split
   · exact Z4 s n d f (e + 1) (by omega) (by omega)
   · rename_i hq
     have := Qd (m := Ru n d e) (e := e) h1 (by omega)
     cases s
     · exact ⟨by simp only [bFt, if_false]; omega, by simp only [bFt, if_false]; omega, this.2.1, this.2.2⟩
     · exact ⟨by simp only [if_true]; omega, by simp only [if_true]; omega, this.2.1, this.2.2⟩
theorem Zm (s : Bool) (n d : Nat) : -999999999999999 ≤ (Hh s n d).1 ∧ (Hh s n d).1 ≤ 999999999999999 ∧ -9 ≤ (Hh s n d).2.1 ∧ (Hh s n d).2.1 ≤ 9 := Z4 s n d 19 (-9) (by decide) (by decide)
def P5 (p : Int × Int × Int) : AVal := .tup [.agg [.int .i64 p.1, .int .i64 p.2.1], .int .i64 p.2.2]
theorem byQ (hg : Gr Tryz.prog W0 G) {x y : Nat} (hx : x < 10 ^ 250) (hy : 0 < y) (hyl : y < 10 ^ 249) (H : Hz) : cP W0 151 [dN x, dN y] H (.tup [dN (x / y), dN (x % y)]) H := by
 have h1 := E1 hx
 have := byP hg (Eu x) hy hyl (by omega) H
 rw [D5] at this
 exact this
theorem atQ (hg : Gr Tryz.prog W0 G) {x : Nat} (H : Hz) : cP W0 153 [dN x, .int .i64 0] H (.int .i64 ((x % 10 : Nat))) H := by
 have := atP hg (a := D6 x) (i := 0) H
 rw [A02] at this
 exact this
theorem Xg {x : Nat} {n : Int} (hx : x < 10 ^ 100) (hn : n ≤ 50) : x * 10 ^ n.toNat < 10 ^ 150 := by
 have h1 : 10 ^ n.toNat ≤ 10 ^ 50 := Nat.pow_le_pow_right (by decide) (by omega)
 have h2 : 0 < 10 ^ n.toNat := Nat.pow_pos (by decide)
 have h3 : x * 10 ^ n.toNat < 10 ^ 100 * 10 ^ n.toNat := Nat.mul_lt_mul_of_pos_right hx h2
 have h4 : 10 ^ 100 * 10 ^ n.toNat ≤ 10 ^ 100 * 10 ^ 50 := Nat.mul_le_mul_left _ h1
 have h5 : 10 ^ 100 * 10 ^ 50 ≤ 10 ^ 150 := by rw [← Nat.pow_add]; exact Nat.pow_le_pow_right (by decide) (by decide)
 exact nLl (nLl h3 h4) h5
theorem Az {x : Nat} (h : x < 10 ^ 150) : x + x < 10 ^ 249 ∧ x < 10 ^ 249 ∧ x < 10 ^ 250 ∧ x + 1 < 10 ^ 250 ∧ x + x < 10 ^ 250 := by
 have h1 : 10 ^ 150 * 10 ≤ 10 ^ 249 := by rw [← Nat.pow_succ]; exact Nat.pow_le_pow_right (by decide) (by decide)
 have h2 : 10 ^ 249 ≤ 10 ^ 250 := Nat.pow_le_pow_right (by decide) (by decide)
 generalize 10 ^ 150 = a at *
 generalize 10 ^ 249 = b at *
 generalize 10 ^ 250 = c at *
 omega
def KF95 : AFn := ⟨(sQ [wV 6 (.alloc 24 [.int .i64 0, .int .i64 0]), wV 7 (.move (vI 0))] (.seq (sQ [wV 8 (.move (.val (.int .i64 (-9))))] (.block 0 (.loop (.seq (sQ [wM 14 8, wV 15 (.bin .leq none 14 (vI 9))] (.cond 15 .skip (.exit 0))) (.seq (.block 1 (sQ [wM 18 2, wM 19 8, wV 20 (kF 99 [18, 19]), wM 9 20] (sQ [wM 22 1, wM 23 8, wV 24 (.un .neg 23), wV 25 (kF 99 [22, 24]), wM 26 9, wV 27 (kF 151 [25, 26]), wM 21 27, wV 28 (.extract 21 0), wV 29 (.extract 21 1), wM 10 28, wM 11 29] (sQ [wM 30 11, wM 31 11, wV 32 (kF 152 [30, 31]), wM 12 32] (.seq (sQ [wM 33 9, wM 34 12, wV 35 (kF 97 [33, 34]), wM 36 35, wF 37 36 (.move 12), wF 38 36 (.move 9), wF 39 36 (kF 97 [37, 38]), wF 40 36 (.un .not 39), wF 41 36 (.move 40), wT 42 41 (.move 10), wT 43 41 (kF 153 [42, (vI 0)]), wT 44 41 (.bin .rem none 43 (vI 2)), wT 45 41 (.bin .eql none 44 (vI 1)), wF 46 36 (.pick 41 45 (.val (.bool false))), wV 47 (.pick 36 (.val (.bool true)) 46)] (.cond 47 (.ops [wM 48 10, wV 49 (.bslice 3 1 1 [.int .i64 0] [(0, 1, (vI 1))]), wV 50 (kF 152 [48, 49]), wM 10 50]) .skip)) (.seq (sQ [wV 51 (kF 96 [(vI 999999999999999)]), wM 52 10, wV 53 (kF 97 [51, 52])] (.cond 53 (.exit 1) .skip)) (sQ [wM 54 10, wV 55 (kF 155 [54]), wM 56 8, wV 57 (kF 154 [55, 56]), wV 13 (.alloc 24 [.int .i64 0, .int .i64 0]), wN (.store 2 13 57)] (.seq (sQ [wM 58 0] (.cond 58 (.ops [wV 59 (.fieldAddr 0 13), wV 60 (.load 1 false 59), wV 61 (.un .neg 60), wV 62 (.fieldAddr 0 13), wN (.store 1 62 61)]) .skip)) (sQ [wV 63 (.load 2 true 13), wN (.store 2 6 63), wV 7 (.move (vI 0))] .ret))))))))) (.ops [wM 16 8, wV 17 (.bin .add none 16 (vI 1)), wM 8 17])))))) (sQ [wV 64 (.build [.int .i64 0, .int .i64 0] []), wN (.store 2 6 64), wV 7 (.move (vI 10))] .ret))), [.cell 6 2 true, 7], 65⟩
theorem KG95 : Au Tryz.prog 95 = some KF95 := by kernel_rfl
theorem Oq : Ae [((1 : Int), 2 * 2)] := ⟨by decide, trivial⟩
set_option maxHeartbeats 1000000 in
theorem A2e (hg : Gr Tryz.prog W0 G) {s : Bool} {n d : Nat} (hn : n < 10 ^ 100) (hd : d < 10 ^ 100) (hd0 : 0 < d) (H : Hz) : cP W0 95 [.bool s, dN n, dN d] H (P5 (Hh s n d)) H := by
 refine A3.pure (by simp [C0, blw, A20]) rfl ?_ H
 refine A3.of_fnM KG95 (by simp) rfl ?_
 refine sO (mV (v := .ptr 0 0) rfl (mV rfl (mn (sq (sO (mV rfl (mn (bM ?_))))))))
 refine ExM.loop (σ := Nat) (fun j => ⟨.al [(0, .bool s), (1, dN n), (2, dN d), (6, .ptr 0 0), (8, .int .i64 ((j : Nat) - 9))], [.cells 24 [.int .i64 0, .int .i64 0] false], 65⟩) (fun j => j ≤ 19 ∧ Ic s n d (19 - j) ((j : Nat) - 9) = Hh s n d) (fun j => 19 - j) 0 (Ap 1 rfl (Nat.zero_le _) rfl rfl (fzC rfl fvB (fzC rfl Cf (fzC rfl Cf (fzC rfl (fvP rfl) (fzC rfl fvI fzN)))))) ⟨by decide, rfl⟩ ?_
 rintro j ⟨hj, hN⟩
 by_cases h19 : j = 19
 · subst h19
   refine sq (sO (mV rfl (mF rfl (mn (cF rfl ?_)))))
   refine ExM.exit ?_
   refine sO (mV rfl (Ai hg gN rfl (mV rfl (mn ?_))))
   refine ExM.ret ?_
   refine A4 trivial rfl rfl 100 ?_ rfl
   rw [← hN]; rfl
 · rw [show 19 - j = (19 - (j + 1)) + 1 by omega, Ic] at hN
   generalize he : ((j : Nat) : Int) - 9 = e at hN ⊢
   have hNb := Xg (n := -e) hn (by omega)
   have hDb := Xg (n := e) hd (by omega)
   have hD0 : 0 < d * 10 ^ e.toNat := Nat.mul_pos hd0 (Nat.pow_pos (by decide))
   have hqe : Ru n d e = nQ2 (d * 10 ^ e.toNat) ((n * 10 ^ (-e).toNat) % (d * 10 ^ e.toNat)) ((n * 10 ^ (-e).toNat) / (d * 10 ^ e.toNat)) := rfl
   generalize hNN : n * 10 ^ (-e).toNat = N at hNb hqe ⊢
   generalize hDD : d * 10 ^ e.toNat = D at hDb hD0 hqe ⊢
   have hr : N % D < D := Nat.mod_lt _ hD0
   have hq : N / D < 10 ^ 150 := Nat.lt_of_le_of_lt (Nat.div_le_self _ _) hNb
   have hr9 : N % D < 10 ^ 150 := Nat.lt_trans hr hDb
   generalize hqq : N / D = q at hq hqe ⊢
   generalize hrr : N % D = r at hr hr9 hqe ⊢
   unfold nQ2 at hqe
   by_cases hlt : D < r + r
   · rw [if_pos hlt] at hqe; rw [hqe] at hN
     by_cases hbig : 999999999999999 < q + 1
     · rw [if_pos hbig] at hN
       refine sq (sO (mV rfl (mT rfl (mn (cT rfl (kM (sq (bM (sO (mV rfl (mV rfl (mC rfl (Em hg (x := d) (n := e) (nLl hd (Ao (by decide))) (by omega) _) (mV rfl (mn (sO (mV rfl (mV rfl (mI (-e) rfl (mC rfl (Em hg (x := n) (n := -e) (nLl hn (Ao (by decide))) (by omega) _) (mV rfl (mC rfl (show cP W0 151 [tN n (-e), tN d e] [.cells 24 [.int .i64 0, .int .i64 0] false] (.tup [dN q, dN r]) [.cells 24 [.int .i64 0, .int .i64 0] false] from by rw [← hqq, ← hrr]; exact A3.sub2 (by rw [← hNN]; exact Bt n (-e)) (by rw [← hDD]; exact Bt d e) (byQ hg (x := N) (y := D) (Az hNb).2.2.1 hD0 (Az hDb).2.1 _)) (mV rfl (mV rfl (mV rfl (mV rfl (mV rfl (mn (sO (mV rfl (mV rfl (mC rfl (Ft hg (x := r) (y := r) (Az hr9).2.2.1 (Az hr9).2.2.1 _) (mV rfl (mn (sq (sO (mV rfl (mV rfl (mC rfl (A3.sub2 (by rw [← hDD]; exact Bt d e) (Sub.refl _) (Bl hg (x := D) (y := r + r) (Az hDb).2.2.1 (Az hr9).2.2.2.2 _)) (mK (v := .bool true) rfl (congrArg AVal.bool (decide_eq_true hlt)) (mG (mG (mG (mG (mG (mGT hg rfl rfl (mGT hg rfl rfl (mGT hg rfl rfl (mGT hg rfl rfl (mG (mV rfl (mn (cT rfl (oM (mV rfl (mV (v := .hsl 1 1 0 1 (some 1)) rfl ?_)))))))))))))))))))))))))))))))))))))))))))))))))))))))
       refine mFz (Ap (l := [(0, .bool s), (1, dN n), (2, dN d), (6, .ptr 0 0), (8, .int .i64 e), (48, dN q), (49, dN 1)]) 1 rfl (Nat.zero_le _) rfl rfl (fzC rfl fvB (fzC rfl Cf (fzC rfl Cf (fzC rfl (fvP rfl) (fzC rfl fvI (fzC rfl Cf (fzC rfl (by rw [dN1]; exact Di (id := 1) (l := [1]) (by decide) rfl) fzN)))))))) ?_
       refine mC rfl (Ft hg (x := q) (y := 1) (Az hq).2.2.1 (by decide) _) (mV rfl (mn (sq (sO (mC rfl (Bw hg (n := 999999999999999) (by decide) (by decide) _) (mV rfl (Ek hg gN (c := true) rfl rfl (Bl hg (x := 999999999999999) (y := q + 1) (by decide) (by have := Az hq; omega) _) (decide_eq_true hbig) (mn (cT rfl ?_)))))))))
       refine ExM.exit ?_
       refine oM (mV rfl (mK (v := .int .i64 (e + 1)) rfl (Br (by omega) (by omega) rfl) (mV rfl (mn ?_))))
       exact ⟨j + 1, ⟨by omega, by rw [← hN]; congr 1; omega⟩, by omega, Ap 1 rfl (Nat.zero_le _) rfl rfl (fzC rfl fvB (fzC rfl Cf (fzC rfl Cf (fzC rfl (fvP rfl) (fzC rfl (by rw [show ((j + 1 : Nat) : Int) - 9 = e + 1 by omega]; exact fvI) fzN)))))⟩
     · have hlb := Qd (m := q + 1) (e := e) (by omega) (by omega)
       cases s
       · rw [if_neg hbig] at hN
         refine sq (sO (mV rfl (mT rfl (mn (cT rfl (kM (sq (bM (sO (mV rfl (mV rfl (mC rfl (Em hg (x := d) (n := e) (nLl hd (Ao (by decide))) (by omega) _) (mV rfl (mn (sO (mV rfl (mV rfl (mI (-e) rfl (mC rfl (Em hg (x := n) (n := -e) (nLl hn (Ao (by decide))) (by omega) _) (mV rfl (mC rfl (show cP W0 151 [tN n (-e), tN d e] [.cells 24 [.int .i64 0, .int .i64 0] false] (.tup [dN q, dN r]) [.cells 24 [.int .i64 0, .int .i64 0] false] from by rw [← hqq, ← hrr]; exact A3.sub2 (by rw [← hNN]; exact Bt n (-e)) (by rw [← hDD]; exact Bt d e) (byQ hg (x := N) (y := D) (Az hNb).2.2.1 hD0 (Az hDb).2.1 _)) (mV rfl (mV rfl (mV rfl (mV rfl (mV rfl (mn (sO (mV rfl (mV rfl (mC rfl (Ft hg (x := r) (y := r) (Az hr9).2.2.1 (Az hr9).2.2.1 _) (mV rfl (mn (sq (sO (mV rfl (mV rfl (mC rfl (A3.sub2 (by rw [← hDD]; exact Bt d e) (Sub.refl _) (Bl hg (x := D) (y := r + r) (Az hDb).2.2.1 (Az hr9).2.2.2.2 _)) (mK (v := .bool true) rfl (congrArg AVal.bool (decide_eq_true hlt)) (mG (mG (mG (mG (mG (mGT hg rfl rfl (mGT hg rfl rfl (mGT hg rfl rfl (mGT hg rfl rfl (mG (mV rfl (mn (cT rfl (oM (mV rfl (mV (v := .hsl 1 1 0 1 (some 1)) rfl ?_)))))))))))))))))))))))))))))))))))))))))))))))))))))))
         refine mFz (Ap (l := [(0, .bool false), (1, dN n), (2, dN d), (6, .ptr 0 0), (8, .int .i64 e), (48, dN q), (49, dN 1)]) 1 rfl (Nat.zero_le _) rfl rfl (fzC rfl fvB (fzC rfl Cf (fzC rfl Cf (fzC rfl (fvP rfl) (fzC rfl fvI (fzC rfl Cf (fzC rfl (by rw [dN1]; exact Di (id := 1) (l := [1]) (by decide) rfl) fzN)))))))) ?_
         refine mC rfl (Ft hg (x := q) (y := 1) (Az hq).2.2.1 (by decide) _) (mV rfl (mn (sq (sO (mC rfl (Bw hg (n := 999999999999999) (by decide) (by decide) _) (mV rfl (Ek hg gN (c := false) rfl rfl (Bl hg (x := 999999999999999) (y := q + 1) (by decide) (by have := Az hq; omega) _) (dF hbig) (mn (cF rfl (kM (sO (mV rfl (mC rfl (Jn hg (x := q + 1) (by omega) _) (mV rfl (mC rfl (Wl hg (m := q + 1) (e := e) (by omega) (by omega) (by omega) _) (mV (v := .ptr 1 0) rfl (Ai hg gN rfl (mn (sq (sO (mV rfl (mn (cF rfl (kM (sO (mV rfl (Ai hg gN rfl (mV rfl (mn ?_)))))))))))))))))))))))))))))
         refine ExM.ret ?_
         refine A4 trivial rfl rfl 100 ?_ rfl
         rw [← hN]; rfl
       · rw [if_neg hbig] at hN
         refine sq (sO (mV rfl (mT rfl (mn (cT rfl (kM (sq (bM (sO (mV rfl (mV rfl (mC rfl (Em hg (x := d) (n := e) (nLl hd (Ao (by decide))) (by omega) _) (mV rfl (mn (sO (mV rfl (mV rfl (mI (-e) rfl (mC rfl (Em hg (x := n) (n := -e) (nLl hn (Ao (by decide))) (by omega) _) (mV rfl (mC rfl (show cP W0 151 [tN n (-e), tN d e] [.cells 24 [.int .i64 0, .int .i64 0] false] (.tup [dN q, dN r]) [.cells 24 [.int .i64 0, .int .i64 0] false] from by rw [← hqq, ← hrr]; exact A3.sub2 (by rw [← hNN]; exact Bt n (-e)) (by rw [← hDD]; exact Bt d e) (byQ hg (x := N) (y := D) (Az hNb).2.2.1 hD0 (Az hDb).2.1 _)) (mV rfl (mV rfl (mV rfl (mV rfl (mV rfl (mn (sO (mV rfl (mV rfl (mC rfl (Ft hg (x := r) (y := r) (Az hr9).2.2.1 (Az hr9).2.2.1 _) (mV rfl (mn (sq (sO (mV rfl (mV rfl (mC rfl (A3.sub2 (by rw [← hDD]; exact Bt d e) (Sub.refl _) (Bl hg (x := D) (y := r + r) (Az hDb).2.2.1 (Az hr9).2.2.2.2 _)) (mK (v := .bool true) rfl (congrArg AVal.bool (decide_eq_true hlt)) (mG (mG (mG (mG (mG (mGT hg rfl rfl (mGT hg rfl rfl (mGT hg rfl rfl (mGT hg rfl rfl (mG (mV rfl (mn (cT rfl (oM (mV rfl (mV (v := .hsl 1 1 0 1 (some 1)) rfl ?_)))))))))))))))))))))))))))))))))))))))))))))))))))))))
         refine mFz (Ap (l := [(0, .bool true), (1, dN n), (2, dN d), (6, .ptr 0 0), (8, .int .i64 e), (48, dN q), (49, dN 1)]) 1 rfl (Nat.zero_le _) rfl rfl (fzC rfl fvB (fzC rfl Cf (fzC rfl Cf (fzC rfl (fvP rfl) (fzC rfl fvI (fzC rfl Cf (fzC rfl (by rw [dN1]; exact Di (id := 1) (l := [1]) (by decide) rfl) fzN)))))))) ?_
         refine mC rfl (Ft hg (x := q) (y := 1) (Az hq).2.2.1 (by decide) _) (mV rfl (mn (sq (sO (mC rfl (Bw hg (n := 999999999999999) (by decide) (by decide) _) (mV rfl (Ek hg gN (c := false) rfl rfl (Bl hg (x := 999999999999999) (y := q + 1) (by decide) (by have := Az hq; omega) _) (dF hbig) (mn (cF rfl (kM (sO (mV rfl (mC rfl (Jn hg (x := q + 1) (by omega) _) (mV rfl (mC rfl (Wl hg (m := q + 1) (e := e) (by omega) (by omega) (by omega) _) (mV (v := .ptr 1 0) rfl (Ai hg gN rfl (mn (sq (sO (mV rfl (mn (cT rfl (oM (mV rfl (mV rfl (mI (-((Jc (q + 1) e).1 : Int)) rfl (mV rfl (Ai hg gN rfl (mn (sO (mV rfl (Ai hg gN rfl (mV rfl (mn ?_)))))))))))))))))))))))))))))))))))
         refine ExM.ret ?_
         refine A4 trivial rfl rfl 100 ?_ rfl
         rw [← hN]; rfl
   · rw [if_neg hlt] at hqe
     by_cases hgt : r + r < D
     · rw [if_pos hgt] at hqe; rw [hqe] at hN
       by_cases hbig : 999999999999999 < q
       · rw [if_pos hbig] at hN
         refine sq (sO (mV rfl (mT rfl (mn (cT rfl (kM (sq (bM (sO (mV rfl (mV rfl (mC rfl (Em hg (x := d) (n := e) (nLl hd (Ao (by decide))) (by omega) _) (mV rfl (mn (sO (mV rfl (mV rfl (mI (-e) rfl (mC rfl (Em hg (x := n) (n := -e) (nLl hn (Ao (by decide))) (by omega) _) (mV rfl (mC rfl (show cP W0 151 [tN n (-e), tN d e] [.cells 24 [.int .i64 0, .int .i64 0] false] (.tup [dN q, dN r]) [.cells 24 [.int .i64 0, .int .i64 0] false] from by rw [← hqq, ← hrr]; exact A3.sub2 (by rw [← hNN]; exact Bt n (-e)) (by rw [← hDD]; exact Bt d e) (byQ hg (x := N) (y := D) (Az hNb).2.2.1 hD0 (Az hDb).2.1 _)) (mV rfl (mV rfl (mV rfl (mV rfl (mV rfl (mn (sO (mV rfl (mV rfl (mC rfl (Ft hg (x := r) (y := r) (Az hr9).2.2.1 (Az hr9).2.2.1 _) (mV rfl (mn (sq (sO (mV rfl (mV rfl (mC rfl (A3.sub2 (by rw [← hDD]; exact Bt d e) (Sub.refl _) (Bl hg (x := D) (y := r + r) (Az hDb).2.2.1 (Az hr9).2.2.2.2 _)) (mK (v := .bool false) rfl (congrArg AVal.bool (dF hlt)) (mV rfl (mV rfl (mC rfl (A3.sub2 (Sub.refl _) (by rw [← hDD]; exact Bt d e) (Bl hg (x := r + r) (y := D) (Az hr9).2.2.2.2 (Az hDb).2.2.1 _)) (mK (v := .bool false) rfl (congrArg AVal.bool (by rw [decide_eq_true hgt]; rfl)) (mV rfl (mG (mG (mG (mG (mV rfl (mV rfl (mn (cF rfl (kM (sq (sO (mC rfl (Bw hg (n := 999999999999999) (by decide) (by decide) _) (mV rfl (Ek hg gN (c := true) rfl rfl (Bl hg (x := 999999999999999) (y := q) (by decide) (by have := Az hq; omega) _) (decide_eq_true hbig) (mn (cT rfl ?_))))))))))))))))))))))))))))))))))))))))))))))))))))))))))))
         refine ExM.exit ?_
         refine oM (mV rfl (mK (v := .int .i64 (e + 1)) rfl (Br (by omega) (by omega) rfl) (mV rfl (mn ?_))))
         exact ⟨j + 1, ⟨by omega, by rw [← hN]; congr 1; omega⟩, by omega, Ap 1 rfl (Nat.zero_le _) rfl rfl (fzC rfl fvB (fzC rfl Cf (fzC rfl Cf (fzC rfl (fvP rfl) (fzC rfl (by rw [show ((j + 1 : Nat) : Int) - 9 = e + 1 by omega]; exact fvI) fzN)))))⟩
       · have hlb := Qd (m := q) (e := e) (by omega) (by omega)
         cases s
         · rw [if_neg hbig] at hN
           refine sq (sO (mV rfl (mT rfl (mn (cT rfl (kM (sq (bM (sO (mV rfl (mV rfl (mC rfl (Em hg (x := d) (n := e) (nLl hd (Ao (by decide))) (by omega) _) (mV rfl (mn (sO (mV rfl (mV rfl (mI (-e) rfl (mC rfl (Em hg (x := n) (n := -e) (nLl hn (Ao (by decide))) (by omega) _) (mV rfl (mC rfl (show cP W0 151 [tN n (-e), tN d e] [.cells 24 [.int .i64 0, .int .i64 0] false] (.tup [dN q, dN r]) [.cells 24 [.int .i64 0, .int .i64 0] false] from by rw [← hqq, ← hrr]; exact A3.sub2 (by rw [← hNN]; exact Bt n (-e)) (by rw [← hDD]; exact Bt d e) (byQ hg (x := N) (y := D) (Az hNb).2.2.1 hD0 (Az hDb).2.1 _)) (mV rfl (mV rfl (mV rfl (mV rfl (mV rfl (mn (sO (mV rfl (mV rfl (mC rfl (Ft hg (x := r) (y := r) (Az hr9).2.2.1 (Az hr9).2.2.1 _) (mV rfl (mn (sq (sO (mV rfl (mV rfl (mC rfl (A3.sub2 (by rw [← hDD]; exact Bt d e) (Sub.refl _) (Bl hg (x := D) (y := r + r) (Az hDb).2.2.1 (Az hr9).2.2.2.2 _)) (mK (v := .bool false) rfl (congrArg AVal.bool (dF hlt)) (mV rfl (mV rfl (mC rfl (A3.sub2 (Sub.refl _) (by rw [← hDD]; exact Bt d e) (Bl hg (x := r + r) (y := D) (Az hr9).2.2.2.2 (Az hDb).2.2.1 _)) (mK (v := .bool false) rfl (congrArg AVal.bool (by rw [decide_eq_true hgt]; rfl)) (mV rfl (mG (mG (mG (mG (mV rfl (mV rfl (mn (cF rfl (kM (sq (sO (mC rfl (Bw hg (n := 999999999999999) (by decide) (by decide) _) (mV rfl (Ek hg gN (c := false) rfl rfl (Bl hg (x := 999999999999999) (y := q) (by decide) (by have := Az hq; omega) _) (dF hbig) (mn (cF rfl (kM (sO (mV rfl (mC rfl (Jn hg (x := q) (by omega) _) (mV rfl (mC rfl (Wl hg (m := q) (e := e) (by omega) (by omega) (by omega) _) (mV (v := .ptr 1 0) rfl (Ai hg gN rfl (mn (sq (sO (mV rfl (mn (cF rfl (kM (sO (mV rfl (Ai hg gN rfl (mV rfl (mn ?_))))))))))))))))))))))))))))))))))))))))))))))))))))))))))))))))))))))))))))))))
           refine ExM.ret ?_
           refine A4 trivial rfl rfl 100 ?_ rfl
           rw [← hN]; rfl
         · rw [if_neg hbig] at hN
           refine sq (sO (mV rfl (mT rfl (mn (cT rfl (kM (sq (bM (sO (mV rfl (mV rfl (mC rfl (Em hg (x := d) (n := e) (nLl hd (Ao (by decide))) (by omega) _) (mV rfl (mn (sO (mV rfl (mV rfl (mI (-e) rfl (mC rfl (Em hg (x := n) (n := -e) (nLl hn (Ao (by decide))) (by omega) _) (mV rfl (mC rfl (show cP W0 151 [tN n (-e), tN d e] [.cells 24 [.int .i64 0, .int .i64 0] false] (.tup [dN q, dN r]) [.cells 24 [.int .i64 0, .int .i64 0] false] from by rw [← hqq, ← hrr]; exact A3.sub2 (by rw [← hNN]; exact Bt n (-e)) (by rw [← hDD]; exact Bt d e) (byQ hg (x := N) (y := D) (Az hNb).2.2.1 hD0 (Az hDb).2.1 _)) (mV rfl (mV rfl (mV rfl (mV rfl (mV rfl (mn (sO (mV rfl (mV rfl (mC rfl (Ft hg (x := r) (y := r) (Az hr9).2.2.1 (Az hr9).2.2.1 _) (mV rfl (mn (sq (sO (mV rfl (mV rfl (mC rfl (A3.sub2 (by rw [← hDD]; exact Bt d e) (Sub.refl _) (Bl hg (x := D) (y := r + r) (Az hDb).2.2.1 (Az hr9).2.2.2.2 _)) (mK (v := .bool false) rfl (congrArg AVal.bool (dF hlt)) (mV rfl (mV rfl (mC rfl (A3.sub2 (Sub.refl _) (by rw [← hDD]; exact Bt d e) (Bl hg (x := r + r) (y := D) (Az hr9).2.2.2.2 (Az hDb).2.2.1 _)) (mK (v := .bool false) rfl (congrArg AVal.bool (by rw [decide_eq_true hgt]; rfl)) (mV rfl (mG (mG (mG (mG (mV rfl (mV rfl (mn (cF rfl (kM (sq (sO (mC rfl (Bw hg (n := 999999999999999) (by decide) (by decide) _) (mV rfl (Ek hg gN (c := false) rfl rfl (Bl hg (x := 999999999999999) (y := q) (by decide) (by have := Az hq; omega) _) (dF hbig) (mn (cF rfl (kM (sO (mV rfl (mC rfl (Jn hg (x := q) (by omega) _) (mV rfl (mC rfl (Wl hg (m := q) (e := e) (by omega) (by omega) (by omega) _) (mV (v := .ptr 1 0) rfl (Ai hg gN rfl (mn (sq (sO (mV rfl (mn (cT rfl (oM (mV rfl (mV rfl (mI (-((Jc (q) e).1 : Int)) rfl (mV rfl (Ai hg gN rfl (mn (sO (mV rfl (Ai hg gN rfl (mV rfl (mn ?_))))))))))))))))))))))))))))))))))))))))))))))))))))))))))))))))))))))))))))))))))))))
           refine ExM.ret ?_
           refine A4 trivial rfl rfl 100 ?_ rfl
           rw [← hN]; rfl
     · rw [if_neg hgt] at hqe
       by_cases hodd : q % 10 % 2 = 1
       · rw [if_pos hodd] at hqe; rw [hqe] at hN
         by_cases hbig : 999999999999999 < q + 1
         · rw [if_pos hbig] at hN
           refine sq (sO (mV rfl (mT rfl (mn (cT rfl (kM (sq (bM (sO (mV rfl (mV rfl (mC rfl (Em hg (x := d) (n := e) (nLl hd (Ao (by decide))) (by omega) _) (mV rfl (mn (sO (mV rfl (mV rfl (mI (-e) rfl (mC rfl (Em hg (x := n) (n := -e) (nLl hn (Ao (by decide))) (by omega) _) (mV rfl (mC rfl (show cP W0 151 [tN n (-e), tN d e] [.cells 24 [.int .i64 0, .int .i64 0] false] (.tup [dN q, dN r]) [.cells 24 [.int .i64 0, .int .i64 0] false] from by rw [← hqq, ← hrr]; exact A3.sub2 (by rw [← hNN]; exact Bt n (-e)) (by rw [← hDD]; exact Bt d e) (byQ hg (x := N) (y := D) (Az hNb).2.2.1 hD0 (Az hDb).2.1 _)) (mV rfl (mV rfl (mV rfl (mV rfl (mV rfl (mn (sO (mV rfl (mV rfl (mC rfl (Ft hg (x := r) (y := r) (Az hr9).2.2.1 (Az hr9).2.2.1 _) (mV rfl (mn (sq (sO (mV rfl (mV rfl (mC rfl (A3.sub2 (by rw [← hDD]; exact Bt d e) (Sub.refl _) (Bl hg (x := D) (y := r + r) (Az hDb).2.2.1 (Az hr9).2.2.2.2 _)) (mK (v := .bool false) rfl (congrArg AVal.bool (dF hlt)) (mV rfl (mV rfl (mC rfl (A3.sub2 (Sub.refl _) (by rw [← hDD]; exact Bt d e) (Bl hg (x := r + r) (y := D) (Az hr9).2.2.2.2 (Az hDb).2.2.1 _)) (mK (v := .bool true) rfl (congrArg AVal.bool (by rw [dF hgt]; rfl)) (mV rfl (mV rfl (mC rfl (atQ hg _) (mKv hg (gS rfl) (v := .int .i64 ((q % 10 % 2 : Nat))) rfl rfl Oq (iE (Int.ofNat_tmod (q % 10) 2).symm) (mK (v := .bool true) rfl (congrArg AVal.bool (by rw [hodd]; rfl)) (mV rfl (mV rfl (mn (cT rfl (oM (mV rfl (mV (v := .hsl 1 1 0 1 (some 1)) rfl ?_)))))))))))))))))))))))))))))))))))))))))))))))))))))))
           refine mFz (Ap (l := [(0, .bool s), (1, dN n), (2, dN d), (6, .ptr 0 0), (8, .int .i64 e), (48, dN q), (49, dN 1)]) 1 rfl (Nat.zero_le _) rfl rfl (fzC rfl fvB (fzC rfl Cf (fzC rfl Cf (fzC rfl (fvP rfl) (fzC rfl fvI (fzC rfl Cf (fzC rfl (by rw [dN1]; exact Di (id := 1) (l := [1]) (by decide) rfl) fzN)))))))) ?_
           refine mC rfl (Ft hg (x := q) (y := 1) (Az hq).2.2.1 (by decide) _) (mV rfl (mn (sq (sO (mC rfl (Bw hg (n := 999999999999999) (by decide) (by decide) _) (mV rfl (Ek hg gN (c := true) rfl rfl (Bl hg (x := 999999999999999) (y := q + 1) (by decide) (by have := Az hq; omega) _) (decide_eq_true hbig) (mn (cT rfl ?_)))))))))
           refine ExM.exit ?_
           refine oM (mV rfl (mK (v := .int .i64 (e + 1)) rfl (Br (by omega) (by omega) rfl) (mV rfl (mn ?_))))
           exact ⟨j + 1, ⟨by omega, by rw [← hN]; congr 1; omega⟩, by omega, Ap 1 rfl (Nat.zero_le _) rfl rfl (fzC rfl fvB (fzC rfl Cf (fzC rfl Cf (fzC rfl (fvP rfl) (fzC rfl (by rw [show ((j + 1 : Nat) : Int) - 9 = e + 1 by omega]; exact fvI) fzN)))))⟩
         · have hlb := Qd (m := q + 1) (e := e) (by omega) (by omega)
           cases s
           · rw [if_neg hbig] at hN
             refine sq (sO (mV rfl (mT rfl (mn (cT rfl (kM (sq (bM (sO (mV rfl (mV rfl (mC rfl (Em hg (x := d) (n := e) (nLl hd (Ao (by decide))) (by omega) _) (mV rfl (mn (sO (mV rfl (mV rfl (mI (-e) rfl (mC rfl (Em hg (x := n) (n := -e) (nLl hn (Ao (by decide))) (by omega) _) (mV rfl (mC rfl (show cP W0 151 [tN n (-e), tN d e] [.cells 24 [.int .i64 0, .int .i64 0] false] (.tup [dN q, dN r]) [.cells 24 [.int .i64 0, .int .i64 0] false] from by rw [← hqq, ← hrr]; exact A3.sub2 (by rw [← hNN]; exact Bt n (-e)) (by rw [← hDD]; exact Bt d e) (byQ hg (x := N) (y := D) (Az hNb).2.2.1 hD0 (Az hDb).2.1 _)) (mV rfl (mV rfl (mV rfl (mV rfl (mV rfl (mn (sO (mV rfl (mV rfl (mC rfl (Ft hg (x := r) (y := r) (Az hr9).2.2.1 (Az hr9).2.2.1 _) (mV rfl (mn (sq (sO (mV rfl (mV rfl (mC rfl (A3.sub2 (by rw [← hDD]; exact Bt d e) (Sub.refl _) (Bl hg (x := D) (y := r + r) (Az hDb).2.2.1 (Az hr9).2.2.2.2 _)) (mK (v := .bool false) rfl (congrArg AVal.bool (dF hlt)) (mV rfl (mV rfl (mC rfl (A3.sub2 (Sub.refl _) (by rw [← hDD]; exact Bt d e) (Bl hg (x := r + r) (y := D) (Az hr9).2.2.2.2 (Az hDb).2.2.1 _)) (mK (v := .bool true) rfl (congrArg AVal.bool (by rw [dF hgt]; rfl)) (mV rfl (mV rfl (mC rfl (atQ hg _) (mKv hg (gS rfl) (v := .int .i64 ((q % 10 % 2 : Nat))) rfl rfl Oq (iE (Int.ofNat_tmod (q % 10) 2).symm) (mK (v := .bool true) rfl (congrArg AVal.bool (by rw [hodd]; rfl)) (mV rfl (mV rfl (mn (cT rfl (oM (mV rfl (mV (v := .hsl 1 1 0 1 (some 1)) rfl ?_)))))))))))))))))))))))))))))))))))))))))))))))))))))))
             refine mFz (Ap (l := [(0, .bool false), (1, dN n), (2, dN d), (6, .ptr 0 0), (8, .int .i64 e), (48, dN q), (49, dN 1)]) 1 rfl (Nat.zero_le _) rfl rfl (fzC rfl fvB (fzC rfl Cf (fzC rfl Cf (fzC rfl (fvP rfl) (fzC rfl fvI (fzC rfl Cf (fzC rfl (by rw [dN1]; exact Di (id := 1) (l := [1]) (by decide) rfl) fzN)))))))) ?_
             refine mC rfl (Ft hg (x := q) (y := 1) (Az hq).2.2.1 (by decide) _) (mV rfl (mn (sq (sO (mC rfl (Bw hg (n := 999999999999999) (by decide) (by decide) _) (mV rfl (Ek hg gN (c := false) rfl rfl (Bl hg (x := 999999999999999) (y := q + 1) (by decide) (by have := Az hq; omega) _) (dF hbig) (mn (cF rfl (kM (sO (mV rfl (mC rfl (Jn hg (x := q + 1) (by omega) _) (mV rfl (mC rfl (Wl hg (m := q + 1) (e := e) (by omega) (by omega) (by omega) _) (mV (v := .ptr 1 0) rfl (Ai hg gN rfl (mn (sq (sO (mV rfl (mn (cF rfl (kM (sO (mV rfl (Ai hg gN rfl (mV rfl (mn ?_)))))))))))))))))))))))))))))
             refine ExM.ret ?_
             refine A4 trivial rfl rfl 100 ?_ rfl
             rw [← hN]; rfl
           · rw [if_neg hbig] at hN
             refine sq (sO (mV rfl (mT rfl (mn (cT rfl (kM (sq (bM (sO (mV rfl (mV rfl (mC rfl (Em hg (x := d) (n := e) (nLl hd (Ao (by decide))) (by omega) _) (mV rfl (mn (sO (mV rfl (mV rfl (mI (-e) rfl (mC rfl (Em hg (x := n) (n := -e) (nLl hn (Ao (by decide))) (by omega) _) (mV rfl (mC rfl (show cP W0 151 [tN n (-e), tN d e] [.cells 24 [.int .i64 0, .int .i64 0] false] (.tup [dN q, dN r]) [.cells 24 [.int .i64 0, .int .i64 0] false] from by rw [← hqq, ← hrr]; exact A3.sub2 (by rw [← hNN]; exact Bt n (-e)) (by rw [← hDD]; exact Bt d e) (byQ hg (x := N) (y := D) (Az hNb).2.2.1 hD0 (Az hDb).2.1 _)) (mV rfl (mV rfl (mV rfl (mV rfl (mV rfl (mn (sO (mV rfl (mV rfl (mC rfl (Ft hg (x := r) (y := r) (Az hr9).2.2.1 (Az hr9).2.2.1 _) (mV rfl (mn (sq (sO (mV rfl (mV rfl (mC rfl (A3.sub2 (by rw [← hDD]; exact Bt d e) (Sub.refl _) (Bl hg (x := D) (y := r + r) (Az hDb).2.2.1 (Az hr9).2.2.2.2 _)) (mK (v := .bool false) rfl (congrArg AVal.bool (dF hlt)) (mV rfl (mV rfl (mC rfl (A3.sub2 (Sub.refl _) (by rw [← hDD]; exact Bt d e) (Bl hg (x := r + r) (y := D) (Az hr9).2.2.2.2 (Az hDb).2.2.1 _)) (mK (v := .bool true) rfl (congrArg AVal.bool (by rw [dF hgt]; rfl)) (mV rfl (mV rfl (mC rfl (atQ hg _) (mKv hg (gS rfl) (v := .int .i64 ((q % 10 % 2 : Nat))) rfl rfl Oq (iE (Int.ofNat_tmod (q % 10) 2).symm) (mK (v := .bool true) rfl (congrArg AVal.bool (by rw [hodd]; rfl)) (mV rfl (mV rfl (mn (cT rfl (oM (mV rfl (mV (v := .hsl 1 1 0 1 (some 1)) rfl ?_)))))))))))))))))))))))))))))))))))))))))))))))))))))))
             refine mFz (Ap (l := [(0, .bool true), (1, dN n), (2, dN d), (6, .ptr 0 0), (8, .int .i64 e), (48, dN q), (49, dN 1)]) 1 rfl (Nat.zero_le _) rfl rfl (fzC rfl fvB (fzC rfl Cf (fzC rfl Cf (fzC rfl (fvP rfl) (fzC rfl fvI (fzC rfl Cf (fzC rfl (by rw [dN1]; exact Di (id := 1) (l := [1]) (by decide) rfl) fzN)))))))) ?_
             refine mC rfl (Ft hg (x := q) (y := 1) (Az hq).2.2.1 (by decide) _) (mV rfl (mn (sq (sO (mC rfl (Bw hg (n := 999999999999999) (by decide) (by decide) _) (mV rfl (Ek hg gN (c := false) rfl rfl (Bl hg (x := 999999999999999) (y := q + 1) (by decide) (by have := Az hq; omega) _) (dF hbig) (mn (cF rfl (kM (sO (mV rfl (mC rfl (Jn hg (x := q + 1) (by omega) _) (mV rfl (mC rfl (Wl hg (m := q + 1) (e := e) (by omega) (by omega) (by omega) _) (mV (v := .ptr 1 0) rfl (Ai hg gN rfl (mn (sq (sO (mV rfl (mn (cT rfl (oM (mV rfl (mV rfl (mI (-((Jc (q + 1) e).1 : Int)) rfl (mV rfl (Ai hg gN rfl (mn (sO (mV rfl (Ai hg gN rfl (mV rfl (mn ?_)))))))))))))))))))))))))))))))))))
             refine ExM.ret ?_
             refine A4 trivial rfl rfl 100 ?_ rfl
             rw [← hN]; rfl
       · rw [if_neg hodd] at hqe; rw [hqe] at hN
         by_cases hbig : 999999999999999 < q
         · rw [if_pos hbig] at hN
           refine sq (sO (mV rfl (mT rfl (mn (cT rfl (kM (sq (bM (sO (mV rfl (mV rfl (mC rfl (Em hg (x := d) (n := e) (nLl hd (Ao (by decide))) (by omega) _) (mV rfl (mn (sO (mV rfl (mV rfl (mI (-e) rfl (mC rfl (Em hg (x := n) (n := -e) (nLl hn (Ao (by decide))) (by omega) _) (mV rfl (mC rfl (show cP W0 151 [tN n (-e), tN d e] [.cells 24 [.int .i64 0, .int .i64 0] false] (.tup [dN q, dN r]) [.cells 24 [.int .i64 0, .int .i64 0] false] from by rw [← hqq, ← hrr]; exact A3.sub2 (by rw [← hNN]; exact Bt n (-e)) (by rw [← hDD]; exact Bt d e) (byQ hg (x := N) (y := D) (Az hNb).2.2.1 hD0 (Az hDb).2.1 _)) (mV rfl (mV rfl (mV rfl (mV rfl (mV rfl (mn (sO (mV rfl (mV rfl (mC rfl (Ft hg (x := r) (y := r) (Az hr9).2.2.1 (Az hr9).2.2.1 _) (mV rfl (mn (sq (sO (mV rfl (mV rfl (mC rfl (A3.sub2 (by rw [← hDD]; exact Bt d e) (Sub.refl _) (Bl hg (x := D) (y := r + r) (Az hDb).2.2.1 (Az hr9).2.2.2.2 _)) (mK (v := .bool false) rfl (congrArg AVal.bool (dF hlt)) (mV rfl (mV rfl (mC rfl (A3.sub2 (Sub.refl _) (by rw [← hDD]; exact Bt d e) (Bl hg (x := r + r) (y := D) (Az hr9).2.2.2.2 (Az hDb).2.2.1 _)) (mK (v := .bool true) rfl (congrArg AVal.bool (by rw [dF hgt]; rfl)) (mV rfl (mV rfl (mC rfl (atQ hg _) (mKv hg (gS rfl) (v := .int .i64 ((q % 10 % 2 : Nat))) rfl rfl Oq (iE (Int.ofNat_tmod (q % 10) 2).symm) (mK (v := .bool false) rfl (congrArg AVal.bool (by rw [bFn]; omega)) (mV rfl (mV rfl (mn (cF rfl (kM (sq (sO (mC rfl (Bw hg (n := 999999999999999) (by decide) (by decide) _) (mV rfl (Ek hg gN (c := true) rfl rfl (Bl hg (x := 999999999999999) (y := q) (by decide) (by have := Az hq; omega) _) (decide_eq_true hbig) (mn (cT rfl ?_))))))))))))))))))))))))))))))))))))))))))))))))))))))))))))
           refine ExM.exit ?_
           refine oM (mV rfl (mK (v := .int .i64 (e + 1)) rfl (Br (by omega) (by omega) rfl) (mV rfl (mn ?_))))
           exact ⟨j + 1, ⟨by omega, by rw [← hN]; congr 1; omega⟩, by omega, Ap 1 rfl (Nat.zero_le _) rfl rfl (fzC rfl fvB (fzC rfl Cf (fzC rfl Cf (fzC rfl (fvP rfl) (fzC rfl (by rw [show ((j + 1 : Nat) : Int) - 9 = e + 1 by omega]; exact fvI) fzN)))))⟩
         · have hlb := Qd (m := q) (e := e) (by omega) (by omega)
           cases s
           · rw [if_neg hbig] at hN
             refine sq (sO (mV rfl (mT rfl (mn (cT rfl (kM (sq (bM (sO (mV rfl (mV rfl (mC rfl (Em hg (x := d) (n := e) (nLl hd (Ao (by decide))) (by omega) _) (mV rfl (mn (sO (mV rfl (mV rfl (mI (-e) rfl (mC rfl (Em hg (x := n) (n := -e) (nLl hn (Ao (by decide))) (by omega) _) (mV rfl (mC rfl (show cP W0 151 [tN n (-e), tN d e] [.cells 24 [.int .i64 0, .int .i64 0] false] (.tup [dN q, dN r]) [.cells 24 [.int .i64 0, .int .i64 0] false] from by rw [← hqq, ← hrr]; exact A3.sub2 (by rw [← hNN]; exact Bt n (-e)) (by rw [← hDD]; exact Bt d e) (byQ hg (x := N) (y := D) (Az hNb).2.2.1 hD0 (Az hDb).2.1 _)) (mV rfl (mV rfl (mV rfl (mV rfl (mV rfl (mn (sO (mV rfl (mV rfl (mC rfl (Ft hg (x := r) (y := r) (Az hr9).2.2.1 (Az hr9).2.2.1 _) (mV rfl (mn (sq (sO (mV rfl (mV rfl (mC rfl (A3.sub2 (by rw [← hDD]; exact Bt d e) (Sub.refl _) (Bl hg (x := D) (y := r + r) (Az hDb).2.2.1 (Az hr9).2.2.2.2 _)) (mK (v := .bool false) rfl (congrArg AVal.bool (dF hlt)) (mV rfl (mV rfl (mC rfl (A3.sub2 (Sub.refl _) (by rw [← hDD]; exact Bt d e) (Bl hg (x := r + r) (y := D) (Az hr9).2.2.2.2 (Az hDb).2.2.1 _)) (mK (v := .bool true) rfl (congrArg AVal.bool (by rw [dF hgt]; rfl)) (mV rfl (mV rfl (mC rfl (atQ hg _) (mKv hg (gS rfl) (v := .int .i64 ((q % 10 % 2 : Nat))) rfl rfl Oq (iE (Int.ofNat_tmod (q % 10) 2).symm) (mK (v := .bool false) rfl (congrArg AVal.bool (by rw [bFn]; omega)) (mV rfl (mV rfl (mn (cF rfl (kM (sq (sO (mC rfl (Bw hg (n := 999999999999999) (by decide) (by decide) _) (mV rfl (Ek hg gN (c := false) rfl rfl (Bl hg (x := 999999999999999) (y := q) (by decide) (by have := Az hq; omega) _) (dF hbig) (mn (cF rfl (kM (sO (mV rfl (mC rfl (Jn hg (x := q) (by omega) _) (mV rfl (mC rfl (Wl hg (m := q) (e := e) (by omega) (by omega) (by omega) _) (mV (v := .ptr 1 0) rfl (Ai hg gN rfl (mn (sq (sO (mV rfl (mn (cF rfl (kM (sO (mV rfl (Ai hg gN rfl (mV rfl (mn ?_))))))))))))))))))))))))))))))))))))))))))))))))))))))))))))))))))))))))))))))))
             refine ExM.ret ?_
             refine A4 trivial rfl rfl 100 ?_ rfl
             rw [← hN]; rfl
           · rw [if_neg hbig] at hN
             refine sq (sO (mV rfl (mT rfl (mn (cT rfl (kM (sq (bM (sO (mV rfl (mV rfl (mC rfl (Em hg (x := d) (n := e) (nLl hd (Ao (by decide))) (by omega) _) (mV rfl (mn (sO (mV rfl (mV rfl (mI (-e) rfl (mC rfl (Em hg (x := n) (n := -e) (nLl hn (Ao (by decide))) (by omega) _) (mV rfl (mC rfl (show cP W0 151 [tN n (-e), tN d e] [.cells 24 [.int .i64 0, .int .i64 0] false] (.tup [dN q, dN r]) [.cells 24 [.int .i64 0, .int .i64 0] false] from by rw [← hqq, ← hrr]; exact A3.sub2 (by rw [← hNN]; exact Bt n (-e)) (by rw [← hDD]; exact Bt d e) (byQ hg (x := N) (y := D) (Az hNb).2.2.1 hD0 (Az hDb).2.1 _)) (mV rfl (mV rfl (mV rfl (mV rfl (mV rfl (mn (sO (mV rfl (mV rfl (mC rfl (Ft hg (x := r) (y := r) (Az hr9).2.2.1 (Az hr9).2.2.1 _) (mV rfl (mn (sq (sO (mV rfl (mV rfl (mC rfl (A3.sub2 (by rw [← hDD]; exact Bt d e) (Sub.refl _) (Bl hg (x := D) (y := r + r) (Az hDb).2.2.1 (Az hr9).2.2.2.2 _)) (mK (v := .bool false) rfl (congrArg AVal.bool (dF hlt)) (mV rfl (mV rfl (mC rfl (A3.sub2 (Sub.refl _) (by rw [← hDD]; exact Bt d e) (Bl hg (x := r + r) (y := D) (Az hr9).2.2.2.2 (Az hDb).2.2.1 _)) (mK (v := .bool true) rfl (congrArg AVal.bool (by rw [dF hgt]; rfl)) (mV rfl (mV rfl (mC rfl (atQ hg _) (mKv hg (gS rfl) (v := .int .i64 ((q % 10 % 2 : Nat))) rfl rfl Oq (iE (Int.ofNat_tmod (q % 10) 2).symm) (mK (v := .bool false) rfl (congrArg AVal.bool (by rw [bFn]; omega)) (mV rfl (mV rfl (mn (cF rfl (kM (sq (sO (mC rfl (Bw hg (n := 999999999999999) (by decide) (by decide) _) (mV rfl (Ek hg gN (c := false) rfl rfl (Bl hg (x := 999999999999999) (y := q) (by decide) (by have := Az hq; omega) _) (dF hbig) (mn (cF rfl (kM (sO (mV rfl (mC rfl (Jn hg (x := q) (by omega) _) (mV rfl (mC rfl (Wl hg (m := q) (e := e) (by omega) (by omega) (by omega) _) (mV (v := .ptr 1 0) rfl (Ai hg gN rfl (mn (sq (sO (mV rfl (mn (cT rfl (oM (mV rfl (mV rfl (mI (-((Jc (q) e).1 : Int)) rfl (mV rfl (Ai hg gN rfl (mn (sO (mV rfl (Ai hg gN rfl (mV rfl (mn ?_))))))))))))))))))))))))))))))))))))))))))))))))))))))))))))))))))))))))))))))))))))))
             refine ExM.ret ?_
             refine A4 trivial rfl rfl 100 ?_ rfl
             rw [← hN]; rfl
theorem frzT {H : Hz} {k x : Nat} {n : Int} : ∃ m, frz H k m (tN x n) = some (tN x n) := by
 rcases fvT (H := H) (k := k) (x := x) (n := n) with h | ⟨h1, j, h2⟩
 · exact h
 · exact ⟨1, by rw [h1]; rfl⟩
theorem one500 : 1 < 10 ^ 100 := by decide
def Dk (M E : Int) : Bool := if M < -999999999999999 ∨ 999999999999999 < M ∨ E < -9 ∨ 9 < E then false else if M = 0 then E == 0 else if M.tmod 10 != 0 then true else E == 9
theorem M4 {M E : Int} (h : Dk M E = true) : -999999999999999 ≤ M ∧ M ≤ 999999999999999 ∧ -9 ≤ E ∧ E ≤ 9 := by
 unfold Dk at h
 split at h
 · cases h
 · omega
theorem Ds {M : Int} (h1 : -999999999999999 ≤ M) (h2 : M ≤ 999999999999999) : M.natAbs < 10 ^ 100 := by
 have : (1000000000000000 : Nat) ≤ 10 ^ 100 := by
  have : (10 : Nat) ^ 15 ≤ 10 ^ 100 := Nat.pow_le_pow_right (by decide) (by decide)
  exact Nat.le_trans (by decide) this
 omega
theorem Lj {x : Nat} (h : x < 10 ^ 100) : x < 10 ^ 250 := nLl h (Ao (by decide))
def KF98 : AFn := ⟨(sQ [wV 1 (.box 24 0), wV 2 (.move (.val (.nilSl)))] (.seq (.draw [wV 3 (.fieldAddr 0 1), wV 4 (.load 1 false 3), wV 5 (kF 96 [4]), wV 6 (.fieldAddr 1 1), wV 7 (.load 1 false 6), wV 8 (.bin .add none 7 (vI 9)), wV 9 (kF 99 [5, 8]), wM 2 9]) .ret)), [2], 10⟩
theorem KG98 : Au Tryz.prog 98 = some KF98 := by kernel_rfl
def KF147 : AFn := ⟨(sQ [wV 2 (.move (.val (.nilSl)))] (sQ [wV 3 (.bslice 3 1 1 [.int .i64 0] [(0, 1, (vI 1))]), wM 4 0, wV 5 (kF 99 [3, 4]), wM 2 5] .ret)), [2], 6⟩
theorem KG147 : Au Tryz.prog 147 = some KF147 := by kernel_rfl
def KF100 : AFn := ⟨(sQ [wV 1 (.box 24 0), wV 2 (.move (.val (.bool false)))] (.seq (sQ [wV 3 (.fieldAddr 0 1), wV 4 (.load 1 false 3), wV 5 (.bin .lss none 4 (.val (.int .i64 (-999999999999999)))), wM 6 5, wF 7 6 (.fieldAddr 0 1), wF 8 6 (.load 1 false 7), wF 9 6 (.bin .gtr none 8 (vI 999999999999999)), wV 10 (.pick 6 (.val (.bool true)) 9), wM 11 10, wF 12 11 (.fieldAddr 1 1), wF 13 11 (.load 1 false 12), wF 14 11 (.bin .lss none 13 (.val (.int .i64 (-9)))), wV 15 (.pick 11 (.val (.bool true)) 14), wM 16 15, wF 17 16 (.fieldAddr 1 1), wF 18 16 (.load 1 false 17), wF 19 16 (.bin .gtr none 18 (vI 9)), wV 20 (.pick 16 (.val (.bool true)) 19)] (.cond 20 (sQ [wV 2 (.move (.val (.bool false)))] .ret) .skip)) (.seq (sQ [wV 21 (.fieldAddr 0 1), wV 22 (.load 1 false 21), wV 23 (.bin .eql none 22 (vI 0))] (.cond 23 (sQ [wV 24 (.fieldAddr 1 1), wV 25 (.load 1 false 24), wV 26 (.bin .eql none 25 (vI 0)), wM 2 26] .ret) .skip)) (sQ [wV 27 (.fieldAddr 0 1), wV 28 (.load 1 false 27), wV 29 (.bin .rem none 28 (vI 10)), wV 30 (.bin .neq none 29 (vI 0)), wM 31 30, wF 32 31 (.fieldAddr 1 1), wF 33 31 (.load 1 false 32), wF 34 31 (.bin .eql none 33 (vI 9)), wV 35 (.pick 31 (.val (.bool true)) 34), wM 2 35] .ret)))), [2], 36⟩
theorem KG100 : Au Tryz.prog 100 = some KF100 := by kernel_rfl
def KF54 : AFn := ⟨(sQ [wV 2 (.alloc 24 [.int .i64 0, .int .i64 0]), wV 3 (.move (vI 0))] (sQ [wM 7 0, wV 8 (.bin .lss none 7 (vI 0)), wM 9 0, wV 10 (kF 96 [9]), wV 11 (.bslice 3 1 1 [.int .i64 0] [(0, 1, (vI 1))]), wV 12 (kF 95 [8, 10, 11]), wM 6 12, wV 13 (.extract 6 0), wV 14 (.extract 6 1), wV 4 (.alloc 24 [.int .i64 0, .int .i64 0]), wN (.store 2 4 13), wM 5 14] (.seq (.seq (.draw [wM 15 5, wV 16 (.bin .neq none 15 (vI 0)), wM 17 16, wF 18 17 (.load 2 true 4), wF 19 17 (kF 98 [18]), wF 20 17 (.move 0), wF 21 17 (kF 96 [20]), wF 22 17 (kF 99 [21, (vI 9)]), wF 23 17 (kF 97 [19, 22]), wV 24 (.pick 17 (.val (.bool true)) 23), wM 25 24, wF 26 25 (.move 0), wF 27 25 (kF 96 [26]), wF 28 25 (kF 99 [27, (vI 9)]), wF 29 25 (.load 2 true 4), wF 30 25 (kF 98 [29]), wF 31 25 (kF 97 [28, 30]), wV 32 (.pick 25 (.val (.bool true)) 31)]) (.cond 32 (sQ [wV 33 (.build [.int .i64 0, .int .i64 0] []), wN (.store 2 2 33), wV 3 (.move (vI 10))] .ret) .skip)) (sQ [wV 34 (.load 2 true 4), wN (.store 2 2 34), wV 3 (.move (vI 0))] .ret)))), [.cell 2 2 true, 3], 35⟩
theorem KG54 : Au Tryz.prog 54 = some KF54 := by kernel_rfl
theorem Jt (hg : Gr Tryz.prog W0 G) {M E : Int} (h1 : -999999999999999 ≤ M) (h2 : M ≤ 999999999999999) (h3 : -9 ≤ E) (h4 : E ≤ 9) (H : Hz) : cP W0 98 [.agg [.int .i64 M, .int .i64 E]] H (tN M.natAbs (E + 9)) H := by
 refine A3.pure rfl (blwT 0 _ _) ?_ H
 refine A3.of_fnM KG98 (by simp) rfl ?_
 refine sO (mV (v := .ptr 0 0) rfl (mV rfl (mn (sq ?_))))
 refine ExM.draw hg ?_
 refine qV rfl (qV rfl (Da rfl rfl (Bw hg (by omega) (by omega) _) (qV rfl (qV rfl (qKv (v := .int .i64 (E + 9)) rfl rfl (by first | exact trivial | (simp only [Ae, and_true, lCo, lNi, lAp]; omega)) (Br (by omega) (by omega) rfl) (Da rfl rfl (Em hg (Lj (Ds h1 h2)) (by omega) _) (qV rfl (Et (?_)))))))))
 exact ExM.ret ⟨trivial, _, rfl, .inr ⟨rfl, frzT, rfl⟩⟩
theorem unitP (hg : Gr Tryz.prog W0 G) {n : Int} (hn : n ≤ 1000) (H : Hz) : cP W0 147 [.int .i64 n] H (tN 1 n) H := by
 refine A3.pure rfl (blwT 0 _ _) ?_ H
 refine A3.of_fnM KG147 (by simp) rfl ?_
 refine sO (mV rfl (mn (sO (mV (v := .hsl 1 0 0 1 (some 1)) rfl (mV rfl ?_)))))
 refine mFz (Ap (l := [(3, dN 1), (4, .int .i64 n)]) 0 rfl (Nat.le_refl _) rfl rfl (fzC rfl (by rw [dN1]; exact Di (id := 0) (l := [1]) (Nat.le_refl _) rfl) (fzC rfl fvI fzN))) ?_
 refine mC rfl (Em hg (x := 1) (by decide) hn _) (mV rfl (mn ?_))
 exact ExM.ret (A5 trivial rfl rfl rfl)
theorem Lm (hg : Gr Tryz.prog W0 G) {M E : Int} (H : Hz) : cP W0 100 [.agg [.int .i64 M, .int .i64 E]] H (.bool (Dk M E)) H := by
 refine A3.pure rfl rfl ?_ H
 refine A3.of_fnM KG100 (by simp) rfl ?_
 refine sO (mV (v := .ptr 0 0) rfl (mV rfl (mn (sq (sO (mV rfl (mV rfl ?_)))))))
 refine mB hg gN rfl rfl trivial (fun h1 => ?_) (fun h1 => ?_)
 · refine mV rfl (mG (mG (mG (mV rfl (mV rfl (mG (mG (mG (mV rfl (mV rfl (mG (mG (mG (mV rfl (mn (cT rfl (sO (mV rfl (mn ?_)))))))))))))))))))
   refine ExM.ret ?_
   refine A4 trivial rfl rfl 100 (congrArg (fun b => some (AVal.bool b)) ?_) rfl
   simp only [dTe] at *
   rw [Dk, if_pos (by omega)]
 · refine mV rfl (mV rfl (mV rfl ?_))
   refine mB hg (gS rfl) rfl rfl trivial (fun h2 => ?_) (fun h2 => ?_)
   · refine mV rfl (mV rfl (mG (mG (mG (mV rfl (mV rfl (mG (mG (mG (mV rfl (mn (cT rfl (sO (mV rfl (mn ?_)))))))))))))))
     refine ExM.ret ?_
     refine A4 trivial rfl rfl 100 (congrArg (fun b => some (AVal.bool b)) ?_) rfl
     simp only [dTe, dFn] at *
     rw [Dk, if_pos (by omega)]
   · refine mV rfl (mV rfl (mV rfl (mV rfl ?_)))
     refine mB hg (gS rfl) rfl rfl trivial (fun h3 => ?_) (fun h3 => ?_)
     · refine mV rfl (mV rfl (mG (mG (mG (mV rfl (mn (cT rfl (sO (mV rfl (mn ?_))))))))))
       refine ExM.ret ?_
       refine A4 trivial rfl rfl 100 (congrArg (fun b => some (AVal.bool b)) ?_) rfl
       simp only [dTe, dFn] at *
       rw [Dk, if_pos (by omega)]
     · refine mV rfl (mV rfl (mV rfl (mV rfl ?_)))
       refine mB hg (gS rfl) rfl rfl trivial (fun h4 => ?_) (fun h4 => ?_)
       · refine mV rfl (mn (cT rfl (sO (mV rfl (mn ?_)))))
         refine ExM.ret ?_
         refine A4 trivial rfl rfl 100 (congrArg (fun b => some (AVal.bool b)) ?_) rfl
         simp only [dTe, dFn] at *
         rw [Dk, if_pos (by omega)]
       · refine mV rfl (mn (cF rfl (kM (sq (sO (mV rfl (mV rfl ?_)))))))
         refine mB hg gN rfl rfl trivial (fun h5 => ?_) (fun h5 => ?_)
         · refine mn (cT rfl (sO (mV rfl (mV rfl (mV rfl (mV rfl (mn ?_)))))))
           refine ExM.ret ?_
           refine A4 trivial rfl rfl 100 (congrArg (fun b => some (AVal.bool b)) ?_) rfl
           simp only [dFn, beq_iff_eq] at *
           rw [Dk, if_neg (by omega), if_pos (by omega)]
         · refine mn (cF rfl (kM (sO (mV rfl (mV rfl (Ba hg gN rfl rfl Dh ?_))))))
           refine mB hg gN rfl rfl trivial (fun h6 => ?_) (fun h6 => ?_)
           · refine mV rfl (mG (mG (mG (mV rfl (mV rfl (mn ?_))))))
             refine ExM.ret ?_
             refine A4 trivial rfl rfl 100 (congrArg (fun b => some (AVal.bool b)) ?_) rfl
             simp only [dFn, bFn, ne_eq] at *
             rw [Dk, if_neg (by omega), if_neg (by omega), if_pos (by assumption)]
           · refine mV rfl (mV rfl (mV rfl (mV rfl (mV rfl (mV rfl (mn ?_))))))
             refine ExM.ret ?_
             refine A4 trivial rfl rfl 100 (congrArg (fun b => some (AVal.bool b)) ?_) rfl
             have h6' := h6
             simp only [dFn, bFn, ne_eq] at h1 h2 h3 h4 h5
             rw [Dk, if_neg (by omega), if_neg (by omega), if_neg (by rw [h6']; decide)]
theorem OfK (hg : Gr Tryz.prog W0 G) {n : Int} (hn1 : -1000000000 < n) (hn2 : n < 1000000000) : ∃ M E er : Int, (er = 0 ∨ er = 10) ∧ cP W0 54 [.int .i64 n] [] (P5 (M, E, er)) [] := by
 have hb := Zm (decide (n < 0)) n.natAbs 1
 have hnear : ∀ H, cP W0 95 [.bool (decide (n < 0)), dN n.natAbs, dN 1] H (P5 (Hh (decide (n < 0)) n.natAbs 1)) H := A2e hg (Ds (by omega) (by omega)) one500 (by decide)
 generalize Hh (decide (n < 0)) n.natAbs 1 = p at hb hnear
 obtain ⟨pM, pE, pe⟩ := p
 simp only at hb
 replace hnear : ∀ H, cP W0 95 [.bool (decide (n < 0)), dN n.natAbs, dN 1] H (.tup [.agg [.int .i64 pM, .int .i64 pE], .int .i64 pe]) H := hnear
 have hA : pM.natAbs * 10 ^ (pE + 9).toNat < 10 ^ 250 := (Az (Xg (Ds hb.1 hb.2.1) (by omega))).2.2.1
 have hB : n.natAbs * 10 ^ (9 : Int).toNat < 10 ^ 250 := (Az (Xg (Ds (by omega) (by omega)) (by decide))).2.2.1
 by_cases he : pe = 0
 · by_cases hb1 : pM.natAbs * 10 ^ (pE + 9).toNat < n.natAbs * 10 ^ (9 : Int).toNat
   · skip
     refine ⟨0, 0, 10, .inr rfl, ?_⟩
     refine A3.of_fnM KG54 (by simp) rfl ?_
     refine sO (mV (v := .ptr 0 0) rfl (mV rfl (mn (sO (mV rfl (mV rfl (mV rfl (mC rfl (Bw hg (by omega) (by omega) _) (mV (v := .hsl 1 1 0 1 (some 1)) rfl ?_)))))))))
     refine mFz (Ap (l := [(0, .int .i64 n), (2, .ptr 0 0), (3, .int .i64 0), (8, .bool (decide (n < 0))), (10, dN n.natAbs), (11, dN 1)]) 1 rfl (Nat.zero_le _) rfl rfl (fzC rfl fvI (fzC rfl (fvP rfl) (fzC rfl fvI (fzC rfl fvB (fzC rfl Cf (fzC rfl (by rw [dN1]; exact Di (id := 1) (l := [1]) (Nat.le_refl _) rfl) fzN))))))) ?_
     refine mC rfl (hnear _) (mV rfl (mV rfl (mV rfl (mV (v := .ptr 1 0) rfl (Ai hg gN rfl (mV rfl (mn (sq (sq ?_)))))))))
     refine ExM.draw hg ?_
     refine qV rfl (qBk (c := false) rfl rfl (by rw [he]; decide) (qV rfl (qGY rfl (qV rfl (qGY rfl (Da rfl rfl (Jt hg hb.1 hb.2.1 hb.2.2.1 hb.2.2.2 _) (qGY rfl (qV rfl (qGY rfl (Da rfl rfl (Bw hg (by omega) (by omega) _) (qGY rfl (Da rfl rfl (Em hg (Lj (Ds (by omega) (by omega))) (by decide) _) ?_))))))))))))
     refine qGY rfl (Da rfl rfl (A3.sub2 (Bt _ _) (Bt _ _) (Bl hg (x := pM.natAbs * 10 ^ (pE + 9).toNat) (y := n.natAbs * 10 ^ (9 : Int).toNat) hA hB _)) (C5 rfl rfl trivial (qKv (v := .bool true) rfl rfl trivial (congrArg AVal.bool (decide_eq_true hb1)) (qGN rfl rfl (qGN rfl rfl (qGN rfl rfl (qGN rfl rfl (qGN rfl rfl (qGN rfl rfl (C5 rfl rfl trivial (Et (?_))))))))))))
     refine cT rfl (sO (mV rfl (Ai hg gN rfl (mV rfl (mn ?_)))))
     exact ExM.ret (A4 trivial rfl rfl 100 rfl rfl)
   · by_cases hb2 : n.natAbs * 10 ^ (9 : Int).toNat < pM.natAbs * 10 ^ (pE + 9).toNat
     · skip
       refine ⟨0, 0, 10, .inr rfl, ?_⟩
       refine A3.of_fnM KG54 (by simp) rfl ?_
       refine sO (mV (v := .ptr 0 0) rfl (mV rfl (mn (sO (mV rfl (mV rfl (mV rfl (mC rfl (Bw hg (by omega) (by omega) _) (mV (v := .hsl 1 1 0 1 (some 1)) rfl ?_)))))))))
       refine mFz (Ap (l := [(0, .int .i64 n), (2, .ptr 0 0), (3, .int .i64 0), (8, .bool (decide (n < 0))), (10, dN n.natAbs), (11, dN 1)]) 1 rfl (Nat.zero_le _) rfl rfl (fzC rfl fvI (fzC rfl (fvP rfl) (fzC rfl fvI (fzC rfl fvB (fzC rfl Cf (fzC rfl (by rw [dN1]; exact Di (id := 1) (l := [1]) (Nat.le_refl _) rfl) fzN))))))) ?_
       refine mC rfl (hnear _) (mV rfl (mV rfl (mV rfl (mV (v := .ptr 1 0) rfl (Ai hg gN rfl (mV rfl (mn (sq (sq ?_)))))))))
       refine ExM.draw hg ?_
       refine qV rfl (qBk (c := false) rfl rfl (by rw [he]; decide) (qV rfl (qGY rfl (qV rfl (qGY rfl (Da rfl rfl (Jt hg hb.1 hb.2.1 hb.2.2.1 hb.2.2.2 _) (qGY rfl (qV rfl (qGY rfl (Da rfl rfl (Bw hg (by omega) (by omega) _) (qGY rfl (Da rfl rfl (Em hg (Lj (Ds (by omega) (by omega))) (by decide) _) ?_))))))))))))
       refine qGY rfl (Da rfl rfl (A3.sub2 (Bt _ _) (Bt _ _) (Bl hg (x := pM.natAbs * 10 ^ (pE + 9).toNat) (y := n.natAbs * 10 ^ (9 : Int).toNat) hA hB _)) (C5 rfl rfl trivial (qKv (v := .bool false) rfl rfl trivial (congrArg AVal.bool (dF hb1)) (qGY rfl (C5 rfl rfl trivial (qGY rfl (Da rfl rfl (Bw hg (by omega) (by omega) _) (qGY rfl (Da rfl rfl (Em hg (Lj (Ds (by omega) (by omega))) (by decide) _) (qGY rfl (C5 rfl rfl trivial (?_))))))))))))
       refine qGY rfl (Da rfl rfl (Jt hg hb.1 hb.2.1 hb.2.2.1 hb.2.2.2 _) (qGY rfl (Da rfl rfl (A3.sub2 (Bt _ _) (Bt _ _) (Bl hg (x := n.natAbs * 10 ^ (9 : Int).toNat) (y := pM.natAbs * 10 ^ (pE + 9).toNat) hB hA _)) (qKv (v := .bool true) rfl rfl trivial (congrArg AVal.bool (decide_eq_true hb2)) (Et (?_))))))
       refine cT rfl (sO (mV rfl (Ai hg gN rfl (mV rfl (mn ?_)))))
       exact ExM.ret (A4 trivial rfl rfl 100 rfl rfl)
     · skip
       refine ⟨pM, pE, 0, .inl rfl, ?_⟩
       refine A3.of_fnM KG54 (by simp) rfl ?_
       refine sO (mV (v := .ptr 0 0) rfl (mV rfl (mn (sO (mV rfl (mV rfl (mV rfl (mC rfl (Bw hg (by omega) (by omega) _) (mV (v := .hsl 1 1 0 1 (some 1)) rfl ?_)))))))))
       refine mFz (Ap (l := [(0, .int .i64 n), (2, .ptr 0 0), (3, .int .i64 0), (8, .bool (decide (n < 0))), (10, dN n.natAbs), (11, dN 1)]) 1 rfl (Nat.zero_le _) rfl rfl (fzC rfl fvI (fzC rfl (fvP rfl) (fzC rfl fvI (fzC rfl fvB (fzC rfl Cf (fzC rfl (by rw [dN1]; exact Di (id := 1) (l := [1]) (Nat.le_refl _) rfl) fzN))))))) ?_
       refine mC rfl (hnear _) (mV rfl (mV rfl (mV rfl (mV (v := .ptr 1 0) rfl (Ai hg gN rfl (mV rfl (mn (sq (sq ?_)))))))))
       refine ExM.draw hg ?_
       refine qV rfl (qBk (c := false) rfl rfl (by rw [he]; decide) (qV rfl (qGY rfl (qV rfl (qGY rfl (Da rfl rfl (Jt hg hb.1 hb.2.1 hb.2.2.1 hb.2.2.2 _) (qGY rfl (qV rfl (qGY rfl (Da rfl rfl (Bw hg (by omega) (by omega) _) (qGY rfl (Da rfl rfl (Em hg (Lj (Ds (by omega) (by omega))) (by decide) _) ?_))))))))))))
       refine qGY rfl (Da rfl rfl (A3.sub2 (Bt _ _) (Bt _ _) (Bl hg (x := pM.natAbs * 10 ^ (pE + 9).toNat) (y := n.natAbs * 10 ^ (9 : Int).toNat) hA hB _)) (C5 rfl rfl trivial (qKv (v := .bool false) rfl rfl trivial (congrArg AVal.bool (dF hb1)) (qGY rfl (C5 rfl rfl trivial (qGY rfl (Da rfl rfl (Bw hg (by omega) (by omega) _) (qGY rfl (Da rfl rfl (Em hg (Lj (Ds (by omega) (by omega))) (by decide) _) (qGY rfl (C5 rfl rfl trivial (?_))))))))))))
       refine qGY rfl (Da rfl rfl (Jt hg hb.1 hb.2.1 hb.2.2.1 hb.2.2.2 _) (qGY rfl (Da rfl rfl (A3.sub2 (Bt _ _) (Bt _ _) (Bl hg (x := n.natAbs * 10 ^ (9 : Int).toNat) (y := pM.natAbs * 10 ^ (pE + 9).toNat) hB hA _)) (qKv (v := .bool false) rfl rfl trivial (congrArg AVal.bool (dF hb2)) (Et (?_))))))
       refine cF rfl (kM (sO (mV rfl (Ai hg gN rfl (mV rfl (mn ?_))))))
       exact ExM.ret (A4 trivial rfl rfl 100 rfl rfl)
 · skip
   refine ⟨0, 0, 10, .inr rfl, ?_⟩
   refine A3.of_fnM KG54 (by simp) rfl ?_
   refine sO (mV (v := .ptr 0 0) rfl (mV rfl (mn (sO (mV rfl (mV rfl (mV rfl (mC rfl (Bw hg (by omega) (by omega) _) (mV (v := .hsl 1 1 0 1 (some 1)) rfl ?_)))))))))
   refine mFz (Ap (l := [(0, .int .i64 n), (2, .ptr 0 0), (3, .int .i64 0), (8, .bool (decide (n < 0))), (10, dN n.natAbs), (11, dN 1)]) 1 rfl (Nat.zero_le _) rfl rfl (fzC rfl fvI (fzC rfl (fvP rfl) (fzC rfl fvI (fzC rfl fvB (fzC rfl Cf (fzC rfl (by rw [dN1]; exact Di (id := 1) (l := [1]) (Nat.le_refl _) rfl) fzN))))))) ?_
   refine mC rfl (hnear _) (mV rfl (mV rfl (mV rfl (mV (v := .ptr 1 0) rfl (Ai hg gN rfl (mV rfl (mn (sq (sq ?_)))))))))
   refine ExM.draw hg ?_
   refine qV rfl (qBk (c := true) rfl rfl (by rw [bne_iff_ne]; exact he) (qV rfl (qGN rfl rfl (qGN rfl rfl (qGN rfl rfl (qGN rfl rfl (qGN rfl rfl (qGN rfl rfl (qV rfl (qV rfl (qGN rfl rfl (qGN rfl rfl (qGN rfl rfl (qGN rfl rfl (qGN rfl rfl (qGN rfl rfl (qV rfl ?_)))))))))))))))))
   refine Et (?_)
   refine cT rfl (sO (mV rfl (Ai hg gN rfl (mV rfl (mn ?_)))))
   exact ExM.ret (A4 trivial rfl rfl 100 rfl rfl)
end Go.Abs
