/- A part of the proof that tabula/tabulalaw17.ShiftElse returns true for every input, each argument reading as it did (its card: the last text). No conditions of its own. -/
import Derived.Test.YtanjcjdiabfggaaGreatDoorPJ3
namespace Go.Abs
open Go.Proofs Go.RowKit
set_option maxRecDepth 100000
variable {W0 : World}
theorem clK (hk : Kn W0) {f : Nat} {args : List AVal} {v : AVal} (h : An [] 60 f args [] = some (v, [])) (h1 : C0 0 args = true) (h2 : blw 0 v = true) : cP W0 f args [] v [] := (A8 hk Ad h h1 h2).2.2
theorem rd0 (hk : Kn W0) {p : Bz} {sp : Bz} {rp cp : Int} {frp fcp : Bool} (hp : Af W0 p sp rp cp frp fcp) (ha : asc (bd0 p) = true) (hl : (bd0 p).length ≤ 200) : cP W0 44 [.str (bd0 p)] [] (N8 sp rp cp frp fcp) [] :=
 pt0 hk (pk0 hk hp.right (Rn hk).2.2 hp.rd) (Ep (grK hk) (lx0 hk hp ha (Nat.le_trans hl (by decide))) (fun e => by cases e) hl)
theorem A1c (hk : Kn W0) {p own s90 : Bz} {a91 a92 a93 a94 : Int} {bR bC bI : Bool} {sp : Bz} {rp cp : Int} {frp fcp : Bool} (hp : Af W0 p sp rp cp frp fcp) (ha : asc (bd0 p) = true) (hl : (bd0 p).length ≤ 200) (g0 : cP W0 81 [.ptr 0 0, Ag sp rp cp frp fcp, .str own] [N10 a91 a92 a93 s90 bR bC bI a94] (Ag sp rp cp frp fcp) [N10 a91 a92 a93 s90 bR bC bI a94]) : cP W0 18 [.ptr 0 0, .str (61 :: bd0 p), .str own] [N10 a91 a92 a93 s90 bR bC bI a94] (.tup [.str (61 :: bd0 p), zI]) [N10 a91 a92 a93 s90 bR bC bI a94] :=
 pi0 hk (pe0 hk) (pa0 hk g0) (rd0 hk hp ha hl) (show cP W0 43 [.str (61 :: _), .str [61]] [] (.tup [.str _, .bool true]) [] from Bd)
theorem rd1 (hk : Kn W0) {p q : Bz} {sp : Bz} {rp cp : Int} {frp fcp : Bool} (hp : Af W0 p sp rp cp frp fcp) {sq : Bz} {rq cq : Int} {frq fcq : Bool} (hq : Af W0 q sq rq cq frq fcq) (ha : asc (bd1 p q) = true) (hl : (bd1 p q).length ≤ 200) : cP W0 44 [.str (bd1 p q)] [] (N16 sp rp cp frp fcp sq rq cq frq fcq) [] :=
 pt1 hk (pk1 hk hq.right hp.right hq.rd hp.rd) (Ep (grK hk) (lx1 hk hp hq ha (Nat.le_trans hl (by decide))) (fun e => by cases e) hl)
theorem A0t (hk : Kn W0) {p q own s90 : Bz} {a91 a92 a93 a94 : Int} {bR bC bI : Bool} {sp : Bz} {rp cp : Int} {frp fcp : Bool} (hp : Af W0 p sp rp cp frp fcp) {sq : Bz} {rq cq : Int} {frq fcq : Bool} (hq : Af W0 q sq rq cq frq fcq) (ha : asc (bd1 p q) = true) (hl : (bd1 p q).length ≤ 200) (g0 : cP W0 81 [.ptr 0 0, Ag sq rq cq frq fcq, .str own] [N10 a91 a92 a93 s90 bR bC bI a94] (Ag sq rq cq frq fcq) [N10 a91 a92 a93 s90 bR bC bI a94]) (g1 : cP W0 81 [.ptr 0 0, Ag sp rp cp frp fcp, .str own] [N10 a91 a92 a93 s90 bR bC bI a94] (Ag sp rp cp frp fcp) [N10 a91 a92 a93 s90 bR bC bI a94]) : cP W0 18 [.ptr 0 0, .str (61 :: bd1 p q), .str own] [N10 a91 a92 a93 s90 bR bC bI a94] (.tup [.str (61 :: bd1 p q), zI]) [N10 a91 a92 a93 s90 bR bC bI a94] :=
 pi1 hk (pe1 hk) (pa1 hk g0 g1) (rd1 hk hp hq ha hl) (show cP W0 43 [.str (61 :: _), .str [61]] [] (.tup [.str _, .bool true]) [] from Bd)
theorem rd2 (hk : Kn W0) {p u : Bz} {sp : Bz} {rp cp : Int} {frp fcp : Bool} (hp : Af W0 p sp rp cp frp fcp) {ru cu : Int} {fru fcu : Bool} (hu : Af W0 u [] ru cu fru fcu) (ha : asc (bd2 p u) = true) (hl : (bd2 p u).length ≤ 200) : cP W0 44 [.str (bd2 p u)] [] (N67 sp rp cp frp fcp ru cu fru fcu) [] :=
 pt2 hk (pk2 hk hu.right hp.right hu.rd hp.rd) (Ep (grK hk) (lx2 hk hp hu ha (Nat.le_trans hl (by decide))) (fun e => by cases e) hl)
theorem A05 (hk : Kn W0) {p u own s90 : Bz} {a91 a92 a93 a94 : Int} {bR bC bI : Bool} {sp : Bz} {rp cp : Int} {frp fcp : Bool} (hp : Af W0 p sp rp cp frp fcp) {ru cu : Int} {fru fcu : Bool} (hu : Af W0 u [] ru cu fru fcu) (ha : asc (bd2 p u) = true) (hl : (bd2 p u).length ≤ 200) (g0 : cP W0 82 [.ptr 0 0, N39 sp rp cp frp fcp ru cu fru fcu, .str own] [N10 a91 a92 a93 s90 bR bC bI a94] (N39 sp rp cp frp fcp ru cu fru fcu) [N10 a91 a92 a93 s90 bR bC bI a94]) : cP W0 18 [.ptr 0 0, .str (61 :: bd2 p u), .str own] [N10 a91 a92 a93 s90 bR bC bI a94] (.tup [.str (61 :: bd2 p u), zI]) [N10 a91 a92 a93 s90 bR bC bI a94] :=
 pi2 hk (pe2 hk) (pa2 hk g0) (rd2 hk hp hu ha hl) (show cP W0 43 [.str (61 :: _), .str [61]] [] (.tup [.str _, .bool true]) [] from Bd)
theorem rd3 (hk : Kn W0) {p q : Bz} {sp : Bz} {rp cp : Int} {frp fcp : Bool} (hp : Af W0 p sp rp cp frp fcp) {sq : Bz} {rq cq : Int} {frq fcq : Bool} (hq : Af W0 q sq rq cq frq fcq) (ha : asc (bd3 p q) = true) (hl : (bd3 p q).length ≤ 200) : cP W0 44 [.str (bd3 p q)] [] (N76 sp rp cp frp fcp sq rq cq frq fcq) [] :=
 pt3 hk (pk3 hk hq.right hp.right (dgk1 hk).2.2 hq.rd (A0g hk).2.2 hp.rd) (Ep (grK hk) (lx3 hk hp hq ha (Nat.le_trans hl (by decide))) (fun e => by cases e) hl)
theorem A1m (hk : Kn W0) {p q own s90 : Bz} {a91 a92 a93 a94 : Int} {bR bC bI : Bool} {sp : Bz} {rp cp : Int} {frp fcp : Bool} (hp : Af W0 p sp rp cp frp fcp) {sq : Bz} {rq cq : Int} {frq fcq : Bool} (hq : Af W0 q sq rq cq frq fcq) (ha : asc (bd3 p q) = true) (hl : (bd3 p q).length ≤ 200) (g0 : cP W0 81 [.ptr 0 0, Ag sq rq cq frq fcq, .str own] [N10 a91 a92 a93 s90 bR bC bI a94] (Ag sq rq cq frq fcq) [N10 a91 a92 a93 s90 bR bC bI a94]) (g1 : cP W0 81 [.ptr 0 0, Ag sp rp cp frp fcp, .str own] [N10 a91 a92 a93 s90 bR bC bI a94] (Ag sp rp cp frp fcp) [N10 a91 a92 a93 s90 bR bC bI a94]) : cP W0 18 [.ptr 0 0, .str (61 :: bd3 p q), .str own] [N10 a91 a92 a93 s90 bR bC bI a94] (.tup [.str (61 :: bd3 p q), zI]) [N10 a91 a92 a93 s90 bR bC bI a94] :=
 pi3 hk (pe3 hk) (pa3 hk g0 g1) (rd3 hk hp hq ha hl) (show cP W0 43 [.str (61 :: _), .str [61]] [] (.tup [.str _, .bool true]) [] from Bd)
theorem rd4 (hk : Kn W0) {p : Bz} {sp : Bz} {rp cp : Int} {frp fcp : Bool} (hp : Af W0 p sp rp cp frp fcp) (ha : asc (bd4 p) = true) (hl : (bd4 p).length ≤ 200) : cP W0 44 [.str (bd4 p)] [] (N83 sp rp cp frp fcp) [] :=
 pt4 hk (pk4 hk hp.right hp.rd (dgk9 hk).2.2 (dgk7 hk).2.2 (A0g hk).2.2 (Rn hk).2.2) (Ep (grK hk) (lx4 hk hp ha (Nat.le_trans hl (by decide))) (fun e => by cases e) hl)
theorem A11 (hk : Kn W0) {p own s90 : Bz} {a91 a92 a93 a94 : Int} {bR bC bI : Bool} {sp : Bz} {rp cp : Int} {frp fcp : Bool} (hp : Af W0 p sp rp cp frp fcp) (ha : asc (bd4 p) = true) (hl : (bd4 p).length ≤ 200) (g0 : cP W0 81 [.ptr 0 0, Ag sp rp cp frp fcp, .str own] [N10 a91 a92 a93 s90 bR bC bI a94] (Ag sp rp cp frp fcp) [N10 a91 a92 a93 s90 bR bC bI a94]) : cP W0 18 [.ptr 0 0, .str (61 :: bd4 p), .str own] [N10 a91 a92 a93 s90 bR bC bI a94] (.tup [.str (61 :: bd4 p), zI]) [N10 a91 a92 a93 s90 bR bC bI a94] :=
 pi4 hk (pe4 hk) (pa4 hk g0) (rd4 hk hp ha hl) (show cP W0 43 [.str (61 :: _), .str [61]] [] (.tup [.str _, .bool true]) [] from Bd)
theorem rd5 (hk : Kn W0) {p u : Bz} {sp : Bz} {rp cp : Int} {frp fcp : Bool} (hp : Af W0 p sp rp cp frp fcp) {ru cu : Int} {fru fcu : Bool} (hu : Af W0 u [] ru cu fru fcu) (ha : asc (bd5 p u) = true) (hl : (bd5 p u).length ≤ 200) : cP W0 44 [.str (bd5 p u)] [] (N89 sp rp cp frp fcp ru cu fru fcu) [] :=
 pt5 hk (pk5 hk hu.right hp.right (A0g hk).2.2 hu.rd hp.rd) (Ep (grK hk) (lx5 hk hp hu ha (Nat.le_trans hl (by decide))) (fun e => by cases e) hl)
theorem A1u (hk : Kn W0) {p u own s90 : Bz} {a91 a92 a93 a94 : Int} {bR bC bI : Bool} {sp : Bz} {rp cp : Int} {frp fcp : Bool} (hp : Af W0 p sp rp cp frp fcp) {ru cu : Int} {fru fcu : Bool} (hu : Af W0 u [] ru cu fru fcu) (ha : asc (bd5 p u) = true) (hl : (bd5 p u).length ≤ 200) (g0 : cP W0 82 [.ptr 0 0, N39 sp rp cp frp fcp ru cu fru fcu, .str own] [N10 a91 a92 a93 s90 bR bC bI a94] (N39 sp rp cp frp fcp ru cu fru fcu) [N10 a91 a92 a93 s90 bR bC bI a94]) : cP W0 18 [.ptr 0 0, .str (61 :: bd5 p u), .str own] [N10 a91 a92 a93 s90 bR bC bI a94] (.tup [.str (61 :: bd5 p u), zI]) [N10 a91 a92 a93 s90 bR bC bI a94] :=
 pi5 hk (pe5 hk) (pa5 hk g0) (rd5 hk hp hu ha hl) (show cP W0 43 [.str (61 :: _), .str [61]] [] (.tup [.str _, .bool true]) [] from Bd)
theorem rd6 (hk : Kn W0) {p q : Bz} {sp : Bz} {rp cp : Int} {frp fcp : Bool} (hp : Af W0 p sp rp cp frp fcp) {sq : Bz} {rq cq : Int} {frq fcq : Bool} (hq : Af W0 q sq rq cq frq fcq) (ha : asc (bd6 p q) = true) (hl : (bd6 p q).length ≤ 200) : cP W0 44 [.str (bd6 p q)] [] (N99 sp rp cp frp fcp sq rq cq frq fcq) [] :=
 pt6 hk (pk6 hk hq.right (nmk1 hk).2.2 hp.right hq.rd hp.rd) (Ep (grK hk) (lx6 hk hp hq ha (Nat.le_trans hl (by decide))) (fun e => by cases e) hl)
theorem A14 (hk : Kn W0) {p q own s90 : Bz} {a91 a92 a93 a94 : Int} {bR bC bI : Bool} {sp : Bz} {rp cp : Int} {frp fcp : Bool} (hp : Af W0 p sp rp cp frp fcp) {sq : Bz} {rq cq : Int} {frq fcq : Bool} (hq : Af W0 q sq rq cq frq fcq) (ha : asc (bd6 p q) = true) (hl : (bd6 p q).length ≤ 200) (g0 : cP W0 81 [.ptr 0 0, Ag sq rq cq frq fcq, .str own] [N10 a91 a92 a93 s90 bR bC bI a94] (Ag sq rq cq frq fcq) [N10 a91 a92 a93 s90 bR bC bI a94]) (g1 : cP W0 81 [.ptr 0 0, Ag sp rp cp frp fcp, .str own] [N10 a91 a92 a93 s90 bR bC bI a94] (Ag sp rp cp frp fcp) [N10 a91 a92 a93 s90 bR bC bI a94]) : cP W0 18 [.ptr 0 0, .str (61 :: bd6 p q), .str own] [N10 a91 a92 a93 s90 bR bC bI a94] (.tup [.str (61 :: bd6 p q), zI]) [N10 a91 a92 a93 s90 bR bC bI a94] :=
 pi6 hk (pe6 hk) (pa6 hk g0 g1) (rd6 hk hp hq ha hl) (show cP W0 43 [.str (61 :: _), .str [61]] [] (.tup [.str _, .bool true]) [] from Bd)
theorem rd7 (hk : Kn W0) {p : Bz} {sp : Bz} {rp cp : Int} {frp fcp : Bool} (hp : Af W0 p sp rp cp frp fcp) (ha : asc (bd7 p) = true) (hl : (bd7 p).length ≤ 200) : cP W0 44 [.str (bd7 p)] [] (Xp sp rp cp frp fcp) [] :=
 pt7 hk (pk7 hk hp.right (A4m hk).2.2 (nmk2 hk).2.2 hp.rd (Rn hk).2.2) (Ep (grK hk) (lx7 hk hp ha (Nat.le_trans hl (by decide))) (fun e => by cases e) hl)
theorem A0q (hk : Kn W0) {p own s90 : Bz} {a91 a92 a93 a94 : Int} {bR bC bI : Bool} {sp : Bz} {rp cp : Int} {frp fcp : Bool} (hp : Af W0 p sp rp cp frp fcp) (ha : asc (bd7 p) = true) (hl : (bd7 p).length ≤ 200) (g0 : cP W0 81 [.ptr 0 0, Ag sp rp cp frp fcp, .str own] [N10 a91 a92 a93 s90 bR bC bI a94] (Ag sp rp cp frp fcp) [N10 a91 a92 a93 s90 bR bC bI a94]) : cP W0 18 [.ptr 0 0, .str (61 :: bd7 p), .str own] [N10 a91 a92 a93 s90 bR bC bI a94] (.tup [.str (61 :: bd7 p), zI]) [N10 a91 a92 a93 s90 bR bC bI a94] :=
 pi7 hk (pe7 hk) (pa7 hk g0) (rd7 hk hp ha hl) (show cP W0 43 [.str (61 :: _), .str [61]] [] (.tup [.str _, .bool true]) [] from Bd)
theorem rd8 (hk : Kn W0) {p : Bz} {sp : Bz} {rp cp : Int} {frp fcp : Bool} (hp : Af W0 p sp rp cp frp fcp) (ha : asc (bd8 p) = true) (hl : (bd8 p).length ≤ 200) : cP W0 44 [.str (bd8 p)] [] (Xe sp rp cp frp fcp) [] :=
 pt8 hk (pk8 hk hp.right hp.rd) (Ep (grK hk) (lx8 hk hp ha (Nat.le_trans hl (by decide))) (fun e => by cases e) hl)
theorem A0b (hk : Kn W0) {p own s90 : Bz} {a91 a92 a93 a94 : Int} {bR bC bI : Bool} {sp : Bz} {rp cp : Int} {frp fcp : Bool} (hp : Af W0 p sp rp cp frp fcp) (ha : asc (bd8 p) = true) (hl : (bd8 p).length ≤ 200) (g0 : cP W0 81 [.ptr 0 0, Ag sp rp cp frp fcp, .str own] [N10 a91 a92 a93 s90 bR bC bI a94] (Ag sp rp cp frp fcp) [N10 a91 a92 a93 s90 bR bC bI a94]) : cP W0 18 [.ptr 0 0, .str (61 :: bd8 p), .str own] [N10 a91 a92 a93 s90 bR bC bI a94] (.tup [.str (61 :: bd8 p), zI]) [N10 a91 a92 a93 s90 bR bC bI a94] :=
 pi8 hk (pe8 hk) (pa8 hk g0) (rd8 hk hp ha hl) (show cP W0 43 [.str (61 :: _), .str [61]] [] (.tup [.str _, .bool true]) [] from Bd)
theorem rd9 (hk : Kn W0) {p : Bz} {sp : Bz} {rp cp : Int} {frp fcp : Bool} (hp : Af W0 p sp rp cp frp fcp) (ha : asc (bd9 p) = true) (hl : (bd9 p).length ≤ 200) : cP W0 44 [.str (bd9 p)] [] (Yx sp rp cp frp fcp) [] :=
 pt9 hk (pk9 hk hp.right hp.rd (Rn hk).2.2) (Ep (grK hk) (lx9 hk hp ha (Nat.le_trans hl (by decide))) (fun e => by cases e) hl)
theorem A08 (hk : Kn W0) {p own s90 : Bz} {a91 a92 a93 a94 : Int} {bR bC bI : Bool} {sp : Bz} {rp cp : Int} {frp fcp : Bool} (hp : Af W0 p sp rp cp frp fcp) (ha : asc (bd9 p) = true) (hl : (bd9 p).length ≤ 200) (g0 : cP W0 81 [.ptr 0 0, Ag sp rp cp frp fcp, .str own] [N10 a91 a92 a93 s90 bR bC bI a94] (Ag sp rp cp frp fcp) [N10 a91 a92 a93 s90 bR bC bI a94]) : cP W0 18 [.ptr 0 0, .str (61 :: bd9 p), .str own] [N10 a91 a92 a93 s90 bR bC bI a94] (.tup [.str (61 :: bd9 p), zI]) [N10 a91 a92 a93 s90 bR bC bI a94] :=
 pi9 hk (pe9 hk) (pa9 hk g0) (rd9 hk hp ha hl) (show cP W0 43 [.str (61 :: _), .str [61]] [] (.tup [.str _, .bool true]) [] from Bd)
theorem rd10 (hk : Kn W0) {p : Bz} {sp : Bz} {rp cp : Int} {frp fcp : Bool} (hp : Af W0 p sp rp cp frp fcp) (ha : asc (Ij p) = true) (hl : (Ij p).length ≤ 200) : cP W0 44 [.str (Ij p)] [] (N23 sp rp cp frp fcp) [] :=
 pt10 hk (pk10 hk hp.right (clK hk (by kernel_rfl) rfl rfl) hp.rd (clK hk (by kernel_rfl) rfl rfl)) (Ep (grK hk) (lx10 hk hp ha (Nat.le_trans hl (by decide))) (fun e => by cases e) hl)
theorem T0 (hk : Kn W0) {p own s90 : Bz} {a91 a92 a93 a94 : Int} {bR bC bI : Bool} {sp : Bz} {rp cp : Int} {frp fcp : Bool} (hp : Af W0 p sp rp cp frp fcp) (ha : asc (Ij p) = true) (hl : (Ij p).length ≤ 200) (g0 : cP W0 81 [.ptr 0 0, Ag sp rp cp frp fcp, .str own] [N10 a91 a92 a93 s90 bR bC bI a94] (Ag sp rp cp frp fcp) [N10 a91 a92 a93 s90 bR bC bI a94]) : cP W0 18 [.ptr 0 0, .str (61 :: Ij p), .str own] [N10 a91 a92 a93 s90 bR bC bI a94] (.tup [.str (61 :: Ij p), zI]) [N10 a91 a92 a93 s90 bR bC bI a94] :=
 pi10 hk (pe10 hk) (pa10 hk g0 (sgb hk)) (rd10 hk hp ha hl) (show cP W0 43 [.str (61 :: _), .str [61]] [] (.tup [.str _, .bool true]) [] from Bd)
theorem rd11 (hk : Kn W0) {p : Bz} {sp : Bz} {rp cp : Int} {frp fcp : Bool} (hp : Af W0 p sp rp cp frp fcp) (ha : asc (Ik p) = true) (hl : (Ik p).length ≤ 200) : cP W0 44 [.str (Ik p)] [] (N31 sp rp cp frp fcp) [] :=
 pt11 hk (pk11 hk hp.right hp.rd) (Ep (grK hk) (lx11 hk hp ha (Nat.le_trans hl (by decide))) (fun e => by cases e) hl)
theorem S1 (hk : Kn W0) {p own s90 : Bz} {a91 a92 a93 a94 : Int} {bR bC bI : Bool} {sp : Bz} {rp cp : Int} {frp fcp : Bool} (hp : Af W0 p sp rp cp frp fcp) (ha : asc (Ik p) = true) (hl : (Ik p).length ≤ 200) (g0 : cP W0 81 [.ptr 0 0, Ag sp rp cp frp fcp, .str own] [N10 a91 a92 a93 s90 bR bC bI a94] (Ag sp rp cp frp fcp) [N10 a91 a92 a93 s90 bR bC bI a94]) : cP W0 18 [.ptr 0 0, .str (61 :: Ik p), .str own] [N10 a91 a92 a93 s90 bR bC bI a94] (.tup [.str (61 :: Ik p), zI]) [N10 a91 a92 a93 s90 bR bC bI a94] :=
 pi11 hk (pe11 hk) (pa11 hk g0) (rd11 hk hp ha hl) (show cP W0 43 [.str (61 :: _), .str [61]] [] (.tup [.str _, .bool true]) [] from Bd)
theorem rd12 (hk : Kn W0) {p q u : Bz} {sp : Bz} {rp cp : Int} {frp fcp : Bool} (hp : Af W0 p sp rp cp frp fcp) {sq : Bz} {rq cq : Int} {frq fcq : Bool} (hq : Af W0 q sq rq cq frq fcq) {ru cu : Int} {fru fcu : Bool} (hu : Af W0 u [] ru cu fru fcu) (ha : asc (Ih p q u) = true) (hl : (Ih p q u).length ≤ 200) : cP W0 44 [.str (Ih p q u)] [] (N42 sp rp cp frp fcp ru cu fru fcu sq rq cq frq fcq) [] :=
 pt12 hk (pk12 hk hq.right hu.right hp.right hq.rd hu.rd hp.rd) (Ep (grK hk) (lx12 hk hp hq hu ha (Nat.le_trans hl (by decide))) (fun e => by cases e) hl)
theorem Tj (hk : Kn W0) {p q u own s90 : Bz} {a91 a92 a93 a94 : Int} {bR bC bI : Bool} {sp : Bz} {rp cp : Int} {frp fcp : Bool} (hp : Af W0 p sp rp cp frp fcp) {sq : Bz} {rq cq : Int} {frq fcq : Bool} (hq : Af W0 q sq rq cq frq fcq) {ru cu : Int} {fru fcu : Bool} (hu : Af W0 u [] ru cu fru fcu) (ha : asc (Ih p q u) = true) (hl : (Ih p q u).length ≤ 200) (g0 : cP W0 81 [.ptr 0 0, Ag sq rq cq frq fcq, .str own] [N10 a91 a92 a93 s90 bR bC bI a94] (Ag sq rq cq frq fcq) [N10 a91 a92 a93 s90 bR bC bI a94]) (g1 : cP W0 82 [.ptr 0 0, N39 sp rp cp frp fcp ru cu fru fcu, .str own] [N10 a91 a92 a93 s90 bR bC bI a94] (N39 sp rp cp frp fcp ru cu fru fcu) [N10 a91 a92 a93 s90 bR bC bI a94]) : cP W0 18 [.ptr 0 0, .str (61 :: Ih p q u), .str own] [N10 a91 a92 a93 s90 bR bC bI a94] (.tup [.str (61 :: Ih p q u), zI]) [N10 a91 a92 a93 s90 bR bC bI a94] :=
 pi12 hk (pe12 hk) (pa12 hk g0 g1) (rd12 hk hp hq hu ha hl) (show cP W0 43 [.str (61 :: _), .str [61]] [] (.tup [.str _, .bool true]) [] from Bd)
theorem rd13 (hk : Kn W0) {p : Bz} {sp : Bz} {rp cp : Int} {frp fcp : Bool} (hp : Af W0 p sp rp cp frp fcp) (ha : asc (Ib p) = true) (hl : (Ib p).length ≤ 200) : cP W0 44 [.str (Ib p)] [] (N48 sp rp cp frp fcp) [] :=
 pt13 hk (pk13 hk hp.right (nmk6 hk).2.2 hp.rd) (Ep (grK hk) (lx13 hk hp ha (Nat.le_trans hl (by decide))) (fun e => by cases e) hl)
theorem Ta (hk : Kn W0) {p own s90 : Bz} {a91 a92 a93 a94 : Int} {bR bC bI : Bool} {sp : Bz} {rp cp : Int} {frp fcp : Bool} (hp : Af W0 p sp rp cp frp fcp) (ha : asc (Ib p) = true) (hl : (Ib p).length ≤ 200) (g0 : cP W0 81 [.ptr 0 0, Ag sp rp cp frp fcp, .str own] [N10 a91 a92 a93 s90 bR bC bI a94] (Ag sp rp cp frp fcp) [N10 a91 a92 a93 s90 bR bC bI a94]) : cP W0 18 [.ptr 0 0, .str (61 :: Ib p), .str own] [N10 a91 a92 a93 s90 bR bC bI a94] (.tup [.str (61 :: Ib p), zI]) [N10 a91 a92 a93 s90 bR bC bI a94] :=
 pi13 hk (pe13 hk) (pa13 hk g0) (rd13 hk hp ha hl) (show cP W0 43 [.str (61 :: _), .str [61]] [] (.tup [.str _, .bool true]) [] from Bd)
theorem rd14 (hk : Kn W0) {p : Bz} {sp : Bz} {rp cp : Int} {frp fcp : Bool} (hp : Af W0 p sp rp cp frp fcp) (ha : asc (Ia p) = true) (hl : (Ia p).length ≤ 200) : cP W0 44 [.str (Ia p)] [] (N54 sp rp cp frp fcp) [] :=
 pt14 hk (pk14 hk hp.right (nmk7 hk).2.2 hp.rd) (Ep (grK hk) (lx14 hk hp ha (Nat.le_trans hl (by decide))) (fun e => by cases e) hl)
theorem Td (hk : Kn W0) {p own s90 : Bz} {a91 a92 a93 a94 : Int} {bR bC bI : Bool} {sp : Bz} {rp cp : Int} {frp fcp : Bool} (hp : Af W0 p sp rp cp frp fcp) (ha : asc (Ia p) = true) (hl : (Ia p).length ≤ 200) (g0 : cP W0 81 [.ptr 0 0, Ag sp rp cp frp fcp, .str own] [N10 a91 a92 a93 s90 bR bC bI a94] (Ag sp rp cp frp fcp) [N10 a91 a92 a93 s90 bR bC bI a94]) : cP W0 18 [.ptr 0 0, .str (61 :: Ia p), .str own] [N10 a91 a92 a93 s90 bR bC bI a94] (.tup [.str (61 :: Ia p), zI]) [N10 a91 a92 a93 s90 bR bC bI a94] :=
 pi14 hk (pe14 hk) (pa14 hk g0) (rd14 hk hp ha hl) (show cP W0 43 [.str (61 :: _), .str [61]] [] (.tup [.str _, .bool true]) [] from Bd)
theorem rd15 (hk : Kn W0) {p : Bz} {sp : Bz} {rp cp : Int} {frp fcp : Bool} (hp : Af W0 p sp rp cp frp fcp) (ha : asc (Ii p) = true) (hl : (Ii p).length ≤ 200) : cP W0 44 [.str (Ii p)] [] (N61 sp rp cp frp fcp) [] :=
 pt15 hk (pk15 hk hp.right (nmk5 hk).2.2 hp.rd) (Ep (grK hk) (lx15 hk hp ha (Nat.le_trans hl (by decide))) (fun e => by cases e) hl)
theorem Ry (hk : Kn W0) {p own s90 : Bz} {a91 a92 a93 a94 : Int} {bR bC bI : Bool} {sp : Bz} {rp cp : Int} {frp fcp : Bool} (hp : Af W0 p sp rp cp frp fcp) (ha : asc (Ii p) = true) (hl : (Ii p).length ≤ 200) (g0 : cP W0 81 [.ptr 0 0, Ag sp rp cp frp fcp, .str own] [N10 a91 a92 a93 s90 bR bC bI a94] (Ag sp rp cp frp fcp) [N10 a91 a92 a93 s90 bR bC bI a94]) : cP W0 18 [.ptr 0 0, .str (61 :: Ii p), .str own] [N10 a91 a92 a93 s90 bR bC bI a94] (.tup [.str (61 :: Ii p), zI]) [N10 a91 a92 a93 s90 bR bC bI a94] :=
 pi15 hk (pe15 hk) (pa15 hk g0) (rd15 hk hp ha hl) (show cP W0 43 [.str (61 :: _), .str [61]] [] (.tup [.str _, .bool true]) [] from Bd)
end Go.Abs
namespace Go.Abs
open Go.Proofs Go.RowKit
set_option maxRecDepth 10000000
variable {W0 : World}
theorem Ko (hk : Kn W0) {s90 s91 s92 : Bz} {a92 a93 : Int} (h1 : cP W0 18 [.ptr 0 0, .str s92, .str s91] [A4q a92 a93 s90] (.tup [.str s92, zI]) [A4q a92 a93 s90]) (h2 : oC W0 16 [N125 a92 a93 s90] (.bool true)) : cP W0 10 [.str s92, .str s91, N125 a92 a93 s90] [] (.tup [.str s92, zI]) [] :=
 Aa hk A01 (ss0 4 [] 0 [] [(.bool true, none), (.tup [.str s92, zI], some [A0s a92 a93 s90, A0s a92 a93 s90, A4q a92 a93 s90])] []) (by kernel_rfl) (gdC (o := .callH 18 [.ptr 2 0, .str s92, .str s91] [A0s a92 a93 s90, A0s a92 a93 s90, A4q a92 a93 s90] (.tup [.str s92, zI]) [A0s a92 a93 s90, A0s a92 a93 s90, A4q a92 a93 s90]) (obC (A3.at1 h1 rfl rfl rfl rfl rfl rfl rfl rfl)) (gdC h2 gdN))
theorem K7 (hk : Kn W0) {s90 s91 s92 : Bz} {a92 a93 : Int} (h1 : cP W0 18 [.ptr 0 0, .str s92, .str s91] [A2k a92 a93 s90] (.tup [.str s92, zI]) [A2k a92 a93 s90]) (h2 : oC W0 16 [N128 a92 a93 s90] (.bool true)) : cP W0 10 [.str s92, .str s91, N128 a92 a93 s90] [] (.tup [.str s92, zI]) [] :=
 Aa hk A01 (ss0 6 [] 0 [] [(.bool true, none), (.tup [.str s92, zI], some [Zy a92 a93 s90, Zy a92 a93 s90, A2k a92 a93 s90])] []) (by kernel_rfl) (gdC (o := .callH 18 [.ptr 2 0, .str s92, .str s91] [Zy a92 a93 s90, Zy a92 a93 s90, A2k a92 a93 s90] (.tup [.str s92, zI]) [Zy a92 a93 s90, Zy a92 a93 s90, A2k a92 a93 s90]) (obC (A3.at1 h1 rfl rfl rfl rfl rfl rfl rfl rfl)) (gdC h2 gdN))
theorem K9 (hk : Kn W0) {s90 s91 s92 : Bz} {a92 a93 : Int} (h1 : cP W0 18 [.ptr 0 0, .str s92, .str s91] [A3j a92 a93 s90] (.tup [.str s92, zI]) [A3j a92 a93 s90]) (h2 : oC W0 16 [N131 a92 a93 s90] (.bool true)) : cP W0 10 [.str s92, .str s91, N131 a92 a93 s90] [] (.tup [.str s92, zI]) [] :=
 Aa hk A01 (ss0 5 [] 0 [] [(.bool true, none), (.tup [.str s92, zI], some [A00 a92 a93 s90, A00 a92 a93 s90, A3j a92 a93 s90])] []) (by kernel_rfl) (gdC (o := .callH 18 [.ptr 2 0, .str s92, .str s91] [A00 a92 a93 s90, A00 a92 a93 s90, A3j a92 a93 s90] (.tup [.str s92, zI]) [A00 a92 a93 s90, A00 a92 a93 s90, A3j a92 a93 s90]) (obC (A3.at1 h1 rfl rfl rfl rfl rfl rfl rfl rfl)) (gdC h2 gdN))
theorem Kp (hk : Kn W0) {s90 s91 s92 : Bz} {a92 a93 : Int} (h1 : cP W0 18 [.ptr 0 0, .str s92, .str s91] [A4s a92 a93 s90] (.tup [.str s92, zI]) [A4s a92 a93 s90]) (h2 : oC W0 16 [N134 a92 a93 s90] (.bool true)) : cP W0 10 [.str s92, .str s91, N134 a92 a93 s90] [] (.tup [.str s92, zI]) [] :=
 Aa hk A01 (ss0 6 [] 0 [] [(.bool true, none), (.tup [.str s92, zI], some [A1f a92 a93 s90, A1f a92 a93 s90, A4s a92 a93 s90])] []) (by kernel_rfl) (gdC (o := .callH 18 [.ptr 2 0, .str s92, .str s91] [A1f a92 a93 s90, A1f a92 a93 s90, A4s a92 a93 s90] (.tup [.str s92, zI]) [A1f a92 a93 s90, A1f a92 a93 s90, A4s a92 a93 s90]) (obC (A3.at1 h1 rfl rfl rfl rfl rfl rfl rfl rfl)) (gdC h2 gdN))
theorem Kr (hk : Kn W0) {s90 s91 s92 : Bz} {a92 a93 : Int} (h1 : cP W0 18 [.ptr 0 0, .str s92, .str s91] [A3d a92 a93 s90] (.tup [.str s92, zI]) [A3d a92 a93 s90]) (h2 : oC W0 16 [N137 a92 a93 s90] (.bool true)) : cP W0 10 [.str s92, .str s91, N137 a92 a93 s90] [] (.tup [.str s92, zI]) [] :=
 Aa hk A01 (ss0 6 [] 0 [] [(.bool true, none), (.tup [.str s92, zI], some [A0i a92 a93 s90, A0i a92 a93 s90, A3d a92 a93 s90])] []) (by kernel_rfl) (gdC (o := .callH 18 [.ptr 2 0, .str s92, .str s91] [A0i a92 a93 s90, A0i a92 a93 s90, A3d a92 a93 s90] (.tup [.str s92, zI]) [A0i a92 a93 s90, A0i a92 a93 s90, A3d a92 a93 s90]) (obC (A3.at1 h1 rfl rfl rfl rfl rfl rfl rfl rfl)) (gdC h2 gdN))
theorem Ku (hk : Kn W0) {s90 s91 s92 : Bz} {a92 a93 : Int} (h1 : cP W0 18 [.ptr 0 0, .str s92, .str s91] [A2a a92 a93 s90] (.tup [.str s92, zI]) [A2a a92 a93 s90]) (h2 : oC W0 16 [N140 a92 a93 s90] (.bool true)) : cP W0 10 [.str s92, .str s91, N140 a92 a93 s90] [] (.tup [.str s92, zI]) [] :=
 Aa hk A01 (ss0 6 [] 0 [] [(.bool true, none), (.tup [.str s92, zI], some [A1r a92 a93 s90, A1r a92 a93 s90, A2a a92 a93 s90])] []) (by kernel_rfl) (gdC (o := .callH 18 [.ptr 2 0, .str s92, .str s91] [A1r a92 a93 s90, A1r a92 a93 s90, A2a a92 a93 s90] (.tup [.str s92, zI]) [A1r a92 a93 s90, A1r a92 a93 s90, A2a a92 a93 s90]) (obC (A3.at1 h1 rfl rfl rfl rfl rfl rfl rfl rfl)) (gdC h2 gdN))
theorem sgN (hk : Kn W0) {s1 s90 s91 : Bz} {a91 a92 a93 a94 c1 r1 : Int} {bC bI bR fc1 fr1 : Bool} (h1 : cP W0 131 [.ptr 0 0, Ag s1 r1 c1 fr1 fc1, .str s91] [N10 a91 a92 a93 s90 bR bC bI a94] zB [N10 a91 a92 a93 s90 bR bC bI a94]) : cP W0 81 [.ptr 0 0, Ag s1 r1 c1 fr1 fc1, .str s91] [N10 a91 a92 a93 s90 bR bC bI a94] (Ag s1 r1 c1 fr1 fc1) [N10 a91 a92 a93 s90 bR bC bI a94] :=
 Aa hk opqO (ss0 0 [] 0 [] [(zB, some [N10 a91 a92 a93 s90 bR bC bI a94, N143 s1 r1 c1 fr1 fc1, N144, N145])] []) (by kernel_rfl) (gdC (o := .callH 131 [.ptr 0 0, Ag s1 r1 c1 fr1 fc1, .str s91] [N10 a91 a92 a93 s90 bR bC bI a94, N143 s1 r1 c1 fr1 fc1, N144, N145] zB [N10 a91 a92 a93 s90 bR bC bI a94, N143 s1 r1 c1 fr1 fc1, N144, N145]) (obC (A3.at1 h1 rfl rfl rfl rfl rfl rfl rfl rfl)) gdN)
theorem db0 (hk : Kn W0) {s1 s90 s91 : Bz} {a92 a93 a94 a96 c1 c3 r1 r3 : Int} {bI fc1 fc3 fr1 fr3 : Bool} (h1 : cP W0 81 [.ptr 0 0, Ag s1 r1 c1 fr1 fc1, .str s91] [Ya a96 a92 a93 s90 bI a94] (Ag s1 r1 c1 fr1 fc1) [Ya a96 a92 a93 s90 bI a94]) : cP W0 82 [.ptr 0 0, N39 s1 r1 c1 fr1 fc1 r3 c3 fr3 fc3, .str s91] [Ya a96 a92 a93 s90 bI a94] (N39 s1 r1 c1 fr1 fc1 r3 c3 fr3 fc3) [Ya a96 a92 a93 s90 bI a94] :=
 Aa hk opqD (ss0 0 [] 0 [] [(Ag s1 r1 c1 fr1 fc1, some [Ya a96 a92 a93 s90 bI a94, Eo s1 r1 c1 fr1 fc1 r3 c3 fr3 fc3, Ab, I2])] []) (by kernel_rfl) (gdC (o := .callH 81 [.ptr 0 0, Ag s1 r1 c1 fr1 fc1, .str s91] [Ya a96 a92 a93 s90 bI a94, Eo s1 r1 c1 fr1 fc1 r3 c3 fr3 fc3, Ab, I2] (Ag s1 r1 c1 fr1 fc1) [Ya a96 a92 a93 s90 bI a94, Eo s1 r1 c1 fr1 fc1 r3 c3 fr3 fc3, Ab, I2]) (obC (A3.at1 h1 rfl rfl rfl rfl rfl rfl rfl rfl)) gdN)
theorem db1 (hk : Kn W0) {s1 s90 s91 : Bz} {a92 a93 a94 a96 c1 c3 r1 r3 : Int} {bI fc1 fc3 fr1 fr3 : Bool} (h1 : cP W0 131 [.ptr 0 0, Ag s1 r1 c1 fr1 fc1, .str s91] [Yi a96 a92 a93 s90 bI a94] zB [Yi a96 a92 a93 s90 bI a94]) : cP W0 82 [.ptr 0 0, N39 s1 r1 c1 fr1 fc1 r3 c3 fr3 fc3, .str s91] [Yi a96 a92 a93 s90 bI a94] (N39 s1 r1 c1 fr1 fc1 r3 c3 fr3 fc3) [Yi a96 a92 a93 s90 bI a94] :=
 Aa hk opqD (ss0 0 [] 0 [] [(zB, some [Yi a96 a92 a93 s90 bI a94, Eo s1 r1 c1 fr1 fc1 r3 c3 fr3 fc3, Ab, I2])] []) (by kernel_rfl) (gdC (o := .callH 131 [.ptr 0 0, Ag s1 r1 c1 fr1 fc1, .str s91] [Yi a96 a92 a93 s90 bI a94, Eo s1 r1 c1 fr1 fc1 r3 c3 fr3 fc3, Ab, I2] zB [Yi a96 a92 a93 s90 bI a94, Eo s1 r1 c1 fr1 fc1 r3 c3 fr3 fc3, Ab, I2]) (obC (A3.at1 h1 rfl rfl rfl rfl rfl rfl rfl rfl)) gdN)
theorem db2 (hk : Kn W0) {s1 s90 s91 : Bz} {a92 a93 a94 a96 c1 c3 r1 r3 : Int} {bI fc1 fc3 fr1 fr3 : Bool} (h1 : cP W0 131 [.ptr 0 0, Ag s1 r1 c1 fr1 fc1, .str s91] [Yq a96 a92 a93 s90 bI a94] zB [Yq a96 a92 a93 s90 bI a94]) : cP W0 82 [.ptr 0 0, N39 s1 r1 c1 fr1 fc1 r3 c3 fr3 fc3, .str s91] [Yq a96 a92 a93 s90 bI a94] (N39 s1 r1 c1 fr1 fc1 r3 c3 fr3 fc3) [Yq a96 a92 a93 s90 bI a94] :=
 Aa hk opqD (ss0 0 [] 0 [] [(zB, some [Yq a96 a92 a93 s90 bI a94, Eo s1 r1 c1 fr1 fc1 r3 c3 fr3 fc3, Ab, I2])] []) (by kernel_rfl) (gdC (o := .callH 131 [.ptr 0 0, Ag s1 r1 c1 fr1 fc1, .str s91] [Yq a96 a92 a93 s90 bI a94, Eo s1 r1 c1 fr1 fc1 r3 c3 fr3 fc3, Ab, I2] zB [Yq a96 a92 a93 s90 bI a94, Eo s1 r1 c1 fr1 fc1 r3 c3 fr3 fc3, Ab, I2]) (obC (A3.at1 h1 rfl rfl rfl rfl rfl rfl rfl rfl)) gdN)
theorem on00 (hk : Kn W0) {s90 : Bz} {a91 a92 a93 a94 c1 r1 : Int} {bC bI bR fc1 fr1 : Bool}  : cP W0 131 [.ptr 0 0, Uy r1 c1 fr1 fc1, .str [83]] [N10 a91 a92 a93 s90 bR bC bI a94] zB [N10 a91 a92 a93 s90 bR bC bI a94] :=
 Aa hk E6 (ss0 2 [] 0 [] [] []) (by kernel_rfl) gdN
theorem on01 (hk : Kn W0) {s90 : Bz} {a91 a92 a93 a94 c1 r1 : Int} {bC bI bR fc1 fr1 : Bool}  : cP W0 131 [.ptr 0 0, Uy r1 c1 fr1 fc1, .str [84, 119, 111, 32, 120]] [N10 a91 a92 a93 s90 bR bC bI a94] zB [N10 a91 a92 a93 s90 bR bC bI a94] :=
 Aa hk E6 (ss0 2 [] 0 [] [] []) (by kernel_rfl) gdN
theorem on02 (hk : Kn W0) {s90 : Bz} {a91 a92 a93 a94 c1 r1 : Int} {bC bI bR fc1 fr1 : Bool}  : cP W0 131 [.ptr 0 0, Uy r1 c1 fr1 fc1, .str [116, 104, 105, 114, 100]] [N10 a91 a92 a93 s90 bR bC bI a94] zB [N10 a91 a92 a93 s90 bR bC bI a94] :=
 Aa hk E6 (ss0 2 [] 0 [] [] []) (by kernel_rfl) gdN
theorem on10 (hk : Kn W0) {s90 : Bz} {a91 a92 a93 a94 c1 r1 : Int} {bC bI bR fc1 fr1 : Bool}  : cP W0 131 [.ptr 0 0, A4d r1 c1 fr1 fc1, .str [83]] [N10 a91 a92 a93 s90 bR bC bI a94] zB [N10 a91 a92 a93 s90 bR bC bI a94] :=
 Aa hk E6 (ss0 2 [] 0 [] [] []) (by kernel_rfl) gdN
theorem on11 (hk : Kn W0) {s90 : Bz} {a91 a92 a93 a94 c1 r1 : Int} {bC bI bR fc1 fr1 : Bool}  : cP W0 131 [.ptr 0 0, A4d r1 c1 fr1 fc1, .str [84, 119, 111, 32, 120]] [N10 a91 a92 a93 s90 bR bC bI a94] zB [N10 a91 a92 a93 s90 bR bC bI a94] :=
 Aa hk E6 (ss0 2 [] 0 [] [] []) (by kernel_rfl) gdN
theorem on12 (hk : Kn W0) {s90 : Bz} {a91 a92 a93 a94 c1 r1 : Int} {bC bI bR fc1 fr1 : Bool}  : cP W0 131 [.ptr 0 0, A4d r1 c1 fr1 fc1, .str [116, 104, 105, 114, 100]] [N10 a91 a92 a93 s90 bR bC bI a94] zB [N10 a91 a92 a93 s90 bR bC bI a94] :=
 Aa hk E6 (ss0 2 [] 0 [] [] []) (by kernel_rfl) gdN
theorem on20 (hk : Kn W0) {s90 : Bz} {a91 a92 a93 a94 c1 r1 : Int} {bC bI bR fc1 fr1 : Bool}  : cP W0 131 [.ptr 0 0, A43 r1 c1 fr1 fc1, .str [83]] [N10 a91 a92 a93 s90 bR bC bI a94] zB [N10 a91 a92 a93 s90 bR bC bI a94] :=
 Aa hk E6 (ss0 2 [] 0 [] [] []) (by kernel_rfl) gdN
theorem on21 (hk : Kn W0) {s90 : Bz} {a91 a92 a93 a94 c1 r1 : Int} {bC bI bR fc1 fr1 : Bool}  : cP W0 131 [.ptr 0 0, A43 r1 c1 fr1 fc1, .str [84, 119, 111, 32, 120]] [N10 a91 a92 a93 s90 bR bC bI a94] zB [N10 a91 a92 a93 s90 bR bC bI a94] :=
 Aa hk E6 (ss0 2 [] 0 [] [] []) (by kernel_rfl) gdN
theorem on22 (hk : Kn W0) {s90 : Bz} {a91 a92 a93 a94 c1 r1 : Int} {bC bI bR fc1 fr1 : Bool}  : cP W0 131 [.ptr 0 0, A43 r1 c1 fr1 fc1, .str [116, 104, 105, 114, 100]] [N10 a91 a92 a93 s90 bR bC bI a94] zB [N10 a91 a92 a93 s90 bR bC bI a94] :=
 Aa hk E6 (ss0 2 [] 0 [] [] []) (by kernel_rfl) gdN
theorem on30 (hk : Kn W0) {s90 : Bz} {a91 a92 a93 a94 c1 r1 : Int} {bC bI bR fc1 fr1 : Bool}  : cP W0 131 [.ptr 0 0, A1z r1 c1 fr1 fc1, .str [83]] [N10 a91 a92 a93 s90 bR bC bI a94] zB [N10 a91 a92 a93 s90 bR bC bI a94] :=
 Aa hk E6 (ss0 2 [] 0 [] [] []) (by kernel_rfl) gdN
theorem on31 (hk : Kn W0) {s90 : Bz} {a91 a92 a93 a94 c1 r1 : Int} {bC bI bR fc1 fr1 : Bool}  : cP W0 131 [.ptr 0 0, A1z r1 c1 fr1 fc1, .str [84, 119, 111, 32, 120]] [N10 a91 a92 a93 s90 bR bC bI a94] zB [N10 a91 a92 a93 s90 bR bC bI a94] :=
 Aa hk E6 (ss0 2 [] 0 [] [] []) (by kernel_rfl) gdN
theorem on32 (hk : Kn W0) {s90 : Bz} {a91 a92 a93 a94 c1 r1 : Int} {bC bI bR fc1 fr1 : Bool}  : cP W0 131 [.ptr 0 0, A1z r1 c1 fr1 fc1, .str [116, 104, 105, 114, 100]] [N10 a91 a92 a93 s90 bR bC bI a94] zB [N10 a91 a92 a93 s90 bR bC bI a94] :=
 Aa hk E6 (ss0 2 [] 0 [] [] []) (by kernel_rfl) gdN
end Go.Abs
namespace Go.Abs
open Go.Proofs Go.RowKit
set_option maxRecDepth 100000
variable {W0 : World}
def Ow (s : Bz) : Prop := s = [83] ∨ s = [84, 119, 111, 32, 120] ∨ s = [116, 104, 105, 114, 100]
def Sh (s : Bz) : Prop := s = [] ∨ Ow s
def sft (K aa nn : Int) (nm : Bz) : AVal := .agg [jI K, .str [101, 108, 115, 101, 119, 104, 101, 114, 101], jI aa, jI nn, .str nm]
theorem onF (hk : Kn W0) {sh own nm : Bz} {A B C D r c : Int} {fr fc bR bC bI : Bool} (h1 : Sh sh) (h2 : Ow own) : cP W0 131 [.ptr 0 0, Ag sh r c fr fc, .str own] [N10 A B C nm bR bC bI D] zB [N10 A B C nm bR bC bI D] := by
 rcases h1 with rfl | rfl | rfl | rfl <;> rcases h2 with rfl | rfl | rfl
 · exact on00 hk
 · exact on01 hk
 · exact on02 hk
 · exact on10 hk
 · exact on11 hk
 · exact on12 hk
 · exact on20 hk
 · exact on21 hk
 · exact on22 hk
 · exact on30 hk
 · exact on31 hk
 · exact on32 hk
theorem sgF (hk : Kn W0) {sh own nm : Bz} {A B C D r c : Int} {fr fc bR bC bI : Bool} (h1 : Sh sh) (h2 : Ow own) : cP W0 81 [.ptr 0 0, Ag sh r c fr fc, .str own] [N10 A B C nm bR bC bI D] (Ag sh r c fr fc) [N10 A B C nm bR bC bI D] := sgN hk (onF hk h1 h2)
theorem dbF (hk : Kn W0) {sh own nm : Bz} {A B C D r c r3 c3 : Int} {fr fc fr3 fc3 bR bC bI : Bool} (h1 : Sh sh) (h2 : Ow own) (h3 : (bR && bC) = false) : cP W0 82 [.ptr 0 0, N39 sh r c fr fc r3 c3 fr3 fc3, .str own] [N10 A B C nm bR bC bI D] (N39 sh r c fr fc r3 c3 fr3 fc3) [N10 A B C nm bR bC bI D] := by
 cases bR <;> cases bC
 · exact db0 hk (sgF hk h1 h2)
 · exact db2 hk (onF hk h1 h2)
 · exact db1 hk (onF hk h1 h2)
 · cases h3
theorem fin0 (hk : Kn W0) {p own nm : Bz} {K aa nn : Int} {sp : Bz} {rp cp : Int} {frp fcp : Bool} (hp : Af W0 p sp rp cp frp fcp) (ha : asc (bd0 p) = true) (hl : (bd0 p).length ≤ 200) (ho : Ow own) (zp : Sh sp) (hK : 1 ≤ K ∧ K ≤ 6) (hr : cP W0 16 [sft K aa nn nm] [] (.bool true) []) : cP W0 10 [.str (61 :: bd0 p), .str own, sft K aa nn nm] [] (.tup [.str (61 :: bd0 p), zI]) [] := by
 have hK' : K = 1 ∨ K = 2 ∨ K = 3 ∨ K = 4 ∨ K = 5 ∨ K = 6 := by omega
 rcases hK' with rfl | rfl | rfl | rfl | rfl | rfl
 · exact Ko hk (A1c hk hp ha hl (sgF hk zp ho)) hr
 · exact K7 hk (A1c hk hp ha hl (sgF hk zp ho)) hr
 · exact K9 hk (A1c hk hp ha hl (sgF hk zp ho)) hr
 · exact Kp hk (A1c hk hp ha hl (sgF hk zp ho)) hr
 · exact Kr hk (A1c hk hp ha hl (sgF hk zp ho)) hr
 · exact Ku hk (A1c hk hp ha hl (sgF hk zp ho)) hr
theorem fin1 (hk : Kn W0) {p q own nm : Bz} {K aa nn : Int} {sp : Bz} {rp cp : Int} {frp fcp : Bool} (hp : Af W0 p sp rp cp frp fcp) {sq : Bz} {rq cq : Int} {frq fcq : Bool} (hq : Af W0 q sq rq cq frq fcq) (ha : asc (bd1 p q) = true) (hl : (bd1 p q).length ≤ 200) (ho : Ow own) (zp : Sh sp) (zq : Sh sq) (hK : 1 ≤ K ∧ K ≤ 6) (hr : cP W0 16 [sft K aa nn nm] [] (.bool true) []) : cP W0 10 [.str (61 :: bd1 p q), .str own, sft K aa nn nm] [] (.tup [.str (61 :: bd1 p q), zI]) [] := by
 have hK' : K = 1 ∨ K = 2 ∨ K = 3 ∨ K = 4 ∨ K = 5 ∨ K = 6 := by omega
 rcases hK' with rfl | rfl | rfl | rfl | rfl | rfl
 · exact Ko hk (A0t hk hp hq ha hl (sgF hk zq ho) (sgF hk zp ho)) hr
 · exact K7 hk (A0t hk hp hq ha hl (sgF hk zq ho) (sgF hk zp ho)) hr
 · exact K9 hk (A0t hk hp hq ha hl (sgF hk zq ho) (sgF hk zp ho)) hr
 · exact Kp hk (A0t hk hp hq ha hl (sgF hk zq ho) (sgF hk zp ho)) hr
 · exact Kr hk (A0t hk hp hq ha hl (sgF hk zq ho) (sgF hk zp ho)) hr
 · exact Ku hk (A0t hk hp hq ha hl (sgF hk zq ho) (sgF hk zp ho)) hr
theorem fin2 (hk : Kn W0) {p u own nm : Bz} {K aa nn : Int} {sp : Bz} {rp cp : Int} {frp fcp : Bool} (hp : Af W0 p sp rp cp frp fcp) {ru cu : Int} {fru fcu : Bool} (hu : Af W0 u [] ru cu fru fcu) (ha : asc (bd2 p u) = true) (hl : (bd2 p u).length ≤ 200) (ho : Ow own) (zp : Sh sp) (hK : 1 ≤ K ∧ K ≤ 6) (hr : cP W0 16 [sft K aa nn nm] [] (.bool true) []) : cP W0 10 [.str (61 :: bd2 p u), .str own, sft K aa nn nm] [] (.tup [.str (61 :: bd2 p u), zI]) [] := by
 have hK' : K = 1 ∨ K = 2 ∨ K = 3 ∨ K = 4 ∨ K = 5 ∨ K = 6 := by omega
 rcases hK' with rfl | rfl | rfl | rfl | rfl | rfl
 · exact Ko hk (A05 hk hp hu ha hl (dbF hk zp ho (by simp))) hr
 · exact K7 hk (A05 hk hp hu ha hl (dbF hk zp ho (by simp))) hr
 · exact K9 hk (A05 hk hp hu ha hl (dbF hk zp ho (by simp))) hr
 · exact Kp hk (A05 hk hp hu ha hl (dbF hk zp ho (by simp))) hr
 · exact Kr hk (A05 hk hp hu ha hl (dbF hk zp ho (by simp))) hr
 · exact Ku hk (A05 hk hp hu ha hl (dbF hk zp ho (by simp))) hr
theorem fin3 (hk : Kn W0) {p q own nm : Bz} {K aa nn : Int} {sp : Bz} {rp cp : Int} {frp fcp : Bool} (hp : Af W0 p sp rp cp frp fcp) {sq : Bz} {rq cq : Int} {frq fcq : Bool} (hq : Af W0 q sq rq cq frq fcq) (ha : asc (bd3 p q) = true) (hl : (bd3 p q).length ≤ 200) (ho : Ow own) (zp : Sh sp) (zq : Sh sq) (hK : 1 ≤ K ∧ K ≤ 6) (hr : cP W0 16 [sft K aa nn nm] [] (.bool true) []) : cP W0 10 [.str (61 :: bd3 p q), .str own, sft K aa nn nm] [] (.tup [.str (61 :: bd3 p q), zI]) [] := by
 have hK' : K = 1 ∨ K = 2 ∨ K = 3 ∨ K = 4 ∨ K = 5 ∨ K = 6 := by omega
 rcases hK' with rfl | rfl | rfl | rfl | rfl | rfl
 · exact Ko hk (A1m hk hp hq ha hl (sgF hk zq ho) (sgF hk zp ho)) hr
 · exact K7 hk (A1m hk hp hq ha hl (sgF hk zq ho) (sgF hk zp ho)) hr
 · exact K9 hk (A1m hk hp hq ha hl (sgF hk zq ho) (sgF hk zp ho)) hr
 · exact Kp hk (A1m hk hp hq ha hl (sgF hk zq ho) (sgF hk zp ho)) hr
 · exact Kr hk (A1m hk hp hq ha hl (sgF hk zq ho) (sgF hk zp ho)) hr
 · exact Ku hk (A1m hk hp hq ha hl (sgF hk zq ho) (sgF hk zp ho)) hr
theorem fin4 (hk : Kn W0) {p own nm : Bz} {K aa nn : Int} {sp : Bz} {rp cp : Int} {frp fcp : Bool} (hp : Af W0 p sp rp cp frp fcp) (ha : asc (bd4 p) = true) (hl : (bd4 p).length ≤ 200) (ho : Ow own) (zp : Sh sp) (hK : 1 ≤ K ∧ K ≤ 6) (hr : cP W0 16 [sft K aa nn nm] [] (.bool true) []) : cP W0 10 [.str (61 :: bd4 p), .str own, sft K aa nn nm] [] (.tup [.str (61 :: bd4 p), zI]) [] := by
 have hK' : K = 1 ∨ K = 2 ∨ K = 3 ∨ K = 4 ∨ K = 5 ∨ K = 6 := by omega
 rcases hK' with rfl | rfl | rfl | rfl | rfl | rfl
 · exact Ko hk (A11 hk hp ha hl (sgF hk zp ho)) hr
 · exact K7 hk (A11 hk hp ha hl (sgF hk zp ho)) hr
 · exact K9 hk (A11 hk hp ha hl (sgF hk zp ho)) hr
 · exact Kp hk (A11 hk hp ha hl (sgF hk zp ho)) hr
 · exact Kr hk (A11 hk hp ha hl (sgF hk zp ho)) hr
 · exact Ku hk (A11 hk hp ha hl (sgF hk zp ho)) hr
theorem fin5 (hk : Kn W0) {p u own nm : Bz} {K aa nn : Int} {sp : Bz} {rp cp : Int} {frp fcp : Bool} (hp : Af W0 p sp rp cp frp fcp) {ru cu : Int} {fru fcu : Bool} (hu : Af W0 u [] ru cu fru fcu) (ha : asc (bd5 p u) = true) (hl : (bd5 p u).length ≤ 200) (ho : Ow own) (zp : Sh sp) (hK : 1 ≤ K ∧ K ≤ 6) (hr : cP W0 16 [sft K aa nn nm] [] (.bool true) []) : cP W0 10 [.str (61 :: bd5 p u), .str own, sft K aa nn nm] [] (.tup [.str (61 :: bd5 p u), zI]) [] := by
 have hK' : K = 1 ∨ K = 2 ∨ K = 3 ∨ K = 4 ∨ K = 5 ∨ K = 6 := by omega
 rcases hK' with rfl | rfl | rfl | rfl | rfl | rfl
 · exact Ko hk (A1u hk hp hu ha hl (dbF hk zp ho (by simp))) hr
 · exact K7 hk (A1u hk hp hu ha hl (dbF hk zp ho (by simp))) hr
 · exact K9 hk (A1u hk hp hu ha hl (dbF hk zp ho (by simp))) hr
 · exact Kp hk (A1u hk hp hu ha hl (dbF hk zp ho (by simp))) hr
 · exact Kr hk (A1u hk hp hu ha hl (dbF hk zp ho (by simp))) hr
 · exact Ku hk (A1u hk hp hu ha hl (dbF hk zp ho (by simp))) hr
theorem fin6 (hk : Kn W0) {p q own nm : Bz} {K aa nn : Int} {sp : Bz} {rp cp : Int} {frp fcp : Bool} (hp : Af W0 p sp rp cp frp fcp) {sq : Bz} {rq cq : Int} {frq fcq : Bool} (hq : Af W0 q sq rq cq frq fcq) (ha : asc (bd6 p q) = true) (hl : (bd6 p q).length ≤ 200) (ho : Ow own) (zp : Sh sp) (zq : Sh sq) (hK : 1 ≤ K ∧ K ≤ 6) (hr : cP W0 16 [sft K aa nn nm] [] (.bool true) []) : cP W0 10 [.str (61 :: bd6 p q), .str own, sft K aa nn nm] [] (.tup [.str (61 :: bd6 p q), zI]) [] := by
 have hK' : K = 1 ∨ K = 2 ∨ K = 3 ∨ K = 4 ∨ K = 5 ∨ K = 6 := by omega
 rcases hK' with rfl | rfl | rfl | rfl | rfl | rfl
 · exact Ko hk (A14 hk hp hq ha hl (sgF hk zq ho) (sgF hk zp ho)) hr
 · exact K7 hk (A14 hk hp hq ha hl (sgF hk zq ho) (sgF hk zp ho)) hr
 · exact K9 hk (A14 hk hp hq ha hl (sgF hk zq ho) (sgF hk zp ho)) hr
 · exact Kp hk (A14 hk hp hq ha hl (sgF hk zq ho) (sgF hk zp ho)) hr
 · exact Kr hk (A14 hk hp hq ha hl (sgF hk zq ho) (sgF hk zp ho)) hr
 · exact Ku hk (A14 hk hp hq ha hl (sgF hk zq ho) (sgF hk zp ho)) hr
theorem fin7 (hk : Kn W0) {p own nm : Bz} {K aa nn : Int} {sp : Bz} {rp cp : Int} {frp fcp : Bool} (hp : Af W0 p sp rp cp frp fcp) (ha : asc (bd7 p) = true) (hl : (bd7 p).length ≤ 200) (ho : Ow own) (zp : Sh sp) (hK : 1 ≤ K ∧ K ≤ 6) (hr : cP W0 16 [sft K aa nn nm] [] (.bool true) []) : cP W0 10 [.str (61 :: bd7 p), .str own, sft K aa nn nm] [] (.tup [.str (61 :: bd7 p), zI]) [] := by
 have hK' : K = 1 ∨ K = 2 ∨ K = 3 ∨ K = 4 ∨ K = 5 ∨ K = 6 := by omega
 rcases hK' with rfl | rfl | rfl | rfl | rfl | rfl
 · exact Ko hk (A0q hk hp ha hl (sgF hk zp ho)) hr
 · exact K7 hk (A0q hk hp ha hl (sgF hk zp ho)) hr
 · exact K9 hk (A0q hk hp ha hl (sgF hk zp ho)) hr
 · exact Kp hk (A0q hk hp ha hl (sgF hk zp ho)) hr
 · exact Kr hk (A0q hk hp ha hl (sgF hk zp ho)) hr
 · exact Ku hk (A0q hk hp ha hl (sgF hk zp ho)) hr
theorem fin8 (hk : Kn W0) {p own nm : Bz} {K aa nn : Int} {sp : Bz} {rp cp : Int} {frp fcp : Bool} (hp : Af W0 p sp rp cp frp fcp) (ha : asc (bd8 p) = true) (hl : (bd8 p).length ≤ 200) (ho : Ow own) (zp : Sh sp) (hK : 1 ≤ K ∧ K ≤ 6) (hr : cP W0 16 [sft K aa nn nm] [] (.bool true) []) : cP W0 10 [.str (61 :: bd8 p), .str own, sft K aa nn nm] [] (.tup [.str (61 :: bd8 p), zI]) [] := by
 have hK' : K = 1 ∨ K = 2 ∨ K = 3 ∨ K = 4 ∨ K = 5 ∨ K = 6 := by omega
 rcases hK' with rfl | rfl | rfl | rfl | rfl | rfl
 · exact Ko hk (A0b hk hp ha hl (sgF hk zp ho)) hr
 · exact K7 hk (A0b hk hp ha hl (sgF hk zp ho)) hr
 · exact K9 hk (A0b hk hp ha hl (sgF hk zp ho)) hr
 · exact Kp hk (A0b hk hp ha hl (sgF hk zp ho)) hr
 · exact Kr hk (A0b hk hp ha hl (sgF hk zp ho)) hr
 · exact Ku hk (A0b hk hp ha hl (sgF hk zp ho)) hr
theorem fin9 (hk : Kn W0) {p own nm : Bz} {K aa nn : Int} {sp : Bz} {rp cp : Int} {frp fcp : Bool} (hp : Af W0 p sp rp cp frp fcp) (ha : asc (bd9 p) = true) (hl : (bd9 p).length ≤ 200) (ho : Ow own) (zp : Sh sp) (hK : 1 ≤ K ∧ K ≤ 6) (hr : cP W0 16 [sft K aa nn nm] [] (.bool true) []) : cP W0 10 [.str (61 :: bd9 p), .str own, sft K aa nn nm] [] (.tup [.str (61 :: bd9 p), zI]) [] := by
 have hK' : K = 1 ∨ K = 2 ∨ K = 3 ∨ K = 4 ∨ K = 5 ∨ K = 6 := by omega
 rcases hK' with rfl | rfl | rfl | rfl | rfl | rfl
 · exact Ko hk (A08 hk hp ha hl (sgF hk zp ho)) hr
 · exact K7 hk (A08 hk hp ha hl (sgF hk zp ho)) hr
 · exact K9 hk (A08 hk hp ha hl (sgF hk zp ho)) hr
 · exact Kp hk (A08 hk hp ha hl (sgF hk zp ho)) hr
 · exact Kr hk (A08 hk hp ha hl (sgF hk zp ho)) hr
 · exact Ku hk (A08 hk hp ha hl (sgF hk zp ho)) hr
theorem fin10 (hk : Kn W0) {p own nm : Bz} {K aa nn : Int} {sp : Bz} {rp cp : Int} {frp fcp : Bool} (hp : Af W0 p sp rp cp frp fcp) (ha : asc (Ij p) = true) (hl : (Ij p).length ≤ 200) (ho : Ow own) (zp : Sh sp) (hK : 1 ≤ K ∧ K ≤ 6) (hr : cP W0 16 [sft K aa nn nm] [] (.bool true) []) : cP W0 10 [.str (61 :: Ij p), .str own, sft K aa nn nm] [] (.tup [.str (61 :: Ij p), zI]) [] := by
 have hK' : K = 1 ∨ K = 2 ∨ K = 3 ∨ K = 4 ∨ K = 5 ∨ K = 6 := by omega
 rcases hK' with rfl | rfl | rfl | rfl | rfl | rfl
 · exact Ko hk (T0 hk hp ha hl (sgF hk zp ho)) hr
 · exact K7 hk (T0 hk hp ha hl (sgF hk zp ho)) hr
 · exact K9 hk (T0 hk hp ha hl (sgF hk zp ho)) hr
 · exact Kp hk (T0 hk hp ha hl (sgF hk zp ho)) hr
 · exact Kr hk (T0 hk hp ha hl (sgF hk zp ho)) hr
 · exact Ku hk (T0 hk hp ha hl (sgF hk zp ho)) hr
theorem fin11 (hk : Kn W0) {p own nm : Bz} {K aa nn : Int} {sp : Bz} {rp cp : Int} {frp fcp : Bool} (hp : Af W0 p sp rp cp frp fcp) (ha : asc (Ik p) = true) (hl : (Ik p).length ≤ 200) (ho : Ow own) (zp : Sh sp) (hK : 1 ≤ K ∧ K ≤ 6) (hr : cP W0 16 [sft K aa nn nm] [] (.bool true) []) : cP W0 10 [.str (61 :: Ik p), .str own, sft K aa nn nm] [] (.tup [.str (61 :: Ik p), zI]) [] := by
 have hK' : K = 1 ∨ K = 2 ∨ K = 3 ∨ K = 4 ∨ K = 5 ∨ K = 6 := by omega
 rcases hK' with rfl | rfl | rfl | rfl | rfl | rfl
 · exact Ko hk (S1 hk hp ha hl (sgF hk zp ho)) hr
 · exact K7 hk (S1 hk hp ha hl (sgF hk zp ho)) hr
 · exact K9 hk (S1 hk hp ha hl (sgF hk zp ho)) hr
 · exact Kp hk (S1 hk hp ha hl (sgF hk zp ho)) hr
 · exact Kr hk (S1 hk hp ha hl (sgF hk zp ho)) hr
 · exact Ku hk (S1 hk hp ha hl (sgF hk zp ho)) hr
theorem fin12 (hk : Kn W0) {p q u own nm : Bz} {K aa nn : Int} {sp : Bz} {rp cp : Int} {frp fcp : Bool} (hp : Af W0 p sp rp cp frp fcp) {sq : Bz} {rq cq : Int} {frq fcq : Bool} (hq : Af W0 q sq rq cq frq fcq) {ru cu : Int} {fru fcu : Bool} (hu : Af W0 u [] ru cu fru fcu) (ha : asc (Ih p q u) = true) (hl : (Ih p q u).length ≤ 200) (ho : Ow own) (zp : Sh sp) (zq : Sh sq) (hK : 1 ≤ K ∧ K ≤ 6) (hr : cP W0 16 [sft K aa nn nm] [] (.bool true) []) : cP W0 10 [.str (61 :: Ih p q u), .str own, sft K aa nn nm] [] (.tup [.str (61 :: Ih p q u), zI]) [] := by
 have hK' : K = 1 ∨ K = 2 ∨ K = 3 ∨ K = 4 ∨ K = 5 ∨ K = 6 := by omega
 rcases hK' with rfl | rfl | rfl | rfl | rfl | rfl
 · exact Ko hk (Tj hk hp hq hu ha hl (sgF hk zq ho) (dbF hk zp ho (by simp))) hr
 · exact K7 hk (Tj hk hp hq hu ha hl (sgF hk zq ho) (dbF hk zp ho (by simp))) hr
 · exact K9 hk (Tj hk hp hq hu ha hl (sgF hk zq ho) (dbF hk zp ho (by simp))) hr
 · exact Kp hk (Tj hk hp hq hu ha hl (sgF hk zq ho) (dbF hk zp ho (by simp))) hr
 · exact Kr hk (Tj hk hp hq hu ha hl (sgF hk zq ho) (dbF hk zp ho (by simp))) hr
 · exact Ku hk (Tj hk hp hq hu ha hl (sgF hk zq ho) (dbF hk zp ho (by simp))) hr
theorem fin13 (hk : Kn W0) {p own nm : Bz} {K aa nn : Int} {sp : Bz} {rp cp : Int} {frp fcp : Bool} (hp : Af W0 p sp rp cp frp fcp) (ha : asc (Ib p) = true) (hl : (Ib p).length ≤ 200) (ho : Ow own) (zp : Sh sp) (hK : 1 ≤ K ∧ K ≤ 6) (hr : cP W0 16 [sft K aa nn nm] [] (.bool true) []) : cP W0 10 [.str (61 :: Ib p), .str own, sft K aa nn nm] [] (.tup [.str (61 :: Ib p), zI]) [] := by
 have hK' : K = 1 ∨ K = 2 ∨ K = 3 ∨ K = 4 ∨ K = 5 ∨ K = 6 := by omega
 rcases hK' with rfl | rfl | rfl | rfl | rfl | rfl
 · exact Ko hk (Ta hk hp ha hl (sgF hk zp ho)) hr
 · exact K7 hk (Ta hk hp ha hl (sgF hk zp ho)) hr
 · exact K9 hk (Ta hk hp ha hl (sgF hk zp ho)) hr
 · exact Kp hk (Ta hk hp ha hl (sgF hk zp ho)) hr
 · exact Kr hk (Ta hk hp ha hl (sgF hk zp ho)) hr
 · exact Ku hk (Ta hk hp ha hl (sgF hk zp ho)) hr
theorem fin14 (hk : Kn W0) {p own nm : Bz} {K aa nn : Int} {sp : Bz} {rp cp : Int} {frp fcp : Bool} (hp : Af W0 p sp rp cp frp fcp) (ha : asc (Ia p) = true) (hl : (Ia p).length ≤ 200) (ho : Ow own) (zp : Sh sp) (hK : 1 ≤ K ∧ K ≤ 6) (hr : cP W0 16 [sft K aa nn nm] [] (.bool true) []) : cP W0 10 [.str (61 :: Ia p), .str own, sft K aa nn nm] [] (.tup [.str (61 :: Ia p), zI]) [] := by
 have hK' : K = 1 ∨ K = 2 ∨ K = 3 ∨ K = 4 ∨ K = 5 ∨ K = 6 := by omega
 rcases hK' with rfl | rfl | rfl | rfl | rfl | rfl
 · exact Ko hk (Td hk hp ha hl (sgF hk zp ho)) hr
 · exact K7 hk (Td hk hp ha hl (sgF hk zp ho)) hr
 · exact K9 hk (Td hk hp ha hl (sgF hk zp ho)) hr
 · exact Kp hk (Td hk hp ha hl (sgF hk zp ho)) hr
 · exact Kr hk (Td hk hp ha hl (sgF hk zp ho)) hr
 · exact Ku hk (Td hk hp ha hl (sgF hk zp ho)) hr
theorem fin15 (hk : Kn W0) {p own nm : Bz} {K aa nn : Int} {sp : Bz} {rp cp : Int} {frp fcp : Bool} (hp : Af W0 p sp rp cp frp fcp) (ha : asc (Ii p) = true) (hl : (Ii p).length ≤ 200) (ho : Ow own) (zp : Sh sp) (hK : 1 ≤ K ∧ K ≤ 6) (hr : cP W0 16 [sft K aa nn nm] [] (.bool true) []) : cP W0 10 [.str (61 :: Ii p), .str own, sft K aa nn nm] [] (.tup [.str (61 :: Ii p), zI]) [] := by
 have hK' : K = 1 ∨ K = 2 ∨ K = 3 ∨ K = 4 ∨ K = 5 ∨ K = 6 := by omega
 rcases hK' with rfl | rfl | rfl | rfl | rfl | rfl
 · exact Ko hk (Ry hk hp ha hl (sgF hk zp ho)) hr
 · exact K7 hk (Ry hk hp ha hl (sgF hk zp ho)) hr
 · exact K9 hk (Ry hk hp ha hl (sgF hk zp ho)) hr
 · exact Kp hk (Ry hk hp ha hl (sgF hk zp ho)) hr
 · exact Kr hk (Ry hk hp ha hl (sgF hk zp ho)) hr
 · exact Ku hk (Ry hk hp ha hl (sgF hk zp ho)) hr
end Go.Abs
namespace Go.Abs
open Go.Proofs Go.RowKit
set_option maxRecDepth 100000
variable {W0 : World} {G : List (Nat × AVal)}
def F70 : AFn := ⟨(sQ [wV 3 (.box 22 0), wV 4 (.box 22 1), wV 6 (.move (.val (.str [])))] (sQ [wV 10 (.load 3 true 3), wM 11 2, wV 12 (kF 40 [10, 11, (.val (.bool false))]), wM 7 12] (.seq (.draw [wV 14 (.idxArr 3 1 4 (vI 0)), wV 15 (.load 1 false 14), wV 16 (kF 13 [15, (vI 8)]), wV 17 (.idxArr 3 1 4 (vI 1)), wV 18 (.load 1 false 17), wV 19 (kF 13 [18, (vI 5)]), wV 20 (.build [.str [], .int .i64 0, .int .i64 0, .bool false, .bool false, .bool false] [(1, 1, 16), (2, 1, 19)]), wV 21 (kF 76 [20]), wM 13 21, wV 22 (.extract 13 0), wV 23 (.extract 13 1), wM 8 22, wM 9 23]) (sQ [wM 24 7, wV 25 (.bin .add none 24 (.val (.str [58]))), wM 26 8, wV 27 (.bin .add none 25 26), wM 6 27] .ret)))), [6], 28⟩
theorem G70 : Au Tryz.prog 41 = some F70 := by kernel_rfl
theorem areaP (hg : Gr Tryz.prog W0 G) {p u : Bz} {A0 A1 A2 B0 B1 B2 n r3 c3 : Int} (hA : ∀ H, cP W0 40 [.agg [.int .i64 A0, .int .i64 A1, .int .i64 A2], .int .i64 n, .bool false] H (.str p) H) (h8 : ∀ H, cP W0 13 [.int .i64 B0, .int .i64 8] H (.int .i64 r3) H) (h5 : ∀ H, cP W0 13 [.int .i64 B1, .int .i64 5] H (.int .i64 c3) H) (hT : ∀ H, cP W0 76 [.agg [.str [], .int .i64 r3, .int .i64 c3, .bool false, .bool false, .bool false]] H (.tup [.str u, .int .i64 0]) H) (hp : p.length ≤ 100) (hu : u.length ≤ 100) : cP W0 41 [.agg [.int .i64 A0, .int .i64 A1, .int .i64 A2], .agg [.int .i64 B0, .int .i64 B1, .int .i64 B2], .int .i64 n] [] (.str ((p ++ [58]) ++ u)) [] := by
 refine A3.of_fn G70 (by simp) rfl ?_
 refine sA (lV (v := .ptr 0 0) rfl (lV (v := .ptr 1 0) rfl (lV rfl (ln (sA (lV rfl (lV rfl (lC rfl (hA _) (lV rfl (ln (sa ?_)))))))))))
 refine ExA.draw hg ?_
 refine C5 rfl rfl (by first | exact trivial | (simp only [Ae, and_true]; omega)) (qV rfl (Da rfl rfl (h8 _) (C5 rfl rfl (by first | exact trivial | (simp only [Ae, and_true]; omega)) (qV rfl (Da rfl rfl (h5 _) (qV rfl (Da rfl rfl (hT _) (qV rfl (qV rfl (qV rfl (qV rfl (qV rfl (Et (ExA.seq (ExA.ops hg (A6 rfl rfl trivial (A6 rfl rfl (by first | exact trivial | (simp only [Ae, and_true, lCo, lNi]; omega)) (A6 rfl rfl trivial (A6 rfl rfl (by first | exact trivial | (simp only [Ae, and_true, lCo, lNi, lAp]; omega)) (A6 rfl rfl trivial (Bo (?_))))))))))))))))))))))
 exact ExA.ret (A4 trivial rfl rfl 100 rfl rfl)
end Go.Abs
namespace Go.Abs
open Go.Proofs Go.RowKit
set_option maxRecDepth 10000000
variable {W0 : World}
def Pe (f : Nat) : Bool := cond (Nat.beq f 13) true (cond (Nat.beq f 8) true (Nat.beq f 76))
theorem pl00 (hk : Kn W0) {s101 : Bz} {a1 a2 a3 a4 a51 a52 : Int} (h1 : oC W0 76 [Tv a52 a51] (.tup [.str s101, zI])) (h2 : oC W0 13 [jI a3, jI 3] zI) (h3 : oC W0 13 [jI a3, jI 4] zI) (h4 : oC W0 13 [jI a2, jI 5] (jI a51)) (h5 : oC W0 13 [jI a1, jI 8] (jI a52)) : cP W0 40 [Pg a1 a2 a3, jI a4, zB] [] (.str s101) [] :=
 Aa hk Pe (ss0 3 [] 5 [] [(jI a52, none), (jI a51, none), (zI, none), (zI, none), (zI, none), (.tup [.str s101, zI], none)] [1, 1, 2, 1, 2, 1, 2, 2]) (by kernel_rfl) (gdC h1 (gdC h2 (gdC h3 (gdC h3 (gdC h4 (gdC h5 gdN))))))
theorem pl01 (hk : Kn W0) {s101 : Bz} {a1 a2 a3 a4 a51 a52 : Int} (h1 : oC W0 76 [Tv a52 a51] (.tup [.str s101, zI])) (h2 : oC W0 13 [jI a3, jI 3] (jI 1)) (h3 : oC W0 13 [jI a3, jI 4] zI) (h4 : oC W0 13 [jI a2, jI 5] (jI a51)) (h5 : oC W0 13 [jI a1, jI 8] (jI a52)) : cP W0 40 [Pg a1 a2 a3, jI a4, zB] [] (.str s101) [] :=
 Aa hk Pe (ss0 3 [] 5 [] [(jI a52, none), (jI a51, none), (zI, none), (zI, none), (jI 1, none), (.tup [.str s101, zI], none)] [1, 1, 2, 1, 2, 1, 2, 2]) (by kernel_rfl) (gdC h1 (gdC h2 (gdC h3 (gdC h3 (gdC h4 (gdC h5 gdN))))))
theorem pl02 (hk : Kn W0) {s1 s101 : Bz} {a1 a2 a3 a4 a50 a51 a52 : Int} (h1 : oC W0 76 [N159 s1 a52 a51] (.tup [.str s101, zI])) (h2 : oC W0 8 [jI a50] (.str s1)) (h3 : oC W0 13 [jI a3, jI a4] (jI a50)) (h4 : oC W0 13 [jI a3, jI 3] (jI 2)) (h5 : oC W0 13 [jI a3, jI 4] zI) (h6 : oC W0 13 [jI a2, jI 5] (jI a51)) (h7 : oC W0 13 [jI a1, jI 8] (jI a52)) : cP W0 40 [Pg a1 a2 a3, jI a4, zB] [] (.str s101) [] :=
 Aa hk Pe (ss0 3 [] 6 [] [(jI a52, none), (jI a51, none), (zI, none), (zI, none), (jI 2, none), (jI a50, none), (.str s1, none), (.tup [.str s101, zI], none)] [1, 1, 2, 1, 2, 1, 2, 2]) (by kernel_rfl) (gdC h1 (gdC h2 (gdC h3 (gdC h4 (gdC h5 (gdC h5 (gdC h6 (gdC h7 gdN))))))))
theorem pl10 (hk : Kn W0) {s101 : Bz} {a1 a2 a3 a4 a51 a52 : Int} (h1 : oC W0 76 [Xq a52 a51] (.tup [.str s101, zI])) (h2 : oC W0 13 [jI a3, jI 3] zI) (h3 : oC W0 13 [jI a3, jI 4] (jI 1)) (h4 : oC W0 13 [jI a2, jI 5] (jI a51)) (h5 : oC W0 13 [jI a1, jI 8] (jI a52)) : cP W0 40 [Pg a1 a2 a3, jI a4, zB] [] (.str s101) [] :=
 Aa hk Pe (ss0 3 [] 5 [] [(jI a52, none), (jI a51, none), (jI 1, none), (jI 1, none), (zI, none), (.tup [.str s101, zI], none)] [1, 1, 2, 1, 2, 1, 2, 2]) (by kernel_rfl) (gdC h1 (gdC h2 (gdC h3 (gdC h3 (gdC h4 (gdC h5 gdN))))))
theorem pl11 (hk : Kn W0) {s101 : Bz} {a1 a2 a3 a4 a51 a52 : Int} (h1 : oC W0 76 [Xq a52 a51] (.tup [.str s101, zI])) (h2 : oC W0 13 [jI a3, jI 3] (jI 1)) (h3 : oC W0 13 [jI a3, jI 4] (jI 1)) (h4 : oC W0 13 [jI a2, jI 5] (jI a51)) (h5 : oC W0 13 [jI a1, jI 8] (jI a52)) : cP W0 40 [Pg a1 a2 a3, jI a4, zB] [] (.str s101) [] :=
 Aa hk Pe (ss0 3 [] 5 [] [(jI a52, none), (jI a51, none), (jI 1, none), (jI 1, none), (jI 1, none), (.tup [.str s101, zI], none)] [1, 1, 2, 1, 2, 1, 2, 2]) (by kernel_rfl) (gdC h1 (gdC h2 (gdC h3 (gdC h3 (gdC h4 (gdC h5 gdN))))))
theorem pl12 (hk : Kn W0) {s1 s101 : Bz} {a1 a2 a3 a4 a50 a51 a52 : Int} (h1 : oC W0 76 [.agg [.str s1, jI a52, jI a51, .bool true, zB, zB]] (.tup [.str s101, zI])) (h2 : oC W0 8 [jI a50] (.str s1)) (h3 : oC W0 13 [jI a3, jI a4] (jI a50)) (h4 : oC W0 13 [jI a3, jI 3] (jI 2)) (h5 : oC W0 13 [jI a3, jI 4] (jI 1)) (h6 : oC W0 13 [jI a2, jI 5] (jI a51)) (h7 : oC W0 13 [jI a1, jI 8] (jI a52)) : cP W0 40 [Pg a1 a2 a3, jI a4, zB] [] (.str s101) [] :=
 Aa hk Pe (ss0 3 [] 6 [] [(jI a52, none), (jI a51, none), (jI 1, none), (jI 1, none), (jI 2, none), (jI a50, none), (.str s1, none), (.tup [.str s101, zI], none)] [1, 1, 2, 1, 2, 1, 2, 2]) (by kernel_rfl) (gdC h1 (gdC h2 (gdC h3 (gdC h4 (gdC h5 (gdC h5 (gdC h6 (gdC h7 gdN))))))))
theorem pl20 (hk : Kn W0) {s101 : Bz} {a1 a2 a3 a4 a51 a52 : Int} (h1 : oC W0 76 [Xh a52 a51] (.tup [.str s101, zI])) (h2 : oC W0 13 [jI a3, jI 3] zI) (h3 : oC W0 13 [jI a3, jI 4] (jI 2)) (h4 : oC W0 13 [jI a2, jI 5] (jI a51)) (h5 : oC W0 13 [jI a1, jI 8] (jI a52)) : cP W0 40 [Pg a1 a2 a3, jI a4, zB] [] (.str s101) [] :=
 Aa hk Pe (ss0 3 [] 5 [] [(jI a52, none), (jI a51, none), (jI 2, none), (jI 2, none), (zI, none), (.tup [.str s101, zI], none)] [1, 1, 2, 1, 2, 1, 2, 2]) (by kernel_rfl) (gdC h1 (gdC h2 (gdC h3 (gdC h3 (gdC h4 (gdC h5 gdN))))))
theorem pl21 (hk : Kn W0) {s101 : Bz} {a1 a2 a3 a4 a51 a52 : Int} (h1 : oC W0 76 [Xh a52 a51] (.tup [.str s101, zI])) (h2 : oC W0 13 [jI a3, jI 3] (jI 1)) (h3 : oC W0 13 [jI a3, jI 4] (jI 2)) (h4 : oC W0 13 [jI a2, jI 5] (jI a51)) (h5 : oC W0 13 [jI a1, jI 8] (jI a52)) : cP W0 40 [Pg a1 a2 a3, jI a4, zB] [] (.str s101) [] :=
 Aa hk Pe (ss0 3 [] 5 [] [(jI a52, none), (jI a51, none), (jI 2, none), (jI 2, none), (jI 1, none), (.tup [.str s101, zI], none)] [1, 1, 2, 1, 2, 1, 2, 2]) (by kernel_rfl) (gdC h1 (gdC h2 (gdC h3 (gdC h3 (gdC h4 (gdC h5 gdN))))))
theorem pl22 (hk : Kn W0) {s1 s101 : Bz} {a1 a2 a3 a4 a50 a51 a52 : Int} (h1 : oC W0 76 [.agg [.str s1, jI a52, jI a51, zB, .bool true, zB]] (.tup [.str s101, zI])) (h2 : oC W0 8 [jI a50] (.str s1)) (h3 : oC W0 13 [jI a3, jI a4] (jI a50)) (h4 : oC W0 13 [jI a3, jI 3] (jI 2)) (h5 : oC W0 13 [jI a3, jI 4] (jI 2)) (h6 : oC W0 13 [jI a2, jI 5] (jI a51)) (h7 : oC W0 13 [jI a1, jI 8] (jI a52)) : cP W0 40 [Pg a1 a2 a3, jI a4, zB] [] (.str s101) [] :=
 Aa hk Pe (ss0 3 [] 6 [] [(jI a52, none), (jI a51, none), (jI 2, none), (jI 2, none), (jI 2, none), (jI a50, none), (.str s1, none), (.tup [.str s101, zI], none)] [1, 1, 2, 1, 2, 1, 2, 2]) (by kernel_rfl) (gdC h1 (gdC h2 (gdC h3 (gdC h4 (gdC h5 (gdC h5 (gdC h6 (gdC h7 gdN))))))))
theorem pl30 (hk : Kn W0) {s101 : Bz} {a1 a2 a3 a4 a51 a52 : Int} (h1 : oC W0 76 [Tv a52 a51] (.tup [.str s101, zI])) (h2 : oC W0 13 [jI a3, jI 3] zI) (h3 : oC W0 13 [jI a3, jI 4] (jI 3)) (h4 : oC W0 13 [jI a2, jI 5] (jI a51)) (h5 : oC W0 13 [jI a1, jI 8] (jI a52)) : cP W0 40 [Pg a1 a2 a3, jI a4, zB] [] (.str s101) [] :=
 Aa hk Pe (ss0 3 [] 5 [] [(jI a52, none), (jI a51, none), (jI 3, none), (jI 3, none), (zI, none), (.tup [.str s101, zI], none)] [1, 1, 2, 1, 2, 1, 2, 2]) (by kernel_rfl) (gdC h1 (gdC h2 (gdC h3 (gdC h3 (gdC h4 (gdC h5 gdN))))))
theorem pl31 (hk : Kn W0) {s101 : Bz} {a1 a2 a3 a4 a51 a52 : Int} (h1 : oC W0 76 [Tv a52 a51] (.tup [.str s101, zI])) (h2 : oC W0 13 [jI a3, jI 3] (jI 1)) (h3 : oC W0 13 [jI a3, jI 4] (jI 3)) (h4 : oC W0 13 [jI a2, jI 5] (jI a51)) (h5 : oC W0 13 [jI a1, jI 8] (jI a52)) : cP W0 40 [Pg a1 a2 a3, jI a4, zB] [] (.str s101) [] :=
 Aa hk Pe (ss0 3 [] 5 [] [(jI a52, none), (jI a51, none), (jI 3, none), (jI 3, none), (jI 1, none), (.tup [.str s101, zI], none)] [1, 1, 2, 1, 2, 1, 2, 2]) (by kernel_rfl) (gdC h1 (gdC h2 (gdC h3 (gdC h3 (gdC h4 (gdC h5 gdN))))))
theorem pl32 (hk : Kn W0) {s1 s101 : Bz} {a1 a2 a3 a4 a50 a51 a52 : Int} (h1 : oC W0 76 [N159 s1 a52 a51] (.tup [.str s101, zI])) (h2 : oC W0 8 [jI a50] (.str s1)) (h3 : oC W0 13 [jI a3, jI a4] (jI a50)) (h4 : oC W0 13 [jI a3, jI 3] (jI 2)) (h5 : oC W0 13 [jI a3, jI 4] (jI 3)) (h6 : oC W0 13 [jI a2, jI 5] (jI a51)) (h7 : oC W0 13 [jI a1, jI 8] (jI a52)) : cP W0 40 [Pg a1 a2 a3, jI a4, zB] [] (.str s101) [] :=
 Aa hk Pe (ss0 3 [] 6 [] [(jI a52, none), (jI a51, none), (jI 3, none), (jI 3, none), (jI 2, none), (jI a50, none), (.str s1, none), (.tup [.str s101, zI], none)] [1, 1, 2, 1, 2, 1, 2, 2]) (by kernel_rfl) (gdC h1 (gdC h2 (gdC h3 (gdC h4 (gdC h5 (gdC h5 (gdC h6 (gdC h7 gdN))))))))
def opqK (f : Nat) : Bool := Nat.beq f 13
theorem ti0 (hk : Kn W0) {a1 : Int} (h1 : oC W0 13 [jI a1, jI 3] zI) : cP W0 8 [jI a1] [] (.str [83]) [] :=
 Aa hk opqK (ss0 0 [] 1 [] [(zI, none)] []) (by kernel_rfl) (gdC h1 gdN)
theorem ti1 (hk : Kn W0) {a1 : Int} (h1 : oC W0 13 [jI a1, jI 3] (jI 1)) : cP W0 8 [jI a1] [] (.str [84, 119, 111, 32, 120]) [] :=
 Aa hk opqK (ss0 0 [] 1 [] [(jI 1, none)] []) (by kernel_rfl) (gdC h1 gdN)
theorem ti2 (hk : Kn W0) {a1 : Int} (h1 : oC W0 13 [jI a1, jI 3] (jI 2)) : cP W0 8 [jI a1] [] (.str [116, 104, 105, 114, 100]) [] :=
 Aa hk opqK (ss0 0 [] 1 [] [(jI 2, none)] []) (by kernel_rfl) (gdC h1 gdN)
end Go.Abs
namespace Go.Abs
open Go.Proofs Go.RowKit
set_option maxRecDepth 100000
variable {W0 : World}
def ttl : Nat → Bz
 | 0 => [83]
 | 1 => [84, 119, 111, 32, 120]
 | _ => [116, 104, 105, 114, 100]
theorem F6 (m : Nat) : Ow (ttl m) := by
 match m with
 | 0 => exact .inl rfl
 | 1 => exact .inr (.inl rfl)
 | _ + 2 => exact .inr (.inr rfl)
theorem A1s {m n : Nat} (h : m < n) : Am ((m : Nat) : Int) n = m := by
 unfold Am
 rw [if_neg (by omega), Int.toNat_natCast]; exact Nat.mod_eq_of_lt h
theorem Uo (hk : Kn W0) {a : Int} (ha : i64 a) : cP W0 8 [.int .i64 a] [] (.str (ttl (Am a 3))) [] := by
 have hg := grK hk
 have h3 := Bf (c := a) (n := 3) (by decide)
 have c := Hv hg (c := a) (n := 3) ha.1 ha.2 (by decide)
 have : Am a 3 = 0 ∨ Am a 3 = 1 ∨ Am a 3 = 2 := by omega
 rcases this with h | h | h
 · rw [h] at c ⊢; exact ti0 hk c
 · rw [h] at c ⊢; exact ti1 hk c
 · rw [h] at c ⊢; exact ti2 hk c
structure Pl (W0 : World) (A0 A1 A2 n : Int) (p sh : Bz) (rw cl : Int) (fr fc : Bool) : Prop where
 c : cP W0 40 [.agg [.int .i64 A0, .int .i64 A1, .int .i64 A2], .int .i64 n, .bool false] [] (.str p) []
 r : Af W0 p sh rw cl fr fc
 s : Sh sh
theorem A45 (hk : Kn W0) {A0 A1 A2 : Int} {n : Nat} (h0 : i64 A0) (h1 : i64 A1) (h2 : i64 A2) (hn : 1 ≤ n ∧ n ≤ 3) : ∃ p sh rw cl fr fc, Pl W0 A0 A1 A2 (n : Nat) p sh rw cl fr fc := by
 have hg := grK hk
 have c8 := Hv hg (c := A0) (n := 8) h0.1 h0.2 (by decide)
 have c5 := Hv hg (c := A1) (n := 5) h1.1 h1.2 (by decide)
 have c4 := Hv hg (c := A2) (n := 4) h2.1 h2.2 (by decide)
 have c3 := Hv hg (c := A2) (n := 3) h2.1 h2.2 (by decide)
 have cn := Hv hg (c := A2) (n := n) h2.1 h2.2 (by omega)
 have l8 := Bf (c := A0) (n := 8) (by decide)
 have l5 := Bf (c := A1) (n := 5) (by decide)
 have l4 := Bf (c := A2) (n := 4) (by decide)
 have l3 := Bf (c := A2) (n := 3) (by decide)
 have ln := Bf (c := A2) (n := n) (by omega)
 have ht := Uo hk (a := ((Am A2 n : Nat) : Int)) ⟨by omega, by omega⟩
 rw [A1s (by omega)] at ht
 generalize Am A2 n = ms at ln cn ht
 have e4 : Am A2 4 = 0 ∨ Am A2 4 = 1 ∨ Am A2 4 = 2 ∨ Am A2 4 = 3 := by omega
 have e3 : Am A2 3 = 0 ∨ Am A2 3 = 1 ∨ Am A2 3 = 2 := by omega
 have em : ms = 0 ∨ ms = 1 ∨ ms = 2 := by omega
 rcases e4 with e4 | e4 | e4 | e4 <;> rw [e4] at c4 <;> rcases e3 with e3 | e3 | e3 <;> rw [e3] at c3
 · exact ⟨_, _, _, _, _, _, pl00 hk (A4n hk l5 l8) c3 c4 c5 c8, A4o hk l5 l8, .inl rfl⟩
 · exact ⟨_, _, _, _, _, _, pl01 hk (A4n hk l5 l8) c3 c4 c5 c8, A4o hk l5 l8, .inl rfl⟩
 · rcases em with rfl | rfl | rfl
   · exact ⟨_, _, _, _, _, _, pl02 hk (tx10 hk l5 l8) ht cn c3 c4 c5 c8, rf10 hk l5 l8, .inr (F6 0)⟩
   · exact ⟨_, _, _, _, _, _, pl02 hk (tx20 hk l5 l8) ht cn c3 c4 c5 c8, rf20 hk l5 l8, .inr (F6 1)⟩
   · exact ⟨_, _, _, _, _, _, pl02 hk (tx30 hk l5 l8) ht cn c3 c4 c5 c8, rf30 hk l5 l8, .inr (F6 2)⟩
 · exact ⟨_, _, _, _, _, _, pl10 hk (tx01 hk l5 l8) c3 c4 c5 c8, rf01 hk l5 l8, .inl rfl⟩
 · exact ⟨_, _, _, _, _, _, pl11 hk (tx01 hk l5 l8) c3 c4 c5 c8, rf01 hk l5 l8, .inl rfl⟩
 · rcases em with rfl | rfl | rfl
   · exact ⟨_, _, _, _, _, _, pl12 hk (tx11 hk l5 l8) ht cn c3 c4 c5 c8, rf11 hk l5 l8, .inr (F6 0)⟩
   · exact ⟨_, _, _, _, _, _, pl12 hk (tx21 hk l5 l8) ht cn c3 c4 c5 c8, rf21 hk l5 l8, .inr (F6 1)⟩
   · exact ⟨_, _, _, _, _, _, pl12 hk (tx31 hk l5 l8) ht cn c3 c4 c5 c8, rf31 hk l5 l8, .inr (F6 2)⟩
 · exact ⟨_, _, _, _, _, _, pl20 hk (tx02 hk l5 l8) c3 c4 c5 c8, rf02 hk l5 l8, .inl rfl⟩
 · exact ⟨_, _, _, _, _, _, pl21 hk (tx02 hk l5 l8) c3 c4 c5 c8, rf02 hk l5 l8, .inl rfl⟩
 · rcases em with rfl | rfl | rfl
   · exact ⟨_, _, _, _, _, _, pl22 hk (tx12 hk l5 l8) ht cn c3 c4 c5 c8, rf12 hk l5 l8, .inr (F6 0)⟩
   · exact ⟨_, _, _, _, _, _, pl22 hk (tx22 hk l5 l8) ht cn c3 c4 c5 c8, rf22 hk l5 l8, .inr (F6 1)⟩
   · exact ⟨_, _, _, _, _, _, pl22 hk (tx32 hk l5 l8) ht cn c3 c4 c5 c8, rf32 hk l5 l8, .inr (F6 2)⟩
 · exact ⟨_, _, _, _, _, _, pl30 hk (A4n hk l5 l8) c3 c4 c5 c8, A4o hk l5 l8, .inl rfl⟩
 · exact ⟨_, _, _, _, _, _, pl31 hk (A4n hk l5 l8) c3 c4 c5 c8, A4o hk l5 l8, .inl rfl⟩
 · rcases em with rfl | rfl | rfl
   · exact ⟨_, _, _, _, _, _, pl32 hk (tx10 hk l5 l8) ht cn c3 c4 c5 c8, rf10 hk l5 l8, .inr (F6 0)⟩
   · exact ⟨_, _, _, _, _, _, pl32 hk (tx20 hk l5 l8) ht cn c3 c4 c5 c8, rf20 hk l5 l8, .inr (F6 1)⟩
   · exact ⟨_, _, _, _, _, _, pl32 hk (tx30 hk l5 l8) ht cn c3 c4 c5 c8, rf30 hk l5 l8, .inr (F6 2)⟩
def Left (W0 : World) (t : Bz) : Prop := ∀ (own nm : Bz) (K aa nn : Int), Ow own → 1 ≤ K ∧ K ≤ 6 → cP W0 16 [sft K aa nn nm] [] (.bool true) [] → cP W0 10 [.str t, .str own, sft K aa nn nm] [] (.tup [.str t, .int .i64 0]) []
theorem A4f (hk : Kn W0) {vs : Bz} {sn rw cl kd A0 A1 A2 B0 B1 B2 vk vm ve : Int} {vb : Bool} {n : Nat} (hkd : i64 kd) (hA0 : i64 A0) (hA1 : i64 A1) (hA2 : i64 A2) (hB0 : i64 B0) (hB1 : i64 B1) (hB2 : i64 B2) (hn : 1 ≤ n ∧ n ≤ 3) : ∃ t, cP W0 15 [.agg [.int .i64 sn, .int .i64 rw, .int .i64 cl, .int .i64 kd, .int .i64 A0, .int .i64 A1, .int .i64 A2, .int .i64 B0, .int .i64 B1, .int .i64 B2, .int .i64 vk, .int .i64 vm, .int .i64 ve, .str vs, .bool vb], .int .i64 (n : Nat), .bool true, .bool true] [] (.str t) [] ∧ Left W0 t ∧ t.length ≤ 1000 := by
 have hg := grK hk
 obtain ⟨p, sp, rp, cp, frp, fcp, hp⟩ := A45 hk hA0 hA1 hA2 hn
 obtain ⟨q, sq, rq, cq, frq, fcq, hq⟩ := A45 hk hB0 hB1 hB2 hn
 have l8 := Bf (c := B0) (n := 8) (by decide)
 have l5 := Bf (c := B1) (n := 5) (by decide)
 have b8 := fun H => V0 hg (c := B0) (n := 8) hB0.1 hB0.2 (by decide) H
 have b5 := fun H => V0 hg (c := B1) (n := 5) hB1.1 hB1.2 (by decide) H
 have hu := A4o hk l5 l8
 have tu := A4n hk l5 l8
 have hpl := hp.r.short
 have hql := hq.r.short
 have hul := hu.short
 have hA := fun H => A3.pure rfl rfl hp.c H
 have hB := fun H => A3.pure rfl rfl hq.c H
 have hT := fun H => A3.pure rfl rfl tu H
 have har := areaP hg (B2 := B2) (n := (n : Nat)) hA b8 b5 hT (by omega) (by omega)
 have hC := fun H => A3.pure rfl rfl har H
 generalize hug : [cB (Am B1 5), dB (Am B0 8)] = u at *
 have k16 := Bf (c := kd) (n := 16) (by decide)
 have hP := fun H => V0 hg (c := kd) (n := 16) hkd.1 hkd.2 (by decide) H
 have ap := hp.r.asc
 have aq := hq.r.asc
 have au := hu.asc
 have hal : ((p ++ [58]) ++ u).length ≤ 100 := by simp only [lAp, lCo, lNi]; omega
 have : Am kd 16 = 0 ∨ Am kd 16 = 1 ∨ Am kd 16 = 2 ∨ Am kd 16 = 3 ∨ Am kd 16 = 4 ∨ Am kd 16 = 5 ∨ Am kd 16 = 6 ∨ Am kd 16 = 7 ∨ Am kd 16 = 8 ∨ Am kd 16 = 9 ∨ Am kd 16 = 10 ∨ Am kd 16 = 11 ∨ Am kd 16 = 12 ∨ Am kd 16 = 13 ∨ Am kd 16 = 14 ∨ Am kd 16 = 15 := by omega
 rcases this with h | h | h | h | h | h | h | h | h | h | h | h | h | h | h | h
 · rw [h] at hP
   have hf := fm0 hg (sn := sn) (rw := rw) (cl := cl) (vk := vk) (vm := vm) (ve := ve) (vs := vs) (vb := vb) hA hB hC hP (by omega) (by omega) hal
   have he : 61 :: bd0 p = _ := rfl
   refine ⟨61 :: bd0 p, ?_, ?_, ?_⟩
   · simpa [bd0] using hf
   · intro own nm K aa nn ho hK hr
     exact fin0 hk hp.r (by simp only [bd0, asc, List.all_append, List.all_cons, List.all_nil, bAt] at *; simp [*]) (by simp only [bd0, lAp, lCo, lNi]; omega) ho hp.s hK hr
   · simp only [bd0, lAp, lCo, lNi]; omega
 · rw [h] at hP
   have hf := fm1 hg (sn := sn) (rw := rw) (cl := cl) (vk := vk) (vm := vm) (ve := ve) (vs := vs) (vb := vb) hA hB hC hP (by omega) (by omega) hal
   have he : 61 :: bd1 p q = _ := rfl
   refine ⟨61 :: bd1 p q, ?_, ?_, ?_⟩
   · simpa [bd1] using hf
   · intro own nm K aa nn ho hK hr
     exact fin1 hk hp.r hq.r (by simp only [bd1, asc, List.all_append, List.all_cons, List.all_nil, bAt] at *; simp [*]) (by simp only [bd1, lAp, lCo, lNi]; omega) ho hp.s hq.s hK hr
   · simp only [bd1, lAp, lCo, lNi]; omega
 · rw [h] at hP
   have hf := fm2 hg (sn := sn) (rw := rw) (cl := cl) (vk := vk) (vm := vm) (ve := ve) (vs := vs) (vb := vb) hA hB hC hP (by omega) (by omega) hal
   have he : 61 :: bd2 p u = _ := rfl
   refine ⟨61 :: bd2 p u, ?_, ?_, ?_⟩
   · simpa [bd2] using hf
   · intro own nm K aa nn ho hK hr
     exact fin2 hk hp.r hu (by simp only [bd2, asc, List.all_append, List.all_cons, List.all_nil, bAt] at *; simp [*]) (by simp only [bd2, lAp, lCo, lNi]; omega) ho hp.s  hK hr
   · simp only [bd2, lAp, lCo, lNi]; omega
 · rw [h] at hP
   have hf := fm3 hg (sn := sn) (rw := rw) (cl := cl) (vk := vk) (vm := vm) (ve := ve) (vs := vs) (vb := vb) hA hB hC hP (by omega) (by omega) hal
   have he : 61 :: bd3 p q = _ := rfl
   refine ⟨61 :: bd3 p q, ?_, ?_, ?_⟩
   · simpa [bd3] using hf
   · intro own nm K aa nn ho hK hr
     exact fin3 hk hp.r hq.r (by simp only [bd3, asc, List.all_append, List.all_cons, List.all_nil, bAt] at *; simp [*]) (by simp only [bd3, lAp, lCo, lNi]; omega) ho hp.s hq.s hK hr
   · simp only [bd3, lAp, lCo, lNi]; omega
 · rw [h] at hP
   have hf := fm4 hg (sn := sn) (rw := rw) (cl := cl) (vk := vk) (vm := vm) (ve := ve) (vs := vs) (vb := vb) hA hB hC hP (by omega) (by omega) hal
   have he : 61 :: bd4 p = _ := rfl
   refine ⟨61 :: bd4 p, ?_, ?_, ?_⟩
   · simpa [bd4] using hf
   · intro own nm K aa nn ho hK hr
     exact fin4 hk hp.r (by simp only [bd4, asc, List.all_append, List.all_cons, List.all_nil, bAt] at *; simp [*]) (by simp only [bd4, lAp, lCo, lNi]; omega) ho hp.s hK hr
   · simp only [bd4, lAp, lCo, lNi]; omega
 · rw [h] at hP
   have hf := fm5 hg (sn := sn) (rw := rw) (cl := cl) (vk := vk) (vm := vm) (ve := ve) (vs := vs) (vb := vb) hA hB hC hP (by omega) (by omega) hal
   have he : 61 :: bd5 p u = _ := rfl
   refine ⟨61 :: bd5 p u, ?_, ?_, ?_⟩
   · simpa [bd5] using hf
   · intro own nm K aa nn ho hK hr
     exact fin5 hk hp.r hu (by simp only [bd5, asc, List.all_append, List.all_cons, List.all_nil, bAt] at *; simp [*]) (by simp only [bd5, lAp, lCo, lNi]; omega) ho hp.s  hK hr
   · simp only [bd5, lAp, lCo, lNi]; omega
 · rw [h] at hP
   have hf := fm6 hg (sn := sn) (rw := rw) (cl := cl) (vk := vk) (vm := vm) (ve := ve) (vs := vs) (vb := vb) hA hB hC hP (by omega) (by omega) hal
   have he : 61 :: bd6 p q = _ := rfl
   refine ⟨61 :: bd6 p q, ?_, ?_, ?_⟩
   · simpa [bd6] using hf
   · intro own nm K aa nn ho hK hr
     exact fin6 hk hp.r hq.r (by simp only [bd6, asc, List.all_append, List.all_cons, List.all_nil, bAt] at *; simp [*]) (by simp only [bd6, lAp, lCo, lNi]; omega) ho hp.s hq.s hK hr
   · simp only [bd6, lAp, lCo, lNi]; omega
 · rw [h] at hP
   have hf := fm7 hg (sn := sn) (rw := rw) (cl := cl) (vk := vk) (vm := vm) (ve := ve) (vs := vs) (vb := vb) hA hB hC hP (by omega) (by omega) hal
   have he : 61 :: bd7 p = _ := rfl
   refine ⟨61 :: bd7 p, ?_, ?_, ?_⟩
   · simpa [bd7] using hf
   · intro own nm K aa nn ho hK hr
     exact fin7 hk hp.r (by simp only [bd7, asc, List.all_append, List.all_cons, List.all_nil, bAt] at *; simp [*]) (by simp only [bd7, lAp, lCo, lNi]; omega) ho hp.s hK hr
   · simp only [bd7, lAp, lCo, lNi]; omega
 · rw [h] at hP
   have hf := fm8 hg (sn := sn) (rw := rw) (cl := cl) (vk := vk) (vm := vm) (ve := ve) (vs := vs) (vb := vb) hA hB hC hP (by omega) (by omega) hal
   have he : 61 :: bd8 p = _ := rfl
   refine ⟨61 :: bd8 p, ?_, ?_, ?_⟩
   · simpa [bd8] using hf
   · intro own nm K aa nn ho hK hr
     exact fin8 hk hp.r (by simp only [bd8, asc, List.all_append, List.all_cons, List.all_nil, bAt] at *; simp [*]) (by simp only [bd8, lAp, lCo, lNi]; omega) ho hp.s hK hr
   · simp only [bd8, lAp, lCo, lNi]; omega
 · rw [h] at hP
   have hf := fm9 hg (sn := sn) (rw := rw) (cl := cl) (vk := vk) (vm := vm) (ve := ve) (vs := vs) (vb := vb) hA hB hC hP (by omega) (by omega) hal
   have he : 61 :: bd9 p = _ := rfl
   refine ⟨61 :: bd9 p, ?_, ?_, ?_⟩
   · simpa [bd9] using hf
   · intro own nm K aa nn ho hK hr
     exact fin9 hk hp.r (by simp only [bd9, asc, List.all_append, List.all_cons, List.all_nil, bAt] at *; simp [*]) (by simp only [bd9, lAp, lCo, lNi]; omega) ho hp.s hK hr
   · simp only [bd9, lAp, lCo, lNi]; omega
 · rw [h] at hP
   have hf := fm10 hg (sn := sn) (rw := rw) (cl := cl) (vk := vk) (vm := vm) (ve := ve) (vs := vs) (vb := vb) hA hB hC hP (by omega) (by omega) hal
   have he : 61 :: Ij p = _ := rfl
   refine ⟨61 :: Ij p, ?_, ?_, ?_⟩
   · simpa [Ij] using hf
   · intro own nm K aa nn ho hK hr
     exact fin10 hk hp.r (by simp only [Ij, asc, List.all_append, List.all_cons, List.all_nil, bAt] at *; simp [*]) (by simp only [Ij, lAp, lCo, lNi]; omega) ho hp.s hK hr
   · simp only [Ij, lAp, lCo, lNi]; omega
 · rw [h] at hP
   have hf := fm11 hg (sn := sn) (rw := rw) (cl := cl) (vk := vk) (vm := vm) (ve := ve) (vs := vs) (vb := vb) hA hB hC hP (by omega) (by omega) hal
   have he : 61 :: Ik p = _ := rfl
   refine ⟨61 :: Ik p, ?_, ?_, ?_⟩
   · simpa [Ik] using hf
   · intro own nm K aa nn ho hK hr
     exact fin11 hk hp.r (by simp only [Ik, asc, List.all_append, List.all_cons, List.all_nil, bAt] at *; simp [*]) (by simp only [Ik, lAp, lCo, lNi]; omega) ho hp.s hK hr
   · simp only [Ik, lAp, lCo, lNi]; omega
 · rw [h] at hP
   have hf := fm12 hg (sn := sn) (rw := rw) (cl := cl) (vk := vk) (vm := vm) (ve := ve) (vs := vs) (vb := vb) hA hB hC hP (by omega) (by omega) hal
   have he : 61 :: Ih p q u = _ := rfl
   refine ⟨61 :: Ih p q u, ?_, ?_, ?_⟩
   · simpa [Ih] using hf
   · intro own nm K aa nn ho hK hr
     exact fin12 hk hp.r hq.r hu (by simp only [Ih, asc, List.all_append, List.all_cons, List.all_nil, bAt] at *; simp [*]) (by simp only [Ih, lAp, lCo, lNi]; omega) ho hp.s hq.s  hK hr
   · simp only [Ih, lAp, lCo, lNi]; omega
 · rw [h] at hP
   have hf := fm13 hg (sn := sn) (rw := rw) (cl := cl) (vk := vk) (vm := vm) (ve := ve) (vs := vs) (vb := vb) hA hB hC hP (by omega) (by omega) hal
   have he : 61 :: Ib p = _ := rfl
   refine ⟨61 :: Ib p, ?_, ?_, ?_⟩
   · simpa [Ib] using hf
   · intro own nm K aa nn ho hK hr
     exact fin13 hk hp.r (by simp only [Ib, asc, List.all_append, List.all_cons, List.all_nil, bAt] at *; simp [*]) (by simp only [Ib, lAp, lCo, lNi]; omega) ho hp.s hK hr
   · simp only [Ib, lAp, lCo, lNi]; omega
 · rw [h] at hP
   have hf := fm14 hg (sn := sn) (rw := rw) (cl := cl) (vk := vk) (vm := vm) (ve := ve) (vs := vs) (vb := vb) hA hB hC hP (by omega) (by omega) hal
   have he : 61 :: Ia p = _ := rfl
   refine ⟨61 :: Ia p, ?_, ?_, ?_⟩
   · simpa [Ia] using hf
   · intro own nm K aa nn ho hK hr
     exact fin14 hk hp.r (by simp only [Ia, asc, List.all_append, List.all_cons, List.all_nil, bAt] at *; simp [*]) (by simp only [Ia, lAp, lCo, lNi]; omega) ho hp.s hK hr
   · simp only [Ia, lAp, lCo, lNi]; omega
 · rw [h] at hP
   have hf := fm15 hg (sn := sn) (rw := rw) (cl := cl) (vk := vk) (vm := vm) (ve := ve) (vs := vs) (vb := vb) hA hB hC hP (by omega) (by omega) hal
   have he : 61 :: Ii p = _ := rfl
   refine ⟨61 :: Ii p, ?_, ?_, ?_⟩
   · simpa [Ii] using hf
   · intro own nm K aa nn ho hK hr
     exact fin15 hk hp.r (by simp only [Ii, asc, List.all_append, List.all_cons, List.all_nil, bAt] at *; simp [*]) (by simp only [Ii, lAp, lCo, lNi]; omega) ho hp.s hK hr
   · simp only [Ii, lAp, lCo, lNi]; omega
end Go.Abs
namespace Go.Abs
open Go.Proofs Go.RowKit
set_option maxRecDepth 100000
variable {W0 : World} {G : List (Nat × AVal)}
def F22 : AFn := ⟨(sQ [wV 4 (.box 28 0), wV 8 (.move (.val (.str [])))] (.seq (sQ [wV 9 (.fieldAddr 3 4), wV 10 (.load 1 false 9), wV 11 (.bin .quo none 10 (vI 16)), wV 12 (kF 13 [11, (vI 2)]), wV 13 (.bin .eql none 12 (vI 0))] (.cond 13 (sQ [wV 14 (.load 15 true 4), wM 15 1, wM 16 2, wM 17 3, wV 18 (kF 15 [14, 15, 16, 17]), wM 8 18] .ret) .skip)) (sQ [wV 19 (.fieldAddr 10 4), wV 20 (.load 5 true 19), wV 21 (kF 11 [20]), wM 8 21] .ret))), [8], 22⟩
theorem G22 : Au Tryz.prog 7 = some F22 := by kernel_rfl
theorem inF (hg : Gr Tryz.prog W0 G) {t vs : Bz} {sn rw cl kd A0 A1 A2 B0 B1 B2 vk vm ve n : Int} {vb : Bool} (hq : IntKind.i64.wrap (kd.tdiv 16) = kd.tdiv 16) (h2 : ∀ H, cP W0 13 [.int .i64 (kd.tdiv 16), .int .i64 2] H (.int .i64 0) H) (hF : ∀ H, cP W0 15 [.agg [.int .i64 sn, .int .i64 rw, .int .i64 cl, .int .i64 kd, .int .i64 A0, .int .i64 A1, .int .i64 A2, .int .i64 B0, .int .i64 B1, .int .i64 B2, .int .i64 vk, .int .i64 vm, .int .i64 ve, .str vs, .bool vb], .int .i64 n, .bool true, .bool true] H (.str t) H) : cP W0 7 [.agg [.int .i64 sn, .int .i64 rw, .int .i64 cl, .int .i64 kd, .int .i64 A0, .int .i64 A1, .int .i64 A2, .int .i64 B0, .int .i64 B1, .int .i64 B2, .int .i64 vk, .int .i64 vm, .int .i64 ve, .str vs, .bool vb], .int .i64 n, .bool true, .bool true] [] (.str t) [] := by
 refine A3.of_fn G22 (by simp) rfl ?_
 refine sA (lV (v := .ptr 0 0) rfl (lV rfl (ln (sa (sA (lV rfl (lV rfl (lKv (v := .int .i64 (kd.tdiv 16)) rfl rfl (by first | exact trivial | (simp only [Ae, and_true]; omega)) (congrArg (AVal.int .i64) hq) (lC rfl (h2 _) (lV rfl (ln (aT rfl (sA (lV rfl (lV rfl (lV rfl (lV rfl (lC rfl (hF _) (lV rfl (ln ?_))))))))))))))))))))
 exact ExA.ret (A4 trivial rfl rfl 100 rfl rfl)
end Go.Abs
