/- A part of the proof that tabula/tabulalaw25.PackTexts returns true for every input, each argument reading as it did (its card: the last text). No conditions of its own. -/
import Derived.Test.YtpjknnnomkkloaaGreatDoorPF
import Derived.Test.YtpjknnnomkkloaaGreatDoorShelf
import Derived.WalkKit
import Derived.Shelf.Strings.Builder1
import Derived.WalkSpells
namespace Go.Abs
open Go.RowKit Go.Proofs
set_option maxRecDepth 10000000
variable {W0 : World} {F : Nat → Prop} {bs : List Nat} {H : Hz} {w : World} {G : List (Nat × AVal)}
structure Lw (W0 : World) : Prop where
 maxlen : ∃ m, W0.cell? ⟨4, 0, none⟩ = some (.int .i64 m)
 tabs : Lib.Utf8Tabs 0 1 W0
theorem Vo {v : Value} {s : Bz} (h : Rep F bs H w (.str s) v) : v = .string ⟨s.toArray⟩ := by simpa only [Rep] using h
theorem A1m (s : Bz) : Rep F bs H w (.str s) (.string ⟨s.toArray⟩) := by simp only [Rep]
theorem repBool (b : Bool) : Rep F bs H w (.bool b) (.bool b) := by simp only [Rep]
theorem args1 {x : AVal} {l : List Value} (h : A5 F bs H w [x] l) : ∃ a, l = [a] ∧ Rep F bs H w x a := by
 simp only [A5] at h; obtain ⟨a, r, rfl, h1, rfl⟩ := h; exact ⟨a, rfl, h1⟩
theorem Zn {x y : AVal} {l : List Value} (h : A5 F bs H w [x, y] l) : ∃ a b, l = [a, b] ∧ Rep F bs H w x a ∧ Rep F bs H w y b := by
 simp only [A5] at h; obtain ⟨a, r, rfl, h1, b, r', rfl, h2, rfl⟩ := h; exact ⟨a, b, rfl, h1, h2⟩
theorem Lj (s : Bz) : (ByteArray.mk s.toArray).size = s.length := by simp [ByteArray.size]
theorem Lr (s : Bz) : (ByteArray.mk s.toArray).data.toList = s := by simp
theorem lCut (hw : Lw W0) {s t : Bz} (hs : s.length < 4294967281) : cP W0 141 [.str s, .str t] H (.tup [.str (Lib.cut s t).1, .str (Lib.cut s t).2.1, .bool (Lib.cut s t).2.2]) H := by
 refine A1.of_below (by kernel_rfl) fun F bs w cargs hh hra => ?_
 obtain ⟨a, b, rfl, h1, h2⟩ := Zn hra
 obtain rfl := Vo h1
 obtain rfl := Vo h2
 obtain ⟨m, hm⟩ := hw.maxlen
 refine (Tryz.strings_Cut ⟨s.toArray⟩ ⟨t.toArray⟩ m w (by rw [Lj]; exact hs) (cell_of hh hm)).mono ?_
 rintro e w' ⟨rfl, n, rfl⟩
 refine ⟨_, rfl, ?_, Pm w n⟩
 rw [Lr, Lr]
 simp only [Rep, A5]
 exact ⟨_, rfl, _, _, rfl, rfl, _, _, rfl, rfl, _, _, rfl, rfl, rfl⟩
theorem lValid (hw : Lw W0) {s : Bz} (hs : s.length ≤ 9223372036854775807) : cP W0 147 [.str s] H (.bool (Lib.validD s)) H := by
 refine A1.of_below (by kernel_rfl) fun F bs w cargs hh hra => ?_
 obtain ⟨a, rfl, h1⟩ := args1 hra
 obtain rfl := Vo h1
 refine (Tryz.utf8_ValidString ⟨s.toArray⟩ w (by rw [Lj]; exact hs) (tabs_of hh hw.tabs)).mono ?_
 rintro e w' ⟨rfl, hb⟩
 exact ⟨_, rfl, by rw [Lr]; exact repBool _, hb⟩
theorem Z1 {s t : Bz} : cP W0 94 [.str s, .str t] H (.tup [.str (Lib.trimPrefix s t), .bool (Lib.hasPrefix s t)]) H := by
 refine A1.of_below (by kernel_rfl) fun F bs w cargs hh hra => ?_
 obtain ⟨a, b, rfl, h1, h2⟩ := Zn hra
 obtain rfl := Vo h1
 obtain rfl := Vo h2
 refine (Tryz.strings_CutPrefix ⟨s.toArray⟩ ⟨t.toArray⟩ w).mono ?_
 rintro e w' ⟨rfl, rfl⟩
 refine ⟨_, rfl, ?_, Below.refl _ _⟩
 rw [Lr, Lr]
 simp only [Rep, A5]
 exact ⟨_, rfl, _, _, rfl, rfl, _, _, rfl, rfl, rfl⟩
theorem Xl {s t : Bz} : cP W0 103 [.str s, .str t] H (.str (Lib.trimPrefix s t)) H := by
 refine A1.of_below (by kernel_rfl) fun F bs w cargs hh hra => ?_
 obtain ⟨a, b, rfl, h1, h2⟩ := Zn hra
 obtain rfl := Vo h1
 obtain rfl := Vo h2
 refine (Tryz.strings_TrimPrefix ⟨s.toArray⟩ ⟨t.toArray⟩ w).mono ?_
 rintro e w' ⟨rfl, rfl⟩
 exact ⟨_, rfl, by rw [Lr, Lr]; exact A1m _, Below.refl _ _⟩
theorem lSort {id n : Nat} {T : TypeId} {cp : Option Nat} {ss : List Bz} (ho : H[id]? = some (.cells T (Ba ss) false)) (hn : n = ss.length) (hs : ss.length < 1000000) :
 cP W0 120 [.hsl 1 id 0 n cp] H (.tup []) (H.set id (.cells T (Ba (ss.mergeSort fun x y => decide (x ≤ y))) false)) :=
 sortP (Gj (by kernel_rfl)) (fun blk off cap ss w hH hb hz => Tryz.slices_Sort_string blk off cap ss w hH hb hz) ho hn hs
theorem Wm {id n : Nat} {T : TypeId} {cp : Option Nat} {ss : List Bz} (ho : H[id]? = some (.cells T (Ba ss) false)) (hn : n = ss.length) (hs : ss.length < 1000000) (hle : (Lib.compactUpTo ss.toArray ss.length).length ≤ ss.length) :
 cP W0 121 [.hsl 1 id 0 n cp] H (.hsl 1 id 0 (Lib.compactUpTo ss.toArray ss.length).length none) (H.set id (.cells T (Ba (Lib.compactUpTo ss.toArray ss.length ++ List.replicate (ss.length - (Lib.compactUpTo ss.toArray ss.length).length) [])) false)) :=
 A2x (Gj (by kernel_rfl)) (fun blk off cap d w h1 h2 h3 => Tryz.slices_Compact_string_arr blk off cap d w h1 h2 h3) ho hn hs hle
def GL : List (Nat × AVal) := []
def Gk (_ : Nat) : Bool := false
def G0 (_ : Nat) : Option Nat := none
def libTab : CallF := fun _ _ _ => none
structure Kn (W0 : World) : Prop where
 g : GOK W0 GL
 w : Lw W0
theorem grK (hk : Kn W0) : hGr W0 GL := ⟨hk.g, by kernel_rfl⟩
theorem Oz (_ : Lw W0) : Do Tryz.prog W0 libTab := fun _ _ _ _ _ h => by cases h
theorem Fq (hk : Kn W0) (opq : Nat → Bool) : Ce Tryz.prog W0 (Es Tryz.prog GL Gk opq G0 libTab 1000 60) := by
 refine Rn (by kernel_rfl) hk.g (fun g m h => ?_) (Oz hk.w) 1000 60
 cases h
def Lo (_ : Nat) : Bool := false
noncomputable def run (d : Nat) : CallF := Hg Tryz.prog GL Gk G0 libTab (fun call ops s => Xo Tryz.prog GL call ops s) 1000 d
theorem run_ok (hk : Kn W0) (d : Nat) : Do Tryz.prog W0 (run d) := by
 refine Qq hk.g (fun g m h => ?_) (Oz hk.w) (fun call hc => A2j (by kernel_rfl) hk.g hc) 1000 d
 cases h
theorem F7 (hk : Kn W0) {d f : Nat} {args : List AVal} {v : AVal} (h : run d f args [] = some (v, [])) (h1 : A8 0 args = true) (h2 : blw 0 v = true) (H : Hz) : cP W0 f args H v H := A1.pure h1 h2 (run_ok hk d _ _ _ _ _ h) H
def X2 (op : BinOp) (a b : AVal) : Bool := match Ws op none a b with
 | some (.bool b, _) => b
 | _ => false
theorem obE {P : Program} {b c : Bool} (h : b = c) : Ob.ok P W0 (.eq b c) := h
theorem obV {P : Program} {a : AVal} : Ob.ok P W0 (.veq a a) := rfl
theorem obC {P : Program} {f : Nat} {args : List AVal} {H H' : Hz} {v : AVal} (h : A1 P W0 f args H v H') : Ob.ok P W0 (.callH f args H v H') := h
theorem obH {P : Program} {a : Hz} : Ob.ok P W0 (.hp a a) := rfl
def Ds (c : Int) (n : Nat) : Nat := (if c < 0 then -(c + 1) else c).toNat % n
theorem Zf {a : Int} {n : Nat} (h : 0 ≤ a) : a.tmod (n : Nat) = ((a.toNat % n : Nat) : Int) := by
 rw [Int.tmod_eq_emod_of_nonneg h]
 obtain ⟨m, rfl⟩ := Int.eq_ofNat_of_zero_le h
 simp
theorem pkA {c : Int} {n : Nat} (h : c < 0) : (-(c + 1)).tmod (n : Nat) = ((Ds c n : Nat) : Int) := by
 rw [Zf (by omega), Ds, if_pos h]
theorem pkB {c : Int} {n : Nat} (h : ¬ c < 0) : c.tmod (n : Nat) = ((Ds c n : Nat) : Int) := by
 rw [Zf (by omega), Ds, if_neg h]
theorem Kx {c : Int} {n : Nat} (h : 0 < n) : Ds c n < n := Nat.mod_lt _ h
def F104 : AFn := ⟨(sQ [wV 4 (.move (vI 0))] (.seq (sQ [wM 5 0, wV 6 (.bin .lss none 5 (vI 0))] (.cond 6 (.ops [wM 7 0, wV 8 (.bin .add none 7 (vI 1)), wV 9 (.un .neg 8), wM 0 9]) .skip)) (sQ [wM 10 0, wM 11 1, wV 12 (.bin .rem none 10 11), wM 4 12] .ret))), [4], 13⟩
theorem G104 : Ab Tryz.prog 34 = some F104 := by kernel_rfl
theorem Nj (hg : hGr W0 G) {c : Int} {n : Nat} (h1' : -9223372036854775808 ≤ c) (h2' : c ≤ 9223372036854775807) (hn : 0 < n) : cP W0 34 [.int .i64 c, .int .i64 (n : Nat)] [] (.int .i64 (Ds c n : Nat)) [] := by
 have hnn : (1 : Int) ≤ (n : Nat) * (n : Nat) := by
  have : 1 * 1 ≤ n * n := Nat.mul_le_mul hn hn
  exact_mod_cast this
 refine A1.of_fn G104 (by simp) rfl ?_
 refine sA (lV rfl (ln (sa (sA (lV rfl ?_)))))
 refine lB rfl rfl trivial (fun h1 => ?_) (fun h1 => ?_)
 · have hc : c < 0 := by simpa using h1
   refine ln (aT rfl (oA (lV rfl (lKv (v := .int .i64 (c + 1)) rfl rfl (by first | exact trivial | (simp only [Af, and_true, lCo, lNi, lAp]; omega)) (congrArg (AVal.int .i64) (w64 (by omega) (by omega))) (lKv (v := .int .i64 (-(c + 1))) rfl rfl trivial (congrArg (AVal.int .i64) (by rw [w64 (by omega) (by omega)]; omega)) (lV rfl (ln (sA (lV rfl (lV rfl (lKv (v := .int .i64 (Ds c n : Nat)) rfl rfl (by first | exact trivial | (simp only [Af, and_true]; exact hnn)) (congrArg (AVal.int .i64) (by first | exact pkA hc | exact pkB hc)) (lV rfl (ln ?_)))))))))))))
   exact ExA.ret (A4 trivial rfl rfl rfl)
 · have hc : ¬ c < 0 := by simpa using h1
   refine ln (aF rfl (kA (sA (lV rfl (lV rfl (lKv (v := .int .i64 (Ds c n : Nat)) rfl rfl (by first | exact trivial | (simp only [Af, and_true]; exact hnn)) (congrArg (AVal.int .i64) (by first | exact pkA hc | exact pkB hc)) (lV rfl (ln ?_))))))))
   exact ExA.ret (A4 trivial rfl rfl rfl)
theorem pickC53 (hg : hGr W0 G) {c : Int} {n : Nat} (h1 : -9223372036854775808 ≤ c) (h2 : c ≤ 9223372036854775807) (hn : 0 < n) (H : Hz) : cP W0 34 [.int .i64 c, .int .i64 (n : Nat)] H (.int .i64 (Ds c n : Nat)) H := A1.pure rfl rfl (Nj hg h1 h2 hn) H
def F5p : AFn := ⟨(sQ [wV 4 (.move (vI 0))] (.seq (sQ [wM 5 0, wV 6 (.bin .lss none 5 (vI 0))] (.cond 6 (.ops [wM 7 0, wV 8 (.bin .add none 7 (vI 1)), wV 9 (.un .neg 8), wM 0 9]) .skip)) (sQ [wM 10 0, wM 11 1, wV 12 (.bin .rem none 10 11), wM 4 12] .ret))), [4], 13⟩
theorem G5p : Ab Tryz.prog 5 = some F5p := by kernel_rfl
theorem pickP5 (hg : hGr W0 G) {c : Int} {n : Nat} (h1' : -9223372036854775808 ≤ c) (h2' : c ≤ 9223372036854775807) (hn : 0 < n) : cP W0 5 [.int .i64 c, .int .i64 (n : Nat)] [] (.int .i64 (Ds c n : Nat)) [] := by
 have hnn : (1 : Int) ≤ (n : Nat) * (n : Nat) := by
  have : 1 * 1 ≤ n * n := Nat.mul_le_mul hn hn
  exact_mod_cast this
 refine A1.of_fn G5p (by simp) rfl ?_
 refine sA (lV rfl (ln (sa (sA (lV rfl ?_)))))
 refine lB rfl rfl trivial (fun h1 => ?_) (fun h1 => ?_)
 · have hc : c < 0 := by simpa using h1
   refine ln (aT rfl (oA (lV rfl (lKv (v := .int .i64 (c + 1)) rfl rfl (by first | exact trivial | (simp only [Af, and_true, lCo, lNi, lAp]; omega)) (congrArg (AVal.int .i64) (w64 (by omega) (by omega))) (lKv (v := .int .i64 (-(c + 1))) rfl rfl trivial (congrArg (AVal.int .i64) (by rw [w64 (by omega) (by omega)]; omega)) (lV rfl (ln (sA (lV rfl (lV rfl (lKv (v := .int .i64 (Ds c n : Nat)) rfl rfl (by first | exact trivial | (simp only [Af, and_true]; exact hnn)) (congrArg (AVal.int .i64) (by first | exact pkA hc | exact pkB hc)) (lV rfl (ln ?_)))))))))))))
   exact ExA.ret (A4 trivial rfl rfl rfl)
 · have hc : ¬ c < 0 := by simpa using h1
   refine ln (aF rfl (kA (sA (lV rfl (lV rfl (lKv (v := .int .i64 (Ds c n : Nat)) rfl rfl (by first | exact trivial | (simp only [Af, and_true]; exact hnn)) (congrArg (AVal.int .i64) (by first | exact pkA hc | exact pkB hc)) (lV rfl (ln ?_))))))))
   exact ExA.ret (A4 trivial rfl rfl rfl)
theorem pickC5 (hg : hGr W0 G) {c : Int} {n : Nat} (h1 : -9223372036854775808 ≤ c) (h2 : c ≤ 9223372036854775807) (hn : 0 < n) (H : Hz) : cP W0 5 [.int .i64 c, .int .i64 (n : Nat)] H (.int .i64 (Ds c n : Nat)) H := A1.pure rfl rfl (pickP5 hg h1 h2 hn) H
end Go.Abs
namespace Go.Abs
open Go.Proofs Go.RowKit
set_option maxRecDepth 100000
theorem idle23 : Ta Tryz.prog 23 3 := by
 intro args w hl
 obtain ⟨a, b, c, rfl⟩ : ∃ a b c, args = [a, b, c] := by
  match args, hl with
  | [a, b, c], _ => exact ⟨a, b, c, rfl⟩
 have hn : ∀ w : World, (binOp BinOp.neq 20 .nilIface .nilIface).run Tryz.prog w = .ok (.bool false) w := fun _ => by kernel_rfl
 refine callsD_of_wpS Tryz.func23 rfl fun c₀ cs hu => ?_
 apply wpS_seq
 apply wpS_region
 simp [wpOpsS, go_sem, recoverD, hu, Tryz.ntmps23, Exit.thenS]
 apply wpS_seq
 apply wpS_region
 simp [wpOpsS, go_sem, Exit.thenS, Array.replicate, hn]
 refine wpS_cond (t := false) (by simp [Act.eval]) ?_
 simp only [bFt, if_false]
 refine wpS_of_wp (wp_skip ?_)
 cases c₀
 simp_all [bodyPostS, results]
theorem idle71 : Ta Tryz.prog 71 2 := by
 intro args w hl
 obtain ⟨a, b, rfl⟩ : ∃ a b, args = [a, b] := by
  match args, hl with
  | [a, b], _ => exact ⟨a, b, rfl⟩
 have hn : ∀ w : World, (binOp BinOp.neq 20 .nilIface .nilIface).run Tryz.prog w = .ok (.bool false) w := fun _ => by kernel_rfl
 refine callsD_of_wpS Tryz.func71 rfl fun c₀ cs hu => ?_
 apply wpS_seq
 apply wpS_region
 simp [wpOpsS, go_sem, recoverD, hu, Tryz.ntmps71, Exit.thenS]
 apply wpS_seq
 apply wpS_region
 simp [wpOpsS, go_sem, Exit.thenS, Array.replicate, hn]
 refine wpS_cond (t := false) (by simp [Act.eval]) ?_
 simp only [bFt, if_false]
 refine wpS_of_wp (wp_skip ?_)
 cases c₀
 simp_all [bodyPostS, results]
end Go.Abs
set_option linter.unusedVariables false
namespace Go.Abs
open Go.RowKit Go.Proofs Go.Shelf
theorem Yt {P : Program} {fits : TypeId → Bool} {d : Nat} {e : TypeId} {count n : Nat} (hc : 1 ≤ count) (h : rowAt P fits d e 1 0 n = true) : rowAt P fits d e count 0 n = true := by
 cases d with
 | zero => simp [rowAt] at h
 | succ d =>
   unfold rowAt at h ⊢
   simp only at h ⊢
   split at h
   · cases h
   · rename_i hs
     rw [if_neg hs]
     simp only [Nat.zero_div, Nat.zero_mod, Bool.or_eq_true, bAt, dTe] at h ⊢
     rcases h with ⟨⟨h1, h2⟩, h3⟩ | ⟨h1, h2⟩
     · exact .inl ⟨⟨h1, by omega⟩, h3⟩
     · exact .inr ⟨by omega, h2⟩
theorem Pj {P : Program} : ∀ {d : Nat} {e u : TypeId} {count n : Nat}, 1 ≤ count → liesAt P d e 1 0 u n = true → liesAt P d e count 0 u n = true
 | 0, _, _, _, _, _, h => by simp [liesAt] at h
 | d + 1, e, u, count, n, hc, h => by
   unfold liesAt at h ⊢
   simp only [Bool.or_eq_true] at h ⊢
   rcases h with h | h
   · exact .inl (Yt hc h)
   · refine .inr ?_
     split at h
     · exact Pj hc h
     · cases h
section
variable {P : Program} {ρ : Ren}
set_option maxHeartbeats 1000000 in
set_option maxRecDepth 100000 in
theorem strIn (L : Lays.n169 P ρ) (X : Builder.Extra P ρ) (b g cap : Nat) (cur : Array Value) (fr : Nat × Nat) (l : Bz) (w : World) (h0 : l ≠ []) (hb : w.cell? ⟨b, 1, none⟩ = some (.slice (some ⟨g, 0, none⟩) l.length cap))
 (hg : w.heap[g]? = some (.cells cur (ρ.t 5) fr)) (hnc : l.length ≤ cap) (hcm : cap ≤ maxLen) (hcs : l.length ≤ cur.size) (hx : ∀ j x, l[j]? = some x → w.cell? ⟨g, 0 + j, none⟩ = some (.int .u8 x.toNat)) :
 Calls P (ρ.f 169) #[.pointer (some ⟨b, 0, none⟩)] w fun e w' => e = .returned (.string ⟨l.toArray⟩) ∧ w' = w.drew.freeze ⟨g, 0, none⟩ l.length := by
 have hl0 : l.length ≠ 0 := by simpa using h0
 have c1 : w.drew.cell? ⟨b, 1, none⟩ = some (.slice (some ⟨g, 0, none⟩) l.length cap) := hb
 have hSD : (Builtin.unsafeSliceData_ #[(ρ.t 37)] (ρ.t 127) #[.slice (some ⟨g, 0, none⟩) l.length cap]).run P w.drew = .ok (.pointer (some ⟨g, 0, none⟩)) w.drew :=
  Lib.run_unsafeSliceData_row _ _ _ _ _ _ (by omega)
 have hUS : (Builtin.unsafeString_ #[(ρ.t 127), (ρ.t 3)] (ρ.t 9) #[.pointer (some ⟨g, 0, none⟩), .int .i64 l.length]).run P w.drew = .ok (.string ⟨l.toArray⟩) (w.drew.freeze ⟨g, 0, none⟩ l.length) := by
  refine Lib.run_unsafeString_row w.drew (ρ.t 127) (ρ.t 3) (ρ.t 9) (ρ.t 5) L.t127 X.cellsByte g cur.size (by have hg' : w.drew.heap[g]? = some (.cells cur (ρ.t 5) fr) := hg; simp [World.shape?, hg']) l h0 hcs (by unfold maxLen at hcm; omega) ?_
  intro j x hj
  have := hx j x hj
  rw [Addr.add_at]
  exact this
 have mixed := L.mixed
 have t72 := L.t72; have a72 := L.a72; have z72 := L.z72; have v72 := L.v72; have u72 := run_underlying L.t72
 have t70 := L.t70; have a70 := L.a70; have z70 := L.z70; have v70 := L.v70; have u70 := run_underlying L.t70
 have t37 := L.t37; have a37 := L.a37; have z37 := L.z37; have v37 := L.v37; have u37 := run_underlying L.t37
 have t127 := L.t127; have a127 := L.a127; have z127 := L.z127; have v127 := L.v127; have u127 := run_underlying L.t127
 have t3 := L.t3; have a3 := L.a3; have z3 := L.z3; have v3 := L.v3; have u3 := run_underlying L.t3
 have t9 := L.t9; have a9 := L.a9; have z9 := L.z9; have v9 := L.v9; have u9 := run_underlying L.t9
 have t5 := X.t5; have a5 := X.a5; have z5 := X.z5; have v5 := X.v5; have u5 := run_underlying X.t5
 go_enter L.f169, Body.n169_ntmps ρ
 go_wp2
 go_region_o
 all_goals (go_wp2; go_ret; exact ⟨rfl, rfl⟩)
end
section
variable {P : Program} {ρ : Ren} {W0 : World} {H : Hz}
def tgT (T : TypeId) : TypeId := cond (Nat.blt T 1000000) (T + 1000000) T
theorem Z6 {n K : Nat} : Nat.blt (n + K) K = false := Xx (Nat.not_lt.2 (Nat.le_add_left K n))
theorem tag_aux (T K : Nat) : cond (Nat.blt (cond (Nat.blt T K) (T + K) T) K) (cond (Nat.blt T K) (T + K) T) ((cond (Nat.blt T K) (T + K) T) - K) = cond (Nat.blt T K) T (T - K) := by
 cases h : Nat.blt T K with
 | true => simp only [cond_true, Z6, cond_false, Nat.add_sub_cancel]
 | false => simp only [cond_false, h]
theorem A39 (T K : Nat) : Nat.blt (cond (Nat.blt T K) (T + K) T) K = false := by
 cases h : Nat.blt T K with
 | true => simp only [cond_true, Z6]
 | false => simp only [cond_false, h]
theorem A2b (T : TypeId) : Vt (tgT T) = Vt T := tag_aux T 1000000
theorem tgT_not (T : TypeId) : Nat.blt (tgT T) 1000000 = false := A39 T 1000000
theorem W4 (w : World) (g n : Nat) (cur : Array Value) (T : TypeId) (fr : Nat × Nat) (hn : n ≠ 0) (hg : w.heap[g]? = some (.cells cur T fr)) : ∃ fr', (w.freeze ⟨g, 0, none⟩ n).heap[g]? = some (.cells cur T fr') ∧ ∀ k, k ≠ g → (w.freeze ⟨g, 0, none⟩ n).heap[k]? = w.heap[k]? := by
 unfold World.freeze
 rw [if_neg hn]
 simp only [Array.getElem?_modify, if_true, hg]
 exact ⟨_, rfl, fun k hk => by rw [if_neg (Ne.symm hk)]⟩
theorem strP (L : Lays.n169 P ρ) (X : Builder.Extra P ρ) (hb : E1 P (ρ.f 169)) {id jd : Nat} {T TB : TypeId} {c0 : AVal} {r : List AVal} {l : Bz} {n : Nat} {cp : Option Nat} (ho : H[id]? = some (.cells T (c0 :: .hsl 1 jd 0 n cp :: r) false)) (hj : H[jd]? = some (.cells TB (u8c l) true)) (hn : n = l.length) (h0 : l ≠ []) (hTB : Vt TB = ρ.t 5) :
 A1 P W0 (ρ.f 169) [.ptr id 0] H (.str l) (H.set jd (.cells (tgT TB) (u8c l) true)) := by
 subst hn
 refine ⟨hb, fun F bs w cargs hh hr => ?_⟩
 simp only [A5, Rep] at hr
 obtain ⟨_, _, rfl, ⟨_, hp⟩, rfl⟩ := hr
 unfold Dx at hp
 rw [ho] at hp
 obtain ⟨b, hbi, rfl⟩ := hp
 obtain ⟨vs, rest, fr, h1, h2, h3⟩ := hh.obj id _ b ho hbi
 simp only [A5] at h2
 obtain ⟨u0, us, rfl, _, u1, us', rfl, hu1, _⟩ := h2
 simp only [Rep] at hu1
 obtain ⟨_, hu1⟩ := hu1
 unfold Bn at hu1
 rw [hj] at hu1
 have hul : (u8c l).length = l.length := by simp [u8c]
 obtain ⟨_, hu1⟩ := hu1
 obtain ⟨g, cap, hbj, rfl, hnc, _, hop⟩ := hu1 (fun _ => ⟨rfl, by rw [hul, Nat.mul_one]⟩)
 obtain ⟨hcm, _⟩ := hop rfl
 obtain ⟨vb, rb, fb, g1, g2, g3⟩ := hh.obj jd _ g hj hbj
 have hlow := hh.low g (mGe hbj)
 have hvb : vb = Lib.strCells ⟨l.toArray⟩ := by
  have key : ∀ (l : Bz) (vb : List Value), A5 F bs H w (u8c l) vb → vb = Lib.strCells ⟨l.toArray⟩ := by
   intro l
   induction l with
   | nil => intro vb h; simpa [u8c, A5, Lib.strCells] using h
   | cons x l ih =>
     intro vb h
     simp only [u8c, List.map_cons, A5, Rep] at h
     obtain ⟨_, us, rfl, rfl, h⟩ := h
     rw [ih us h]
     simp [Lib.strCells]
  exact key l vb g2
 have hsl : (Lib.strCells ⟨l.toArray⟩).length = l.length := by rw [Lib.strCells_length]; simp [ByteArray.size]
 have hc1 : w.cell? ⟨b, 1, none⟩ = some (.slice (some ⟨g, 0, none⟩) l.length cap) := by
  rw [cell_of_row w b 1 _ T fr h1]; simp
 rw [hTB] at g1
 refine Calls.mono (strIn L X b g cap _ fb l w h0 hc1 g1 hnc hcm (by rw [hvb]; simp [hsl]) (fun j x hx => ?_)) ?_
 · rw [cell_of_row w g _ _ _ fb g1, hvb]
   have hjl := (List.getElem?_eq_some_iff.1 hx).1
   simp only [Nat.zero_add, List.getElem?_toArray]
   rw [List.getElem?_append_left (by rw [hsl]; exact hjl)]
   simp [Lib.strCells, hx]
 · rintro e w' ⟨rfl, rfl⟩
   obtain ⟨hdr, hde⟩ := hh.drew
   have hl0 : l.length ≠ 0 := by simpa using h0
   have g1' : w.drew.heap[g]? = some (.cells (vb ++ rb).toArray (ρ.t 5) fb) := g1
   obtain ⟨fr', f1, f2⟩ := W4 w.drew g l.length _ _ fb hl0 g1'
   have hbz : Bv (w.drew.freeze ⟨g, 0, none⟩ l.length) g = Bv w.drew g := by unfold Bv; rw [f1, g1']
   have hsz : (w.drew.freeze ⟨g, 0, none⟩ l.length).heap.size = w.drew.heap.size := by
    unfold World.freeze; rw [if_neg hl0]; simp
   have hoe : B0 bs bs w.drew (w.drew.freeze ⟨g, 0, none⟩ l.length) jd (.cells TB (u8c l) true) (.cells (tgT TB) (u8c l) true) :=
    .inr ⟨_, _, rfl, .inr ⟨rfl, rfl, fun b' hb' => by rw [hbj] at hb'; injection hb' with hb'; subst hb'; exact hbz⟩⟩
   have hext := Ext.upd (w' := w.drew.freeze ⟨g, 0, none⟩ l.length) hdr.nodup hj hbj hsz f2 hoe
   refine ⟨.string ⟨l.toArray⟩, bs, rfl, by simp only [Rep], A7.upd hdr hj hbj (Lib.below_freeze (Below.refl _ _) (p := ⟨g, 0, none⟩) hlow.1 _) hsz f2 hoe ⟨vb, rb, fr', by rw [A2b, hTB]; exact f1, ?_, fun h => by rw [tgT_not] at h; cases h⟩, hde.trans hext⟩
   exact A5.ext hext _ _ (A5.ext hde _ _ g2)
end
end Go.Abs
namespace Go.Abs
open Go.RowKit Go.Proofs Go.Shelf
theorem tz70 : Tryz.prog.underlying 130 = some (.pointer 133) := by kernel_rfl
theorem tz164 : Tryz.prog.underlying 234 = some .unsafePointer := by kernel_rfl
theorem tz72' : (Tryz.prog.info? 133).map (·.size) = some 2 := by kernel_rfl
theorem tz72 : ∃ j, Tryz.prog.info? 133 = some j ∧ j.size = 2 := Option.map_eq_some_iff.1 tz72'
set_option maxHeartbeats 1000000 in
set_option maxRecDepth 100000 in
theorem A3y (b : Nat) (w : World) {T : TypeId} {n : Nat} (h0 : w.cell? ⟨b, 0, none⟩ = some (.pointer none)) (hsh : w.shape? b = some (T, n)) (hn : 0 < n)
 (hl : liesAt Tryz.prog Tryz.prog.depth T (n / Tryz.prog.cellsOf T) 0 133 1 = true) (hfz : w.frozen? ⟨b, 0, none⟩ = false) :
 Calls Tryz.prog 122 #[.pointer (some ⟨b, 0, none⟩)] w fun e w' => e = .returned (.tuple #[]) ∧ w' = w.setCell ⟨b, 0, none⟩ (.pointer (some ⟨b, 0, none⟩)) := by
 obtain ⟨j, hj, hjs⟩ := tz72
 go_enter Tryz.func122, Tryz.ntmps122
 go_wp2
 rw [Lib.run_to_unsafe w ⟨b, 0, none⟩ tz70 tz164 hj (by rw [hjs]; decide) hsh hn]
 simp only [Result.andThen]
 rw [Oper.upon_value]
 go_wp2
 rw [run_callFunc_extern Tryz.func170 (by kernel_rfl) (by kernel_rfl) (by kernel_rfl) (e := Extern.AbiNoEscape.same) (by kernel_rfl)]
 rw [Lib.run_noEscape]
 simp only [Result.andThen]
 rw [Oper.upon_value]
 go_wp2
 rw [Lib.run_from_unsafe w ⟨b, 0, none⟩ tz164 tz70 hj hsh hl]
 simp only [Result.andThen]
 rw [Oper.upon_value]
 go_wp2
 go_end0
 exact ⟨rfl, rfl⟩
theorem ccPT {W0 : World} {H : Hz} {id : Nat} {T : TypeId} {r : List AVal} (ho : H[id]? = some (.cells T (.nilPtr :: r) false)) (hT : Tryz.prog.cellsOf T = r.length + 1) (hl : liesAt Tryz.prog Tryz.prog.depth T 1 0 133 1 = true) :
 cP W0 122 [.ptr id 0] H (.tup []) (H.set id (.cells T (.ptr id 0 :: r) false)) := by
 refine ⟨Gj (by kernel_rfl), fun F bs w cargs hh hr => ?_⟩
 simp only [A5, Rep] at hr
 obtain ⟨_, _, rfl, ⟨_, hp⟩, rfl⟩ := hr
 unfold Dx at hp
 rw [ho] at hp
 obtain ⟨b, hbi, rfl⟩ := hp
 obtain ⟨vs, rest, fr, h1, h2, h3⟩ := hh.obj id _ b ho hbi
 simp only [A5, Rep] at h2
 obtain ⟨_, us, rfl, rfl, hus⟩ := h2
 have hlow := hh.low b (mGe hbi)
 have hul := hus.length
 have hc0 : w.cell? ⟨b, 0, none⟩ = some (.pointer none) := by
  rw [cell_of_row w b 0 _ T fr h1]; simp
 have hsh : w.shape? b = some (T, (Value.pointer none :: us ++ rest).length) := by
  unfold World.shape?; rw [h1]; simp
 have hfz : w.frozen? ⟨b, 0, none⟩ = false := by
  unfold World.frozen?
  rw [h1]
  have := h3 0 (by simp)
  simp only [Bool.and_eq_false_iff, dFn]
  omega
 have hcnt : 1 ≤ (Value.pointer none :: us ++ rest).length / Tryz.prog.cellsOf T := by
  rw [hT]
  refine (Nat.le_div_iff_mul_le (by omega)).2 ?_
  simp only [List.cons_append, lCo, lAp]
  omega
 refine Calls.mono (A3y b w hc0 hsh (by simp) (Pj hcnt hl) hfz) ?_
 rintro e w' ⟨rfl, rfl⟩
 rw [setCell_eq_setRow w b 0 _ T fr _ h1]
 have hrow : ((Value.pointer none :: us ++ rest).toArray.setIfInBounds 0 (.pointer (some ⟨b, 0, none⟩))) = ((Value.pointer (some ⟨b, 0, none⟩) :: us) ++ rest).toArray := by
  apply Array.ext'; simp
 rw [hrow]
 have hnew := setRow_heap w b _ ((Value.pointer (some ⟨b, 0, none⟩) :: us) ++ rest).toArray T fr h1
 have hoe : B0 bs bs w (w.setRow b ((Value.pointer (some ⟨b, 0, none⟩) :: us) ++ rest).toArray) id (.cells T (.nilPtr :: r) false) (.cells T (.ptr id 0 :: r) false) := .inr ⟨T, _, rfl, rfl, rfl⟩
 have hext := Ext.upd (w' := w.setRow b ((Value.pointer (some ⟨b, 0, none⟩) :: us) ++ rest).toArray) hh.nodup ho hbi (by simp) (fun k hk => setRow_other w b k _ hk) hoe
 refine ⟨.tuple #[], bs, rfl, by simp only [Rep, A5]; exact ⟨[], rfl, rfl⟩, A7.upd hh ho hbi (Ek w _ hlow.1) (by simp) (fun k hk => setRow_other w b k _ hk) hoe ⟨_, rest, fr, hnew, ?_, fun j hj => h3 j (by simpa using hj)⟩, hext⟩
 have hid := (List.getElem?_eq_some_iff.1 ho).1
 simp only [A5]
 refine ⟨_, us, rfl, ?_, A5.ext hext _ _ hus⟩
 simp only [Rep, Dx]
 rw [List.getElem?_set_self hid]
 exact ⟨⟨_, rfl⟩, b, hbi, rfl⟩
set_option maxHeartbeats 1000000 in
set_option maxRecDepth 100000 in
theorem ccUsedT (b : Nat) (w : World) (h0 : w.cell? ⟨b, 0, none⟩ = some (.pointer (some ⟨b, 0, none⟩))) :
 Calls Tryz.prog 122 #[.pointer (some ⟨b, 0, none⟩)] w fun e w' => e = .returned (.tuple #[]) ∧ w' = w := by
 obtain ⟨j, hj, hjs⟩ := tz72
 go_enter Tryz.func122, Tryz.ntmps122
 go_wp2
 rw [Lib.run_neq_ptr_same w _ tz70 hj]
 go_wp2
 go_end0
 exact ⟨rfl, rfl⟩
theorem A3u {W0 : World} {H : Hz} {id : Nat} {T : TypeId} {r : List AVal} (ho : H[id]? = some (.cells T (.ptr id 0 :: r) false)) :
 cP W0 122 [.ptr id 0] H (.tup []) H := by
 refine ⟨Gj (by kernel_rfl), fun F bs w cargs hh hr => ?_⟩
 simp only [A5, Rep] at hr
 obtain ⟨_, _, rfl, ⟨_, hp⟩, rfl⟩ := hr
 unfold Dx at hp
 rw [ho] at hp
 obtain ⟨b, hbi, rfl⟩ := hp
 obtain ⟨vs, rest, fr, h1, h2, h3⟩ := hh.obj id _ b ho hbi
 simp only [A5, Rep] at h2
 obtain ⟨u, us, rfl, ⟨_, hu⟩, hus⟩ := h2
 unfold Dx at hu
 rw [ho] at hu
 obtain ⟨b', hb', rfl⟩ := hu
 rw [hbi] at hb'
 injection hb' with hb'
 subst hb'
 have hc0 : w.cell? ⟨b, 0, none⟩ = some (.pointer (some ⟨b, 0, none⟩)) := by
  rw [cell_of_row w b 0 _ T fr h1]; simp
 refine Calls.mono (ccUsedT b w hc0) ?_
 rintro e w' ⟨rfl, rfl⟩
 exact ⟨.tuple #[], bs, rfl, by simp only [Rep, A5]; exact ⟨[], rfl, rfl⟩, hh, Ext.refl _ _ _⟩
end Go.Abs
namespace Go.Abs
open Go.Proofs Go.RowKit
set_option maxRecDepth 100000
variable {W0 : World} {G : List (Nat × AVal)}
theorem A0x {a : List Nat} {n : Nat} (h : n < a.length) : (B4 a).getD n .nilIf = .int .i64 (a.getD n 0 : Nat) := by
 rw [List.getD_eq_getElem?_getD, B4, List.getElem?_map, List.getD_eq_getElem?_getD, gGe h]; rfl
theorem Ew {s : St} {x i : AOpd} {a : List Nat} {n : Nat} (hx : ev G s x = some (dg a)) (hi : ev G s i = some (.int .i64 (n : Nat))) (hn : n < a.length) : aop G s (.idxSl 1 x i) = some (.val (.eptr (.int .i64 (a.getD n 0 : Nat)) 0) s.H [(0, (n : Nat)), ((n : Nat) + 1, (a.length : Nat))]) := by
 have h1 := A0x hn
 have h2 := Av a
 simp only [aop, hx, hi, dg, Int.toNat_natCast, h1, h2]
 rfl
theorem E5 {s : St} {x : AOpd} {a : List Nat} (hx : ev G s x = some (dg a)) : aop G s (.len false x) = some (.val (.int .i64 (a.length : Nat)) s.H []) := by
 have h2 := Av a
 simp only [aop, hx, dg, A0w, h2]
 rfl
theorem Zw {a : List Nat} {n : Nat} (h : n = I0 a a.length) : AVal.row 1 ((B4 a).take (((n : Nat) : Int)).toNat) = dg (Iz a) := by
 subst h
 rw [Int.toNat_natCast, Iz, dg, B4, B4, List.map_take]
def KF146 : AFn := ⟨(sQ [wV 2 (.move (.val (.nilSl)))] (sQ [wM 4 0, wV 5 (.len false 4), wM 3 5] (.seq (.block 0 (.loop (.seq (sQ [wM 6 3, wV 7 (.bin .gtr none 6 (vI 0)), wM 8 7, wT 9 8 (.move 0), wT 10 8 (.move 3), wT 11 8 (.bin .sub none 10 (vI 1)), wT 12 8 (.idxSl 1 9 11), wT 13 8 (.load 1 false 12), wT 14 8 (.bin .eql none 13 (vI 0)), wV 15 (.pick 8 14 (.val (.bool false)))] (.cond 15 .skip (.exit 0))) (.block 1 (.ops [wM 16 3, wV 17 (.bin .sub none 16 (vI 1)), wM 3 17]))))) (sQ [wM 18 0, wM 19 3, wV 20 (.cutSl 1 18 none (some 19)), wM 2 20] .ret)))), [2], 21⟩
theorem KG146 : Ab Tryz.prog 127 = some KF146 := by kernel_rfl
theorem U3 (hg : hGr W0 G) {a : List Nat} (hl : a.length ≤ 1000000) : cP W0 127 [dg a] [] (dg (Iz a)) [] := by
 refine oF KG146 ?_
 refine sO (x1 rfl (sO (mV rfl (mV (v := .int .i64 (a.length : Nat)) (E5 rfl) (x1 rfl (sq (bM ?_)))))))
 refine ExM.loop (σ := Nat) (fun n => ⟨.al [(0, dg a), (3, .int .i64 (n : Nat))], [], 21⟩) (fun n => n ≤ a.length ∧ I0 a n = I0 a a.length) (fun n => n) a.length (Ae 0 rfl (Nat.le_refl _) rfl rfl (fzC rfl fvD (fI fzN))) ⟨Nat.le_refl _, rfl⟩ ?_
 rintro n ⟨hn, ht⟩
 cases n with
 | zero =>
   refine sq (sO (mV rfl (mBk hg gN (c := false) rfl rfl (by simp) (mV rfl (mG (mG (mG (mG (mG (mG (x1 rfl (cF rfl ?_))))))))))))
   refine ExM.exit ?_
   refine sO (m2 rfl rfl (mS rfl (x1 rfl ?_)))
   exact ExM.ret (A4 trivial rfl (Zw (by rw [← ht]; rfl)) rfl)
 | succ k =>
   by_cases hz : a.getD k 0 = 0
   · refine sq (sO (mV rfl (mT rfl (m3 rfl rfl rfl (mI ((k : Nat)) rfl (mS (v := .eptr (.int .i64 (a.getD k 0 : Nat)) 0) (Ew rfl rfl (by omega)) (mV rfl (mBk hg (gS rfl) (c := true) rfl rfl (by rw [hz]; decide) (x1 rfl (cT rfl (kM (bM (oM (mV rfl (mI ((k : Nat)) rfl (x1 rfl ?_))))))))))))))))
     exact ⟨k, ⟨by omega, by rw [← ht]; simp only [I0, hz, if_true]⟩, by omega, Ae 0 rfl (Nat.le_refl _) rfl rfl (fzC rfl fvD (fI fzN))⟩
   · refine sq (sO (mV rfl (mT rfl (m3 rfl rfl rfl (mI ((k : Nat)) rfl (mS (v := .eptr (.int .i64 (a.getD k 0 : Nat)) 0) (Ew rfl rfl (by omega)) (mV rfl (mF rfl (x1 rfl (cF rfl ?_))))))))))
     refine ExM.exit ?_
     refine sO (m2 rfl rfl (mS rfl (x1 rfl ?_)))
     exact ExM.ret (A4 trivial rfl (Zw (by rw [← ht]; simp only [I0, hz, if_false])) rfl)
def dN (n : Nat) : AVal := dg (D1 n)
theorem A3n (n : Nat) (l : List Nat) : blw n (dg l) = true := As l
def ov (b : Nat) : List Nat → AVal
 | [] => .nilSl
 | d :: r => .hsl 1 (b + 1) 0 (d :: r).length none
def oh : List Nat → Hz
 | [] => []
 | d :: r => [.cells 3 [.int .i64 (d : Nat)] false, .cells 3 (B4 (d :: r)) true]
theorem fvOv {l : List Nat} : FzV (oh l) 0 (ov 0 l) (dg l) := by
 cases l with
 | nil => exact A02
 | cons d r => exact N2 (Nat.zero_le _) rfl
theorem fvOv1 {o : A2} {l : List Nat} : FzV (o :: oh l) 1 (ov 1 l) (dg l) := by
 cases l with
 | nil => exact A02
 | cons d r => exact N2 (by decide) rfl
theorem A10 (l : List Nat) (d : Nat) : B4 (l ++ [d]) = B4 l ++ [.int .i64 (d : Nat)] := by simp [B4]
theorem appS {s : St} {x y : AOpd} {l : List Nat} {id idy e : Nat} {H' : Hz} {cp : Option Nat} (hx : ev G s x = some (.hsl 1 id 0 l.length none)) (hy : ev G s y = some (.hsl 1 idy 0 1 cp)) (hoy : s.H[idy]? = some (.cells 3 [.int .i64 (e : Nat)] false))
 (ho : s.H[id]? = some (.cells 3 (B4 l) true)) (hH : s.H.set id (.cells 3 (B4 (l ++ [e])) true) = H') : aop G s (.append 3 1 8 x y) = some (.val (.hsl 1 id 0 (l ++ [e]).length none) H' [(((l.length + 1) * 8 : Nat), C9), ((l.length + 1 : Nat), C9)]) := by
 subst hH
 have h1 : (B4 l).length = l.length * 1 := by rw [Av, Nat.mul_one]
 have h2 : (l ++ [e]).length = l.length + 1 := by simp
 have hy' : Dq 1 s.H (.hsl 1 idy 0 1 cp) = some ([.int .i64 (e : Nat)], 1) := by
  simp only [Dq, hoy]; rfl
 rw [h2, A10]
 simp only [aop, hx, hy, Qj, hy', G9, ho, h1, Nat.beq_refl, cond_true, Bool.and_self]
 rfl
theorem E4 {n : Nat} (h : n ≤ 1000000) : Af [((n * 8 : Nat), C9), ((n : Nat), C9)] := by
 simp only [Af, C9, and_true]; omega
def KF153 : AFn := ⟨(sQ [wV 4 (.move (vI 0))] (.seq (sQ [wM 5 1, wM 6 0, wV 7 (.len false 6), wV 8 (.bin .lss none 5 7)] (.cond 8 (sQ [wM 9 0, wM 10 1, wV 11 (.idxSl 1 9 10), wV 12 (.load 1 false 11), wM 4 12] .ret) .skip)) (sQ [wV 4 (.move (vI 0))] .ret))), [4], 13⟩
theorem KG153 : Ab Tryz.prog 134 = some KF153 := by kernel_rfl
def KF97 : AFn := ⟨(sQ [wV 4 (.move (.val (.bool false)))] (.seq (sQ [wM 6 0, wV 7 (.len false 6), wM 8 1, wV 9 (.len false 8), wV 10 (.bin .neq none 7 9)] (.cond 10 (sQ [wM 11 0, wV 12 (.len false 11), wM 13 1, wV 14 (.len false 13), wV 15 (.bin .lss none 12 14), wM 4 15] .ret) .skip)) (.seq (sQ [wM 16 0, wV 17 (.len false 16), wV 18 (.bin .sub none 17 (vI 1)), wM 5 18] (.block 0 (.loop (.seq (sQ [wM 19 5, wV 20 (.bin .geq none 19 (vI 0))] (.cond 20 .skip (.exit 0))) (.seq (.block 1 (.seq (.draw [wM 23 0, wM 24 5, wV 25 (.idxSl 1 23 24), wV 26 (.load 1 false 25), wM 27 1, wM 28 5, wV 29 (.idxSl 1 27 28), wV 30 (.load 1 false 29), wV 31 (.bin .neq none 26 30)]) (.cond 31 (.seq (.draw [wM 32 0, wM 33 5, wV 34 (.idxSl 1 32 33), wV 35 (.load 1 false 34), wM 36 1, wM 37 5, wV 38 (.idxSl 1 36 37), wV 39 (.load 1 false 38), wV 40 (.bin .lss none 35 39), wM 4 40]) .ret) .skip))) (.ops [wM 21 5, wV 22 (.bin .sub none 21 (vI 1)), wM 5 22])))))) (sQ [wV 4 (.move (.val (.bool false)))] .ret)))), [4], 41⟩
theorem KG97 : Ab Tryz.prog 88 = some KF97 := by kernel_rfl
def KF96 : AFn := ⟨(sQ [wV 2 (.move (.val (.nilSl)))] (sQ [wV 3 (.move (.val (.nilSl)))] (.seq (.block 0 (.loop (.seq (sQ [wM 5 0, wV 6 (.bin .neq none 5 (vI 0))] (.cond 6 .skip (.exit 0))) (.block 1 (sQ [wM 7 0, wV 8 (.bin .rem none 7 (vI 10)), wM 4 8] (.seq (sQ [wM 9 4, wV 10 (.bin .lss none 9 (vI 0))] (.cond 10 (.ops [wM 11 4, wV 12 (.un .neg 11), wM 4 12]) .skip)) (sQ [wM 13 3, wM 14 4, wV 15 (.bslice 3 1 1 [.int .i64 0] [(0, 1, 14)]), wV 16 (.append 3 1 8 13 15), wM 3 16] (.ops [wM 17 0, wV 18 (.bin .quo none 17 (vI 10)), wM 0 18])))))))) (sQ [wM 19 3, wM 2 19] .ret)))), [2], 20⟩
theorem KG96 : Ab Tryz.prog 87 = some KF96 := by kernel_rfl
def KF99 : AFn := ⟨(sQ [wV 4 (.move (.val (.nilSl)))] (.seq (sQ [wM 5 0, wV 6 (.len false 5), wV 7 (.bin .eql none 6 (vI 0))] (.cond 7 (sQ [wV 4 (.move (.val (.nilSl)))] .ret) .skip)) (sQ [wM 8 1, wV 9 (.mm true 8 (vI 0)), wV 10 (.mkSl 3 1 [.int .i64 0] 9 9), wM 11 0, wV 12 (.append 3 1 8 10 11), wM 4 12] .ret))), [4], 13⟩
theorem KG99 : Ab Tryz.prog 90 = some KF99 := by kernel_rfl
theorem atP (hg : hGr W0 G) {a : List Nat} {i : Nat} (H : Hz) : cP W0 134 [dg a, .int .i64 (i : Nat)] H (.int .i64 (a.getD i 0 : Nat)) H := by
 refine A1.pure (by simp [A8, blw, dg, As]) rfl ?_ H
 refine oF KG153 ?_
 by_cases hi : i < a.length
 · skip
   refine sO (x1 rfl (sq (sO (m2 rfl rfl (mV (v := .int .i64 (a.length : Nat)) (E5 rfl) (mT rfl (mn (cT rfl (sO (m2 rfl rfl (mS (v := .eptr (.int .i64 (a.getD i 0 : Nat)) 0) (Ew rfl rfl (by omega)) (x2 rfl rfl ?_))))))))))))
   exact ExM.ret (pS)
 · skip
   refine sO (x1 rfl (sq (sO (m2 rfl rfl (mV (v := .int .i64 (a.length : Nat)) (E5 rfl) (mF rfl (mn (cF rfl (kM (sO (x1 rfl ?_)))))))))))
   exact ExM.ret (A4 trivial rfl (iE (by rw [Nc (by omega)]; rfl)) rfl)
theorem lessP (hg : hGr W0 G) {a b : List Nat} (hl : a.length ≤ 1000000) (hlb : b.length ≤ 1000000) (H : Hz) : cP W0 88 [dg a, dg b] H (.bool (S8 a b)) H := by
 refine A1.pure (by simp [A8, blw, dg, As]) rfl ?_ H
 refine oF KG97 ?_
 by_cases hab : a.length = b.length
 · skip
   refine sO (x1 rfl (sq (sO (mV rfl (mV (v := .int .i64 (a.length : Nat)) (E5 rfl) (mV rfl (mV (v := .int .i64 (b.length : Nat)) (E5 rfl) (mBk hg gN (c := false) rfl rfl (by rw [hab]; exact bne_self_eq_false _) (mn (cF rfl (kM (sq (sO (mV rfl (mV (v := .int .i64 (a.length : Nat)) (E5 rfl) (mK (v := .int .i64 ((a.length : Nat) - 1)) rfl (B8 (by omega) (by omega) rfl) (x1 rfl (bM ?_))))))))))))))))))
   refine ExM.loop (σ := Nat) (fun n => ⟨.al [(0, dg a), (1, dg b), (5, .int .i64 (((n : Nat) : Int) - 1))], [], 41⟩) (fun n => n ≤ a.length ∧ O7 a b n = O7 a b a.length) (fun n => n) a.length (Ae 0 rfl (Nat.le_refl _) rfl rfl (fzC rfl fvD (fzC rfl fvD (fI fzN)))) ⟨Nat.le_refl _, rfl⟩ ?_
   rintro n ⟨hn, ht⟩
   cases n with
   | zero =>
     refine sq (sO (mV rfl (mF rfl (mn (cF rfl ?_)))))
     refine ExM.exit ?_
     refine sO (x1 rfl ?_)
     exact ExM.ret (A4 trivial rfl (congrArg AVal.bool (by rw [S8, if_pos hab, ← ht]; rfl)) rfl)
   | succ k =>
     by_cases hz : a.getD k 0 = b.getD k 0
     · refine sq (sO (mV rfl (mT rfl (mn (cT rfl (kM (sq (bM (sq ?_)))))))))
       refine ExM.draw hg ?_
       refine qV rfl (qKv (v := .int .i64 (k : Nat)) rfl rfl trivial (iE (by omega)) (B1 (v := .eptr (.int .i64 (a.getD k 0 : Nat)) 0) (Ew rfl rfl (by omega)) rfl (by first | exact trivial | decide | (simp only [Af, and_true]; omega)) (qV rfl (qV rfl (qKv (v := .int .i64 (k : Nat)) rfl rfl trivial (iE (by omega)) (B1 (v := .eptr (.int .i64 (b.getD k 0 : Nat)) 0) (Ew rfl rfl (by omega)) rfl (by first | exact trivial | decide | (simp only [Af, and_true]; omega)) (qV rfl (qBk (c := false) rfl rfl (by rw [hz]; exact bne_self_eq_false _) (G8 (ExM.condF hg rfl (ExM.skip (ExM.ops hg (Ag hg gN rfl rfl trivial (mKv hg gN (v := .int .i64 ((k : Nat) - 1)) rfl rfl trivial (B8 (by omega) (by omega) (by omega)) (Ag hg gN rfl rfl trivial (Eu (?_)))))))))))))))))
       exact ⟨k, ⟨by omega, by rw [← ht]; simp only [O7, hz, if_true]⟩, by omega, Ae 0 rfl (Nat.le_refl _) rfl rfl (fzC rfl fvD (fzC rfl fvD (fI fzN)))⟩
     · refine sq (sO (mV rfl (mT rfl (mn (cT rfl (kM (sq (bM (sq ?_)))))))))
       refine ExM.draw hg ?_
       refine qV rfl (qKv (v := .int .i64 (k : Nat)) rfl rfl trivial (iE (by omega)) (B1 (v := .eptr (.int .i64 (a.getD k 0 : Nat)) 0) (Ew rfl rfl (by omega)) rfl (by first | exact trivial | decide | (simp only [Af, and_true]; omega)) (qV rfl (qV rfl (qKv (v := .int .i64 (k : Nat)) rfl rfl trivial (iE (by omega)) (B1 (v := .eptr (.int .i64 (b.getD k 0 : Nat)) 0) (Ew rfl rfl (by omega)) rfl (by first | exact trivial | decide | (simp only [Af, and_true]; omega)) (qV rfl (qBk (c := true) rfl rfl (by rw [bne_iff_ne]; omega) (G8 (ExM.condT hg rfl (ExM.seq ?_)))))))))))
       refine ExM.draw hg ?_
       refine qV rfl (qKv (v := .int .i64 (k : Nat)) rfl rfl trivial (iE (by omega)) (B1 (v := .eptr (.int .i64 (a.getD k 0 : Nat)) 0) (Ew rfl rfl (by omega)) rfl (by first | exact trivial | decide | (simp only [Af, and_true]; omega)) (qV rfl (qV rfl (qKv (v := .int .i64 (k : Nat)) rfl rfl trivial (iE (by omega)) (B1 (v := .eptr (.int .i64 (b.getD k 0 : Nat)) 0) (Ew rfl rfl (by omega)) rfl (by first | exact trivial | decide | (simp only [Af, and_true]; omega)) (qV rfl (qV rfl (qV rfl (G8 (?_)))))))))))
       exact ExM.ret (A4 trivial rfl (congrArg AVal.bool (by rw [S8, if_pos hab, ← ht, O7, if_neg hz]; exact decide_eq_decide.2 (by omega))) rfl)
 · skip
   refine sO (x1 rfl (sq (sO (mV rfl (mV (v := .int .i64 (a.length : Nat)) (E5 rfl) (mV rfl (mV (v := .int .i64 (b.length : Nat)) (E5 rfl) (mT rfl (mn (cT rfl (sO (mV rfl (mV (v := .int .i64 (a.length : Nat)) (E5 rfl) (mV rfl (mV (v := .int .i64 (b.length : Nat)) (E5 rfl) (x2 rfl rfl ?_))))))))))))))))
   exact ExM.ret (A4 trivial rfl (congrArg AVal.bool (by rw [S8, if_neg hab]; exact decide_eq_decide.2 (by omega))) rfl)
theorem A18 (n : Nat) : Ia [.int .i64 0] n = B4 (List.replicate n 0) := by
 rw [Ia, B4, List.map_replicate, List.eq_replicate_iff]
 refine ⟨by simp, fun b hb => ?_⟩
 obtain ⟨j, _, rfl⟩ := List.mem_map.1 hb
 have : j % [AVal.int .i64 0].length = 0 := Nat.mod_one j
 rw [this]; rfl
theorem A0a {H : Hz} (l : List Nat) : Dq 1 H (dg l) = some (B4 l, l.length) := by
 have h : (B4 l).flatMap AVal.cells = B4 l := by
  induction l with
  | nil => rfl
  | cons d l ih => rw [B4, List.map_cons, List.flatMap_cons]; rw [B4] at ih; rw [ih]; rfl
 simp only [dg, Dq, Nat.beq_refl, cond_true, h, Av]
theorem all_one (l : List Nat) : (B4 l).all AVal.one = true := by
 induction l with
 | nil => rfl
 | cons d l ih => exact ih
theorem A3p {s : St} {x y : AOpd} {l z : List Nat} {id m : Nat} {H' : Hz} (hx : ev G s x = some (.hsl 1 id 0 m (some m))) (hy : ev G s y = some (dg l)) (hl : l.length ≠ 0)
 (ho : s.H[id]? = some (.cells 3 (B4 z) false)) (hm : z.length = m) (hH : s.H ++ [.cells 3 (B4 (z ++ l)) true] = H') : aop G s (.append 3 1 8 x y) = some (.val (.hsl 1 s.H.length 0 (z ++ l).length none) H' [((((z ++ l).length) * 8 : Nat), C9), (((z ++ l).length : Nat), C9)]) := by
 subst hH; subst hm
 have h3 : Nat.beq l.length 0 = false := by
  cases hb : Nat.beq l.length 0 with
  | false => rfl
  | true => exact absurd (nBq hb) hl
 have h4 : ((B4 z).drop 0).take (z.length * 1) = B4 z := by rw [List.drop_zero, Nat.mul_one, List.take_of_length_le (by rw [Av]; exact Nat.le_refl _)]
 have h5 : B4 (z ++ l) = B4 z ++ B4 l := by simp [B4]
 have h6 : (z ++ l).length = z.length + l.length := by simp
 rw [h5, h6]
 simp only [aop, hx, hy, Qj, A0a, h3, cond_false, all_one, cond_true, G9, Nat.beq_refl, ho, h4]
theorem A2q {s : St} {x y : AOpd} {l : List Nat} {id m : Nat} {c : Option Nat} (hx : ev G s x = some (.hsl 1 id 0 m c)) (hy : ev G s y = some (dg l)) (hl : l.length = 0) : aop G s (.append 3 1 8 x y) = some (.val (.hsl 1 id 0 m c) s.H []) := by
 have : l = [] := List.length_eq_zero_iff.1 hl
 subst this
 simp only [aop, hx, hy, Qj, A0a]
 rfl
theorem mkSlD {s : St} {x : AOpd} {n : Nat} (hx : ev G s x = some (.int .i64 (n : Nat))) : aop G s (.mkSl 3 1 [.int .i64 0] x x) = some (.val (.hsl 1 s.H.length 0 n (some n)) (s.H ++ [.cells 3 (B4 (List.replicate n 0)) false]) [(0, (n : Nat)), ((n : Nat), 1000000), ((n : Nat), (n : Nat)), ((n : Nat), (n : Nat))]) := by
 have h1 := A18 n
 simp only [aop, hx, Int.toNat_natCast, Nat.mul_one, h1]
theorem frzOpen {H : Hz} {n id T : Nat} {l : List Nat} {cap : Option Nat} (hn : n ≤ id) (ho : H[id]? = some (.cells T (B4 l) true)) : frz H n (l.length + 3) (.hsl 1 id 0 l.length cap) = some (dg l) := by
 have h1 : Nat.blt id n = false := Xx (by omega)
 have h2 : (Nat.beq 0 0 && Nat.beq (l.length * 1) (B4 l).length) = true := by simp [Av]
 have h3 := Ij l []
 rw [List.append_nil] at h3
 simp only [frz, h1, cond_false, ho, h2, cond_true, h3, Jb]
 rfl
def Yu (a : List Nat) (n : Int) : AVal := if a.length = 0 then .nilSl else dg (List.replicate n.toNat 0 ++ a)
theorem tenP (hg : hGr W0 G) {a : List Nat} {n : Int} (hl : a.length ≤ 1000000) (hn : n ≤ 1000) (H : Hz) : cP W0 90 [dg a, .int .i64 n] H (Yu a n) H := by
 refine A1.pure (by simp [A8, blw, dg, As]) (by rw [Yu]; split; rfl; exact A3n 0 _) ?_ H
 refine oF KG99 ?_
 by_cases hz : a.length = 0
 · skip
   refine sO (x1 rfl (sq (sO (mV rfl (mV (v := .int .i64 (a.length : Nat)) (E5 rfl) (mBk hg gN (c := true) rfl rfl (by rw [hz]; decide) (mn (cT rfl (sO (x1 rfl ?_))))))))))
   refine ExM.ret ?_
   refine A4 trivial rfl ?_ rfl
   rw [Yu, if_pos hz]; rfl
 · skip
   refine sO (x1 rfl (sq (sO (mV rfl (mV (v := .int .i64 (a.length : Nat)) (E5 rfl) (mF rfl (mn (cF rfl (kM (sO (mV rfl (mK (v := .int .i64 (n.toNat : Nat)) rfl (iE (by by_cases h : n < 0 <;> simp [h] <;> omega)) (Ag hg gN (v := .hsl 1 0 0 n.toNat (some n.toNat)) (mkSlD rfl) rfl (by simp only [Af, and_true]; omega) (mV rfl (Ag hg gN (v := .hsl 1 1 0 (List.replicate n.toNat 0 ++ a).length none) (A3p rfl rfl hz rfl (by simp) rfl) rfl (by simp only [Af, C9, and_true, lAp, List.length_replicate]; omega) (x1 rfl ?_))))))))))))))))
   refine ExM.ret ?_
   refine A0 trivial rfl rfl ((List.replicate n.toNat 0 ++ a).length + 3) ?_ rfl
   rw [Yu, if_neg hz]
   exact frzOpen (by decide) rfl
def us (H : Hz) (id jd : Nat) (at_ : AVal) (l : Bz) : Hz := (H.set jd (.cells 5 (u8c l) true)).set id (.cells 135 [.ptr id 0, .hsl 1 jd 0 l.length none, at_] false)
def QF124 : AFn := ⟨(sQ [wV 4 (.move (.val (.nilIf)))] (sQ [wM 5 0, wV 6 (kF 122 [5])] (sQ [wM 7 0, wM 8 0, wV 9 (.nilCheck 8), wV 10 (.fieldAddr 1 9), wV 11 (.load 1 false 10), wM 12 1, wV 13 (.bslice 5 1 1 [.int .u8 0] [(0, 1, 12)]), wV 14 (.append 5 1 1 11 13), wV 15 (.nilCheck 7), wV 16 (.fieldAddr 1 15), wN (.store 1 16 14)] (sQ [wV 4 (.move (.val (.nilIf)))] .ret)))), [4], 17⟩
theorem QG124 : Ab Tryz.prog 124 = some QF124 := by kernel_rfl
def QF59 : AFn := ⟨(sQ [wV 4 (.move (vI 0)), wV 5 (.move (.val (.nilIf)))] (sQ [wM 6 0, wV 7 (kF 122 [6])] (sQ [wM 8 0, wM 9 0, wV 10 (.nilCheck 9), wV 11 (.fieldAddr 1 10), wV 12 (.load 1 false 11), wM 13 1, wV 14 (.appS 5 12 13), wV 15 (.nilCheck 8), wV 16 (.fieldAddr 1 15), wN (.store 1 16 14)] (sQ [wM 17 1, wV 18 (.len true 17), wM 4 18, wV 5 (.move (.val (.nilIf)))] .ret)))), [4, 5], 19⟩
theorem QG59 : Ab Tryz.prog 59 = some QF59 := by kernel_rfl
def QF66 : AFn := ⟨(sQ [wM 9 2, wV 10 (.len false 9), wV 11 (.move (vI 0))] (.block 0 (.loop (sQ [wV 12 (.bin .lss none 11 10)] (.seq (.cond 12 .skip (.exit 0)) (.seq (.block 1 (sQ [wV 13 (.idxSl 1 9 11), wV 14 (.load 1 false 13), wM 7 14] (sQ [wM 15 1, wV 16 (.bin .sub none 15 (vI 1)), wM 8 16] (.block 2 (.loop (.seq (sQ [wM 17 8, wV 18 (.bin .geq none 17 (vI 0))] (.cond 18 .skip (.exit 2))) (.seq (.block 3 (.draw [wM 21 0, wV 22 (.nilCheck 21), wV 23 (.fieldAddr 0 22), wM 24 7, wM 25 8, wV 26 (.bin .mul none (vI 8) 25), wV 27 (.bin .shr none 24 26), wV 28 (.conv (.int .u8) 27), wV 29 (kF 124 [23, 28])] true)) (.ops [wM 19 8, wV 20 (.bin .sub none 19 (vI 1)), wM 8 20])))))))) (.ops [wV 30 (.bin .add none 11 (vI 1)), wM 11 30]))))))), [], 31⟩
theorem QG66 : Ab Tryz.prog 66 = some QF66 := by kernel_rfl
def QF123 : AFn := ⟨(sQ [wM 6 1, wV 7 (.len false 6), wV 8 (.move (vI 0))] (.block 0 (.loop (sQ [wV 9 (.bin .lss none 8 7)] (.seq (.cond 9 .skip (.exit 0)) (.seq (.block 1 (sQ [wV 10 (.idxSl 1 6 8), wV 11 (.load 1 false 10), wM 5 11] (.ops [wM 12 0, wM 13 0, wV 14 (.nilCheck 13), wV 15 (.fieldAddr 2 14), wV 16 (.load 1 false 15), wM 17 5, wV 18 (.mapGet 16 17), wV 19 (.bslice 3 1 1 [.int .i64 0] [(0, 1, 18)]), wV 20 (kF 66 [12, (vI 2), 19])]))) (.ops [wV 21 (.bin .add none 8 (vI 1)), wM 8 21]))))))), [], 22⟩
theorem QG123 : Ab Tryz.prog 123 = some QF123 := by kernel_rfl
theorem M8 {H : Hz} {id jd : Nat} {at_ : AVal} {l : Bz} : (us H id jd at_ l).length = H.length := by simp [us]
theorem V4 {H X : Hz} {id jd : Nat} {at_ : AVal} {l : Bz} : (us H id jd at_ l ++ X).take H.length = us H id jd at_ l := by
 rw [← M8 (H := H) (id := id) (jd := jd) (at_ := at_) (l := l), List.take_left]
theorem A00 {H : Hz} {n i : Nat} {T : TypeId} {cs : List AVal} {op : Bool} (hb : B2 n H = true) (h : H[i]? = some (.cells T cs op)) : A8 n cs = true := Kz hb h
theorem Um {H : Hz} {id jd n : Nat} {at_ : AVal} {l' : Bz} {T : TypeId} {c0 c1 : AVal} (hb : B2 n H = true) (ho : H[id]? = some (.cells T [c0, c1, at_] false)) (hi : id < n) (hj : jd < n) : B2 n (us H id jd at_ l') = true := by
 have h0 := A00 hb ho
 have h1 : blw n at_ = true := by
  simp only [A8] at h0
  cases h2 : blw n c0 <;> rw [h2] at h0 <;> first | cases h0 | skip
  cases h3 : blw n c1 <;> rw [h3] at h0 <;> first | cases h0 | skip
  cases h4 : blw n at_ <;> rw [h4] at h0 <;> first | cases h0 | rfl
 have h2 : Nat.blt id n = true := by rw [Nat.blt_eq]; exact hi
 have h3 : Nat.blt jd n = true := by rw [Nat.blt_eq]; exact hj
 refine Qs (Qs hb (blwH_u8 _)) ?_
 simp only [B2, A8, blw, h1, h2, h3, cond_true]
theorem wbU (hg : hGr W0 G) {H : Hz} {id jd : Nat} {at_ : AVal} {l : Bz} {b : UInt8} (hb : B2 H.length H = true) (ho : H[id]? = some (.cells 135 [.ptr id 0, .hsl 1 jd 0 l.length none, at_] false)) (hj : H[jd]? = some (.cells 5 (u8c l) true)) (hl : l.length ≤ 1000000) : cP W0 124 [.ptr id 0, .int .u8 (b.toNat : Nat)] H .nilIf (us H id jd at_ (l ++ [b])) := by
 have hjl := gLt hj
 have hij : jd ≠ id := fun e => by subst e; rw [ho] at hj; cases hj
 have ho2 : (H.set jd (.cells 5 (u8c (l ++ [b])) true) ++ [.cells 5 [.int .u8 (b.toNat : Nat)] false])[id]? = some (.cells 135 [.ptr id 0, .hsl 1 jd 0 l.length none, at_] false) := gA (gSt hij ho)
 refine oF QG124 ?_
 refine sO (x1 rfl (sO (mV rfl (mC rfl (A3u ho) (mn (sO (m2 rfl rfl (mV (v := .ptr id 0) (Gt rfl ho) (mV (v := .ptr id 1) (F5 rfl ho) (mV (v := .hsl 1 jd 0 l.length none) (Nw rfl ho rfl) (mV rfl (mV (v := .hsl 1 H.length 0 1 (some 1)) rfl (Ag hg gN (v := .hsl 1 jd 0 (l ++ [b]).length none) (oAppB rfl rfl (gA hj) gL (L9 hjl)) rfl (by simp only [Af, and_true, C9]; omega) (mV (v := .ptr id 0) (Gt rfl ho2) (mV (v := .ptr id 1) (F5 rfl ho2) (A6 hg gN (It rfl rfl ho2 rfl (L9 (by rw [List.length_set]; exact gLt ho))) (mn (sO (x1 rfl ?_)))))))))))))))))))
 refine ExM.ret ?_
 refine A0 (n := H.length) trivial rfl ?_ 100 rfl ?_
 · show B2 H.length (List.take H.length (us H id jd at_ (l ++ [b]) ++ [_])) = true
   rw [V4]; exact Um hb ho (gLt ho) (gLt hj)
 · exact V4
theorem us_us {H : Hz} {id jd : Nat} {a : AVal} {l k : Bz} (h : id ≠ jd) : us (us H id jd a l) id jd a k = us H id jd a k := by
 unfold us
 rw [List.set_comm _ _ (Ne.symm h), List.set_set, List.set_comm _ _ h, List.set_set]
theorem Zo {H : Hz} {id jd : Nat} {a : AVal} {l : Bz} (ho : H[id]? = some (.cells 135 [.ptr id 0, .hsl 1 jd 0 l.length none, a] false)) (hj : H[jd]? = some (.cells 5 (u8c l) true)) : us H id jd a l = H := by
 unfold us
 rw [R9 hj, R9 ho]
theorem Ry {H : Hz} {id jd : Nat} {a : AVal} {l : Bz} (h : id < H.length) : (us H id jd a l)[id]? = some (.cells 135 [.ptr id 0, .hsl 1 jd 0 l.length none, a] false) := by
 unfold us
 exact gT (by rw [List.length_set]; exact h)
theorem us_jd {H : Hz} {id jd : Nat} {a : AVal} {l : Bz} (h : jd < H.length) (hne : id ≠ jd) : (us H id jd a l)[jd]? = some (.cells 5 (u8c l) true) := by
 unfold us
 exact gSt hne (gT h)
theorem A33 {H : Hz} {id jd i : Nat} {a : AVal} {l : Bz} {o : A2} (h1 : id ≠ i) (h2 : jd ≠ i) (h : H[i]? = some o) : (us H id jd a l)[i]? = some o := by
 unfold us
 exact gSt h1 (gSt h2 h)
theorem us_app {H X : Hz} {id jd : Nat} {a : AVal} {l : Bz} (h1 : id < H.length) (h2 : jd < H.length) : us (H ++ X) id jd a l = us H id jd a l ++ X := by
 unfold us
 rw [L9 h2, L9 (by rw [List.length_set]; exact h1)]
theorem Z7 : liesAt Tryz.prog Tryz.prog.depth 135 1 0 133 1 = true := by kernel_rfl
theorem W8 : Tryz.prog.cellsOf 135 = 3 := by kernel_rfl
def fw (H : Hz) (id : Nat) (at_ : AVal) (b : UInt8) : Hz := H.set id (.cells 135 [.ptr id 0, .hsl 1 (H.length + 1) 0 1 none, at_] false) ++ [.cells 5 [.int .u8 (b.toNat : Nat)] false, .cells 5 (u8c [b]) true]
theorem wsU (hg : hGr W0 G) {H : Hz} {id jd : Nat} {at_ : AVal} {l : Bz} {k : Bz} (hk0 : k ≠ []) (ho : H[id]? = some (.cells 135 [.ptr id 0, .hsl 1 jd 0 l.length none, at_] false)) (hj : H[jd]? = some (.cells 5 (u8c l) true)) (hl : l.length + k.length ≤ 1000000) : cP W0 59 [.ptr id 0, .str k] H (.tup [.int .i64 k.length, .nilIf]) (us H id jd at_ (l ++ k)) := by
 have hij : jd ≠ id := fun e => by subst e; rw [ho] at hj; cases hj
 have ho2 : (H.set jd (.cells 5 (u8c (l ++ k)) true))[id]? = some (.cells 135 [.ptr id 0, .hsl 1 jd 0 l.length none, at_] false) := gSt hij ho
 refine oF QG59 ?_
 refine sO (x2 rfl rfl (sO (mV rfl (mC rfl (A3u ho) (mn (sO (m2 rfl rfl (mV (v := .ptr id 0) (Gt rfl ho) (mV (v := .ptr id 1) (F5 rfl ho) (mV (v := .hsl 1 jd 0 l.length none) (Nw rfl ho rfl) (mV rfl (Ag hg gN (v := .hsl 1 jd 0 (l ++ k).length none) (oAppS rfl rfl hk0 hj rfl) rfl (by simp only [Af, and_true, C9]; omega) (mV (v := .ptr id 0) (Gt rfl ho2) (mV (v := .ptr id 1) (F5 rfl ho2) (A6 hg gN (It rfl rfl ho2 rfl rfl) (mn (sO (x4 rfl rfl rfl rfl ?_))))))))))))))))))
 exact ExM.ret (pS)
theorem wsF (hg : hGr W0 G) {H : Hz} {id : Nat} {at_ : AVal} {k : Bz} (hk0 : k ≠ []) (ho : H[id]? = some (.cells 135 [.nilPtr, .nilSl, at_] false)) (hl : k.length ≤ 1000000) : cP W0 59 [.ptr id 0, .str k] H (.tup [.int .i64 k.length, .nilIf]) (H.set id (.cells 135 [.ptr id 0, .hsl 1 H.length 0 k.length none, at_] false) ++ [.cells 5 (u8c k) true]) := by
 have hid := gLt ho
 have ho1 : (H.set id (.cells 135 [.ptr id 0, .nilSl, at_] false))[id]? = some (.cells 135 [.ptr id 0, .nilSl, at_] false) := gT hid
 have hlen : (H.set id (.cells 135 [.ptr id 0, .nilSl, at_] false)).length = H.length := List.length_set
 have ho2 : (H.set id (.cells 135 [.ptr id 0, .nilSl, at_] false) ++ [A2.cells 5 (u8c k) true])[id]? = some (.cells 135 [.ptr id 0, .nilSl, at_] false) := gA ho1
 have hH : (H.set id (.cells 135 [.ptr id 0, .nilSl, at_] false) ++ [A2.cells 5 (u8c k) true]).set id (.cells 135 [.ptr id 0, .hsl 1 H.length 0 k.length none, at_] false) = H.set id (.cells 135 [.ptr id 0, .hsl 1 H.length 0 k.length none, at_] false) ++ [.cells 5 (u8c k) true] := by
  rw [L9 (by rw [List.length_set]; exact hid), List.set_set]
 refine oF QG59 ?_
 refine sO (x2 rfl rfl (sO (mV rfl (mC rfl (ccPT ho W8 Z7) (mn (sO (m2 rfl rfl (mV (v := .ptr id 0) (Gt rfl ho1) (mV (v := .ptr id 1) (F5 rfl ho1) (mV (v := .nilSl) (Nw rfl ho1 rfl) (mV rfl (Ag hg gN (v := .hsl 1 H.length 0 k.length none) (by rw [← hlen]; exact oAppS0 rfl rfl hk0) rfl (by simp only [Af, and_true, C9]; omega) (mV (v := .ptr id 0) (Gt rfl ho2) (mV (v := .ptr id 1) (F5 rfl ho2) (A6 hg gN (It rfl rfl ho2 rfl rfl) (mn (sO (x4 rfl rfl rfl rfl ?_))))))))))))))))))
 exact ExM.ret (A4 trivial rfl rfl hH)
theorem wbF (hg : hGr W0 G) {H : Hz} {id : Nat} {at_ : AVal} {b : UInt8} (ho : H[id]? = some (.cells 135 [.nilPtr, .nilSl, at_] false)) : cP W0 124 [.ptr id 0, .int .u8 (b.toNat : Nat)] H .nilIf (fw H id at_ b) := by
 have hid := gLt ho
 have ho1 : (H.set id (.cells 135 [.ptr id 0, .nilSl, at_] false))[id]? = some (.cells 135 [.ptr id 0, .nilSl, at_] false) := gT hid
 have hlen : (H.set id (.cells 135 [.ptr id 0, .nilSl, at_] false)).length = H.length := List.length_set
 have hlen2 : (H.set id (.cells 135 [.ptr id 0, .nilSl, at_] false) ++ [A2.cells 5 [.int .u8 (b.toNat : Nat)] false]).length = H.length + 1 := by rw [lAp, hlen]; rfl
 have hv : (H.set id (.cells 135 [.ptr id 0, .nilSl, at_] false) ++ [A2.cells 5 [.int .u8 (b.toNat : Nat)] false])[H.length]? = some (A2.cells 5 [.int .u8 (b.toNat : Nat)] false) := by rw [← hlen]; exact gL
 have ho2 : ((H.set id (.cells 135 [.ptr id 0, .nilSl, at_] false) ++ [A2.cells 5 [.int .u8 (b.toNat : Nat)] false]) ++ [A2.cells 5 (u8c [b]) true])[id]? = some (.cells 135 [.ptr id 0, .nilSl, at_] false) := gA (gA ho1)
 have hH : ((H.set id (.cells 135 [.ptr id 0, .nilSl, at_] false) ++ [A2.cells 5 [.int .u8 (b.toNat : Nat)] false]) ++ [A2.cells 5 (u8c [b]) true]).set id (.cells 135 [.ptr id 0, .hsl 1 (H.length + 1) 0 1 none, at_] false) = fw H id at_ b := by
  rw [List.append_assoc, L9 (by rw [List.length_set]; exact hid), List.set_set]; rfl
 refine oF QG124 ?_
 refine sO (x1 rfl (sO (mV rfl (mC rfl (ccPT ho W8 Z7) (mn (sO (m2 rfl rfl (mV (v := .ptr id 0) (Gt rfl ho1) (mV (v := .ptr id 1) (F5 rfl ho1) (mV (v := .nilSl) (Nw rfl ho1 rfl) (mV rfl (mK (v := .hsl 1 H.length 0 1 (some 1)) rfl (congrArg (fun n => AVal.hsl 1 n 0 1 (some 1)) hlen) (Ag hg gN (v := .hsl 1 (H.length + 1) 0 1 none) (by rw [← hlen2]; exact oAppB0 rfl rfl hv) rfl (by simp only [Af, and_true, C9]; decide) (mV (v := .ptr id 0) (Gt rfl ho2) (mV (v := .ptr id 1) (F5 rfl ho2) (A6 hg gN (It rfl rfl ho2 rfl rfl) (mn (sO (x1 rfl ?_)))))))))))))))))))
 exact ExM.ret (A4 trivial rfl rfl hH)
def QF67 : AFn := ⟨(sQ [wV 2 (.move (vI 0))] (sQ [wM 3 0, wV 4 (.nilCheck 3), wV 5 (.fieldAddr 1 4), wV 6 (.load 1 false 5), wV 7 (.len false 6), wM 2 7] .ret)), [2], 8⟩
theorem QG67 : Ab Tryz.prog 67 = some QF67 := by kernel_rfl
theorem lenU (hg : hGr W0 G) {H : Hz} {id jd : Nat} {at_ : AVal} {l : Bz} (ho : H[id]? = some (.cells 135 [.ptr id 0, .hsl 1 jd 0 l.length none, at_] false)) : cP W0 67 [.ptr id 0] H (.int .i64 (l.length : Nat)) H := by
 refine oF QG67 ?_
 refine sO (x1 rfl (sO (mV rfl (mV (v := .ptr id 0) (Gt rfl ho) (mV (v := .ptr id 1) (F5 rfl ho) (mV (v := .hsl 1 jd 0 l.length none) (Nw rfl ho rfl) (x2 rfl rfl ?_)))))))
 exact ExM.ret (pS)
theorem Yz {w : Nat} {ns : List Nat} {i : Nat} (h : i < ns.length) : Gs w (ns.take (i + 1)) = Gs w (ns.take i) ++ A9 w (ns.getD i 0) := by
 rw [List.take_succ_eq_append_getElem h, List.getD_eq_getElem?_getD, gGe h]
 simp only [Gs, List.flatMap_append, List.flatMap_cons, List.flatMap_nil, List.append_nil, Option.getD_some]
theorem Sr (w : Nat) (ns : List Nat) {i : Nat} (h : i ≤ ns.length) : (Gs w (ns.take i)).length = i * w := by
 rw [U6, List.length_take, Nat.min_eq_left h]
theorem putU (hg : hGr W0 G) {H : Hz} {id jd sd w : Nat} {at_ : AVal} {l : Bz} {ns : List Nat} {cp : Option Nat} (hb : B2 H.length H = true) (ho : H[id]? = some (.cells 135 [.ptr id 0, .hsl 1 jd 0 l.length none, at_] false)) (hj : H[jd]? = some (.cells 5 (u8c l) true)) (hs : H[sd]? = some (.cells 3 (B4 ns) false)) (hw : w ≤ 8) (hnl : ns.length ≤ 1000000) (hl : l.length + ns.length * w ≤ 1000000) (hn : ∀ i, ns.getD i 0 < 9223372036854775808) : cP W0 66 [.ptr id 0, .int .i64 ((w : Nat) : Int), .hsl 1 sd 0 ns.length cp] H (.tup []) (us H id jd at_ (l ++ Gs w ns)) := by
 have hid := gLt ho
 have hjd := gLt hj
 have hne : id ≠ jd := fun e => by subst e; rw [ho] at hj; cases hj
 have hsi : id ≠ sd := fun e => by subst e; rw [ho] at hs; cases hs
 have hsj : jd ≠ sd := fun e => by subst e; rw [hj] at hs; cases hs
 have hsU : ∀ {k : Bz}, (us H id jd at_ k)[sd]? = some (.cells 3 (B4 ns) false) := fun {k} => A33 hsi hsj hs
 have hbU : ∀ k, B2 (us H id jd at_ k).length (us H id jd at_ k) = true := fun k => by rw [M8]; exact Um hb ho hid hjd
 refine oF QG66 ?_
 refine sO (x3 rfl rfl rfl (bM ?_))
 refine ExM.loopJ (σ := Nat) (τ := Unit) (fun i => ⟨.al [(0, .ptr id 0), (1, .int .i64 ((w : Nat) : Int)), (9, .hsl 1 sd 0 ns.length cp), (10, .int .i64 ((ns.length : Nat) : Int)), (11, .int .i64 ((i : Nat) : Int))], us H id jd at_ (l ++ Gs w (ns.take i)), 31⟩) (fun i => i ≤ ns.length) (fun i => ns.length - i) 0 0 (fun _ => ⟨.al [], us H id jd at_ (l ++ Gs w ns), 31⟩) (fun _ => True) (Ac rfl (by rw [List.take_zero]; show us H id jd at_ (l ++ []) = H; rw [List.append_nil]; exact Zo ho hj) (sb4 rfl rfl rfl rfl (((( sbC rfl (sbN))))))) (Nat.zero_le _) ?_ ?_
 · rintro i hi
   have hi : i ≤ ns.length := hi
   by_cases hlt : i < ns.length
   · have hmul : (i + 1) * w ≤ ns.length * w := Nat.mul_le_mul_right _ hlt
     rw [Nat.add_mul, Nat.one_mul] at hmul
     refine sO (mT rfl (mn (sq (cT rfl (kM (sq (bM (sO (mS (v := .ptr sd i) (A3i rfl rfl hsU) (mV (v := .int .i64 ((ns.getD i 0 : Nat) : Int)) (Xv rfl hsU hlt) (x1 rfl (sO (mV rfl (mK (v := .int .i64 (((w : Nat) : Int) - 1)) rfl (B8 (by omega) (by omega) rfl) (x1 rfl (bM ?_))))))))))))))))
     refine ExM.loopJ (σ := Nat × Bz) (τ := Unit) (fun ⟨r, a⟩ => ⟨.al [(0, .ptr id 0), (1, .int .i64 ((w : Nat) : Int)), (7, .int .i64 ((ns.getD i 0 : Nat) : Int)), (9, .hsl 1 sd 0 ns.length cp), (10, .int .i64 ((ns.length : Nat) : Int)), (11, .int .i64 ((i : Nat) : Int)), (8, .int .i64 (((r : Nat) : Int) - 1))], us H id jd at_ (l ++ Gs w (ns.take i) ++ a), 31⟩) (fun ⟨r, a⟩ => r ≤ w ∧ a ++ A9 r (ns.getD i 0) = A9 w (ns.getD i 0)) (fun ⟨r, a⟩ => r) ⟨w, []⟩ 2 (fun _ => ⟨.al [(0, .ptr id 0), (1, .int .i64 ((w : Nat) : Int)), (7, .int .i64 ((ns.getD i 0 : Nat) : Int)), (9, .hsl 1 sd 0 ns.length cp), (10, .int .i64 ((ns.length : Nat) : Int)), (11, .int .i64 ((i : Nat) : Int))], us H id jd at_ (l ++ Gs w (ns.take i) ++ A9 w (ns.getD i 0)), 31⟩) (fun _ => True) (Ac rfl (by rw [List.append_nil]) (sb4 rfl rfl rfl rfl (((( sbC rfl (sbC rfl (sbC rfl (sbN))))))))) ⟨Nat.le_refl _, rfl⟩ ?_ ?_
     · rintro ⟨r, a⟩ ⟨hr, ha⟩
       have ha : a ++ A9 r (ns.getD i 0) = A9 w (ns.getD i 0) := ha
       have hr : r ≤ w := hr
       cases r with
       | zero =>
         refine sq (sO (mV rfl (mF rfl (mn (cF rfl ?_)))))
         exact ExM.exit (.inl ⟨rfl, (), trivial, Ac rfl (by rw [show a = A9 w (ns.getD i 0) from by rw [← ha]; simp [A9]]) (sb4 rfl rfl rfl rfl (((( sbC rfl (sbC rfl (sbN)))))))⟩)
       | succ j =>
         have hal : a.length + (j + 1) = w := by have := congrArg List.length ha; rw [lAp, Ao, Ao] at this; exact this
         have hn0 := hn i
         have hlt : (l ++ Gs w (ns.take i) ++ a).length ≤ 1000000 := by rw [lAp, lAp, Sr w ns (by omega)]; omega
         refine sq (sO (mV rfl (mT rfl (mn (cT rfl (kM (sq (bM ?_))))))))
         refine ExM.drawL hg ?_
         refine B1 (v := .ptr id 0) rfl rfl trivial (B1 (v := .ptr id 0) (Gt rfl (Ry hid)) rfl trivial (B1 (v := .ptr id 0) (F5 rfl (Ry hid)) rfl trivial (B1 (v := .int .i64 ((ns.getD i 0 : Nat) : Int)) rfl rfl trivial (qKv (v := .int .i64 ((j : Nat) : Int)) rfl rfl trivial (iE (by omega)) (qKv (v := .int .i64 ((8 * j : Nat) : Int)) rfl rfl trivial (B8 (by omega) (by omega) (by omega)) (B1 rfl rfl (by simp only [Af, and_true]; omega) (qKv (v := .int .u8 ((UInt8.ofNat (ns.getD i 0 / 256 ^ j)).toNat : Nat)) rfl rfl trivial (A0e (by omega)) (G8 (?_)))))))))
         refine Zb rfl rfl (by have h := wbU (b := UInt8.ofNat (ns.getD i 0 / 256 ^ j)) hg (hbU (l ++ Gs w (ns.take i) ++ a)) (Ry hid) (us_jd hjd hne) hlt; rw [us_us hne] at h; exact h) ?_
         refine oM (mK (v := .int .i64 ((j : Nat) : Int)) rfl (iE (by omega)) (mK (v := .int .i64 (((j : Nat) : Int) - 1)) rfl (B8 (by omega) (by omega) rfl) (x1 rfl ?_)))
         exact ⟨⟨j, a ++ [UInt8.ofNat (ns.getD i 0 / 256 ^ j)]⟩, ⟨by omega, by show a ++ [UInt8.ofNat (ns.getD i 0 / 256 ^ j)] ++ A9 j (ns.getD i 0) = _; rw [← ha, List.append_assoc]; rfl⟩, by show j < j + 1; omega, Ac rfl (by rw [← List.append_assoc]) (sb4 rfl rfl rfl rfl (((( sbC rfl (sbC rfl (sbC rfl (sbN))))))))⟩
     · rintro _ s' hJ hs
       refine ExM.sub hs ?_
       refine oM (mI ((i + 1 : Nat) : Int) rfl (x1 rfl ?_))
       exact ⟨(i + 1), (by omega : i + 1 ≤ ns.length), (by show ns.length - (i + 1) < ns.length - i; omega), Ac rfl (by rw [Yz hlt, List.append_assoc]) (sb4 rfl rfl rfl rfl (((( sbC rfl (sbN))))))⟩
   · have he : i = ns.length := by omega
     refine sO (mF rfl (mn (sq (cF rfl ?_))))
     exact ExM.exit (.inl ⟨rfl, (), trivial, Ac rfl (by rw [he, List.take_length]) (sbN)⟩)
 · rintro _ s' hJ hs
   exact (A4 (rs := []) (vs := []) trivial rfl rfl hs.H.symm : Lp [] H.length (.tup []) (us H id jd at_ (l ++ Gs w ns)) .normal s')
theorem Gg {H : Hz} {n id off : Nat} (h : id < n) : FzV H n (.ptr id off) (.ptr id off) := .inl ⟨1, by simp only [frz, Gn h, cond_true]⟩
theorem A11 {H : Hz} {n k id off len : Nat} {c : Option Nat} (h : id < n) : FzV H n (.hsl k id off len c) (.hsl k id off len c) := .inl ⟨1, by simp only [frz, Gn h, cond_true]⟩
theorem Qn (l : List Bz) : (Ba l).length = l.length := by simp [Ba]
theorem oLoadS {s : St} {x : AOpd} {id n T : Nat} {l : List Bz} (hx : ev G s x = some (.ptr id n)) (ho : s.H[id]? = some (.cells T (Ba l) false)) (hn : n < l.length) : aop G s (.load 1 false x) = some (.val (.str (l.getD n [])) s.H []) :=
 Nw hx ho (by
  have hlt : n < (Ba l).length := by rw [Qn]; exact hn
  rw [Bg, List.drop_eq_getElem_cons hlt]
  simp only [Ba, List.getElem_map, List.getD_eq_getElem?_getD, gGe hn, Option.getD_some]
  rfl)
def pf (H : Hz) (id : Nat) (at_ : AVal) (b : UInt8) (l : Bz) : Hz := H.set id (.cells 135 [.ptr id 0, .hsl 1 (H.length + 1) 0 l.length none, at_] false) ++ [.cells 5 [.int .u8 (b.toNat : Nat)] false, .cells 5 (u8c l) true]
section
variable {H : Hz} {id : Nat} {at_ : AVal} {b : UInt8} {l k : Bz}
theorem pf_len : (pf H id at_ b l).length = H.length + 2 := by simp [pf]
theorem A30 (h : id < H.length) : (pf H id at_ b l)[id]? = some (.cells 135 [.ptr id 0, .hsl 1 (H.length + 1) 0 l.length none, at_] false) := gA (gT h)
theorem pf_jd : (pf H id at_ b l)[H.length + 1]? = some (.cells 5 (u8c l) true) := by
 have h := gL2 (H := H.set id (.cells 135 [.ptr id 0, .hsl 1 (H.length + 1) 0 l.length none, at_] false)) (o := .cells 5 [.int .u8 (b.toNat : Nat)] false) (x := .cells 5 (u8c l) true)
 rw [List.length_set] at h
 exact h
theorem pf_us (h : id < H.length) : us (pf H id at_ b l) id (H.length + 1) at_ k = pf H id at_ b k := by
 unfold us pf
 apply List.ext_getElem?
 intro i
 have hl1 : (H.set id (.cells 135 [.ptr id 0, .hsl 1 (H.length + 1) 0 l.length none, at_] false)).length = H.length := List.length_set
 by_cases hi : i = id
 · subst hi
   rw [List.getElem?_set_self (by simp; omega)]
   exact (gA (gT h)).symm
 · rw [List.getElem?_set_ne (Ne.symm hi)]
   by_cases hi2 : i = H.length + 1
   · subst hi2
     rw [List.getElem?_set_self (by simp)]
     exact (pf_jd (at_ := at_) (b := b)).symm
   · rw [List.getElem?_set_ne (Ne.symm hi2)]
     by_cases hi3 : i < H.length
     · rw [List.getElem?_append_left (by rw [List.length_set]; exact hi3), List.getElem?_append_left (by rw [List.length_set]; exact hi3), List.getElem?_set_ne (Ne.symm hi), List.getElem?_set_ne (Ne.symm hi)]
     · rw [List.getElem?_append_right (by rw [List.length_set]; omega), List.getElem?_append_right (by rw [List.length_set]; omega), List.length_set, List.length_set]
       have : i - H.length = 0 ∨ ∃ j, i - H.length = j + 2 := by
        rcases Nat.lt_or_ge (i - H.length) 2 with h | h
        · left; omega
        · right; exact ⟨i - H.length - 2, by omega⟩
       rcases this with e | ⟨j, e⟩ <;> rw [e] <;> simp
theorem pf_blw {T : TypeId} {c0 c1 : AVal} (hb : B2 H.length H = true) (ho : H[id]? = some (.cells T [c0, c1, at_] false)) : B2 (H.length + 2) (pf H id at_ b l) = true := by
 have hid := gLt ho
 have h0 := A00 hb ho
 have h1 : blw H.length at_ = true := by
  simp only [A8] at h0
  cases h2 : blw H.length c0 <;> rw [h2] at h0 <;> first | cases h0 | skip
  cases h3 : blw H.length c1 <;> rw [h3] at h0 <;> first | cases h0 | skip
  cases h4 : blw H.length at_ <;> rw [h4] at h0 <;> first | cases h0 | rfl
 have h1' := O0 (Nat.le_add_right H.length 2) _ h1
 refine F3 (Qs (Hn (Nat.le_add_right _ 2) hb) ?_) ?_
 · have h2 : Nat.blt id (H.length + 2) = true := by rw [Nat.blt_eq]; omega
   have h3 : Nat.blt (H.length + 1) (H.length + 2) = true := by rw [Nat.blt_eq]; omega
   simp only [B2, A8, blw, h1', h2, h3, cond_true]
 · simp only [B2, A8, blw, cond_true, Bo]
end
theorem Zu (hg : hGr W0 G) {H : Hz} {id sd n : Nat} {at_ : AVal} {cp : Option Nat} (hb : B2 H.length H = true) (ho : H[id]? = some (.cells 135 [.nilPtr, .nilSl, at_] false)) (hs : H[sd]? = some (.cells 3 (B4 [n]) false)) (hn : n < 9223372036854775808) : cP W0 66 [.ptr id 0, .int .i64 1, .hsl 1 sd 0 1 cp] H (.tup []) (pf H id at_ (UInt8.ofNat (n / 256 ^ 0)) (A9 1 n)) := by
 have hid := gLt ho
 refine oF QG66 ?_
 refine sO (x3 rfl rfl rfl (bM ?_))
 refine ExM.unroll 2 ?_
 refine Ep.step ?_
 refine sO (mT rfl (mn (sq (cT rfl (kM (sq (bM (sO (mS (v := .ptr sd 0) (A3i rfl rfl hs) (mV (v := .int .i64 ((n : Nat) : Int)) (Xv (l := [n]) (n := 0) rfl hs (Nat.zero_lt_one)) (x1 rfl (sO (mV rfl (mK (v := .int .i64 0) rfl rfl (x1 rfl (bM ?_))))))))))))))))
 refine ExM.unroll 2 ?_
 refine Ep.step ?_
 refine sq (sO (mV rfl (mT rfl (mn (cT rfl (kM (sq (bM ?_))))))))
 refine ExM.drawL hg ?_
 refine qV rfl (B1 (v := .ptr id 0) (Gt rfl ho) rfl trivial (B1 (v := .ptr id 0) (F5 rfl ho) rfl trivial (qV rfl (qV rfl (qKv (v := .int .i64 ((8 * 0 : Nat) : Int)) rfl rfl trivial rfl (B1 rfl rfl (by simp only [Af, and_true]; decide) (qKv (v := .int .u8 ((UInt8.ofNat (n / 256 ^ 0)).toNat : Nat)) rfl rfl trivial (A0e (by decide)) (G8 (?_)))))))))
 refine Zb rfl rfl (show cP W0 124 [.ptr id 0, .int .u8 ((UInt8.ofNat (n / 256 ^ 0)).toNat : Nat)] H .nilIf (pf H id at_ (UInt8.ofNat (n / 256 ^ 0)) [(UInt8.ofNat (n / 256 ^ 0))]) from wbF hg ho) ?_
 refine oM (mV rfl (mK (v := .int .i64 (0 - 1)) rfl rfl (x1 rfl ?_)))
 refine Ep.step ?_
 refine sq (sO (mV rfl (mF rfl (mn (cF rfl ?_)))))
 refine ExM.exit ?_
 refine oM (mKs (v := .int .i64 1) rfl rfl (x1 rfl ?_))
 refine Ep.step ?_
 refine sO (mF rfl (mn (sq (cF rfl ?_))))
 exact ExM.exit ⟨trivial, [], rfl, .inl ⟨rfl, rfl⟩⟩
theorem putF2 (hg : hGr W0 G) {H : Hz} {id sd n : Nat} {at_ : AVal} {cp : Option Nat} (hb : B2 H.length H = true) (ho : H[id]? = some (.cells 135 [.nilPtr, .nilSl, at_] false)) (hs : H[sd]? = some (.cells 3 (B4 [n]) false)) (hn : n < 9223372036854775808) : cP W0 66 [.ptr id 0, .int .i64 2, .hsl 1 sd 0 1 cp] H (.tup []) (pf H id at_ (UInt8.ofNat (n / 256 ^ 1)) (A9 2 n)) := by
 have hid := gLt ho
 refine oF QG66 ?_
 refine sO (x3 rfl rfl rfl (bM ?_))
 refine ExM.unroll 2 ?_
 refine Ep.step ?_
 refine sO (mT rfl (mn (sq (cT rfl (kM (sq (bM (sO (mS (v := .ptr sd 0) (A3i rfl rfl hs) (mV (v := .int .i64 ((n : Nat) : Int)) (Xv (l := [n]) (n := 0) rfl hs (Nat.zero_lt_one)) (x1 rfl (sO (mV rfl (mK (v := .int .i64 1) rfl rfl (x1 rfl (bM ?_))))))))))))))))
 refine ExM.unroll 3 ?_
 refine Ep.step ?_
 refine sq (sO (mV rfl (mT rfl (mn (cT rfl (kM (sq (bM ?_))))))))
 refine ExM.drawL hg ?_
 refine qV rfl (B1 (v := .ptr id 0) (Gt rfl ho) rfl trivial (B1 (v := .ptr id 0) (F5 rfl ho) rfl trivial (qV rfl (qV rfl (qKv (v := .int .i64 ((8 * 1 : Nat) : Int)) rfl rfl trivial rfl (B1 rfl rfl (by simp only [Af, and_true]; decide) (qKv (v := .int .u8 ((UInt8.ofNat (n / 256 ^ 1)).toNat : Nat)) rfl rfl trivial (A0e (by decide)) (G8 (?_)))))))))
 refine Zb rfl rfl (show cP W0 124 [.ptr id 0, .int .u8 ((UInt8.ofNat (n / 256 ^ 1)).toNat : Nat)] H .nilIf (pf H id at_ (UInt8.ofNat (n / 256 ^ 1)) [(UInt8.ofNat (n / 256 ^ 1))]) from wbF hg ho) ?_
 refine oM (mV rfl (mK (v := .int .i64 (1 - 1)) rfl rfl (x1 rfl ?_)))
 refine Ep.step ?_
 refine sq (sO (mV rfl (mT rfl (mn (cT rfl (kM (sq (bM ?_))))))))
 refine ExM.drawL hg ?_
 refine qV rfl (B1 (v := .ptr id 0) (Gt rfl (A30 hid)) rfl trivial (B1 (v := .ptr id 0) (F5 rfl (A30 hid)) rfl trivial (qV rfl (qV rfl (qKv (v := .int .i64 ((8 * 0 : Nat) : Int)) rfl rfl trivial rfl (B1 rfl rfl (by simp only [Af, and_true]; decide) (qKv (v := .int .u8 ((UInt8.ofNat (n / 256 ^ 0)).toNat : Nat)) rfl rfl trivial (A0e (by decide)) (G8 (?_)))))))))
 refine Zb rfl rfl (by have h := wbU (b := (UInt8.ofNat (n / 256 ^ 0))) (l := [(UInt8.ofNat (n / 256 ^ 1))]) (jd := H.length + 1) (H := pf H id at_ (UInt8.ofNat (n / 256 ^ 1)) [(UInt8.ofNat (n / 256 ^ 1))]) hg (by rw [pf_len]; exact pf_blw hb ho) (A30 hid) pf_jd (by simp); rw [pf_us hid] at h; exact h) ?_
 refine oM (mV rfl (mK (v := .int .i64 (0 - 1)) rfl rfl (x1 rfl ?_)))
 refine Ep.step ?_
 refine sq (sO (mV rfl (mF rfl (mn (cF rfl ?_)))))
 refine ExM.exit ?_
 refine oM (mKs (v := .int .i64 1) rfl rfl (x1 rfl ?_))
 refine Ep.step ?_
 refine sO (mF rfl (mn (sq (cF rfl ?_))))
 exact ExM.exit ⟨trivial, [], rfl, .inl ⟨rfl, rfl⟩⟩
def txB (ix : Bz → Nat) (ss : List Bz) : Bz := ss.flatMap fun s => A9 2 (ix s)
theorem A2u {ix : Bz → Nat} {ss : List Bz} {i : Nat} (h : i < ss.length) : txB ix (ss.take (i + 1)) = txB ix (ss.take i) ++ A9 2 (ix (ss.getD i [])) := by
 rw [List.take_succ_eq_append_getElem h, List.getD_eq_getElem?_getD, gGe h]
 simp only [txB, List.flatMap_append, List.flatMap_cons, List.flatMap_nil, List.append_nil, Option.getD_some]
theorem Zr (ix : Bz → Nat) : ∀ (ss : List Bz), (txB ix ss).length = ss.length * 2
 | [] => rfl
 | s :: r => by
   have := Zr ix r
   simp only [txB, List.flatMap_cons, lAp, Ao, lCo] at this ⊢
   omega
theorem Sv (w n : Nat) : Gs w [n] = A9 w n := by simp [Gs]
theorem A2o {s : St} {m k : AOpd} {md : Nat} {es : List (Bz × Int)} {q : Bz} {x : Nat} (hm : ev G s m = some (.mref md)) (hk : ev G s k = some (.str q)) (ho : s.H[md]? = some (.mp es)) (h : Ln es q = (x : Nat)) : aop G s (.mapGet m k) = some (.val (.int .i64 ((x : Nat) : Int)) s.H []) := by
 rw [oMapGet hm hk ho, h]
theorem textU (hg : hGr W0 G) {H : Hz} {id jd sd md : Nat} {l : Bz} {ss : List Bz} {cp : Option Nat} {es : List (Bz × Int)} {ix : Bz → Nat} (hb : B2 H.length H = true) (ho : H[id]? = some (.cells 135 [.ptr id 0, .hsl 1 jd 0 l.length none, .mref md] false)) (hj : H[jd]? = some (.cells 5 (u8c l) true)) (hs : H[sd]? = some (.cells 9 (Ba ss) false)) (hm : H[md]? = some (.mp es)) (hl : l.length + ss.length * 2 ≤ 1000000) (hix : ∀ i, i < ss.length → Ln es (ss.getD i []) = (ix (ss.getD i []) : Nat)) (hixb : ∀ s, ix s < 9223372036854775808) : cP W0 123 [.ptr id 0, .hsl 1 sd 0 ss.length cp] H (.tup []) (us H id jd (.mref md) (l ++ txB ix ss)) := by
 have hid := gLt ho
 have hjd := gLt hj
 have hsd := gLt hs
 have hne : id ≠ jd := fun e => by subst e; rw [ho] at hj; cases hj
 have hsi : id ≠ sd := fun e => by subst e; rw [ho] at hs; cases hs
 have hsj : jd ≠ sd := fun e => by subst e; rw [hj] at hs; cases hs
 have hmi : id ≠ md := fun e => by subst e; rw [ho] at hm; cases hm
 have hmj : jd ≠ md := fun e => by subst e; rw [hj] at hm; cases hm
 have hsU : ∀ {k : Bz}, (us H id jd (.mref md) k)[sd]? = some (.cells 9 (Ba ss) false) := fun {k} => A33 hsi hsj hs
 have hmU : ∀ {k : Bz}, (us H id jd (.mref md) k)[md]? = some (.mp es) := fun {k} => A33 hmi hmj hm
 have hbA : ∀ {k : Bz} {n : Nat}, B2 (us H id jd (.mref md) k ++ [A2.cells 3 (B4 [n]) false]).length (us H id jd (.mref md) k ++ [A2.cells 3 (B4 [n]) false]) = true := fun {k n} => by
  rw [lAp, M8]
  exact F3 (Hn (Nat.le_add_right _ _) (Um hb ho hid hjd)) rfl
 refine oF QG123 ?_
 refine sO (x3 rfl rfl rfl (bM ?_))
 refine ExM.loopJ (σ := Nat) (τ := Unit) (fun i => ⟨.al [(0, .ptr id 0), (6, .hsl 1 sd 0 ss.length cp), (7, .int .i64 ((ss.length : Nat) : Int)), (8, .int .i64 ((i : Nat) : Int))], us H id jd (.mref md) (l ++ txB ix (ss.take i)), 22⟩) (fun i => i ≤ ss.length) (fun i => ss.length - i) 0 0 (fun _ => ⟨.al [], us H id jd (.mref md) (l ++ txB ix ss), 22⟩) (fun _ => True) (Ac rfl (by rw [List.take_zero]; show us H id jd (.mref md) (l ++ []) = H; rw [List.append_nil]; exact Zo ho hj) (sb4 rfl rfl rfl rfl (((( sbN)))))) (Nat.zero_le _) ?_ ?_
 · rintro i hi
   have hi : i ≤ ss.length := hi
   by_cases hlt : i < ss.length
   · have hbl : (l ++ txB ix (ss.take i)).length + 1 * 2 ≤ 1000000 := by rw [lAp, Zr, List.length_take]; omega
     refine sO (mT rfl (mn (sq (cT rfl (kM (sq (bM (sO (mS (v := .ptr sd i) (A3i rfl rfl hsU) (mV (v := .str (ss.getD i [])) (oLoadS rfl hsU hlt) (x1 rfl (oM (m2 rfl rfl (mV (v := .ptr id 0) (Gt rfl (Ry hid)) (mV (v := .ptr id 2) (F5 rfl (Ry hid)) (mV (v := .mref md) (Nw rfl (Ry hid) rfl) (mV rfl (mV (v := .int .i64 ((ix (ss.getD i []) : Nat) : Int)) (A2o rfl rfl hmU (hix i hlt)) (mK (v := .hsl 1 H.length 0 [ix (ss.getD i [])].length (some 1)) rfl (congrArg (fun n => AVal.hsl 1 n 0 1 (some 1)) M8) (mC rfl (by have h := putU (H := us H id jd (.mref md) (l ++ txB ix (ss.take i)) ++ [.cells 3 (B4 [ix (ss.getD i [])]) false]) (sd := H.length) (ns := [ix (ss.getD i [])]) (w := 2) (cp := some 1) hg hbA (gA (Ry hid)) (gA (us_jd hjd hne)) (by rw [← M8 (H := H) (id := id) (jd := jd) (at_ := .mref md) (l := l ++ txB ix (ss.take i))]; exact gL) (by decide) (by simp) hbl (fun j => by cases j <;> simp [hixb]); rw [us_app (by rw [M8]; exact hid) (by rw [M8]; exact hjd), us_us hne, Sv] at h; exact h) (mn (oM ?_))))))))))))))))))))))
     refine mFz (s1 := ⟨.al [(0, .ptr id 0), (6, .hsl 1 sd 0 ss.length cp), (7, .int .i64 ((ss.length : Nat) : Int)), (8, .int .i64 ((i : Nat) : Int))], us H id jd (.mref md) (l ++ txB ix (ss.take i) ++ A9 2 (ix (ss.getD i []))), 22⟩) (Ae H.length rfl (Nat.le_refl _) V4 (Um hb ho hid hjd) (fzC rfl (Gg hid) (fzC rfl (A11 hsd) (fI (fI fzN))))) ?_
     refine mI ((i + 1 : Nat) : Int) rfl (x1 rfl ?_)
     exact ⟨(i + 1), (by omega : i + 1 ≤ ss.length), (by show ss.length - (i + 1) < ss.length - i; omega), Ac rfl (by rw [A2u hlt, List.append_assoc]) (sb4 rfl rfl rfl rfl (((( sbN)))))⟩
   · have he : i = ss.length := by omega
     refine sO (mF rfl (mn (sq (cF rfl ?_))))
     exact ExM.exit (.inl ⟨rfl, (), trivial, Ac rfl (by rw [he, List.take_length]) (sbN)⟩)
 · rintro _ s' hJ hs
   exact (A4 (rs := []) (vs := []) trivial rfl rfl hs.H.symm : Lp [] H.length (.tup []) (us H id jd (.mref md) (l ++ txB ix ss)) .normal s')
section
variable {α : Type} {f : α → AVal} {l : List α} {d : α} {s : St}
theorem He {x i : AOpd} {k n : Nat} (hx : ev G s x = some (.row k (l.map f))) (hi : ev G s i = some (.int .i64 ((n : Nat) : Int))) (hk : Nat.ble 1 k = true) (hlt : n < l.length) : aop G s (.idxSl k x i) = some (.val (.eptr (f (l.getD n d)) 0) s.H [(0, (n : Nat)), ((n : Nat) + 1, (l.length : Nat))]) := by
 have h1 : (l.map f).getD n .nilIf = f (l.getD n d) := by
  rw [List.getD_eq_getElem?_getD, List.getElem?_map, List.getD_eq_getElem?_getD, gGe hlt]; rfl
 simp only [aop, hx, hi, Int.toNat_natCast, h1, hk, Nat.beq_refl, Bool.and_self, cond_true, List.length_map]
theorem Fe {x : AOpd} {k : Nat} (hx : ev G s x = some (.row k (l.map f))) : aop G s (.len false x) = some (.val (.int .i64 ((l.length : Nat) : Int)) s.H []) := by
 simp only [aop, hx, A0w, List.length_map]
 rfl
end
theorem Lh {α : Type} {f : α → Bz} {l : List α} {i : Nat} (d : α) (h : i < l.length) : (l.take (i + 1)).flatMap f = (l.take i).flatMap f ++ f (l.getD i d) := by
 rw [List.take_succ_eq_append_getElem h, List.getD_eq_getElem?_getD, gGe h]
 simp only [List.flatMap_append, List.flatMap_cons, List.flatMap_nil, List.append_nil, Option.getD_some]
theorem Gh {α : Type} {f : α → Bz} {w : Nat} (hf : ∀ x, (f x).length = w) : ∀ (l : List α), (l.flatMap f).length = l.length * w
 | [] => by simp
 | x :: r => by
   rw [List.flatMap_cons, lAp, hf, Gh hf r, lCo, Nat.add_mul]; omega
theorem fm_le {α : Type} {f : α → Bz} {l : List α} {i : Nat} (d : α) (h : i < l.length) : ((l.take i).flatMap f).length + (f (l.getD i d)).length ≤ (l.flatMap f).length := by
 have h1 := congrArg List.length (Lh (f := f) d h)
 rw [lAp] at h1
 rw [← h1]
 conv => rhs; rw [← List.take_append_drop (i + 1) l]
 rw [List.flatMap_append, lAp]
 omega
structure PCl where
 r : Nat
 c : Nat
 s : Bz
structure PSh where
 nm : Bz
 cs : List PCl
def pc0 : PCl := ⟨0, 0, []⟩
def ps0 : PSh := ⟨[], []⟩
def pcV (c : PCl) : AVal := .agg [.int .i64 ((c.r : Nat) : Int), .int .i64 ((c.c : Nat) : Int), .str c.s]
def psV (s : PSh) : AVal := .agg [.str s.nm, .row 3 (s.cs.map pcV)]
def clB (ix : Bz → Nat) (cs : List PCl) : Bz := cs.flatMap (fun c => A9 1 c.r) ++ (cs.flatMap (fun c => A9 1 c.c) ++ cs.flatMap (fun c => A9 2 (ix c.s)))
def shB (ix : Bz → Nat) (s : PSh) : Bz := A9 2 (ix s.nm) ++ (A9 2 s.cs.length ++ clB ix s.cs)
def Ft (ix : Bz → Nat) (l : List PSh) : Bz := A9 1 l.length ++ l.flatMap (shB ix)
theorem clB_len {ix : Bz → Nat} {cs : List PCl} : (clB ix cs).length = cs.length * 4 := by
 unfold clB
 rw [lAp, lAp, Gh (w := 1) (fun _ => Ao _ _), Gh (w := 1) (fun _ => Ao _ _), Gh (w := 2) (fun _ => Ao _ _)]; omega
theorem V3 {ix : Bz → Nat} {s : PSh} : (shB ix s).length = 4 + s.cs.length * 4 := by
 unfold shB
 rw [lAp, lAp, Ao, Ao, clB_len]; omega
def wbH (es : List (Bz × Int)) (bk : List AVal) (n0 : Nat) (b0 : UInt8) (l : Bz) : Hz := [.cells 135 [.ptr 0 0, .hsl 1 5 0 l.length none, .mref 1] false, .mp es, .cells 42 bk false, .cells 3 (B4 [n0]) false, .cells 5 [.int .u8 (b0.toNat : Nat)] false, .cells 5 (u8c l) true]
theorem wbH_blw {es : List (Bz × Int)} {bk : List AVal} {n0 : Nat} {b0 : UInt8} {l : Bz} {n : Nat} (hbk : ∀ n, A8 n bk = true) (h : 6 ≤ n) : B2 n (wbH es bk n0 b0 l) = true := by
 have h0 : Nat.blt 0 n = true := Gn (by omega)
 have h1 : Nat.blt 1 n = true := Gn (by omega)
 have h5 : Nat.blt 5 n = true := Gn (by omega)
 simp only [wbH, B2, A8, blw, hbk, As, Bo, h0, h1, h5, cond_true]
theorem B3 {n : Nat} : ∀ (l : List PCl), A8 n (l.map pcV) = true
 | [] => rfl
 | _ :: l => by simp only [List.map_cons, A8, pcV, blw, cond_true]; exact B3 l
theorem Ai {n : Nat} : ∀ (l : List PSh), A8 n (l.map psV) = true
 | [] => rfl
 | _ :: l => by simp only [List.map_cons, A8, psV, blw, cond_true, B3]; exact Ai l
theorem Qo (hg : hGr W0 G) {H : Hz} {id jd sd w n : Nat} {at_ : AVal} {l : Bz} {cp : Option Nat} (hb : B2 H.length H = true) (ho : H[id]? = some (.cells 135 [.ptr id 0, .hsl 1 jd 0 l.length none, at_] false)) (hj : H[jd]? = some (.cells 5 (u8c l) true)) (hs : H[sd]? = some (.cells 3 [.int .i64 ((n : Nat) : Int)] false)) (hw : w ≤ 8) (hl : l.length + w ≤ 1000000) (hn : n < 9223372036854775808) : cP W0 66 [.ptr id 0, .int .i64 ((w : Nat) : Int), .hsl 1 sd 0 1 cp] H (.tup []) (us H id jd at_ (l ++ A9 w n)) := by
 have h := putU (ns := [n]) (cp := cp) hg hb ho hj hs hw (by simp) (by rw [List.length_singleton, Nat.one_mul]; exact hl) (fun i => by cases i <;> simp [hn])
 rw [Sv] at h
 exact h
theorem A2z (hg : hGr W0 G) {H : Hz} {id jd sd md : Nat} {l : Bz} {q : Bz} {cp : Option Nat} {es : List (Bz × Int)} {ix : Bz → Nat} (hb : B2 H.length H = true) (ho : H[id]? = some (.cells 135 [.ptr id 0, .hsl 1 jd 0 l.length none, .mref md] false)) (hj : H[jd]? = some (.cells 5 (u8c l) true)) (hs : H[sd]? = some (.cells 9 [.str q] false)) (hm : H[md]? = some (.mp es)) (hl : l.length + 2 ≤ 1000000) (hix : Ln es q = (ix q : Nat)) (hixb : ∀ s, ix s < 9223372036854775808) : cP W0 123 [.ptr id 0, .hsl 1 sd 0 1 cp] H (.tup []) (us H id jd (.mref md) (l ++ A9 2 (ix q))) := by
 have h := textU (ss := [q]) (cp := cp) (ix := ix) hg hb ho hj hs hm (by simpa using hl) (fun i hi => by
  have : i = 0 := by simpa using hi
  subst this; exact hix) hixb
 have e : txB ix [q] = A9 2 (ix q) := by simp [txB]
 rw [e] at h
 exact h
def QF62 : AFn := ⟨(sQ [wV 3 (.box 42 1)] (sQ [wM 12 0, wV 13 (.fieldAddr 0 3), wV 14 (.load 1 false 13), wV 15 (.len false 14), wV 16 (.bslice 3 1 1 [.int .i64 0] [(0, 1, 15)]), wV 17 (kF 66 [12, (vI 1), 16])] (sQ [wV 18 (.fieldAddr 0 3), wV 19 (.load 1 false 18), wV 20 (.len false 19), wV 21 (.move (vI 0))] (.block 0 (.loop (sQ [wV 22 (.bin .lss none 21 20)] (.seq (.cond 22 .skip (.exit 0)) (.seq (.block 1 (sQ [wV 23 (.idxSl 2 19 21), wV 24 (.load 2 true 23), wV 5 (.alloc 36 Qf), wN (.store 2 5 24)] (sQ [wM 25 0, wV 26 (.fieldAddr 0 5), wV 27 (.load 1 false 26), wV 28 (.bslice 9 1 1 [.str []] [(0, 1, 27)]), wV 29 (kF 123 [25, 28])] (sQ [wM 30 0, wV 31 (.fieldAddr 1 5), wV 32 (.load 1 false 31), wV 33 (.len false 32), wV 34 (.bslice 3 1 1 [.int .i64 0] [(0, 1, 33)]), wV 35 (kF 66 [30, (vI 2), 34])] (.seq (sQ [wV 36 (.fieldAddr 1 5), wV 37 (.load 1 false 36), wV 38 (.len false 37), wV 39 (.move (vI 0))] (.block 2 (.loop (sQ [wV 40 (.bin .lss none 39 38)] (.seq (.cond 40 .skip (.exit 2)) (.seq (.block 3 (sQ [wV 41 (.idxSl 3 37 39), wV 42 (.load 3 true 41), wV 7 (.alloc 33 z8L), wN (.store 3 7 42)] (.ops [wM 43 0, wV 44 (.fieldAddr 0 7), wV 45 (.load 1 false 44), wV 46 (.bslice 3 1 1 [.int .i64 0] [(0, 1, 45)]), wV 47 (kF 66 [43, (vI 1), 46])]))) (.ops [wV 48 (.bin .add none 39 (vI 1)), wM 39 48]))))))) (.seq (sQ [wV 49 (.fieldAddr 1 5), wV 50 (.load 1 false 49), wV 51 (.len false 50), wV 52 (.move (vI 0))] (.block 4 (.loop (sQ [wV 53 (.bin .lss none 52 51)] (.seq (.cond 53 .skip (.exit 4)) (.seq (.block 5 (sQ [wV 54 (.idxSl 3 50 52), wV 55 (.load 3 true 54), wV 9 (.alloc 33 z8L), wN (.store 3 9 55)] (.ops [wM 56 0, wV 57 (.fieldAddr 1 9), wV 58 (.load 1 false 57), wV 59 (.bslice 3 1 1 [.int .i64 0] [(0, 1, 58)]), wV 60 (kF 66 [56, (vI 1), 59])]))) (.ops [wV 61 (.bin .add none 52 (vI 1)), wM 52 61]))))))) (sQ [wV 62 (.fieldAddr 1 5), wV 63 (.load 1 false 62), wV 64 (.len false 63), wV 65 (.move (vI 0))] (.block 6 (.loop (sQ [wV 66 (.bin .lss none 65 64)] (.seq (.cond 66 .skip (.exit 6)) (.seq (.block 7 (sQ [wV 67 (.idxSl 3 63 65), wV 68 (.load 3 true 67), wV 11 (.alloc 33 z8L), wN (.store 3 11 68)] (.ops [wM 69 0, wV 70 (.fieldAddr 2 11), wV 71 (.load 1 false 70), wV 72 (.bslice 9 1 1 [.str []] [(0, 1, 71)]), wV 73 (kF 123 [69, 72])]))) (.ops [wV 74 (.bin .add none 65 (vI 1)), wM 65 74]))))))))))))) (.ops [wV 75 (.bin .add none 21 (vI 1)), wM 21 75]))))))))), [], 76⟩
theorem QG62 : Ab Tryz.prog 62 = some QF62 := by kernel_rfl
theorem sheetsP (hg : hGr W0 G) {es : List (Bz × Int)} {bkr : List AVal} {shs : List PSh} {ix : Bz → Nat} (hc : ∀ n, A8 n bkr = true) (h1 : ∀ i, i < shs.length → Ln es (shs.getD i ps0).nm = (ix (shs.getD i ps0).nm : Nat)) (h2 : ∀ i, i < shs.length → ∀ j, j < (shs.getD i ps0).cs.length → Ln es ((shs.getD i ps0).cs.getD j pc0).s = (ix ((shs.getD i ps0).cs.getD j pc0).s : Nat) ∧ ((shs.getD i ps0).cs.getD j pc0).r < 9223372036854775808 ∧ ((shs.getD i ps0).cs.getD j pc0).c < 9223372036854775808) (h3 : ∀ s, ix s < 9223372036854775808) (hl : (Ft ix shs).length ≤ 1000000) :
 cP W0 62 [.ptr 0 0, .agg (.row 2 (shs.map psV) :: bkr)] [.cells 135 [.nilPtr, .nilSl, .mref 1] false, .mp es] (.tup []) (wbH es (.row 2 (shs.map psV) :: bkr) shs.length (UInt8.ofNat (shs.length / 256 ^ 0)) (Ft ix shs)) := by
 have hbk : ∀ n, A8 n (.row 2 (shs.map psV) :: bkr) = true := fun n => by
  show cond (A8 n (shs.map psV)) (A8 n bkr) false = true
  rw [Ai, hc]; rfl
 have hsl : shs.length ≤ 1000000 := by
  have q := hl
  rw [Ft, lAp] at q
  have : ∀ l : List PSh, l.length ≤ (l.flatMap (shB ix)).length := fun l => by
   induction l with
   | nil => exact Nat.le_refl _
   | cons x r ih => rw [List.flatMap_cons, lAp, V3, lCo]; omega
  have := this shs
  omega
 refine oF QG62 ?_
 refine sO (mV (v := .ptr 2 0) rfl (mn (sO (m3 rfl rfl rfl (mV (v := .int .i64 ((shs.length : Nat) : Int)) (Fe rfl) (mV (v := .hsl 1 3 0 1 (some 1)) rfl (mC rfl (Zu (n := shs.length) (H := [A2.cells 135 [.nilPtr, .nilSl, .mref 1] false, A2.mp es, A2.cells 42 (.row 2 (shs.map psV) :: bkr) false, A2.cells 3 [.int .i64 ((shs.length : Nat) : Int)] false]) hg (by simp only [B2, A8, blw, hc, Ai, cond_true, lCo, lNi]; rfl) rfl rfl (by omega)) (mn (sO (m2 rfl rfl (mV (v := .int .i64 ((shs.length : Nat) : Int)) (Fe rfl) (x1 rfl (bM ?_)))))))))))))
 refine ExM.loopJ (σ := Nat) (τ := Unit) (fun i => ⟨.al [(0, .ptr 0 0), (19, .row 2 (shs.map psV)), (20, .int .i64 ((shs.length : Nat) : Int)), (21, .int .i64 ((i : Nat) : Int))], wbH es (.row 2 (shs.map psV) :: bkr) shs.length (UInt8.ofNat (shs.length / 256 ^ 0)) (A9 1 shs.length ++ (shs.take i).flatMap (shB ix)), 76⟩) (fun i => i ≤ shs.length) (fun i => shs.length - i) 0 0 (fun _ => ⟨.al [], wbH es (.row 2 (shs.map psV) :: bkr) shs.length (UInt8.ofNat (shs.length / 256 ^ 0)) (Ft ix shs), 76⟩) (fun _ => True) (Ac rfl (by rw [List.take_zero, List.flatMap_nil, List.append_nil]; rfl) (sb4 rfl rfl rfl rfl (((( sbN)))))) (Nat.zero_le _) ?_ ?_
 · rintro i hi
   have hi : i ≤ shs.length := hi
   by_cases hlt : i < shs.length
   · have hb : (A9 1 shs.length ++ (shs.take i).flatMap (shB ix)).length + (4 + (shs.getD i ps0).cs.length * 4) ≤ 1000000 := by
      have q := fm_le (f := shB ix) ps0 hlt
      rw [V3] at q
      simp only [Ft, lAp] at hl ⊢
      omega
     have hb1 : (A9 1 shs.length ++ (shs.take i).flatMap (shB ix)).length + 2 ≤ 1000000 := by omega
     have hb2 : (A9 1 shs.length ++ (shs.take i).flatMap (shB ix) ++ A9 2 (ix (shs.getD i ps0).nm)).length + 2 ≤ 1000000 := by rw [lAp, Ao]; omega
     refine sO (mT rfl (mn (sq (cT rfl (kM (sq (bM (sO (mS (v := .eptr (psV (shs.getD i ps0)) 0) (He rfl rfl rfl hlt) (mV rfl (mV (v := .ptr 6 0) rfl (A6 hg gN rfl (mn (sO (m3 rfl rfl rfl (mV (v := .hsl 1 7 0 1 (some 1)) rfl (mC rfl (A2z (q := (shs.getD i ps0).nm) (ix := ix) (H := wbH es (.row 2 (shs.map psV) :: bkr) shs.length (UInt8.ofNat (shs.length / 256 ^ 0)) (A9 1 shs.length ++ (shs.take i).flatMap (shB ix)) ++ [A2.cells 36 [.str (shs.getD i ps0).nm, .row 3 ((shs.getD i ps0).cs.map pcV)] false, A2.cells 9 [.str (shs.getD i ps0).nm] false]) hg (by simp only [B2, A8, blw, hc, Bo, B3, Ai, cond_true, lCo, lNi, lAp, wbH, List.cons_append, List.nil_append, B4, List.map]; rfl) rfl rfl rfl rfl hb1 (h1 i hlt) h3) (mn (sq ?_)))))))))))))))))))
     refine ExM.sub (s1 := ⟨.al [(0, .ptr 0 0), (5, .ptr 6 0), (19, .row 2 (shs.map psV)), (20, .int .i64 ((shs.length : Nat) : Int)), (21, .int .i64 ((i : Nat) : Int))], wbH es (.row 2 (shs.map psV) :: bkr) shs.length (UInt8.ofNat (shs.length / 256 ^ 0)) (A9 1 shs.length ++ (shs.take i).flatMap (shB ix) ++ A9 2 (ix (shs.getD i ps0).nm)) ++ [A2.cells 36 [.str (shs.getD i ps0).nm, .row 3 ((shs.getD i ps0).cs.map pcV)] false, A2.cells 9 [.str (shs.getD i ps0).nm] false], 76⟩) (Ac rfl rfl (sb4 rfl rfl rfl rfl (((( sbC rfl (sbN))))))) ?_
     refine oM (m3 rfl rfl rfl (mV (v := .int .i64 (((shs.getD i ps0).cs.length : Nat) : Int)) (Fe rfl) (mV (v := .hsl 1 8 0 1 (some 1)) rfl (mC rfl (Qo (w := 2) (n := (shs.getD i ps0).cs.length) (H := wbH es (.row 2 (shs.map psV) :: bkr) shs.length (UInt8.ofNat (shs.length / 256 ^ 0)) (A9 1 shs.length ++ (shs.take i).flatMap (shB ix) ++ A9 2 (ix (shs.getD i ps0).nm)) ++ [A2.cells 36 [.str (shs.getD i ps0).nm, .row 3 ((shs.getD i ps0).cs.map pcV)] false, A2.cells 9 [.str (shs.getD i ps0).nm] false, A2.cells 3 [.int .i64 (((shs.getD i ps0).cs.length : Nat) : Int)] false]) hg (by simp only [B2, A8, blw, hc, Bo, B3, Ai, cond_true, lCo, lNi, lAp, wbH, List.cons_append, List.nil_append, B4, List.map]; rfl) rfl rfl rfl (by decide) hb2 (by omega)) (mn (sq (sq ?_)))))))
     refine ExM.sub (s1 := ⟨.al [(0, .ptr 0 0), (5, .ptr 6 0), (19, .row 2 (shs.map psV)), (20, .int .i64 ((shs.length : Nat) : Int)), (21, .int .i64 ((i : Nat) : Int))], wbH es (.row 2 (shs.map psV) :: bkr) shs.length (UInt8.ofNat (shs.length / 256 ^ 0)) (A9 1 shs.length ++ (shs.take i).flatMap (shB ix) ++ A9 2 (ix (shs.getD i ps0).nm) ++ A9 2 (shs.getD i ps0).cs.length) ++ [A2.cells 36 [.str (shs.getD i ps0).nm, .row 3 ((shs.getD i ps0).cs.map pcV)] false, A2.cells 9 [.str (shs.getD i ps0).nm] false, A2.cells 3 [.int .i64 (((shs.getD i ps0).cs.length : Nat) : Int)] false], 76⟩) (Ac rfl rfl (sb4 rfl rfl rfl rfl (((( sbC rfl (sbN))))))) ?_
     refine oM (m2 rfl rfl (mV (v := .int .i64 (((shs.getD i ps0).cs.length : Nat) : Int)) (Fe rfl) (x1 rfl (bM ?_))))
     refine ExM.loopJ (σ := Nat) (τ := Unit) (fun j => ⟨.al [(0, .ptr 0 0), (5, .ptr 6 0), (19, .row 2 (shs.map psV)), (20, .int .i64 ((shs.length : Nat) : Int)), (21, .int .i64 ((i : Nat) : Int)), (37, .row 3 ((shs.getD i ps0).cs.map pcV)), (38, .int .i64 (((shs.getD i ps0).cs.length : Nat) : Int)), (39, .int .i64 ((j : Nat) : Int))], wbH es (.row 2 (shs.map psV) :: bkr) shs.length (UInt8.ofNat (shs.length / 256 ^ 0)) (A9 1 shs.length ++ (shs.take i).flatMap (shB ix) ++ A9 2 (ix (shs.getD i ps0).nm) ++ A9 2 (shs.getD i ps0).cs.length ++ ((shs.getD i ps0).cs.take j).flatMap (fun c => A9 1 c.r)) ++ [A2.cells 36 [.str (shs.getD i ps0).nm, .row 3 ((shs.getD i ps0).cs.map pcV)] false, A2.cells 9 [.str (shs.getD i ps0).nm] false, A2.cells 3 [.int .i64 (((shs.getD i ps0).cs.length : Nat) : Int)] false], 76⟩) (fun j => j ≤ (shs.getD i ps0).cs.length) (fun j => (shs.getD i ps0).cs.length - j) 0 2 (fun _ => ⟨.al [(0, .ptr 0 0), (5, .ptr 6 0), (19, .row 2 (shs.map psV)), (20, .int .i64 ((shs.length : Nat) : Int)), (21, .int .i64 ((i : Nat) : Int))], wbH es (.row 2 (shs.map psV) :: bkr) shs.length (UInt8.ofNat (shs.length / 256 ^ 0)) (A9 1 shs.length ++ (shs.take i).flatMap (shB ix) ++ A9 2 (ix (shs.getD i ps0).nm) ++ A9 2 (shs.getD i ps0).cs.length ++ (shs.getD i ps0).cs.flatMap (fun c => A9 1 c.r)) ++ [A2.cells 36 [.str (shs.getD i ps0).nm, .row 3 ((shs.getD i ps0).cs.map pcV)] false, A2.cells 9 [.str (shs.getD i ps0).nm] false, A2.cells 3 [.int .i64 (((shs.getD i ps0).cs.length : Nat) : Int)] false], 76⟩) (fun _ => True) (Ac rfl (by rw [List.take_zero, List.flatMap_nil, List.append_nil]) (sb4 rfl rfl rfl rfl (((( sb4 rfl rfl rfl rfl (((( sbN)))))))))) (Nat.zero_le _) ?_ ?_
     · rintro j hj
       have hj : j ≤ (shs.getD i ps0).cs.length := hj
       by_cases hjl : j < (shs.getD i ps0).cs.length
       · obtain ⟨c1, c2, c3⟩ := h2 i hlt j hjl
         have hcl : (A9 1 shs.length ++ (shs.take i).flatMap (shB ix) ++ A9 2 (ix (shs.getD i ps0).nm) ++ A9 2 (shs.getD i ps0).cs.length ++ ((shs.getD i ps0).cs.take j).flatMap (fun c => A9 1 c.r)).length + 2 ≤ 1000000 := by
          have q0 := Gh (f := fun c : PCl => A9 1 c.r) (w := 1) (fun _ => Ao _ _) (shs.getD i ps0).cs
          have q1 := Gh (f := fun c : PCl => A9 1 c.c) (w := 1) (fun _ => Ao _ _) (shs.getD i ps0).cs
          have q2 := Gh (f := fun c : PCl => A9 1 c.r) (w := 1) (fun _ => Ao _ _) ((shs.getD i ps0).cs.take j)
          rw [List.length_take, Nat.min_eq_left hj] at q2
          simp only [lAp, Ao] at hb ⊢
          omega
         refine sO (mT rfl (mn (sq (cT rfl (kM (sq (bM (sO (mS (v := .eptr (pcV ((shs.getD i ps0).cs.getD j pc0)) 0) (He rfl rfl rfl hjl) (mV rfl (mV (v := .ptr 9 0) rfl (A6 hg gN rfl (mn (oM (m3 rfl rfl rfl (mV (v := .hsl 1 10 0 1 (some 1)) rfl (mC rfl (Qo (w := 1) (n := ((shs.getD i ps0).cs.getD j pc0).r) (H := wbH es (.row 2 (shs.map psV) :: bkr) shs.length (UInt8.ofNat (shs.length / 256 ^ 0)) (A9 1 shs.length ++ (shs.take i).flatMap (shB ix) ++ A9 2 (ix (shs.getD i ps0).nm) ++ A9 2 (shs.getD i ps0).cs.length ++ ((shs.getD i ps0).cs.take j).flatMap (fun c => A9 1 c.r)) ++ [A2.cells 36 [.str (shs.getD i ps0).nm, .row 3 ((shs.getD i ps0).cs.map pcV)] false, A2.cells 9 [.str (shs.getD i ps0).nm] false, A2.cells 3 [.int .i64 (((shs.getD i ps0).cs.length : Nat) : Int)] false] ++ [A2.cells 33 [.int .i64 ((((shs.getD i ps0).cs.getD j pc0).r : Nat) : Int), .int .i64 ((((shs.getD i ps0).cs.getD j pc0).c : Nat) : Int), .str ((shs.getD i ps0).cs.getD j pc0).s] false, A2.cells 3 [.int .i64 ((((shs.getD i ps0).cs.getD j pc0).r : Nat) : Int)] false]) hg (by simp only [B2, A8, blw, hc, Bo, B3, Ai, cond_true, lCo, lNi, lAp, wbH, List.cons_append, List.nil_append, B4, List.map]; rfl) rfl rfl rfl (by decide) (by omega) (by omega)) (mn (oM ?_)))))))))))))))))))
         refine mFz (s1 := ⟨.al [(0, .ptr 0 0), (5, .ptr 6 0), (19, .row 2 (shs.map psV)), (20, .int .i64 ((shs.length : Nat) : Int)), (21, .int .i64 ((i : Nat) : Int)), (37, .row 3 ((shs.getD i ps0).cs.map pcV)), (38, .int .i64 (((shs.getD i ps0).cs.length : Nat) : Int)), (39, .int .i64 ((j : Nat) : Int))], wbH es (.row 2 (shs.map psV) :: bkr) shs.length (UInt8.ofNat (shs.length / 256 ^ 0)) (A9 1 shs.length ++ (shs.take i).flatMap (shB ix) ++ A9 2 (ix (shs.getD i ps0).nm) ++ A9 2 (shs.getD i ps0).cs.length ++ ((shs.getD i ps0).cs.take j).flatMap (fun c => A9 1 c.r) ++ A9 1 ((shs.getD i ps0).cs.getD j pc0).r) ++ [A2.cells 36 [.str (shs.getD i ps0).nm, .row 3 ((shs.getD i ps0).cs.map pcV)] false, A2.cells 9 [.str (shs.getD i ps0).nm] false, A2.cells 3 [.int .i64 (((shs.getD i ps0).cs.length : Nat) : Int)] false], 76⟩) (Ae 9 rfl (Nat.le_of_ble_eq_true rfl) rfl (by simp only [B2, A8, blw, hc, Bo, B3, Ai, cond_true, lAp, wbH, List.cons_append, List.nil_append, B4, List.map]; rfl) (fzC rfl (Gg (by decide)) (fzC rfl (Gg (by decide)) (fzC rfl (Ir (Ai _)) (fI (fI (fzC rfl (Ir (B3 _)) (fI (fI fzN))))))))) ?_
         refine mI ((j + 1 : Nat) : Int) rfl (x1 rfl ?_)
         exact ⟨(j + 1), (by omega : j + 1 ≤ (shs.getD i ps0).cs.length), (by show (shs.getD i ps0).cs.length - (j + 1) < (shs.getD i ps0).cs.length - j; omega), Ac rfl (by rw [Lh pc0 hjl, ← List.append_assoc]) (sb4 rfl rfl rfl rfl (((( sb4 rfl rfl rfl rfl (((( sbN)))))))))⟩
       · have he : j = (shs.getD i ps0).cs.length := by omega
         refine sO (mF rfl (mn (sq (cF rfl ?_))))
         exact ExM.exit (.inl ⟨rfl, (), trivial, Ac rfl (by rw [he, List.take_length]) (sb4 rfl rfl rfl rfl (((( sbC rfl (sbN))))))⟩)
     · rintro _ s' hJ hs
       refine ExM.sub hs ?_
       refine sq (sO (m2 rfl rfl (mV (v := .int .i64 (((shs.getD i ps0).cs.length : Nat) : Int)) (Fe rfl) (x1 rfl (bM ?_)))))
       refine ExM.loopJ (σ := Nat) (τ := Unit) (fun j => ⟨.al [(0, .ptr 0 0), (5, .ptr 6 0), (19, .row 2 (shs.map psV)), (20, .int .i64 ((shs.length : Nat) : Int)), (21, .int .i64 ((i : Nat) : Int)), (50, .row 3 ((shs.getD i ps0).cs.map pcV)), (51, .int .i64 (((shs.getD i ps0).cs.length : Nat) : Int)), (52, .int .i64 ((j : Nat) : Int))], wbH es (.row 2 (shs.map psV) :: bkr) shs.length (UInt8.ofNat (shs.length / 256 ^ 0)) (A9 1 shs.length ++ (shs.take i).flatMap (shB ix) ++ A9 2 (ix (shs.getD i ps0).nm) ++ A9 2 (shs.getD i ps0).cs.length ++ (shs.getD i ps0).cs.flatMap (fun c => A9 1 c.r) ++ ((shs.getD i ps0).cs.take j).flatMap (fun c => A9 1 c.c)) ++ [A2.cells 36 [.str (shs.getD i ps0).nm, .row 3 ((shs.getD i ps0).cs.map pcV)] false, A2.cells 9 [.str (shs.getD i ps0).nm] false, A2.cells 3 [.int .i64 (((shs.getD i ps0).cs.length : Nat) : Int)] false], 76⟩) (fun j => j ≤ (shs.getD i ps0).cs.length) (fun j => (shs.getD i ps0).cs.length - j) 0 4 (fun _ => ⟨.al [(0, .ptr 0 0), (5, .ptr 6 0), (19, .row 2 (shs.map psV)), (20, .int .i64 ((shs.length : Nat) : Int)), (21, .int .i64 ((i : Nat) : Int))], wbH es (.row 2 (shs.map psV) :: bkr) shs.length (UInt8.ofNat (shs.length / 256 ^ 0)) (A9 1 shs.length ++ (shs.take i).flatMap (shB ix) ++ A9 2 (ix (shs.getD i ps0).nm) ++ A9 2 (shs.getD i ps0).cs.length ++ (shs.getD i ps0).cs.flatMap (fun c => A9 1 c.r) ++ (shs.getD i ps0).cs.flatMap (fun c => A9 1 c.c)) ++ [A2.cells 36 [.str (shs.getD i ps0).nm, .row 3 ((shs.getD i ps0).cs.map pcV)] false, A2.cells 9 [.str (shs.getD i ps0).nm] false, A2.cells 3 [.int .i64 (((shs.getD i ps0).cs.length : Nat) : Int)] false], 76⟩) (fun _ => True) (Ac rfl (by rw [List.take_zero, List.flatMap_nil, List.append_nil]) (sb4 rfl rfl rfl rfl (((( sb4 rfl rfl rfl rfl (((( sbN)))))))))) (Nat.zero_le _) ?_ ?_
       · rintro j hj
         have hj : j ≤ (shs.getD i ps0).cs.length := hj
         by_cases hjl : j < (shs.getD i ps0).cs.length
         · obtain ⟨c1, c2, c3⟩ := h2 i hlt j hjl
           have hcl : (A9 1 shs.length ++ (shs.take i).flatMap (shB ix) ++ A9 2 (ix (shs.getD i ps0).nm) ++ A9 2 (shs.getD i ps0).cs.length ++ (shs.getD i ps0).cs.flatMap (fun c => A9 1 c.r) ++ ((shs.getD i ps0).cs.take j).flatMap (fun c => A9 1 c.c)).length + 2 ≤ 1000000 := by
            have q0 := Gh (f := fun c : PCl => A9 1 c.r) (w := 1) (fun _ => Ao _ _) (shs.getD i ps0).cs
            have q1 := Gh (f := fun c : PCl => A9 1 c.c) (w := 1) (fun _ => Ao _ _) (shs.getD i ps0).cs
            have q2 := Gh (f := fun c : PCl => A9 1 c.c) (w := 1) (fun _ => Ao _ _) ((shs.getD i ps0).cs.take j)
            rw [List.length_take, Nat.min_eq_left hj] at q2
            simp only [lAp, Ao] at hb ⊢
            omega
           refine sO (mT rfl (mn (sq (cT rfl (kM (sq (bM (sO (mS (v := .eptr (pcV ((shs.getD i ps0).cs.getD j pc0)) 0) (He rfl rfl rfl hjl) (mV rfl (mV (v := .ptr 9 0) rfl (A6 hg gN rfl (mn (oM (m3 rfl rfl rfl (mV (v := .hsl 1 10 0 1 (some 1)) rfl (mC rfl (Qo (w := 1) (n := ((shs.getD i ps0).cs.getD j pc0).c) (H := wbH es (.row 2 (shs.map psV) :: bkr) shs.length (UInt8.ofNat (shs.length / 256 ^ 0)) (A9 1 shs.length ++ (shs.take i).flatMap (shB ix) ++ A9 2 (ix (shs.getD i ps0).nm) ++ A9 2 (shs.getD i ps0).cs.length ++ (shs.getD i ps0).cs.flatMap (fun c => A9 1 c.r) ++ ((shs.getD i ps0).cs.take j).flatMap (fun c => A9 1 c.c)) ++ [A2.cells 36 [.str (shs.getD i ps0).nm, .row 3 ((shs.getD i ps0).cs.map pcV)] false, A2.cells 9 [.str (shs.getD i ps0).nm] false, A2.cells 3 [.int .i64 (((shs.getD i ps0).cs.length : Nat) : Int)] false] ++ [A2.cells 33 [.int .i64 ((((shs.getD i ps0).cs.getD j pc0).r : Nat) : Int), .int .i64 ((((shs.getD i ps0).cs.getD j pc0).c : Nat) : Int), .str ((shs.getD i ps0).cs.getD j pc0).s] false, A2.cells 3 [.int .i64 ((((shs.getD i ps0).cs.getD j pc0).c : Nat) : Int)] false]) hg (by simp only [B2, A8, blw, hc, Bo, B3, Ai, cond_true, lCo, lNi, lAp, wbH, List.cons_append, List.nil_append, B4, List.map]; rfl) rfl rfl rfl (by decide) (by omega) (by omega)) (mn (oM ?_)))))))))))))))))))
           refine mFz (s1 := ⟨.al [(0, .ptr 0 0), (5, .ptr 6 0), (19, .row 2 (shs.map psV)), (20, .int .i64 ((shs.length : Nat) : Int)), (21, .int .i64 ((i : Nat) : Int)), (50, .row 3 ((shs.getD i ps0).cs.map pcV)), (51, .int .i64 (((shs.getD i ps0).cs.length : Nat) : Int)), (52, .int .i64 ((j : Nat) : Int))], wbH es (.row 2 (shs.map psV) :: bkr) shs.length (UInt8.ofNat (shs.length / 256 ^ 0)) (A9 1 shs.length ++ (shs.take i).flatMap (shB ix) ++ A9 2 (ix (shs.getD i ps0).nm) ++ A9 2 (shs.getD i ps0).cs.length ++ (shs.getD i ps0).cs.flatMap (fun c => A9 1 c.r) ++ ((shs.getD i ps0).cs.take j).flatMap (fun c => A9 1 c.c) ++ A9 1 ((shs.getD i ps0).cs.getD j pc0).c) ++ [A2.cells 36 [.str (shs.getD i ps0).nm, .row 3 ((shs.getD i ps0).cs.map pcV)] false, A2.cells 9 [.str (shs.getD i ps0).nm] false, A2.cells 3 [.int .i64 (((shs.getD i ps0).cs.length : Nat) : Int)] false], 76⟩) (Ae 9 rfl (Nat.le_of_ble_eq_true rfl) rfl (by simp only [B2, A8, blw, hc, Bo, B3, Ai, cond_true, lAp, wbH, List.cons_append, List.nil_append, B4, List.map]; rfl) (fzC rfl (Gg (by decide)) (fzC rfl (Gg (by decide)) (fzC rfl (Ir (Ai _)) (fI (fI (fzC rfl (Ir (B3 _)) (fI (fI fzN))))))))) ?_
           refine mI ((j + 1 : Nat) : Int) rfl (x1 rfl ?_)
           exact ⟨(j + 1), (by omega : j + 1 ≤ (shs.getD i ps0).cs.length), (by show (shs.getD i ps0).cs.length - (j + 1) < (shs.getD i ps0).cs.length - j; omega), Ac rfl (by rw [Lh pc0 hjl, ← List.append_assoc]) (sb4 rfl rfl rfl rfl (((( sb4 rfl rfl rfl rfl (((( sbN)))))))))⟩
         · have he : j = (shs.getD i ps0).cs.length := by omega
           refine sO (mF rfl (mn (sq (cF rfl ?_))))
           exact ExM.exit (.inl ⟨rfl, (), trivial, Ac rfl (by rw [he, List.take_length]) (sb4 rfl rfl rfl rfl (((( sbC rfl (sbN))))))⟩)
       · rintro _ s' hJ hs
         refine ExM.sub hs ?_
         refine sO (m2 rfl rfl (mV (v := .int .i64 (((shs.getD i ps0).cs.length : Nat) : Int)) (Fe rfl) (x1 rfl (bM ?_))))
         refine ExM.loopJ (σ := Nat) (τ := Unit) (fun j => ⟨.al [(0, .ptr 0 0), (5, .ptr 6 0), (19, .row 2 (shs.map psV)), (20, .int .i64 ((shs.length : Nat) : Int)), (21, .int .i64 ((i : Nat) : Int)), (63, .row 3 ((shs.getD i ps0).cs.map pcV)), (64, .int .i64 (((shs.getD i ps0).cs.length : Nat) : Int)), (65, .int .i64 ((j : Nat) : Int))], wbH es (.row 2 (shs.map psV) :: bkr) shs.length (UInt8.ofNat (shs.length / 256 ^ 0)) (A9 1 shs.length ++ (shs.take i).flatMap (shB ix) ++ A9 2 (ix (shs.getD i ps0).nm) ++ A9 2 (shs.getD i ps0).cs.length ++ (shs.getD i ps0).cs.flatMap (fun c => A9 1 c.r) ++ (shs.getD i ps0).cs.flatMap (fun c => A9 1 c.c) ++ ((shs.getD i ps0).cs.take j).flatMap (fun c => A9 2 (ix c.s))) ++ [A2.cells 36 [.str (shs.getD i ps0).nm, .row 3 ((shs.getD i ps0).cs.map pcV)] false, A2.cells 9 [.str (shs.getD i ps0).nm] false, A2.cells 3 [.int .i64 (((shs.getD i ps0).cs.length : Nat) : Int)] false], 76⟩) (fun j => j ≤ (shs.getD i ps0).cs.length) (fun j => (shs.getD i ps0).cs.length - j) 0 6 (fun _ => ⟨.al [(0, .ptr 0 0), (5, .ptr 6 0), (19, .row 2 (shs.map psV)), (20, .int .i64 ((shs.length : Nat) : Int)), (21, .int .i64 ((i : Nat) : Int))], wbH es (.row 2 (shs.map psV) :: bkr) shs.length (UInt8.ofNat (shs.length / 256 ^ 0)) (A9 1 shs.length ++ (shs.take i).flatMap (shB ix) ++ A9 2 (ix (shs.getD i ps0).nm) ++ A9 2 (shs.getD i ps0).cs.length ++ (shs.getD i ps0).cs.flatMap (fun c => A9 1 c.r) ++ (shs.getD i ps0).cs.flatMap (fun c => A9 1 c.c) ++ (shs.getD i ps0).cs.flatMap (fun c => A9 2 (ix c.s))) ++ [A2.cells 36 [.str (shs.getD i ps0).nm, .row 3 ((shs.getD i ps0).cs.map pcV)] false, A2.cells 9 [.str (shs.getD i ps0).nm] false, A2.cells 3 [.int .i64 (((shs.getD i ps0).cs.length : Nat) : Int)] false], 76⟩) (fun _ => True) (Ac rfl (by rw [List.take_zero, List.flatMap_nil, List.append_nil]) (sb4 rfl rfl rfl rfl (((( sb4 rfl rfl rfl rfl (((( sbN)))))))))) (Nat.zero_le _) ?_ ?_
         · rintro j hj
           have hj : j ≤ (shs.getD i ps0).cs.length := hj
           by_cases hjl : j < (shs.getD i ps0).cs.length
           · obtain ⟨c1, c2, c3⟩ := h2 i hlt j hjl
             have hcl : (A9 1 shs.length ++ (shs.take i).flatMap (shB ix) ++ A9 2 (ix (shs.getD i ps0).nm) ++ A9 2 (shs.getD i ps0).cs.length ++ (shs.getD i ps0).cs.flatMap (fun c => A9 1 c.r) ++ (shs.getD i ps0).cs.flatMap (fun c => A9 1 c.c) ++ ((shs.getD i ps0).cs.take j).flatMap (fun c => A9 2 (ix c.s))).length + 2 ≤ 1000000 := by
              have q0 := Gh (f := fun c : PCl => A9 1 c.r) (w := 1) (fun _ => Ao _ _) (shs.getD i ps0).cs
              have q1 := Gh (f := fun c : PCl => A9 1 c.c) (w := 1) (fun _ => Ao _ _) (shs.getD i ps0).cs
              have q2 := Gh (f := fun c : PCl => A9 2 (ix c.s)) (w := 2) (fun _ => Ao _ _) ((shs.getD i ps0).cs.take j)
              rw [List.length_take, Nat.min_eq_left hj] at q2
              simp only [lAp, Ao] at hb ⊢
              omega
             refine sO (mT rfl (mn (sq (cT rfl (kM (sq (bM (sO (mS (v := .eptr (pcV ((shs.getD i ps0).cs.getD j pc0)) 0) (He rfl rfl rfl hjl) (mV rfl (mV (v := .ptr 9 0) rfl (A6 hg gN rfl (mn (oM (m3 rfl rfl rfl (mV (v := .hsl 1 10 0 1 (some 1)) rfl (mC rfl (A2z (q := ((shs.getD i ps0).cs.getD j pc0).s) (ix := ix) (H := wbH es (.row 2 (shs.map psV) :: bkr) shs.length (UInt8.ofNat (shs.length / 256 ^ 0)) (A9 1 shs.length ++ (shs.take i).flatMap (shB ix) ++ A9 2 (ix (shs.getD i ps0).nm) ++ A9 2 (shs.getD i ps0).cs.length ++ (shs.getD i ps0).cs.flatMap (fun c => A9 1 c.r) ++ (shs.getD i ps0).cs.flatMap (fun c => A9 1 c.c) ++ ((shs.getD i ps0).cs.take j).flatMap (fun c => A9 2 (ix c.s))) ++ [A2.cells 36 [.str (shs.getD i ps0).nm, .row 3 ((shs.getD i ps0).cs.map pcV)] false, A2.cells 9 [.str (shs.getD i ps0).nm] false, A2.cells 3 [.int .i64 (((shs.getD i ps0).cs.length : Nat) : Int)] false] ++ [A2.cells 33 [.int .i64 ((((shs.getD i ps0).cs.getD j pc0).r : Nat) : Int), .int .i64 ((((shs.getD i ps0).cs.getD j pc0).c : Nat) : Int), .str ((shs.getD i ps0).cs.getD j pc0).s] false, A2.cells 9 [.str ((shs.getD i ps0).cs.getD j pc0).s] false]) hg (by simp only [B2, A8, blw, hc, Bo, B3, Ai, cond_true, lCo, lNi, lAp, wbH, List.cons_append, List.nil_append, B4, List.map]; rfl) rfl rfl rfl rfl hcl c1 h3) (mn (oM ?_)))))))))))))))))))
             refine mFz (s1 := ⟨.al [(0, .ptr 0 0), (5, .ptr 6 0), (19, .row 2 (shs.map psV)), (20, .int .i64 ((shs.length : Nat) : Int)), (21, .int .i64 ((i : Nat) : Int)), (63, .row 3 ((shs.getD i ps0).cs.map pcV)), (64, .int .i64 (((shs.getD i ps0).cs.length : Nat) : Int)), (65, .int .i64 ((j : Nat) : Int))], wbH es (.row 2 (shs.map psV) :: bkr) shs.length (UInt8.ofNat (shs.length / 256 ^ 0)) (A9 1 shs.length ++ (shs.take i).flatMap (shB ix) ++ A9 2 (ix (shs.getD i ps0).nm) ++ A9 2 (shs.getD i ps0).cs.length ++ (shs.getD i ps0).cs.flatMap (fun c => A9 1 c.r) ++ (shs.getD i ps0).cs.flatMap (fun c => A9 1 c.c) ++ ((shs.getD i ps0).cs.take j).flatMap (fun c => A9 2 (ix c.s)) ++ A9 2 (ix ((shs.getD i ps0).cs.getD j pc0).s)) ++ [A2.cells 36 [.str (shs.getD i ps0).nm, .row 3 ((shs.getD i ps0).cs.map pcV)] false, A2.cells 9 [.str (shs.getD i ps0).nm] false, A2.cells 3 [.int .i64 (((shs.getD i ps0).cs.length : Nat) : Int)] false], 76⟩) (Ae 9 rfl (Nat.le_of_ble_eq_true rfl) rfl (by simp only [B2, A8, blw, hc, Bo, B3, Ai, cond_true, lAp, wbH, List.cons_append, List.nil_append, B4, List.map]; rfl) (fzC rfl (Gg (by decide)) (fzC rfl (Gg (by decide)) (fzC rfl (Ir (Ai _)) (fI (fI (fzC rfl (Ir (B3 _)) (fI (fI fzN))))))))) ?_
             refine mI ((j + 1 : Nat) : Int) rfl (x1 rfl ?_)
             exact ⟨(j + 1), (by omega : j + 1 ≤ (shs.getD i ps0).cs.length), (by show (shs.getD i ps0).cs.length - (j + 1) < (shs.getD i ps0).cs.length - j; omega), Ac rfl (by rw [Lh pc0 hjl, ← List.append_assoc]) (sb4 rfl rfl rfl rfl (((( sb4 rfl rfl rfl rfl (((( sbN)))))))))⟩
           · have he : j = (shs.getD i ps0).cs.length := by omega
             refine sO (mF rfl (mn (sq (cF rfl ?_))))
             exact ExM.exit (.inl ⟨rfl, (), trivial, Ac rfl (by rw [he, List.take_length]) (sb4 rfl rfl rfl rfl (((( sbC rfl (sbN))))))⟩)
         · rintro _ s' hJ hs
           refine ExM.sub hs ?_
           refine oM ?_
           refine mFz (s1 := ⟨.al [(0, .ptr 0 0), (19, .row 2 (shs.map psV)), (20, .int .i64 ((shs.length : Nat) : Int)), (21, .int .i64 ((i : Nat) : Int))], wbH es (.row 2 (shs.map psV) :: bkr) shs.length (UInt8.ofNat (shs.length / 256 ^ 0)) (A9 1 shs.length ++ (shs.take i).flatMap (shB ix) ++ A9 2 (ix (shs.getD i ps0).nm) ++ A9 2 (shs.getD i ps0).cs.length ++ (shs.getD i ps0).cs.flatMap (fun c => A9 1 c.r) ++ (shs.getD i ps0).cs.flatMap (fun c => A9 1 c.c) ++ (shs.getD i ps0).cs.flatMap (fun c => A9 2 (ix c.s))), 76⟩) (Ae 6 rfl (Nat.le_of_ble_eq_true rfl) rfl (wbH_blw hbk (by decide)) (fzC rfl (Gg (by decide)) (fzC rfl (Ir (Ai _)) (fI (fI fzN))))) ?_
           refine mI ((i + 1 : Nat) : Int) rfl (x1 rfl ?_)
           exact ⟨(i + 1), (by omega : i + 1 ≤ shs.length), (by show shs.length - (i + 1) < shs.length - i; omega), Ac rfl (by rw [Lh ps0 hlt]; simp only [shB, clB, List.append_assoc]) (sb4 rfl rfl rfl rfl (((( sbN)))))⟩
   · have he : i = shs.length := by omega
     refine sO (mF rfl (mn (sq (cF rfl ?_))))
     exact ExM.exit (.inl ⟨rfl, (), trivial, Ac rfl (by rw [he, List.take_length]; rfl) (sbN)⟩)
 · rintro _ s' hJ hs
   exact (A4 (rs := []) (vs := []) trivial rfl rfl hs.H.symm : Lp [] 2 (.tup []) (wbH es (.row 2 (shs.map psV) :: bkr) shs.length (UInt8.ofNat (shs.length / 256 ^ 0)) (Ft ix shs)) .normal s')
def dcB (s : Bz) : Bz := A9 2 s.length ++ s
def Ha (l : List Bz) : Bz := A9 2 l.length ++ l.flatMap dcB
def Ey (es : List (Bz × Int)) (hv bk : List AVal) (n0 : Nat) (b0 : UInt8) (l : Bz) : Hz := [.cells 135 [.ptr 0 0, .hsl 1 6 0 l.length none, .mref 1] false, .mp es, .cells 58 hv false, .cells 42 bk false, .cells 3 (B4 [n0]) false, .cells 5 [.int .u8 (b0.toNat : Nat)] false, .cells 5 (u8c l) true]
theorem A13 {es : List (Bz × Int)} {hv bk : List AVal} {n0 : Nat} {b0 : UInt8} {l : Bz} {n : Nat} (hhv : ∀ n, A8 n hv = true) (hbk : ∀ n, A8 n bk = true) (h : 7 ≤ n) : B2 n (Ey es hv bk n0 b0 l) = true := by
 have h0 : Nat.blt 0 n = true := Gn (by omega)
 have h1 : Nat.blt 1 n = true := Gn (by omega)
 have h5 : Nat.blt 6 n = true := Gn (by omega)
 simp only [Ey, B2, A8, blw, hbk, hhv, As, Bo, h0, h1, h5, cond_true]
theorem C7 {n : Nat} : ∀ (l : List Bz), A8 n (Ba l) = true
 | [] => rfl
 | _ :: l => C7 l
def QF61 : AFn := ⟨(sQ [wM 6 0, wM 7 1, wV 8 (.len false 7), wV 9 (.bslice 3 1 1 [.int .i64 0] [(0, 1, 8)]), wV 10 (kF 66 [6, (vI 2), 9])] (sQ [wM 11 1, wV 12 (.len false 11), wV 13 (.move (vI 0))] (.block 0 (.loop (sQ [wV 14 (.bin .lss none 13 12)] (.seq (.cond 14 .skip (.exit 0)) (.seq (.block 1 (sQ [wV 15 (.idxSl 1 11 13), wV 16 (.load 1 false 15), wM 5 16] (sQ [wM 17 0, wM 18 5, wV 19 (.len true 18), wV 20 (.bslice 3 1 1 [.int .i64 0] [(0, 1, 19)]), wV 21 (kF 66 [17, (vI 2), 20])] (.ops [wM 22 0, wV 23 (.nilCheck 22), wV 24 (.fieldAddr 0 23), wM 25 5, wV 26 (kF 59 [24, 25])])))) (.ops [wV 27 (.bin .add none 13 (vI 1)), wM 13 27])))))))), [], 28⟩
theorem QG61 : Ab Tryz.prog 61 = some QF61 := by kernel_rfl
def QF60 : AFn := ⟨(sQ [wV 4 (.box 42 1)] (.ops [wM 5 0, wV 6 (.load 1 false 2), wV 7 (kF 61 [5, 6])])), [], 8⟩
theorem QG60 : Ab Tryz.prog 60 = some QF60 := by kernel_rfl
theorem dictP (hg : hGr W0 G) {es : List (Bz × Int)} {hv bk : List AVal} {ss : List Bz} (hhv : ∀ n, A8 n hv = true) (hbk : ∀ n, A8 n bk = true) (hne : ∀ i, i < ss.length → ss.getD i [] ≠ []) (hl : (Ha ss).length ≤ 1000000) : cP W0 61 [.ptr 0 0, .row 1 (ss.map AVal.str)] [A2.cells 135 [.nilPtr, .nilSl, .mref 1] false, A2.mp es, A2.cells 58 hv false, A2.cells 42 bk false] (.tup []) (Ey es hv bk ss.length (UInt8.ofNat (ss.length / 256 ^ 1)) (Ha ss)) := by
 have hsl : ss.length ≤ 1000000 := by
  have q := hl
  rw [Ha, lAp] at q
  have : ∀ l : List Bz, l.length ≤ (l.flatMap dcB).length := fun l => by
   induction l with
   | nil => exact Nat.le_refl _
   | cons x r ih => rw [List.flatMap_cons, lAp, dcB, lAp, Ao, lCo]; omega
  have := this ss
  omega
 refine oF QG61 ?_
 refine sO (m2 rfl rfl (mV (v := .int .i64 ((ss.length : Nat) : Int)) (Fe rfl) (mV (v := .hsl 1 4 0 1 (some 1)) rfl (mC rfl (putF2 (n := ss.length) (H := [A2.cells 135 [.nilPtr, .nilSl, .mref 1] false, A2.mp es, A2.cells 58 hv false, A2.cells 42 bk false, A2.cells 3 [.int .i64 ((ss.length : Nat) : Int)] false]) hg (by simp only [B2, A8, blw, hbk, hhv, cond_true, lCo, lNi]; rfl) rfl rfl (by omega)) (mn (sO (mV rfl (mV (v := .int .i64 ((ss.length : Nat) : Int)) (Fe rfl) (x1 rfl (bM ?_))))))))))
 refine ExM.loopJ (σ := Nat) (τ := Unit) (fun i => ⟨.al [(0, .ptr 0 0), (11, .row 1 (ss.map AVal.str)), (12, .int .i64 ((ss.length : Nat) : Int)), (13, .int .i64 ((i : Nat) : Int))], Ey es hv bk ss.length (UInt8.ofNat (ss.length / 256 ^ 1)) (A9 2 ss.length ++ (ss.take i).flatMap dcB), 28⟩) (fun i => i ≤ ss.length) (fun i => ss.length - i) 0 0 (fun _ => ⟨.al [], Ey es hv bk ss.length (UInt8.ofNat (ss.length / 256 ^ 1)) (Ha ss), 28⟩) (fun _ => True) (Ac rfl (by rw [List.take_zero, List.flatMap_nil, List.append_nil]; rfl) (sb4 rfl rfl rfl rfl (((( sbN)))))) (Nat.zero_le _) ?_ ?_
 · rintro i hi
   have hi : i ≤ ss.length := hi
   by_cases hlt : i < ss.length
   · have hb : (A9 2 ss.length ++ (ss.take i).flatMap dcB).length + (2 + (ss.getD i []).length) ≤ 1000000 := by
      have q := fm_le (f := dcB) [] hlt
      rw [show (dcB (ss.getD i [])).length = 2 + (ss.getD i []).length from by rw [dcB, lAp, Ao]] at q
      simp only [Ha, lAp] at hl ⊢
      omega
     have hb2 : (A9 2 ss.length ++ (ss.take i).flatMap dcB ++ A9 2 (ss.getD i []).length).length + (ss.getD i []).length ≤ 1000000 := by rw [lAp, Ao]; omega
     refine sO (mT rfl (mn (sq (cT rfl (kM (sq (bM (sO (mS (v := .eptr (.str (ss.getD i [])) 0) (He rfl rfl rfl hlt) (mV (v := .str (ss.getD i [])) rfl (x1 rfl (sO (m3 rfl rfl rfl (mV (v := .hsl 1 7 0 1 (some 1)) rfl (mC rfl (Qo (w := 2) (n := (ss.getD i []).length) (H := Ey es hv bk ss.length (UInt8.ofNat (ss.length / 256 ^ 1)) (A9 2 ss.length ++ (ss.take i).flatMap dcB) ++ [A2.cells 3 [.int .i64 (((ss.getD i []).length : Nat) : Int)] false]) hg (by simp only [B2, A8, blw, hbk, hhv, Bo, cond_true, lCo, lNi, lAp, Ey, List.cons_append, List.nil_append, B4, List.map]; rfl) rfl rfl rfl (by decide) (by omega) (by omega)) (mn ?_))))))))))))))))
     refine ExM.sub (s1 := ⟨.al [(0, .ptr 0 0), (11, .row 1 (ss.map AVal.str)), (12, .int .i64 ((ss.length : Nat) : Int)), (13, .int .i64 ((i : Nat) : Int)), (5, .str (ss.getD i []))], Ey es hv bk ss.length (UInt8.ofNat (ss.length / 256 ^ 1)) (A9 2 ss.length ++ (ss.take i).flatMap dcB ++ A9 2 (ss.getD i []).length) ++ [A2.cells 3 [.int .i64 (((ss.getD i []).length : Nat) : Int)] false], 28⟩) (Ac rfl rfl (sb4 rfl rfl rfl rfl (((( sbC rfl (sbN))))))) ?_
     refine oM (m4 rfl rfl rfl rfl (mC rfl (wsU (k := (ss.getD i [])) (id := 0) (jd := 6) (H := Ey es hv bk ss.length (UInt8.ofNat (ss.length / 256 ^ 1)) (A9 2 ss.length ++ (ss.take i).flatMap dcB ++ A9 2 (ss.getD i []).length) ++ [A2.cells 3 [.int .i64 (((ss.getD i []).length : Nat) : Int)] false]) hg (hne i hlt) rfl rfl hb2) (mn (oM ?_))))
     refine mFz (s1 := ⟨.al [(0, .ptr 0 0), (11, .row 1 (ss.map AVal.str)), (12, .int .i64 ((ss.length : Nat) : Int)), (13, .int .i64 ((i : Nat) : Int))], Ey es hv bk ss.length (UInt8.ofNat (ss.length / 256 ^ 1)) (A9 2 ss.length ++ (ss.take i).flatMap dcB ++ A9 2 (ss.getD i []).length ++ (ss.getD i [])), 28⟩) (Ae 7 rfl (Nat.le_of_ble_eq_true rfl) rfl (A13 hhv hbk (by decide)) (fzC rfl (Gg (by decide)) (fzC rfl (Ir (C7 _)) (fI (fI fzN))))) ?_
     refine mI ((i + 1 : Nat) : Int) rfl (x1 rfl ?_)
     exact ⟨(i + 1), (by omega : i + 1 ≤ ss.length), (by show ss.length - (i + 1) < ss.length - i; omega), Ac rfl (by rw [Lh [] hlt]; simp only [dcB, List.append_assoc]) (sb4 rfl rfl rfl rfl (((( sbN)))))⟩
   · have he : i = ss.length := by omega
     refine sO (mF rfl (mn (sq (cF rfl ?_))))
     exact ExM.exit (.inl ⟨rfl, (), trivial, Ac rfl (by rw [he, List.take_length]; rfl) (sbN)⟩)
 · rintro _ s' hJ hs
   exact (A4 (rs := []) (vs := []) trivial rfl rfl hs.H.symm : Lp [] 4 (.tup []) (Ey es hv bk ss.length (UInt8.ofNat (ss.length / 256 ^ 1)) (Ha ss)) .normal s')
theorem dictF (hg : hGr W0 G) {es : List (Bz × Int)} {bk : List AVal} {ss : List Bz} (hbk : ∀ n, A8 n bk = true) (hne : ∀ i, i < ss.length → ss.getD i [] ≠ []) (hl : (Ha ss).length ≤ 1000000) : cP W0 60 [.ptr 0 0, .agg bk, .ptr 2 0] [.cells 135 [.nilPtr, .nilSl, .mref 1] false, .mp es, .cells 58 [.row 1 (ss.map AVal.str)] false] (.tup []) (Ey es [.row 1 (ss.map AVal.str)] bk ss.length (UInt8.ofNat (ss.length / 256 ^ 1)) (Ha ss)) := by
 refine oF QG60 ?_
 refine sO (mV (v := .ptr 3 0) rfl (mn (oM (m2 rfl rfl (mC rfl (dictP hg (fun n => by show cond (A8 n (ss.map AVal.str)) true false = true; rw [show ss.map AVal.str = Ba ss from rfl, C7]; rfl) hbk hne hl) (mn ?_))))))
 exact ⟨trivial, [], rfl, .inl ⟨rfl, rfl⟩⟩
def QF63 : AFn := ⟨(sQ [wV 3 (.box 42 1)] (sQ [wM 10 0, wV 11 (.fieldAddr 1 3), wV 12 (.load 1 false 11), wV 13 (.len false 12), wV 14 (.bslice 3 1 1 [.int .i64 0] [(0, 1, 13)]), wV 15 (kF 66 [10, (vI 1), 14])] (.seq (sQ [wV 16 (.fieldAddr 1 3), wV 17 (.load 1 false 16), wV 18 (.len false 17), wV 19 (.move (vI 0))] (.block 0 (.loop (sQ [wV 20 (.bin .lss none 19 18)] (.seq (.cond 20 .skip (.exit 0)) (.seq (.block 1 (sQ [wV 21 (.idxSl 3 17 19), wV 22 (.load 3 true 21), wV 5 (.alloc 88 A1l), wN (.store 3 5 22)] (.ops [wM 23 0, wV 24 (.fieldAddr 0 5), wV 25 (.load 1 false 24), wV 26 (.bslice 9 1 1 [.str []] [(0, 1, 25)]), wV 27 (kF 123 [23, 26])]))) (.ops [wV 28 (.bin .add none 19 (vI 1)), wM 19 28]))))))) (.seq (sQ [wV 29 (.fieldAddr 1 3), wV 30 (.load 1 false 29), wV 31 (.len false 30), wV 32 (.move (vI 0))] (.block 2 (.loop (sQ [wV 33 (.bin .lss none 32 31)] (.seq (.cond 33 .skip (.exit 2)) (.seq (.block 3 (sQ [wV 34 (.idxSl 3 30 32), wV 35 (.load 3 true 34), wV 7 (.alloc 88 A1l), wN (.store 3 7 35)] (.ops [wM 36 0, wV 37 (.fieldAddr 1 7), wV 38 (.load 1 false 37), wV 39 (.bin .add none 38 (vI 1)), wV 40 (.bslice 3 1 1 [.int .i64 0] [(0, 1, 39)]), wV 41 (kF 66 [36, (vI 1), 40])]))) (.ops [wV 42 (.bin .add none 32 (vI 1)), wM 32 42]))))))) (sQ [wV 43 (.fieldAddr 1 3), wV 44 (.load 1 false 43), wV 45 (.len false 44), wV 46 (.move (vI 0))] (.block 4 (.loop (sQ [wV 47 (.bin .lss none 46 45)] (.seq (.cond 47 .skip (.exit 4)) (.seq (.block 5 (sQ [wV 48 (.idxSl 3 44 46), wV 49 (.load 3 true 48), wV 9 (.alloc 88 A1l), wN (.store 3 9 49)] (.ops [wM 50 0, wV 51 (.fieldAddr 2 9), wV 52 (.load 1 false 51), wV 53 (.bslice 9 1 1 [.str []] [(0, 1, 52)]), wV 54 (kF 123 [50, 53])]))) (.ops [wV 55 (.bin .add none 46 (vI 1)), wM 46 55]))))))))))), [], 56⟩
theorem QG63 : Ab Tryz.prog 63 = some QF63 := by kernel_rfl
theorem none63 (hg : hGr W0 G) {es : List (Bz × Int)} {x : AVal} (hx : ∀ n, blw n x = true) : cP W0 63 [.ptr 0 0, .agg [x, .nilSl, .nilSl, .nilSl]] [.cells 135 [.nilPtr, .nilSl, .mref 1] false, .mp es] (.tup []) (wbH es [x, .nilSl, .nilSl, .nilSl] 0 (UInt8.ofNat (0 / 256 ^ 0)) (A9 1 0)) := by
 refine oF QG63 ?_
 refine sO (mV (v := .ptr 2 0) rfl (mn (sO (mV rfl (m4 rfl rfl rfl rfl (mC rfl (Zu (n := 0) (H := [A2.cells 135 [.nilPtr, .nilSl, .mref 1] false, A2.mp es, A2.cells 42 [x, .nilSl, .nilSl, .nilSl] false, A2.cells 3 [.int .i64 0] false]) hg (by simp only [B2, A8, blw, hx, cond_true]; rfl) rfl rfl (by decide)) (mn (sq (sO (x4 rfl rfl rfl rfl (bM ?_)))))))))))
 refine ExM.unroll 1 ?_
 refine Ep.step ?_
 refine sO (mBk hg gN (c := false) rfl rfl rfl (mn (sq (cF rfl ?_))))
 refine ExM.exit ?_
 refine sq (sO (x4 rfl rfl rfl rfl (bM ?_)))
 refine ExM.unroll 1 ?_
 refine Ep.step ?_
 refine sO (mBk hg gN (c := false) rfl rfl rfl (mn (sq (cF rfl ?_))))
 refine ExM.exit ?_
 refine sO (x4 rfl rfl rfl rfl (bM ?_))
 refine ExM.unroll 1 ?_
 refine Ep.step ?_
 refine sO (mBk hg gN (c := false) rfl rfl rfl (mn (sq (cF rfl ?_))))
 exact ExM.exit ⟨trivial, [], rfl, .inl ⟨rfl, rfl⟩⟩
def QF64 : AFn := ⟨(sQ [wV 3 (.box 42 1)] (sQ [wM 6 0, wV 7 (.fieldAddr 2 3), wV 8 (.load 1 false 7), wV 9 (.len false 8), wV 10 (.bslice 3 1 1 [.int .i64 0] [(0, 1, 9)]), wV 11 (kF 66 [6, (vI 1), 10])] (sQ [wV 12 (.fieldAddr 2 3), wV 13 (.load 1 false 12), wV 14 (.len false 13), wV 15 (.move (vI 0))] (.block 0 (.loop (sQ [wV 16 (.bin .lss none 15 14)] (.seq (.cond 16 .skip (.exit 0)) (.seq (.block 1 (sQ [wV 17 (.idxSl 6 13 15), wV 18 (.load 6 true 17), wV 5 (.alloc 91 z10L), wN (.store 6 5 18)] (sQ [wM 19 0, wV 20 (.fieldAddr 0 5), wV 21 (.load 1 false 20), wV 22 (.bslice 9 1 1 [.str []] [(0, 1, 21)]), wV 23 (kF 123 [19, 22])] (sQ [wM 24 0, wV 25 (.fieldAddr 1 5), wV 26 (.load 1 false 25), wV 27 (.fieldAddr 2 5), wV 28 (.load 1 false 27), wV 29 (.fieldAddr 3 5), wV 30 (.load 1 false 29), wV 31 (.fieldAddr 4 5), wV 32 (.load 1 false 31), wV 33 (.fieldAddr 5 5), wV 34 (.load 1 false 33), wV 35 (.len false 34), wV 36 (.bslice 3 1 5 [.int .i64 0] [(0, 1, 26), (1, 1, 28), (2, 1, 30), (3, 1, 32), (4, 1, 35)]), wV 37 (kF 66 [24, (vI 1), 36])] (.ops [wM 38 0, wV 39 (.fieldAddr 5 5), wV 40 (.load 1 false 39), wV 41 (kF 123 [38, 40])]))))) (.ops [wV 42 (.bin .add none 15 (vI 1)), wM 15 42]))))))))), [], 43⟩
theorem QG64 : Ab Tryz.prog 64 = some QF64 := by kernel_rfl
theorem none64 (hg : hGr W0 G) {es : List (Bz × Int)} {x : AVal} (hx : ∀ n, blw n x = true) : cP W0 64 [.ptr 0 0, .agg [x, .nilSl, .nilSl, .nilSl]] [.cells 135 [.nilPtr, .nilSl, .mref 1] false, .mp es] (.tup []) (wbH es [x, .nilSl, .nilSl, .nilSl] 0 (UInt8.ofNat (0 / 256 ^ 0)) (A9 1 0)) := by
 refine oF QG64 ?_
 refine sO (mV (v := .ptr 2 0) rfl (mn (sO (mV rfl (m4 rfl rfl rfl rfl (mC rfl (Zu (n := 0) (H := [A2.cells 135 [.nilPtr, .nilSl, .mref 1] false, A2.mp es, A2.cells 42 [x, .nilSl, .nilSl, .nilSl] false, A2.cells 3 [.int .i64 0] false]) hg (by simp only [B2, A8, blw, hx, cond_true]; rfl) rfl rfl (by decide)) (mn (sO (x4 rfl rfl rfl rfl (bM ?_))))))))))
 refine ExM.unroll 1 ?_
 refine Ep.step ?_
 refine sO (mBk hg gN (c := false) rfl rfl rfl (mn (sq (cF rfl ?_))))
 exact ExM.exit ⟨trivial, [], rfl, .inl ⟨rfl, rfl⟩⟩
def QF65 : AFn := ⟨(sQ [wV 3 (.box 42 1)] (sQ [wM 7 0, wV 8 (.fieldAddr 3 3), wV 9 (.load 1 false 8), wV 10 (.len false 9), wV 11 (.bslice 3 1 1 [.int .i64 0] [(0, 1, 10)]), wV 12 (kF 66 [7, (vI 1), 11])] (sQ [wV 13 (.fieldAddr 3 3), wV 14 (.load 1 false 13), wV 15 (.len false 14), wV 16 (.move (vI 0))] (.block 0 (.loop (sQ [wV 17 (.bin .lss none 16 15)] (.seq (.cond 17 .skip (.exit 0)) (.seq (.block 1 (sQ [wV 18 (.idxSl 8 14 16), wV 19 (.load 8 true 18), wV 5 (.alloc 95 z7L), wN (.store 8 5 19)] (sQ [wM 20 0, wV 21 (.fieldAddr 0 5), wV 22 (.fieldAddr 0 21), wV 23 (.load 1 false 22), wV 24 (.fieldAddr 0 5), wV 25 (.fieldAddr 1 24), wV 26 (.load 1 false 25), wV 27 (.fieldAddr 0 5), wV 28 (.fieldAddr 2 27), wV 29 (.load 1 false 28), wV 30 (.fieldAddr 0 5), wV 31 (.fieldAddr 3 30), wV 32 (.load 1 false 31), wV 33 (.fieldAddr 0 5), wV 34 (.fieldAddr 4 33), wV 35 (.load 1 false 34), wV 36 (.bslice 3 1 5 [.int .i64 0] [(0, 1, 23), (1, 1, 26), (2, 1, 29), (3, 1, 32), (4, 1, 35)]), wV 37 (kF 66 [20, (vI 1), 36])] (sQ [wM 38 0, wV 39 (.fieldAddr 5 5), wV 40 (.load 1 false 39), wV 41 (.bslice 9 1 1 [.str []] [(0, 1, 40)]), wV 42 (kF 123 [38, 41])] (sQ [wV 6 (.move (vI 0))] (.seq (sQ [wV 43 (.fieldAddr 7 5), wV 44 (.load 1 false 43)] (.cond 44 (.ops [wV 6 (.move (vI 1))]) .skip)) (.ops [wM 45 0, wV 46 (.fieldAddr 6 5), wV 47 (.load 1 false 46), wM 48 6, wV 49 (.bslice 3 1 2 [.int .i64 0] [(0, 1, 47), (1, 1, 48)]), wV 50 (kF 66 [45, (vI 1), 49])]))))))) (.ops [wV 51 (.bin .add none 16 (vI 1)), wM 16 51]))))))))), [], 52⟩
theorem QG65 : Ab Tryz.prog 65 = some QF65 := by kernel_rfl
theorem none65 (hg : hGr W0 G) {es : List (Bz × Int)} {x : AVal} (hx : ∀ n, blw n x = true) : cP W0 65 [.ptr 0 0, .agg [x, .nilSl, .nilSl, .nilSl]] [.cells 135 [.nilPtr, .nilSl, .mref 1] false, .mp es] (.tup []) (wbH es [x, .nilSl, .nilSl, .nilSl] 0 (UInt8.ofNat (0 / 256 ^ 0)) (A9 1 0)) := by
 refine oF QG65 ?_
 refine sO (mV (v := .ptr 2 0) rfl (mn (sO (mV rfl (m4 rfl rfl rfl rfl (mC rfl (Zu (n := 0) (H := [A2.cells 135 [.nilPtr, .nilSl, .mref 1] false, A2.mp es, A2.cells 42 [x, .nilSl, .nilSl, .nilSl] false, A2.cells 3 [.int .i64 0] false]) hg (by simp only [B2, A8, blw, hx, cond_true]; rfl) rfl rfl (by decide)) (mn (sO (x4 rfl rfl rfl rfl (bM ?_))))))))))
 refine ExM.unroll 1 ?_
 refine Ep.step ?_
 refine sO (mBk hg gN (c := false) rfl rfl rfl (mn (sq (cF rfl ?_))))
 exact ExM.exit ⟨trivial, [], rfl, .inl ⟨rfl, rfl⟩⟩
def N0 (s : Bz) : Nat := s.foldl (fun h b => (h * 257 + b.toNat + 1) % 4294967291) 1
theorem A1b {s : Bz} {i : Nat} (h : i < s.length) : N0 (s.take (i + 1)) = (N0 (s.take i) * 257 + (s.getD i 0).toNat + 1) % 4294967291 := by
 rw [List.take_succ_eq_append_getElem h, List.getD_eq_getElem?_getD, gGe h, N0, List.foldl_append]
 rfl
theorem Z5 (s : Bz) : N0 s < 4294967291 := by
 have : ∀ (s : Bz) (h : Nat), h < 4294967291 → s.foldl (fun h b => (h * 257 + b.toNat + 1) % 4294967291) h < 4294967291 := by
  intro s
  induction s with
  | nil => intro h hh; exact hh
  | cons b r ih => intro h _; exact ih _ (Nat.mod_lt _ (by decide))
 exact this s 1 (by decide)
theorem tmodK {x : Nat} {y : Int} (h : y = ((x : Nat) : Int)) : AVal.int .i64 (y.tmod 4294967291) = .int .i64 ((x % 4294967291 : Nat) : Int) := by
 subst h
 rw [show (4294967291 : Int) = ((4294967291 : Nat) : Int) from rfl, Zf (by omega), Int.toNat_natCast]
theorem getE_eq (es : List (Bz × Int)) (k : Bz) : Ln es k = ((Ox es k 0).map (·.2)).getD 0 := by
 unfold Ln
 cases Ox es k 0 <;> rfl
theorem A3m (es : List (Bz × Int)) (k : Bz) : Ln es k = 0 ∨ ∃ p ∈ es, p.2 = Ln es k := by
 rw [getE_eq]
 generalize (0 : Nat) = n
 induction es generalizing n with
 | nil => exact .inl rfl
 | cons p r ih =>
   simp only [Ox]
   cases decide (k = p.1) with
   | true => exact .inr ⟨p, by simp, rfl⟩
   | false =>
     rcases ih (n + 1) with h | ⟨q, hq, h⟩
     · exact .inl h
     · exact .inr ⟨q, List.mem_cons_of_mem _ hq, h⟩
def esN (ss : List Bz) : Nat → List (Bz × Int)
 | 0 => []
 | i + 1 => Iu (esN ss i) (ss.getD i []) ((i : Nat) : Int)
theorem A34 {es : List (Bz × Int)} {k : Bz} {v : Int} {p : Bz × Int} (h : p ∈ Iu es k v) : p ∈ es ∨ p = (k, v) := by
 unfold Iu at h
 split at h
 · exact (List.mem_or_eq_of_mem_set h)
 · rcases List.mem_append.1 h with h | h
   · exact .inl h
   · exact .inr (List.mem_singleton.1 h)
theorem Wa {ss : List Bz} : ∀ {i : Nat} {p : Bz × Int}, p ∈ esN ss i → ∃ j : Nat, j < i ∧ p.2 = (j : Nat)
 | 0, _, h => by cases h
 | i + 1, p, h => by
   rcases A34 h with h | rfl
   · obtain ⟨j, hj, e⟩ := Wa h
     exact ⟨j, by omega, e⟩
   · exact ⟨i, Nat.lt_succ_self i, rfl⟩
def ixN (ss : List Bz) (q : Bz) : Nat := (Ln (esN ss ss.length) q).toNat
theorem Yx {ss : List Bz} (q : Bz) : Ln (esN ss ss.length) q = (ixN ss q : Nat) ∧ (ixN ss q = 0 ∨ ixN ss q < ss.length) := by
 unfold ixN
 rcases A3m (esN ss ss.length) q with h | ⟨p, hp, h⟩
 · rw [h]; exact ⟨rfl, .inl rfl⟩
 · obtain ⟨j, hj, e⟩ := Wa hp
   rw [← h, e]; exact ⟨rfl, .inr hj⟩
def QF11 : AFn := ⟨(sQ [wV 2 (.move (vI 0))] (sQ [wV 3 (.move (vI 1))] (.seq (sQ [wM 5 0, wV 6 (.len true 5), wV 7 (.move (vI 0))] (.block 0 (.loop (sQ [wV 8 (.bin .lss none 7 6)] (.seq (.cond 8 .skip (.exit 0)) (.seq (.block 1 (sQ [wM 9 7, wM 4 9] (.ops [wM 10 3, wV 11 (.bin .mul none 10 (vI 257)), wM 12 0, wM 13 4, wV 14 (.idxStr 12 13), wV 15 (.conv (.int .i64) 14), wV 16 (.bin .add none 11 15), wV 17 (.bin .add none 16 (vI 1)), wV 18 (.bin .rem none 17 (vI 4294967291)), wM 3 18]))) (.ops [wV 19 (.bin .add none 7 (vI 1)), wM 7 19]))))))) (sQ [wM 20 3, wM 2 20] .ret)))), [2], 21⟩
theorem QG11 : Ab Tryz.prog 11 = some QF11 := by kernel_rfl
theorem sumP (hg : hGr W0 G) {s : Bz} (hl : s.length ≤ 4611686018427387904) : cP W0 11 [.str s] [] (.int .i64 ((N0 s : Nat) : Int)) [] := by
 refine oF QG11 ?_
 refine sO (x1 rfl (sO (x1 rfl (sq (sO (x3 rfl rfl rfl (bM ?_)))))))
 refine ExM.loopJ (σ := Nat) (τ := Unit) (fun i => ⟨.al [(0, .str s), (3, .int .i64 ((N0 (s.take i) : Nat) : Int)), (6, .int .i64 ((s.length : Nat) : Int)), (7, .int .i64 ((i : Nat) : Int))], [], 21⟩) (fun i => i ≤ s.length) (fun i => s.length - i) 0 0 (fun _ => ⟨.al [(3, .int .i64 ((N0 s : Nat) : Int))], [], 21⟩) (fun _ => True) (Ac rfl rfl (sb4 rfl rfl rfl rfl (((( sbN)))))) (Nat.zero_le _) ?_ ?_
 · rintro i hi
   have hi : i ≤ s.length := hi
   by_cases hlt : i < s.length
   · have hb := Z5 (s.take i)
     have hc := (s.getD i 0).toNat_lt
     refine sO (mT rfl (mn (sq (cT rfl (kM (sq (bM (sO (x2 rfl rfl (oM (mV rfl (mI ((N0 (s.take i) * 257 : Nat) : Int) rfl (m2 rfl rfl (Ag hg gN (v := .int .u8 (((s.getD i 0).toNat : Nat) : Int)) rfl rfl (by simp only [Af, and_true]; omega) (mK (v := .int .i64 (((s.getD i 0).toNat : Nat) : Int)) rfl (B8 (by omega) (by omega) rfl) (mI ((N0 (s.take i) * 257 + (s.getD i 0).toNat : Nat) : Int) rfl (mI ((N0 (s.take i) * 257 + (s.getD i 0).toNat + 1 : Nat) : Int) rfl (mKv hg gN (v := .int .i64 ((N0 (s.take (i + 1)) : Nat) : Int)) rfl rfl (by simp only [Af, and_true]; decide) (by rw [A1b hlt]; exact tmodK rfl) (x1 rfl (oM (mI ((i + 1 : Nat) : Int) rfl (x1 rfl ?_))))))))))))))))))))))
     exact ⟨(i + 1), (by omega : i + 1 ≤ s.length), (by show s.length - (i + 1) < s.length - i; omega), Ac rfl rfl (sb4 rfl rfl rfl rfl (((( sbN)))))⟩
   · have he : i = s.length := by omega
     rw [he, List.take_length]
     refine sO (mF rfl (mn (sq (cF rfl ?_))))
     exact ExM.exit (.inl ⟨rfl, (), trivial, Ac rfl rfl (sbC rfl (sbN))⟩)
 · rintro _ s' hJ hs
   refine ExM.sub hs ?_
   refine sO (x2 rfl rfl ?_)
   exact ExM.ret (pS)
theorem strU {H : Hz} {id jd : Nat} {T TB : TypeId} {c0 : AVal} {r : List AVal} {l : Bz} {n : Nat} {cp : Option Nat} (ho : H[id]? = some (.cells T (c0 :: .hsl 1 jd 0 n cp :: r) false)) (hj : H[jd]? = some (.cells TB (u8c l) true)) (hn : n = l.length) (h0 : l ≠ []) (hTB : Vt TB = 5) :
 cP W0 68 [.ptr id 0] H (.str l) (H.set jd (.cells (tgT TB) (u8c l) true)) := strP Tryz.lays169 Tryz.Builder_Extra_169 (Gj (by kernel_rfl)) ho hj hn h0 hTB
end Go.Abs
