/- A part of the proof that tabula/tabulalaw25.PackTexts returns true for every input, each argument reading as it did (its card: the last text). No conditions of its own. -/
import Derived.Test.YtpjknnnomkkloaaGreatDoorPL
import Derived.Test.YtpjknnnomkkloaaGreatDoorCards
import Derived.Test.YtpjknnnomkkloaaGreatDoorTie
import Derived.ProofKit
import Derived.OpenShut
import Derived.Deep.DeepHandedRow
import Derived.Deep.DeepWitnessRowRef
import Derived.Lib.LaidTab
import Derived.Lib.LaidU8T
import Derived.Lib.LaidIn
import Derived.LaidLaws
import Derived.SizedLaws
namespace Go.Abs
open Go.Proofs Go.RowKit Go.Lib Go.ChangeShapes Go.WideShapes Go.ChangeAt
set_option maxRecDepth 100000
def Qy (P : Program) : Nat → TypeId → Bool
 | 0, _ => false
 | m + 1, t => match P.underlying t with
   | some .bool | some (.int _) | some .string => true
   | some (.struct fs) => fs.toList.all fun f => Qy P m f.type
   | some (.array _ e) => Qy P m e
   | _ => false
theorem P2 {α β : Type} {f g : α → Option β} : ∀ {l : List α}, (∀ a ∈ l, f a = g a) → l.mapM f = l.mapM g
 | [], _ => rfl
 | a :: l, h => by
   simp only [List.mapM_cons]
   rw [h a (by simp), P2 fun b hb => h b (by simp [hb])]
theorem On {H : Type} {enc : TypeId × Value → H} {P : Program} {w w' : World} {b b' : Nat} {s s' : Nat → Bool} {h h' : Bool} : ∀ (m n : Nat) (t : TypeId) (cs : List Value), Qy P m t = true →
 DataW.trod enc P w b s h n t cs = DataW.trod enc P w' b' s' h' n t cs
 | 0, _, _, _, hf => by simp [Qy] at hf
 | m + 1, 0, _, _, _ => rfl
 | m + 1, n + 1, t, cs, hf => by
   simp only [Qy] at hf
   simp only [DataW.trod]
   split at hf
   · rename_i hu; rw [hu]
     cases cs with
     | nil => rfl
     | cons c r => cases c <;> cases r <;> rfl
   · rename_i k hu; rw [hu]
     cases cs with
     | nil => rfl
     | cons c r => cases c <;> cases r <;> rfl
   · rename_i hu; rw [hu]
     cases cs with
     | nil => rfl
     | cons c r => cases c <;> cases r <;> rfl
   · rename_i fs hu; rw [hu]
     have e : (fs.toList.mapM fun f => DataW.trod enc P w b s h n f.type ((cs.drop f.offset).take (P.cellsOf f.type))) = (fs.toList.mapM fun f => DataW.trod enc P w' b' s' h' n f.type ((cs.drop f.offset).take (P.cellsOf f.type))) :=
      P2 fun f hfm => On m n f.type _ (List.all_eq_true.1 hf f hfm)
     simp only [e]
   · rename_i k e hu; rw [hu]
     have e : ((List.range k).mapM fun i => DataW.trod enc P w b s h n e ((cs.drop (i * P.cellsOf e)).take (P.cellsOf e))) = ((List.range k).mapM fun i => DataW.trod enc P w' b' s' h' n e ((cs.drop (i * P.cellsOf e)).take (P.cellsOf e))) :=
      P2 fun i _ => On m n e _ hf
     simp only [e]
   · simp at hf
theorem Of {H : Type} {enc : TypeId × Value → H} {P : Program} {w w' : World} {b b' : Nat} {s s' : Nat → Bool} {h h' : Bool} (m : Nat) : ∀ {ts : List TypeId} {vs : List Value} {ds : List (DataW H)} {ps : List MemPlace}, (ts.all fun t => Qy P m t) = true →
 DataW.TrodAll enc P w b s h ts vs ds ps → DataW.TrodAll enc P w' b' s' h' ts vs ds ps
 | [], [], [], _, _, hx => hx
 | t :: ts, v :: vs, d :: ds, ps, hf, ⟨p, q, ⟨n, h1⟩, h2, h3⟩ => by
   simp only [List.all_cons, bAt] at hf
   exact ⟨p, q, ⟨n, by rw [← h1]; exact On m n t _ hf.1⟩, Of m hf.2 h2, h3⟩
theorem A0b {P : Program} {w : World} {b : Nat} {t : TypeId} {k : IntKind} {v : Value} (ht : P.underlying t = some (.int k)) (h : Cell.okWide P w .any b t v) : ∃ n, v = .int k n ∧ k.has n := by
 unfold Cell.okWide at h
 rw [ht] at h
 cases v <;> simp_all [Cell.ok]
theorem A2k {P : Program} {w : World} {b : Nat} {t : TypeId} {v : Value} (ht : P.underlying t = some .bool) (h : Cell.okWide P w .any b t v) : ∃ n, v = .bool n := by
 unfold Cell.okWide at h
 rw [ht] at h
 cases v <;> simp_all [Cell.ok]
theorem cellStr {P : Program} {w : World} {b : Nat} {t : TypeId} {v : Value} (ht : P.underlying t = some .string) (h : Cell.okWide P w .any b t v) : ∃ n, v = .string n := by
 unfold Cell.okWide at h
 rw [ht] at h
 cases v <;> simp_all [Cell.ok]
theorem hasI {n : Int} (h : IntKind.i64.has n) : i64 n := by
 simp [IntKind.has, IntKind.min, IntKind.max, IntKind.signed, IntKind.bits] at h
 exact h
end Go.Abs
namespace Go.Abs
open Go.Proofs Go.Shelf Go.RowKit Go.Lib Go.ChangeShapes Go.WideShapes Go.ChangeAt
open Go.Proofs.YtpjknnnomkkloaaGreatDoor
set_option maxRecDepth 100000
theorem Sl {W : World} (h : W.ShapedOpen Tryz.prog) : ∃ m, W.cell? ⟨4, 0, none⟩ = some (.int .i64 m) := by
 obtain ⟨cs, h1, h2, h3⟩ := h.1 4 #[.int .i64 0] 3 (of_decide_eq_true (by kernel_rfl)) (by kernel_rfl)
 obtain ⟨ts, h4, _, h5⟩ := h3 (by kernel_rfl)
 obtain ⟨cl⟩ := cs
 match cl, h2 with
 | [c], _ =>
   obtain ⟨u, h6, h7⟩ := h5 0 c rfl
   have e : Tryz.prog.cellTypes Tryz.prog.depth 3 = some [3] := by kernel_rfl
   obtain rfl := Option.some.inj (e.symm.trans h4)
   obtain rfl : (3 : Nat) = u := Option.some.inj h6
   unfold Cell.ok at h7
   rw [Tryz.underlying3] at h7
   have e2 : ∃ n, c = .int .i64 n := by
    cases c <;> simp at h7
    obtain ⟨rfl, _⟩ := h7
    exact ⟨_, rfl⟩
   obtain ⟨n, rfl⟩ := e2
   refine ⟨n, ?_⟩
   unfold World.cell?
   rw [h1]
   rfl
theorem kn_laid {W : World} (h : laidMet Tryz.prog Rows.packTextsRow.laid W) (hs : W.ShapedOpen Tryz.prog) : Kn W := by
 refine ⟨fun g e hg => (by cases hg), ⟨Sl hs, ?_⟩⟩
 have h1 : (("unicode/utf8.first", Lib.firstData) : String × DataW Unit) ∈ Rows.packTextsRow.laid := by
  rw [show (Lib.firstData : DataW Unit) = Rows.laid_unicode_utf8_first by kernel_rfl]
  exact .tail _ (.tail _ (.tail _ (.tail _ (.tail _ (.tail _ (.tail _ (.tail _ (.head _))))))))
 have h2 : (("unicode/utf8.acceptRanges", Lib.acceptData) : String × DataW Unit) ∈ Rows.packTextsRow.laid := by
  rw [show (Lib.acceptData : DataW Unit) = Rows.laid_unicode_utf8_acceptRanges by kernel_rfl]
  exact .tail _ (.tail _ (.tail _ (.head _)))
 exact utf8Tabs_of_readsT (U8Types.of196 Tryz.laysValid) ⟨by kernel_rfl, by kernel_rfl, by kernel_rfl, by kernel_rfl, by kernel_rfl, by kernel_rfl, by kernel_rfl⟩ (Lib.laidMet.reads h h1) (Lib.laidMet.reads h h2)
end Go.Abs
namespace Go.Proofs.YtpjknnnomkkloaaGreatDoor.packTexts
open Go.Abs Go.Shelf Go.ChangeShapes Go.WideShapes Go.ChangeAt Go.RowKit
set_option maxRecDepth 100000
theorem own : ownKnob Tryz.prog.godebug = none := by kernel_rfl
theorem list15 {α : Type} {l : List α} (h : l.length = 15) : ∃ a0 a1 a2 a3 a4 a5 a6 a7 a8 a9 a10 a11 a12 a13 a14, l = [a0, a1, a2, a3, a4, a5, a6, a7, a8, a9, a10, a11, a12, a13, a14] := by
 match l, h with
 | [a0, a1, a2, a3, a4, a5, a6, a7, a8, a9, a10, a11, a12, a13, a14], _ => exact ⟨a0, a1, a2, a3, a4, a5, a6, a7, a8, a9, a10, a11, a12, a13, a14, rfl⟩
theorem list5 {α : Type} {l : List α} (h : l.length = 5) : ∃ a0 a1 a2 a3 a4, l = [a0, a1, a2, a3, a4] := by
 match l, h with
 | [a0, a1, a2, a3, a4], _ => exact ⟨a0, a1, a2, a3, a4, rfl⟩
theorem A27 {H : Type} {enc : TypeId × Value → H} {W : World} {b : Nat} {sp : Nat → Bool} {h : Bool} {d : DataW H} {ps : List MemPlace} {a0 a1 a2 a3 a4 a5 a6 a7 a8 a9 a10 a11 a12 a14 : Value} {s : ByteArray}
 (hd : DataW.Trod enc Tryz.prog W b sp h 28 (.agg #[a0, a1, a2, a3, a4, a5, a6, a7, a8, a9, a10, a11, a12, .string s, a14]) d ps) : s.data.toList.length ∈ d.weights Tryz.prog 28 := by
 obtain ⟨n, hd⟩ := hd
 obtain ⟨xs, m, _, hx, _, hl, hf⟩ := DataW.trod_struct Tryz.underlying28 hd
 have h6 := hf 6 _ rfl
 have hl6 : 6 < xs.length := by rw [hl]; exact of_decide_eq_true (by kernel_rfl)
 rw [gGe hl6] at h6
 obtain ⟨ys, m', _, hy, _, hl', hf'⟩ := DataW.trod_struct Tryz.underlying26 h6
 have h2 := hf' 2 _ rfl
 have hl2 : 2 < ys.length := by rw [hl']; exact of_decide_eq_true (by kernel_rfl)
 rw [gGe hl2] at h2
 obtain ⟨s', hc, hz, hs⟩ := DataW.trod_string Tryz.underlying9 h2
 have e1 : Tryz.prog.cellsOf 26 = 5 := by kernel_rfl
 have e2 : Tryz.prog.cellsOf 9 = 1 := by kernel_rfl
 have e : List.take (Tryz.prog.cellsOf 9) (List.drop 3 (List.take (Tryz.prog.cellsOf 26) [a10, a11, a12, Value.string s, a14])) = [Value.string s'] := hc
 rw [e1, e2] at e
 obtain rfl : s = s' := by injection e with e; injection e
 obtain rfl : d = .agg (xs.map (·.1)) := congrArg Prod.fst hx
 unfold DataW.weights
 rw [Tryz.underlying28]
 refine DataW.weights_mem_each (j := 6) rfl (by rw [List.getElem?_map, gGe hl6]; rfl) _ ?_
 rw [hy]
 show _ ∈ DataW.weights Tryz.prog 26 (.agg (ys.map (·.1)))
 unfold DataW.weights
 rw [Tryz.underlying26]
 refine DataW.weights_mem_each (j := 2) rfl (by rw [List.getElem?_map, gGe hl2]; rfl) _ ?_
 rw [hz]
 show _ ∈ DataW.weights Tryz.prog 9 (.lit (.string s.data.toList))
 simp [DataW.weights]
theorem Vv (s : ByteArray) : (⟨s.data.toList.toArray⟩ : ByteArray) = s := by cases s; simp
theorem A29 (H : Type) (enc : TypeId × Value → H) (W : World) (base : Nat) (args : Array Value) (ds gs : List (DataW H)) (before : List MemPlace)
 (hval : ∀ (j : Nat) t v, Tryz.f3.params[j]? = some t → args[j]? = some v → Value.okWide Tryz.prog W .any base t v)
 (hW : DataW.Whole enc Tryz.prog Tryz.f3.params.toList Rows.packTextsSpec.vars false W args.toList ds gs before) (hR : (DataW.weightsEach Tryz.prog (Tryz.f3.params.toList ++ (OpenSpec.ofChange Rows.packTextsSpec).bare.plain.varTypes Tryz.prog) (ds ++ gs)).all (· ≤ reachBytes) = true) (hL : laidMetH Tryz.prog Rows.packTextsRow.laid W) (hS : W.ShapedOpen Tryz.prog) :
 Calls Tryz.prog 3 args W fun e W' => ∃ v, e = .returned v ∧ Rows.packTextsSpec.post enc Tryz.prog Tryz.f3 false true false false W args v W' := by
 have hW' := hW
 obtain ⟨p, q, hA0, hV, rfl, hfz, hnd⟩ := hW
 have hA : DataW.TrodAll enc Tryz.prog W 0 (fun _ => true) true Tryz.f3.params.toList args.toList ds p := hA0
 have hk : Kn W := kn_laid (show laidMet Tryz.prog Rows.packTextsRow.laid W from hL) hS
 rw [Tryz.params3] at hA hval
 have hflat := hA
 obtain ⟨v0, vs0, d0, ds0, p0, q0, hargs, rfl, rfl, h0, r0⟩ := trodAll_cons hA
 obtain ⟨v1, vs1, d1, ds1, p1, q1, rfl, rfl, rfl, h1, r1⟩ := trodAll_cons r0
 obtain ⟨rfl, rfl, rfl⟩ := trodAll_nil r1
 obtain rfl : args = #[v0, v1] := by cases args; simp_all
 obtain ⟨rfl, rfl⟩ := trodVars_none hV
 have o1 := hval 0 3 v0 rfl rfl
 have o0 := hval 1 28 v1 rfl rfl
 unfold Value.okWide at o0 o1
 rw [Tryz.underlying28] at o0
 rw [Tryz.underlying3] at o1
 obtain ⟨cs0, rfl, z0, ts0, k0, _, w0⟩ := o0
 obtain ⟨S, rfl, hS2⟩ := A0b Tryz.underlying3 o1
 obtain rfl := Option.some.inj ((show Tryz.prog.cellTypes Tryz.prog.depth 28 = some [3, 3, 3, 3, 3, 3, 3, 3, 3, 3, 3, 3, 3, 9, 4] by kernel_rfl).symm.trans k0)
 obtain ⟨cs0⟩ := cs0
 obtain ⟨a0, a1, a2, a3, a4, a5, a6, a7, a8, a9, a10, a11, a12, a13, a14, rfl⟩ := list15 (l := cs0) (by rw [show Tryz.prog.cellsOf 28 = 15 by kernel_rfl] at z0; exact z0)
 have gI : ∀ (i : Nat) v (l : List Value), (∀ i v, (⟨l⟩ : Array Value)[i]? = some v → ∃ u, [3, 3, 3, 3, 3, 3, 3, 3, 3, 3, 3, 3, 3, 9, 4][i % 15]? = some u ∧ Cell.okWide Tryz.prog W .any base u v) → l[i]? = some v → i < 13 → ∃ n, v = .int .i64 n ∧ i64 n := by
  intro i v l hw hi hlt
  obtain ⟨u, hu, hc⟩ := hw i v (by simpa using hi)
  have : u = 3 := by
   rw [Nat.mod_eq_of_lt (by omega)] at hu
   match i, hlt, hu with
   | 0, _, hu | 1, _, hu | 2, _, hu | 3, _, hu | 4, _, hu | 5, _, hu | 6, _, hu | 7, _, hu | 8, _, hu | 9, _, hu | 10, _, hu | 11, _, hu | 12, _, hu => exact (Option.some.inj hu).symm
  subst this
  obtain ⟨n, rfl, hn⟩ := A0b Tryz.underlying3 hc
  exact ⟨n, rfl, hasI hn⟩
 obtain ⟨n0, rfl, i0⟩ := gI 0 a0 _ w0 rfl (by omega)
 obtain ⟨n1, rfl, i1⟩ := gI 1 a1 _ w0 rfl (by omega)
 obtain ⟨n2, rfl, i2⟩ := gI 2 a2 _ w0 rfl (by omega)
 obtain ⟨n3, rfl, i3⟩ := gI 3 a3 _ w0 rfl (by omega)
 obtain ⟨n4, rfl, i4⟩ := gI 4 a4 _ w0 rfl (by omega)
 obtain ⟨n5, rfl, i5⟩ := gI 5 a5 _ w0 rfl (by omega)
 obtain ⟨n6, rfl, i6⟩ := gI 6 a6 _ w0 rfl (by omega)
 obtain ⟨n7, rfl, i7⟩ := gI 7 a7 _ w0 rfl (by omega)
 obtain ⟨n8, rfl, i8⟩ := gI 8 a8 _ w0 rfl (by omega)
 obtain ⟨n9, rfl, i9⟩ := gI 9 a9 _ w0 rfl (by omega)
 obtain ⟨n10, rfl, i10⟩ := gI 10 a10 _ w0 rfl (by omega)
 obtain ⟨n11, rfl, i11⟩ := gI 11 a11 _ w0 rfl (by omega)
 obtain ⟨n12, rfl, i12⟩ := gI 12 a12 _ w0 rfl (by omega)
 obtain ⟨s, rfl⟩ : ∃ s, a13 = .string s := by
  obtain ⟨u, hu, hc⟩ := w0 13 a13 rfl
  obtain rfl : (9 : Nat) = u := Option.some.inj hu
  exact cellStr Tryz.underlying9 hc
 obtain ⟨vb, rfl⟩ : ∃ s, a14 = .bool s := by
  obtain ⟨u, hu, hc⟩ := w0 14 a14 rfl
  obtain rfl : (4 : Nat) = u := Option.some.inj hu
  exact A2k Tryz.underlying4 hc
 have hsl : s.data.toList.length ≤ 150000000000000 := by
  have h1' := List.all_eq_true.1 hR _ (DataW.weights_mem_each (j := 1) (by rw [Tryz.params3]; rfl) rfl _ (A27 h1))
  have h2 := of_decide_eq_true h1'
  unfold reachBytes at h2
  omega
 have hm := hasI hS2
 have walk := packTexts hk (grK hk) (a0 := n0) (a1 := n1) (a2 := n2) (a3 := n3) (a4 := n4) (a5 := n5) (a6 := n6) (a7 := n7) (a8 := n8) (a9 := n9) (s := s.data.toList) (b := vb) hm.1 hm.2 i10 i11 i12 hsl
 have hh : A7 W (fun _ => False) [] [] W := ⟨rfl, Below.refl _ _, fun b hb => by simp at hb, List.nodup_nil, fun b hb => hb.elim, fun i o b hi => by simp at hi⟩
 refine (walk.2 (fun _ => False) [] W [.int .i64 S, .agg #[.int .i64 n0, .int .i64 n1, .int .i64 n2, .int .i64 n3, .int .i64 n4, .int .i64 n5, .int .i64 n6, .int .i64 n7, .int .i64 n8, .int .i64 n9, .int .i64 n10, .int .i64 n11, .int .i64 n12, .string s, .bool vb]] hh ?_).mono ?_
 · simp only [A5, Rep]
   refine ⟨_, _, rfl, rfl, _, _, rfl, ⟨_, rfl, ?_⟩, rfl⟩
   refine ⟨_, _, rfl, rfl, _, _, rfl, rfl, _, _, rfl, rfl, _, _, rfl, rfl, _, _, rfl, rfl, _, _, rfl, rfl, _, _, rfl, rfl, _, _, rfl, rfl, _, _, rfl, rfl, _, _, rfl, rfl, _, _, rfl, rfl, _, _, rfl, rfl, _, _, rfl, rfl, _, _, rfl, ?_, _, _, rfl, rfl, rfl⟩
   rw [Vv]
 · rintro e W' ⟨cv, bs', rfl, hr, hbase, hx⟩
   obtain rfl : cv = .bool true := by simpa only [Rep] using hr
   have hfl : ([3, 28].all fun t => Qy Tryz.prog 5 t) = true := by kernel_rfl
   refine ⟨_, rfl, _, _, _, [], p0 ++ (p1 ++ []), [], hW', ?_, ?_, ?_, hbase.base.frame _, fun h => by cases h⟩
   · exact trodAll_mk1 (shut_bool Tryz.underlying4 _)
   · have := Of (w' := W') (b' := 0) (s' := fun b => decide (b < W.heap.size)) (h' := true) 5 hfl hflat
     rw [Tryz.params3]
     exact this
   · rfl
end Go.Proofs.YtpjknnnomkkloaaGreatDoor.packTexts
namespace Go.Proofs.YtpjknnnomkkloaaGreatDoor.packTexts
open Go.Abs Go.Shelf Go.ChangeShapes Go.WideShapes Go.ChangeAt Go.RowKit
set_option maxRecDepth 100000
def strCells (l : List Bz) : Array Value := (l.map fun s => Value.string ⟨s.toArray⟩).toArray
def G1 {H : Type} : DataW H → Bz
 | .lit (.string s) => s
 | _ => []
def Rr {H : Type} : DataW H → List Value
 | .agg l => l.map fun | .lit (.int k n) => .int k n | _ => .bool false
 | _ => []
def strsOf {H : Type} : DataW H → List Bz
 | .slice l _ => l.map G1
 | .iface _ (.ptr (.agg l)) => l.map G1
 | _ => []
def pairsOf {H : Type} : DataW H → List Value
 | .agg l => l.flatMap Rr
 | _ => []
noncomputable def Ot (os : Os) : World :=
 let N := (World.settled Tryz.prog os).heap.size
 let w0 := World.holding Tryz.prog os ⟨#[
  .cells (strCells (strsOf (Rows.laid_tabula_lex_signs (H := Unit)))) 9,
  .cells (strCells (strsOf (Rows.laid_tabula_lex_faults (H := Unit)))) 9,
  .cells (strCells (strsOf (Rows.laid_strconv_ErrSyntax (H := Unit)))) 354,
  .cells (strCells (strsOf (Rows.laid_strconv_ErrRange (H := Unit)))) 354], #[], []⟩
 let put (h : Array Obj) (g : Nat) (cs : Array Value) : Array Obj := h.modify g fun
  | .cells _ t frozen => .cells cs t frozen
  | o => o
 let h0 := put w0.heap 0 (Rr Rows.laid_unicode_utf8_first).toArray
 let h1 := put h0 1 (pairsOf (Rows.laid_unicode_utf8_acceptRanges (H := Unit))).toArray
 let h2 := put h1 2 #[.slice (some ⟨N, 0, none⟩) 20 20]
 let h3 := put h2 3 #[.slice (some ⟨N + 1, 0, none⟩) 9 9]
 let h4 := put h3 7 #[.iface 352 (.pointer (some ⟨N + 2, 0, none⟩))]
 let h5 := put h4 8 #[.iface 352 (.pointer (some ⟨N + 3, 0, none⟩))]
 let h6 := put h5 9 (Rr (Rows.laid_internal_strconv_uint64pow10 (H := Unit))).toArray
 let h7 := put h6 10 (Rr (Rows.laid_math_bits_deBruijn32tab (H := Unit))).toArray
 let h8 := put h7 11 (Rr (Rows.laid_math_bits_deBruijn64tab (H := Unit))).toArray
 { w0 with heap := h8 }
def arg0 : Value := .agg #[.int .i64 0, .int .i64 0, .int .i64 0, .int .i64 0, .int .i64 0, .int .i64 0, .int .i64 0, .int .i64 0, .int .i64 0, .int .i64 0, .int .i64 0, .int .i64 0, .int .i64 0, .string ⟨#[]⟩, .bool false]
def Za : Array Value := #[.int .i64 0, arg0]
theorem A3e (os : Os) : laidMet Tryz.prog Rows.packTextsRow.laid ((Ot os).forCall (fun _ _ => 0) ⟨#[], Za, []⟩).memory :=
 laidMet_of_run3 8 (by kernel_rfl) (by kernel_rfl) (by kernel_rfl)
end Go.Proofs.YtpjknnnomkkloaaGreatDoor.packTexts
