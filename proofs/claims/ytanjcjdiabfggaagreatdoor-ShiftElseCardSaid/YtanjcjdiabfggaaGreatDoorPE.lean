/- A part of the proof that tabula/tabulalaw17.ShiftElse returns true for every input, each argument reading as it did (its card: the last text). No conditions of its own. -/
import Derived.Test.YtanjcjdiabfggaaGreatDoorPD
import Derived.Test.YtanjcjdiabfggaaGreatDoorShelf
import Derived.Defers
import Derived.Recover
import Derived.WalkKit
namespace Go.Abs
open Go.RowKit Go.Proofs
variable {W0 : World} {F : Nat → Prop} {bs : List Nat} {H : Hz} {w : World}
structure Lw (W0 : World) : Prop where
 maxlen : ∃ m, W0.cell? ⟨4, 0, none⟩ = some (.int .i64 m)
 tabs : Lib.Utf8Tabs 0 1 W0
 synt : ∃ ev, W0.cell? ⟨7, 0, none⟩ = some ev ∧ (ev = .nilIface ∨ ∃ te pe, ev = .iface te pe)
 range : ∃ ev, W0.cell? ⟨8, 0, none⟩ = some ev ∧ (ev = .nilIface ∨ ∃ te pe, ev = .iface te pe)
theorem Jb {v : Value} {s : Bz} (h : Rep F bs H w (.str s) v) : v = .string ⟨s.toArray⟩ := by simpa only [Rep] using h
theorem Rf (s : Bz) : Rep F bs H w (.str s) (.string ⟨s.toArray⟩) := by simp only [Rep]
theorem Y5 (k : IntKind) (n : Int) : Rep F bs H w (.int k n) (.int k n) := by simp only [Rep]
theorem U2 (b : Bool) : Rep F bs H w (.bool b) (.bool b) := by simp only [Rep]
theorem Z0 {x : AVal} {l : List Value} (h : A9 F bs H w [x] l) : ∃ a, l = [a] ∧ Rep F bs H w x a := by
 simp only [A9] at h; obtain ⟨a, r, rfl, h1, rfl⟩ := h; exact ⟨a, rfl, h1⟩
theorem Ly {x y : AVal} {l : List Value} (h : A9 F bs H w [x, y] l) : ∃ a b, l = [a, b] ∧ Rep F bs H w x a ∧ Rep F bs H w y b := by
 simp only [A9] at h; obtain ⟨a, r, rfl, h1, b, r', rfl, h2, rfl⟩ := h; exact ⟨a, b, rfl, h1, h2⟩
theorem Ej (s : Bz) : (ByteArray.mk s.toArray).size = s.length := by simp [ByteArray.size]
theorem Fq (s : Bz) : (ByteArray.mk s.toArray).data.toList = s := by simp
theorem lMap (hw : Lw W0) {g : Nat} {caps caps' : List AVal} {f : Int → Int} {s : Bz} (hg : A0a Tryz.prog g = true) (he : Qp H caps = some caps') (hf : ∀ (W : World) (x : Nat), x ≤ 1114111 → A3 Tryz.prog W g (.int .i32 x :: caps') [] (.int .i32 (f x)) [])
 (hr : ∀ x : Nat, x ≤ 1114111 → -2147483648 ≤ f x ∧ f x ≤ 2147483647) (hs : s.length < 35184372088832) : cP W0 118 [.fn g [] caps, .str s] H (.str (Lib.mapD f s)) H := by
 refine A3.of_below (by kernel_rfl) fun F bs w cargs hh hra => ?_
 obtain ⟨a, b, rfl, h1, h2⟩ := Ly hra
 obtain rfl := Jb h2
 simp only [Rep, A9] at h1
 obtain ⟨fs, cs, rfl, rfl, hl⟩ := h1
 have hm := Vn hh hl he hf
 refine (Tryz.strings_Map_grows g cs.toArray (W6 hg) f ⟨s.toArray⟩ w (by rw [Ej]; exact hs) hm hr (Z9 hh hw.tabs)).mono ?_
 rintro e w' ⟨rfl, hb⟩
 exact ⟨_, rfl, by rw [Fq]; exact Rf _, hb⟩
theorem lIndex (hw : Lw W0) {s t : Bz} (hs : s.length < 4294967281) : cP W0 281 [.str s, .str t] H (.int .i64 (Lib.index s t)) H := by
 refine A3.of_below (by kernel_rfl) fun F bs w cargs hh hra => ?_
 obtain ⟨a, b, rfl, h1, h2⟩ := Ly hra
 obtain rfl := Jb h1
 obtain rfl := Jb h2
 obtain ⟨m, hm⟩ := hw.maxlen
 refine (Tryz.strings_Index ⟨s.toArray⟩ ⟨t.toArray⟩ m w (by rw [Ej]; exact hs) (Q4 hh hm)).mono ?_
 rintro e w' ⟨rfl, rfl⟩
 exact ⟨_, rfl, by rw [Fq, Fq]; exact Y5 _ _, Below.refl _ _⟩
theorem O6 (hw : Lw W0) {s t : Bz} (hs : s.length < 4294967281) : cP W0 296 [.str s, .str t] H (.bool (Lib.contains s t)) H := by
 refine A3.of_below (by kernel_rfl) fun F bs w cargs hh hra => ?_
 obtain ⟨a, b, rfl, h1, h2⟩ := Ly hra
 obtain rfl := Jb h1
 obtain rfl := Jb h2
 obtain ⟨m, hm⟩ := hw.maxlen
 refine (Tryz.strings_Contains ⟨s.toArray⟩ ⟨t.toArray⟩ m w (by rw [Ej]; exact hs) (Q4 hh hm)).mono ?_
 rintro e w' ⟨rfl, rfl⟩
 exact ⟨_, rfl, by rw [Fq, Fq]; exact U2 _, Below.refl _ _⟩
theorem lCut (hw : Lw W0) {s t : Bz} (hs : s.length < 4294967281) : cP W0 222 [.str s, .str t] H (.tup [.str (Lib.cut s t).1, .str (Lib.cut s t).2.1, .bool (Lib.cut s t).2.2]) H := by
 refine A3.of_below (by kernel_rfl) fun F bs w cargs hh hra => ?_
 obtain ⟨a, b, rfl, h1, h2⟩ := Ly hra
 obtain rfl := Jb h1
 obtain rfl := Jb h2
 obtain ⟨m, hm⟩ := hw.maxlen
 refine (Tryz.strings_Cut ⟨s.toArray⟩ ⟨t.toArray⟩ m w (by rw [Ej]; exact hs) (Q4 hh hm)).mono ?_
 rintro e w' ⟨rfl, n, rfl⟩
 refine ⟨_, rfl, ?_, P6 w n⟩
 rw [Fq, Fq]
 simp only [Rep, A9]
 exact ⟨_, rfl, _, _, rfl, rfl, _, _, rfl, rfl, _, _, rfl, rfl, rfl⟩
theorem lCount1 {s : Bz} (c : UInt8) : cP W0 278 [.str s, .str [c]] H (.int .i64 (Lib.countByte s c)) H := by
 refine A3.of_below (by kernel_rfl) fun F bs w cargs hh hra => ?_
 obtain ⟨a, b, rfl, h1, h2⟩ := Ly hra
 obtain rfl := Jb h1
 obtain rfl := Jb h2
 refine (Tryz.strings_Count_one ⟨s.toArray⟩ c w).mono ?_
 rintro e w' ⟨rfl, rfl⟩
 exact ⟨_, rfl, by rw [Fq]; exact Y5 _ _, Below.refl _ _⟩
theorem lLast {s : Bz} (c : UInt8) (hs : s.length < 4611686018427387904) : cP W0 295 [.str s, .int .u8 (c.toNat : Nat)] H (.int .i64 (Kz s c)) H := by
 refine A3.of_below (by kernel_rfl) fun F bs w cargs hh hra => ?_
 obtain ⟨a, b, rfl, h1, h2⟩ := Ly hra
 obtain rfl := Jb h1
 simp only [Rep] at h2
 subst h2
 refine (Tryz.strings_LastIndexByte ⟨s.toArray⟩ c.toNat (by rw [Ej]; exact hs) w).mono ?_
 rintro e w' ⟨rfl, rfl⟩
 refine ⟨_, rfl, ?_, Below.refl _ _⟩
 have hget : ∀ j, j < s.length → ((ByteArray.mk s.toArray).data[j]!) = (s[j]?).getD 0 := fun j hj => by
  simp [hj]
 have : Lib.lastIndexByte ⟨s.toArray⟩ c.toNat = Kz s c := by
  unfold Lib.lastIndexByte
  rw [Ej]
  rcases Lib.lastIdx_spec ⟨s.toArray⟩ c.toNat s.length with ⟨h1, h2⟩ | ⟨i, hi, h1, h2, h3⟩ <;> rcases Rb c s with ⟨k1, k2⟩ | ⟨j, k1, k2, k3⟩
  · rw [h1, k1]
  · exfalso
    have hj := (List.getElem?_eq_some_iff.1 k2).1
    have := h2 j hj
    rw [hget j hj, k2] at this
    exact this rfl
  · exfalso
    rw [hget i hi] at h2
    have h2 : ((s[i]?).getD 0).toNat = c.toNat := by exact_mod_cast h2
    rw [gGe hi] at h2
    exact k2 (by rw [← UInt8.toNat_inj.1 h2]; exact List.getElem_mem hi)
  · rw [h1, k1]
    have hj := (List.getElem?_eq_some_iff.1 k2).1
    rw [hget i hi] at h2
    have h2 : ((s[i]?).getD 0).toNat = c.toNat := by exact_mod_cast h2
    have hic : s[i]? = some c := by
     rw [gGe hi] at h2 ⊢
     rw [← UInt8.toNat_inj.1 h2]; rfl
    rcases Nat.lt_trichotomy i j with h | h | h
    · have := h3 j h hj
      rw [hget j hj, k2] at this
      exact absurd rfl this
    · rw [h]
    · exact absurd hic (k3 i h)
 rw [this]
 exact Y5 _ _
theorem lItoa {n : Nat} (hn : n < 100) : cP W0 215 [.int .i64 n] H (.str (Lib.decDigits n)) H := by
 refine A3.of_below (by kernel_rfl) fun F bs w cargs hh hra => ?_
 obtain ⟨a, rfl, h1⟩ := Z0 hra
 simp only [Rep] at h1
 subst h1
 refine (Tryz.strconv_Itoa_small n hn w).mono ?_
 rintro e w' ⟨rfl, rfl⟩
 exact ⟨_, rfl, Rf _, Below.refl _ _⟩
theorem W2 (w : World) (e : TypeId) (s : ByteArray) : Below w.heap.size w (Lib.bytesWorld w e s) := by
 unfold Lib.bytesWorld
 exact Lib.below_freeze (((Below.refl w.heap.size w).drew).alloc (Nat.le_refl _) _) (p := ⟨w.heap.size, _, none⟩) (Nat.le_refl _) _
theorem lAtoi {s : Bz} {n : Int} (hs : s.length ≤ 9223372036854775806) (h : Lib.atoiAll s = .ok n) : cP W0 237 [.str s] H (.tup [.int .i64 n, .nilIf]) H := by
 refine A3.of_below (by kernel_rfl) fun F bs w cargs hh hra => ?_
 obtain ⟨a, rfl, h1⟩ := Z0 hra
 obtain rfl := Jb h1
 refine (Tryz.strconv_Atoi_ok ⟨s.toArray⟩ (by rw [Ej]; exact hs) n (by rw [Fq]; exact h) w).mono ?_
 rintro e w' ⟨rfl, hw'⟩
 refine ⟨_, rfl, ?_, ?_⟩
 · simp only [Rep, A9]
   exact ⟨_, rfl, _, _, rfl, rfl, _, _, rfl, rfl, rfl⟩
 · rcases hw' with rfl | ⟨t, rfl⟩
   · exact Below.refl _ _
   · exact W2 w 5 t
def errV : AVal := .iface 347 (.eptr (.str [65, 116, 111, 105]) 0)
theorem errRep (hh : Ac W0 F bs H w) {w' : World} {N : Nat} {s : ByteArray} {ev : Value} (hN : w.heap.size ≤ N) (h : w'.heap[N]? = some (.cells #[.string ⟨#[65, 116, 111, 105]⟩, .string s, ev] 362 (0, 0))) :
 Rep F bs H w' errV (.iface 347 (.pointer (some ⟨N, 0, none⟩))) := by
 have hlt : N < w'.heap.size := (Array.getElem?_eq_some_iff.1 h).1
 simp only [errV, Rep]
 refine ⟨_, rfl, N, 0, .string ⟨#[65, 116, 111, 105]⟩, rfl, rfl, ⟨fun hm => ?_, fun hF => ?_⟩, hlt, fun j x hx => ?_⟩
 · have := (hh.low N hm).2; omega
 · have := (hh.forb N hF).2.1; omega
 · cases j with
   | zero =>
     simp only [Value.cells, List.getElem?_cons_zero, iS] at hx
     subst hx
     simp [World.cell?, h]
   | succ j => simp [Value.cells] at hx
theorem A3n (hw : Lw W0) {s : Bz} (hs : s.length ≤ 281474976710656) (h : Lib.atoiAll s = Lib.NumEnd.syntax) : cP W0 237 [.str s] H (.tup [.int .i64 0, errV]) H := by
 refine A3.of_below (by kernel_rfl) fun F bs w cargs hh hra => ?_
 obtain ⟨a, rfl, h1⟩ := Z0 hra
 obtain rfl := Jb h1
 obtain ⟨ev, hev, hev2⟩ := hw.synt
 refine (Tryz.strconv_Atoi_syntax ⟨s.toArray⟩ (by rw [Ej]; exact hs) (by rw [Fq]; exact h) ev w (Q4 hh hev) hev2).mono ?_
 rintro e w' ⟨N, rfl, hN, hcell, hb⟩
 refine ⟨_, rfl, ?_, hb⟩
 have := errRep hh hN hcell
 simp only [Rep, A9]
 exact ⟨_, rfl, _, _, rfl, rfl, _, _, rfl, this, rfl⟩
theorem lValid (hw : Lw W0) {s : Bz} (hs : s.length ≤ 9223372036854775807) : cP W0 156 [.str s] H (.bool (Lib.validD s)) H := by
 refine A3.of_below (by kernel_rfl) fun F bs w cargs hh hra => ?_
 obtain ⟨a, rfl, h1⟩ := Z0 hra
 obtain rfl := Jb h1
 refine (Tryz.utf8_ValidString ⟨s.toArray⟩ w (by rw [Ej]; exact hs) (Z9 hh hw.tabs)).mono ?_
 rintro e w' ⟨rfl, hb⟩
 exact ⟨_, rfl, by rw [Fq]; exact U2 _, hb⟩
theorem lJoin {y : AVal} {ys : List AVal} {m : Nat} {l : List Bz} {sep : Bz} (hy : F5 1 H y = some (ys, m)) (hl : H8 ys = some l) (h1 : l.length ≤ 140737488355328) (h2 : (Lib.join l sep).length ≤ 140737488355328) : cP W0 142 [y, .str sep] H (.str (Lib.join l sep)) H := by
 refine A3.of_below (by kernel_rfl) fun F bs w cargs hh hra => ?_
 obtain ⟨a, b, rfl, k1, k2⟩ := Ly hra
 obtain rfl := Jb k2
 obtain ⟨ad, c, us, rfl, q1, q2, q3, q4⟩ := Oi hh k1 hy
 have hus := Sr hl q1
 have hlen : l.length = m := by have := congrArg List.length hus; simp at this; omega
 cases ad with
 | none =>
   have hm := q3 rfl
   subst hm
   have : l = [] := List.eq_nil_of_length_eq_zero hlen
   subst this
   refine (Tryz.strings_Join_none none c ⟨sep.toArray⟩ w).mono ?_
   rintro e w' ⟨rfl, rfl⟩
   exact ⟨_, rfl, Rf _, Below.refl _ _⟩
 | some ad =>
   by_cases hm : m = 0
   · subst hm
     have : l = [] := List.eq_nil_of_length_eq_zero hlen
     subst this
     refine (Tryz.strings_Join_none (some ad) c ⟨sep.toArray⟩ w).mono ?_
     rintro e w' ⟨rfl, rfl⟩
     exact ⟨_, rfl, Rf _, Below.refl _ _⟩
   · obtain ⟨hsp, hcap⟩ := Xv hh k1 hy hm
     obtain ⟨ab, ao, asp⟩ := ad
     simp only at hsp
     subst hsp
     subst hlen
     have hcell : ∀ (j : Nat) (x : ByteArray), (l.map fun s => ByteArray.mk s.toArray)[j]? = some x → w.cell? ⟨ab, ao + j, none⟩ = some (.string x) := fun j x hx => by
      rw [List.getElem?_map] at hx
      cases hj : l[j]? with
      | none => rw [hj] at hx; cases hx
      | some s =>
        rw [hj] at hx
        simp only [Option.map_some, iS] at hx
        subst hx
        have := q4 ⟨ab, ao, none⟩ rfl j (.string ⟨s.toArray⟩) (by rw [hus, List.getElem?_map, hj]; rfl)
        rwa [Addr.add_at] at this
     have hb : ab < w.heap.size := by
      cases l with
      | nil => exact absurd rfl hm
      | cons s r => exact World.block_lt_of_cell? w ⟨ab, ao + 0, none⟩ (hcell 0 _ rfl)
     have hmap : (l.map fun s => ByteArray.mk s.toArray).map (fun x => x.data.toList) = l := by
      rw [List.map_map]
      exact (List.map_congr_left (fun s _ => Fq s)).trans (List.map_id l)
     have := Tryz.strings_Join ab ao c (l.map fun s => ByteArray.mk s.toArray) ⟨sep.toArray⟩ w hcell hb (by simpa using h1) (by simpa using hcap) (by rw [hmap, Fq]; exact h2)
     rw [hmap, Fq, List.length_map] at this
     refine this.mono ?_
     rintro e w' ⟨rfl, hbl⟩
     exact ⟨_, rfl, Rf _, hbl⟩
theorem Dx {s t : Bz} : cP W0 253 [.str s, .str t] H (.bool (Lib.hasPrefix s t)) H := by
 refine A3.of_below (by kernel_rfl) fun F bs w cargs hh hra => ?_
 obtain ⟨a, b, rfl, h1, h2⟩ := Ly hra
 obtain rfl := Jb h1
 obtain rfl := Jb h2
 refine (Tryz.strings_HasPrefix ⟨s.toArray⟩ ⟨t.toArray⟩ w).mono ?_
 rintro e w' ⟨rfl, rfl⟩
 exact ⟨_, rfl, by rw [Fq, Fq]; exact U2 _, Below.refl _ _⟩
theorem Bd {s t : Bz} : cP W0 43 [.str s, .str t] H (.tup [.str (Lib.trimPrefix s t), .bool (Lib.hasPrefix s t)]) H := by
 refine A3.of_below (by kernel_rfl) fun F bs w cargs hh hra => ?_
 obtain ⟨a, b, rfl, h1, h2⟩ := Ly hra
 obtain rfl := Jb h1
 obtain rfl := Jb h2
 refine (Tryz.strings_CutPrefix ⟨s.toArray⟩ ⟨t.toArray⟩ w).mono ?_
 rintro e w' ⟨rfl, rfl⟩
 refine ⟨_, rfl, ?_, Below.refl _ _⟩
 rw [Fq, Fq]
 simp only [Rep, A9]
 exact ⟨_, rfl, _, _, rfl, rfl, _, _, rfl, rfl, rfl⟩
end Go.Abs
namespace Go.Abs
open Go.Proofs Go.RowKit
set_option maxRecDepth 100000
variable {W0 : World} {G : List (Nat × AVal)}
def Es (r : Int) : Bool := decide (48 ≤ r) && decide (r ≤ 57)
def letterL (r : Int) : Bool := (decide (65 ≤ r) && decide (r ≤ 90)) || (decide (97 ≤ r) && decide (r ≤ 122))
def Fv (r : Int) : Bool := Es r || letterL r || decide (r = 95) || decide (r = 46) || decide (r = 36)
def Qz (r : Int) : Bool := Es r || letterL r || decide (r = 36)
def rdr (s : Bz) (at' : Nat) : HObj := .cells 194 [.str s, .int .i64 at'] false
def F4 (k : Int) (s : Bz) (at' : Nat) : AVal := .agg [.int .i64 k, .str s, .int .i64 at']
def F206 : AFn := ⟨(sQ [wV 2 (.move (.val (.bool false)))] (sQ [wM 3 0, wV 4 (.bin .geq none 3 (.val (.int .i32 48))), wM 5 4, wT 6 5 (.move 0), wT 7 5 (.bin .leq none 6 (.val (.int .i32 57))), wV 8 (.pick 5 7 (.val (.bool false))), wM 2 8] .ret)), [2], 9⟩
theorem G206 : Au Tryz.prog 195 = some F206 := by kernel_rfl
def F310 : AFn := ⟨(sQ [wV 2 (.move (.val (.bool false)))] (sQ [wM 3 0, wV 4 (.bin .geq none 3 (.val (.int .i32 65))), wM 5 4, wT 6 5 (.move 0), wT 7 5 (.bin .leq none 6 (.val (.int .i32 90))), wV 8 (.pick 5 7 (.val (.bool false))), wM 9 8, wF 10 9 (.move 0), wF 11 9 (.bin .geq none 10 (.val (.int .i32 97))), wF 12 9 (.move 11), wT 13 12 (.move 0), wT 14 12 (.bin .leq none 13 (.val (.int .i32 122))), wF 15 9 (.pick 12 14 (.val (.bool false))), wV 16 (.pick 9 (.val (.bool true)) 15), wM 2 16] .ret)), [2], 17⟩
theorem G310 : Au Tryz.prog 263 = some F310 := by kernel_rfl
def F211 : AFn := ⟨(sQ [wV 2 (.move (.val (.bool false)))] (sQ [wM 3 0, wV 4 (kF 195 [3]), wM 5 4, wF 6 5 (.move 0), wF 7 5 (kF 263 [6]), wV 8 (.pick 5 (.val (.bool true)) 7), wM 9 8, wF 10 9 (.move 0), wF 11 9 (.bin .eql none 10 (.val (.int .i32 95))), wV 12 (.pick 9 (.val (.bool true)) 11), wM 13 12, wF 14 13 (.move 0), wF 15 13 (.bin .eql none 14 (.val (.int .i32 46))), wV 16 (.pick 13 (.val (.bool true)) 15), wM 17 16, wF 18 17 (.move 0), wF 19 17 (.bin .eql none 18 (.val (.int .i32 36))), wV 20 (.pick 17 (.val (.bool true)) 19), wM 2 20] .ret)), [2], 21⟩
theorem G211 : Au Tryz.prog 200 = some F211 := by kernel_rfl
def F363 : AFn := ⟨(sQ [wV 2 (.move (.val (.bool false)))] (sQ [wM 3 0, wV 4 (kF 195 [3]), wM 5 4, wF 6 5 (.move 0), wF 7 5 (kF 263 [6]), wV 8 (.pick 5 (.val (.bool true)) 7), wM 9 8, wF 10 9 (.move 0), wF 11 9 (.bin .eql none 10 (.val (.int .i32 36))), wV 12 (.pick 9 (.val (.bool true)) 11), wM 2 12] .ret)), [2], 13⟩
theorem G363 : Au Tryz.prog 308 = some F363 := by kernel_rfl
def F301 : AFn := ⟨(sQ [wV 2 (.move (.val (.str [])))] (.seq (.draw [wM 3 0, wV 4 (.nilCheck 3), wV 5 (.fieldAddr 0 4), wV 6 (.load 1 false 5), wM 7 0, wV 8 (.nilCheck 7), wV 9 (.fieldAddr 1 8), wV 10 (.load 1 false 9), wV 11 (.cutStr 6 (some 10) none), wM 2 11]) .ret)), [2], 12⟩
theorem G301 : Au Tryz.prog 254 = some F301 := by kernel_rfl
def F302 : AFn := ⟨(sQ [wV 8 (.alloc 160 [.int .i64 0, .str [], .int .i64 0]), wV 9 (.move (.val (.bool false)))] (sQ [wM 11 1, wM 12 2, wM 13 0, wV 14 (.nilCheck 13), wV 15 (.fieldAddr 1 14), wV 16 (.load 1 false 15), wV 17 (.build [.int .i64 0, .str [], .int .i64 0] [(0, 1, 11), (1, 1, 12), (2, 1, 16)]), wV 10 (.alloc 160 [.int .i64 0, .str [], .int .i64 0]), wN (.store 3 10 17)] (sQ [wM 18 0, wV 19 (.nilCheck 18), wV 20 (.fieldAddr 1 19), wV 21 (.load 1 false 20), wM 22 3, wV 23 (.bin .add none 21 22), wV 24 (.nilCheck 18), wV 25 (.fieldAddr 1 24), wN (.store 1 25 23)] (sQ [wV 26 (.load 3 true 10), wM 27 3, wV 28 (.bin .gtr none 27 (vI 0)), wN (.store 3 8 26), wM 9 28] .ret)))), [.cell 8 3 true, 9], 29⟩
theorem G302 : Au Tryz.prog 255 = some F302 := by kernel_rfl
theorem A3p (hg : Gr Tryz.prog W0 G) (r : Int) (H : Hz) : cP W0 195 [.int .i32 r] H (.bool (Es r)) H := by
 refine A3.of_fn G206 (by simp) rfl ?_
 refine sA (lV rfl (ln (sA (lV rfl ?_))))
 refine lB rfl rfl trivial (fun h1 => ?_) (fun h1 => ?_)
 · refine lV rfl (lGY rfl (A6 rfl rfl trivial (lGY rfl (?_))))
   refine lB rfl rfl trivial (fun h2 => ?_) (fun h2 => ?_)
   · refine lV rfl (lV rfl (ln ?_))
     exact ExA.ret (A5 trivial rfl (by simp_all [Bq, Es] <;> omega) rfl)
   · refine lV rfl (lV rfl (ln ?_))
     exact ExA.ret (A5 trivial rfl (by simp_all [Bq, Es] <;> omega) rfl)
 · refine lV rfl (lGN rfl rfl (lGN rfl rfl (lV rfl (lV rfl (ln ?_)))))
   exact ExA.ret (A5 trivial rfl (by simp_all [Bq, Es] <;> omega) rfl)
theorem c310 (hg : Gr Tryz.prog W0 G) (r : Int) (H : Hz) : cP W0 263 [.int .i32 r] H (.bool (letterL r)) H := by
 refine A3.of_fn G310 (by simp) rfl ?_
 refine sA (lV rfl (ln (sA (lV rfl ?_))))
 refine lB rfl rfl trivial (fun h1 => ?_) (fun h1 => ?_)
 · refine lV rfl (lGY rfl (A6 rfl rfl trivial (lGY rfl (?_))))
   refine lB rfl rfl trivial (fun h2 => ?_) (fun h2 => ?_)
   · refine lV rfl (lV rfl (lGN rfl rfl (lGN rfl rfl (lGN rfl rfl (lGT rfl rfl (lGT rfl rfl (lGN rfl rfl (lV rfl (lV rfl (ln ?_))))))))))
     exact ExA.ret (A5 trivial rfl (by simp_all [Bq, letterL] <;> omega) rfl)
   · refine lV rfl (lV rfl (lGY rfl (A6 rfl rfl trivial (lGY rfl (?_)))))
     refine lB rfl rfl trivial (fun h3 => ?_) (fun h3 => ?_)
     · refine lGY rfl (A6 rfl rfl trivial (lGY rfl (A6 rfl rfl trivial (lGY rfl (?_)))))
       refine lB rfl rfl trivial (fun h4 => ?_) (fun h4 => ?_)
       · refine lGY rfl (A6 rfl rfl trivial (A6 rfl rfl trivial (A6 rfl rfl trivial (Bo (?_)))))
         exact ExA.ret (A5 trivial rfl (by simp_all [Bq, letterL] <;> omega) rfl)
       · refine lGY rfl (A6 rfl rfl trivial (A6 rfl rfl trivial (A6 rfl rfl trivial (Bo (?_)))))
         exact ExA.ret (A5 trivial rfl (by simp_all [Bq, letterL] <;> omega) rfl)
     · refine lGY rfl (A6 rfl rfl trivial (lGN rfl rfl (lGN rfl rfl (lGY rfl (A6 rfl rfl trivial (A6 rfl rfl trivial (A6 rfl rfl trivial (Bo (?_)))))))))
       exact ExA.ret (A5 trivial rfl (by simp_all [Bq, letterL] <;> omega) rfl)
 · refine lV rfl (lGN rfl rfl (lGN rfl rfl (lV rfl (lV rfl (lGY rfl (A6 rfl rfl trivial (lGY rfl (?_))))))))
   refine lB rfl rfl trivial (fun h5 => ?_) (fun h5 => ?_)
   · refine lGY rfl (A6 rfl rfl trivial (lGY rfl (A6 rfl rfl trivial (lGY rfl (?_)))))
     refine lB rfl rfl trivial (fun h6 => ?_) (fun h6 => ?_)
     · refine lGY rfl (A6 rfl rfl trivial (A6 rfl rfl trivial (A6 rfl rfl trivial (Bo (?_)))))
       exact ExA.ret (A5 trivial rfl (by simp_all [Bq, letterL] <;> omega) rfl)
     · refine lGY rfl (A6 rfl rfl trivial (A6 rfl rfl trivial (A6 rfl rfl trivial (Bo (?_)))))
       exact ExA.ret (A5 trivial rfl (by simp_all [Bq, letterL] <;> omega) rfl)
   · refine lGY rfl (A6 rfl rfl trivial (lGN rfl rfl (lGN rfl rfl (lGY rfl (A6 rfl rfl trivial (A6 rfl rfl trivial (A6 rfl rfl trivial (Bo (?_)))))))))
     exact ExA.ret (A5 trivial rfl (by simp_all [Bq, letterL] <;> omega) rfl)
theorem c211 (hg : Gr Tryz.prog W0 G) (r : Int) (H : Hz) : cP W0 200 [.int .i32 r] H (.bool (Fv r)) H := by
 refine A3.of_fn G211 (by simp) rfl ?_
 refine sA (lV rfl (ln (sA (lV rfl ?_))))
 refine lCB rfl rfl (A3p hg _ _) (fun h1 => ?_) (fun h1 => ?_)
 · refine lV rfl (lGN rfl rfl (lGN rfl rfl (lV rfl (lV rfl (lGN rfl rfl (lGN rfl rfl (lV rfl (lV rfl (lGN rfl rfl (lGN rfl rfl (lV rfl (lV rfl (lGN rfl rfl (lGN rfl rfl (lV rfl (lV rfl (ln ?_)))))))))))))))))
   exact ExA.ret (A5 trivial rfl (by simp_all [Bq, Fv] <;> omega) rfl)
 · refine lV rfl (lGY rfl (A6 rfl rfl trivial (lGY rfl (?_))))
   refine lCB rfl rfl (c310 hg _ _) (fun h2 => ?_) (fun h2 => ?_)
   · refine lV rfl (lV rfl (lGN rfl rfl (lGN rfl rfl (lV rfl (lV rfl (lGN rfl rfl (lGN rfl rfl (lV rfl (lV rfl (lGN rfl rfl (lGN rfl rfl (lV rfl (lV rfl (ln ?_))))))))))))))
     exact ExA.ret (A5 trivial rfl (by simp_all [Bq, Fv] <;> omega) rfl)
   · refine lV rfl (lV rfl (lGY rfl (A6 rfl rfl trivial (lGY rfl (?_)))))
     refine lB rfl rfl trivial (fun h3 => ?_) (fun h3 => ?_)
     · refine lV rfl (lV rfl (lGN rfl rfl (lGN rfl rfl (lV rfl (lV rfl (lGN rfl rfl (lGN rfl rfl (lV rfl (lV rfl (ln ?_))))))))))
       exact ExA.ret (A5 trivial rfl (by simp_all [Bq, Fv] <;> omega) rfl)
     · refine lV rfl (lV rfl (lGY rfl (A6 rfl rfl trivial (lGY rfl (?_)))))
       refine lB rfl rfl trivial (fun h4 => ?_) (fun h4 => ?_)
       · refine lV rfl (lV rfl (lGN rfl rfl (lGN rfl rfl (lV rfl (lV rfl (ln ?_))))))
         exact ExA.ret (A5 trivial rfl (by simp_all [Bq, Fv] <;> omega) rfl)
       · refine lV rfl (lV rfl (lGY rfl (A6 rfl rfl trivial (lGY rfl (?_)))))
         refine lB rfl rfl trivial (fun h5 => ?_) (fun h5 => ?_)
         · refine lV rfl (lV rfl (ln ?_))
           exact ExA.ret (A5 trivial rfl (by simp_all [Bq, Fv] <;> omega) rfl)
         · refine lV rfl (lV rfl (ln ?_))
           exact ExA.ret (A5 trivial rfl (by simp_all [Bq, Fv] <;> omega) rfl)
theorem c363 (hg : Gr Tryz.prog W0 G) (r : Int) (H : Hz) : cP W0 308 [.int .i32 r] H (.bool (Qz r)) H := by
 refine A3.of_fn G363 (by simp) rfl ?_
 refine sA (lV rfl (ln (sA (lV rfl ?_))))
 refine lCB rfl rfl (A3p hg _ _) (fun h1 => ?_) (fun h1 => ?_)
 · refine lV rfl (lGN rfl rfl (lGN rfl rfl (lV rfl (lV rfl (lGN rfl rfl (lGN rfl rfl (lV rfl (lV rfl (ln ?_)))))))))
   exact ExA.ret (A5 trivial rfl (by simp_all [Bq, Qz] <;> omega) rfl)
 · refine lV rfl (lGY rfl (A6 rfl rfl trivial (lGY rfl (?_))))
   refine lCB rfl rfl (c310 hg _ _) (fun h2 => ?_) (fun h2 => ?_)
   · refine lV rfl (lV rfl (lGN rfl rfl (lGN rfl rfl (lV rfl (lV rfl (ln ?_))))))
     exact ExA.ret (A5 trivial rfl (by simp_all [Bq, Qz] <;> omega) rfl)
   · refine lV rfl (lV rfl (lGY rfl (A6 rfl rfl trivial (lGY rfl (?_)))))
     refine lB rfl rfl trivial (fun h3 => ?_) (fun h3 => ?_)
     · refine lV rfl (lV rfl (ln ?_))
       exact ExA.ret (A5 trivial rfl (by simp_all [Bq, Qz] <;> omega) rfl)
     · refine lV rfl (lV rfl (ln ?_))
       exact ExA.ret (A5 trivial rfl (by simp_all [Bq, Qz] <;> omega) rfl)
theorem c301p (hg : Gr Tryz.prog W0 G) (s : Bz) (at' : Nat) (h : at' ≤ s.length) (_ : s.length ≤ 9223372036854775807) : cP W0 254 [.ptr 0 0] [rdr s at'] (.str (s.drop at')) [rdr s at'] := by
 refine A3.of_fn G301 (by simp) rfl ?_
 refine sA (lV rfl (ln (sa ?_)))
 refine ExA.draw hg ?_
 refine qV rfl (qV rfl (qV rfl (qV rfl (qV rfl (qV rfl (qV rfl (qV rfl (C5 rfl rfl (by simp only [Ar, Ae, and_true]; omega) (qV rfl (Et (?_)))))))))))
 exact ExA.ret (A5 trivial rfl rfl rfl)
theorem c301 (hg : Gr Tryz.prog W0 G) {H : Hz} {id : Nat} {s : Bz} {at' : Nat} (hi : H[id]? = some (rdr s at')) (h : at' ≤ s.length) (h2 : s.length ≤ 9223372036854775807) : cP W0 254 [.ptr id 0] H (.str (s.drop at')) H := A3.at1 (c301p hg s at' h h2) hi rfl rfl rfl rfl rfl rfl (Wg hi)
theorem c302p (hg : Gr Tryz.prog W0 G) (s : Bz) (at' n : Nat) (k : Int) (t : Bz) (h : at' + n ≤ 9223372036854775807) (hn : 0 < n) : cP W0 255 [.ptr 0 0, .int .i64 k, .str t, .int .i64 n] [rdr s at'] (.tup [F4 k t at', .bool true]) [rdr s (at' + n)] := by
 refine A3.of_fn G302 (by simp) rfl ?_
 refine sA (lV (v := .ptr 1 0) rfl (lV rfl (ln (sA (lV rfl (lV rfl (lV rfl (lV rfl (lV rfl (lV rfl (lV rfl (lV (v := .ptr 2 0) rfl (Dn rfl (ln (sA (lV rfl (lV rfl (lV rfl (lV rfl (lV rfl (lAddN rfl rfl rfl (by omega) (A6 rfl rfl trivial (A6 rfl rfl trivial (Dn rfl (Bo (ExA.seq (ExA.ops hg (A6 rfl rfl trivial (A6 rfl rfl trivial (?_))))))))))))))))))))))))))))))
 refine lB rfl rfl trivial (fun h1 => ?_) (fun h1 => ?_)
 · refine Dn rfl (A6 rfl rfl trivial (Bo (?_)))
   exact ExA.ret (A4 trivial rfl rfl 100 rfl rfl)
 · refine Dn rfl (A6 rfl rfl trivial (Bo (?_)))
   exact ExA.ret (absurd h1 (by simp; omega))
theorem Vi (hg : Gr Tryz.prog W0 G) {H H' : Hz} {id : Nat} {s : Bz} {at' n : Nat} (k : Int) (t : Bz) (hi : H[id]? = some (rdr s at')) (h : at' + n ≤ 9223372036854775807) (hn : 0 < n) (hH : H.set id (rdr s (at' + n)) = H') :
 cP W0 255 [.ptr id 0, .int .i64 k, .str t, .int .i64 n] H (.tup [F4 k t at', .bool true]) H' := A3.at1 (c302p hg s at' n k t h hn) hi rfl rfl rfl rfl rfl rfl hH
def Jr (x : Int) : Int := if 65 ≤ x ∧ x ≤ 90 then x + 32 else x
def upF (x : Int) : Int := if 97 ≤ x ∧ x ≤ 122 then x - 32 else x
theorem w32 {x : Int} (h1 : -2147483648 ≤ x) (h2 : x ≤ 2147483647) : IntKind.i32.wrap x = x := by rw [IntKind.wrap_i32]; omega
def F92 : AFn := ⟨(sQ [wV 2 (.move (.val (.int .i32 0)))] (.seq (sQ [wM 3 0, wV 4 (.bin .geq none 3 (.val (.int .i32 65))), wM 5 4, wT 6 5 (.move 0), wT 7 5 (.bin .leq none 6 (.val (.int .i32 90))), wV 8 (.pick 5 7 (.val (.bool false)))] (.cond 8 (sQ [wM 9 0, wV 10 (.bin .add none 9 (.val (.int .i32 97))), wV 11 (.bin .sub none 10 (.val (.int .i32 65))), wM 2 11] .ret) .skip)) (sQ [wM 12 0, wM 2 12] .ret))), [2], 13⟩
theorem G92 : Au Tryz.prog 119 = some F92 := by kernel_rfl
def F129 : AFn := ⟨(sQ [wV 2 (.move (.val (.int .i32 0)))] (.seq (sQ [wM 3 0, wV 4 (.bin .geq none 3 (.val (.int .i32 65))), wM 5 4, wT 6 5 (.move 0), wT 7 5 (.bin .leq none 6 (.val (.int .i32 90))), wV 8 (.pick 5 7 (.val (.bool false)))] (.cond 8 (sQ [wM 9 0, wV 10 (.bin .add none 9 (.val (.int .i32 97))), wV 11 (.bin .sub none 10 (.val (.int .i32 65))), wM 2 11] .ret) .skip)) (sQ [wM 12 0, wM 2 12] .ret))), [2], 13⟩
theorem G129 : Au Tryz.prog 120 = some F129 := by kernel_rfl
def F354 : AFn := ⟨(sQ [wV 2 (.move (.val (.int .i32 0)))] (.seq (sQ [wM 3 0, wV 4 (.bin .geq none 3 (.val (.int .i32 97))), wM 5 4, wT 6 5 (.move 0), wT 7 5 (.bin .leq none 6 (.val (.int .i32 122))), wV 8 (.pick 5 7 (.val (.bool false)))] (.cond 8 (sQ [wM 9 0, wV 10 (.bin .sub none 9 (.val (.int .i32 97))), wV 11 (.bin .add none 10 (.val (.int .i32 65))), wM 2 11] .ret) .skip)) (sQ [wM 12 0, wM 2 12] .ret))), [2], 13⟩
theorem G354 : Au Tryz.prog 297 = some F354 := by kernel_rfl
def F362 : AFn := ⟨(sQ [wV 2 (.move (.val (.int .i32 0)))] (.seq (sQ [wM 3 0, wV 4 (.bin .geq none 3 (.val (.int .i32 97))), wM 5 4, wT 6 5 (.move 0), wT 7 5 (.bin .leq none 6 (.val (.int .i32 122))), wV 8 (.pick 5 7 (.val (.bool false)))] (.cond 8 (sQ [wM 9 0, wV 10 (.bin .sub none 9 (.val (.int .i32 97))), wV 11 (.bin .add none 10 (.val (.int .i32 65))), wM 2 11] .ret) .skip)) (sQ [wM 12 0, wM 2 12] .ret))), [2], 13⟩
theorem G362 : Au Tryz.prog 307 = some F362 := by kernel_rfl
def F451 : AFn := ⟨(sQ [wV 4 (.move (.val (.int .i32 0)))] (.seq (sQ [wM 5 0, wV 6 (.load 1 false 1), wV 7 (.bin .geq none 5 6), wM 8 7, wT 9 8 (.move 0), wT 10 8 (.load 1 false 1), wT 11 8 (.bin .add none 10 (.val (.int .i32 26))), wT 12 8 (.bin .lss none 9 11), wV 13 (.pick 8 12 (.val (.bool false)))] (.cond 13 (sQ [wM 14 0, wV 15 (.load 1 false 1), wV 16 (.bin .sub none 14 15), wV 17 (.load 1 false 2), wV 18 (.bin .add none 16 17), wM 4 18] .ret) .skip)) (sQ [wM 19 0, wM 4 19] .ret))), [4], 20⟩
theorem G451 : Au Tryz.prog 346 = some F451 := by kernel_rfl
theorem c92 (hg : Gr Tryz.prog W0 G) (x : Nat) (hx : x ≤ 1114111) (H : Hz) : cP W0 119 [.int .i32 x] H (.int .i32 (Jr x)) H := by
 refine A3.of_fn G92 (by simp) rfl ?_
 refine sA (lV rfl (ln (sa (sA (lV rfl ?_)))))
 refine lB rfl rfl trivial (fun h1 => ?_) (fun h1 => ?_)
 · refine lV rfl (lGY rfl (A6 rfl rfl trivial (lGY rfl (?_))))
   refine lB rfl rfl trivial (fun h2 => ?_) (fun h2 => ?_)
   · refine lV rfl (ln (aT rfl (sA (lV rfl (lS rfl (lV rfl (lV rfl (ln ?_))))))))
     refine ExA.ret ?_
     refine A5 trivial rfl ?_ rfl
     show AVal.int .i32 (IntKind.i32.wrap (IntKind.i32.wrap (_ + _) - _)) = _
     rw [w32 (x := _ + _) (by simp_all; omega) (by simp_all; omega), w32 (by simp_all; omega) (by simp_all; omega)]
     simp only [Jr]
     rw [if_pos (by simp_all <;> omega)]
     congr 1; omega
   · refine lV rfl (ln (aF rfl (kA (sA (lV rfl (lV rfl (ln ?_)))))))
     refine ExA.ret ?_
     refine A5 trivial rfl ?_ rfl
     simp only [Bq, Jr]
     rw [if_neg (by simp_all <;> omega)]
 · refine lV rfl (lGN rfl rfl (lGN rfl rfl (lV rfl (ln (aF rfl (kA (sA (lV rfl (lV rfl (ln ?_))))))))))
   refine ExA.ret ?_
   refine A5 trivial rfl ?_ rfl
   simp only [Bq, Jr]
   rw [if_neg (by simp_all <;> omega)]
theorem c129 (hg : Gr Tryz.prog W0 G) (x : Nat) (hx : x ≤ 1114111) (H : Hz) : cP W0 120 [.int .i32 x] H (.int .i32 (Jr x)) H := by
 refine A3.of_fn G129 (by simp) rfl ?_
 refine sA (lV rfl (ln (sa (sA (lV rfl ?_)))))
 refine lB rfl rfl trivial (fun h1 => ?_) (fun h1 => ?_)
 · refine lV rfl (lGY rfl (A6 rfl rfl trivial (lGY rfl (?_))))
   refine lB rfl rfl trivial (fun h2 => ?_) (fun h2 => ?_)
   · refine lV rfl (ln (aT rfl (sA (lV rfl (lS rfl (lV rfl (lV rfl (ln ?_))))))))
     refine ExA.ret ?_
     refine A5 trivial rfl ?_ rfl
     show AVal.int .i32 (IntKind.i32.wrap (IntKind.i32.wrap (_ + _) - _)) = _
     rw [w32 (x := _ + _) (by simp_all; omega) (by simp_all; omega), w32 (by simp_all; omega) (by simp_all; omega)]
     simp only [Jr]
     rw [if_pos (by simp_all <;> omega)]
     congr 1; omega
   · refine lV rfl (ln (aF rfl (kA (sA (lV rfl (lV rfl (ln ?_)))))))
     refine ExA.ret ?_
     refine A5 trivial rfl ?_ rfl
     simp only [Bq, Jr]
     rw [if_neg (by simp_all <;> omega)]
 · refine lV rfl (lGN rfl rfl (lGN rfl rfl (lV rfl (ln (aF rfl (kA (sA (lV rfl (lV rfl (ln ?_))))))))))
   refine ExA.ret ?_
   refine A5 trivial rfl ?_ rfl
   simp only [Bq, Jr]
   rw [if_neg (by simp_all <;> omega)]
theorem c354 (hg : Gr Tryz.prog W0 G) (x : Nat) (hx : x ≤ 1114111) (H : Hz) : cP W0 297 [.int .i32 x] H (.int .i32 (upF x)) H := by
 refine A3.of_fn G354 (by simp) rfl ?_
 refine sA (lV rfl (ln (sa (sA (lV rfl ?_)))))
 refine lB rfl rfl trivial (fun h1 => ?_) (fun h1 => ?_)
 · refine lV rfl (lGY rfl (A6 rfl rfl trivial (lGY rfl (?_))))
   refine lB rfl rfl trivial (fun h2 => ?_) (fun h2 => ?_)
   · refine lV rfl (ln (aT rfl (sA (lV rfl (lV rfl (lS rfl (lV rfl (ln ?_))))))))
     refine ExA.ret ?_
     refine A5 trivial rfl ?_ rfl
     show AVal.int .i32 (IntKind.i32.wrap (IntKind.i32.wrap (_ - _) + _)) = _
     rw [w32 (x := _ - _) (by simp_all; omega) (by simp_all; omega), w32 (by simp_all; omega) (by simp_all; omega)]
     simp only [upF]
     rw [if_pos (by simp_all <;> omega)]
     congr 1; omega
   · refine lV rfl (ln (aF rfl (kA (sA (lV rfl (lV rfl (ln ?_)))))))
     refine ExA.ret ?_
     refine A5 trivial rfl ?_ rfl
     simp only [Bq, upF]
     rw [if_neg (by simp_all <;> omega)]
 · refine lV rfl (lGN rfl rfl (lGN rfl rfl (lV rfl (ln (aF rfl (kA (sA (lV rfl (lV rfl (ln ?_))))))))))
   refine ExA.ret ?_
   refine A5 trivial rfl ?_ rfl
   simp only [Bq, upF]
   rw [if_neg (by simp_all <;> omega)]
theorem c362 (hg : Gr Tryz.prog W0 G) (x : Nat) (hx : x ≤ 1114111) (H : Hz) : cP W0 307 [.int .i32 x] H (.int .i32 (upF x)) H := by
 refine A3.of_fn G362 (by simp) rfl ?_
 refine sA (lV rfl (ln (sa (sA (lV rfl ?_)))))
 refine lB rfl rfl trivial (fun h1 => ?_) (fun h1 => ?_)
 · refine lV rfl (lGY rfl (A6 rfl rfl trivial (lGY rfl (?_))))
   refine lB rfl rfl trivial (fun h2 => ?_) (fun h2 => ?_)
   · refine lV rfl (ln (aT rfl (sA (lV rfl (lV rfl (lS rfl (lV rfl (ln ?_))))))))
     refine ExA.ret ?_
     refine A5 trivial rfl ?_ rfl
     show AVal.int .i32 (IntKind.i32.wrap (IntKind.i32.wrap (_ - _) + _)) = _
     rw [w32 (x := _ - _) (by simp_all; omega) (by simp_all; omega), w32 (by simp_all; omega) (by simp_all; omega)]
     simp only [upF]
     rw [if_pos (by simp_all <;> omega)]
     congr 1; omega
   · refine lV rfl (ln (aF rfl (kA (sA (lV rfl (lV rfl (ln ?_)))))))
     refine ExA.ret ?_
     refine A5 trivial rfl ?_ rfl
     simp only [Bq, upF]
     rw [if_neg (by simp_all <;> omega)]
 · refine lV rfl (lGN rfl rfl (lGN rfl rfl (lV rfl (ln (aF rfl (kA (sA (lV rfl (lV rfl (ln ?_))))))))))
   refine ExA.ret ?_
   refine A5 trivial rfl ?_ rfl
   simp only [Bq, upF]
   rw [if_neg (by simp_all <;> omega)]
theorem A0d (hg : Gr Tryz.prog W0 G) (x : Nat) (hx : x ≤ 1114111) (H : Hz) : cP W0 346 [.int .i32 x, .eptr (.int .i32 97) 0, .eptr (.int .i32 65) 0] H (.int .i32 (upF x)) H := by
 refine A3.of_fn G451 (by simp) rfl ?_
 refine sA (lV rfl (ln (sa (sA (lV rfl (lV rfl ?_))))))
 refine lB rfl rfl trivial (fun h1 => ?_) (fun h1 => ?_)
 · refine lV rfl (lGY rfl (A6 rfl rfl trivial (lGY rfl (A6 rfl rfl trivial (lGY rfl (A6 (v := .int .i32 123) rfl rfl (by first | exact trivial | (simp only [Ar, B6, Ae, and_true]; omega)) (lGY rfl (?_))))))))
   refine lB rfl rfl trivial (fun h2 => ?_) (fun h2 => ?_)
   · refine lV rfl (ln (aT rfl (sA (lV rfl (lV rfl (lV rfl (lV rfl (lS rfl (lV rfl (ln ?_))))))))))
     refine ExA.ret ?_
     refine A5 trivial rfl ?_ rfl
     show AVal.int .i32 (IntKind.i32.wrap (IntKind.i32.wrap (_ - _) + _)) = _
     rw [w32 (x := _ - _) (by simp_all; omega) (by simp_all; omega), w32 (by simp_all; omega) (by simp_all; omega)]
     simp only [upF]
     rw [if_pos (by simp_all <;> omega)]
     congr 1; omega
   · refine lV rfl (ln (aF rfl (kA (sA (lV rfl (lV rfl (ln ?_)))))))
     refine ExA.ret ?_
     refine A5 trivial rfl ?_ rfl
     simp only [Bq, upF]
     rw [if_neg (by simp_all <;> omega)]
 · refine lV rfl (lGN rfl rfl (lGN rfl rfl (lGN rfl rfl (lGN rfl rfl (lV rfl (ln (aF rfl (kA (sA (lV rfl (lV rfl (ln ?_))))))))))))
   refine ExA.ret ?_
   refine A5 trivial rfl ?_ rfl
   simp only [Bq, upF]
   rw [if_neg (by simp_all <;> omega)]
theorem A2g (hg : Gr Tryz.prog W0 G) (x : Nat) (hx : x ≤ 1114111) (H : Hz) : cP W0 346 [.int .i32 x, .eptr (.int .i32 65) 0, .eptr (.int .i32 97) 0] H (.int .i32 (Jr x)) H := by
 refine A3.of_fn G451 (by simp) rfl ?_
 refine sA (lV rfl (ln (sa (sA (lV rfl (lV rfl ?_))))))
 refine lB rfl rfl trivial (fun h1 => ?_) (fun h1 => ?_)
 · refine lV rfl (lGY rfl (A6 rfl rfl trivial (lGY rfl (A6 rfl rfl trivial (lGY rfl (A6 (v := .int .i32 91) rfl rfl (by first | exact trivial | (simp only [Ar, B6, Ae, and_true]; omega)) (lGY rfl (?_))))))))
   refine lB rfl rfl trivial (fun h2 => ?_) (fun h2 => ?_)
   · refine lV rfl (ln (aT rfl (sA (lV rfl (lV rfl (lV rfl (lV rfl (lS rfl (lV rfl (ln ?_))))))))))
     refine ExA.ret ?_
     refine A5 trivial rfl ?_ rfl
     show AVal.int .i32 (IntKind.i32.wrap (IntKind.i32.wrap (_ - _) + _)) = _
     rw [w32 (x := _ - _) (by simp_all; omega) (by simp_all; omega), w32 (by simp_all; omega) (by simp_all; omega)]
     simp only [Jr]
     rw [if_pos (by simp_all <;> omega)]
     congr 1; omega
   · refine lV rfl (ln (aF rfl (kA (sA (lV rfl (lV rfl (ln ?_)))))))
     refine ExA.ret ?_
     refine A5 trivial rfl ?_ rfl
     simp only [Bq, Jr]
     rw [if_neg (by simp_all <;> omega)]
 · refine lV rfl (lGN rfl rfl (lGN rfl rfl (lGN rfl rfl (lGN rfl rfl (lV rfl (ln (aF rfl (kA (sA (lV rfl (lV rfl (ln ?_))))))))))))
   refine ExA.ret ?_
   refine A5 trivial rfl ?_ rfl
   simp only [Bq, Jr]
   rw [if_neg (by simp_all <;> omega)]
theorem Tn (W : World) : Gr Tryz.prog W [] := ⟨fun _ _ h => (by cases h), (by kernel_rfl)⟩
def A48 (g : Nat) (caps : List AVal) : Option (Int → Int) :=
 match caps with
 | [] => cond (Nat.beq g 119 || Nat.beq g 120) (some Jr) (cond (Nat.beq g 297 || Nat.beq g 307) (some upF) none)
 | [.eptr (.int .i32 a) 0, .eptr (.int .i32 b) 0] => cond (Nat.beq g 346) (cond (decide (a = 97) && decide (b = 65)) (some upF) (cond (decide (a = 65) && decide (b = 97)) (some Jr) none)) none
 | _ => none
theorem Xx (x : Nat) (h : x ≤ 1114111) : -2147483648 ≤ Jr x ∧ Jr x ≤ 2147483647 := by unfold Jr; split <;> omega
theorem A2x (x : Nat) (h : x ≤ 1114111) : -2147483648 ≤ upF x ∧ upF x ≤ 2147483647 := by unfold upF; split <;> omega
theorem A3z {g : Nat} {caps : List AVal} {f : Int → Int} (h : A48 g caps = some f) : A0a Tryz.prog g = true ∧ (∀ (W : World) (x : Nat), x ≤ 1114111 → A3 Tryz.prog W g (.int .i32 x :: caps) [] (.int .i32 (f x)) []) ∧ ∀ x : Nat, x ≤ 1114111 → -2147483648 ≤ f x ∧ f x ≤ 2147483647 := by
 unfold A48 at h
 split at h
 · cases h1 : (Nat.beq g 119 || Nat.beq g 120) with
   | true =>
     rw [h1, cond_true] at h
     injection h with h
     subst h
     rw [Bool.or_eq_true] at h1
     rcases h1 with h1 | h1 <;> (have := nBq h1; subst this)
     · exact ⟨by kernel_rfl, fun W x hx => c92 (Tn W) x hx [], Xx⟩
     · exact ⟨by kernel_rfl, fun W x hx => c129 (Tn W) x hx [], Xx⟩
   | false =>
     rw [h1, cond_false] at h
     cases h2 : (Nat.beq g 297 || Nat.beq g 307) with
     | true =>
       rw [h2, cond_true] at h
       injection h with h
       subst h
       rw [Bool.or_eq_true] at h2
       rcases h2 with h1 | h1 <;> (have := nBq h1; subst this)
       · exact ⟨by kernel_rfl, fun W x hx => c354 (Tn W) x hx [], A2x⟩
       · exact ⟨by kernel_rfl, fun W x hx => c362 (Tn W) x hx [], A2x⟩
     | false => rw [h2] at h; cases h
 · rename_i a b
   cases h1 : Nat.beq g 346 with
   | false => rw [h1] at h; cases h
   | true =>
     rw [h1, cond_true] at h
     have := nBq h1
     subst this
     cases h2 : (decide (a = 97) && decide (b = 65)) with
     | true =>
       rw [h2, cond_true] at h
       injection h with h
       subst h
       simp only [bAt, dTe] at h2
       obtain ⟨rfl, rfl⟩ := h2
       exact ⟨by kernel_rfl, fun W x hx => A0d (Tn W) x hx [], A2x⟩
     | false =>
       rw [h2, cond_false] at h
       cases h3 : (decide (a = 65) && decide (b = 97)) with
       | true =>
         rw [h3, cond_true] at h
         injection h with h
         subst h
         simp only [bAt, dTe] at h3
         obtain ⟨rfl, rfl⟩ := h3
         exact ⟨by kernel_rfl, fun W x hx => A2g (Tn W) x hx [], Xx⟩
       | false => rw [h3] at h; cases h
 · cases h
def Zo (f : Int → Int) (s : Bz) : Bool := s.all fun b => Nat.blt b.toNat 128 && (decide (0 ≤ f (b.toNat : Nat)) && decide (f (b.toNat : Nat) < 128))
def tMap (H : Hz) : List AVal → Option AVal
 | [.fn g [] caps, .str s] => match Qp H caps with
   | some caps' => match A48 g caps' with
     | some f => cond (Zo f s && Nat.ble s.length 1000000) (some (.str (Uz f s))) none
     | none => none
   | none => none
 | _ => none
theorem Z5 (hw : Lw W0) {H : Hz} {args : List AVal} {v : AVal} (h : tMap H args = some v) : cP W0 118 args H v H := by
 unfold tMap at h
 split at h
 · rename_i g caps s
   split at h
   · rename_i caps' he
     split at h
     · rename_i f hf
       cases hc : (Zo f s && Nat.ble s.length 1000000) with
       | false => rw [hc] at h; cases h
       | true =>
         rw [hc, cond_true] at h
         injection h with h
         subst h
         simp only [bAt] at hc
         have hl := Nat.le_of_ble_eq_true hc.2
         have hall : ∀ b ∈ s, b.toNat < 128 ∧ 0 ≤ f (b.toNat : Nat) ∧ f (b.toNat : Nat) < 128 := by
          intro b hb
          have := List.all_eq_true.1 hc.1 b hb
          simp only [bAt, dTe, Nat.blt_eq] at this
          exact this
         obtain ⟨k1, k2, k3⟩ := A3z hf
         rw [← A2o s (List.all_eq_true.2 fun b hb => by simpa [Nat.blt_eq] using (hall b hb).1) (fun b hb => (hall b hb).2)]
         exact lMap hw k1 he k2 k3 (by omega)
     · cases h
   · cases h
 · cases h
def Y0 : List AVal → Option AVal
 | [.str s, .str t] => cond (Nat.ble s.length 1000000) (some (.int .i64 (Lib.index s t))) none
 | _ => none
def Oc : List AVal → Option AVal
 | [.str s, .str t] => cond (Nat.ble s.length 1000000) (some (.bool (Lib.contains s t))) none
 | _ => none
def tCut : List AVal → Option AVal
 | [.str s, .str t] => cond (Nat.ble s.length 1000000) (some (.tup [.str (Lib.cut s t).1, .str (Lib.cut s t).2.1, .bool (Lib.cut s t).2.2])) none
 | _ => none
def Xu : List AVal → Option AVal
 | [.str s, .str [c]] => some (.int .i64 (Lib.countByte s c))
 | _ => none
def A4i : List AVal → Option AVal
 | [.str s, .int .u8 n] => cond (decide (((n.toNat.toUInt8).toNat : Int) = n) && Nat.ble s.length 1000000) (some (.int .i64 (Kz s n.toNat.toUInt8))) none
 | _ => none
def dig2 (n : Nat) : Bz := cond (Nat.blt n 10) [UInt8.ofNat (48 + n)] [UInt8.ofNat (48 + n / 10), UInt8.ofNat (48 + n % 10)]
def A3f : List AVal → Option AVal
 | [.int .i64 n] => cond (decide (0 ≤ n) && decide (n < 100)) (some (.str (dig2 n.toNat))) none
 | _ => none
def A3a : List AVal → Option AVal
 | [.str s] => cond (Nat.ble s.length 1000000) (match Lib.atoiAll s with
   | .ok n => some (.tup [.int .i64 n, .nilIf])
   | Lib.NumEnd.syntax => some (.tup [.int .i64 0, errV])
   | .range => none) none
 | _ => none
def Xm : List AVal → Option AVal
 | [.str s] => cond (asc s && Nat.ble s.length 1000000) (some (.bool true)) none
 | _ => none
def A4k (H : Hz) : List AVal → Option AVal
 | [y, .str sep] => match F5 1 H y with
   | some (ys, _) => match H8 ys with
     | some l => cond (Nat.ble l.length 1000000 && Nat.ble (Lib.join l sep).length 1000000) (some (.str (Lib.join l sep))) none
     | none => none
   | none => none
 | _ => none
theorem dig2_ok {n : Nat} (h : n < 100) : dig2 n = Lib.decDigits n := by
 unfold dig2
 rw [Lib.decDigits]
 by_cases h1 : n < 10
 · rw [dif_pos h1, show Nat.blt n 10 = true by simpa [Nat.blt_eq] using h1]; rfl
 · rw [dif_neg h1, show Nat.blt n 10 = false from (by cases hb : Nat.blt n 10 with | false => rfl | true => exact absurd (by simpa [Nat.blt_eq] using hb) h1), Lib.decDigits, dif_pos (by omega)]; rfl
theorem X7 : ∀ s : Bz, asc s = true → Lib.validD s = true := by
 have go : ∀ (n : Nat) (s : Bz), asc s = true → Lib.validGoD n s = true := by
  intro n
  induction n with
  | zero => intro s _; rfl
  | succ n ih =>
    intro s hs
    cases s with
    | nil => rfl
    | cons b r =>
      simp only [asc, List.all_cons, bAt, Nat.blt_eq] at hs
      unfold Lib.validGoD
      rw [if_neg (by simp), Lib.decodeL_ascii b r hs.1, if_neg (by simp; omega)]
      exact ih r hs.2
 intro s hs
 exact go _ s hs
def libTab : CallF := fun f args H =>
 let k := fun (o : Option AVal) => match o with | some v => some (v, H) | none => none
 cond (Nat.ble f 117) none (
 cond (Nat.beq f 118) (k (tMap H args)) (
 cond (Nat.beq f 281) (k (Y0 args)) (
 cond (Nat.beq f 296) (k (Oc args)) (
 cond (Nat.beq f 222) (k (tCut args)) (
 cond (Nat.beq f 278) (k (Xu args)) (
 cond (Nat.beq f 295) (k (A4i args)) (
 cond (Nat.beq f 215) (k (A3f args)) (
 cond (Nat.beq f 237) (k (A3a args)) (
 cond (Nat.beq f 156) (k (Xm args)) (
 cond (Nat.beq f 142) (k (A4k H args)) none))))))))))
theorem A0w (hw : Lw W0) {H : Hz} {args : List AVal} {v : AVal} (h : Y0 args = some v) : cP W0 281 args H v H := by
 unfold Y0 at h
 split at h
 · rename_i s t
   cases hc : Nat.ble s.length 1000000 with
   | false => rw [hc] at h; cases h
   | true => rw [hc, cond_true] at h; injection h with h; subst h; have := Nat.le_of_ble_eq_true hc; exact lIndex hw (by omega)
 · cases h
theorem Vg (hw : Lw W0) {H : Hz} {args : List AVal} {v : AVal} (h : Oc args = some v) : cP W0 296 args H v H := by
 unfold Oc at h
 split at h
 · rename_i s t
   cases hc : Nat.ble s.length 1000000 with
   | false => rw [hc] at h; cases h
   | true => rw [hc, cond_true] at h; injection h with h; subst h; have := Nat.le_of_ble_eq_true hc; exact O6 hw (by omega)
 · cases h
theorem tCut_ok (hw : Lw W0) {H : Hz} {args : List AVal} {v : AVal} (h : tCut args = some v) : cP W0 222 args H v H := by
 unfold tCut at h
 split at h
 · rename_i s t
   cases hc : Nat.ble s.length 1000000 with
   | false => rw [hc] at h; cases h
   | true => rw [hc, cond_true] at h; injection h with h; subst h; have := Nat.le_of_ble_eq_true hc; exact lCut hw (by omega)
 · cases h
theorem A0x (_ : Lw W0) {H : Hz} {args : List AVal} {v : AVal} (h : Xu args = some v) : cP W0 278 args H v H := by
 unfold Xu at h
 split at h
 · injection h with h; subst h; exact lCount1 _
 · cases h
theorem A30 (_ : Lw W0) {H : Hz} {args : List AVal} {v : AVal} (h : A4i args = some v) : cP W0 295 args H v H := by
 unfold A4i at h
 split at h
 · rename_i s n
   cases hc : (decide (((n.toNat.toUInt8).toNat : Int) = n) && Nat.ble s.length 1000000) with
   | false => rw [hc] at h; cases h
   | true =>
     rw [hc, cond_true] at h; injection h with h; subst h
     simp only [bAt, dTe] at hc
     have := Nat.le_of_ble_eq_true hc.2
     have h2 := lLast (W0 := W0) (H := H) (s := s) n.toNat.toUInt8 (by omega)
     rw [hc.1] at h2
     exact h2
 · cases h
theorem A2f (_ : Lw W0) {H : Hz} {args : List AVal} {v : AVal} (h : A3f args = some v) : cP W0 215 args H v H := by
 unfold A3f at h
 split at h
 · rename_i n
   cases hc : (decide (0 ≤ n) && decide (n < 100)) with
   | false => rw [hc] at h; cases h
   | true =>
     rw [hc, cond_true] at h; injection h with h; subst h
     simp only [bAt, dTe] at hc
     have h2 := lItoa (W0 := W0) (H := H) (n := n.toNat) (by omega)
     rw [← dig2_ok (by omega), Int.toNat_of_nonneg hc.1] at h2
     exact h2
 · cases h
theorem A3r (hw : Lw W0) {H : Hz} {args : List AVal} {v : AVal} (h : A3a args = some v) : cP W0 237 args H v H := by
 unfold A3a at h
 split at h
 · rename_i s
   cases hc : Nat.ble s.length 1000000 with
   | false => rw [hc] at h; cases h
   | true =>
     rw [hc, cond_true] at h
     have := Nat.le_of_ble_eq_true hc
     split at h
     · rename_i n hn
       injection h with h; subst h; exact lAtoi (by omega) hn
     · rename_i hn
       injection h with h; subst h; exact A3n hw (by omega) hn
     · cases h
 · cases h
theorem A1b (hw : Lw W0) {H : Hz} {args : List AVal} {v : AVal} (h : Xm args = some v) : cP W0 156 args H v H := by
 unfold Xm at h
 split at h
 · rename_i s
   cases hc : (asc s && Nat.ble s.length 1000000) with
   | false => rw [hc] at h; cases h
   | true =>
     rw [hc, cond_true] at h; injection h with h; subst h
     simp only [bAt] at hc
     have := Nat.le_of_ble_eq_true hc.2
     have h2 := lValid hw (H := H) (s := s) (by omega)
     rw [X7 s hc.1] at h2
     exact h2
 · cases h
theorem A31 {H : Hz} {args : List AVal} {v : AVal} (h : A4k H args = some v) : cP W0 142 args H v H := by
 unfold A4k at h
 split at h
 · rename_i y sep
   split at h
   · rename_i ys m hy
     split at h
     · rename_i l hl
       cases hc : (Nat.ble l.length 1000000 && Nat.ble (Lib.join l sep).length 1000000) with
       | false => rw [hc] at h; cases h
       | true =>
         rw [hc, cond_true] at h; injection h with h; subst h
         simp only [bAt] at hc
         have h1 := Nat.le_of_ble_eq_true hc.1
         have h2 := Nat.le_of_ble_eq_true hc.2
         exact lJoin hy hl (by omega) (by omega)
     · cases h
   · cases h
 · cases h
theorem Nu (hw : Lw W0) : Eg Tryz.prog W0 libTab := by
 intro f args H v H' h
 unfold libTab at h
 simp only at h
 have step : ∀ {g : Nat} {o : Option AVal} {r : Option (AVal × Hz)}, cond (Nat.beq f g) (match o with | some v => some (v, H) | none => none) r = some (v, H') → (o = some v → cP W0 g args H v H) → (r = some (v, H') → cP W0 f args H v H') → cP W0 f args H v H' := by
  intro g o r h1 h2 h3
  cases hb : Nat.beq f g with
  | false => rw [hb] at h1; exact h3 h1
  | true =>
    rw [hb, cond_true] at h1
    have := nBq hb
    subst this
    cases o with
    | none => cases h1
    | some x =>
      simp only [iS, iP] at h1
      obtain ⟨rfl, rfl⟩ := h1
      exact h2 rfl
 cases h0 : Nat.ble f 117 with
 | true => rw [h0] at h; cases h
 | false =>
   rw [h0, cond_false] at h
   refine step h (Z5 hw) fun h => ?_
   refine step h (A0w hw) fun h => ?_
   refine step h (Vg hw) fun h => ?_
   refine step h (tCut_ok hw) fun h => ?_
   refine step h (A0x hw) fun h => ?_
   refine step h (A30 hw) fun h => ?_
   refine step h (A2f hw) fun h => ?_
   refine step h (A3r hw) fun h => ?_
   refine step h (A1b hw) fun h => ?_
   exact step h A31 fun h => by cases h
end Go.Abs
namespace Go.Abs
open Go.RowKit
def Zu (P : Program) (g : FuncId) (m : Nat) : Prop := ∀ (args : List Value) (w : World), args.length = m → CallsD P g args.toArray .returning w fun e u' w' => e = .returned (.tuple #[]) ∧ u' = .returning ∧ w' = w
section
variable {P : Program} {W0 : World} {G : List (Nat × AVal)} {F : Nat → Prop} {bs : List Nat} {s : St} {a : Act} {w : World}
theorem A25 (hg : GOK W0 G) {id t : Nat} {g : FuncId} {ops : Array Oper} {o0 o1 : Oper} (hops : ops = #[o0, o1]) (h1g : o1.guard = none) (h1d : o1.dst = none) (h1c : ∃ c, o1.op = .defer c ∧ c.callee = .value (.tmp t) ∧ c.args = #[])
 (hs : RS W0 F bs s a w) {K : St → Prop} {m : Nat} (h0 : Gg P W0 G ops o0 s fun s' => (∃ c, s'.env.get t = some (.fn g [] c) ∧ c.length = m) ∧ K s') {Q : Exit → Act → World → Prop}
 (hn : ∀ s' bs' a' w' (cap : List Value), cap.length = m → K s' → RS W0 F bs' s' a' w' → Ext bs s.H w bs' s'.H w' → a'.defers = ⟨.fn (.func g) cap.toArray, #[]⟩ :: a.defers → Q .normal a' w') : (Code.region id ops false).wp P Q a w := by
 refine wp_region ?_
 subst hops
 have hr : List.range (#[o0, o1] : Array Oper).size = [0, 1] := rfl
 rw [hr]
 simp only [wpOps, List.getElem?_toArray, List.getElem?_cons_zero, List.getElem?_cons_succ]
 refine Nq hg hs h0 fun s' bs' a' w' hk hrs hext hdf => ?_
 obtain ⟨⟨c, hc, hcl⟩, hK⟩ := hk
 have hrep := hrs.env t _ hc
 simp only [Rep, A9] at hrep
 obtain ⟨fs, cs, hv, rfl, hcs⟩ := hrep
 obtain ⟨cl, hop, hcal, hargs⟩ := h1c
 have hw : Region.wanted o1 (yielded #[o0, o1] a'.tmps) = true := by simp [Region.wanted, h1g]
 rw [if_pos hw]
 refine .inl ?_
 have hexec : (execOp a'.eval o1).run P w' = .ok (.defer ⟨.fn (.func g) cs.toArray, #[]⟩) w' := by
  have hev : a'.eval (.tmp t) = .func (.func g) #[] cs.toArray := by
   show a'.tmps.getD t undef = _
   exact hv
  simp [execOp, hop, resolve, hcal, hargs, hev, Deferred.ofValue]
 unfold Oper.wp
 rw [hexec, Oper.upon_defer]
 have hput : ({ a' with defers := ⟨.fn (.func g) cs.toArray, #[]⟩ :: a'.defers } : Act).put o1.dst undef = { a' with defers := ⟨.fn (.func g) cs.toArray, #[]⟩ :: a'.defers } := by rw [h1d]; rfl
 rw [hput]
 refine hn s' bs' _ w' cs (by rw [hcs.length, hcl]) hK ⟨hrs.heap, hrs.size, hrs.env⟩ hext ?_
 simp only [hdf]
theorem A3.of_defer (hg : GOK W0 G) {f : FuncId} {fn : Func} {r0 r1 rest : Code} {id t : Nat} {g : FuncId} {ops : Array Oper} {o0 o1 : Oper} (hf : P.funcs[f]? = some fn) (hb : fn.body = some (.seq r0 (.seq r1 (.seq (.region id ops false) rest))))
 (hnm : fn.name ≠ "runtime.NumGoroutine") {m : Nat} (hidle : Zu P g m) (hgb : Ix P g)
 (hops : ops = #[o0, o1]) (h1g : o1.guard = none) (h1d : o1.dst = none) (h1c : ∃ c, o1.op = .defer c ∧ c.callee = .value (.tmp t) ∧ c.args = #[])
 {args : List AVal} {H : Hz} {v : AVal} {H' : Hz} (hl : args.length ≤ 4094)
 (h : Ex P W0 r0 ⟨F2 0 args .leaf, H, args.length + (fn.ntmps - args.length)⟩ fun e s0 => e = .normal ∧ Ex P W0 r1 s0 fun e s1 => e = .normal ∧ Gg P W0 G ops o0 s1 fun s2 => (∃ c, s2.env.get t = some (.fn g [] c) ∧ c.length = m) ∧
  Ex P W0 rest s2 fun e s' => (match e with | .exit _ => False | _ => True) ∧ ∃ vs, Dz P s' fn.results.toList = some vs ∧ (L0 H.length (Bq vs) s'.H = (v, H') ∨ (Bq vs, s'.H) = (v, H'))) :
 A3 P W0 f args H v H' := by
 refine ⟨⟨fn, _, hf, hb, hnm⟩, fun F bs w cargs hh hr => ?_⟩
 refine calls_of_wp_defers hf hb ?_
 refine wp_seq (h F bs _ w (Je hh hr hl fn.ntmps) _ fun e s0 bs0 a0 w0 hk hrs0 hext0 hd0 => ?_)
 obtain ⟨rfl, hk⟩ := hk
 show (Code.seq r1 _).wp P _ a0 w0
 refine wp_seq (hk F bs0 a0 w0 hrs0 _ fun e s1 bs1 a1 w1 hk hrs1 hext1 hd1 => ?_)
 obtain ⟨rfl, hk⟩ := hk
 show (Code.seq _ rest).wp P _ a1 w1
 refine wp_seq (A25 hg hops h1g h1d h1c hrs1 hk fun s2 bs2 a2 w2 cap hcap hk hrs2 hext2 hd2 => ?_)
 show rest.wp P _ a2 w2
 refine hk F bs2 a2 w2 hrs2 _ fun e s' bs' a' w' hk hrs hext hd => ?_
 obtain ⟨hne, vs, hvs, hlv⟩ := hk
 obtain ⟨cv, h1, h2⟩ := Hi hrs hvs
 have hextA : Ext bs H w bs' s'.H w' := ((hext0.trans hext1).trans hext2).trans hext
 have hlast : ∃ bs'', Rep F bs'' H' w' v cv ∧ Ac W0 F bs'' H' w' ∧ Ext bs H w bs'' H' w' := by
  rcases hlv with hlv | hlv
  · obtain ⟨bs'', h3, h4, h5⟩ := Wy hrs.heap hextA h2
    rw [hlv] at h3 h4 h5
    exact ⟨bs'', h3, h4, h5⟩
  · injection hlv with e1 e2
    subst e1; subst e2
    exact ⟨bs', h2, hrs.heap, hextA⟩
 obtain ⟨bs'', h3, h4, h5⟩ := hlast
 have hdef : a'.defers = [⟨.fn (.func g) cap.toArray, #[]⟩] := by rw [hd, hd2, hd1, hd0]
 have hinv : (invoke (.fn (.func g) cap.toArray) #[]).run P w' = .ok (.enter g cap.toArray) w' := by
  obtain ⟨fg, cg, k1, k2, k3⟩ := hgb
  show (callFunc g (#[] ++ cap.toArray)).run P w' = _
  simp [callFunc, k1, k2, k3, mark]
 have fin : Leaves P fn a'.tmps (fun e w' => ∃ cv bs', e = .returned cv ∧ Rep F bs' H' w' v cv ∧ Ac W0 F bs' H' w' ∧ Ext bs H w bs' H' w') a'.defers .returning w' := by
  rw [hdef]
  refine ⟨by simp, .func g, cap.toArray, g, cap.toArray, rfl, hinv, ?_⟩
  refine (hidle cap w' hcap).mono ?_
  rintro e u' w'' ⟨rfl, rfl, rfl⟩
  exact ⟨cv, h1, cv, bs'', rfl, h3, h4, h5⟩
 cases e with
 | normal => exact fin
 | ret => exact fin
 | exit id => exact hne.elim
end
end Go.Abs
namespace Go.Abs
open Go.Proofs Go.RowKit
set_option maxRecDepth 100000
theorem Vk : Zu Tryz.prog 128 4 := by
 intro args w hl
 obtain ⟨a, b, c, d, rfl⟩ : ∃ a b c d, args = [a, b, c, d] := by
  match args, hl with
  | [a, b, c, d], _ => exact ⟨a, b, c, d, rfl⟩
 have hn : ∀ w : World, (binOp BinOp.neq 20 .nilIface .nilIface).run Tryz.prog w = .ok (.bool false) w := fun _ => by kernel_rfl
 refine callsD_of_wpS Tryz.func128 rfl fun c₀ cs hu => ?_
 apply wpS_seq
 apply wpS_region
 simp [wpOpsS, go_sem, recoverD, hu, Tryz.ntmps128, Exit.thenS]
 apply wpS_seq
 apply wpS_region
 simp [wpOpsS, go_sem, Exit.thenS, Array.replicate, hn]
 refine wpS_cond (t := false) (by simp [Act.eval]) ?_
 simp only [bFt, if_false]
 refine wpS_of_wp (wp_skip ?_)
 cases c₀
 simp_all [bodyPostS, results]
end Go.Abs
namespace Go.Abs
open Go.RowKit
structure DB where
 r0 : Code
 r1 : Code
 id : Nat
 o0 : Oper
 o1 : Oper
 rest : Code
 t : Nat
 g : Nat
 m : Nat
def V2 (t : Nat) (o : Oper) : Bool :=
 match o.op with
 | .defer c => match c.callee with
   | .value (.tmp u) => Nat.beq t u && Nat.beq c.args.size 0
   | _ => false
 | _ => false
def Ww (idle : Nat → Option Nat) (r0 r1 : Code) (id : Nat) (rest : Code) : List Oper → Option DB
 | [o0, o1] => match o0.op with
   | .makeFunc (.func g) _ _ => match o0.dst with
     | some t => match o1.guard with
       | none => match o1.dst with
         | none => match idle g with
           | some m => cond (V2 t o1) (some ⟨r0, r1, id, o0, o1, rest, t, g, m⟩) none
           | none => none
         | some _ => none
       | some _ => none
     | none => none
   | _ => none
 | _ => none
def K4 (idle : Nat → Option Nat) : Code → Option DB
 | .seq r0 (.seq r1 (.seq (.region id ops false) rest)) => Ww idle r0 r1 id rest ops.toList
 | _ => none
def A0n (e : Env) (t g m : Nat) : Bool :=
 match e.get t with
 | some (.fn g' [] c) => Nat.beq g g' && Nat.beq c.length m
 | _ => false
def A4j (P : Program) (fn : Func) (kp : Bool) (H : Hz) : Option (Av × St) → Option (AVal × Hz)
 | some (e, s) => match e with
   | .exit _ => none
   | _ => match Dz P s fn.results.toList with
     | some vs => some (cond kp (Bq vs, s.H) (L0 H.length (Bq vs) s.H))
     | none => none
 | none => none
def runDB (P : Program) (G : List (Nat × AVal)) (call : CallF) (draw : Array Oper → St → Option St) (fuel : Nat) (b : DB) (s : St) : Option (Av × St) :=
 match Ve P G call draw fuel b.r0 s with
 | some (.normal, s0) => match Ve P G call draw fuel b.r1 s0 with
   | some (.normal, s1) => match Z6 P G call #[b.o0, b.o1] b.o0 s1 with
     | some s2 => cond (A0n s2.env b.t b.g b.m) (Ve P G call draw fuel b.rest s2) none
     | none => none
   | _ => none
 | _ => none
def J8 (P : Program) (G : List (Nat × AVal)) (keep : Nat → Bool) (idle : Nat → Option Nat) (tab : CallF) (draw : CallF → Array Oper → St → Option St) (fuel : Nat) : Nat → CallF
 | 0, _, _, _ => none
 | d + 1, f, args, H => match tab f args H with
   | some r => some r
   | none => match P.funcs[f]? with
     | some fn => match fn.body with
       | some c => cond (Nat.ble args.length 4094 && !(fn.name == "runtime.NumGoroutine")) (A4j P fn (keep f) H (match K4 idle c with
        | some b => runDB P G (J8 P G keep idle tab draw fuel d) (draw (J8 P G keep idle tab draw fuel d)) fuel b ⟨F2 0 args .leaf, H, args.length + (fn.ntmps - args.length)⟩
        | none => Ve P G (J8 P G keep idle tab draw fuel d) (draw (J8 P G keep idle tab draw fuel d)) fuel c ⟨F2 0 args .leaf, H, args.length + (fn.ntmps - args.length)⟩)) none
       | none => none
     | none => none
theorem W9 {idle : Nat → Option Nat} {r0 r1 : Code} {id : Nat} {rest : Code} {l : List Oper} {b : DB} (h : Ww idle r0 r1 id rest l = some b) :
 b.r0 = r0 ∧ b.r1 = r1 ∧ b.id = id ∧ b.rest = rest ∧ l = [b.o0, b.o1] ∧ b.o1.guard = none ∧ b.o1.dst = none ∧ (∃ c, b.o1.op = .defer c ∧ c.callee = .value (.tmp b.t) ∧ c.args = #[]) ∧ idle b.g = some b.m := by
 unfold Ww at h
 split at h
 · rename_i o0 o1
   split at h
   · split at h
     · rename_i t _
       split at h
       · rename_i hg
         split at h
         · rename_i hd
           split at h
           · rename_i m hm
             cases hc : V2 t o1 with
             | false => rw [hc] at h; cases h
             | true =>
               rw [hc, cond_true] at h
               injection h with h
               subst h
               refine ⟨rfl, rfl, rfl, rfl, rfl, hg, hd, ?_, hm⟩
               unfold V2 at hc
               split at hc
               · rename_i c hop
                 split at hc
                 · rename_i u hcal
                   simp only [bAt] at hc
                   have h1 := nBq hc.1
                   have h2 := nBq hc.2
                   subst h1
                   exact ⟨c, hop, hcal, Array.eq_empty_of_size_eq_zero h2⟩
                 · cases hc
               · cases hc
           · cases h
         · cases h
       · cases h
     · cases h
   · cases h
 · cases h
theorem Wt {P : Program} {W0 : World} {G : List (Nat × AVal)} (hg : GOK W0 G) {idle : Nat → Option Nat} (hi : ∀ g m, idle g = some m → Zu P g m ∧ Ix P g) {tab : CallF} (ht : Eg P W0 tab) {draw : CallF → Array Oper → St → Option St}
 (hdr : ∀ call, Eg P W0 call → X8 P W0 (draw call)) {keep : Nat → Bool} (fuel : Nat) : ∀ d, Eg P W0 (J8 P G keep idle tab draw fuel d)
 | 0, _, _, _, _, _, h => by cases h
 | d + 1, f, args, H, v, H', h => by
   have ih := Wt hg hi ht hdr (keep := keep) fuel d
   simp only [J8] at h
   split at h
   · rename_i r hr
     injection h with h; subst h
     exact ht _ _ _ _ _ hr
   · split at h
     · rename_i fn hfn
       split at h
       · rename_i c hc
         cases hla : (Nat.ble args.length 4094 && !(fn.name == "runtime.NumGoroutine")) with
         | false => rw [hla] at h; cases h
         | true =>
           rw [hla, cond_true] at h
           simp only [bAt, Bool.not_eq_true', bFn] at hla
           have hlen := Nat.le_of_ble_eq_true hla.1
           have post : ∀ {e : Av} {s : St}, A4j P fn (keep f) H (some (e, s)) = some (v, H') → (match e with | .exit _ => False | _ => True) ∧ ∃ vs, Dz P s fn.results.toList = some vs ∧ (L0 H.length (Bq vs) s.H = (v, H') ∨ (Bq vs, s.H) = (v, H')) := by
            intro e s h
            unfold A4j at h
            cases e with
            | exit id => cases h
            | normal =>
              simp only at h
              split at h
              · rename_i vs hvs
                injection h with h
                refine ⟨trivial, vs, hvs, ?_⟩
                cases hkp : keep f with
                | true => rw [hkp, cond_true] at h; exact .inr h
                | false => rw [hkp, cond_false] at h; exact .inl h
              · cases h
            | ret =>
              simp only at h
              split at h
              · rename_i vs hvs
                injection h with h
                refine ⟨trivial, vs, hvs, ?_⟩
                cases hkp : keep f with
                | true => rw [hkp, cond_true] at h; exact .inr h
                | false => rw [hkp, cond_false] at h; exact .inl h
              · cases h
           split at h
           · rename_i b hb
             have hsh : ∃ r0 r1 id ops rest, c = .seq r0 (.seq r1 (.seq (.region id ops false) rest)) ∧ Ww idle r0 r1 id rest ops.toList = some b := by
              unfold K4 at hb
              split at hb
              · exact ⟨_, _, _, _, _, rfl, hb⟩
              · cases hb
             obtain ⟨r0, r1, id, ops, rest, rfl, hb⟩ := hsh
             obtain ⟨k1, k2, k3, k4, k5, k6, k7, k8, k9⟩ := W9 hb
             obtain ⟨hidle, hgb⟩ := hi _ _ k9
             subst k1; subst k2; subst k3; subst k4
             have hops : ops = #[b.o0, b.o1] := by apply Array.ext'; simpa using k5
             unfold runDB at h
             split at h
             · rename_i s0 he0
               split at h
               · rename_i s1 he1
                 split at h
                 · rename_i s2 he2
                   cases hfa : A0n s2.env b.t b.g b.m with
                   | false => rw [hfa] at h; cases h
                   | true =>
                     rw [hfa, cond_true] at h
                     cases hex : Ve P G (J8 P G keep idle tab draw fuel d) (draw (J8 P G keep idle tab draw fuel d)) fuel b.rest s2 with
                     | none => rw [hex] at h; cases h
                     | some es =>
                       obtain ⟨e, s⟩ := es
                       rw [hex] at h
                       refine A3.of_defer hg hfn hc hla.2 hidle hgb hops k6 k7 k8 hlen ((M6 hg ih (hdr _ ih) fuel he0).mono ?_)
                       rintro e1 s1' ⟨rfl, rfl⟩
                       refine ⟨rfl, (M6 hg ih (hdr _ ih) fuel he1).mono ?_⟩
                       rintro e1 s1' ⟨rfl, rfl⟩
                       refine ⟨rfl, ?_⟩
                       rw [hops]
                       refine Zl ih he2 ⟨?_, (M6 hg ih (hdr _ ih) fuel hex).mono ?_⟩
                       · unfold A0n at hfa
                         split at hfa
                         · rename_i g' c' hget
                           simp only [bAt] at hfa
                           have h1 := nBq hfa.1
                           have h2 := nBq hfa.2
                           subst h1
                           exact ⟨c', hget, h2⟩
                         · cases hfa
                       · rintro e1 s1' ⟨rfl, rfl⟩
                         exact post h
                 · cases h
               · cases h
             · cases h
           · cases hex : Ve P G (J8 P G keep idle tab draw fuel d) (draw (J8 P G keep idle tab draw fuel d)) fuel c ⟨F2 0 args .leaf, H, args.length + (fn.ntmps - args.length)⟩ with
             | none => rw [hex] at h; cases h
             | some es =>
               obtain ⟨e, s⟩ := es
               rw [hex] at h
               refine A3.of_ex hfn hc hla.2 hlen ((M6 hg ih (hdr _ ih) fuel hex).mono ?_)
               rintro e1 s1 ⟨rfl, rfl⟩
               exact post h
       · cases h
     · cases h
end Go.Abs
namespace Go.Abs
open Go.Proofs Go.RowKit
def GL : List (Nat × AVal) := [
 (2, .row 1 [.str [60, 62], .str [60, 61], .str [62, 61], .str [61], .str [60], .str [62], .str [38], .str [43], .str [45], .str [42], .str [47], .str [94], .str [37], .str [40], .str [41], .str [44], .str [59], .str [58], .str [123], .str [125]]),
 (3, .row 1 [.str [35, 78, 85, 76, 76, 33], .str [35, 68, 73, 86, 47, 48, 33], .str [35, 86, 65, 76, 85, 69, 33], .str [35, 82, 69, 70, 33], .str [35, 78, 65, 77, 69, 63], .str [35, 78, 85, 77, 33], .str [35, 78, 47, 65], .str [35, 83, 80, 73, 76, 76, 33], .str [35, 67, 73, 82, 67, 33]])]
def Zs (f : Nat) : Bool := (cond (Nat.ble 23 f) (cond (Nat.ble f 36) true (cond (Nat.beq f 39) true (cond (Nat.ble 70 f) (cond (Nat.ble f 71) true false) false))) false)
def Kx (g : Nat) : Option Nat := cond (Nat.beq g 128) (some 4) none
noncomputable def run (d : Nat) : CallF := J8 Tryz.prog GL Zs Kx libTab (fun call ops s => Vu Tryz.prog GL call ops s) 1000 d
structure Ent where
 f : Nat
 args : List AVal
 v : AVal
def B8 (P : Program) (W0 : World) (e : Ent) : Prop := C0 0 e.args = true ∧ blw 0 e.v = true ∧ A3 P W0 e.f e.args [] e.v []
def Vy : List Ent → CallF
 | [], _, _, _ => none
 | e :: r, f, args, H => cond (Nat.beq f e.f) (cond (J1 args e.args) (some (e.v, H)) (Vy r f args H)) (Vy r f args H)
theorem X4 {P : Program} {W0 : World} : ∀ {l : List Ent}, (∀ e ∈ l, B8 P W0 e) → Eg P W0 (Vy l)
 | [], _, _, _, _, _, _, h => by cases h
 | e :: r, hl, f, args, H, v, H', h => by
   have ih := X4 (l := r) fun e he => hl e (by simp [he])
   simp only [Vy] at h
   cases h1 : Nat.beq f e.f with
   | false => rw [h1] at h; exact ih _ _ _ _ _ h
   | true =>
     rw [h1, cond_true] at h
     cases h2 : J1 args e.args with
     | false => rw [h2] at h; exact ih _ _ _ _ _ h
     | true =>
       rw [h2, cond_true] at h
       simp only [iS, iP] at h
       obtain ⟨rfl, rfl⟩ := h
       have := nBq h1
       subst this
       rw [G6 _ _ h2]
       obtain ⟨k1, k2, k3⟩ := hl e (by simp)
       exact A3.pure k1 k2 k3 H
noncomputable def An (l : List Ent) (d : Nat) : CallF := J8 Tryz.prog GL Zs Kx (fun f args H => match libTab f args H with | some r => some r | none => Vy l f args H) (fun call ops s => Vu Tryz.prog GL call ops s) 1000 d
structure Kn (W0 : World) : Prop where
 g : GOK W0 GL
 w : Lw W0
theorem runT_ok {W0 : World} (hk : Kn W0) {l : List Ent} (hl : ∀ e ∈ l, B8 Tryz.prog W0 e) (d : Nat) : Eg Tryz.prog W0 (An l d) := by
 refine Wt hk.g (fun g m h => ?_) (fun f args H v H' h => ?_) (fun call hc => drawOK (by kernel_rfl) hk.g hc) 1000 d
 · unfold Kx at h
   cases hg : Nat.beq g 128 with
   | false => rw [hg] at h; cases h
   | true =>
     rw [hg, cond_true] at h
     injection h with h
     subst h
     have := nBq hg
     subst this
     exact ⟨Vk, Na (by kernel_rfl)⟩
 · split at h
   · rename_i r hr
     injection h with h
     subst h
     exact Nu hk.w _ _ _ _ _ hr
   · exact X4 hl _ _ _ _ _ h
theorem A8 {W0 : World} (hk : Kn W0) {l : List Ent} (hl : ∀ e ∈ l, B8 Tryz.prog W0 e) {d f : Nat} {args : List AVal} {v : AVal} (h : An l d f args [] = some (v, [])) (h1 : C0 0 args = true) (h2 : blw 0 v = true) : B8 Tryz.prog W0 ⟨f, args, v⟩ :=
 ⟨h1, h2, runT_ok hk hl d _ _ _ _ _ h⟩
theorem Ad {P : Program} {W0 : World} : ∀ e ∈ ([] : List Ent), B8 P W0 e := fun e h => by cases h
theorem Ak {P : Program} {W0 : World} {e : Ent} {l : List Ent} (h : B8 P W0 e) (hl : ∀ e ∈ l, B8 P W0 e) : ∀ e' ∈ e :: l, B8 P W0 e' := fun e' h' => by
 rcases List.mem_cons.1 h' with rfl | h'
 · exact h
 · exact hl e' h'
end Go.Abs
namespace Go.Abs
open Go.RowKit
section
variable {P : Program} {W0 : World} {G : List (Nat × AVal)} {ops : Array Oper}
theorem A0y {s : St} {sp : SP} (hok : Ld P ops sp = true) {l : List Tr} {M' : HMap} {ef : Env} {Hfin : Hz} (s2 : l.length = ops.size) (s3 : C4 l ef 0 = s.env) (h0 : lkH 0 M' = some s.H)
 (hget : ∀ (j : Nat) (o : Oper), ops[j]? = some o → ∃ t, l[j]? = some t ∧ Hq o.dst s.n = true ∧ C4 l ef (j + 1) = I1 o.dst t.v t.env)
 (hquiet : ∀ (j : Nat) (o : Oper) (t : Tr), ops[j]? = some o → l[j]? = some t → D2 P o ≤ 1 → ∀ σ ∈ sp.states, sp.mayB σ j = true → ∃ H2, lkH σ M' = some H2 ∧ Eb P W0 G ops o ⟨t.env, H2, s.n⟩ fun v' H' => v' = t.v ∧ H' = H2)
 (hloud : ∀ σ ∈ sp.states, ∀ j ∈ sp.steps σ, ∃ o t H2 H2', ops[j]? = some o ∧ l[j]? = some t ∧ lkH σ M' = some H2 ∧ (Eb P W0 G ops o ⟨t.env, H2, s.n⟩ fun v' H' => v' = t.v ∧ H' = H2') ∧ lkH (SP.nxt σ j) M' = some H2')
 (hfin : lkH sp.fin M' = some Hfin) :
 ∃ p : Plan, I5 P W0 G ops s p ∧ (⟨ef, Hfin, s.n⟩ : St) = ⟨p.env ops.size, p.Hs p.fin, s.n⟩ := by
 simp only [Ld, bAt] at hok
 obtain ⟨⟨⟨⟨k1, k2⟩, k3⟩, k4⟩, k5⟩ := hok
 have hN : sp.n = ops.size := nBq k1
 have hat : ∀ (j : Nat) (o : Oper), ops[j]? = some o → Wn P ops sp j o = true := by
  intro j o ho
  have := List.all_eq_true.1 k5 j (List.mem_range.2 (Array.getElem?_eq_some_iff.1 ho).1)
  rw [ho] at this
  exact this
 have hat1 : ∀ (j : Nat) (o : Oper), ops[j]? = some o → (∀ e ∈ o.after, Region.binds .any e = true → e.on < j) ∧ sp.mask.getD j 0 = Ny sp.mask o ∧ sp.kind.getD j 0 = D2 P o ∧
  ∀ (i : Nat) (oi : Oper) (d : Nat), ops[i]? = some oi → oi.dst = some d → (i = j ∨ o.dst ≠ some d) ∧ (d ∈ reads P ops o → sp.msk j i = true ∨ sp.msk i j = true) := by
  intro j o ho
  have := hat j o ho
  simp only [Wn, bAt] at this
  obtain ⟨⟨⟨a1, a2⟩, a3⟩, a4⟩ := this
  refine ⟨fun e he hb => ?_, nBq a2, nBq a3, fun i oi d hi hd => ?_⟩
  · have := List.all_eq_true.1 a1 e (by simpa using he)
    rw [hb, cond_true, Nat.blt_eq] at this
    exact this
  · have := List.all_eq_true.1 a4 i (List.mem_range.2 (by rw [hN]; exact (Array.getElem?_eq_some_iff.1 hi).1))
    rw [hi] at this
    simp only [Option.bind_some, hd, bAt, Bool.or_eq_true] at this
    obtain ⟨b1, b2⟩ := this
    refine ⟨?_, fun hr => ?_⟩
    · rcases b1 with b1 | b1
      · exact .inl (nBq b1)
      · refine .inr fun hod => ?_
        unfold Z7 at b1
        rw [hod] at b1
        simp at b1
    · have := List.all_eq_true.1 b2 d hr
      rw [show Nat.beq d d = true from Nat.beq_refl d, cond_true, Bool.or_eq_true] at this
      exact this
 have hclosed : ∀ σ ∈ sp.states, ∀ j ∈ sp.steps σ, SP.nxt σ j ∈ sp.states := fun σ hσ j hj => Hg (List.all_eq_true.1 (List.all_eq_true.1 k3 σ hσ) j hj)
 have hsteps : ∀ σ j, j < ops.size → sp.eff j = true → tb σ j = false → sp.mayB σ j = true → j ∈ sp.steps σ := by
  intro σ j h1 h2 h3 h4
  unfold SP.steps
  rw [List.mem_filter, List.mem_range, h2, h3, h4]
  exact ⟨by omega, rfl⟩
 refine ⟨{ v := fun j => (l[j]?.map Tr.v).getD .nilIf, eff := sp.eff, ok := fun σ => σ ∈ sp.states, dn := tb, nxt := SP.nxt, fin := sp.fin, Hs := fun σ => (lkH σ M').getD [], mask := sp.msk, env := C4 l ef }, ?_, ?_⟩
 · have hmay : ∀ σ j, Plan.may { v := fun j => (l[j]?.map Tr.v).getD .nilIf, eff := sp.eff, ok := fun σ => σ ∈ sp.states, dn := tb, nxt := SP.nxt, fin := sp.fin, Hs := fun σ => (lkH σ M').getD [], mask := sp.msk, env := C4 l ef } ops.size σ j → sp.mayB σ j = true := fun σ j hm => (Xc hN).2 hm
   refine ⟨fun j o ho => (hat1 j o ho).1, fun j o i ho hm => ?_, fun i j oi oj t hi hj h1 h2 => ?_, fun j oj t hj ht i oi hi hti => ((hat1 j oj hj).2.2.2 i oi t hi hti).2 ht, s3, fun i o ho => ?_, Hg k2, fun i _ _ => Nat.zero_testBit i, ?_, fun j o ho hef σ hσ hm => ?_, fun j o ho hef σ hσ hdn hm => ?_, fun σ hσ hall => ?_, fun j o ho => ?_⟩
   · have h2 := (hat1 j o ho).2.1
     have hm' : tb (sp.mask.getD j 0) i = true := hm
     rw [h2] at hm'
     exact O8 hm'
   · rcases ((hat1 j oj hj).2.2.2 i oi t hi h1).1 with h' | h'
     · exact h'
     · exact absurd h2 h'
   · obtain ⟨t, a1, a2, a6⟩ := hget i o ho
     simp only [a1, Option.map_some, Option.getD_some]
     rw [a6]
     simp [C4, a1]
   · simp only
     rw [h0]
     rfl
   ·
    obtain ⟨t, a1, a2, a6⟩ := hget j o ho
    have hkk := (hat1 j o ho).2.2.1
    have hle : D2 P o ≤ 1 := by
     have : ¬ (2 ≤ D2 P o) := fun h2 => by
      have h3 : sp.eff j = true := by unfold SP.eff; rw [hkk]; rw [Nat.ble_eq]; exact h2
      have h4 : sp.eff j = false := hef
      rw [h4] at h3; cases h3
     omega
    have henv : C4 l ef j = t.env := by simp [C4, a1]
    have hv : ((l[j]?.map Tr.v).getD .nilIf) = t.v := by simp [a1]
    show Eb P W0 G ops o ⟨C4 l ef j, (lkH σ M').getD [], s.n⟩ fun v' H' => v' = (l[j]?.map Tr.v).getD .nilIf ∧ H' = (lkH σ M').getD []
    rw [henv, hv]
    obtain ⟨H2, c1, c2⟩ := hquiet j o t ho a1 hle σ hσ (hmay σ j hm)
    rw [c1]
    exact c2
   ·
    have hjs := (Array.getElem?_eq_some_iff.1 ho).1
    have hst := hsteps σ j hjs hef hdn (hmay σ j hm)
    refine ⟨?_, hclosed σ hσ j hst, fun i _ _ => Yh σ j i⟩
    obtain ⟨o2, t2, H2, H2', b1, b2, c1, c2, c3⟩ := hloud σ hσ j hst
    rw [ho] at b1; injection b1 with b1; subst b1
    have henv : C4 l ef j = t2.env := by simp [C4, b2]
    have hv : ((l[j]?.map Tr.v).getD .nilIf) = t2.v := by simp [b2]
    show Eb P W0 G ops o ⟨C4 l ef j, (lkH σ M').getD [], s.n⟩ fun v' H' => v' = (l[j]?.map Tr.v).getD .nilIf ∧ H' = (lkH (SP.nxt σ j) M').getD []
    rw [henv, hv, c1, c3]
    exact c2
   · have : sp.allIn σ = true := by
      unfold SP.allIn
      rw [lAt]
      intro i hi
      have hi' := List.mem_range.1 hi
      cases he : sp.eff i with
      | false => rfl
      | true => exact hall i (by omega) he
     have h4 := List.all_eq_true.1 k4 σ hσ
     rw [this, cond_true] at h4
     rw [nBq h4]
   · obtain ⟨t, a1, a2, a6⟩ := hget j o ho
     exact a2
 · simp only
   rw [hfin]
   have hlen : l[ops.size]? = none := by
    rw [List.getElem?_eq_none_iff, s2]
    exact Nat.le_refl _
   simp [C4, hlen]
theorem Vr {e : Env} {H H2 : Hz} {n : Nat} {op : AOp} (hk : op.kind = 0) {v : AVal} {H' : Hz} (h : Gx P W0 H (aop G ⟨e, H, n⟩ op) fun v' H'' => v' = v ∧ H'' = H') : Gx P W0 H2 (aop G ⟨e, H2, n⟩ op) fun v' H'' => v' = v ∧ H'' = H2 := by
 have h0 := R6 (G := G) (e := e) (H := H) (H' := H2) (n := n) hk
 cases hr : aop G ⟨e, H, n⟩ op with
 | none => rw [hr] at h; exact h.elim
 | some r =>
   obtain ⟨v1, side, rfl⟩ := H5 (.inl hk) hr
   rw [hr] at h0 h
   cases hr2 : aop G ⟨e, H2, n⟩ op with
   | none => rw [hr2] at h0; cases h0
   | some r2 =>
     obtain ⟨v2, Oq, rfl⟩ := H5 (.inl hk) hr2
     rw [hr2] at h0
     simp only [P2, iS, iP] at h0
     obtain ⟨h1, h2⟩ := h0
     subst h1; subst h2
     exact ⟨h.1, h.2.1, rfl⟩
theorem Uu {e : Env} {H H2 : Hz} {n : Nat} {o : Oper} (hk : D2 P o = 0) {v : AVal} {H' : Hz} (h : Eb P W0 G ops o ⟨e, H, n⟩ fun v' H'' => v' = v ∧ H'' = H') : Eb P W0 G ops o ⟨e, H2, n⟩ fun v' H'' => v' = v ∧ H'' = H2 := by
 unfold Eb at h ⊢
 have hgd : C9 ops ⟨e, H2, n⟩ o.guard = C9 ops ⟨e, H, n⟩ o.guard := rfl
 rw [hgd]
 cases hg : C9 ops ⟨e, H, n⟩ o.guard with
 | none => rw [hg] at h; exact h.elim
 | some b =>
   rw [hg] at h
   cases b with
   | false => exact ⟨h.1, rfl⟩
   | true =>
     simp only at h ⊢
     unfold D2 at hk
     cases hop : B3 P o.op with
     | none => rw [hop] at h; exact h.elim
     | some op =>
       rw [hop] at h hk
       exact Vr hk h
end
mutual
theorem Uj : ∀ (a : AVal), ren id a = a
 | .bool _ => rfl
 | .int _ _ => rfl
 | .str _ => rfl
 | .agg cs => by simp only [ren, Hr cs]
 | .tup cs => by simp only [ren, Hr cs]
 | .nilSl => rfl
 | .emp => rfl
 | .row k es => by simp only [ren, Hr es]
 | .hsl _ _ _ _ _ => rfl
 | .nilPtr => rfl
 | .ptr _ _ => rfl
 | .optr _ _ _ => rfl
 | .eptr e _ => by simp only [ren, Uj e]
 | .fn f a c => by simp only [ren, Hr a, Hr c]
 | .nilFn => rfl
 | .iface t x => by simp only [ren, Uj x]
 | .nilIf => rfl
theorem Hr : ∀ (l : List AVal), Hy id l = l
 | [] => rfl
 | a :: l => by simp only [Hy, Uj a, Hr l]
end
theorem Zi (o : HObj) : Jd id o = o := by
 cases o with
 | cells T cs op => simp only [Jd, Hr cs]
 | iter s p => rfl
 | dead => rfl
theorem W4 (l : Hz) : l.map (Jd id) = l := by
 induction l with
 | nil => rfl
 | cons o l ih => rw [List.map_cons, Zi, ih]
theorem A3.frame {P : Program} {W0 : World} {f : FuncId} {args : List AVal} {H0 H0' : Hz} {v : AVal} (hbH : Fg H0.length H0 = true) (hba : C0 H0.length args = true) (hl : H0'.length = H0.length) (hc : A3 P W0 f args H0 v H0') (X : Hz) : A3 P W0 f args (H0 ++ X) v (H0' ++ X) := by
 have hs : Sel (List.range H0.length) H0.length H0 (H0 ++ X) id := by
  refine ⟨List.nodup_range, by simp, rfl, fun j hj => by simp [hj], fun i hi => ?_, fun j o ho => ?_⟩
  · have := List.mem_range.1 hi
    simp; omega
  · rw [Zi]
    have hj := (List.getElem?_eq_some_iff.1 ho).1
    show (H0 ++ X)[j]? = some o
    rw [List.getElem?_append_left hj]; exact ho
 have h := A3.ren (List.range H0.length) id hs hbH hba hl hc
 rw [Hr, Uj, W4] at h
 have he : G7 (List.range H0.length) H0' (H0 ++ X) = H0' ++ X := by
  apply List.ext_getElem?
  intro i
  by_cases hi : i < H0.length
  · have hi' : i < H0'.length := by omega
    rw [List.getElem?_append_left hi', gGe hi']
    exact Im _ _ _ i i _ List.nodup_range (by simp [hi]) (gGe hi') (by simp; omega)
  · rw [Ig _ _ _ i (by simpa using hi), List.getElem?_append_right (by omega), List.getElem?_append_right (by omega), hl]
 rw [he] at h
 exact h
inductive Ob where
 | eq (b c : Bool)
 | le (a b : Int)
 | call (f : Nat) (args : List AVal) (v : AVal)
 | callH (f : Nat) (args : List AVal) (H : Hz) (v : AVal) (H' : Hz)
 | hp (A B : Hz)
 | veq (a b : AVal)
def Ob.ok (P : Program) (W0 : World) : Ob → Prop
 | .eq b c => b = c
 | .le a b => a ≤ b
 | .call f args v => A3 P W0 f args [] v []
 | .callH f args H v H' => A3 P W0 f args H v H'
 | .hp A B => A = B
 | .veq a b => a = b
structure SS where
 k : Nat
 br : List (Bool × Nat)
 sk : Nat
 sd : List Nat
 ans : List (AVal × Option Hz)
 dr : List Nat
 obs : List Ob
def decS (b : Bool) (ss : SS) : Option (Bool × SS) :=
 match ss.k with
 | 0 => match ss.br with
   | (c, n) :: r => some (c, ⟨n, r, ss.sk, ss.sd, ss.ans, ss.dr, .eq b c :: ss.obs⟩)
   | [] => none
 | n + 1 => some (b, ⟨n, ss.br, ss.sk, ss.sd, ss.ans, ss.dr, ss.obs⟩)
def Wx : List (Int × Int) → List Ob → List Ob
 | [], l => l
 | p :: r, l => .le p.1 p.2 :: Wx r l
def A3s (side : List (Int × Int)) (ss : SS) : Option SS :=
 match side with
 | [] => some ss
 | _ => match ss.sk with
   | 0 => match ss.sd with
     | n :: r => some ⟨ss.k, ss.br, n, r, ss.ans, ss.dr, Wx side ss.obs⟩
     | [] => none
   | n + 1 => cond (Ky side) (some ⟨ss.k, ss.br, n, ss.sd, ss.ans, ss.dr, ss.obs⟩) none
abbrev CallS := FuncId → List AVal → Hz → SS → Option (AVal × Hz × SS)
def A36 : AOp → Bool
 | .bin op _ _ _ => match op with
   | .eql | .neq | .lss | .leq | .gtr | .geq => true
   | _ => false
 | .eqs _ _ _ _ => true
 | _ => false
def Wp (call : CallS) (cmp : Bool) (H : Hz) (ss : SS) : Option ARes → Option (AVal × Hz × SS)
 | some (.val v H' side) => match A3s side ss with
   | some s1 => cond cmp (match v with
     | .bool b => match decS b s1 with
       | some (c, s2) => some (.bool c, H', s2)
       | none => none
     | _ => none) (some (v, H', s1))
   | none => none
 | some (.skip H') => some (.tup [], H', ss)
 | some (.call f args) => call f args H ss
 | none => none
def Uf (P : Program) (G : List (Nat × AVal)) (call : CallS) (ops : Array Oper) (o : Oper) (s : St) (ss : SS) : Option (St × SS) :=
 match C9 ops s o.guard with
 | some true => match B3 P o.op with
   | some op => match Wp call (A36 op) s.H ss (aop G s op) with
     | some (v, H', s1) => match s.put o.dst v H' with
       | some t => some (t, s1)
       | none => none
     | none => none
   | none => none
 | some false => match s.put o.dst (.tup []) s.H with
   | some t => some (t, ss)
   | none => none
 | none => none
def Mc (P : Program) (G : List (Nat × AVal)) (call : CallS) (ops : Array Oper) : List Oper → St → SS → Option (St × SS)
 | [], s, ss => some (s, ss)
 | o :: r, s, ss => match Uf P G call ops o s ss with
   | some (t, s1) => Mc P G call ops r t s1
   | none => none
def Zj (G : List (Nat × AVal)) (call : CallS) (o : AOper) (s : St) (ss : SS) : Option (AVal × Hz × SS) :=
 match o.guard with
 | none => Wp call (A36 o.op) s.H ss (aop G s o.op)
 | some (d, want) => match s.env.get d with
   | some (.bool b) => cond (cond b want (not want)) (Wp call (A36 o.op) s.H ss (aop G s o.op)) (some (.tup [], s.H, ss))
   | some (.tup []) => some (.tup [], s.H, ss)
   | _ => none
def A09 (G : List (Nat × AVal)) (call : CallS) (p : SP) (n : Nat) : List AOper → Nat → Env → Nat → Hz → HMap → SS → Option (List Tr × HMap × Env × SS)
 | [], _, e, _, _, M, ss => some ([], M, e, ss)
 | o :: r, j, e, σ, H, M, ss => match Hq o.dst n with
   | true => match Zj G call o ⟨e, H, n⟩ ss with
     | some (v, H', s1) => match p.eff j with
       | true => match lkH (SP.nxt σ j) M with
         | none => match A09 G call p n r (j + 1) (I1 o.dst v e) (SP.nxt σ j) H' ((SP.nxt σ j, H') :: M) s1 with
           | some (l, rest) => some (⟨e, v, σ⟩ :: l, rest)
           | none => none
         | some _ => none
       | false => match A09 G call p n r (j + 1) (I1 o.dst v e) σ H M s1 with
         | some (l, rest) => some (⟨e, v, σ⟩ :: l, rest)
         | none => none
     | none => none
   | false => none
def SS.ob (ss : SS) (o : Ob) : SS := ⟨ss.k, ss.br, ss.sk, ss.sd, ss.ans, ss.dr, o :: ss.obs⟩
def SS.drop (ss : SS) : SS := ⟨ss.k, ss.br, ss.sk, ss.sd, ss.ans, ss.dr.tail, ss.obs⟩
def Nh (G : List (Nat × AVal)) (call : CallS) (n : Nat) (o : AOper) (t : Tr) (σ j : Nat) (M : HMap) (ss : SS) : Option (HMap × SS) :=
 match lkH σ M with
 | some H => match Zj G call o ⟨t.env, H, n⟩ ss with
   | some (v, H', s1) => match lkH (SP.nxt σ j) M with
     | some H'' => some (M, (s1.ob (.hp H' H'')).ob (.veq v t.v))
     | none => some ((SP.nxt σ j, H') :: M, s1.ob (.veq v t.v))
   | none => none
 | none => none
def I9 (t : Tr) (σ j : Nat) (M : HMap) (ss : SS) : Option (HMap × SS) :=
 match lkH σ M with
 | some H => match lkH t.σ M with
   | some Ht => match lkH (SP.nxt t.σ j) M with
     | some Ht' => match lkH (SP.nxt σ j) M with
       | some H'' => some (M, (ss.ob (.hp Ht' H'')).ob (.hp Ht H))
       | none => some ((SP.nxt σ j, Ht') :: M, ss.ob (.hp Ht H))
     | none => none
   | none => none
 | none => none
def Vl (G : List (Nat × AVal)) (e : Env) (n : Nat) : AOp → Option (Nat × List AVal)
 | .call f as' => match ev G ⟨e, [], n⟩ f with
   | some (.fn g first cap) => match evs G ⟨e, [], n⟩ as' with
     | some l => some (g, first ++ l ++ cap)
     | none => none
   | _ => none
 | _ => none
def Gj (G : List (Nat × AVal)) (n : Nat) (o : AOper) (t : Tr) (σ j : Nat) (M : HMap) (ss : SS) : Option (HMap × SS) :=
 match lkH σ M with
 | some H => match lkH t.σ M with
   | some Ht => match lkH (SP.nxt t.σ j) M with
     | some Ht' => match o.guard with
       | none => match Vl G t.env n o.op with
         | some (_, args) => cond (Nat.beq Ht'.length Ht.length && (Fg Ht.length Ht && C0 Ht.length args)) (match lkH (SP.nxt σ j) M with
           | some H'' => some (M, (ss.ob (.hp (Ht' ++ H.drop Ht.length) H'')).ob (.hp (Ht ++ H.drop Ht.length) H))
           | none => some ((SP.nxt σ j, Ht' ++ H.drop Ht.length) :: M, ss.ob (.hp (Ht ++ H.drop Ht.length) H))) none
         | none => none
       | some _ => none
     | none => none
   | none => none
 | none => none
def Ir (G : List (Nat × AVal)) (call : CallS) (n : Nat) (o : AOper) (t : Tr) (σ j : Nat) (M : HMap) (ss : SS) : Option (HMap × SS) :=
 cond (Nat.beq σ t.σ) (some (M, ss)) (match ss.dr with
  | 0 :: _ => Nh G call n o t σ j M ss.drop
  | 1 :: _ => I9 t σ j M ss.drop
  | _ :: _ => Gj G n o t σ j M ss.drop
  | [] => none)
def Gz (G : List (Nat × AVal)) (call : CallS) (n : Nat) (ops' : List AOper) (l : List Tr) (σ : Nat) : List Nat → HMap → SS → Option (HMap × SS)
 | [], M, ss => some (M, ss)
 | j :: r, M, ss => match ops'[j]? with
   | some o => match l[j]? with
     | some t => match Ir G call n o t σ j M ss with
       | some (M', s1) => Gz G call n ops' l σ r M' s1
       | none => none
     | none => none
   | none => none
def G3 (G : List (Nat × AVal)) (call : CallS) (p : SP) (n : Nat) (ops' : List AOper) (l : List Tr) : List Nat → HMap → SS → Option (HMap × SS)
 | [], M, ss => some (M, ss)
 | σ :: r, M, ss => match Gz G call n ops' l σ (p.steps σ) M ss with
   | some (M', s1) => G3 G call p n ops' l r M' s1
   | none => none
def exB (p : SP) (M : HMap) : Bool := p.states.all fun σ => (lkH σ M).isSome
def rdV : Option ARes → Option (AVal × List (Int × Int))
 | some (.val v _ side) => some (v, side)
 | _ => none
def rdS (G : List (Nat × AVal)) (o : AOper) (s : St) : Option (AVal × List (Int × Int)) :=
 match o.guard with
 | none => rdV (aop G s o.op)
 | some (d, want) => match s.env.get d with
   | some (.bool b) => cond (cond b want (not want)) (rdV (aop G s o.op)) (some (.tup [], []))
   | some (.tup []) => some (.tup [], [])
   | _ => none
def Is (G : List (Nat × AVal)) (p : SP) (n : Nat) (M : HMap) (o : AOper) (t : Tr) (j : Nat) : List Nat → List Ob → Option (List Ob)
 | [], acc => some acc
 | σ :: r, acc => cond (Nat.beq σ t.σ) (Is G p n M o t j r acc) (cond (p.mayB σ j) (match lkH σ M with
   | some H => match rdS G o ⟨t.env, H, n⟩ with
     | some (v, side) => Is G p n M o t j r (.veq v t.v :: Wx side acc)
     | none => none
   | none => none) (Is G p n M o t j r acc))
def Nx (G : List (Nat × AVal)) (p : SP) (n : Nat) (M : HMap) : List AOper → List Tr → Nat → List Ob → Option (List Ob)
 | o :: r, t :: l, j, acc => match cond (Nat.beq (p.kind.getD j 0) 1) (Is G p n M o t j p.states acc) (some acc) with
   | some acc' => Nx G p n M r l (j + 1) acc'
   | none => none
 | _, _, _, acc => some acc
def Y9 (G : List (Nat × AVal)) (call : CallS) (p : SP) (l : List AOper) (s : St) (ss : SS) : Option (St × SS) :=
 match A09 G call p s.n l 0 s.env 0 s.H [(0, s.H)] ss with
 | some (trs, M, e, s1) => match G3 G call p s.n l trs p.states M s1 with
   | some (M', s2) => cond (exB p M') (match Nx G p s.n M' l trs 0 s2.obs with
     | some obs => match lkH p.fin M' with
       | some H => some (⟨e, H, s.n⟩, ⟨s2.k, s2.br, s2.sk, s2.sd, s2.ans, s2.dr, obs⟩)
       | none => none
     | none => none) none
   | none => none
 | none => none
def A4t (P : Program) (G : List (Nat × AVal)) (call : CallS) (ops : Array Oper) (s : St) (ss : SS) : Option (St × SS) :=
 match Bh P ops ops.toList with
 | some l => cond (Ld P ops (K8 P ops.toList)) (Y9 G call (K8 P ops.toList) l s ss) none
 | none => none
def R8 (body : St → SS → Option (Av × St × SS)) : Nat → St → SS → Option (Av × St × SS)
 | 0, _, _ => none
 | n + 1, s, ss => match body s ss with
   | some (.normal, s', s1) => R8 body n s' s1
   | r => r
def Rz (P : Program) (G : List (Nat × AVal)) (call : CallS) (ih : Code → St → SS → Option (Av × St × SS)) : Code → St → SS → Option (Av × St × SS)
 | .skip, s, ss => some (.normal, s, ss)
 | .region _ ops d, s, ss => match cond d (A4t P G call ops s ss) (Mc P G call ops ops.toList s ss) with
   | some (s', s1) => some (.normal, s', s1)
   | none => none
 | .seq x y, s, ss => match ih x s ss with
   | some (.normal, s', s1) => ih y s' s1
   | r => r
 | .cond c x y, s, ss => match Ah c with
   | some c' => match ev G s c' with
     | some (.bool b) => cond b (ih x s ss) (ih y s ss)
     | _ => none
   | none => none
 | .block id c, s, ss => match ih c s ss with
   | some (.exit j, s', s1) => cond (Nat.beq j id) (some (.normal, s', s1)) (some (.exit j, s', s1))
   | r => r
 | .loop c, s, ss => R8 (ih c) 1000000 s ss
 | .exit id, s, ss => some (.exit id, s, ss)
 | .ret, s, ss => some (.ret, s, ss)
 | _, _, _ => none
def Qr (P : Program) (G : List (Nat × AVal)) (call : CallS) : Nat → Code → St → SS → Option (Av × St × SS)
 | 0, _, _, _ => none
 | n + 1, c, s, ss => Rz P G call (Qr P G call n) c s ss
def finS (P : Program) (fn : Func) (kp : Bool) (H : Hz) : Option (Av × St × SS) → Option (AVal × Hz × SS)
 | some (e, s, ss) => match A4j P fn kp H (some (e, s)) with
   | some (v, H') => some (v, H', ss)
   | none => none
 | none => none
def A3m (P : Program) (G : List (Nat × AVal)) (call : CallS) (fuel : Nat) (b : DB) (s : St) (ss : SS) : Option (Av × St × SS) :=
 match Qr P G call fuel b.r0 s ss with
 | some (.normal, s0, t0) => match Qr P G call fuel b.r1 s0 t0 with
   | some (.normal, s1, t1) => match Uf P G call #[b.o0, b.o1] b.o0 s1 t1 with
     | some (s2, t2) => cond (A0n s2.env b.t b.g b.m) (Qr P G call fuel b.rest s2 t2) none
     | none => none
   | _ => none
 | _ => none
def ansS (f : Nat) (args : List AVal) (H : Hz) (ss : SS) : Option (AVal × Hz × SS) :=
 match ss.ans with
 | (v, none) :: r => cond (cond (C0 0 args) (blw 0 v) false) (some (v, H, ⟨ss.k, ss.br, ss.sk, ss.sd, r, ss.dr, .call f args v :: ss.obs⟩)) none
 | (v, some H') :: r => some (v, H', ⟨ss.k, ss.br, ss.sk, ss.sd, r, ss.dr, .callH f args H v H' :: ss.obs⟩)
 | [] => none
def Md (P : Program) (G : List (Nat × AVal)) (keep opq : Nat → Bool) (idle : Nat → Option Nat) (tab : CallF) (fuel : Nat) : Nat → CallS
 | 0, _, _, _, _ => none
 | d + 1, f, args, H, ss => cond (opq f) (ansS f args H ss) (match tab f args H with
   | some r => some (r.1, r.2, ss)
   | none => match P.funcs[f]? with
     | some fn => match fn.body with
       | some c => cond (Nat.ble args.length 4094 && !(fn.name == "runtime.NumGoroutine")) (finS P fn (keep f) H (match K4 idle c with
        | some b => A3m P G (Md P G keep opq idle tab fuel d) fuel b ⟨F2 0 args .leaf, H, args.length + (fn.ntmps - args.length)⟩ ss
        | none => Qr P G (Md P G keep opq idle tab fuel d) fuel c ⟨F2 0 args .leaf, H, args.length + (fn.ntmps - args.length)⟩ ss)) none
       | none => none
     | none => none)
def Gd (P : Program) (W0 : World) (ss : SS) : Prop := ∀ o ∈ ss.obs, o.ok P W0
def D1 (P : Program) (W0 : World) (call : CallS) : Prop := ∀ f args H ss v H' s1, call f args H ss = some (v, H', s1) → Gd P W0 s1 → Gd P W0 ss ∧ A3 P W0 f args H v H'
section
variable {P : Program} {W0 : World} {G : List (Nat × AVal)}
theorem decS_ok {b c : Bool} {ss s1 : SS} (h : decS b ss = some (c, s1)) (hg : Gd P W0 s1) : Gd P W0 ss ∧ b = c := by
 unfold decS at h
 split at h
 · split at h
   · injection h with h; injection h with h1 h2; subst h1; subst h2
     exact ⟨fun o ho => hg o (by simp [ho]), hg (.eq b _) (by simp)⟩
   · cases h
 · injection h with h; injection h with h1 h2; subst h1; subst h2
   exact ⟨hg, rfl⟩
theorem Q5 : ∀ {l : List (Int × Int)} {obs : List Ob}, (∀ o ∈ Wx l obs, o.ok P W0) → (∀ o ∈ obs, o.ok P W0) ∧ Ae l
 | [], _, h => ⟨h, trivial⟩
 | p :: r, obs, h => by
   simp only [Wx, List.mem_cons] at h
   obtain ⟨h1, h2⟩ := Q5 (l := r) fun o ho => h o (.inr ho)
   exact ⟨h1, h (.le p.1 p.2) (.inl rfl), h2⟩
theorem Wq {side : List (Int × Int)} {ss s1 : SS} (h : A3s side ss = some s1) (hg : Gd P W0 s1) : Gd P W0 ss ∧ Ae side := by
 unfold A3s at h
 split at h
 · injection h with h; subst h; exact ⟨hg, trivial⟩
 · split at h
   · split at h
     · injection h with h; subst h
       exact Q5 hg
     · cases h
   · cases hs : Ky side with
     | false => rw [hs] at h; cases h
     | true =>
       rw [hs, cond_true] at h
       injection h with h; subst h
       exact ⟨hg, Nr hs⟩
theorem Qn {call : CallS} (hc : D1 P W0 call) {cmp : Bool} {H H' : Hz} {ss s1 : SS} {r : Option ARes} {v : AVal} (h : Wp call cmp H ss r = some (v, H', s1)) (hg : Gd P W0 s1) : Gd P W0 ss ∧ Gx P W0 H r fun v' H'' => v' = v ∧ H'' = H' := by
 unfold Wp at h
 split at h
 · split at h
   · rename_i t ht
     cases cmp with
     | false =>
       simp only [cond_false, iS, iP] at h
       obtain ⟨rfl, rfl, rfl⟩ := h
       obtain ⟨h1, h2⟩ := Wq ht hg
       exact ⟨h1, h2, rfl, rfl⟩
     | true =>
       simp only [cond_true] at h
       split at h
       · split at h
         · rename_i c t2 hd
           simp only [iS, iP] at h
           obtain ⟨rfl, rfl, rfl⟩ := h
           obtain ⟨k1, k2⟩ := decS_ok hd hg
           obtain ⟨h1, h2⟩ := Wq ht k1
           subst k2
           exact ⟨h1, h2, rfl, rfl⟩
         · cases h
       · cases h
   · cases h
 · simp only [iS, iP] at h
   obtain ⟨rfl, rfl, rfl⟩ := h
   exact ⟨hg, rfl, rfl⟩
 · obtain ⟨h1, h2⟩ := hc _ _ _ _ _ _ _ h hg
   exact ⟨h1, _, _, h2, rfl, rfl⟩
 · cases h
theorem A41 {H : Hz} {r : Option ARes} {v : AVal} {H' : Hz} (h : Gx P W0 H r fun v' H'' => v' = v ∧ H'' = H') {K : AVal → Hz → Prop} (hk : K v H') : Gx P W0 H r K :=
 T8 (fun v' H'' ⟨e1, e2⟩ => by subst e1; subst e2; exact hk) h
theorem Tu {call : CallS} (hc : D1 P W0 call) {ops : Array Oper} {o : Oper} {s t : St} {ss s1 : SS} (h : Uf P G call ops o s ss = some (t, s1)) (hg : Gd P W0 s1) : Gd P W0 ss ∧ ∀ {K : St → Prop}, K t → Gg P W0 G ops o s K := by
 unfold Uf at h
 unfold Gg
 cases hgd : C9 ops s o.guard with
 | none => rw [hgd] at h; cases h
 | some b =>
   rw [hgd] at h
   cases b with
   | false =>
     simp only at h ⊢
     split at h
     · rename_i t' ht
       simp only [iS, iP] at h
       obtain ⟨rfl, rfl⟩ := h
       exact ⟨hg, fun hk => St.put_putP ht hk⟩
     · cases h
   | true =>
     simp only at h ⊢
     cases hop : B3 P o.op with
     | none => rw [hop] at h; cases h
     | some op =>
       rw [hop] at h
       simp only at h ⊢
       split at h
       · rename_i v H' t1 hr
         split at h
         · rename_i t' ht
           simp only [iS, iP] at h
           obtain ⟨rfl, rfl⟩ := h
           obtain ⟨h1, h2⟩ := Qn hc hr hg
           exact ⟨h1, fun hk => A41 h2 (St.put_putP ht hk)⟩
         · cases h
       · cases h
theorem Ql {call : CallS} (hc : D1 P W0 call) {ops : Array Oper} : ∀ {l : List Oper} {s t : St} {ss s1 : SS}, Mc P G call ops l s ss = some (t, s1) → Gd P W0 s1 → Gd P W0 ss ∧ ∀ {K : St → Prop}, K t → Jj P W0 G ops l s K
 | [], s, t, ss, s1, h, hg => by
   simp only [Mc, iS, iP] at h
   obtain ⟨rfl, rfl⟩ := h
   exact ⟨hg, fun hk => hk⟩
 | o :: r, s, t, ss, s1, h, hg => by
   simp only [Mc] at h
   split at h
   · rename_i t' s2 h1
     obtain ⟨k1, k2⟩ := Ql hc h hg
     obtain ⟨k3, k4⟩ := Tu hc h1 k1
     exact ⟨k3, fun hk => k4 (k2 hk)⟩
   · cases h
theorem Me {call : CallS} (hc : D1 P W0 call) {o : AOper} {s : St} {ss s1 : SS} {v : AVal} {H' : Hz} (h : Zj G call o s ss = some (v, H', s1)) (hg : Gd P W0 s1) : Gd P W0 ss ∧ Ci P W0 G o s fun v' H'' => v' = v ∧ H'' = H' := by
 unfold Zj at h
 unfold Ci
 split at h
 · rename_i hgd
   rw [hgd]
   exact Qn hc h hg
 · rename_i d want hgd
   rw [hgd]
   simp only
   split at h
   · rename_i b hb
     rw [hb]
     simp only
     cases hw : cond b want (not want) with
     | true => rw [hw] at h; exact Qn hc h hg
     | false =>
       rw [hw, cond_false] at h
       simp only [iS, iP] at h
       obtain ⟨rfl, rfl, rfl⟩ := h
       exact ⟨hg, rfl, rfl⟩
   · rename_i hb
     rw [hb]
     simp only [iS, iP] at h
     obtain ⟨rfl, rfl, rfl⟩ := h
     exact ⟨hg, rfl, rfl⟩
   · cases h
theorem rdS_ok {o : AOper} (hk : o.op.kind ≤ 1) {s : St} {v : AVal} {side : List (Int × Int)} (h : rdS G o s = some (v, side)) (hs : Ae side) : Ci P W0 G o s fun v' H' => v' = v ∧ H' = s.H := by
 have main : rdV (aop G s o.op) = some (v, side) → Gx P W0 s.H (aop G s o.op) (fun v' H'' => v' = v ∧ H'' = s.H) := by
  intro h
  cases hr : aop G s o.op with
  | none => rw [hr] at h; cases h
  | some r =>
    obtain ⟨v1, side1, rfl⟩ := H5 (by omega) hr
    rw [hr] at h
    simp only [rdV, iS, iP] at h
    obtain ⟨rfl, rfl⟩ := h
    exact ⟨hs, rfl, rfl⟩
 unfold rdS at h
 unfold Ci
 split at h
 · rename_i hgd; rw [hgd]; exact main h
 · rename_i d want hgd
   rw [hgd]
   simp only
   split at h
   · rename_i b hb
     rw [hb]
     simp only
     cases hw : cond b want (not want) with
     | true => rw [hw] at h; exact main h
     | false =>
       rw [hw, cond_false] at h
       simp only [iS, iP] at h
       exact ⟨h.1, trivial⟩
   · rename_i hb
     rw [hb]
     simp only [iS, iP] at h
     exact ⟨h.1, trivial⟩
   · cases h
theorem Iu {p : SP} {n : Nat} {M : HMap} {o : AOper} {t : Tr} {j : Nat} (hop : o.op.kind ≤ 1) : ∀ {sts : List Nat} {acc obs : List Ob}, Is G p n M o t j sts acc = some obs → (∀ o ∈ obs, o.ok P W0) →
 (∀ o ∈ acc, o.ok P W0) ∧ ∀ σ ∈ sts, p.mayB σ j = true → σ = t.σ ∨ ∃ H, lkH σ M = some H ∧ Ci P W0 G o ⟨t.env, H, n⟩ fun v' H' => v' = t.v ∧ H' = H
 | [], acc, obs, h, hg => by
   simp only [Is, iS] at h
   subst h
   exact ⟨hg, fun σ h => by cases h⟩
 | τ :: r, acc, obs, h, hg => by
   simp only [Is] at h
   cases hb : Nat.beq τ t.σ with
   | true =>
     rw [hb, cond_true] at h
     obtain ⟨k1, k2⟩ := Iu hop h hg
     refine ⟨k1, fun σ hσ hm => ?_⟩
     rcases List.mem_cons.1 hσ with rfl | hσ
     · exact .inl (nBq hb)
     · exact k2 σ hσ hm
   | false =>
     rw [hb, cond_false] at h
     cases hm : p.mayB τ j with
     | false =>
       rw [hm, cond_false] at h
       obtain ⟨k1, k2⟩ := Iu hop h hg
       refine ⟨k1, fun σ hσ hm' => ?_⟩
       rcases List.mem_cons.1 hσ with rfl | hσ
       · rw [hm] at hm'; cases hm'
       · exact k2 σ hσ hm'
     | true =>
       rw [hm, cond_true] at h
       split at h
       · rename_i H hH
         split at h
         · rename_i v side hv
           obtain ⟨k1, k2⟩ := Iu hop h hg
           have hv' : v = t.v := k1 (.veq v t.v) (by simp)
           obtain ⟨k3, k4⟩ := Q5 (P := P) (W0 := W0) (l := side) (obs := acc) fun o ho => k1 o (by simp [ho])
           refine ⟨k3, fun σ hσ hm' => ?_⟩
           rcases List.mem_cons.1 hσ with rfl | hσ
           · exact .inr ⟨H, hH, hv' ▸ rdS_ok hop hv k4⟩
           · exact k2 σ hσ hm'
         · cases h
       · cases h
theorem To {p : SP} {n : Nat} {M : HMap} : ∀ {l : List AOper} {trs : List Tr} {j : Nat} {acc obs : List Ob}, Nx G p n M l trs j acc = some obs → (∀ o ∈ obs, o.ok P W0) → (∀ k o, l[k]? = some o → p.kind.getD (j + k) 0 = 1 → o.op.kind ≤ 1) →
 (∀ o ∈ acc, o.ok P W0) ∧ ∀ k o t, l[k]? = some o → trs[k]? = some t → p.kind.getD (j + k) 0 = 1 → ∀ σ ∈ p.states, p.mayB σ (j + k) = true → σ = t.σ ∨ ∃ H, lkH σ M = some H ∧ Ci P W0 G o ⟨t.env, H, n⟩ fun v' H' => v' = t.v ∧ H' = H
 | [], trs, j, acc, obs, h, hg, _ => by
   simp only [Nx, iS] at h; subst h
   exact ⟨hg, fun k o t h => by simp at h⟩
 | _ :: _, [], j, acc, obs, h, hg, _ => by
   simp only [Nx, iS] at h; subst h
   exact ⟨hg, fun k o t _ h => by simp at h⟩
 | o :: r, t :: trs, j, acc, obs, h, hg, hkd => by
   simp only [Nx] at h
   split at h
   · rename_i acc' ha
     obtain ⟨k1, k2⟩ := To h hg fun k o ho h1 => hkd (k + 1) o (by simpa using ho) (by rw [show j + (k + 1) = j + 1 + k by omega]; exact h1)
     have hacc : (∀ o ∈ acc, o.ok P W0) ∧ (p.kind.getD j 0 = 1 → ∀ σ ∈ p.states, p.mayB σ j = true → σ = t.σ ∨ ∃ H, lkH σ M = some H ∧ Ci P W0 G o ⟨t.env, H, n⟩ fun v' H' => v' = t.v ∧ H' = H) := by
      cases hb : Nat.beq (p.kind.getD j 0) 1 with
      | false =>
        rw [hb, cond_false] at ha
        injection ha with ha; subst ha
        exact ⟨k1, fun h1 => by rw [h1] at hb; cases hb⟩
      | true =>
        rw [hb, cond_true] at ha
        obtain ⟨c1, c2⟩ := Iu (hkd 0 o rfl (by rw [Nat.add_zero]; exact nBq hb)) ha k1
        exact ⟨c1, fun _ => c2⟩
     refine ⟨hacc.1, fun k o' t' h1 h2 h3 => ?_⟩
     cases k with
     | zero =>
       simp at h1 h2; subst h1; subst h2
       exact hacc.2 h3
     | succ k =>
       rw [show j + (k + 1) = j + 1 + k by omega] at h3 ⊢
       exact k2 k o' t' (by simpa using h1) (by simpa using h2) h3
   · cases h
theorem V7 {call : CallS} (hc : D1 P W0 call) {p : SP} {n : Nat} : ∀ (l : List AOper) (j : Nat) (e : Env) (σ : Nat) (H : Hz) (M : HMap) {ss s1 : SS} {tr : List Tr} {Mf : HMap} {ef : Env}, A09 G call p n l j e σ H M ss = some (tr, Mf, ef, s1) → lkH σ M = some H → Gd P W0 s1 →
 Gd P W0 ss ∧ Ee M Mf ∧ tr.length = l.length ∧ C4 tr ef 0 = e ∧
 ∀ k o, l[k]? = some o → ∃ t Hk H', tr[k]? = some t ∧ Hq o.dst n = true ∧ lkH t.σ Mf = some Hk ∧ (Ci P W0 G o ⟨t.env, Hk, n⟩ fun v' H'' => v' = t.v ∧ H'' = H') ∧
  (p.eff (j + k) = true → lkH (SP.nxt t.σ (j + k)) Mf = some H') ∧ C4 tr ef (k + 1) = I1 o.dst t.v t.env
 | [], j, e, σ, H, M, ss, s1, tr, Mf, ef, h, hl, hg => by
   simp only [A09, iS, iP] at h
   obtain ⟨rfl, rfl, rfl, rfl⟩ := h
   exact ⟨hg, fun _ _ h => h, rfl, rfl, fun k o hk => by simp at hk⟩
 | o :: r, j, e, σ, H, M, ss, s1, tr, Mf, ef, h, hl, hg => by
   simp only [A09] at h
   split at h
   · rename_i hd
     split at h
     · rename_i v H' s2 hv
       split at h
       · rename_i heff
         split at h
         · rename_i hnone
           split at h
           · rename_i l' rest hrest
             simp only [iS, iP] at h
             obtain ⟨rfl, h⟩ := h
             subst h
             obtain ⟨g1, h1, h2, h3, h4⟩ := V7 hc r (j + 1) _ _ H' _ hrest (Dy _ _ _) hg
             obtain ⟨g2, e2⟩ := Me hc hv g1
             have hext : Ee M Mf := fun σ' H'' h' => h1 _ _ (Ee.cons hnone _ _ h')
             refine ⟨g2, hext, by simp [h2], rfl, fun k o' hk => ?_⟩
             cases k with
             | zero =>
               simp at hk; subst hk
               exact ⟨_, H, H', rfl, hd, hext _ _ hl, e2, fun _ => h1 _ _ (Dy _ _ _), by simpa [C4] using h3⟩
             | succ k =>
               obtain ⟨t, Hk, Hk', a1, a2, a3, a4, a5, a6⟩ := h4 k o' (by simpa using hk)
               exact ⟨t, Hk, Hk', by simpa using a1, a2, a3, a4, by rw [show j + (k + 1) = j + 1 + k by omega]; exact a5, by simpa [C4] using a6⟩
           · cases h
         · cases h
       · rename_i heff
         split at h
         · rename_i l' rest hrest
           simp only [iS, iP] at h
           obtain ⟨rfl, h⟩ := h
           subst h
           obtain ⟨g1, h1, h2, h3, h4⟩ := V7 hc r (j + 1) _ _ H _ hrest hl hg
           obtain ⟨g2, e2⟩ := Me hc hv g1
           refine ⟨g2, h1, by simp [h2], rfl, fun k o' hk => ?_⟩
           cases k with
           | zero =>
             simp at hk; subst hk
             exact ⟨_, H, H', rfl, hd, h1 _ _ hl, e2, fun he => absurd he (by rw [Nat.add_zero, heff]; simp), by simpa [C4] using h3⟩
           | succ k =>
             obtain ⟨t, Hk, Hk', a1, a2, a3, a4, a5, a6⟩ := h4 k o' (by simpa using hk)
             exact ⟨t, Hk, Hk', by simpa using a1, a2, a3, a4, by rw [show j + (k + 1) = j + 1 + k by omega]; exact a5, by simpa [C4] using a6⟩
         · cases h
     · cases h
   · cases h
theorem X5 {o : AOper} {s : St} {v : AVal} {H' : Hz} (hk : o.op.kind ≤ 1) (h : Ci P W0 G o s fun v' H'' => v' = v ∧ H'' = H') : H' = s.H := by
 have main : Gx P W0 s.H (aop G s o.op) (fun v' H'' => v' = v ∧ H'' = H') → H' = s.H := by
  intro h
  cases hr : aop G s o.op with
  | none => rw [hr] at h; exact h.elim
  | some r =>
    obtain ⟨v1, side, rfl⟩ := H5 (by omega) hr
    rw [hr] at h
    exact h.2.2.symm
 unfold Ci at h
 split at h
 · exact main h
 · split at h
   · rename_i b _
     revert h
     cases (cond b _ _ : Bool) with
     | true => exact main
     | false => exact fun h => h.2.symm
   · exact h.2.symm
   · exact h.elim
theorem Gd.ob {ss : SS} {o : Ob} (h : Gd P W0 (ss.ob o)) : Gd P W0 ss ∧ o.ok P W0 := ⟨fun o' ho => h o' (by simp [SS.ob, ho]), h o (by simp [SS.ob])⟩
def P1 (P : Program) (W0 : World) (G : List (Nat × AVal)) (n : Nat) (o : AOper) (t : Tr) (j : Nat) (M : HMap) : Prop := ∃ Hk H', lkH t.σ M = some Hk ∧ (Ci P W0 G o ⟨t.env, Hk, n⟩ fun v' H'' => v' = t.v ∧ H'' = H') ∧ lkH (SP.nxt t.σ j) M = some H'
theorem P1.ext {n : Nat} {o : AOper} {t : Tr} {j : Nat} {M M' : HMap} (h : P1 P W0 G n o t j M) (he : Ee M M') : P1 P W0 G n o t j M' := by
 obtain ⟨Hk, H', h1, h2, h3⟩ := h
 exact ⟨Hk, H', he _ _ h1, h2, he _ _ h3⟩
theorem Qw {call : CallS} (hc : D1 P W0 call) {n : Nat} {o : AOper} {t : Tr} {σ j : Nat} {M M' : HMap} {ss s1 : SS} (h : Nh G call n o t σ j M ss = some (M', s1)) (hg : Gd P W0 s1) :
 Gd P W0 ss ∧ Ee M M' ∧ ∃ H H', lkH σ M' = some H ∧ (Ci P W0 G o ⟨t.env, H, n⟩ fun v' H'' => v' = t.v ∧ H'' = H') ∧ lkH (SP.nxt σ j) M' = some H' := by
 unfold Nh at h
 split at h
 · rename_i H hH
   split at h
   · rename_i v H' s2 hv
     split at h
     · rename_i H'' hH''
       simp only [iS, iP] at h
       obtain ⟨rfl, rfl⟩ := h
       obtain ⟨g1, o1⟩ := hg.ob
       obtain ⟨g2, o2⟩ := g1.ob
       obtain ⟨g3, e3⟩ := Me hc hv g2
       have o1 : v = t.v := o1
       have o2 : H' = H'' := o2
       subst o1; subst o2
       exact ⟨g3, fun _ _ h => h, H, H', hH, e3, hH''⟩
     · rename_i hnone
       simp only [iS, iP] at h
       obtain ⟨rfl, rfl⟩ := h
       obtain ⟨g1, o1⟩ := hg.ob
       obtain ⟨g3, e3⟩ := Me hc hv g1
       have o1 : v = t.v := o1
       subst o1
       exact ⟨g3, Ee.cons hnone, H, H', Ee.cons hnone _ _ hH, e3, Dy _ _ _⟩
   · cases h
 · cases h
theorem Wi {n : Nat} {o : AOper} {t : Tr} {σ j : Nat} {M M' : HMap} {ss s1 : SS} (hb : P1 P W0 G n o t j M) (h : I9 t σ j M ss = some (M', s1)) (hg : Gd P W0 s1) :
 Gd P W0 ss ∧ Ee M M' ∧ ∃ H H', lkH σ M' = some H ∧ (Ci P W0 G o ⟨t.env, H, n⟩ fun v' H'' => v' = t.v ∧ H'' = H') ∧ lkH (SP.nxt σ j) M' = some H' := by
 obtain ⟨Hk, Hk', b1, b2, b3⟩ := hb
 unfold I9 at h
 split at h
 · rename_i H hH
   split at h
   · rename_i Ht hHt
     rw [b1] at hHt; injection hHt with hHt; subst hHt
     split at h
     · rename_i Ht' hHt'
       rw [b3] at hHt'; injection hHt' with hHt'; subst hHt'
       split at h
       · rename_i H'' hH''
         simp only [iS, iP] at h
         obtain ⟨rfl, rfl⟩ := h
         obtain ⟨g1, o1⟩ := hg.ob
         obtain ⟨g2, o2⟩ := g1.ob
         have o1 : Hk = H := o1
         have o2 : Hk' = H'' := o2
         subst o1; subst o2
         exact ⟨g2, fun _ _ h => h, Hk, Hk', hH, b2, hH''⟩
       · rename_i hnone
         simp only [iS, iP] at h
         obtain ⟨rfl, rfl⟩ := h
         obtain ⟨g1, o1⟩ := hg.ob
         have o1 : Hk = H := o1
         subst o1
         exact ⟨g1, Ee.cons hnone, Hk, Hk', Ee.cons hnone _ _ hH, b2, Dy _ _ _⟩
     · cases h
   · cases h
 · cases h
theorem R9 {e : Env} {n : Nat} {op : AOp} {f : Nat} {args : List AVal} (h : Vl G e n op = some (f, args)) (H : Hz) : aop G ⟨e, H, n⟩ op = some (.call f args) := by
 cases op <;> simp only [Vl, reduceCtorEq] at h
 rename_i f' as'
 simp only [aop]
 rw [G9 (H' := []) f', Zd (H' := []) as']
 split at h
 · rename_i g first cap hf
   rw [hf]
   split at h
   · rename_i l hl
     simp only [iS, iP] at h
     obtain ⟨rfl, rfl⟩ := h
     simp only [hl]
   · cases h
 · cases h
theorem V1 {n : Nat} {o : AOper} {t : Tr} {σ j : Nat} {M M' : HMap} {ss s1 : SS} (hb : P1 P W0 G n o t j M) (h : Gj G n o t σ j M ss = some (M', s1)) (hg : Gd P W0 s1) :
 Gd P W0 ss ∧ Ee M M' ∧ ∃ H H', lkH σ M' = some H ∧ (Ci P W0 G o ⟨t.env, H, n⟩ fun v' H'' => v' = t.v ∧ H'' = H') ∧ lkH (SP.nxt σ j) M' = some H' := by
 obtain ⟨Hk, Hk', b1, b2, b3⟩ := hb
 unfold Gj at h
 split at h
 · rename_i H hH
   split at h
   · rename_i Ht hHt
     rw [b1] at hHt; injection hHt with hHt; subst hHt
     split at h
     · rename_i Ht' hHt'
       rw [b3] at hHt'; injection hHt' with hHt'; subst hHt'
       split at h
       · rename_i hgd
         split at h
         · rename_i f args hct
           cases hcd : (Nat.beq Hk'.length Hk.length && (Fg Hk.length Hk && C0 Hk.length args)) with
           | false => rw [hcd] at h; cases h
           | true =>
             rw [hcd, cond_true] at h
             simp only [bAt] at hcd
             obtain ⟨c1, c2, c3⟩ := hcd
             have c1 := nBq c1
             have hcall : A3 P W0 f args Hk t.v Hk' := by
              unfold Ci at b2
              rw [hgd] at b2
              simp only [R9 hct Hk] at b2
              obtain ⟨v', H'', k1, k2, k3⟩ := b2
              subst k2; subst k3; exact k1
             have hfr := hcall.frame c2 c3 c1 (H.drop Hk.length)
             have hev : ∀ {H2 : Hz}, Hk ++ H.drop Hk.length = H2 → Ci P W0 G o ⟨t.env, H2, n⟩ fun v' H'' => v' = t.v ∧ H'' = Hk' ++ H.drop Hk.length := by
              intro H2 he
              subst he
              unfold Ci
              rw [hgd]
              simp only [R9 hct]
              exact ⟨_, _, hfr, rfl, rfl⟩
             split at h
             · rename_i H'' hH''
               simp only [iS, iP] at h
               obtain ⟨rfl, rfl⟩ := h
               obtain ⟨g1, o1⟩ := hg.ob
               obtain ⟨g2, o2⟩ := g1.ob
               have o1 : Hk ++ H.drop Hk.length = H := o1
               have o2 : Hk' ++ H.drop Hk.length = H'' := o2
               exact ⟨g2, fun _ _ h => h, H, H'', hH, o2 ▸ hev o1, hH''⟩
             · rename_i hnone
               simp only [iS, iP] at h
               obtain ⟨rfl, rfl⟩ := h
               obtain ⟨g1, o1⟩ := hg.ob
               have o1 : Hk ++ H.drop Hk.length = H := o1
               exact ⟨g1, Ee.cons hnone, H, _, Ee.cons hnone _ _ hH, hev o1, Dy _ _ _⟩
         · cases h
       · cases h
     · cases h
   · cases h
 · cases h
theorem Xd {call : CallS} (hc : D1 P W0 call) {n : Nat} {o : AOper} {t : Tr} {σ j : Nat} {M M' : HMap} {ss s1 : SS} (hb : P1 P W0 G n o t j M) (h : Ir G call n o t σ j M ss = some (M', s1)) (hg : Gd P W0 s1) :
 Gd P W0 ss ∧ Ee M M' ∧ (σ = t.σ ∨ ∃ H H', lkH σ M' = some H ∧ (Ci P W0 G o ⟨t.env, H, n⟩ fun v' H'' => v' = t.v ∧ H'' = H') ∧ lkH (SP.nxt σ j) M' = some H') := by
 unfold Ir at h
 cases hbq : Nat.beq σ t.σ with
 | true =>
   rw [hbq, cond_true] at h
   simp only [iS, iP] at h
   obtain ⟨rfl, rfl⟩ := h
   exact ⟨hg, fun _ _ h => h, .inl (nBq hbq)⟩
 | false =>
   rw [hbq, cond_false] at h
   split at h
   · obtain ⟨k1, k2, k3⟩ := Qw hc h hg
     exact ⟨k1, k2, .inr k3⟩
   · obtain ⟨k1, k2, k3⟩ := Wi hb h hg
     exact ⟨k1, k2, .inr k3⟩
   · obtain ⟨k1, k2, k3⟩ := V1 hb h hg
     exact ⟨k1, k2, .inr k3⟩
   · cases h
theorem Ss {call : CallS} (hc : D1 P W0 call) {n : Nat} {ops' : List AOper} {l : List Tr} {σ : Nat} : ∀ {js : List Nat} {M M' : HMap} {ss s1 : SS}, (∀ j ∈ js, ∀ o t, ops'[j]? = some o → l[j]? = some t → P1 P W0 G n o t j M) → Gz G call n ops' l σ js M ss = some (M', s1) → Gd P W0 s1 →
 Gd P W0 ss ∧ Ee M M' ∧ ∀ j ∈ js, ∃ o t, ops'[j]? = some o ∧ l[j]? = some t ∧ (σ = t.σ ∨ ∃ H H', lkH σ M' = some H ∧ (Ci P W0 G o ⟨t.env, H, n⟩ fun v' H'' => v' = t.v ∧ H'' = H') ∧ lkH (SP.nxt σ j) M' = some H')
 | [], M, M', ss, s1, _, h, hg => by
   simp only [Gz, iS, iP] at h
   obtain ⟨rfl, rfl⟩ := h
   exact ⟨hg, fun _ _ h => h, fun j hj => by cases hj⟩
 | j :: r, M, M', ss, s1, hb, h, hg => by
   simp only [Gz] at h
   split at h
   · rename_i o ho
     split at h
     · rename_i t ht
       split at h
       · rename_i M1 s2 h1
         have hext : Ee M M1 := by
          unfold Ir at h1
          cases hbq : Nat.beq σ t.σ with
          | true => rw [hbq, cond_true] at h1; simp only [iS, iP] at h1; obtain ⟨rfl, _⟩ := h1; exact fun _ _ h => h
          | false =>
            rw [hbq, cond_false] at h1
            split at h1
            · unfold Nh at h1
              repeat' (split at h1)
              all_goals first
               | (cases h1; done)
               | (simp only [iS, iP] at h1; obtain ⟨rfl, _⟩ := h1; exact fun _ _ h => h)
               | (rename_i hn; simp only [iS, iP] at h1; obtain ⟨rfl, _⟩ := h1; exact Ee.cons hn)
            · unfold I9 at h1
              repeat' (split at h1)
              all_goals first
               | (cases h1; done)
               | (simp only [iS, iP] at h1; obtain ⟨rfl, _⟩ := h1; exact fun _ _ h => h)
               | (rename_i hn; simp only [iS, iP] at h1; obtain ⟨rfl, _⟩ := h1; exact Ee.cons hn)
            · unfold Gj at h1
              repeat' (split at h1)
              all_goals first
               | (cases h1; done)
               | (revert h1
                  cases (Nat.beq _ _ && (Fg _ _ && C0 _ _)) with
                  | false => intro h1; cases h1
                  | true =>
                    intro h1
                    rw [cond_true] at h1
                    simp only [iS, iP] at h1
                    obtain ⟨rfl, _⟩ := h1
                    first
                     | exact fun _ _ h => h
                     | exact Ee.cons (by assumption))
            · cases h1
         obtain ⟨g2, b1, b2⟩ := Ss hc (fun k hk o t h1 h2 => (hb k (by simp [hk]) o t h1 h2).ext hext) h hg
         obtain ⟨g1, a1, a2⟩ := Xd hc (hb j (by simp) o t ho ht) h1 g2
         refine ⟨g1, fun σ H hh => b1 _ _ (a1 _ _ hh), fun k hk => ?_⟩
         rcases List.mem_cons.1 hk with rfl | hk
         · refine ⟨o, t, ho, ht, a2.imp id ?_⟩
           rintro ⟨H, H', c1, c2, c3⟩
           exact ⟨H, H', b1 _ _ c1, c2, b1 _ _ c3⟩
         · exact b2 k hk
       · cases h
     · cases h
   · cases h
theorem Qo {call : CallS} {n : Nat} {ops' : List AOper} {l : List Tr} {σ : Nat} : ∀ {js : List Nat} {M M' : HMap} {ss s1 : SS}, Gz G call n ops' l σ js M ss = some (M', s1) → Ee M M'
 | [], M, M', ss, s1, h => by
   simp only [Gz, iS, iP] at h
   obtain ⟨rfl, rfl⟩ := h
   exact fun _ _ h => h
 | j :: r, M, M', ss, s1, h => by
   simp only [Gz] at h
   split at h
   · rename_i o ho
     split at h
     · rename_i t ht
       split at h
       · rename_i M1 s2 h1
         have hext : Ee M M1 := by
          unfold Ir at h1
          cases hbq : Nat.beq σ t.σ with
          | true => rw [hbq, cond_true] at h1; simp only [iS, iP] at h1; obtain ⟨rfl, _⟩ := h1; exact fun _ _ h => h
          | false =>
            rw [hbq, cond_false] at h1
            split at h1
            · unfold Nh at h1
              repeat' (split at h1)
              all_goals first
               | (cases h1; done)
               | (simp only [iS, iP] at h1; obtain ⟨rfl, _⟩ := h1; exact fun _ _ h => h)
               | (rename_i hn; simp only [iS, iP] at h1; obtain ⟨rfl, _⟩ := h1; exact Ee.cons hn)
            · unfold I9 at h1
              repeat' (split at h1)
              all_goals first
               | (cases h1; done)
               | (simp only [iS, iP] at h1; obtain ⟨rfl, _⟩ := h1; exact fun _ _ h => h)
               | (rename_i hn; simp only [iS, iP] at h1; obtain ⟨rfl, _⟩ := h1; exact Ee.cons hn)
            · unfold Gj at h1
              repeat' (split at h1)
              all_goals first
               | (cases h1; done)
               | (revert h1
                  cases (Nat.beq _ _ && (Fg _ _ && C0 _ _)) with
                  | false => intro h1; cases h1
                  | true =>
                    intro h1
                    rw [cond_true] at h1
                    simp only [iS, iP] at h1
                    obtain ⟨rfl, _⟩ := h1
                    first
                     | exact fun _ _ h => h
                     | exact Ee.cons (by assumption))
            · cases h1
         exact fun σ H hh => Qo h _ _ (hext _ _ hh)
       · cases h
     · cases h
   · cases h
theorem P0 {call : CallS} (hc : D1 P W0 call) {p : SP} {n : Nat} {ops' : List AOper} {l : List Tr} : ∀ {sts : List Nat} {M M' : HMap} {ss s1 : SS}, (∀ j o t, p.eff j = true → ops'[j]? = some o → l[j]? = some t → P1 P W0 G n o t j M) → G3 G call p n ops' l sts M ss = some (M', s1) → Gd P W0 s1 →
 Gd P W0 ss ∧ Ee M M' ∧ ∀ σ ∈ sts, ∀ j ∈ p.steps σ, ∃ o t, ops'[j]? = some o ∧ l[j]? = some t ∧ (σ = t.σ ∨ ∃ H H', lkH σ M' = some H ∧ (Ci P W0 G o ⟨t.env, H, n⟩ fun v' H'' => v' = t.v ∧ H'' = H') ∧ lkH (SP.nxt σ j) M' = some H')
 | [], M, M', ss, s1, _, h, hg => by
   simp only [G3, iS, iP] at h
   obtain ⟨rfl, rfl⟩ := h
   exact ⟨hg, fun _ _ h => h, fun j hj => by cases hj⟩
 | σ :: r, M, M', ss, s1, hb, h, hg => by
   simp only [G3] at h
   split at h
   · rename_i M1 s2 h1
     have hext := Qo h1
     obtain ⟨g2, b1, b2⟩ := P0 hc (fun j o t h1 h2 h3 => (hb j o t h1 h2 h3).ext hext) h hg
     obtain ⟨g1, a1, a2⟩ := Ss hc (fun j hj o t h1 h2 => hb j o t (by
      unfold SP.steps at hj
      rw [List.mem_filter] at hj
      simp only [bAt] at hj
      exact hj.2.1.1) h1 h2) h1 g2
     refine ⟨g1, fun σ H hh => b1 _ _ (a1 _ _ hh), fun τ hτ j hj => ?_⟩
     rcases List.mem_cons.1 hτ with rfl | hτ
     · obtain ⟨o, t, c1, c2, c3⟩ := a2 j hj
       refine ⟨o, t, c1, c2, c3.imp id ?_⟩
       rintro ⟨H, H', c1, c2, c3⟩
       exact ⟨H, H', b1 _ _ c1, c2, b1 _ _ c3⟩
     · exact b2 τ hτ j hj
   · cases h
theorem Yk {call : CallS} (hc : D1 P W0 call) {n : Nat} {o : AOper} {t : Tr} {σ j : Nat} {M M' : HMap} {ss s1 : SS} (h : Ir G call n o t σ j M ss = some (M', s1)) (hg : Gd P W0 s1) : Gd P W0 ss := by
 unfold Ir at h
 cases hbq : Nat.beq σ t.σ with
 | true =>
   rw [hbq, cond_true] at h
   simp only [iS, iP] at h
   obtain ⟨rfl, rfl⟩ := h
   exact hg
 | false =>
   rw [hbq, cond_false] at h
   split at h
   · exact (Qw hc h hg).1
   · unfold I9 at h
     repeat' (split at h)
     all_goals first
      | (cases h; done)
      | (simp only [iS, iP] at h; obtain ⟨_, rfl⟩ := h; exact hg.ob.1.ob.1)
      | (simp only [iS, iP] at h; obtain ⟨_, rfl⟩ := h; exact hg.ob.1)
   · unfold Gj at h
     repeat' (split at h)
     all_goals first
      | (cases h; done)
      | (revert h
         cases (Nat.beq _ _ && (Fg _ _ && C0 _ _)) with
         | false => intro h; cases h
         | true =>
           intro h
           rw [cond_true] at h
           simp only [iS, iP] at h
           obtain ⟨_, rfl⟩ := h
           first
            | exact hg.ob.1.ob.1
            | exact hg.ob.1)
   · cases h
theorem S4 {call : CallS} (hc : D1 P W0 call) {n : Nat} {ops' : List AOper} {l : List Tr} {σ : Nat} : ∀ {js : List Nat} {M M' : HMap} {ss s1 : SS}, Gz G call n ops' l σ js M ss = some (M', s1) → Gd P W0 s1 → Gd P W0 ss
 | [], M, M', ss, s1, h, hg => by
   simp only [Gz, iS, iP] at h
   obtain ⟨rfl, rfl⟩ := h
   exact hg
 | j :: r, M, M', ss, s1, h, hg => by
   simp only [Gz] at h
   split at h
   · split at h
     · split at h
       · rename_i M1 s2 h1
         exact Yk hc h1 (S4 hc h hg)
       · cases h
     · cases h
   · cases h
theorem P4 {call : CallS} (hc : D1 P W0 call) {p : SP} {n : Nat} {ops' : List AOper} {l : List Tr} : ∀ {sts : List Nat} {M M' : HMap} {ss s1 : SS}, G3 G call p n ops' l sts M ss = some (M', s1) → Gd P W0 s1 → Gd P W0 ss
 | [], M, M', ss, s1, h, hg => by
   simp only [G3, iS, iP] at h
   obtain ⟨rfl, rfl⟩ := h
   exact hg
 | σ :: r, M, M', ss, s1, h, hg => by
   simp only [G3] at h
   split at h
   · rename_i M1 s2 h1
     exact S4 hc h1 (P4 hc h hg)
   · cases h
theorem A10 (hm : P.follows .mixedOrders = true) (hG : GOK W0 G) {call : CallS} (hc : D1 P W0 call) {id : Nat} {ops : Array Oper} {l : List AOper} (hl : Bh P ops ops.toList = some l) {sp : SP} (hok : Ld P ops sp = true) {s t : St} {ss s1 : SS} (h : Y9 G call sp l s ss = some (t, s1)) (hg : Gd P W0 s1) :
 Gd P W0 ss ∧ Ex P W0 (.region id ops true) s fun e1 t1 => e1 = .normal ∧ t1 = t := by
 unfold Y9 at h
 split at h
 · rename_i trs M0 e s2 hseq
   split at h
   · rename_i M s3 hloud
     cases hlin : exB sp M with
     | false => rw [hlin] at h; cases h
     | true =>
     rw [hlin, cond_true] at h
     split at h
     · rename_i obs hq
       split at h
       · rename_i Hfin hfin
         simp only [iS, iP] at h
         obtain ⟨rfl, rfl⟩ := h
         obtain ⟨hlen, hcg⟩ := G2 hl
         have hN : sp.n = ops.size ∧ ∀ (j : Nat) (o : Oper), ops[j]? = some o → sp.kind.getD j 0 = D2 P o := by
          have hok' := hok
          simp only [Ld, bAt] at hok'
          obtain ⟨⟨⟨⟨k1, k2⟩, k3⟩, k4⟩, k5⟩ := hok'
          refine ⟨nBq k1, fun j o ho => ?_⟩
          have := List.all_eq_true.1 k5 j (List.mem_range.2 (Array.getElem?_eq_some_iff.1 ho).1)
          rw [ho] at this
          simp only [Wn, bAt] at this
          exact nBq this.1.2
         have hkop : ∀ (o : Oper) (a : AOper), Cd P ops o = some a → D2 P o = a.op.kind := by
          intro o a this
          unfold Cd at this
          split at this
          · split at this
            · rename_i op hop
              injection this with this; subst this
              unfold D2
              rw [hop]
            · cases this
          · cases this
         obtain ⟨q1, q2⟩ := To (P := P) (W0 := W0) hq hg fun k a ha h1 => by
          rw [Nat.zero_add] at h1
          have hkl : k < ops.size := by
           have := (List.getElem?_eq_some_iff.1 ha).1
           rw [hlen] at this
           simpa using this
          obtain ⟨a', b1, b2⟩ := hcg k ops[k] (by simp [hkl])
          rw [ha] at b1; injection b1 with b1; subst b1
          rw [← hkop _ _ b2, ← hN.2 k ops[k] (Array.getElem?_eq_getElem hkl), h1]
          exact Nat.le_refl 1
         have q1' := P4 hc hloud q1
         obtain ⟨g1, h1', h2, h3, h4'⟩ := V7 hc l 0 s.env 0 s.H [(0, s.H)] hseq (Dy _ _ _) q1'
         obtain ⟨_, hM, hL⟩ := P0 hc (fun j o t hj ho ht => by
          obtain ⟨t', Hk, H', a1, a2, a3, a4, a5, a6⟩ := h4' j o ho
          rw [ht] at a1; injection a1 with a1; subst a1
          rw [Nat.zero_add] at a5
          exact ⟨Hk, H', a3, a4, a5 hj⟩) hloud q1
         have h1 : Ee [(0, s.H)] M := fun σ H hh => hM _ _ (h1' _ _ hh)
         have h4 : ∀ k o, l[k]? = some o → ∃ t Hk H', trs[k]? = some t ∧ Hq o.dst s.n = true ∧ lkH t.σ M = some Hk ∧ (Ci P W0 G o ⟨t.env, Hk, s.n⟩ fun v' H'' => v' = t.v ∧ H'' = H') ∧
          (sp.eff (0 + k) = true → lkH (SP.nxt t.σ (0 + k)) M = some H') ∧ C4 trs e (k + 1) = I1 o.dst t.v t.env := by
          intro k o ho
          obtain ⟨t, Hk, H', a1, a2, a3, a4, a5, a6⟩ := h4' k o ho
          exact ⟨t, Hk, H', a1, a2, hM _ _ a3, a4, fun he => hM _ _ (a5 he), a6⟩
         refine ⟨g1, ?_⟩
         have hall : ∀ (j : Nat) (o : Oper), ops[j]? = some o → ∃ a t Hk H', l[j]? = some a ∧ Cd P ops o = some a ∧ trs[j]? = some t ∧ Hq o.dst s.n = true ∧ lkH t.σ M = some Hk ∧ (Ci P W0 G a ⟨t.env, Hk, s.n⟩ fun v' H'' => v' = t.v ∧ H'' = H') ∧ (sp.eff j = true → lkH (SP.nxt t.σ j) M = some H') ∧ C4 trs e (j + 1) = I1 o.dst t.v t.env := by
          intro j o ho
          obtain ⟨a, ha1, ha2⟩ := hcg j o (by simpa using ho)
          obtain ⟨t, Hk, H', a1, a2, a3, a4, a5, a6⟩ := h4 j a ha1
          have hdst := Iw ha2
          rw [hdst] at a2 a6
          exact ⟨a, t, Hk, H', ha1, ha2, a1, a2, a3, a4, fun he => by have := a5 (by rw [Nat.zero_add]; exact he); rw [Nat.zero_add] at this; exact this, a6⟩
         have hex : ∀ σ ∈ sp.states, ∃ H, lkH σ M = some H := fun σ hσ => Option.isSome_iff_exists.1 (List.all_eq_true.1 hlin σ hσ)
         obtain ⟨p, hp, heq⟩ := A0y (P := P) (W0 := W0) (G := G) (s := s) hok (l := trs) (M' := M) (ef := e) (Hfin := Hfin) (by rw [h2, hlen]; simp) h3 (h1 _ _ (Dy _ _ _))
          (fun j o ho => by
           obtain ⟨a, t, Hk, H', b1, b2, b3, b4, b5, b6, b7, b8⟩ := hall j o ho
           exact ⟨t, b3, b4, b8⟩)
          (fun j o t ho ht hk σ hσ hmay => by
           obtain ⟨a, t', Hk, H', b1, b2, b3, b4, b5, b6, b7, b8⟩ := hall j o ho
           rw [ht] at b3; injection b3 with b3; subst b3
           obtain ⟨H2, hH2⟩ := hex σ hσ
           refine ⟨H2, hH2, ?_⟩
           have hk0 : D2 P o = 0 ∨ D2 P o = 1 := by omega
           rcases hk0 with hk0 | hk1
           · exact Uu hk0 (Jz b2 b6)
           · rcases q2 j a t b1 ht (by rw [Nat.zero_add, hN.2 j o ho]; exact hk1) σ hσ (by rw [Nat.zero_add]; exact hmay) with rfl | ⟨H3, c1, c2⟩
             · rw [b5] at hH2; injection hH2 with hH2; subst hH2
               have hop : a.op.kind ≤ 1 := by
                have := b2
                unfold Cd at this
                split at this
                · split at this
                  · rename_i op hop
                    injection this with this; subst this
                    unfold D2 at hk
                    rw [hop] at hk
                    exact hk
                  · cases this
                · cases this
               have := X5 hop b6
               have h5 : H' = Hk := this
               subst h5
               exact Jz b2 b6
             · rw [c1] at hH2; injection hH2 with hH2; subst hH2
               exact Jz b2 c2)
          (fun σ hσ j hj => by
           have hjj := hj
           unfold SP.steps at hjj
           rw [List.mem_filter, List.mem_range] at hjj
           obtain ⟨hjn, hje⟩ := hjj
           simp only [bAt] at hje
           have hjs : j < ops.size := by rw [← hN.1]; exact hjn
           have ho : ops[j]? = some ops[j] := Array.getElem?_eq_getElem hjs
           obtain ⟨a, t, Hk, H', b1, b2, b3, b4, b5, b6, b7, b8⟩ := hall j _ ho
           obtain ⟨a', t', c1, c2, c3⟩ := hL σ hσ j hj
           rw [b1] at c1; injection c1 with c1; subst c1
           rw [b3] at c2; injection c2 with c2; subst c2
           rcases c3 with rfl | ⟨H2, H2', d1, d2, d3⟩
           · exact ⟨_, t, Hk, H', ho, b3, b5, Jz b2 b6, b7 hje.1.1⟩
           · exact ⟨_, t, H2, H2', ho, b3, d1, Jz b2 d2, d3⟩)
          hfin
         exact Ex.draw hm hG hp ⟨rfl, heq.symm⟩
       · cases h
     · cases h
   · cases h
 · cases h
theorem A21 (hm : P.follows .mixedOrders = true) (hG : GOK W0 G) {call : CallS} (hc : D1 P W0 call) {id : Nat} {ops : Array Oper} {s t : St} {ss s1 : SS} (h : A4t P G call ops s ss = some (t, s1)) (hg : Gd P W0 s1) :
 Gd P W0 ss ∧ Ex P W0 (.region id ops true) s fun e1 t1 => e1 = .normal ∧ t1 = t := by
 unfold A4t at h
 split at h
 · rename_i l hl
   cases hsp : Ld P ops (K8 P ops.toList) with
   | false => rw [hsp] at h; cases h
   | true =>
     rw [hsp, cond_true] at h
     exact A10 hm hG hc hl hsp h hg
 · cases h
def V9 (P : Program) (W0 : World) (c : Code) (body : St → SS → Option (Av × St × SS)) : Prop := ∀ s ss e s' s1, body s ss = some (e, s', s1) → Gd P W0 s1 → Gd P W0 ss ∧ Ex P W0 c s fun e1 t1 => e1 = e ∧ t1 = s'
theorem Qx {c : Code} {body : St → SS → Option (Av × St × SS)} (hb : V9 P W0 c body) : ∀ {n : Nat} {s : St} {ss : SS} {e : Av} {s' : St} {s1 : SS}, R8 body n s ss = some (e, s', s1) → Gd P W0 s1 → Gd P W0 ss
 | 0, _, _, _, _, _, h, _ => by cases h
 | n + 1, s, ss, e, s', s1, h, hg => by
   simp only [R8] at h
   split at h
   · rename_i t t1 h1
     exact (hb _ _ _ _ _ h1 (Qx hb h hg)).1
   · exact (hb _ _ _ _ _ h hg).1
theorem A26 {c : Code} {body : St → SS → Option (Av × St × SS)} (hb : V9 P W0 c body) {n : Nat} {s : St} {ss : SS} {e : Av} {s' : St} {s1 : SS} (h : R8 body n s ss = some (e, s', s1)) (hg : Gd P W0 s1) :
 Ex P W0 (.loop c) s fun e1 t1 => e1 = e ∧ t1 = s' := by
 refine Ex.loop (σ := Nat) (fun n s => ∃ ss, R8 body n s ss = some (e, s', s1)) id (i := n) ⟨ss, h⟩ ?_
 rintro n s ⟨ss, h⟩
 cases n with
 | zero => cases h
 | succ n =>
   simp only [R8] at h
   split at h
   · rename_i t t1 h1
     have hgt := Qx hb h hg
     refine ((hb _ _ _ _ _ h1 hgt).2).mono ?_
     rintro e2 s2 ⟨rfl, rfl⟩
     exact ⟨n, ⟨t1, h⟩, Nat.lt_succ_self n⟩
   · rename_i hne
     refine ((hb _ _ _ _ _ h hg).2).mono ?_
     rintro e2 s2 ⟨rfl, rfl⟩
     cases e2 with
     | normal => exact absurd h (hne s2 s1)
     | exit id => exact ⟨rfl, rfl⟩
     | ret => exact ⟨rfl, rfl⟩
theorem Jq (hm : P.follows .mixedOrders = true) (hG : GOK W0 G) {call : CallS} (hc : D1 P W0 call) : ∀ (n : Nat) {c : Code}, V9 P W0 c (Qr P G call n c)
 | 0, _, _, _, _, _, _, h, _ => by cases h
 | n + 1, c, s, ss, e, s', s1, h, hg => by
   have ih := fun {c : Code} => @Jq hm hG call hc n c
   simp only [Qr] at h
   cases c <;> simp only [Rz] at h <;> try (cases h; done)
   case skip => simp only [iS, iP] at h; obtain ⟨rfl, rfl, rfl⟩ := h; exact ⟨hg, Ex.skip ⟨rfl, rfl⟩⟩
   case exit id => simp only [iS, iP] at h; obtain ⟨rfl, rfl, rfl⟩ := h; exact ⟨hg, Ex.exit ⟨rfl, rfl⟩⟩
   case ret => simp only [iS, iP] at h; obtain ⟨rfl, rfl, rfl⟩ := h; exact ⟨hg, Ex.ret ⟨rfl, rfl⟩⟩
   case region id ops d =>
    split at h
    · rename_i t t1 h1
      simp only [iS, iP] at h
      obtain ⟨rfl, rfl, rfl⟩ := h
      cases d with
      | true => exact A21 hm hG hc h1 hg
      | false =>
        obtain ⟨k1, k2⟩ := Ql (G := G) hc h1 hg
        exact ⟨k1, Ex.region hG (k2 ⟨rfl, rfl⟩)⟩
    · cases h
   case seq x y =>
    split at h
    · rename_i t t1 h1
      obtain ⟨k1, k2⟩ := ih _ _ _ _ _ h hg
      obtain ⟨k3, k4⟩ := ih _ _ _ _ _ h1 k1
      refine ⟨k3, Ex.seq (k4.mono ?_)⟩
      rintro e2 s2 ⟨rfl, rfl⟩
      exact k2
    · rename_i hne
      obtain ⟨k3, k4⟩ := ih _ _ _ _ _ h hg
      refine ⟨k3, Ex.seq (k4.mono ?_)⟩
      rintro e2 s2 ⟨rfl, rfl⟩
      cases e2 with
      | normal => exact absurd h (hne s2 s1)
      | exit id => exact ⟨rfl, rfl⟩
      | ret => exact ⟨rfl, rfl⟩
   case cond c x y =>
    split at h
    · rename_i c' hc'
      split at h
      · rename_i b hb
        cases b with
        | true =>
          obtain ⟨k1, k2⟩ := ih _ _ _ _ _ h hg
          exact ⟨k1, Ex.cond hG hc' hb (fun _ => k2) (fun e => by cases e)⟩
        | false =>
          obtain ⟨k1, k2⟩ := ih _ _ _ _ _ h hg
          exact ⟨k1, Ex.cond hG hc' hb (fun e => by cases e) (fun _ => k2)⟩
      · cases h
    · cases h
   case block id c =>
    split at h
    · rename_i j t t1 h1
      have hgt : Gd P W0 t1 := by
       cases hj : Nat.beq j id with
       | true => rw [hj] at h; simp only [cond_true, iS, iP] at h; obtain ⟨_, _, rfl⟩ := h; exact hg
       | false => rw [hj] at h; simp only [cond_false, iS, iP] at h; obtain ⟨_, _, rfl⟩ := h; exact hg
      obtain ⟨k3, k4⟩ := ih _ _ _ _ _ h1 hgt
      refine ⟨k3, Ex.block (k4.mono ?_)⟩
      rintro e2 s2 ⟨rfl, rfl⟩
      simp only [Av.inBlock]
      cases hj : Nat.beq j id with
      | true => rw [hj] at h; simp only [cond_true, iS, iP] at h; exact ⟨h.1, h.2.1⟩
      | false => rw [hj] at h; simp only [cond_false, iS, iP] at h; exact ⟨h.1, h.2.1⟩
    · rename_i hne
      obtain ⟨k3, k4⟩ := ih _ _ _ _ _ h hg
      refine ⟨k3, Ex.block (k4.mono ?_)⟩
      rintro e2 s2 ⟨rfl, rfl⟩
      cases e2 with
      | normal => exact ⟨rfl, rfl⟩
      | exit id => exact absurd h (hne id s2 s1)
      | ret => exact ⟨rfl, rfl⟩
   case loop c => exact ⟨Qx (ih (c := c)) h hg, A26 (ih (c := c)) h hg⟩
theorem A13 {fn : Func} {kp : Bool} {H : Hz} {r : Option (Av × St × SS)} {v : AVal} {H' : Hz} {ss : SS} (h : finS P fn kp H r = some (v, H', ss)) : ∃ e s, r = some (e, s, ss) ∧ (match e with | .exit _ => False | _ => True) ∧ ∃ vs, Dz P s fn.results.toList = some vs ∧ (L0 H.length (Bq vs) s.H = (v, H') ∨ (Bq vs, s.H) = (v, H')) := by
 unfold finS at h
 split at h
 · rename_i e s ss'
   split at h
   · rename_i v' H'' hf
     simp only [iS, iP] at h
     obtain ⟨rfl, rfl, rfl⟩ := h
     refine ⟨e, s, rfl, ?_⟩
     unfold A4j at hf
     cases e with
     | exit id => cases hf
     | normal =>
       simp only at hf
       split at hf
       · rename_i vs hvs
         injection hf with hf
         refine ⟨trivial, vs, hvs, ?_⟩
         cases kp with
         | true => rw [cond_true] at hf; exact .inr hf
         | false => rw [cond_false] at hf; exact .inl hf
       · cases hf
     | ret =>
       simp only at hf
       split at hf
       · rename_i vs hvs
         injection hf with hf
         refine ⟨trivial, vs, hvs, ?_⟩
         cases kp with
         | true => rw [cond_true] at hf; exact .inr hf
         | false => rw [cond_false] at hf; exact .inl hf
       · cases hf
   · cases h
 · cases h
theorem Qm (hm : P.follows .mixedOrders = true) (hG : GOK W0 G) {idle : Nat → Option Nat} (hi : ∀ g m, idle g = some m → Zu P g m ∧ Ix P g) {tab : CallF} (ht : Eg P W0 tab) {keep opq : Nat → Bool} (fuel : Nat) : ∀ d, D1 P W0 (Md P G keep opq idle tab fuel d)
 | 0, _, _, _, _, _, _, _, h, _ => by cases h
 | d + 1, f, args, H, ss, v, H', s1, h, hg => by
   have ih := Qm hm hG hi ht (keep := keep) (opq := opq) fuel d
   simp only [Md] at h
   cases hq : opq f with
   | true =>
     rw [hq, cond_true] at h
     unfold ansS at h
     split at h
     · rename_i v0 r0 _
       cases hb : cond (C0 0 args) (blw 0 v0) false with
       | false => rw [hb] at h; cases h
       | true =>
         rw [hb] at h
         simp only [cond_true, iS, iP] at h
         obtain ⟨rfl, rfl, rfl⟩ := h
         obtain ⟨b1, b2⟩ := Jm hb
         exact ⟨fun o ho => hg o (by simp [ho]), A3.pure b1 b2 (hg (.call f args _) (by simp)) H⟩
     · rename_i v0 H0 r0 _
       simp only [iS, iP] at h
       obtain ⟨rfl, rfl, rfl⟩ := h
       exact ⟨fun o ho => hg o (by simp [ho]), hg (.callH f args H _ _) (by simp)⟩
     · cases h
   | false =>
     rw [hq, cond_false] at h
     split at h
     · rename_i r hr
       simp only [iS, iP] at h
       obtain ⟨rfl, rfl, rfl⟩ := h
       exact ⟨hg, ht _ _ _ _ _ hr⟩
     · split at h
       · rename_i fn hfn
         split at h
         · rename_i c hc
           cases hla : (Nat.ble args.length 4094 && !(fn.name == "runtime.NumGoroutine")) with
           | false => rw [hla] at h; cases h
           | true =>
             rw [hla, cond_true] at h
             simp only [bAt, Bool.not_eq_true', bFn] at hla
             have hlen := Nat.le_of_ble_eq_true hla.1
             obtain ⟨e, s, hrun, hpost⟩ := A13 h
             split at hrun
             · rename_i b hb
               have hsh : ∃ r0 r1 id ops rest, c = .seq r0 (.seq r1 (.seq (.region id ops false) rest)) ∧ Ww idle r0 r1 id rest ops.toList = some b := by
                unfold K4 at hb
                split at hb
                · exact ⟨_, _, _, _, _, rfl, hb⟩
                · cases hb
               obtain ⟨r0, r1, id, ops, rest, rfl, hb⟩ := hsh
               obtain ⟨k1, k2, k3, k4, k5, k6, k7, k8, k9⟩ := W9 hb
               obtain ⟨hidle, hgb⟩ := hi _ _ k9
               subst k1; subst k2; subst k3; subst k4
               have hops : ops = #[b.o0, b.o1] := by apply Array.ext'; simpa using k5
               unfold A3m at hrun
               split at hrun
               · rename_i s0 t0 he0
                 split at hrun
                 · rename_i s1' t1 he1
                   split at hrun
                   · rename_i s2 t2 he2
                     cases hfa : A0n s2.env b.t b.g b.m with
                     | false => rw [hfa] at hrun; cases hrun
                     | true =>
                       rw [hfa, cond_true] at hrun
                       obtain ⟨g3, x3⟩ := Jq hm hG ih fuel _ _ _ _ _ hrun hg
                       obtain ⟨g2, x2⟩ := Tu (G := G) ih he2 g3
                       obtain ⟨g1, x1⟩ := Jq hm hG ih fuel _ _ _ _ _ he1 g2
                       obtain ⟨g0, x0⟩ := Jq hm hG ih fuel _ _ _ _ _ he0 g1
                       refine ⟨g0, A3.of_defer hG hfn hc hla.2 hidle hgb hops k6 k7 k8 hlen (x0.mono ?_)⟩
                       rintro e1 s1'' ⟨rfl, rfl⟩
                       refine ⟨rfl, x1.mono ?_⟩
                       rintro e1 s1'' ⟨rfl, rfl⟩
                       refine ⟨rfl, ?_⟩
                       rw [hops]
                       refine x2 ⟨?_, x3.mono ?_⟩
                       · unfold A0n at hfa
                         split at hfa
                         · rename_i g' c' hget
                           simp only [bAt] at hfa
                           have h1 := nBq hfa.1
                           have h2 := nBq hfa.2
                           subst h1
                           exact ⟨c', hget, h2⟩
                         · cases hfa
                       · rintro e1 s1'' ⟨rfl, rfl⟩
                         exact hpost
                   · cases hrun
                 · cases hrun
               · cases hrun
             · obtain ⟨g0, x0⟩ := Jq hm hG ih fuel _ _ _ _ _ hrun hg
               refine ⟨g0, A3.of_ex hfn hc hla.2 hlen (x0.mono ?_)⟩
               rintro e1 s1'' ⟨rfl, rfl⟩
               exact hpost
         · cases h
       · cases h
end
def ss0 (k : Nat) (br : List (Bool × Nat)) (sk : Nat) (sd : List Nat) (ans : List (AVal × Option Hz)) (dr : List Nat) : SS := ⟨k, br, sk, sd, ans, dr, []⟩
theorem U9 {P : Program} {W0 : World} {call : CallS} (hc : D1 P W0 call) {f : Nat} {args : List AVal} {H : Hz} {ss s1 : SS} {v : AVal} {H' : Hz} (h : call f args H ss = some (v, H', s1)) (hg : ∀ o ∈ s1.obs, o.ok P W0) : A3 P W0 f args H v H' := (hc _ _ _ _ _ _ _ h hg).2
theorem gdN {P : Program} {W0 : World} : ∀ o ∈ ([] : List Ob), o.ok P W0 := fun o h => by cases h
theorem gdC {P : Program} {W0 : World} {o : Ob} {l : List Ob} (h : o.ok P W0) (hl : ∀ o ∈ l, o.ok P W0) : ∀ o' ∈ o :: l, o'.ok P W0 := fun o' h' => by
 rcases List.mem_cons.1 h' with rfl | h'
 · exact h
 · exact hl o' h'
end Go.Abs
namespace Go.Abs
open Go.Proofs Go.RowKit
set_option maxRecDepth 10000000
variable {W0 : World}
def Kt (f : Nat) : Bool := cond (Nat.beq f 81) true (Nat.beq f 82)
def Kv (f : Nat) : Bool := cond (Nat.beq f 78) true (Nat.beq f 79)
def Kw (f : Nat) : Bool := cond (Nat.beq f 43) true (cond (Nat.beq f 44) true (cond (Nat.beq f 45) true (Nat.beq f 46)))
def A01 (f : Nat) : Bool := cond (Nat.beq f 16) true (Nat.beq f 18)
def opqD (f : Nat) : Bool := cond (Nat.beq f 81) true (Nat.beq f 131)
def opqO (f : Nat) : Bool := Nat.beq f 131
def E6 (_ : Nat) : Bool := false
def K6 (f : Nat) : Bool := cond (Nat.beq f 172) true (cond (Nat.beq f 58) true (Nat.beq f 157))
theorem scr_ok (hk : Kn W0) (opq : Nat → Bool) : D1 Tryz.prog W0 (Md Tryz.prog GL Zs opq Kx libTab 1000 60) := by
 refine Qm (by kernel_rfl) hk.g (fun g m h => ?_) (Nu hk.w) 1000 60
 unfold Kx at h
 cases hg : Nat.beq g 128 with
 | false => rw [hg] at h; cases h
 | true =>
   rw [hg, cond_true] at h
   injection h with h
   subst h
   have := nBq hg
   subst this
   exact ⟨Vk, Na (by kernel_rfl)⟩
def B5 (op : BinOp) (a b : AVal) : Bool := match Un op none a b with
 | some (.bool b, _) => b
 | _ => false
theorem obE {P : Program} {b c : Bool} (h : b = c) : Ob.ok P W0 (.eq b c) := h
theorem obL {P : Program} {a b : Int} (h : a ≤ b) : Ob.ok P W0 (.le a b) := h
theorem obV {P : Program} {a : AVal} : Ob.ok P W0 (.veq a a) := rfl
theorem obC {P : Program} {f : Nat} {args : List AVal} {H H' : Hz} {v : AVal} (h : A3 P W0 f args H v H') : Ob.ok P W0 (.callH f args H v H') := h
theorem obH {P : Program} {a : Hz} : Ob.ok P W0 (.hp a a) := rfl
def eqL : List Ob → List (Option AVal × Hz)
 | [] => []
 | .veq a _ :: r => (some a, []) :: eqL r
 | .hp a _ :: r => (none, a) :: eqL r
 | _ :: r => eqL r
def eqR : List Ob → List (Option AVal × Hz)
 | [] => []
 | .veq _ a :: r => (some a, []) :: eqR r
 | .hp _ a :: r => (none, a) :: eqR r
 | _ :: r => eqR r
def oLe : List Ob → Bool
 | [] => true
 | .le a b :: r => cond (decide (a ≤ b)) (oLe r) false
 | _ :: r => oLe r
def Ti : List Ob → List Ob
 | [] => []
 | .veq _ _ :: r => Ti r
 | .hp _ _ :: r => Ti r
 | .le _ _ :: r => Ti r
 | o :: r => o :: Ti r
theorem Ll {P : Program} : ∀ {l : List Ob}, eqL l = eqR l → oLe l = true → (∀ o ∈ Ti l, o.ok P W0) → ∀ o ∈ l, o.ok P W0
 | [], _, _, _, o, h => by cases h
 | .veq a b :: r, h1, h2, h3, o, h => by
   injection h1 with h1 h4
   injection h1 with h1
   injection h1 with h1
   rcases List.mem_cons.1 h with rfl | h
   · exact h1
   · exact Ll h4 h2 h3 o h
 | .hp a b :: r, h1, h2, h3, o, h => by
   injection h1 with h1 h4
   injection h1 with _ h1
   rcases List.mem_cons.1 h with rfl | h
   · exact h1
   · exact Ll h4 h2 h3 o h
 | .le a b :: r, h1, h2, h3, o, h => by
   unfold oLe at h2
   cases hd : decide (a ≤ b) with
   | false => rw [hd] at h2; cases h2
   | true =>
     rw [hd] at h2
     rcases List.mem_cons.1 h with rfl | h
     · exact (of_decide_eq_true hd : a ≤ b)
     · exact Ll (l := r) h1 h2 h3 o h
 | .eq a b :: r, h1, h2, h3, o, h => by
   rcases List.mem_cons.1 h with rfl | h
   · exact h3 _ (List.mem_cons_self ..)
   · exact Ll (l := r) h1 h2 (fun o ho => h3 o (List.mem_cons_of_mem _ ho)) o h
 | .call f x v :: r, h1, h2, h3, o, h => by
   rcases List.mem_cons.1 h with rfl | h
   · exact h3 _ (List.mem_cons_self ..)
   · exact Ll (l := r) h1 h2 (fun o ho => h3 o (List.mem_cons_of_mem _ ho)) o h
 | .callH f x H v H' :: r, h1, h2, h3, o, h => by
   rcases List.mem_cons.1 h with rfl | h
   · exact h3 _ (List.mem_cons_self ..)
   · exact Ll (l := r) h1 h2 (fun o ho => h3 o (List.mem_cons_of_mem _ ho)) o h
def finL : Option (AVal × Hz × SS) → Option (AVal × Hz × List Ob × Bool × List (Option AVal × Hz))
 | some (v, H, s) => some (v, H, Ti s.obs, oLe s.obs, eqL s.obs)
 | none => none
def finR : Option (AVal × Hz × SS) → List (Option AVal × Hz)
 | some (_, _, s) => eqR s.obs
 | none => []
noncomputable def cS (opq : Nat → Bool) (f : Nat) (x : List AVal) (H : Hz) (s : SS) : Option (AVal × Hz × SS) := Md Tryz.prog GL Zs opq Kx libTab 1000 60 f x H s
theorem Aa (hk : Kn W0) (opq : Nat → Bool) {f : Nat} {x : List AVal} {H H' : Hz} {v : AVal} {obs : List Ob} (s : SS) (h : finL (cS opq f x H s) = some (v, H', obs, true, finR (cS opq f x H s))) (hg : ∀ o ∈ obs, o.ok Tryz.prog W0) : cP W0 f x H v H' := by
 cases hr : cS opq f x H s with
 | none => rw [hr] at h; cases h
 | some y =>
   obtain ⟨v1, H1, s1⟩ := y
   rw [hr] at h
   simp only [finL, finR, iS, iP] at h
   obtain ⟨rfl, rfl, rfl, h1, h2⟩ := h
   exact U9 (scr_ok hk opq) hr (Ll h2 h1 hg)
abbrev oC (W0 : World) (f : Nat) (x : List AVal) (v : AVal) : Prop := Ob.ok Tryz.prog W0 (.call f x v)
theorem gdE (b c : Bool) {l : List Ob} (hl : ∀ o ∈ l, o.ok Tryz.prog W0) (h : b = c := by first | (simp [B5, Un, U0, Vv, Pq, IntKind.wrap_i32]; done) | (simp [B5, Un, U0, Vv, Pq, IntKind.wrap_i32]; omega)) : ∀ o' ∈ Ob.eq b c :: l, o'.ok Tryz.prog W0 := gdC (obE h) hl
end Go.Abs
