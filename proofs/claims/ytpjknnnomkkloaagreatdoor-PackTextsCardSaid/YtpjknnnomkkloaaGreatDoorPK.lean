/- A part of the proof that tabula/tabulalaw25.PackTexts returns true for every input, each argument reading as it did (its card: the last text). No conditions of its own. -/
import Derived.Test.YtpjknnnomkkloaaGreatDoorPJ
import Derived.Shelf.Strings.SlTrimAscii
namespace Go.Abs
open Go.Proofs Go.RowKit
set_option maxRecDepth 100000
variable {W0 : World} {G : List (Nat × AVal)}
def Dg9 (l : List Int) : Prop := ∀ n, 0 ≤ l.getD n 0 ∧ l.getD n 0 ≤ 9
def Hi0 (l : List Int) : Prop := ∀ n, 88 ≤ n → l.getD n 0 = 0
theorem O8 {l : List Int} {i n : Nat} {v : Int} : (l.set i v).getD n 0 = if n = i ∧ i < l.length then v else l.getD n 0 := by
 rw [List.getD_eq_getElem?_getD, List.getD_eq_getElem?_getD, List.getElem?_set]
 by_cases h : i = n
 · subst h
   by_cases h2 : i < l.length
   · simp [h2]
   · simp [h2]
 · rw [if_neg h, if_neg (fun e => h e.1.symm)]
theorem Ww {l : List Int} {k n : Nat} : (clr l k).getD n 0 = if n < k then 0 else l.getD n 0 := by
 unfold clr
 rw [List.getD_eq_getElem?_getD, List.getD_eq_getElem?_getD]
 by_cases h : n < k
 · rw [if_pos h, List.getElem?_append_left (by simpa using h)]; simp [h]
 · rw [if_neg h, List.getElem?_append_right (by simpa using h), List.getElem?_drop, List.length_replicate]
   congr 2; omega
theorem Dg9.set {l : List Int} (h : Dg9 l) {i : Nat} {v : Int} (h1 : 0 ≤ v) (h2 : v ≤ 9) : Dg9 (l.set i v) := fun n => by
 rw [O8]; split
 · exact ⟨h1, h2⟩
 · exact h n
theorem Hi0.set {l : List Int} (h : Hi0 l) {i : Nat} {v : Int} (hi : i < 88 ∨ v = 0) : Hi0 (l.set i v) := fun n hn => by
 rw [O8]; split
 · rename_i e; rcases hi with hi | hi
   · omega
   · exact hi
 · exact h n hn
theorem Dg9.clr {l : List Int} (h : Dg9 l) (k : Nat) : Dg9 (clr l k) := fun n => by rw [Ww]; split; exact ⟨Int.le_refl _, by decide⟩; exact h n
theorem Hi0.clr {l : List Int} (h : Hi0 l) (k : Nat) : Hi0 (clr l k) := fun n hn => by rw [Ww]; split; rfl; exact h n hn
theorem w8 {x : Int} (h1 : -128 ≤ x) (h2 : x ≤ 127) : IntKind.i8.wrap x = x := by simp [IntKind.wrap, IntKind.bits, IntKind.signed]; omega
theorem Dg9.w {l : List Int} (_ : Dg9 l) : True := trivial
structure Wr where
 c : List Int
theorem cutQ (hg : hGr W0 G) {H : Hz} {id T : Nat} {b m : Bool} {l : List Int} (ho : H[id]? = some (.cells T (nb b l m) false)) (hl : l.length = 96) (hd : Dg9 l) (hz : Hi0 l) {k : Nat} (hk : k ≤ 87) (up : Bool) : Gy Tryz.prog W0 180 [.ptr id 0, .int .i64 ((k : Nat) : Int), .bool up] H (fun v X => ∃ l', v = .tup [] ∧ X = H.set id (.cells T (nb b (l') false) false) ∧ l'.length = 96 ∧ Dg9 l') := by
 have hid := gLt ho
 have ho1 : (H.set id (.cells T (nb b (clr l k) m) false))[id]? = some (.cells T (nb b (clr l k) m) false) := gT hid
 have hcl0 : (clr l k).length = 96 := by rw [Y5 (by omega)]; exact hl
 refine Gy.of_fnM KG180 (by simp) rfl ?_
 refine sO (mV rfl (mV (v := .ptr id 0) (Gt rfl ho) (mV (v := .ptr id 1) (F5 rfl ho) (mV rfl (Ag hg gN (v := .hsl 1 id 1 k (some 96)) (cutN rfl rfl ho hl) rfl (by first | exact trivial | decide | (simp only [Af, and_true]; omega)) (mVal0 hg gN (clearN rfl ho (by omega) rfl) trivial (Eu (ExM.seq (ExM.ops hg (Ag hg gN rfl rfl trivial (Ag hg gN (v := .ptr id 0) (Gt rfl ho1) rfl trivial (Ag hg gN (v := .ptr id 97) (F5 rfl ho1) rfl trivial (A6 hg gN (storeNm rfl rfl ho1 hcl0 (by rw [List.set_set])) (Eu (ExM.seq (ExM.ops hg (Ag hg gN rfl rfl trivial (Ag hg gN rfl rfl trivial (Eu (ExM.block ?_))))))))))))))))))))
 refine ExM.loopJ (σ := Nat × List Int) (τ := Wr) (fun ⟨i, c⟩ => ⟨.al [(0, .ptr id 0), (2, .bool up), (6, .int .i64 ((i : Nat) : Int))], H.set id (.cells T (nb b (c) false) false), 41⟩) (fun ⟨i, c⟩ => i ≤ 88 ∧ c.length = 96 ∧ Dg9 c ∧ Hi0 c) (fun ⟨i, c⟩ => 88 - i) ⟨k, clr l k⟩ 0 (fun ⟨c⟩ => ⟨.al [], H.set id (.cells T (nb b (c) false) false), 41⟩) (fun ⟨c⟩ => c.length = 96 ∧ Dg9 c) (Ac rfl rfl (sbC rfl (sbC rfl (sbC rfl (sbN))))) ⟨by omega, hcl0, hd.clr k, hz.clr k⟩ ?_ ?_
 · rintro ⟨i, c⟩ ⟨hi, hcl, hcd, hcz⟩
   have hi : i ≤ 88 := hi
   have hcl : c.length = 96 := hcl
   have hcd : Dg9 c := hcd
   have hcz : Hi0 c := hcz
   have hoc : ∀ {x : List Int}, (H.set id (.cells T (nb b x false) false))[id]? = some (.cells T (nb b x false) false) := gT hid
   have hgi := hcd i
   cases up with
   | false =>
     refine sq (sO (x1 rfl (cF rfl ?_)))
     exact ExM.exit (.inl ⟨rfl, ⟨c⟩, ⟨hcl, hcd⟩, Ac rfl rfl (sbN)⟩)
   | true =>
     refine sq (sO (x1 rfl (cT rfl (kM (sq (bM (sq (sq ?_))))))))
     refine ExM.drawL hg ?_
     refine B1 (v := .ptr id 0) rfl rfl trivial (qV rfl (B1 (v := .ptr id 0) (Gt rfl hoc) rfl trivial (B1 (v := .ptr id 1) (F5 rfl hoc) rfl trivial (B1 (v := .ptr id (1 + i)) (Q3 rfl rfl hoc) rfl (by first | exact trivial | decide | (simp only [Af, and_true]; omega)) (B1 (v := .int .i8 (c.getD i 0)) (Qi rfl hoc (by omega)) rfl trivial (qKv (v := .int .i8 (c.getD i 0 + 1)) rfl rfl trivial (congrArg (AVal.int .i8) (w8 (by omega) (by omega))) (B1 (v := .ptr id 0) (Gt rfl hoc) rfl trivial (B1 (v := .ptr id 1) (F5 rfl hoc) rfl trivial (B1 (v := .ptr id (1 + i)) (Q3 rfl rfl hoc) rfl (by first | exact trivial | decide | (simp only [Af, and_true]; omega)) (G8 (?_)))))))))))
     refine zSkip (Rz (H' := H.set id (.cells T (nb b ((c.set i (c.getD i 0 + 1))) false) false)) rfl rfl hoc (by omega) (by rw [List.set_set])) ?_
     refine sO (m2 rfl rfl (mV (v := .ptr id 0) (Gt rfl hoc) (mV (v := .ptr id 1) (F5 rfl hoc) (Ag hg gN (v := .ptr id (1 + i)) (Q3 rfl rfl hoc) rfl (by first | exact trivial | decide | (simp only [Af, and_true]; omega)) (mV (v := .int .i8 ((c.set i (c.getD i 0 + 1)).getD i 0)) (Qi rfl hoc (by rw [List.length_set]; omega)) ?_)))))
     refine mB hg gN rfl rfl trivial (fun h1 => ?_) (fun h1 => ?_)
     · have hv : c.getD i 0 + 1 < 10 := by have := of_decide_eq_true h1; rw [O8, if_pos ⟨rfl, by omega⟩] at this; exact this
       refine mn (cT rfl ?_)
       refine ExM.ret ?_
       refine .inr ?_
       exact ⟨.tup [], _, ⟨(c.set i (c.getD i 0 + 1)), rfl, rfl, by rw [List.length_set]; exact hcl, hcd.set (by omega) (by omega)⟩, A4 (vs := []) trivial rfl rfl rfl⟩
     · have hv : ¬ c.getD i 0 + 1 < 10 := by have := of_decide_eq_false h1; rw [O8, if_pos ⟨rfl, by omega⟩] at this; exact this
       have hi8 : i < 88 := by
        rcases Nat.lt_or_ge i 88 with h | h
        · exact h
        · have := hcz i h; omega
       refine mn (cF rfl (kM (oM (m2 rfl rfl (mV (v := .ptr id 0) (Gt rfl hoc) (mV (v := .ptr id 1) (F5 rfl hoc) (Ag hg gN (v := .ptr id (1 + i)) (Q3 rfl rfl hoc) rfl (by first | exact trivial | decide | (simp only [Af, and_true]; omega)) (A6 hg gN (Rz rfl rfl hoc (by rw [List.length_set]; omega) (by rw [List.set_set])) (mn (oM (mV rfl (mI ((i + 1 : Nat) : Int) rfl (x1 rfl ?_)))))))))))))
       exact ⟨⟨i + 1, (c.set i (c.getD i 0 + 1)).set i 0⟩, ⟨(by omega : i + 1 ≤ 88), (by rw [List.length_set, List.length_set]; exact hcl), (fun n => by rw [List.set_set]; exact hcd.set (Int.le_refl _) (by decide) n), (fun n hn => by rw [List.set_set]; exact hcz.set (.inl hi8) n hn)⟩, (by show 88 - (i + 1) < 88 - i; omega), Ac rfl rfl (sbC rfl (sbC rfl (sbC rfl (sbN))))⟩
 · rintro ⟨c⟩ s' hJ hs
   exact ⟨.tup [], _, ⟨c, rfl, hs.H.symm, hJ.1, hJ.2⟩, (A4 (rs := []) (vs := []) trivial rfl rfl rfl : Lp [] H.length (.tup []) _ .normal s')⟩
theorem A3a {r M d : Nat} (h : (M + 1) * 10 ^ (r + 1) ≤ 1000000000000000) (hd : d ≤ 9) : (10 * M + d + 1) * 10 ^ r ≤ 1000000000000000 := by
 have : (10 * M + d + 1) * 10 ^ r ≤ ((M + 1) * 10) * 10 ^ r := Nat.mul_le_mul_right _ (by omega)
 rw [Nat.mul_assoc, ← Nat.pow_succ'] at this
 exact Nat.le_trans this h
theorem A3f {r M : Nat} (h : (M + 1) * 10 ^ r ≤ 1000000000000000) : M < 1000000000000000 := by
 have h1 : 1 ≤ 10 ^ r := Nat.one_le_pow _ _ (by decide)
 have : (M + 1) * 1 ≤ (M + 1) * 10 ^ r := Nat.mul_le_mul_left _ h1
 omega
theorem tdivN (M : Nat) : ((M : Nat) : Int).tdiv 10 = ((M / 10 : Nat) : Int) := by
 rw [Int.tdiv_eq_ediv_of_nonneg (by omega)]; omega
theorem Uu (M : Nat) : ((M : Nat) : Int).tmod 10 = ((M % 10 : Nat) : Int) := by
 rw [show (10 : Int) = ((10 : Nat) : Int) from rfl, Zf (by omega), Int.toNat_natCast]
structure ME where
 M : Nat
 E : Int
theorem Y8 (hg : hGr W0 G) {o0 o1 : A2} {b m : Bool} {l : List Int} (hl : l.length = 96) (hd : Dg9 l) {k : Nat} {t : Int} (hk : 39 ≤ k ∧ k ≤ 57) (_ : -1 ≤ t) (ht1 : t ≤ 95) (ht : t < ((k : Nat) : Int) + 15) (hb : B2 3 [o0, o1, A2.cells 212 (nb b l m) false] = true) : Gy Tryz.prog W0 182 [.ptr 2 0, .int .i64 t, .int .i64 ((k : Nat) : Int)] [o0, o1, A2.cells 212 (nb b l m) false] (fun v X => X = [o0, o1, A2.cells 212 (nb b l m) false] ∧ ∃ M E : Int, v = .agg [.int .i64 M, .int .i64 E] ∧ -1000000000000000 < M ∧ M < 1000000000000000 ∧ -9 ≤ E ∧ E ≤ 9) := by
 refine Gy.of_fnM KG182 (by simp) rfl ?_
 refine sO (x1 rfl (sO (m2 rfl rfl (A6 hg gN rfl (mn (sq (sO (x2 rfl rfl (bM ?_)))))))))
 refine ExM.loopJ (σ := ME) (τ := Nat) (fun ⟨M, i⟩ => ⟨.al [(0, .ptr 2 0), (2, .int .i64 ((k : Nat) : Int)), (6, .ptr 3 0), (7, .ptr 4 0), (8, .int .i64 i)], [o0, o1, A2.cells 212 (nb b l m) false, A2.cells 24 z2L false, A2.cells 24 [.int .i64 (((M : Nat) : Int)), .int .i64 (0)] false], 61⟩) (fun ⟨M, i⟩ => i ≤ 95 ∧ i < ((k : Nat) : Int) + 15 ∧ (M + 1) * 10 ^ (i - ((k : Nat) : Int) + 1).toNat ≤ 1000000000000000) (fun ⟨M, i⟩ => (i - ((k : Nat) : Int) + 1).toNat) ⟨0, t⟩ 0 (fun M => ⟨.al [(0, .ptr 2 0), (2, .int .i64 ((k : Nat) : Int)), (6, .ptr 3 0), (7, .ptr 4 0)], [o0, o1, A2.cells 212 (nb b l m) false, A2.cells 24 z2L false, A2.cells 24 [.int .i64 (((M : Nat) : Int)), .int .i64 (0)] false], 61⟩) (fun M => M < 1000000000000000) (Ac rfl rfl (sb4 rfl rfl rfl rfl (((( sbC rfl (sbN))))))) ⟨ht1, ht, by show (0 + 1) * 10 ^ (t - ((k : Nat) : Int) + 1).toNat ≤ 10 ^ 15; rw [Nat.zero_add, Nat.one_mul]; exact Nat.pow_le_pow_right (by decide) (by omega)⟩ ?_ ?_
 · rintro ⟨M, i⟩ ⟨hi, hi2, hM⟩
   have hi : i ≤ 95 := hi
   have hi2 : i < ((k : Nat) : Int) + 15 := hi2
   have hM : (M + 1) * 10 ^ (i - ((k : Nat) : Int) + 1).toNat ≤ 1000000000000000 := hM
   by_cases hik : i < ((k : Nat) : Int)
   · refine sq (sO (m2 rfl rfl (mF rfl (mn (cF rfl ?_)))))
     exact ExM.exit (.inl ⟨rfl, M, (A3f hM), Ac rfl rfl (sb4 rfl rfl rfl rfl (((( sbN)))))⟩)
   obtain ⟨r, hr⟩ : ∃ r : Nat, i = ((k + r : Nat) : Int) := ⟨(i - ((k : Nat) : Int)).toNat, by omega⟩
   rw [show (i - ((k : Nat) : Int) + 1).toNat = r + 1 from by omega] at hM
   have hMl := A3f hM
   have hdk := hd (k + r)
   obtain ⟨d, hd0⟩ : ∃ d : Nat, l.getD (k + r) 0 = (d : Nat) := ⟨(l.getD (k + r) 0).toNat, by omega⟩
   refine sq (sO (m2 rfl rfl (mT rfl (mn (cT rfl (kM (sq (bM ?_))))))))
   refine ExM.drawL hg ?_
   refine qV rfl (B1 (v := .int .i64 ((M : Nat) : Int)) rfl rfl trivial (qKv (v := .int .i64 ((10 * M : Nat) : Int)) rfl rfl trivial (B8 (by omega) (by omega) (by omega)) (qV rfl (qKv (v := .int .i64 ((k + r : Nat) : Int)) rfl rfl trivial (iE (by omega)) (B1 (v := .ptr 2 0) (Gt rfl rfl) rfl trivial (B1 (v := .ptr 2 1) (F5 rfl rfl) rfl trivial (B1 (v := .ptr 2 (1 + (k + r))) (Q3 rfl rfl rfl) rfl (by simp only [Af, and_true]; omega) (B1 (v := .int .i8 (l.getD (k + r) 0)) (Qi rfl rfl (by omega)) rfl trivial (qKv (v := .int .i64 ((d : Nat) : Int)) rfl rfl trivial (by rw [hd0]; exact B8 (by omega) (by omega) rfl) (qKv (v := .int .i64 ((10 * M + d : Nat) : Int)) rfl rfl (by first | exact trivial | (simp only [Af, and_true, lCo, lNi, lAp]; omega)) (B8 (by omega) (by omega) (by omega)) (qV rfl ?_)))))))))))
   refine G8 (?_)
   refine zSkip rfl ?_
   refine oM (mV rfl (mI (i - 1) rfl (x1 rfl ?_)))
   exact ⟨⟨10 * M + d, i - 1⟩, ⟨by show i - 1 ≤ 95; omega, by show i - 1 < ((k : Nat) : Int) + 15; omega, by show (10 * M + d + 1) * 10 ^ (i - 1 - ((k : Nat) : Int) + 1).toNat ≤ 1000000000000000; rw [show (i - 1 - ((k : Nat) : Int) + 1).toNat = r from by omega]; exact A3a hM (by omega)⟩, (by show (i - 1 - ((k : Nat) : Int) + 1).toNat < (i - ((k : Nat) : Int) + 1).toNat; omega), Ac rfl rfl (sb4 rfl rfl rfl rfl (((( sbC rfl (sbN))))))⟩
 · rintro M s' hJ hs
   have hM : M < 1000000000000000 := hJ
   refine ExM.sub hs ?_
   refine sq (sO (mV rfl (mV (v := .int .i64 ((M : Nat) : Int)) rfl ?_)))
   refine mB hg gN rfl rfl trivial (fun h1 => ?_) (fun h1 => ?_)
   · refine mn (cT rfl (sO (mV rfl (A6 hg gN rfl (mn ?_)))))
     exact ExM.ret ⟨_, _, ⟨rfl, 0, 0, rfl, by omega, by omega, by omega, by omega⟩, A0 trivial rfl hb 100 rfl rfl⟩
   · have hM0 : 0 < M := by have := beq_eq_false_iff_ne.1 h1; omega
     refine mn (cF rfl (kM (sq (sO (mV rfl (mI (((k : Nat) : Int) - 48) rfl (mV rfl (A6 hg gN rfl (mn (bM ?_))))))))))
     refine ExM.loopJ (σ := ME) (τ := ME) (fun ⟨M, E⟩ => ⟨.al [(0, .ptr 2 0), (6, .ptr 3 0), (7, .ptr 4 0)], [o0, o1, A2.cells 212 (nb b l m) false, A2.cells 24 z2L false, A2.cells 24 [.int .i64 (((M : Nat) : Int)), .int .i64 (E)] false], 61⟩) (fun ⟨M, E⟩ => 0 < M ∧ M < 1000000000000000 ∧ -9 ≤ E ∧ E ≤ 9) (fun ⟨M, E⟩ => (9 - E).toNat) ⟨M, ((k : Nat) : Int) - 48⟩ 2 (fun ⟨M, E⟩ => ⟨.al [(0, .ptr 2 0), (6, .ptr 3 0), (7, .ptr 4 0)], [o0, o1, A2.cells 212 (nb b l m) false, A2.cells 24 z2L false, A2.cells 24 [.int .i64 (((M : Nat) : Int)), .int .i64 (E)] false], 61⟩) (fun ⟨M, E⟩ => M < 1000000000000000 ∧ -9 ≤ E ∧ E ≤ 9) (Ac rfl rfl (sbC rfl (sbC rfl (sbC rfl (sbN))))) ⟨hM0, hM, by show -9 ≤ ((k : Nat) : Int) - 48; omega, by show ((k : Nat) : Int) - 48 ≤ 9; omega⟩ ?_ ?_
     · rintro ⟨M, E⟩ ⟨hM0, hM, hE0, hE⟩
       have hM0 : 0 < M := hM0
       have hM : M < 1000000000000000 := hM
       have hE0 : -9 ≤ E := hE0
       have hE : E ≤ 9 := hE
       by_cases hm : M % 10 = 0
       · by_cases he : E < 9
         · refine sq (sO (m2 rfl rfl (mKv hg gN (v := .int .i64 ((M % 10 : Nat) : Int)) rfl rfl (by simp only [Af, and_true]; decide) (congrArg (AVal.int .i64) (Uu M)) (mBk hg gN (c := true) rfl rfl (by rw [hm]; rfl) (m3 rfl rfl rfl (mT rfl (x1 rfl (cT rfl (kM (sq (bM (oM (m2 rfl rfl (mKv hg gN (v := .int .i64 ((M / 10 : Nat) : Int)) rfl rfl (by simp only [Af, and_true]; decide) (by show AVal.int .i64 (IntKind.i64.wrap (((M : Nat) : Int).tdiv 10)) = _; rw [tdivN]; exact B8 (by omega) (by omega) rfl) (mV rfl (A6 hg gN rfl (mn (oM (m2 rfl rfl (mI (E + 1) rfl (mV rfl (A6 hg gN rfl (mn ?_)))))))))))))))))))))))
           exact ⟨⟨M / 10, E + 1⟩, ⟨by show 0 < M / 10; omega, by show M / 10 < 1000000000000000; omega, by show -9 ≤ E + 1; omega, by show E + 1 ≤ 9; omega⟩, (by show (9 - (E + 1)).toNat < (9 - E).toNat; omega), Ac rfl rfl (sbC rfl (sbC rfl (sbC rfl (sbN))))⟩
         · refine sq (sO (m2 rfl rfl (mKv hg gN (v := .int .i64 ((M % 10 : Nat) : Int)) rfl rfl (by simp only [Af, and_true]; decide) (congrArg (AVal.int .i64) (Uu M)) (mBk hg gN (c := true) rfl rfl (by rw [hm]; rfl) (m3 rfl rfl rfl (mF rfl (x1 rfl (cF rfl ?_))))))))
           exact ExM.exit (.inl ⟨rfl, ⟨M, E⟩, ⟨hM, hE0, hE⟩, Ac rfl rfl (sbC rfl (sbC rfl (sbC rfl (sbN))))⟩)
       · refine sq (sO (m2 rfl rfl (mKv hg gN (v := .int .i64 ((M % 10 : Nat) : Int)) rfl rfl (by simp only [Af, and_true]; decide) (congrArg (AVal.int .i64) (Uu M)) (mF rfl (mV rfl (mG (mG (mG (x1 rfl (cF rfl ?_))))))))))
         exact ExM.exit (.inl ⟨rfl, ⟨M, E⟩, ⟨hM, hE0, hE⟩, Ac rfl rfl (sbC rfl (sbC rfl (sbC rfl (sbN))))⟩)
     · rintro ⟨M, E⟩ s' hJ hs
       have hM : M < 1000000000000000 := hJ.1
       have hE0 : -9 ≤ E := hJ.2.1
       have hE : E ≤ 9 := hJ.2.2
       refine ExM.sub hs ?_
       refine sq (sO (mV rfl (mV (v := .ptr 2 0) (Gt rfl rfl) (mV (v := .ptr 2 0) (F5 rfl rfl) (mV (v := .bool b) (loadNb rfl rfl) (mn ?_))))))
       refine ExM.cond hg rfl (fun h2 => ?_) (fun h2 => ?_)
       · refine oM (m2 rfl rfl (mI (-((M : Nat) : Int)) rfl (mV rfl (A6 hg gN rfl (mn (sO (mV rfl (A6 hg gN rfl (mn ?_)))))))))
         exact ExM.ret ⟨_, _, ⟨rfl, _, E, rfl, by omega, by omega, by omega, by omega⟩, A0 trivial rfl hb 100 rfl rfl⟩
       · refine kM (sO (mV rfl (A6 hg gN rfl (mn ?_))))
         exact ExM.ret ⟨_, _, ⟨rfl, _, E, rfl, by omega, by omega, by omega, by omega⟩, A0 trivial rfl hb 100 rfl rfl⟩
theorem wu64 {x y : Int} (h1 : 0 ≤ x) (h2 : x < 18446744073709551616) (h : x = y) : AVal.int .u64 (IntKind.u64.wrap x) = .int .u64 y := by
 rw [IntKind.wrap_u64, ← h]; congr 1; omega
theorem tdivU (M : Nat) : ((M : Nat) : Int).tdiv 10 = ((M / 10 : Nat) : Int) := tdivN M
def Db : Nat → List Int → Nat → Nat → List Int
 | 0, l, _, _ => l
 | f + 1, l, k, n => if n = 0 then l else Db f (l.set k ((n % 10 : Nat) : Int)) (k + 1) (n / 10)
theorem D8 : ∀ (f : Nat) (l : List Int) (k n : Nat), (Db f l k n).length = l.length
 | 0, _, _, _ => rfl
 | f + 1, l, k, n => by
   unfold Db
   split
   · rfl
   · rw [D8 f, List.length_set]
def KF237 : AFn := ⟨(sQ [wV 6 (.move (.val (.int .u64 0))), wV 7 (.move (.val (.int .u64 0)))] (.seq (sQ [wM 19 2, wV 20 (.bin .eql none 19 (.val (.int .u64 0)))] (.cond 20 (.ops [wV 21 (.load 1 false (.glob 5)), wN (.pan 21)]) .skip)) (.seq (sQ [wM 22 2, wM 23 0, wV 24 (.bin .leq none 22 23)] (.cond 24 (.ops [wV 25 (.load 1 false (.glob 6)), wN (.pan 25)]) .skip)) (.seq (sQ [wM 26 0, wV 27 (.bin .eql none 26 (.val (.int .u64 0)))] (.cond 27 (.seq (.draw [wM 28 1, wM 29 2, wV 30 (.bin .quo none 28 29), wM 31 1, wM 32 2, wV 33 (.bin .rem none 31 32), wM 6 30, wM 7 33]) .ret) .skip)) (sQ [wM 34 2, wV 35 (kF 287 [34]), wV 36 (.conv (.int .u64) 35), wM 8 36] (sQ [wM 37 2, wM 38 8, wV 39 (.bin .shl none 37 38), wM 2 39] (sQ [wM 40 2, wV 41 (.bin .shr none 40 (.val (.int .u64 32))), wM 9 41] (sQ [wM 42 2, wV 43 (.bin .and none 42 (.val (.int .u64 4294967295))), wM 10 43] (sQ [wM 44 0, wM 45 8, wV 46 (.bin .shl none 44 45), wM 47 1, wM 48 8, wV 49 (.bin .sub none (.val (.int .u64 64)) 48), wV 50 (.bin .shr none 47 49), wV 51 (.bin .or none 46 50), wM 11 51] (sQ [wM 52 1, wM 53 8, wV 54 (.bin .shl none 52 53), wM 12 54] (sQ [wM 55 12, wV 56 (.bin .shr none 55 (.val (.int .u64 32))), wM 13 56] (sQ [wM 57 12, wV 58 (.bin .and none 57 (.val (.int .u64 4294967295))), wM 14 58] (sQ [wM 59 11, wM 60 9, wV 61 (.bin .quo none 59 60), wM 15 61] (sQ [wM 62 11, wM 63 15, wM 64 9, wV 65 (.bin .mul none 63 64), wV 66 (.bin .sub none 62 65), wM 16 66] (.seq (.block 0 (.loop (.seq (sQ [wM 67 15, wV 68 (.bin .geq none 67 (.val (.int .u64 4294967296))), wM 69 68, wF 70 69 (.move 15), wF 71 69 (.move 10), wF 72 69 (.bin .mul none 70 71), wF 73 69 (.move 16), wF 74 69 (.bin .mul none (.val (.int .u64 4294967296)) 73), wF 75 69 (.move 13), wF 76 69 (.bin .add none 74 75), wF 77 69 (.bin .gtr none 72 76), wV 78 (.pick 69 (.val (.bool true)) 77)] (.cond 78 .skip (.exit 0))) (.block 1 (sQ [wM 79 15, wV 80 (.bin .sub none 79 (.val (.int .u64 1))), wM 15 80] (sQ [wM 81 16, wM 82 9, wV 83 (.bin .add none 81 82), wM 16 83] (sQ [wM 84 16, wV 85 (.bin .geq none 84 (.val (.int .u64 4294967296)))] (.cond 85 (.exit 0) .skip)))))))) (sQ [wM 86 11, wV 87 (.bin .mul none 86 (.val (.int .u64 4294967296))), wM 88 13, wV 89 (.bin .add none 87 88), wM 90 15, wM 91 2, wV 92 (.bin .mul none 90 91), wV 93 (.bin .sub none 89 92), wM 17 93] (sQ [wM 94 17, wM 95 9, wV 96 (.bin .quo none 94 95), wM 18 96] (sQ [wM 97 17, wM 98 18, wM 99 9, wV 100 (.bin .mul none 98 99), wV 101 (.bin .sub none 97 100), wM 16 101] (.seq (.block 2 (.loop (.seq (sQ [wM 102 18, wV 103 (.bin .geq none 102 (.val (.int .u64 4294967296))), wM 104 103, wF 105 104 (.move 18), wF 106 104 (.move 10), wF 107 104 (.bin .mul none 105 106), wF 108 104 (.move 16), wF 109 104 (.bin .mul none (.val (.int .u64 4294967296)) 108), wF 110 104 (.move 14), wF 111 104 (.bin .add none 109 110), wF 112 104 (.bin .gtr none 107 111), wV 113 (.pick 104 (.val (.bool true)) 112)] (.cond 113 .skip (.exit 2))) (.block 3 (sQ [wM 114 18, wV 115 (.bin .sub none 114 (.val (.int .u64 1))), wM 18 115] (sQ [wM 116 16, wM 117 9, wV 118 (.bin .add none 116 117), wM 16 118] (sQ [wM 119 16, wV 120 (.bin .geq none 119 (.val (.int .u64 4294967296)))] (.cond 120 (.exit 2) .skip)))))))) (sQ [wM 121 15, wV 122 (.bin .mul none 121 (.val (.int .u64 4294967296))), wM 123 18, wV 124 (.bin .add none 122 123), wM 125 17, wV 126 (.bin .mul none 125 (.val (.int .u64 4294967296))), wM 127 14, wV 128 (.bin .add none 126 127), wM 129 18, wM 130 2, wV 131 (.bin .mul none 129 130), wV 132 (.bin .sub none 128 131), wM 133 8, wV 134 (.bin .shr none 132 133), wM 6 124, wM 7 134] .ret)))))))))))))))))))), [6, 7], 135⟩
theorem KG237 : Ab Tryz.prog 237 = some KF237 := by kernel_rfl
def KF184 : AFn := ⟨(sQ [wV 2 (.move (.val (.int .u64 0)))] (.seq (sQ [wM 3 0, wV 4 (.bin .lss none 3 (vI 0))] (.cond 4 (sQ [wM 5 0, wV 6 (.conv (.int .u64) 5), wV 7 (.un .neg 6), wM 2 7] .ret) .skip)) (sQ [wM 8 0, wV 9 (.conv (.int .u64) 8), wM 2 9] .ret))), [2], 10⟩
theorem KG184 : Ab Tryz.prog 184 = some KF184 := by kernel_rfl
def KF183 : AFn := ⟨(sQ [wV 8 (.alloc 212 z0L)] (sQ [wM 12 0, wV 13 (.build z0L [(0, 1, 12)]), wV 9 (.alloc 212 z0L), wN (.store 98 9 13)] (.seq (sQ [wM 14 3, wV 15 (.bin .add none (vI 48) 14), wM 10 15] (.block 0 (.loop (.seq (sQ [wM 16 1, wV 17 (.bin .neq none 16 (.val (.int .u64 0))), wM 18 17, wF 19 18 (.move 2), wF 20 18 (.bin .neq none 19 (.val (.int .u64 0))), wV 21 (.pick 18 (.val (.bool true)) 20)] (.cond 21 .skip (.exit 0))) (.seq (.block 1 (sQ [wV 11 (.move (.val (.int .u64 0)))] (sQ [wM 24 1, wV 25 (.bin .quo none 24 (.val (.int .u64 10))), wM 26 1, wV 27 (.bin .rem none 26 (.val (.int .u64 10))), wM 1 25, wM 11 27] (sQ [wM 29 11, wM 30 2, wV 31 (kF 237 [29, 30, (.val (.int .u64 10))]), wM 28 31, wV 32 (.extract 28 0), wV 33 (.extract 28 1), wM 2 32, wM 11 33] (.ops [wM 34 10, wM 35 11, wV 36 (.conv (.int .i8) 35), wV 37 (.fieldAddr 1 9), wV 38 (.idxArr 96 1 37 34), wN (.store 1 38 36)]))))) (.ops [wM 22 10, wV 23 (.bin .add none 22 (vI 1)), wM 10 23])))))) (sQ [wV 39 (.load 98 true 9), wN (.store 98 8 39)] .ret)))), [.cell 8 98 true], 40⟩
theorem KG183 : Ab Tryz.prog 183 = some KF183 := by kernel_rfl
def KF144 : AFn := ⟨(sQ [wV 1 (.box 24 0), wV 2 (.alloc 212 z0L)] (.seq (.drawC [wV 3 (.fieldAddr 0 1), wV 4 (.load 1 false 3), wV 5 (.bin .lss none 4 (vI 0)), wV 6 (.fieldAddr 0 1), wV 7 (.load 1 false 6), wV 8 (kF 184 [7]), wV 9 (.fieldAddr 1 1), wV 10 (.load 1 false 9), wV 11 (kF 183 [5, (.val (.int .u64 0)), 8, 10]), wN (.store 98 2 11)] ⟨10, [1, 1, 0, 1, 1, 3, 1, 1, 3, 2], [0, 1, 3, 0, 8, 24, 0, 64, 255, 511], [0, 32, 288, 800]⟩) .ret)), [.cell 2 98 true], 12⟩
theorem KG144 : Ab Tryz.prog 144 = some KF144 := by kernel_rfl
def KF143 : AFn := ⟨(sQ [wV 1 (.box 212 0), wV 2 (.alloc 24 z2L), wV 3 (.move (vI 0))] (.seq (sQ [wV 4 (.move (.val (.int .i64 (-9))))] (.block 0 (.loop (.seq (sQ [wM 9 4, wV 10 (.bin .leq none 9 (vI 9))] (.cond 10 .skip (.exit 0))) (.seq (.block 1 (sQ [wM 13 4, wV 14 (.bin .add none (vI 48) 13), wM 5 14] (sQ [wV 15 (.load 98 true 1), wV 6 (.alloc 212 z0L), wN (.store 98 6 15)] (sQ [wM 16 5, wV 17 (kF 179 [6, 16]), wM 7 17] (sQ [wM 18 5, wM 19 7, wV 20 (.bin .eql none 19 (vI 1)), wM 21 20, wF 22 21 (.move 7), wF 23 21 (.bin .eql none 22 (vI 0)), wF 24 21 (.move 23), wT 25 24 (.move 5), wT 26 24 (.fieldAddr 1 6), wT 27 24 (.idxArr 96 1 26 25), wT 28 24 (.load 1 false 27), wT 29 24 (.bin .rem none 28 (.val (.int .i8 2))), wT 30 24 (.bin .eql none 29 (.val (.int .i8 1))), wF 31 21 (.pick 24 30 (.val (.bool false))), wV 32 (.pick 21 (.val (.bool true)) 31), wV 33 (kF 180 [6, 18, 32])] (sQ [wV 34 (kF 181 [6]), wM 8 34] (sQ [wM 35 8, wM 36 5, wV 37 (.bin .add none 36 (vI 15)), wV 38 (.bin .lss none 35 37)] (.cond 38 (sQ [wM 39 8, wM 40 5, wV 41 (kF 182 [6, 39, 40]), wN (.store 2 2 41), wV 3 (.move (vI 0))] .ret) .skip)))))))) (.ops [wM 11 4, wV 12 (.bin .add none 11 (vI 1)), wM 4 12])))))) (sQ [wV 42 (.build z2L []), wN (.store 2 2 42), wV 3 (.move (vI 10))] .ret))), [.cell 2 2 true, 3], 43⟩
theorem KG143 : Ab Tryz.prog 143 = some KF143 := by kernel_rfl
theorem div64P (hg : hGr W0 G) {n : Nat} (hn : n < 18446744073709551616) : cP W0 237 [.int .u64 0, .int .u64 ((n : Nat) : Int), .int .u64 10] [] (.tup [.int .u64 ((n / 10 : Nat) : Int), .int .u64 ((n % 10 : Nat) : Int)]) [] := by
 refine oF KG237 ?_
 refine sO (x2 rfl rfl (sq (sO (mV rfl (mBk hg gN (c := false) rfl rfl rfl (mn (cF rfl (kM (sq (sO (m2 rfl rfl (mBk hg gN (c := false) rfl rfl rfl (mn (cF rfl (kM (sq (sO (mV rfl (mBk hg gN (c := true) rfl rfl rfl (mn (cT rfl (sq ?_))))))))))))))))))))))
 refine ExM.draw hg ?_
 refine qV rfl (qV rfl (qKv (v := .int .u64 ((n / 10 : Nat) : Int)) rfl rfl (by simp only [Af, and_true]; decide) (by show AVal.int .u64 (IntKind.u64.wrap (((n : Nat) : Int).tdiv 10)) = _; rw [tdivU]; exact wu64 (by omega) (by omega) rfl) (qV rfl (qV rfl (qKv (v := .int .u64 ((n % 10 : Nat) : Int)) rfl rfl (by simp only [Af, and_true]; decide) (congrArg (AVal.int .u64) (Uu n)) (qV rfl (qV rfl (G8 (?_)))))))))
 exact ExM.ret (pS)
theorem absP (hg : hGr W0 G) {x : Int} (h1 : -1000000000000000 < x) (h2 : x < 1000000000000000) : cP W0 184 [.int .i64 x] [] (.int .u64 ((x.natAbs : Nat) : Int)) [] := by
 refine oF KG184 ?_
 refine sO (x1 rfl (sq (sO (mV rfl ?_))))
 refine mB hg gN rfl rfl trivial (fun h1 => ?_) (fun h1 => ?_)
 · have hx : x < 0 := of_decide_eq_true h1
   refine mn (cT rfl (sO (mV rfl (mK (v := .int .u64 (x + 18446744073709551616)) rfl (by rw [IntKind.wrap_u64]; exact iE (by omega)) (mK (v := .int .u64 ((x.natAbs : Nat) : Int)) rfl (by show AVal.int .u64 (IntKind.u64.wrap (0 - (x + 18446744073709551616))) = _; rw [IntKind.wrap_u64]; exact iE (by omega)) (x1 rfl ?_))))))
   exact ExM.ret (pS)
 · have hx : ¬ x < 0 := of_decide_eq_false h1
   refine mn (cF rfl (kM (sO (mV rfl (mK (v := .int .u64 ((x.natAbs : Nat) : Int)) rfl (wu64 (by omega) (by omega) (by omega)) (x1 rfl ?_))))))
   exact ExM.ret (pS)
structure FD where
 f : Nat
 l : List Int
 k : Nat
 n : Nat
theorem nbW {b m b' m' : Bool} {l l' : List Int} (h : l.length = 96 ∧ l'.length = 96 := by simp) : (Nat.beq (AVal.agg (nb b l m)).cells.length 98 && Nat.ble (0 + 98) (nb b' l' m').length && (AVal.agg (nb b l m)).cells.all AVal.one) = true := by
 have h1 : (AVal.agg (nb b l m)).cells.length = 98 := by show (nb b l m).length = 98; rw [Dt, h.1]
 have h2 : (nb b' l' m').length = 98 := by rw [Dt, h.2]
 rw [h1, h2, show (AVal.agg (nb b l m)).cells = nb b l m from rfl, nb_one]
 rfl
theorem Uk {b m b' m' : Bool} {l l' : List Int} (h : l.length = 96) (h' : l'.length = 96) : spl (nb b' l' m') 0 (AVal.agg (nb b l m)).cells = nb b l m := by
 show (nb b' l' m').take 0 ++ (nb b l m ++ (nb b' l' m').drop (0 + (nb b l m).length)) = _
 rw [List.drop_of_length_le (by rw [Dt, Dt, h, h']; omega)]
 simp
theorem rvN {b m : Bool} {l : List Int} {e : List (Nat × AVal)} {H : Hz} {n a i : Nat} {T : TypeId} (hl : l.length = 96) (he : lk a e = some (.ptr i 0)) (ho : H[i]? = some (.cells T (nb b l m) false)) : Is ⟨.al e, H, n⟩ [.cell a 98 true] = some [.agg (nb b l m)] := by
 have h : (Env.al e).get a = some (.ptr i 0) := he
 have h1 : ((nb b l m).drop 0).take 98 = nb b l m := by
  rw [List.drop_zero, List.take_of_length_le (by rw [Dt, hl]; exact Nat.le_refl _)]
 simp only [Is, A3j, h, Hy, ho, Bg, h1, Dt, hl]
 rfl
theorem ofP (hg : hGr W0 G) {b : Bool} {e : Int} {n0 k0 : Nat} (he : -9 ≤ e ∧ e ≤ 9) (hk0 : ((k0 : Nat) : Int) = 48 + e) (hn : n0 < 1000000000000000) : cP W0 183 [.bool b, .int .u64 0, .int .u64 ((n0 : Nat) : Int), .int .i64 e] [] (.agg (nb b (Db 16 (List.replicate 96 (0 : Int)) k0 n0) false)) [] := by
 have hz := Or (H := [A2.cells 212 (nb b (Db 16 (List.replicate 96 (0 : Int)) k0 n0) false) false, A2.cells 212 (nb b (Db 16 (List.replicate 96 (0 : Int)) k0 n0) false) false]) (n := 0) (.agg (nb b (Db 16 (List.replicate 96 (0 : Int)) k0 n0) false)) (Eb _ _ _)
 replace hz : ∃ m, frz _ 0 m _ = some _ := ⟨hz.choose, hz.choose_spec _ (Nat.le_refl _)⟩
 refine oF KG183 ?_
 refine sO (mV (v := .ptr 0 0) rfl (mn (sO (mV rfl (mV (v := .agg (nb b (List.replicate 96 (0 : Int)) false)) rfl (mV (v := .ptr 1 0) rfl (A6 hg gN (It (H' := [A2.cells 212 (nb false (List.replicate 96 (0 : Int)) false) false, A2.cells 212 (nb b (List.replicate 96 (0 : Int)) false) false]) rfl rfl rfl rfl rfl) (mn (sq (sO (mV rfl (mKs (v := .int .i64 ((k0 : Nat) : Int)) rfl (by rw [hk0]; exact B8 (by omega) (by omega) (by omega)) (x1 rfl (bM ?_))))))))))))))
 refine ExM.loopJ (σ := FD) (τ := Unit) (fun ⟨f, l, k, n⟩ => ⟨.al [(1, .int .u64 0), (2, .int .u64 ((n : Nat) : Int)), (8, .ptr 0 0), (9, .ptr 1 0), (10, .int .i64 ((k : Nat) : Int))], [A2.cells 212 (nb false (List.replicate 96 (0 : Int)) false) false, A2.cells 212 (nb b l false) false], 40⟩) (fun ⟨f, l, k, n⟩ => n < 10 ^ f ∧ k + f ≤ 96 ∧ l.length = 96 ∧ n < 18446744073709551616 ∧ Db f l k n = Db 16 (List.replicate 96 (0 : Int)) k0 n0) (fun ⟨f, l, k, n⟩ => f) ⟨16, (List.replicate 96 (0 : Int)), k0, n0⟩ 0 (fun _ => ⟨.al [(8, .ptr 0 0), (9, .ptr 1 0)], [A2.cells 212 (nb false (List.replicate 96 (0 : Int)) false) false, A2.cells 212 (nb b (Db 16 (List.replicate 96 (0 : Int)) k0 n0) false) false], 40⟩) (fun _ => True) (Ac rfl rfl (sb4 rfl rfl rfl rfl (((( sbC rfl (sbN))))))) ⟨by show n0 < 10 ^ 16; omega, by show k0 + 16 ≤ 96; omega, by simp, by show n0 < 18446744073709551616; omega, rfl⟩ ?_ ?_
 · rintro ⟨f, l, k, n⟩ ⟨hf, hk, hl, hn, he⟩
   have hf : n < 10 ^ f := hf
   have hk : k + f ≤ 96 := hk
   have hl : l.length = 96 := hl
   have hn : n < 18446744073709551616 := hn
   have he : Db f l k n = Db 16 (List.replicate 96 (0 : Int)) k0 n0 := he
   by_cases h0 : n = 0
   · subst h0
     have he2 : l = Db 16 (List.replicate 96 (0 : Int)) k0 n0 := by rw [← he]; cases f <;> simp [Db]
     refine sq (sO (mV rfl (mBk hg gN (c := false) rfl rfl rfl (m2 rfl rfl (mBk hg (gS rfl) (c := false) rfl rfl rfl (x1 rfl (cF rfl ?_)))))))
     exact ExM.exit (.inl ⟨rfl, (), trivial, Ac rfl (by rw [← he2]) (sbC rfl (sbC rfl (sbN)))⟩)
   · cases f with
     | zero => simp at hf; omega
     | succ f =>
       have hm : n % 10 ≤ 9 := by omega
       have hdv : n / 10 < 10 ^ f := by rw [Nat.pow_succ] at hf; omega
       refine sq (sO (mV rfl (mBk hg gN (c := false) rfl rfl rfl (m2 rfl rfl (mBk hg (gS rfl) (c := true) rfl rfl (by simp [h0]) (x1 rfl (cT rfl (kM (sq (bM (sO (x1 rfl (sO (mV rfl (mKv hg gN (v := .int .u64 0) rfl rfl (by first | exact trivial | decide | (simp only [Af, and_true]; omega)) rfl (mV rfl (mKv hg gN (v := .int .u64 0) rfl rfl (by first | exact trivial | decide | (simp only [Af, and_true]; omega)) rfl (x2 rfl rfl (sO (m2 rfl rfl (mC rfl (A1.pure rfl rfl (div64P hg hn) _) (mV rfl (x4 rfl rfl rfl rfl (oM (m2 rfl rfl (mK (v := .int .i8 ((n % 10 : Nat) : Int)) rfl (congrArg (AVal.int .i8) (w8 (by omega) (by omega))) (mV (v := .ptr 1 1) (F5 rfl rfl) (Ag hg gN (v := .ptr 1 (1 + k)) (Q3 rfl rfl rfl) rfl (by simp only [Af, and_true]; omega) (A6 hg gN (Rz rfl rfl rfl (by omega) rfl) (mn (oM (mV rfl (mI ((k + 1 : Nat) : Int) rfl (x1 rfl ?_))))))))))))))))))))))))))))))))))
       exact ⟨⟨f, l.set k ((n % 10 : Nat) : Int), k + 1, n / 10⟩, ⟨hdv, (by omega : k + 1 + f ≤ 96), (by rw [List.length_set]; exact hl), (by omega : n / 10 < 18446744073709551616), (by rw [← he]; conv => rhs; unfold Db; rw [if_neg h0])⟩, (Nat.lt_succ_self f), Ac rfl rfl (sb4 rfl rfl rfl rfl (((( sbC rfl (sbN))))))⟩
 · rintro _ s' hJ hs
   refine ExM.sub hs ?_
   refine sO (mV (v := .agg (nb b (Db 16 (List.replicate 96 (0 : Int)) k0 n0) false)) (Y4 rfl rfl (by rw [D8]; simp)) (A6 hg gN (It (H' := [A2.cells 212 (nb b (Db 16 (List.replicate 96 (0 : Int)) k0 n0) false) false, A2.cells 212 (nb b (Db 16 (List.replicate 96 (0 : Int)) k0 n0) false) false]) rfl rfl rfl (nbW ⟨by rw [D8]; simp, by simp⟩) (by rw [Uk (by rw [D8]; simp) (by simp)]; rfl)) (mn ?_)))
   exact ExM.ret (A0 trivial (rvN (by rw [D8]; simp) rfl rfl) rfl hz.choose hz.choose_spec rfl)
theorem layP (hg : hGr W0 G) {M E : Int} {k0 : Nat} (hM1 : -1000000000000000 < M) (hM2 : M < 1000000000000000) (hE1 : -9 ≤ E) (hE2 : E ≤ 9) (hk0 : ((k0 : Nat) : Int) = 48 + E) : cP W0 144 [.agg [.int .i64 M, .int .i64 E]] [] (.agg (nb (decide (M < 0)) (Db 16 (List.replicate 96 (0 : Int)) k0 M.natAbs) false)) [] := by
 have hz := Or (H := [A2.cells 24 [.int .i64 M, .int .i64 E] false, A2.cells 212 (nb (decide (M < 0)) (Db 16 (List.replicate 96 (0 : Int)) k0 M.natAbs) false) false]) (n := 0) (.agg (nb (decide (M < 0)) (Db 16 (List.replicate 96 (0 : Int)) k0 M.natAbs) false)) (Eb _ _ _)
 replace hz : ∃ m, frz _ 0 m _ = some _ := ⟨hz.choose, hz.choose_spec _ (Nat.le_refl _)⟩
 refine oF KG144 ?_
 refine sO (mV (v := .ptr 0 0) rfl (mV (v := .ptr 1 0) rfl (mn (sq ?_))))
 refine ExM.drawC hg ?_
 refine Dl rfl rfl trivial rfl (Dl rfl rfl trivial rfl (Dl rfl rfl trivial rfl (Dl rfl rfl trivial rfl (Dl rfl rfl trivial rfl (L0 rfl rfl (A1.pure rfl rfl (absP hg hM1 hM2) _) rfl (pdC (cY (by show SP.mayB _ 32 1 = true; rfl) (evY rfl trivial)) (pdC (cY (by show SP.mayB _ 32 0 = true; rfl) (evY rfl trivial)) pdN)) (?_))))))
 refine J0 rfl rfl trivial rfl (ptC (cNp (by show (Nat.beq 32 32 || !(SP.mayB _ 32 6)) = true; rfl)) (ptC (cYp (by show (Nat.beq 0 32 || !(SP.mayB _ 0 6)) = false; rfl) (evY rfl trivial)) ptN)) (J0 rfl rfl trivial rfl (ptC (cNp (by show (Nat.beq 32 32 || !(SP.mayB _ 32 7)) = true; rfl)) (ptC (cYp (by show (Nat.beq 0 32 || !(SP.mayB _ 0 7)) = false; rfl) (evY rfl trivial)) ptN)) (L0 rfl rfl (A1.pure rfl (show blw 0 (AVal.agg (nb (decide (M < 0)) (Db 16 (List.replicate 96 (0 : Int)) k0 M.natAbs) false)) = true from Eb _ _ _) (ofP hg ⟨hE1, hE2⟩ hk0 (by omega)) _) rfl (pdC (cN (by show SP.mayB _ 288 1 = false; rfl)) (pdC (cN (by show SP.mayB _ 288 0 = false; rfl)) pdN)) (Ls (It (H' := [A2.cells 24 [.int .i64 M, .int .i64 E] false, A2.cells 212 (nb (decide (M < 0)) (Db 16 (List.replicate 96 (0 : Int)) k0 M.natAbs) false) false]) rfl rfl rfl (nbW (b' := false) (l' := (List.replicate 96 (0 : Int))) (m' := false) ⟨by rw [D8]; simp, by simp⟩) (by show [A2.cells 24 [.int .i64 M, .int .i64 E] false, A2.cells 212 (spl (nb false (List.replicate 96 (0 : Int)) false) 0 (AVal.agg (nb (decide (M < 0)) (Db 16 (List.replicate 96 (0 : Int)) k0 M.natAbs) false)).cells) false] = _; rw [Uk (by rw [D8]; simp) (by simp)])) rfl (pdC (cN (by show SP.mayB _ 800 1 = false; rfl)) (pdC (cN (by show SP.mayB _ 800 0 = false; rfl)) pdN)) (A1c rfl (?_)))))
 exact ExM.ret (A0 trivial (rvN (by rw [D8]; simp) rfl rfl) rfl hz.choose hz.choose_spec rfl)
theorem A3o (hg : hGr W0 G) {b m : Bool} {l : List Int} (hl : l.length = 96) (hd : Dg9 l) (hz : Hi0 l) : Gy Tryz.prog W0 143 [.agg (nb b l m)] [] (fun v X => X = [] ∧ ∃ M E e : Int, v = .tup [.agg [.int .i64 M, .int .i64 E], .int .i64 e] ∧ -1000000000000000 < M ∧ M < 1000000000000000 ∧ -9 ≤ E ∧ E ≤ 9) := by
 refine Gy.of_fnM KG143 (by simp) rfl ?_
 refine sO (mV (v := .ptr 0 0) rfl (mV (v := .ptr 1 0) rfl (x1 rfl (sq (sO (x1 rfl (bM ?_)))))))
 refine ExM.loopJ (σ := Nat) (τ := Unit) (fun n => ⟨.al [(1, .ptr 0 0), (2, .ptr 1 0), (4, .int .i64 (((n : Nat) : Int) - 9))], [A2.cells 212 (nb b l m) false, A2.cells 24 z2L false], 43⟩) (fun n => n ≤ 19) (fun n => 19 - n) 0 0 (fun _ => ⟨.al [(2, .ptr 1 0)], [A2.cells 212 (nb b l m) false, A2.cells 24 z2L false], 43⟩) (fun _ => True) (Ac rfl rfl (sbC rfl (sbC rfl (sbC rfl (sbN))))) (Nat.zero_le _) ?_ ?_
 · rintro n hn
   have hn : n ≤ 19 := hn
   by_cases hlt : n < 19
   · refine sq (sO (mV rfl (mT rfl (mn (cT rfl (kM (sq (bM (sO (mV rfl (mI ((38 + n + 1 : Nat) : Int) rfl (x1 rfl (sO (mV (v := .agg (nb b l m)) (Y4 rfl rfl hl) (mV (v := .ptr 2 0) rfl (A6 hg gN (It (H' := [A2.cells 212 (nb b l m) false, A2.cells 24 z2L false, A2.cells 212 (nb b l m) false]) rfl rfl rfl (nbW (b' := false) (l' := (List.replicate 96 (0 : Int))) (m' := false) ⟨hl, by simp⟩) (by show [A2.cells 212 (nb b l m) false, A2.cells 24 z2L false, A2.cells 212 (spl (nb false (List.replicate 96 (0 : Int)) false) 0 (AVal.agg (nb b l m)).cells) false] = _; rw [Uk hl (by simp)])) (mn (sO (mV rfl ?_)))))))))))))))))))
     refine Iq hg gN rfl rfl (restQ (id := 2) (H := [A2.cells 212 (nb b l m) false, A2.cells 24 z2L false, A2.cells 212 (nb b l m) false]) (j := 38 + n) hg rfl hl (by omega)) ?_
     rintro _ _ ⟨rfl, r, rfl⟩
     refine x1 rfl (sO (m2 rfl rfl ?_))
     refine mB hg gN rfl rfl trivial (fun h1 => ?_) (fun h1 => ?_)
     · refine mV rfl (mG (mG (mG (mGT hg rfl rfl (mGT hg rfl rfl (mGT hg rfl rfl (mGT hg rfl rfl (mGT hg rfl rfl (mGT hg rfl rfl (mG (mV rfl ?_)))))))))))
       refine Iq hg gN rfl rfl (cutQ (id := 2) (H := [A2.cells 212 (nb b l m) false, A2.cells 24 z2L false, A2.cells 212 (nb b l m) false]) (k := 38 + n + 1) hg rfl hl hd hz (by omega) _) ?_
       rintro _ _ ⟨l', rfl, rfl, hl', hd'⟩
       refine mn (sO ?_)
       refine Iq hg gN rfl rfl (topQ (id := 2) (H := [A2.cells 212 (nb b l m) false, A2.cells 24 z2L false, A2.cells 212 (nb b l' false) false]) hg rfl hl') ?_
       rintro _ _ ⟨rfl, t, rfl, ht0, ht1⟩
       refine x1 rfl (sO (m2 rfl rfl (mKs (v := .int .i64 (((38 + n + 1 : Nat) : Int) + 15)) rfl (B8 (by omega) (by omega) rfl) ?_)))
       refine mB hg gN rfl rfl trivial (fun h2 => ?_) (fun h2 => ?_)
       · have hT := h2
         refine mn (cT rfl (sO (m2 rfl rfl ?_)))
         refine Iq hg gN rfl rfl (Y8 (k := 38 + n + 1) hg hl' hd' ⟨by omega, by omega⟩ ht0 ht1 (of_decide_eq_true hT) (by show cond (A8 3 (nb b l m)) (cond true (cond (A8 3 (nb b l' false)) true false) false) false = true; rw [Eb, Eb]; rfl)) ?_
         rintro _ _ ⟨rfl, M, E, rfl, q1, q2, q3, q4⟩
         refine A6 hg gN rfl (x1 rfl ?_)
         refine ExM.ret ?_
         refine .inr ?_
         exact ⟨_, _, ⟨rfl, M, E, _, rfl, q1, q2, q3, q4⟩, A0 trivial rfl rfl 100 rfl rfl⟩
       · refine mn (cF rfl (kM (oM ?_)))
         refine mFz (s1 := ⟨.al [(1, .ptr 0 0), (2, .ptr 1 0), (4, .int .i64 (((n : Nat) : Int) - 9))], [A2.cells 212 (nb b l m) false, A2.cells 24 z2L false], 43⟩) (Ae 2 rfl (Nat.zero_le _) rfl (by show cond (A8 2 (nb b l m)) true false = true; rw [Eb]; rfl) (fzC rfl (fvP (by decide)) (fzC rfl (fvP (by decide)) (fI fzN)))) ?_
         refine mV rfl (mI (((n + 1 : Nat) : Int) - 9) rfl (x1 rfl ?_))
         exact ⟨(n + 1), (by omega : n + 1 ≤ 19), (by show 19 - (n + 1) < 19 - n; omega), Ac rfl rfl (sbC rfl (sbC rfl (sbC rfl (sbN))))⟩
     · refine m2 rfl rfl ?_
       refine mB hg (gS rfl) rfl rfl trivial (fun h3 => ?_) (fun h3 => ?_)
       · refine m2 rfl rfl (mV (v := .ptr 2 1) (F5 rfl rfl) (Ag hg (gS rfl) (v := .ptr 2 (1 + (38 + n + 1))) (Q3 rfl rfl rfl) rfl (by simp only [Af, and_true]; omega) (mV (v := .int .i8 (l.getD (38 + n + 1) 0)) (Qi rfl rfl (by omega)) (Ag hg (gS rfl) rfl rfl (by simp only [Af, and_true]; decide) (m3 rfl rfl rfl ?_)))))
         refine Iq hg gN rfl rfl (cutQ (id := 2) (H := [A2.cells 212 (nb b l m) false, A2.cells 24 z2L false, A2.cells 212 (nb b l m) false]) (k := 38 + n + 1) hg rfl hl hd hz (by omega) _) ?_
         rintro _ _ ⟨l', rfl, rfl, hl', hd'⟩
         refine mn (sO ?_)
         refine Iq hg gN rfl rfl (topQ (id := 2) (H := [A2.cells 212 (nb b l m) false, A2.cells 24 z2L false, A2.cells 212 (nb b l' false) false]) hg rfl hl') ?_
         rintro _ _ ⟨rfl, t, rfl, ht0, ht1⟩
         refine x1 rfl (sO (m2 rfl rfl (mKs (v := .int .i64 (((38 + n + 1 : Nat) : Int) + 15)) rfl (B8 (by omega) (by omega) rfl) ?_)))
         refine mB hg gN rfl rfl trivial (fun h4 => ?_) (fun h4 => ?_)
         · have hT := h4
           refine mn (cT rfl (sO (m2 rfl rfl ?_)))
           refine Iq hg gN rfl rfl (Y8 (k := 38 + n + 1) hg hl' hd' ⟨by omega, by omega⟩ ht0 ht1 (of_decide_eq_true hT) (by show cond (A8 3 (nb b l m)) (cond true (cond (A8 3 (nb b l' false)) true false) false) false = true; rw [Eb, Eb]; rfl)) ?_
           rintro _ _ ⟨rfl, M, E, rfl, q1, q2, q3, q4⟩
           refine A6 hg gN rfl (x1 rfl ?_)
           refine ExM.ret ?_
           refine .inr ?_
           exact ⟨_, _, ⟨rfl, M, E, _, rfl, q1, q2, q3, q4⟩, A0 trivial rfl rfl 100 rfl rfl⟩
         · refine mn (cF rfl (kM (oM ?_)))
           refine mFz (s1 := ⟨.al [(1, .ptr 0 0), (2, .ptr 1 0), (4, .int .i64 (((n : Nat) : Int) - 9))], [A2.cells 212 (nb b l m) false, A2.cells 24 z2L false], 43⟩) (Ae 2 rfl (Nat.zero_le _) rfl (by show cond (A8 2 (nb b l m)) true false = true; rw [Eb]; rfl) (fzC rfl (fvP (by decide)) (fzC rfl (fvP (by decide)) (fI fzN)))) ?_
           refine mV rfl (mI (((n + 1 : Nat) : Int) - 9) rfl (x1 rfl ?_))
           exact ⟨(n + 1), (by omega : n + 1 ≤ 19), (by show 19 - (n + 1) < 19 - n; omega), Ac rfl rfl (sbC rfl (sbC rfl (sbC rfl (sbN))))⟩
       · refine mV rfl (mG (mG (mG (mG (mG (mG (m2 rfl rfl ?_)))))))
         refine Iq hg gN rfl rfl (cutQ (id := 2) (H := [A2.cells 212 (nb b l m) false, A2.cells 24 z2L false, A2.cells 212 (nb b l m) false]) (k := 38 + n + 1) hg rfl hl hd hz (by omega) _) ?_
         rintro _ _ ⟨l', rfl, rfl, hl', hd'⟩
         refine mn (sO ?_)
         refine Iq hg gN rfl rfl (topQ (id := 2) (H := [A2.cells 212 (nb b l m) false, A2.cells 24 z2L false, A2.cells 212 (nb b l' false) false]) hg rfl hl') ?_
         rintro _ _ ⟨rfl, t, rfl, ht0, ht1⟩
         refine x1 rfl (sO (m2 rfl rfl (mKs (v := .int .i64 (((38 + n + 1 : Nat) : Int) + 15)) rfl (B8 (by omega) (by omega) rfl) ?_)))
         refine mB hg gN rfl rfl trivial (fun h5 => ?_) (fun h5 => ?_)
         · have hT := h5
           refine mn (cT rfl (sO (m2 rfl rfl ?_)))
           refine Iq hg gN rfl rfl (Y8 (k := 38 + n + 1) hg hl' hd' ⟨by omega, by omega⟩ ht0 ht1 (of_decide_eq_true hT) (by show cond (A8 3 (nb b l m)) (cond true (cond (A8 3 (nb b l' false)) true false) false) false = true; rw [Eb, Eb]; rfl)) ?_
           rintro _ _ ⟨rfl, M, E, rfl, q1, q2, q3, q4⟩
           refine A6 hg gN rfl (x1 rfl ?_)
           refine ExM.ret ?_
           refine .inr ?_
           exact ⟨_, _, ⟨rfl, M, E, _, rfl, q1, q2, q3, q4⟩, A0 trivial rfl rfl 100 rfl rfl⟩
         · refine mn (cF rfl (kM (oM ?_)))
           refine mFz (s1 := ⟨.al [(1, .ptr 0 0), (2, .ptr 1 0), (4, .int .i64 (((n : Nat) : Int) - 9))], [A2.cells 212 (nb b l m) false, A2.cells 24 z2L false], 43⟩) (Ae 2 rfl (Nat.zero_le _) rfl (by show cond (A8 2 (nb b l m)) true false = true; rw [Eb]; rfl) (fzC rfl (fvP (by decide)) (fzC rfl (fvP (by decide)) (fI fzN)))) ?_
           refine mV rfl (mI (((n + 1 : Nat) : Int) - 9) rfl (x1 rfl ?_))
           exact ⟨(n + 1), (by omega : n + 1 ≤ 19), (by show 19 - (n + 1) < 19 - n; omega), Ac rfl rfl (sbC rfl (sbC rfl (sbC rfl (sbN))))⟩
   · refine sq (sO (mV rfl (mF rfl (mn (cF rfl ?_)))))
     exact ExM.exit (.inl ⟨rfl, (), trivial, Ac rfl rfl (sbC rfl (sbN))⟩)
 · rintro _ s' hJ hs
   refine ExM.sub hs ?_
   refine sO (mV rfl (A6 hg gN rfl (x1 rfl ?_)))
   exact ExM.ret ⟨_, _, ⟨rfl, 0, 0, _, rfl, by decide, by decide, by decide, by decide⟩, A0 trivial rfl rfl 100 rfl rfl⟩
def W9 (x y : Int) : Int := if x < y then -1 else if y < x then 1 else 0
def Vp (a b : PCl) : Int := if W9 a.r b.r = 0 then W9 a.c b.c else W9 a.r b.r
theorem Zh {a b : PCl} (h : a.r < b.r ∨ a.r = b.r ∧ a.c < b.c) : Vp a b = -1 := by
 unfold Vp W9
 rcases h with h | ⟨h1, h2⟩
 · rw [if_pos (show ((a.r : Nat) : Int) < b.r by omega)]; simp
 · rw [if_neg (show ¬ ((a.r : Nat) : Int) < b.r by omega), if_neg (show ¬ ((b.r : Nat) : Int) < a.r by omega), if_pos rfl, if_pos (show ((a.c : Nat) : Int) < b.c by omega)]
def MF149 : AFn := ⟨(sQ [wV 2 (.move (.val (.bool false)))] (sQ [wM 3 0, wM 4 0, wV 5 (.bin .neq none 3 4), wM 2 5] .ret)), [2], 6⟩
theorem MG149 : Ab Tryz.prog 149 = some MF149 := by kernel_rfl
def MF107 : AFn := ⟨(sQ [wV 4 (.move (vI 0))] (sQ [wM 7 0, wV 8 (kF 149 [7]), wM 5 8] (sQ [wM 9 1, wV 10 (kF 149 [9]), wM 6 10] (.seq (sQ [wM 11 5] (.cond 11 (.seq (sQ [wM 12 6] (.cond 12 (sQ [wV 4 (.move (vI 0))] .ret) .skip)) (sQ [wV 4 (.move (.val (.int .i64 (-1))))] .ret)) .skip)) (.seq (sQ [wM 13 6] (.cond 13 (sQ [wV 4 (.move (vI 1))] .ret) .skip)) (.seq (sQ [wM 14 0, wM 15 1, wV 16 (.bin .lss none 14 15)] (.cond 16 (sQ [wV 4 (.move (.val (.int .i64 (-1))))] .ret) .skip)) (.seq (sQ [wM 17 0, wM 18 1, wV 19 (.bin .gtr none 17 18)] (.cond 19 (sQ [wV 4 (.move (vI 1))] .ret) .skip)) (sQ [wV 4 (.move (vI 0))] .ret)))))))), [4], 20⟩
theorem MG107 : Ab Tryz.prog 107 = some MF107 := by kernel_rfl
def MF106 : AFn := ⟨(sQ [wV 2 (.move (vI 0))] (sQ [wV 3 (.move (vI 0))] (.seq (sQ [wM 6 0, wV 7 (.len false 6), wV 8 (.move (vI 0))] (.block 0 (.loop (sQ [wV 9 (.bin .lss none 8 7)] (.seq (.cond 9 .skip (.exit 0)) (.seq (.block 1 (sQ [wV 10 (.idxSl 1 6 8), wV 11 (.load 1 false 10), wM 5 11] (sQ [wM 12 5, wM 13 3, wV 14 (.bin .neq none 12 13)] (.cond 14 (sQ [wM 15 5, wM 2 15] .ret) .skip)))) (.ops [wV 16 (.bin .add none 8 (vI 1)), wM 8 16]))))))) (sQ [wM 17 3, wM 2 17] .ret)))), [2], 18⟩
theorem MG106 : Ab Tryz.prog 106 = some MF106 := by kernel_rfl
def MF49 : AFn := ⟨(sQ [wV 2 (.box 33 0), wV 3 (.box 33 1), wV 4 (.move (vI 0))] (.seq (.drawC [wV 5 (.fieldAddr 0 2), wV 6 (.load 1 false 5), wV 7 (.fieldAddr 0 3), wV 8 (.load 1 false 7), wV 9 (kF 107 [6, 8]), wV 10 (.fieldAddr 1 2), wV 11 (.load 1 false 10), wV 12 (.fieldAddr 1 3), wV 13 (.load 1 false 12), wV 14 (kF 107 [11, 13]), wV 15 (.bslice 3 1 2 [.int .i64 0] [(0, 1, 9), (1, 1, 14)]), wV 16 (kF 106 [15]), wM 4 16] ⟨13, [1, 1, 1, 1, 3, 1, 1, 1, 1, 3, 2, 3, 0], [0, 1, 0, 4, 15, 0, 32, 0, 128, 511, 1023, 2047, 4095], [0, 16, 528, 1552, 3600]⟩) .ret)), [4], 17⟩
theorem MG49 : Ab Tryz.prog 49 = some MF49 := by kernel_rfl
theorem nanP (hg : hGr W0 G) {x : Int} : cP W0 149 [.int .i64 x] [] (.bool false) [] := by
 refine oF MG149 ?_
 refine sO (x1 rfl (sO (x4 rfl rfl rfl rfl ?_)))
 exact ExM.ret (A4 trivial rfl (congrArg AVal.bool (by simp)) rfl)
theorem cmpP (hg : hGr W0 G) {x y : Int} : cP W0 107 [.int .i64 x, .int .i64 y] [] (.int .i64 (W9 x y)) [] := by
 refine oF MG107 ?_
 refine sO (x1 rfl (sO (mV rfl (Fg hg gN (c := false) rfl rfl (nanP hg) rfl (x1 rfl (sO (mV rfl (Fg hg gN (c := false) rfl rfl (nanP hg) rfl (x1 rfl (sq (sO (x1 rfl (cF rfl (kM (sq (sO (x1 rfl (cF rfl (kM (sq (sO (m2 rfl rfl ?_))))))))))))))))))))))
 refine mB hg gN rfl rfl trivial (fun h1 => ?_) (fun h1 => ?_)
 · refine mn (cT rfl (sO (x1 rfl ?_)))
   exact ExM.ret (A4 trivial rfl (congrArg (AVal.int .i64) (by simp [W9, of_decide_eq_true h1])) rfl)
 · refine mn (cF rfl (kM (sq (sO (m2 rfl rfl ?_)))))
   refine mB hg gN rfl rfl trivial (fun h2 => ?_) (fun h2 => ?_)
   · refine mn (cT rfl (sO (x1 rfl ?_)))
     exact ExM.ret (A4 trivial rfl (congrArg (AVal.int .i64) (by have a1 := of_decide_eq_false h1; have a2 := of_decide_eq_true h2; unfold W9; rw [if_neg a1, if_pos a2])) rfl)
   · refine mn (cF rfl (kM (sO (x1 rfl ?_))))
     exact ExM.ret (A4 trivial rfl (congrArg (AVal.int .i64) (by have a1 := of_decide_eq_false h1; have a2 := of_decide_eq_false h2; unfold W9; rw [if_neg a1, if_neg a2])) rfl)
theorem orP (hg : hGr W0 G) {o0 o1 : A2} {a b : Int} : cP W0 106 [.hsl 1 2 0 2 (some 2)] [o0, o1, A2.cells 3 [.int .i64 a, .int .i64 b] false] (.int .i64 (if a = 0 then b else a)) [o0, o1, A2.cells 3 [.int .i64 a, .int .i64 b] false] := by
 refine oF MG106 ?_
 refine sO (x1 rfl (sO (x1 rfl (sq (sO (x3 rfl rfl rfl (bM ?_)))))))
 refine ExM.unroll 3 ?_
 refine Ep.step ?_
 refine sO (mBk hg gN (c := true) rfl rfl rfl (mn (sq (cT rfl (kM (sq (bM (sO (mS rfl (x2 rfl rfl (sO (m2 rfl rfl ?_))))))))))))
 refine mB hg gN rfl rfl trivial (fun h1 => ?_) (fun h1 => ?_)
 · refine mn (cT rfl (sO (x2 rfl rfl ?_)))
   exact ExM.ret (A4 trivial rfl (congrArg (AVal.int .i64) (by have q := h1; rw [if_neg (by simpa using q)])) rfl)
 · refine mn (cF rfl (kM (oM (mKs (v := .int .i64 1) rfl rfl (x1 rfl ?_)))))
   refine Ep.step ?_
   refine sO (mBk hg gN (c := true) rfl rfl rfl (mn (sq (cT rfl (kM (sq (bM (sO (mS rfl (x2 rfl rfl (sO (m2 rfl rfl ?_))))))))))))
   refine mB hg gN rfl rfl trivial (fun h2 => ?_) (fun h2 => ?_)
   · refine mn (cT rfl (sO (x2 rfl rfl ?_)))
     exact ExM.ret (A4 trivial rfl (congrArg (AVal.int .i64) (by have q := h1; rw [if_pos (by simpa using q)])) rfl)
   · refine mn (cF rfl (kM (oM (mKs (v := .int .i64 2) rfl rfl (x1 rfl ?_)))))
     refine Ep.step ?_
     refine sO (mBk hg gN (c := false) rfl rfl rfl (mn (sq (cF rfl ?_))))
     refine ExM.exit ?_
     refine sO (x2 rfl rfl ?_)
     exact ExM.ret (A4 trivial rfl (congrArg (AVal.int .i64) (by have q := h1; have q2 := h2; rw [if_pos (by simpa using q)]; exact (by simpa using q2 : b = 0).symm)) rfl)
theorem A2l (hg : hGr W0 G) {a b : PCl} : cP W0 49 [pcV a, pcV b] [] (.int .i64 (Vp a b)) [] := by
 refine oF MG49 ?_
 refine sO (mV (v := .ptr 0 0) rfl (mV (v := .ptr 1 0) rfl (x1 rfl (sq ?_))))
 refine ExM.drawC hg ?_
 refine Dl rfl rfl trivial rfl (Dl rfl rfl trivial rfl (Dl rfl rfl trivial rfl (Dl rfl rfl trivial rfl (L0 rfl rfl (A1.pure rfl rfl (cmpP hg) _) rfl pdN (J0 rfl rfl trivial rfl (ptC (cNp (by show (Nat.beq 16 16 || !(SP.mayB _ 16 5)) = true; rfl)) (ptC (cYp (by show (Nat.beq 0 16 || !(SP.mayB _ 0 5)) = false; rfl) (evY rfl trivial)) ptN)) (?_))))))
 refine J0 rfl rfl trivial rfl (ptC (cNp (by show (Nat.beq 16 16 || !(SP.mayB _ 16 6)) = true; rfl)) (ptC (cYp (by show (Nat.beq 0 16 || !(SP.mayB _ 0 6)) = false; rfl) (evY rfl trivial)) ptN)) (J0 rfl rfl trivial rfl (ptC (cNp (by show (Nat.beq 16 16 || !(SP.mayB _ 16 7)) = true; rfl)) (ptC (cYp (by show (Nat.beq 0 16 || !(SP.mayB _ 0 7)) = false; rfl) (evY rfl trivial)) ptN)) (J0 rfl rfl trivial rfl (ptC (cNp (by show (Nat.beq 16 16 || !(SP.mayB _ 16 8)) = true; rfl)) (ptC (cYp (by show (Nat.beq 0 16 || !(SP.mayB _ 0 8)) = false; rfl) (evY rfl trivial)) ptN)) (L0 rfl rfl (A1.pure rfl rfl (cmpP hg) _) rfl pdN (cEVal (v := .hsl 1 2 0 2 (some 2)) rfl rfl trivial rfl pdN (L0 rfl rfl (orP hg) rfl pdN (?_))))))
 refine Dl rfl rfl trivial rfl (A1c rfl (?_))
 exact ExM.ret (pL)
theorem lTrim {H : Hz} {s cs : Bz} (hs : s.length ≤ 1000000) (hcs : cs.length ≤ 1000) (ha : cs.all (fun b => decide (b.toNat < 128)) = true) : cP W0 162 [.str s, .str cs] H (.str (Lib.trimS s cs)) H := by
 refine A1.of_below (by kernel_rfl) fun F bs w cargs hh hra => ?_
 obtain ⟨a, b, rfl, h1, h2⟩ := Zn hra
 obtain rfl := Vo h1
 obtain rfl := Vo h2
 refine (Any.strings_Trim_laid Tryz.lays160 (by kernel_rfl) ⟨s.toArray⟩ ⟨cs.toArray⟩ w (by rw [Lj]; omega) (by rw [Lj]; omega) (ascii_of_all (by rw [Lr]; exact ha))).mono ?_
 rintro e w' ⟨rfl, hb⟩
 exact ⟨_, rfl, by rw [Lr, Lr]; exact A1m _, hb⟩
def digs : Bz := [48, 49, 50, 51, 52, 53, 54, 55, 56, 57]
theorem T0 {p : UInt8 → Bool} : ∀ {l : Bz}, l.dropWhile p = [] → ∀ b ∈ l, p b = true
 | [], _, b, h => by cases h
 | c :: r, h, b, hb => by
   rw [List.dropWhile_cons] at h
   cases hp : p c with
   | false => rw [hp] at h; simp at h
   | true =>
     rw [hp] at h
     rcases List.mem_cons.1 hb with rfl | hb
     · exact hp
     · exact T0 (by simpa using h) b hb
theorem Tu {p : UInt8 → Bool} : ∀ {l : Bz} {b : UInt8}, b ∈ l → p b = true ∨ b ∈ l.dropWhile p
 | c :: r, b, hb => by
   rw [List.dropWhile_cons]
   cases hp : p c with
   | false => exact .inr (by simpa using hb)
   | true =>
     rcases List.mem_cons.1 hb with rfl | hb
     · exact .inl hp
     · simpa using Tu hb
theorem A0g {s : Bz} (h : Lib.trimS s digs = []) : ∀ b ∈ s, digs.contains b = true := fun b hb => by
 rcases Tu (p := (digs.contains ·)) (List.mem_reverse.2 hb) with h1 | h1
 · exact h1
 · exact T0 (p := (digs.contains ·)) h b (by unfold Lib.trimRightS; exact List.mem_reverse.2 h1)
theorem dig_bd {b : UInt8} (h : digs.contains b = true) : 48 ≤ b.toNat ∧ b.toNat ≤ 57 := by
 have : b ∈ digs := by simpa using h
 simp only [digs, List.mem_cons, List.not_mem_nil, or_false] at this
 rcases this with rfl | rfl | rfl | rfl | rfl | rfl | rfl | rfl | rfl | rfl <;> decide
def FG (s : Bz) : Prop := s.length ≤ 40 ∧ ∀ i, i < s.length → 48 ≤ (s.getD i 0).toNat ∧ (s.getD i 0).toNat ≤ 57
def MF142 : AFn := ⟨(sQ [wV 2 (.move (.val (.bool false)))] (sQ [wM 3 0, wV 4 (.len true 3), wV 5 (.bin .geq none 4 (vI 1)), wM 6 5, wT 7 6 (.move 0), wT 8 6 (.len true 7), wT 9 6 (.bin .leq none 8 (vI 40)), wV 10 (.pick 6 9 (.val (.bool false))), wM 11 10, wT 12 11 (.move 0), wT 13 11 (kF 162 [12, (.val (.str [48, 49, 50, 51, 52, 53, 54, 55, 56, 57]))]), wT 14 11 (.bin .eql none 13 (.val (.str []))), wV 15 (.pick 11 14 (.val (.bool false))), wM 2 15] .ret)), [2], 16⟩
theorem MG142 : Ab Tryz.prog 142 = some MF142 := by kernel_rfl
theorem fgOf {s : Bz} (h : ((s.length : Nat) : Int) ≤ 40) {b : Bool} (hb : b = true) (he : b = (Lib.trimS s digs == []) := by rfl) : FG s := by
 subst hb
 have h2 : Lib.trimS s digs = [] := by simpa using he.symm
 refine ⟨by omega, fun i hi => ?_⟩
 have : s.getD i 0 ∈ s := by
  rw [List.getD_eq_getElem?_getD, gGe hi]
  exact List.getElem_mem hi
 exact dig_bd (A0g h2 _ this)
theorem dfigE (hg : hGr W0 G) {s : Bz} (hl : s.length ≤ 1000000) : Aj Tryz.prog W0 142 [.str s] (fun v => ∃ b, v = .bool b ∧ (b = true → FG s)) := by
 refine Aj.of_fnM MG142 (by simp) rfl ?_
 refine sO (x1 rfl (sO (m2 rfl rfl ?_)))
 refine mB hg gN rfl rfl trivial (fun h1 => ?_) (fun h1 => ?_)
 · refine m3 rfl rfl rfl ?_
   refine mB hg (gS rfl) rfl rfl trivial (fun h2 => ?_) (fun h2 => ?_)
   · have h40 := of_decide_eq_true h2
     refine m3 rfl rfl rfl (mC rfl (lTrim hl (by decide) (by decide)) (x3 rfl rfl rfl ?_))
     exact ExM.ret ⟨_, ⟨_, rfl, fun h => fgOf h40 h⟩, A4 trivial rfl rfl rfl⟩
   · refine m2 rfl rfl (mG (mG (mG (x2 rfl rfl ?_))))
     exact ExM.ret ⟨_, ⟨_, rfl, fun h => by cases h⟩, A4 trivial rfl rfl rfl⟩
 · refine mV rfl (mG (mG (mG (m2 rfl rfl (mG (mG (mG (x2 rfl rfl ?_))))))))
   exact ExM.ret ⟨_, ⟨_, rfl, fun h => by cases h⟩, A4 trivial rfl rfl rfl⟩
def MF96 : AFn := ⟨(sQ [wV 2 (.alloc 24 z2L), wV 3 (.move (vI 0))] (sQ [wM 16 0, wV 17 (kF 94 [16, (.val (.str [45]))]), wM 15 17, wV 18 (.extract 15 0), wV 19 (.extract 15 1), wM 4 18, wM 5 19] (sQ [wM 21 4, wV 22 (kF 141 [21, (.val (.str [46]))]), wM 20 22, wV 23 (.extract 20 0), wV 24 (.extract 20 1), wV 25 (.extract 20 2), wM 6 23, wM 7 24, wM 8 25] (.seq (sQ [wM 26 6, wV 27 (kF 142 [26]), wV 28 (.un .not 27), wM 29 28, wF 30 29 (.move 8), wF 31 29 (.move 30), wT 32 31 (.move 7), wT 33 31 (kF 142 [32]), wT 34 31 (.un .not 33), wF 35 29 (.pick 31 34 (.val (.bool false))), wV 36 (.pick 29 (.val (.bool true)) 35)] (.cond 36 (sQ [wV 37 (.build z2L []), wN (.store 2 2 37), wV 3 (.move (vI 12))] .ret) .skip)) (sQ [wM 38 5, wV 39 (.build z0L [(0, 1, 38)]), wV 9 (.alloc 212 z0L), wN (.store 98 9 39)] (.seq (sQ [wM 40 6, wV 41 (.len true 40), wV 42 (.move (vI 0))] (.block 0 (.loop (sQ [wV 43 (.bin .lss none 42 41)] (.seq (.cond 43 .skip (.exit 0)) (.seq (.block 1 (sQ [wM 44 42, wM 10 44] (.ops [wM 45 10, wV 46 (.bin .add none (vI 48) 45), wM 47 6, wM 48 6, wV 49 (.len true 48), wV 50 (.bin .sub none 49 (vI 1)), wM 51 10, wV 52 (.bin .sub none 50 51), wV 53 (.idxStr 47 52), wV 54 (.bin .sub none 53 (.val (.int .u8 48))), wV 55 (.conv (.int .i8) 54), wV 56 (.fieldAddr 1 9), wV 57 (.idxArr 96 1 56 46), wN (.store 1 57 55)]))) (.ops [wV 58 (.bin .add none 42 (vI 1)), wM 42 58]))))))) (.seq (sQ [wM 59 7, wV 60 (.len true 59), wV 61 (.move (vI 0))] (.block 2 (.loop (sQ [wV 62 (.bin .lss none 61 60)] (.seq (.cond 62 .skip (.exit 2)) (.seq (.block 3 (sQ [wM 63 61, wM 11 63] (.ops [wM 64 11, wV 65 (.bin .sub none (vI 47) 64), wM 66 7, wM 67 11, wV 68 (.idxStr 66 67), wV 69 (.bin .sub none 68 (.val (.int .u8 48))), wV 70 (.conv (.int .i8) 69), wV 71 (.fieldAddr 1 9), wV 72 (.idxArr 96 1 71 65), wN (.store 1 72 70)]))) (.ops [wV 73 (.bin .add none 61 (vI 1)), wM 61 73]))))))) (sQ [wV 75 (.load 98 true 9), wV 76 (kF 143 [75]), wM 74 76, wV 77 (.extract 74 0), wV 78 (.extract 74 1), wV 12 (.alloc 24 z2L), wN (.store 2 12 77), wM 13 78] (.seq (sQ [wV 79 (.load 2 true 12), wV 80 (kF 144 [79]), wV 14 (.alloc 212 z0L), wN (.store 98 14 80)] (sQ [wM 81 13, wV 82 (.bin .neq none 81 (vI 0)), wM 83 82, wF 84 83 (.fieldAddr 1 14), wF 85 83 (.load 96 true 84), wF 86 83 (.fieldAddr 1 9), wF 87 83 (.load 96 true 86), wF 88 83 (.eqs true (.cons 0 1 false .i (.cons 1 1 false .i (.cons 2 1 false .i (.cons 3 1 false .i (.cons 4 1 false .i (.cons 5 1 false .i (.cons 6 1 false .i (.cons 7 1 false .i (.cons 8 1 false .i (.cons 9 1 false .i (.cons 10 1 false .i (.cons 11 1 false .i (.cons 12 1 false .i (.cons 13 1 false .i (.cons 14 1 false .i (.cons 15 1 false .i (.cons 16 1 false .i (.cons 17 1 false .i (.cons 18 1 false .i (.cons 19 1 false .i (.cons 20 1 false .i (.cons 21 1 false .i (.cons 22 1 false .i (.cons 23 1 false .i (.cons 24 1 false .i (.cons 25 1 false .i (.cons 26 1 false .i (.cons 27 1 false .i (.cons 28 1 false .i (.cons 29 1 false .i (.cons 30 1 false .i (.cons 31 1 false .i (.cons 32 1 false .i (.cons 33 1 false .i (.cons 34 1 false .i (.cons 35 1 false .i (.cons 36 1 false .i (.cons 37 1 false .i (.cons 38 1 false .i (.cons 39 1 false .i (.cons 40 1 false .i (.cons 41 1 false .i (.cons 42 1 false .i (.cons 43 1 false .i (.cons 44 1 false .i (.cons 45 1 false .i (.cons 46 1 false .i (.cons 47 1 false .i (.cons 48 1 false .i (.cons 49 1 false .i (.cons 50 1 false .i (.cons 51 1 false .i (.cons 52 1 false .i (.cons 53 1 false .i (.cons 54 1 false .i (.cons 55 1 false .i (.cons 56 1 false .i (.cons 57 1 false .i (.cons 58 1 false .i (.cons 59 1 false .i (.cons 60 1 false .i (.cons 61 1 false .i (.cons 62 1 false .i (.cons 63 1 false .i (.cons 64 1 false .i (.cons 65 1 false .i (.cons 66 1 false .i (.cons 67 1 false .i (.cons 68 1 false .i (.cons 69 1 false .i (.cons 70 1 false .i (.cons 71 1 false .i (.cons 72 1 false .i (.cons 73 1 false .i (.cons 74 1 false .i (.cons 75 1 false .i (.cons 76 1 false .i (.cons 77 1 false .i (.cons 78 1 false .i (.cons 79 1 false .i (.cons 80 1 false .i (.cons 81 1 false .i (.cons 82 1 false .i (.cons 83 1 false .i (.cons 84 1 false .i (.cons 85 1 false .i (.cons 86 1 false .i (.cons 87 1 false .i (.cons 88 1 false .i (.cons 89 1 false .i (.cons 90 1 false .i (.cons 91 1 false .i (.cons 92 1 false .i (.cons 93 1 false .i (.cons 94 1 false .i (.cons 95 1 false .i .nil)))))))))))))))))))))))))))))))))))))))))))))))))))))))))))))))))))))))))))))))))))))))))))))))) 85 87), wV 89 (.pick 83 (.val (.bool true)) 88)] (.cond 89 (sQ [wV 90 (.build z2L []), wN (.store 2 2 90), wV 3 (.move (vI 10))] .ret) .skip))) (sQ [wV 91 (.load 2 true 12), wN (.store 2 2 91), wV 3 (.move (vI 0))] .ret)))))))))), [.cell 2 2 true, 3], 92⟩
theorem MG96 : Ab Tryz.prog 96 = some MF96 := by kernel_rfl
structure KC where
 k : Nat
 c : List Int
theorem dgZ : Dg9 (List.replicate 96 (0 : Int)) := fun n => by
 rw [List.getD_eq_getElem?_getD, List.getElem?_replicate]
 split <;> simp
theorem hiZ : Hi0 (List.replicate 96 (0 : Int)) := fun n _ => by
 rw [List.getD_eq_getElem?_getD, List.getElem?_replicate]
 split <;> simp
theorem oEqs {s : St} {e : EP} {x y : AOpd} {a b : AVal} {r : Bool} (hx : ev G s x = some a) (hy : ev G s y = some b) (h : aeq e a b = some r) : aop G s (.eqs true e x y) = some (.val (.bool (cond true (not r) r)) s.H []) := by
 simp only [aop, hx, hy, h]
theorem fgNil {t w p : Bz} {has : Bool} (hc : Lib.cut t [46] = (w, p, has)) (h : has = false) : FG p := by
 subst h
 unfold Lib.cut at hc
 split at hc
 · injection hc with _ h2; injection h2 with _ h3; cases h3
 · injection hc with _ h2; injection h2 with h3 _; subst h3
   exact ⟨by decide, fun i hi => by simp at hi⟩
theorem Zi {t w p : Bz} {has : Bool} (hc : Lib.cut t [46] = (w, p, has)) : w.length ≤ t.length ∧ p.length ≤ t.length := by
 unfold Lib.cut at hc
 split at hc
 · injection hc with h1 h2; injection h2 with h3 _; subst h1; subst h3
   exact ⟨by rw [List.length_take]; exact Nat.min_le_right _ _, by rw [List.length_drop]; exact Nat.sub_le _ _⟩
 · injection hc with h1 h2; injection h2 with h3 _; subst h1; subst h3
   exact ⟨Nat.le_refl _, Nat.zero_le _⟩
theorem A28 (hg : hGr W0 G) {b m : Bool} {l : List Int} (hl : l.length = 96) (hd : Dg9 l) (hz : Hi0 l) : Aj Tryz.prog W0 143 [.agg (nb b l m)] (fun v => ∃ M E e : Int, v = .tup [.agg [.int .i64 M, .int .i64 E], .int .i64 e] ∧ -1000000000000000 < M ∧ M < 1000000000000000 ∧ -9 ≤ E ∧ E ≤ 9) :=
 Aj.ofQ ((A3o hg hl hd hz).mono fun _ _ h => ⟨h.2, h.1⟩)
theorem decRead (hk : Kn W0) (hg : hGr W0 G) {s : Bz} (hs : s.length ≤ 200) : Aj Tryz.prog W0 96 [.str s] (fun v => ∃ m e er : Int, v = .tup [.agg [.int .i64 m, .int .i64 e], .int .i64 er]) := by
 have htl : (Lib.trimPrefix s [45]).length ≤ 200 := by
  unfold Lib.trimPrefix
  split
  · rw [List.length_drop]; omega
  · exact hs
 obtain ⟨w, p, has, hcut⟩ : ∃ w p has, Lib.cut (Lib.trimPrefix s [45]) [46] = (w, p, has) := ⟨_, _, _, rfl⟩
 have hwl := (Zi hcut).1
 have hpl := (Zi hcut).2
 have hC : ∀ {H : Hz}, cP W0 141 [.str (Lib.trimPrefix s [45]), .str [46]] H (.tup [.str w, .str p, .bool has]) H := fun {H} => by
  have h := lCut (H := H) hk.w (s := Lib.trimPrefix s [45]) (t := [46]) (by omega)
  rw [hcut] at h
  exact h
 refine Aj.of_fnM MG96 (by simp) rfl ?_
 refine sO (x2 rfl rfl (sO (mV rfl (mC rfl Z1 (mV rfl (mV (v := .str (Lib.trimPrefix s [45])) rfl (mV (v := .bool (Lib.hasPrefix s [45])) rfl (x2 rfl rfl (sO (mV rfl (mC rfl hC (m3 rfl rfl rfl (x4 rfl rfl rfl rfl ?_)))))))))))))
 refine ExM.seqJ (fun _ : Unit => ⟨.al [(2, .ptr 0 0), (5, .bool (Lib.hasPrefix s [45])), (6, .str w), (7, .str p)], [A2.cells 24 z2L false], 92⟩) (fun _ => FG w ∧ FG p) ?_ ?_
 · refine sO (mV rfl ?_)
   refine Bd hg gN rfl rfl rfl (dfigE hg (by omega)) ?_ ?_
   · rintro _ ⟨b1, rfl, hb1⟩; rfl
   rintro _ ⟨b1, rfl, hb1⟩
   refine mB hg gN rfl rfl trivial (fun h1 => ?_) (fun h1 => ?_)
   · refine mV rfl (mG (mG (mGT hg rfl rfl (mGT hg rfl rfl (mGT hg rfl rfl (mG (x1 rfl (cT rfl (sO (mV rfl (A6 hg gN rfl (x1 rfl ?_))))))))))))
     exact ExM.ret ⟨_, ⟨_, _, _, rfl⟩, A0 trivial rfl rfl 100 rfl rfl⟩
   · have hFw : FG w := hb1 (by simpa using h1)
     refine m2 rfl rfl ?_
     refine mB hg (gS rfl) rfl rfl trivial (fun h2 => ?_) (fun h2 => ?_)
     · refine mV rfl ?_
       refine Bd hg (gS rfl) rfl rfl rfl (dfigE hg (by omega)) ?_ ?_
       · rintro _ ⟨b2, rfl, hb2⟩; rfl
       rintro _ ⟨b2, rfl, hb2⟩
       refine mB hg (gS rfl) rfl rfl trivial (fun h3 => ?_) (fun h3 => ?_)
       · refine x2 rfl rfl (cT rfl (sO (mV rfl (A6 hg gN rfl (x1 rfl ?_)))))
         exact ExM.ret ⟨_, ⟨_, _, _, rfl⟩, A0 trivial rfl rfl 100 rfl rfl⟩
       · have hFp : FG p := hb2 (by simpa using h3)
         refine x2 rfl rfl (cF rfl (kM ?_))
         exact ⟨(), ⟨hFw, hFp⟩, Ac rfl rfl (sb4 rfl rfl rfl rfl (((( sbN)))))⟩
     · have hFp : FG p := fgNil hcut h2
       refine mG (mG (mG (x2 rfl rfl (cF rfl (kM ?_)))))
       exact ⟨(), ⟨hFw, hFp⟩, Ac rfl rfl (sb4 rfl rfl rfl rfl (((( sbN)))))⟩
 · rintro _ ⟨hFw, hFp⟩
   have hcl : (List.replicate 96 (0 : Int)).length = 96 := by simp
   have hcd : Dg9 (List.replicate 96 (0 : Int)) := dgZ
   have hcz : Hi0 (List.replicate 96 (0 : Int)) := hiZ
   have hw40 := hFw.1
   have hp40 := hFp.1
   refine sO (mV rfl (mV (v := .agg (nb (Lib.hasPrefix s [45]) (List.replicate 96 (0 : Int)) false)) rfl (mV (v := .ptr 1 0) rfl (A6 hg gN rfl (mn (sq (sO (x3 rfl rfl rfl (bM ?_)))))))))
   refine ExM.loopJ (σ := KC) (τ := Wr) (fun ⟨k, c⟩ => ⟨.al [(2, .ptr 0 0), (5, .bool (Lib.hasPrefix s [45])), (6, .str w), (7, .str p), (9, .ptr 1 0), (41, .int .i64 ((w.length : Nat) : Int)), (42, .int .i64 ((k : Nat) : Int))], [A2.cells 24 z2L false, A2.cells 212 (nb (Lib.hasPrefix s [45]) (c) false) false], 92⟩) (fun ⟨k, c⟩ => k ≤ w.length ∧ c.length = 96 ∧ Dg9 c ∧ Hi0 c) (fun ⟨k, c⟩ => w.length - k) ⟨0, (List.replicate 96 (0 : Int))⟩ 0 (fun ⟨c⟩ => ⟨.al [(2, .ptr 0 0), (5, .bool (Lib.hasPrefix s [45])), (6, .str w), (7, .str p), (9, .ptr 1 0)], [A2.cells 24 z2L false, A2.cells 212 (nb (Lib.hasPrefix s [45]) (c) false) false], 92⟩) (fun ⟨c⟩ => c.length = 96 ∧ Dg9 c ∧ Hi0 c) (Ac rfl rfl (sb4 rfl rfl rfl rfl (((( sbC rfl (sbC rfl (sbC rfl (sbN))))))))) ⟨Nat.zero_le _, hcl, hcd, hcz⟩ ?_ ?_
   · rintro ⟨k, c⟩ ⟨hk, hcl, hcd, hcz⟩
     have hk : k ≤ w.length := hk
     have hcl : c.length = 96 := hcl
     have hcd : Dg9 c := hcd
     have hcz : Hi0 c := hcz
     by_cases hlt : k < w.length
     · have hdg := hFw.2 (w.length - 1 - k) (by omega)
       refine sO (mT rfl (mn (sq (cT rfl (kM (sq (bM (sO (x2 rfl rfl (oM (mV rfl (mI ((48 + k : Nat) : Int) rfl (m3 rfl rfl rfl (mI (((w.length : Nat) : Int) - 1) rfl (mV rfl (mI ((w.length - 1 - k : Nat) : Int) rfl (Ag hg gN (v := .int .u8 (((w.getD (w.length - 1 - k) 0).toNat : Nat) : Int)) rfl rfl (by simp only [Af, and_true]; omega) (mK (v := .int .u8 (((w.getD (w.length - 1 - k) 0).toNat - 48 : Nat) : Int)) rfl (congrArg (AVal.int .u8) (by rw [IntKind.wrap_u8]; omega)) (mK (v := .int .i8 (((w.getD (w.length - 1 - k) 0).toNat - 48 : Nat) : Int)) rfl (congrArg (AVal.int .i8) (w8 (by omega) (by omega))) (mV (v := .ptr 1 1) (F5 rfl rfl) (Ag hg gN (v := .ptr 1 (1 + (48 + k))) (Q3 rfl rfl rfl) rfl (by simp only [Af, and_true]; omega) (A6 hg gN (Rz rfl rfl rfl (by omega) rfl) (mn (oM (mI ((k + 1 : Nat) : Int) rfl (x1 rfl ?_))))))))))))))))))))))))))
       exact ⟨⟨k + 1, c.set (48 + k) (((w.getD (w.length - 1 - k) 0).toNat - 48 : Nat) : Int)⟩, ⟨(by omega : k + 1 ≤ w.length), (by rw [List.length_set]; exact hcl), hcd.set (by omega) (by omega), hcz.set (.inl (by omega))⟩, (by show w.length - (k + 1) < w.length - k; omega), Ac rfl rfl (sb4 rfl rfl rfl rfl (((( sbC rfl (sbC rfl (sbC rfl (sbN))))))))⟩
     · refine sO (mF rfl (mn (sq (cF rfl ?_))))
       exact ExM.exit (.inl ⟨rfl, ⟨c⟩, ⟨hcl, hcd, hcz⟩, Ac rfl rfl (sb4 rfl rfl rfl rfl (((( sbC rfl (sbN))))))⟩)
   · rintro ⟨c⟩ s' hJ hs
     obtain ⟨hcl, hcd, hcz⟩ := hJ
     have hcl : c.length = 96 := hcl
     have hcd : Dg9 c := hcd
     have hcz : Hi0 c := hcz
     refine ExM.sub hs ?_
     refine sq (sO (x3 rfl rfl rfl (bM ?_)))
     refine ExM.loopJ (σ := KC) (τ := Wr) (fun ⟨k, c⟩ => ⟨.al [(2, .ptr 0 0), (5, .bool (Lib.hasPrefix s [45])), (6, .str w), (7, .str p), (9, .ptr 1 0), (60, .int .i64 ((p.length : Nat) : Int)), (61, .int .i64 ((k : Nat) : Int))], [A2.cells 24 z2L false, A2.cells 212 (nb (Lib.hasPrefix s [45]) (c) false) false], 92⟩) (fun ⟨k, c⟩ => k ≤ p.length ∧ c.length = 96 ∧ Dg9 c ∧ Hi0 c) (fun ⟨k, c⟩ => p.length - k) ⟨0, c⟩ 2 (fun ⟨c⟩ => ⟨.al [(2, .ptr 0 0), (5, .bool (Lib.hasPrefix s [45])), (6, .str w), (7, .str p), (9, .ptr 1 0)], [A2.cells 24 z2L false, A2.cells 212 (nb (Lib.hasPrefix s [45]) (c) false) false], 92⟩) (fun ⟨c⟩ => c.length = 96 ∧ Dg9 c ∧ Hi0 c) (Ac rfl rfl (sb4 rfl rfl rfl rfl (((( sbC rfl (sbC rfl (sbC rfl (sbN))))))))) ⟨Nat.zero_le _, hcl, hcd, hcz⟩ ?_ ?_
     · rintro ⟨k, c⟩ ⟨hk, hcl, hcd, hcz⟩
       have hk : k ≤ p.length := hk
       have hcl : c.length = 96 := hcl
       have hcd : Dg9 c := hcd
       have hcz : Hi0 c := hcz
       by_cases hlt : k < p.length
       · have hdg := hFp.2 (k) (by omega)
         refine sO (mT rfl (mn (sq (cT rfl (kM (sq (bM (sO (x2 rfl rfl (oM (mV rfl (mI ((47 - k : Nat) : Int) rfl (m2 rfl rfl (Ag hg gN (v := .int .u8 (((p.getD (k) 0).toNat : Nat) : Int)) rfl rfl (by simp only [Af, and_true]; omega) (mK (v := .int .u8 (((p.getD (k) 0).toNat - 48 : Nat) : Int)) rfl (congrArg (AVal.int .u8) (by rw [IntKind.wrap_u8]; omega)) (mK (v := .int .i8 (((p.getD (k) 0).toNat - 48 : Nat) : Int)) rfl (congrArg (AVal.int .i8) (w8 (by omega) (by omega))) (mV (v := .ptr 1 1) (F5 rfl rfl) (Ag hg gN (v := .ptr 1 (1 + (47 - k))) (Q3 rfl rfl rfl) rfl (by simp only [Af, and_true]; omega) (A6 hg gN (Rz rfl rfl rfl (by omega) rfl) (mn (oM (mI ((k + 1 : Nat) : Int) rfl (x1 rfl ?_)))))))))))))))))))))))
         exact ⟨⟨k + 1, c.set (47 - k) (((p.getD (k) 0).toNat - 48 : Nat) : Int)⟩, ⟨(by omega : k + 1 ≤ p.length), (by rw [List.length_set]; exact hcl), hcd.set (by omega) (by omega), hcz.set (.inl (by omega))⟩, (by show p.length - (k + 1) < p.length - k; omega), Ac rfl rfl (sb4 rfl rfl rfl rfl (((( sbC rfl (sbC rfl (sbC rfl (sbN))))))))⟩
       · refine sO (mF rfl (mn (sq (cF rfl ?_))))
         exact ExM.exit (.inl ⟨rfl, ⟨c⟩, ⟨hcl, hcd, hcz⟩, Ac rfl rfl (sb4 rfl rfl rfl rfl (((( sbC rfl (sbN))))))⟩)
     · rintro ⟨c⟩ s' hJ hs
       obtain ⟨hcl, hcd, hcz⟩ := hJ
       have hcl : c.length = 96 := hcl
       have hcd : Dg9 c := hcd
       have hcz : Hi0 c := hcz
       refine ExM.sub hs ?_
       refine sO (mV (v := .agg (nb (Lib.hasPrefix s [45]) c false)) (Y4 rfl rfl hcl) ?_)
       refine Bd hg gN rfl rfl (by show cond (A8 0 (nb _ _ _)) true false = true; rw [Eb]; rfl) (A28 hg hcl hcd hcz) ?_ ?_
       · rintro _ ⟨M, E, e, rfl, q1, q2, q3, q4⟩; rfl
       rintro _ ⟨M, E, e, rfl, q1, q2, q3, q4⟩
       refine m3 rfl rfl rfl (mV (v := .ptr 2 0) rfl (A6 hg gN rfl (x1 rfl (sq (sO (mV rfl (mC rfl (A1.pure rfl (show blw 0 (AVal.agg (nb (decide (M < 0)) (Db 16 (List.replicate 96 (0 : Int)) (48 + E).toNat M.natAbs) false)) = true from Eb _ _ _) (layP hg q1 q2 q3 q4 (by omega)) _) (mV (v := .ptr 3 0) rfl (A6 hg gN (It (H' := [A2.cells 24 z2L false, A2.cells 212 (nb (Lib.hasPrefix s [45]) c false) false, A2.cells 24 [.int .i64 M, .int .i64 E] false, A2.cells 212 (nb (decide (M < 0)) (Db 16 (List.replicate 96 (0 : Int)) (48 + E).toNat M.natAbs) false) false]) rfl rfl rfl (nbW (b' := false) (l' := (List.replicate 96 (0 : Int))) (m' := false) ⟨by rw [D8]; simp, by simp⟩) (by show [A2.cells 24 z2L false, A2.cells 212 (nb (Lib.hasPrefix s [45]) c false) false, A2.cells 24 [.int .i64 M, .int .i64 E] false, A2.cells 212 (spl (nb false (List.replicate 96 (0 : Int)) false) 0 (AVal.agg (nb (decide (M < 0)) (Db 16 (List.replicate 96 (0 : Int)) (48 + E).toNat M.natAbs) false)).cells) false] = _; rw [Uk (by rw [D8]; simp) (by simp)])) (mn (sO (mV rfl ?_))))))))))))
       refine mB hg gN rfl rfl trivial (fun h4 => ?_) (fun h4 => ?_)
       · refine mV rfl (mG (mG (mG (mG (mG (x1 rfl (cT rfl (sO (mV rfl (A6 hg gN rfl (x1 rfl ?_)))))))))))
         exact ExM.ret ⟨_, ⟨_, _, _, rfl⟩, A0 trivial rfl rfl 100 rfl rfl⟩
       · obtain ⟨r, hr⟩ := Zv (l := (Db 16 (List.replicate 96 (0 : Int)) (48 + E).toNat M.natAbs)) (l' := c) 96 0 (by rw [D8]; simp) (by omega)
         refine mV rfl (mV (v := .ptr 3 1) (F5 rfl rfl) (mV (v := .agg (i8s (Db 16 (List.replicate 96 (0 : Int)) (48 + E).toNat M.natAbs))) (A20 rfl rfl (by rw [D8]; simp)) (mV (v := .ptr 1 1) (F5 rfl rfl) (mV (v := .agg (i8s c)) (A20 rfl rfl hcl) (mV (v := .bool (cond true (not r) r)) (oEqs rfl rfl hr) (x1 rfl ?_))))))
         refine ExM.cond hg rfl (fun h5 => ?_) (fun h5 => ?_)
         · refine sO (mV rfl (A6 hg gN rfl (x1 rfl ?_)))
           exact ExM.ret ⟨_, ⟨_, _, _, rfl⟩, A0 trivial rfl rfl 100 rfl rfl⟩
         · refine kM (sO (mV rfl (A6 hg gN rfl (x1 rfl ?_))))
           exact ExM.ret ⟨_, ⟨_, _, _, rfl⟩, A0 trivial rfl rfl 100 rfl rfl⟩
theorem A1.ofE {P : Program} {W0 : World} {f : FuncId} {args : List AVal} {v : AVal} (h : Aj P W0 f args (fun x => x = v)) : A1 P W0 f args [] v [] := by
 refine ⟨h.1, fun F bs w cargs hh hr => ?_⟩
 have hb : bs = [] := List.length_eq_zero_iff.1 (by simpa using hh.len)
 subst hb
 refine Calls.mono (h.2 F w cargs hh hr) fun e w' he => ?_
 obtain ⟨x, cv, rfl, rfl, h1, h2, h3⟩ := he
 exact ⟨cv, [], rfl, h1, h2, h3⟩
def MF15 : AFn := ⟨(sQ [wV 2 (.move (.val (.bool false)))] (.seq (sQ [wM 7 0, wV 8 (.bin .eql none 7 (.val (.str []))), wM 9 8, wF 10 9 (.move 0), wF 11 9 (.len true 10), wF 12 9 (.bin .gtr none 11 (vI 200)), wV 13 (.pick 9 (.val (.bool true)) 12)] (.cond 13 (sQ [wV 2 (.move (.val (.bool false)))] .ret) .skip)) (.seq (sQ [wM 14 0, wV 15 (.idxStr 14 (vI 0)), wV 16 (.bin .eql none 15 (.val (.int .u8 61)))] (.cond 16 (sQ [wM 18 0, wV 19 (kF 40 [18]), wM 17 19, wV 20 (.extract 17 0), wV 21 (.extract 17 1), wV 3 (.alloc 111 [.int .i64 0, .str [], .int .i64 0, .int .i64 0, .bool false, .int .i64 0, .str [], .int .i64 0, .int .i64 0, .bool false, .bool false, .bool false, .str [], .int .i64 0, .int .i64 0, .bool false, .bool false, .bool false, .int .i64 0, .nilSl]), wN (.store 20 3 20), wM 4 21] (sQ [wM 22 4, wM 2 22] .ret)) .skip)) (sQ [wM 24 0, wV 25 (kF 41 [24]), wM 23 25, wV 26 (.extract 23 0), wV 27 (.extract 23 1), wV 5 (.alloc 62 z1L), wN (.store 12 5 26), wM 6 27] (sQ [wM 28 6, wV 29 (.bin .eql none 28 (vI 0)), wM 2 29] .ret))))), [2], 30⟩
theorem MG15 : Ab Tryz.prog 15 = some MF15 := by kernel_rfl
def MF20 : AFn := ⟨(sQ [wV 1 (.box 42 0), wV 2 (.move (vI 0))] (sQ [wV 3 (.move (vI 0))] (.seq (sQ [wV 6 (.fieldAddr 0 1), wV 7 (.load 1 false 6), wV 8 (.len false 7), wV 9 (.move (vI 0))] (.block 0 (.loop (sQ [wV 10 (.bin .lss none 9 8)] (.seq (.cond 10 .skip (.exit 0)) (.seq (.block 1 (sQ [wV 11 (.idxSl 2 7 9), wV 12 (.load 2 true 11), wV 5 (.alloc 36 Qf), wN (.store 2 5 12)] (.ops [wM 13 3, wV 14 (.fieldAddr 1 5), wV 15 (.load 1 false 14), wV 16 (.len false 15), wV 17 (.bin .add none 13 16), wM 3 17]))) (.ops [wV 18 (.bin .add none 9 (vI 1)), wM 9 18]))))))) (sQ [wM 19 3, wM 2 19] .ret)))), [2], 20⟩
theorem MG20 : Ab Tryz.prog 20 = some MF20 := by kernel_rfl
theorem A31 (hk : Kn W0) (hg : hGr W0 G) {s : Bz} (hl : lit s) (hne : s ≠ []) : cP W0 15 [.str s] [] (.bool true) [] := by
 have h61 : s.getD 0 0 ≠ 61 := by
  cases s with
  | nil => exact absurd rfl hne
  | cons c r => exact hl.1 c r rfl
 have hlen := hl.2.1
 refine A1.ofE (Aj.of_fnM MG15 (by simp) rfl ?_)
 refine sO (x1 rfl (sq (sO (mV rfl (mBk hg gN (c := false) rfl rfl (by rw [bFn]; exact hne) (m3 rfl rfl rfl (mF rfl (x1 rfl (cF rfl (kM (sq (sO (mV rfl (Ag hg gN (v := .int .u8 (((s.getD 0 0).toNat : Nat) : Int)) (E3 (n := 0) rfl rfl) rfl (by have := List.length_pos_iff.2 hne; simp only [Af, and_true]; omega) (mBk hg gN (c := false) rfl rfl (by rw [bFn]; intro e; exact h61 (UInt8.toNat_inj.1 (by have e2 : (61 : UInt8).toNat = 61 := rfl; omega))) (mn (cF rfl (kM (sO (mV rfl ?_))))))))))))))))))))
 refine Bd hg gN rfl rfl rfl (readOK hk hg (fun s hs => decRead hk hg hs) hl hne) ?_ ?_
 · rintro _ ⟨hb, c, rfl, hc1, hc2⟩; exact hb
 rintro _ ⟨hb, c, rfl, hc1, hc2⟩
 refine m3 rfl rfl rfl (mV (v := .ptr 0 0) rfl (A6 hg gN (It rfl rfl rfl (by show (Nat.beq c.length 12 && Nat.ble 12 12 && c.all AVal.one) = true; rw [hc1, hc2]; rfl) rfl) (x1 rfl (sO (mV rfl (mBk hg gN (c := true) rfl rfl rfl (x1 rfl ?_)))))))
 exact ExM.ret ⟨_, rfl, A0 trivial rfl rfl 100 rfl rfl⟩
def J5 (shs : List PSh) : Nat := (shs.map fun s => s.cs.length).sum
theorem Rf {shs : List PSh} {i : Nat} (h : i < shs.length) : J5 (shs.take (i + 1)) = J5 (shs.take i) + (shs.getD i ps0).cs.length := by
 unfold J5
 rw [List.take_succ_eq_append_getElem h, List.getD_eq_getElem?_getD, gGe h, List.map_append, List.sum_append]
 simp
theorem Wq {shs : List PSh} (i : Nat) : J5 (shs.take i) ≤ J5 shs := by
 conv => rhs; rw [← List.take_append_drop i shs]
 unfold J5
 rw [List.map_append, List.sum_append]; omega
theorem manyP (hg : hGr W0 G) {shs : List PSh} {bkr : List AVal} (hc : ∀ n, A8 n bkr = true) (hl : shs.length ≤ 1000000) (hm : J5 shs ≤ 1000000) : cP W0 20 [.agg (.row 2 (shs.map psV) :: bkr)] [] (.int .i64 ((J5 shs : Nat) : Int)) [] := by
 refine oF MG20 ?_
 refine sO (mV (v := .ptr 0 0) rfl (x1 rfl (sO (x1 rfl (sq (sO (m2 rfl rfl (mV (v := .int .i64 ((shs.length : Nat) : Int)) (Fe rfl) (x1 rfl (bM ?_))))))))))
 refine ExM.loopJ (σ := Nat) (τ := Unit) (fun i => ⟨.al [(3, .int .i64 ((J5 (shs.take i) : Nat) : Int)), (7, .row 2 (shs.map psV)), (8, .int .i64 ((shs.length : Nat) : Int)), (9, .int .i64 ((i : Nat) : Int))], [A2.cells 42 (.row 2 (shs.map psV) :: bkr) false], 20⟩) (fun i => i ≤ shs.length) (fun i => shs.length - i) 0 0 (fun _ => ⟨.al [(3, .int .i64 ((J5 shs : Nat) : Int))], [A2.cells 42 (.row 2 (shs.map psV) :: bkr) false], 20⟩) (fun _ => True) (Ac rfl rfl (sb4 rfl rfl rfl rfl (((( sbN)))))) (Nat.zero_le _) ?_ ?_
 · rintro i hi
   have hi : i ≤ shs.length := hi
   by_cases hlt : i < shs.length
   · have hm := Rf hlt
     have hle := Wq (shs := shs) (i + 1)
     refine sO (mT rfl (mn (sq (cT rfl (kM (sq (bM (sO (mS (v := .eptr (psV (shs.getD i ps0)) 0) (He rfl rfl rfl hlt) (mV rfl (mV (v := .ptr 1 0) rfl (A6 hg gN rfl (mn (oM (m3 rfl rfl rfl (mV (v := .int .i64 (((shs.getD i ps0).cs.length : Nat) : Int)) (Fe rfl) (mI ((J5 (shs.take (i + 1)) : Nat) : Int) rfl (x1 rfl (oM ?_)))))))))))))))))))
     refine mFz (s1 := ⟨.al [(3, .int .i64 ((J5 (shs.take (i + 1)) : Nat) : Int)), (7, .row 2 (shs.map psV)), (8, .int .i64 ((shs.length : Nat) : Int)), (9, .int .i64 ((i : Nat) : Int))], [A2.cells 42 (.row 2 (shs.map psV) :: bkr) false], 20⟩) (Ae 1 rfl (Nat.zero_le _) rfl (by show cond (cond (A8 1 (shs.map psV)) (A8 1 bkr) false) true false = true; rw [Ai, hc]; rfl) (fI (fzC rfl (Ir (Ai _)) (fI (fI fzN))))) ?_
     refine mI ((i + 1 : Nat) : Int) rfl (x1 rfl ?_)
     exact ⟨(i + 1), (by omega : i + 1 ≤ shs.length), (by show shs.length - (i + 1) < shs.length - i; omega), Ac rfl rfl (sb4 rfl rfl rfl rfl (((( sbN)))))⟩
   · have he : i = shs.length := by omega
     rw [he, List.take_length]
     refine sO (mF rfl (mn (sq (cF rfl ?_))))
     exact ExM.exit (.inl ⟨rfl, (), trivial, Ac rfl rfl (sbC rfl (sbN))⟩)
 · rintro _ s' hJ hs
   refine ExM.sub hs ?_
   refine sO (x2 rfl rfl ?_)
   exact ExM.ret (pL)
theorem oCutM {α : Type} {f : α → AVal} {l : List α} {s : St} {x b : AOpd} {k n : Nat} (hx : ev G s x = some (.row k (l.map f))) (hb : ev G s b = some (.int .i64 ((n : Nat) : Int))) (_ : n ≤ l.length) : aop G s (.cutSl k x none (some b)) = some (.val (.row k ((l.take n).map f)) s.H (Au k (l.map f) none (some ((n : Nat) : Int))).2) := by
 have h1 : (Au k (l.map f) none (some ((n : Nat) : Int))).1 = .row k ((l.take n).map f) := by
  simp [Au, List.map_take]
 simp only [aop, hx, hb, oev, Nat.beq_refl, cond_true, h1]
def MF21 : AFn := ⟨(sQ [wV 1 (.box 42 0), wV 2 (.alloc 47 z3L), wV 3 (.move (vI 0))] (.seq (sQ [wV 14 (.fieldAddr 0 1), wV 15 (.load 1 false 14), wV 16 (.len false 15), wV 17 (.bin .lss none 16 (vI 1)), wM 18 17, wF 19 18 (.fieldAddr 0 1), wF 20 18 (.load 1 false 19), wF 21 18 (.len false 20), wF 22 18 (.bin .gtr none 21 (vI 8)), wV 23 (.pick 18 (.val (.bool true)) 22), wM 24 23, wF 25 24 (.load 4 true 1), wF 26 24 (kF 20 [25]), wF 27 24 (.bin .gtr none 26 (vI 400)), wV 28 (.pick 24 (.val (.bool true)) 27), wM 29 28, wF 30 29 (.fieldAddr 1 1), wF 31 29 (.load 1 false 30), wF 32 29 (.len false 31), wF 33 29 (.bin .gtr none 32 (vI 40)), wV 34 (.pick 29 (.val (.bool true)) 33), wM 35 34, wF 36 35 (.fieldAddr 2 1), wF 37 35 (.load 1 false 36), wF 38 35 (.len false 37), wF 39 35 (.bin .gtr none 38 (vI 10)), wV 40 (.pick 35 (.val (.bool true)) 39), wM 41 40, wF 42 41 (.fieldAddr 3 1), wF 43 41 (.load 1 false 42), wF 44 41 (.len false 43), wF 45 41 (.bin .gtr none 44 (vI 20)), wV 46 (.pick 41 (.val (.bool true)) 45)] (.cond 46 (sQ [wV 47 (.build z3L []), wN (.store 3 2 47), wV 3 (.move (vI 96))] .ret) .skip)) (.seq (sQ [wV 48 (.fieldAddr 0 1), wV 49 (.load 1 false 48), wV 50 (.len false 49), wV 51 (.move (vI 0))] (.block 0 (.loop (sQ [wV 52 (.bin .lss none 51 50)] (.seq (.cond 52 .skip (.exit 0)) (.seq (.block 1 (sQ [wM 53 51, wV 54 (.idxSl 2 49 51), wV 55 (.load 2 true 54), wV 5 (.alloc 36 Qf), wM 4 53, wN (.store 2 5 55)] (.seq (.draw [wV 56 (.fieldAddr 0 5), wV 57 (.load 1 false 56), wV 58 (.bin .eql none 57 (.val (.str []))), wM 59 58, wF 60 59 (.fieldAddr 0 5), wF 61 59 (.load 1 false 60), wF 62 59 (.build [.str [], .int .i64 0, .int .i64 0, .bool false, .bool false, .bool false] [(0, 1, 61)]), wF 63 59 (kF 52 [62]), wF 64 59 (.un .not 63), wV 65 (.pick 59 (.val (.bool true)) 64), wM 66 65, wF 67 66 (.fieldAddr 0 1), wF 68 66 (.load 1 false 67), wF 69 66 (.move 4), wF 70 66 (.cutSl 2 68 none (some 69)), wF 71 66 (.fieldAddr 0 5), wF 72 66 (.load 1 false 71), wF 73 66 (kF 53 [70, 72, (.val (.fn 54 [] []))]), wV 74 (.pick 66 (.val (.bool true)) 73)]) (.cond 74 (sQ [wM 75 4, wV 76 (.build z3L [(0, 1, 75)]), wN (.store 3 2 76), wV 3 (.move (vI 91))] .ret) .skip)))) (.ops [wV 77 (.bin .add none 51 (vI 1)), wM 51 77]))))))) (.seq (sQ [wV 78 (.fieldAddr 0 1), wV 79 (.load 1 false 78), wV 80 (.len false 79), wV 81 (.move (vI 0))] (.block 2 (.loop (sQ [wV 82 (.bin .lss none 81 80)] (.seq (.cond 82 .skip (.exit 2)) (.seq (.block 3 (sQ [wM 83 81, wV 84 (.idxSl 2 79 81), wV 85 (.load 2 true 84), wV 7 (.alloc 36 Qf), wM 6 83, wN (.store 2 7 85)] (sQ [wV 86 (.fieldAddr 1 7), wV 87 (.load 1 false 86), wV 88 (.len false 87), wV 89 (.move (vI 0))] (.block 4 (.loop (sQ [wV 90 (.bin .lss none 89 88)] (.seq (.cond 90 .skip (.exit 4)) (.seq (.block 5 (sQ [wM 91 89, wV 92 (.idxSl 3 87 89), wV 93 (.load 3 true 92), wV 9 (.alloc 33 z8L), wM 8 91, wN (.store 3 9 93)] (.seq (.draw [wV 94 (.fieldAddr 0 9), wV 95 (.load 1 false 94), wV 96 (.bin .lss none 95 (vI 0)), wM 97 96, wF 98 97 (.fieldAddr 0 9), wF 99 97 (.load 1 false 98), wF 100 97 (.bin .geq none 99 (vI 200)), wV 101 (.pick 97 (.val (.bool true)) 100), wM 102 101, wF 103 102 (.fieldAddr 1 9), wF 104 102 (.load 1 false 103), wF 105 102 (.bin .lss none 104 (vI 0)), wV 106 (.pick 102 (.val (.bool true)) 105), wM 107 106, wF 108 107 (.fieldAddr 1 9), wF 109 107 (.load 1 false 108), wF 110 107 (.bin .geq none 109 (vI 52)), wV 111 (.pick 107 (.val (.bool true)) 110), wM 112 111, wF 113 112 (.fieldAddr 2 9), wF 114 112 (.load 1 false 113), wF 115 112 (kF 15 [114]), wF 116 112 (.un .not 115), wV 117 (.pick 112 (.val (.bool true)) 116), wM 118 117, wF 119 118 (.move 8), wF 120 118 (.bin .gtr none 119 (vI 0)), wF 121 118 (.move 120), wT 122 121 (.fieldAddr 1 7), wT 123 121 (.load 1 false 122), wT 124 121 (.move 8), wT 125 121 (.bin .sub none 124 (vI 1)), wT 126 121 (.idxSl 3 123 125), wT 127 121 (.load 3 true 126), wT 128 121 (.load 3 true 9), wT 129 121 (kF 49 [127, 128]), wT 130 121 (.bin .geq none 129 (vI 0)), wF 131 118 (.pick 121 130 (.val (.bool false))), wV 132 (.pick 118 (.val (.bool true)) 131)]) (.cond 132 (sQ [wM 133 6, wV 134 (.fieldAddr 0 9), wV 135 (.load 1 false 134), wV 136 (.fieldAddr 1 9), wV 137 (.load 1 false 136), wV 138 (.build z3L [(0, 1, 133), (1, 1, 135), (2, 1, 137)]), wN (.store 3 2 138), wV 3 (.move (vI 92))] .ret) .skip)))) (.ops [wV 139 (.bin .add none 89 (vI 1)), wM 89 139]))))))))) (.ops [wV 140 (.bin .add none 81 (vI 1)), wM 81 140]))))))) (.seq (sQ [wV 141 (.fieldAddr 1 1), wV 142 (.load 1 false 141), wV 143 (.len false 142), wV 144 (.move (vI 0))] (.block 6 (.loop (sQ [wV 145 (.bin .lss none 144 143)] (.seq (.cond 145 .skip (.exit 6)) (.seq (.block 7 (sQ [wM 146 144, wM 10 146] (sQ [wV 147 (.load 4 true 1), wM 148 10, wV 149 (kF 55 [147, 148]), wV 150 (.un .not 149)] (.cond 150 (sQ [wM 151 10, wV 152 (.build z3L [(1, 1, 151)]), wN (.store 3 2 152), wV 3 (.move (vI 93))] .ret) .skip)))) (.ops [wV 153 (.bin .add none 144 (vI 1)), wM 144 153]))))))) (.seq (sQ [wV 154 (.fieldAddr 2 1), wV 155 (.load 1 false 154), wV 156 (.len false 155), wV 157 (.move (vI 0))] (.block 8 (.loop (sQ [wV 158 (.bin .lss none 157 156)] (.seq (.cond 158 .skip (.exit 8)) (.seq (.block 9 (sQ [wM 159 157, wM 11 159] (sQ [wV 160 (.load 4 true 1), wM 161 11, wV 162 (kF 56 [160, 161]), wV 163 (.un .not 162)] (.cond 163 (sQ [wM 164 11, wV 165 (.build z3L [(1, 1, 164)]), wN (.store 3 2 165), wV 3 (.move (vI 94))] .ret) .skip)))) (.ops [wV 166 (.bin .add none 157 (vI 1)), wM 157 166]))))))) (.seq (sQ [wV 167 (.fieldAddr 3 1), wV 168 (.load 1 false 167), wV 169 (.len false 168), wV 170 (.move (vI 0))] (.block 10 (.loop (sQ [wV 171 (.bin .lss none 170 169)] (.seq (.cond 171 .skip (.exit 10)) (.seq (.block 11 (sQ [wM 172 170, wV 173 (.idxSl 8 168 170), wV 174 (.load 8 true 173), wV 13 (.alloc 95 z7L), wM 12 172, wN (.store 8 13 174)] (sQ [wV 175 (.load 4 true 1), wV 176 (.load 8 true 13), wV 177 (kF 57 [175, 176]), wV 178 (.un .not 177)] (.cond 178 (sQ [wM 179 12, wV 180 (.build z3L [(1, 1, 179)]), wN (.store 3 2 180), wV 3 (.move (vI 95))] .ret) .skip)))) (.ops [wV 181 (.bin .add none 170 (vI 1)), wM 170 181]))))))) (sQ [wV 182 (.build z3L []), wN (.store 3 2 182), wV 3 (.move (vI 0))] .ret)))))))), [.cell 2 3 true, 3], 183⟩
theorem MG21 : Ab Tryz.prog 21 = some MF21 := by kernel_rfl
theorem checkP (hg : hGr W0 G) {shs : List PSh} (hs1 : 1 ≤ shs.length) (hs8 : shs.length ≤ 8) (hm : J5 shs ≤ 400)
 (hname : ∀ i, i < shs.length → (shs.getD i ps0).nm ≠ [] ∧ cP W0 52 [.agg [.str (shs.getD i ps0).nm, .int .i64 0, .int .i64 0, .bool false, .bool false, .bool false]] [] (.bool true) [] ∧ cP W0 53 [.row 2 ((shs.take i).map psV), .str (shs.getD i ps0).nm, .fn 54 [] []] [] (.bool false) [])
 (hcell : ∀ i, i < shs.length → ∀ j, j < (shs.getD i ps0).cs.length → ((shs.getD i ps0).cs.getD j pc0).r < 200 ∧ ((shs.getD i ps0).cs.getD j pc0).c < 52 ∧ cP W0 15 [.str ((shs.getD i ps0).cs.getD j pc0).s] [] (.bool true) [] ∧ ∀ m, j = m + 1 → ((shs.getD i ps0).cs.getD m pc0).r < ((shs.getD i ps0).cs.getD j pc0).r ∨ ((shs.getD i ps0).cs.getD m pc0).r = ((shs.getD i ps0).cs.getD j pc0).r ∧ ((shs.getD i ps0).cs.getD m pc0).c < ((shs.getD i ps0).cs.getD j pc0).c) :
 cP W0 21 [bkV shs] [] (.tup [.agg z3L, .int .i64 0]) [] := by
 have hA : A8 0 [.agg [.row 2 (shs.map psV), .nilSl, .nilSl, .nilSl]] = true := by show cond (cond (A8 0 (shs.map psV)) true false) true false = true; rw [Ai]; rfl
 refine oF MG21 ?_
 refine sO (mV (v := .ptr 0 0) rfl (mV (v := .ptr 1 0) rfl (x1 rfl (sq (sO (m2 rfl rfl (mV (v := .int .i64 ((shs.length : Nat) : Int)) (Fe rfl) (mF rfl (m3 rfl rfl rfl (mV (v := .int .i64 ((shs.length : Nat) : Int)) (Fe rfl) (mF rfl (m2 rfl rfl (mV (v := .agg [.row 2 (shs.map psV), .nilSl, .nilSl, .nilSl]) rfl (mC rfl (A1.pure hA rfl (manyP hg (fun n => rfl) (by omega) (by omega)) _) (mF rfl (mV rfl (m4 rfl rfl rfl rfl (mBk hg (gS rfl) (c := false) rfl rfl rfl (mV rfl (m4 rfl rfl rfl rfl (mBk hg (gS rfl) (c := false) rfl rfl rfl (mV rfl (m4 rfl rfl rfl rfl (mBk hg (gS rfl) (c := false) rfl rfl rfl (x1 rfl (cF rfl (kM (sq (sO (m2 rfl rfl (mV (v := .int .i64 ((shs.length : Nat) : Int)) (Fe rfl) (x1 rfl (bM ?_)))))))))))))))))))))))))))))))))
 refine ExM.loopJ (σ := Nat) (τ := Unit) (fun i => ⟨.al [(1, .ptr 0 0), (2, .ptr 1 0), (49, .row 2 (shs.map psV)), (50, .int .i64 ((shs.length : Nat) : Int)), (51, .int .i64 ((i : Nat) : Int))], [A2.cells 42 [.row 2 (shs.map psV), .nilSl, .nilSl, .nilSl] false, A2.cells 47 z3L false], 183⟩) (fun i => i ≤ shs.length) (fun i => shs.length - i) 0 0 (fun _ => ⟨.al [(1, .ptr 0 0), (2, .ptr 1 0)], [A2.cells 42 [.row 2 (shs.map psV), .nilSl, .nilSl, .nilSl] false, A2.cells 47 z3L false], 183⟩) (fun _ => True) (Ac rfl rfl (sb4 rfl rfl rfl rfl (((( sbC rfl (sbN))))))) (Nat.zero_le _) ?_ ?_
 · rintro i hi
   have hi : i ≤ shs.length := hi
   by_cases hlt : i < shs.length
   · obtain ⟨n1, n2, n3⟩ := hname i hlt
     refine sO (mT rfl (mn (sq (cT rfl (kM (sq (bM (sO (mV rfl (mS (v := .eptr (psV (shs.getD i ps0)) 0) (He rfl rfl rfl hlt) (mV rfl (mV (v := .ptr 2 0) rfl (mV rfl (A6 hg gN rfl (mn (sq ?_))))))))))))))))
     refine ExM.draw hg ?_
     refine qV rfl (qV rfl (qBk (c := false) rfl rfl (by rw [bFn]; exact n1) (qV rfl (qGY rfl (qV rfl (qGY rfl (qV rfl (qGY rfl (qV rfl (qGY rfl (Cc rfl rfl (A1.pure rfl rfl n2 _) ?_)))))))))))
     refine qGY rfl (B1 rfl rfl trivial (B1 rfl rfl trivial (B1 rfl rfl trivial (qGY rfl (B1 rfl rfl trivial (qGY rfl (B1 rfl rfl trivial (qGY rfl (B1 rfl rfl trivial (qGY rfl (B1 (v := .row 2 ((shs.take i).map psV)) (oCutM rfl rfl (by omega)) rfl (by first | exact trivial | decide | (simp only [Au, Af, and_true, List.length_map]; omega)) (?_))))))))))))
     refine qGY rfl (B1 rfl rfl trivial (qGY rfl (B1 rfl rfl trivial (qGY rfl (Cc rfl rfl (A1.pure (by show cond (A8 0 ((shs.take i).map psV)) _ false = true; rw [Ai]; rfl) rfl n3 _) (B1 rfl rfl trivial (G8 (?_))))))))
     refine cF rfl (kM (oM ?_))
     refine mFz (s1 := ⟨.al [(1, .ptr 0 0), (2, .ptr 1 0), (49, .row 2 (shs.map psV)), (50, .int .i64 ((shs.length : Nat) : Int)), (51, .int .i64 ((i : Nat) : Int))], [A2.cells 42 [.row 2 (shs.map psV), .nilSl, .nilSl, .nilSl] false, A2.cells 47 z3L false], 183⟩) (Ae 2 rfl (Nat.zero_le _) rfl (by show cond (cond (A8 2 (shs.map psV)) true false) true false = true; rw [Ai]; rfl) (fzC rfl (Gg (by decide)) (fzC rfl (Gg (by decide)) (fzC rfl (Ir (Ai _)) (fI (fI fzN)))))) ?_
     refine mI ((i + 1 : Nat) : Int) rfl (x1 rfl ?_)
     exact ⟨(i + 1), (by omega : i + 1 ≤ shs.length), (by show shs.length - (i + 1) < shs.length - i; omega), Ac rfl rfl (sb4 rfl rfl rfl rfl (((( sbC rfl (sbN))))))⟩
   · refine sO (mF rfl (mn (sq (cF rfl ?_))))
     exact ExM.exit (.inl ⟨rfl, (), trivial, Ac rfl rfl (sbC rfl (sbC rfl (sbN)))⟩)
 · rintro _ s' hJ hs
   refine ExM.sub hs ?_
   refine sq (sO (m2 rfl rfl (mV (v := .int .i64 ((shs.length : Nat) : Int)) (Fe rfl) (x1 rfl (bM ?_)))))
   refine ExM.loopJ (σ := Nat) (τ := Unit) (fun i => ⟨.al [(1, .ptr 0 0), (2, .ptr 1 0), (79, .row 2 (shs.map psV)), (80, .int .i64 ((shs.length : Nat) : Int)), (81, .int .i64 ((i : Nat) : Int))], [A2.cells 42 [.row 2 (shs.map psV), .nilSl, .nilSl, .nilSl] false, A2.cells 47 z3L false], 183⟩) (fun i => i ≤ shs.length) (fun i => shs.length - i) 0 2 (fun _ => ⟨.al [(1, .ptr 0 0), (2, .ptr 1 0)], [A2.cells 42 [.row 2 (shs.map psV), .nilSl, .nilSl, .nilSl] false, A2.cells 47 z3L false], 183⟩) (fun _ => True) (Ac rfl rfl (sb4 rfl rfl rfl rfl (((( sbC rfl (sbN))))))) (Nat.zero_le _) ?_ ?_
   · rintro i hi
     have hi : i ≤ shs.length := hi
     by_cases hlt : i < shs.length
     · have hcl : (shs.getD i ps0).cs.length ≤ 400 := by have := Rf hlt; have := Wq (shs := shs) (i + 1); omega
       refine sO (mT rfl (mn (sq (cT rfl (kM (sq (bM (sO (mV rfl (mS (v := .eptr (psV (shs.getD i ps0)) 0) (He rfl rfl rfl hlt) (mV rfl (mV (v := .ptr 2 0) rfl (mV rfl (A6 hg gN rfl (mn (sO (m2 rfl rfl (mV (v := .int .i64 (((shs.getD i ps0).cs.length : Nat) : Int)) (Fe rfl) (x1 rfl (bM ?_))))))))))))))))))))
       refine ExM.loopJ (σ := Nat) (τ := Unit) (fun j => ⟨.al [(1, .ptr 0 0), (2, .ptr 1 0), (79, .row 2 (shs.map psV)), (80, .int .i64 ((shs.length : Nat) : Int)), (81, .int .i64 ((i : Nat) : Int)), (6, .int .i64 ((i : Nat) : Int)), (7, .ptr 2 0), (87, .row 3 ((shs.getD i ps0).cs.map pcV)), (88, .int .i64 (((shs.getD i ps0).cs.length : Nat) : Int)), (89, .int .i64 ((j : Nat) : Int))], [A2.cells 42 [.row 2 (shs.map psV), .nilSl, .nilSl, .nilSl] false, A2.cells 47 z3L false, A2.cells 36 [.str (shs.getD i ps0).nm, .row 3 ((shs.getD i ps0).cs.map pcV)] false], 183⟩) (fun j => j ≤ (shs.getD i ps0).cs.length) (fun j => (shs.getD i ps0).cs.length - j) 0 4 (fun _ => ⟨.al [(1, .ptr 0 0), (2, .ptr 1 0), (79, .row 2 (shs.map psV)), (80, .int .i64 ((shs.length : Nat) : Int)), (81, .int .i64 ((i : Nat) : Int))], [A2.cells 42 [.row 2 (shs.map psV), .nilSl, .nilSl, .nilSl] false, A2.cells 47 z3L false, A2.cells 36 [.str (shs.getD i ps0).nm, .row 3 ((shs.getD i ps0).cs.map pcV)] false], 183⟩) (fun _ => True) (Ac rfl rfl (sb4 rfl rfl rfl rfl (((( sb4 rfl rfl rfl rfl (((( sbC rfl (sbC rfl (sbN)))))))))))) (Nat.zero_le _) ?_ ?_
       · rintro j hj
         have hj : j ≤ (shs.getD i ps0).cs.length := hj
         by_cases hjl : j < (shs.getD i ps0).cs.length
         · obtain ⟨c1, c2, c3, c4⟩ := hcell i hlt j hjl
           cases j with
           | zero =>
             refine sO (mT rfl (mn (sq (cT rfl (kM (sq (bM (sO (mV rfl (mS (v := .eptr (pcV ((shs.getD i ps0).cs.getD 0 pc0)) 0) (He rfl rfl rfl hjl) (mV rfl (mV (v := .ptr 3 0) rfl (mV rfl (A6 hg gN rfl (mn (sq ?_))))))))))))))))
             refine ExM.draw hg ?_
             refine qV rfl (qV rfl (qBk (c := false) rfl rfl (dF (by omega)) (qV rfl (qGY rfl (qV rfl (qGY rfl (qV rfl (qGY rfl (qBk (c := false) rfl rfl (dF (by omega)) (qV rfl (qV rfl ?_)))))))))))
             refine qGY rfl (B1 rfl rfl trivial (qGY rfl (B1 rfl rfl trivial (qGY rfl (qBk (c := false) rfl rfl (dF (by omega)) (B1 rfl rfl trivial (B1 rfl rfl trivial (qGY rfl (B1 rfl rfl trivial (qGY rfl (B1 rfl rfl trivial (?_))))))))))))
             refine qGY rfl (qBk (c := false) rfl rfl (dF (by omega)) (B1 rfl rfl trivial (B1 rfl rfl trivial (qGY rfl (B1 rfl rfl trivial (qGY rfl (B1 rfl rfl trivial (qGY rfl (Cc rfl rfl (A1.pure rfl rfl c3 _) (qGY rfl (B1 rfl rfl trivial (?_))))))))))))
             refine qV rfl (qV rfl (qGY rfl (qV rfl (qGY rfl (qBk (c := false) rfl rfl rfl (qGY rfl (qV rfl (qGN rfl rfl (qGN rfl rfl (qGN rfl rfl (qGN rfl rfl (qGN rfl rfl (qGN rfl rfl (qGN rfl rfl (qGN rfl rfl (qGN rfl rfl (qGY rfl (qV rfl (qV rfl (G8 (ExM.condF hg rfl (ExM.skip (ExM.ops hg ?_)))))))))))))))))))))))
             refine mFz (s1 := ⟨.al [(1, .ptr 0 0), (2, .ptr 1 0), (79, .row 2 (shs.map psV)), (80, .int .i64 ((shs.length : Nat) : Int)), (81, .int .i64 ((i : Nat) : Int)), (6, .int .i64 ((i : Nat) : Int)), (7, .ptr 2 0), (87, .row 3 ((shs.getD i ps0).cs.map pcV)), (88, .int .i64 (((shs.getD i ps0).cs.length : Nat) : Int)), (89, .int .i64 ((0 : Nat) : Int))], [A2.cells 42 [.row 2 (shs.map psV), .nilSl, .nilSl, .nilSl] false, A2.cells 47 z3L false, A2.cells 36 [.str (shs.getD i ps0).nm, .row 3 ((shs.getD i ps0).cs.map pcV)] false], 183⟩) (Ae 3 rfl (Nat.zero_le _) rfl (by show cond (cond (A8 3 (shs.map psV)) true false) (cond true (cond (cond (A8 3 ((shs.getD i ps0).cs.map pcV)) true false) true false) false) false = true; rw [Ai, B3]; rfl) (fzC rfl (Gg (by decide)) (fzC rfl (Gg (by decide)) (fzC rfl (Ir (Ai _)) (fI (fI (fI (fzC rfl (Gg (by decide)) (fzC rfl (Ir (B3 _)) (fI (fI fzN))))))))))) ?_
             refine mI ((0 + 1 : Nat) : Int) rfl (x1 rfl ?_)
             exact ⟨(0 + 1), (by omega : 0 + 1 ≤ (shs.getD i ps0).cs.length), (by show (shs.getD i ps0).cs.length - (0 + 1) < (shs.getD i ps0).cs.length - 0; omega), Ac rfl rfl (sb4 rfl rfl rfl rfl (((( sb4 rfl rfl rfl rfl (((( sbC rfl (sbC rfl (sbN)))))))))))⟩
           | succ m =>
             refine sO (mT rfl (mn (sq (cT rfl (kM (sq (bM (sO (mV rfl (mS (v := .eptr (pcV ((shs.getD i ps0).cs.getD (m + 1) pc0)) 0) (He rfl rfl rfl hjl) (mV rfl (mV (v := .ptr 3 0) rfl (mV rfl (A6 hg gN rfl (mn (sq ?_))))))))))))))))
             refine ExM.draw hg ?_
             refine qV rfl (qV rfl (qBk (c := false) rfl rfl (dF (by omega)) (qV rfl (qGY rfl (qV rfl (qGY rfl (qV rfl (qGY rfl (qBk (c := false) rfl rfl (dF (by omega)) (qV rfl (qV rfl ?_)))))))))))
             refine qGY rfl (B1 rfl rfl trivial (qGY rfl (B1 rfl rfl trivial (qGY rfl (qBk (c := false) rfl rfl (dF (by omega)) (B1 rfl rfl trivial (B1 rfl rfl trivial (qGY rfl (B1 rfl rfl trivial (qGY rfl (B1 rfl rfl trivial (?_))))))))))))
             refine qGY rfl (qBk (c := false) rfl rfl (dF (by omega)) (B1 rfl rfl trivial (B1 rfl rfl trivial (qGY rfl (B1 rfl rfl trivial (qGY rfl (B1 rfl rfl trivial (qGY rfl (Cc rfl rfl (A1.pure rfl rfl c3 _) (qGY rfl (B1 rfl rfl trivial (?_))))))))))))
             refine qV rfl (qV rfl (qGY rfl (qV rfl (qGY rfl (qBk (c := true) rfl rfl (by show decide (((m + 1 : Nat) : Int) > 0) = true; exact decide_eq_true (by omega)) (qGY rfl (qV rfl (qGY rfl (qV rfl (qGY rfl (qV rfl ?_)))))))))))
             refine qGY rfl (B1 rfl rfl trivial (qGY rfl (qKv (v := .int .i64 ((m : Nat) : Int)) rfl rfl trivial (B8 (by omega) (by omega) (by omega)) (qGY rfl (B1 (v := .eptr (pcV ((shs.getD i ps0).cs.getD m pc0)) 0) (He rfl rfl rfl (by omega)) rfl (by first | exact trivial | decide | (simp only [Af, and_true]; omega)) (qGY rfl (B1 rfl rfl trivial (qGY rfl (B1 rfl rfl trivial (qGY rfl (Cc rfl rfl (A1.pure rfl rfl (by have h := A2l hg (a := (shs.getD i ps0).cs.getD m pc0) (b := ((shs.getD i ps0).cs.getD (m + 1) pc0)); rw [Zh (c4 m rfl)] at h; exact h) _) (?_))))))))))))
             refine qGY rfl (qBk (c := false) rfl rfl rfl (qGY rfl (B1 rfl rfl trivial (B1 rfl rfl trivial (G8 (?_))))))
             refine cF rfl (kM (oM ?_))
             refine mFz (s1 := ⟨.al [(1, .ptr 0 0), (2, .ptr 1 0), (79, .row 2 (shs.map psV)), (80, .int .i64 ((shs.length : Nat) : Int)), (81, .int .i64 ((i : Nat) : Int)), (6, .int .i64 ((i : Nat) : Int)), (7, .ptr 2 0), (87, .row 3 ((shs.getD i ps0).cs.map pcV)), (88, .int .i64 (((shs.getD i ps0).cs.length : Nat) : Int)), (89, .int .i64 (((m + 1) : Nat) : Int))], [A2.cells 42 [.row 2 (shs.map psV), .nilSl, .nilSl, .nilSl] false, A2.cells 47 z3L false, A2.cells 36 [.str (shs.getD i ps0).nm, .row 3 ((shs.getD i ps0).cs.map pcV)] false], 183⟩) (Ae 3 rfl (Nat.zero_le _) rfl (by show cond (cond (A8 3 (shs.map psV)) true false) (cond true (cond (cond (A8 3 ((shs.getD i ps0).cs.map pcV)) true false) true false) false) false = true; rw [Ai, B3]; rfl) (fzC rfl (Gg (by decide)) (fzC rfl (Gg (by decide)) (fzC rfl (Ir (Ai _)) (fI (fI (fI (fzC rfl (Gg (by decide)) (fzC rfl (Ir (B3 _)) (fI (fI fzN))))))))))) ?_
             refine mI (((m + 1) + 1 : Nat) : Int) rfl (x1 rfl ?_)
             exact ⟨((m + 1) + 1), (by omega : (m + 1) + 1 ≤ (shs.getD i ps0).cs.length), (by show (shs.getD i ps0).cs.length - ((m + 1) + 1) < (shs.getD i ps0).cs.length - (m + 1); omega), Ac rfl rfl (sb4 rfl rfl rfl rfl (((( sb4 rfl rfl rfl rfl (((( sbC rfl (sbC rfl (sbN)))))))))))⟩
         · refine sO (mF rfl (mn (sq (cF rfl ?_))))
           exact ExM.exit (.inl ⟨rfl, (), trivial, Ac rfl rfl (sb4 rfl rfl rfl rfl (((( sbC rfl (sbN))))))⟩)
       · rintro _ s' hJ hs
         refine ExM.sub hs ?_
         refine oM ?_
         refine mFz (s1 := ⟨.al [(1, .ptr 0 0), (2, .ptr 1 0), (79, .row 2 (shs.map psV)), (80, .int .i64 ((shs.length : Nat) : Int)), (81, .int .i64 ((i : Nat) : Int))], [A2.cells 42 [.row 2 (shs.map psV), .nilSl, .nilSl, .nilSl] false, A2.cells 47 z3L false], 183⟩) (Ae 2 rfl (Nat.zero_le _) rfl (by show cond (cond (A8 2 (shs.map psV)) true false) true false = true; rw [Ai]; rfl) (fzC rfl (Gg (by decide)) (fzC rfl (Gg (by decide)) (fzC rfl (Ir (Ai _)) (fI (fI fzN)))))) ?_
         refine mI ((i + 1 : Nat) : Int) rfl (x1 rfl ?_)
         exact ⟨(i + 1), (by omega : i + 1 ≤ shs.length), (by show shs.length - (i + 1) < shs.length - i; omega), Ac rfl rfl (sb4 rfl rfl rfl rfl (((( sbC rfl (sbN))))))⟩
     · refine sO (mF rfl (mn (sq (cF rfl ?_))))
       exact ExM.exit (.inl ⟨rfl, (), trivial, Ac rfl rfl (sbC rfl (sbC rfl (sbN)))⟩)
   · rintro _ s' hJ hs
     refine ExM.sub hs ?_
     refine sq (sO (x4 rfl rfl rfl rfl (bM ?_)))
     refine ExM.unroll 1 ?_
     refine Ep.step ?_
     refine sO (mBk hg gN (c := false) rfl rfl rfl (mn (sq (cF rfl ?_))))
     refine ExM.exit ?_
     refine sq (sO (x4 rfl rfl rfl rfl (bM ?_)))
     refine ExM.unroll 1 ?_
     refine Ep.step ?_
     refine sO (mBk hg gN (c := false) rfl rfl rfl (mn (sq (cF rfl ?_))))
     refine ExM.exit ?_
     refine sq (sO (x4 rfl rfl rfl rfl (bM ?_)))
     refine ExM.unroll 1 ?_
     refine Ep.step ?_
     refine sO (mBk hg gN (c := false) rfl rfl rfl (mn (sq (cF rfl ?_))))
     refine ExM.exit ?_
     refine sO (mV rfl (A6 hg gN rfl (x1 rfl ?_)))
     exact ExM.ret (pL)
theorem mmS {b : Bool} {a x : Int} (h : a = x) : AVal.int .i64 (cond (cond b (decide (a < a)) (decide (a < a))) a a) = .int .i64 x := by
 subst h; cases (cond b (decide (a < a)) (decide (a < a))) <;> rfl
def MF137 : AFn := ⟨(sQ [wV 1 (.box 93 0), wV 2 (.move (.val (.bool false)))] (sQ [wV 3 (.fieldAddr 0 1), wV 4 (.load 1 false 3), wV 5 (.bin .geq none 4 (vI 0)), wM 6 5, wT 7 6 (.fieldAddr 0 1), wT 8 6 (.load 1 false 7), wT 9 6 (.bin .lss none 8 (vI 8)), wV 10 (.pick 6 9 (.val (.bool false))), wM 11 10, wT 12 11 (.fieldAddr 1 1), wT 13 11 (.load 1 false 12), wT 14 11 (.bin .geq none 13 (vI 0)), wV 15 (.pick 11 14 (.val (.bool false))), wM 16 15, wT 17 16 (.fieldAddr 1 1), wT 18 16 (.load 1 false 17), wT 19 16 (.bin .lss none 18 (vI 200)), wV 20 (.pick 16 19 (.val (.bool false))), wM 21 20, wT 22 21 (.fieldAddr 2 1), wT 23 21 (.load 1 false 22), wT 24 21 (.bin .geq none 23 (vI 0)), wV 25 (.pick 21 24 (.val (.bool false))), wM 26 25, wT 27 26 (.fieldAddr 2 1), wT 28 26 (.load 1 false 27), wT 29 26 (.bin .lss none 28 (vI 52)), wV 30 (.pick 26 29 (.val (.bool false))), wM 31 30, wT 32 31 (.fieldAddr 3 1), wT 33 31 (.load 1 false 32), wT 34 31 (.bin .geq none 33 (vI 1)), wV 35 (.pick 31 34 (.val (.bool false))), wM 36 35, wT 37 36 (.fieldAddr 3 1), wT 38 36 (.load 1 false 37), wT 39 36 (.fieldAddr 1 1), wT 40 36 (.load 1 false 39), wT 41 36 (.bin .sub none (vI 200) 40), wT 42 36 (.bin .leq none 38 41), wV 43 (.pick 36 42 (.val (.bool false))), wM 44 43, wT 45 44 (.fieldAddr 4 1), wT 46 44 (.load 1 false 45), wT 47 44 (.bin .geq none 46 (vI 1)), wV 48 (.pick 44 47 (.val (.bool false))), wM 49 48, wT 50 49 (.fieldAddr 4 1), wT 51 49 (.load 1 false 50), wT 52 49 (.fieldAddr 2 1), wT 53 49 (.load 1 false 52), wT 54 49 (.bin .sub none (vI 52) 53), wT 55 49 (.bin .leq none 51 54), wV 56 (.pick 49 55 (.val (.bool false))), wM 2 56] .ret)), [2], 57⟩
theorem MG137 : Ab Tryz.prog 137 = some MF137 := by kernel_rfl
def MF93 : AFn := ⟨(sQ [wV 2 (.box 93 0), wV 3 (.box 93 1), wV 4 (.alloc 93 z6L), wV 5 (.move (.val (.bool false)))] (.seq (sQ [wV 9 (.load 5 true 2), wV 10 (kF 137 [9]), wV 11 (.un .not 10), wM 12 11, wF 13 12 (.load 5 true 3), wF 14 12 (kF 137 [13]), wF 15 12 (.un .not 14), wV 16 (.pick 12 (.val (.bool true)) 15), wM 17 16, wF 18 17 (.fieldAddr 0 2), wF 19 17 (.load 1 false 18), wF 20 17 (.fieldAddr 0 3), wF 21 17 (.load 1 false 20), wF 22 17 (.bin .neq none 19 21), wV 23 (.pick 17 (.val (.bool true)) 22)] (.cond 23 (sQ [wV 24 (.build z6L []), wN (.store 5 4 24), wV 5 (.move (.val (.bool false)))] .ret) .skip)) (.seq (.draw [wV 25 (.fieldAddr 1 2), wV 26 (.load 1 false 25), wV 27 (.fieldAddr 1 3), wV 28 (.load 1 false 27), wV 29 (.mm true 26 28), wV 30 (.fieldAddr 2 2), wV 31 (.load 1 false 30), wV 32 (.fieldAddr 2 3), wV 33 (.load 1 false 32), wV 34 (.mm true 31 33), wM 6 29, wM 7 34]) (sQ [wV 35 (.fieldAddr 0 2), wV 36 (.load 1 false 35), wM 37 6, wM 38 7, wV 39 (.fieldAddr 1 2), wV 40 (.load 1 false 39), wV 41 (.fieldAddr 3 2), wV 42 (.load 1 false 41), wV 43 (.bin .add none 40 42), wV 44 (.fieldAddr 1 3), wV 45 (.load 1 false 44), wV 46 (.fieldAddr 3 3), wV 47 (.load 1 false 46), wV 48 (.bin .add none 45 47), wV 49 (.mm false 43 48), wM 50 6, wV 51 (.bin .sub none 49 50), wV 52 (.fieldAddr 2 2), wV 53 (.load 1 false 52), wV 54 (.fieldAddr 4 2), wV 55 (.load 1 false 54), wV 56 (.bin .add none 53 55), wV 57 (.fieldAddr 2 3), wV 58 (.load 1 false 57), wV 59 (.fieldAddr 4 3), wV 60 (.load 1 false 59), wV 61 (.bin .add none 58 60), wV 62 (.mm false 56 61), wM 63 7, wV 64 (.bin .sub none 62 63), wV 65 (.build z6L [(0, 1, 36), (1, 1, 37), (2, 1, 38), (3, 1, 51), (4, 1, 64)]), wV 8 (.alloc 93 z6L), wN (.store 5 8 65)] (.seq (sQ [wV 66 (.fieldAddr 3 8), wV 67 (.load 1 false 66), wV 68 (.bin .lss none 67 (vI 1)), wM 69 68, wF 70 69 (.fieldAddr 4 8), wF 71 69 (.load 1 false 70), wF 72 69 (.bin .lss none 71 (vI 1)), wV 73 (.pick 69 (.val (.bool true)) 72)] (.cond 73 (sQ [wV 74 (.build z6L []), wN (.store 5 4 74), wV 5 (.move (.val (.bool false)))] .ret) .skip)) (sQ [wV 75 (.load 5 true 8), wN (.store 5 4 75), wV 5 (.move (.val (.bool true)))] .ret)))))), [.cell 4 5 true, 5], 76⟩
theorem MG93 : Ab Tryz.prog 93 = some MF93 := by kernel_rfl
def MF38 : AFn := ⟨(sQ [wV 1 (.box 93 0), wV 2 (.move (.val (.bool false)))] (sQ [wV 6 (.load 5 true 1), wV 7 (.load 5 true 1), wV 8 (kF 93 [6, 7]), wM 5 8, wV 9 (.extract 5 0), wV 10 (.extract 5 1), wV 3 (.alloc 93 z6L), wN (.store 5 3 9), wM 4 10] (sQ [wM 11 4, wM 2 11] .ret))), [2], 12⟩
theorem MG38 : Ab Tryz.prog 38 = some MF38 := by kernel_rfl
def MF39 : AFn := ⟨(sQ [wV 2 (.box 42 0), wV 4 (.move (.val (.bool false)))] (sQ [wM 5 1, wV 6 (.bin .geq none 5 (vI 0)), wM 7 6, wT 8 7 (.move 1), wT 9 7 (.fieldAddr 0 2), wT 10 7 (.load 1 false 9), wT 11 7 (.len false 10), wT 12 7 (.bin .lss none 8 11), wV 13 (.pick 7 12 (.val (.bool false))), wM 4 13] .ret)), [4], 14⟩
theorem MG39 : Ab Tryz.prog 39 = some MF39 := by kernel_rfl
def MF14 : AFn := ⟨(sQ [wV 2 (.box 42 0), wV 3 (.box 47 1), wV 4 (.move (vI 0))] (.seq (sQ [wV 8 (.load 4 true 2), wV 9 (kF 21 [8]), wM 7 9, wV 10 (.extract 7 0), wV 11 (.extract 7 1), wV 5 (.alloc 47 z3L), wN (.store 3 5 10), wM 6 11] (sQ [wM 12 6, wV 13 (.bin .neq none 12 (vI 0))] (.cond 13 (sQ [wM 14 6, wM 4 14] .ret) .skip))) (.seq (sQ [wV 15 (.fieldAddr 0 3), wV 16 (.load 1 false 15), wV 17 (.fieldAddr 1 3), wV 18 (.load 1 false 17), wV 19 (.fieldAddr 2 3), wV 20 (.load 1 false 19), wV 21 (.build z6L [(0, 1, 16), (1, 1, 18), (2, 1, 20), (3, 1, (vI 1)), (4, 1, (vI 1))]), wV 22 (kF 38 [21]), wV 23 (.un .not 22), wM 24 23, wF 25 24 (.load 4 true 2), wF 26 24 (.fieldAddr 0 3), wF 27 24 (.load 1 false 26), wF 28 24 (kF 39 [25, 27]), wF 29 24 (.un .not 28), wV 30 (.pick 24 (.val (.bool true)) 29)] (.cond 30 (sQ [wV 4 (.move (vI 2))] .ret) .skip)) (sQ [wV 4 (.move (vI 0))] .ret)))), [4], 31⟩
theorem MG14 : Ab Tryz.prog 14 = some MF14 := by kernel_rfl
theorem A3z (hg : hGr W0 G) {r c : Nat} (hr : r < 200) (hc : c < 52) : cP W0 137 [.agg [.int .i64 0, .int .i64 ((r : Nat) : Int), .int .i64 ((c : Nat) : Int), .int .i64 1, .int .i64 1]] [] (.bool true) [] := by
 refine oF MG137 ?_
 refine sO (mV (v := .ptr 0 0) rfl (x1 rfl (sO (m2 rfl rfl (mBk hg gN (c := true) rfl rfl rfl (m3 rfl rfl rfl (mBk hg (gS rfl) (c := true) rfl rfl rfl (m4 rfl rfl rfl rfl (mT rfl (m4 rfl rfl rfl rfl (mT rfl (m4 rfl rfl rfl rfl (mT rfl (m4 rfl rfl rfl rfl (mT rfl (m4 rfl rfl rfl rfl (mBk hg (gS rfl) (c := true) rfl rfl rfl (m2 rfl rfl (m4 rfl rfl rfl rfl (mK (v := .int .i64 (200 - ((r : Nat) : Int))) rfl (B8 (by omega) (by omega) rfl) (mT rfl (m4 rfl rfl rfl rfl (mBk hg (gS rfl) (c := true) rfl rfl rfl (m2 rfl rfl (m4 rfl rfl rfl rfl (mK (v := .int .i64 (52 - ((c : Nat) : Int))) rfl (B8 (by omega) (by omega) rfl) (mT rfl (x2 rfl rfl ?_))))))))))))))))))))))))))))
 exact ExM.ret (pL)
theorem meetP (hg : hGr W0 G) {r c : Nat} (hr : r < 200) (hc : c < 52) : cP W0 93 [.agg [.int .i64 0, .int .i64 ((r : Nat) : Int), .int .i64 ((c : Nat) : Int), .int .i64 1, .int .i64 1], .agg [.int .i64 0, .int .i64 ((r : Nat) : Int), .int .i64 ((c : Nat) : Int), .int .i64 1, .int .i64 1]] [] (.tup [.agg [.int .i64 0, .int .i64 ((r : Nat) : Int), .int .i64 ((c : Nat) : Int), .int .i64 1, .int .i64 1], .bool true]) [] := by
 refine oF MG93 ?_
 refine sO (mV (v := .ptr 0 0) rfl (mV (v := .ptr 1 0) rfl (mV (v := .ptr 2 0) rfl (x1 rfl (sq (sO (mV rfl (Fg hg gN (c := true) rfl rfl (A1.pure rfl rfl (A3z hg hr hc) _) rfl (m3 rfl rfl rfl (Fg hg (gS rfl) (c := true) rfl rfl (A1.pure rfl rfl (A3z hg hr hc) _) rfl (m3 rfl rfl rfl (m4 rfl rfl rfl rfl (mBk hg (gS rfl) (c := false) rfl rfl rfl (x1 rfl (cF rfl (kM (sq ?_)))))))))))))))))
 refine ExM.draw hg ?_
 refine qV rfl (qV rfl (qV rfl (qV rfl (qKv (v := .int .i64 ((r : Nat) : Int)) rfl rfl trivial (mmS rfl) (qV rfl (qV rfl (qV rfl (qV rfl (qKv (v := .int .i64 ((c : Nat) : Int)) rfl rfl trivial (mmS rfl) (qV rfl (qV rfl ?_)))))))))))
 refine G8 (?_)
 refine sO (m4 rfl rfl rfl rfl (m4 rfl rfl rfl rfl (mI ((r + 1 : Nat) : Int) rfl (m4 rfl rfl rfl rfl (mI ((r + 1 : Nat) : Int) rfl (mK (v := .int .i64 ((r + 1 : Nat) : Int)) rfl (mmS rfl) (mV rfl (mI 1 rfl (m4 rfl rfl rfl rfl (mI ((c + 1 : Nat) : Int) rfl (m4 rfl rfl rfl rfl (mI ((c + 1 : Nat) : Int) rfl (mK (v := .int .i64 ((c + 1 : Nat) : Int)) rfl (mmS rfl) (mV rfl (mI 1 rfl (mV rfl (mV (v := .ptr 3 0) rfl (A6 hg gN rfl (mn (sq (sO (m2 rfl rfl (mBk hg gN (c := false) rfl rfl rfl (m3 rfl rfl rfl (mBk hg (gS rfl) (c := false) rfl rfl rfl (x1 rfl (cF rfl (kM (sO (mV rfl (A6 hg gN rfl (x1 rfl ?_))))))))))))))))))))))))))))))))
 exact ExM.ret (pL)
theorem bwholeP (hg : hGr W0 G) {r c : Nat} (hr : r < 200) (hc : c < 52) : cP W0 38 [.agg [.int .i64 0, .int .i64 ((r : Nat) : Int), .int .i64 ((c : Nat) : Int), .int .i64 1, .int .i64 1]] [] (.bool true) [] := by
 refine oF MG38 ?_
 refine sO (mV (v := .ptr 0 0) rfl (x1 rfl (sO (m2 rfl rfl (mC rfl (A1.pure rfl rfl (meetP hg hr hc) _) (m3 rfl rfl rfl (mV (v := .ptr 1 0) rfl (A6 hg gN rfl (x1 rfl (sO (x2 rfl rfl ?_)))))))))))
 exact ExM.ret (pL)
theorem sheetP (hg : hGr W0 G) {shs : List PSh} (h : 1 ≤ shs.length) : cP W0 39 [bkV shs, .int .i64 0] [] (.bool true) [] := by
 refine oF MG39 ?_
 refine sO (mV (v := .ptr 0 0) rfl (x1 rfl (sO (mV rfl (mBk hg gN (c := true) rfl rfl rfl (m4 rfl rfl rfl rfl (mV (v := .int .i64 ((shs.length : Nat) : Int)) (Fe rfl) (mT rfl (x2 rfl rfl ?_)))))))))
 exact ExM.ret (pL)
theorem thereP (hg : hGr W0 G) {shs : List PSh} {r c : Nat} (hr : r < 200) (hc : c < 52) (h : 1 ≤ shs.length) (hck : cP W0 21 [bkV shs] [] (.tup [.agg z3L, .int .i64 0]) []) : cP W0 14 [bkV shs, .agg [.int .i64 0, .int .i64 ((r : Nat) : Int), .int .i64 ((c : Nat) : Int)]] [] (.int .i64 0) [] := by
 have hA : A8 0 [bkV shs] = true := by show cond (blw 0 (bkV shs)) true false = true; rw [Jj]; rfl
 have hA2 : A8 0 [bkV shs, .int .i64 0] = true := by show cond (blw 0 (bkV shs)) true false = true; rw [Jj]; rfl
 refine oF MG14 ?_
 refine sO (mV (v := .ptr 0 0) rfl (mV (v := .ptr 1 0) rfl (x1 rfl (sq (sO (mV (v := bkV shs) rfl (mC rfl (A1.pure hA rfl hck _) (m3 rfl rfl rfl (mV (v := .ptr 2 0) rfl (A6 hg gN rfl (x1 rfl (sO (mV rfl (mBk hg gN (c := false) rfl rfl rfl (mn (cF rfl (kM (sq (sO (m3 rfl rfl rfl (m4 rfl rfl rfl rfl (Fg hg gN (c := true) rfl rfl (A1.pure rfl rfl (bwholeP hg hr hc) _) rfl (m2 rfl rfl (mV (v := bkV shs) rfl (m2 rfl rfl (Fg hg (gS rfl) (c := true) rfl rfl (A1.pure hA2 rfl (sheetP hg h) _) rfl (x2 rfl rfl (cF rfl (kM (sO (x1 rfl ?_)))))))))))))))))))))))))))))))
 exact ExM.ret (pL)
def clF (cs : List PCl) : List AVal := cs.flatMap fun x => [.int .i64 ((x.r : Nat) : Int), .int .i64 ((x.c : Nat) : Int), .str x.s]
theorem L6 : ∀ {cs : List PCl}, (clF cs).length = cs.length * 3
 | [] => rfl
 | x :: cs => by
   have := L6 (cs := cs)
   simp only [clF, List.flatMap_cons, lAp, lCo, lNi] at this ⊢; omega
theorem A1u : ∀ {cs : List PCl} {h : Nat}, h < cs.length → ((clF cs).drop (h * 3)).take 3 = [.int .i64 (((cs.getD h pc0).r : Nat) : Int), .int .i64 (((cs.getD h pc0).c : Nat) : Int), .str (cs.getD h pc0).s]
 | [], h, hh => absurd hh (by simp)
 | x :: cs, 0, _ => rfl
 | x :: cs, h + 1, hh => by
   have e : (h + 1) * 3 = h * 3 + 3 := by omega
   rw [e]
   exact A1u (cs := cs) (h := h) (by simpa using hh)
theorem Cb {n : Nat} : ∀ (cs : List PCl), A8 n (clF cs) = true
 | [] => rfl
 | x :: cs => by
   have h := Cb (n := n) cs
   show cond true (cond true (cond true (A8 n (clF cs)) false) false) false = true
   rw [h]; rfl
theorem oIdxO {s : St} {x i : AOpd} {k id len n : Nat} {T : TypeId} {cs : List AVal} (hx : ev G s x = some (.hsl k id 0 len none)) (hi : ev G s i = some (.int .i64 ((n : Nat) : Int))) (ho : s.H[id]? = some (.cells T cs true)) (hl : cs.length = len * k) : aop G s (.idxSl k x i) = some (.val (.optr id (n * k) (len * k)) s.H [(0, (n : Nat)), ((n : Nat) + 1, (len : Nat))]) := by
 have h1 : Gv s.H id = false := by simp only [Gv, ho]
 have h2 : J3 s.H id (len * k) = true := by simp only [J3, ho, hl, Nat.beq_refl]
 simp only [aop, hx, hi, Int.toNat_natCast, h1, h2, Nat.beq_refl, Bool.and_self, Bool.and_false, cond_true, cond_false]
theorem oLdO {s : St} {x : AOpd} {id h : Nat} {T : TypeId} {cs : List PCl} (hx : ev G s x = some (.optr id (h * 3) (cs.length * 3))) (ho : s.H[id]? = some (.cells T (clF cs) true)) (hl : h < cs.length) : aop G s (.load 3 true x) = some (.val (pcV (cs.getD h pc0)) s.H []) := by
 have h1 : Bg 3 true (clF cs) (h * 3) = some (pcV (cs.getD h pc0)) := by
  simp only [Bg, A1u hl]
  rfl
 simp only [aop, hx, Hy, ho, L6, Nat.beq_refl, cond_true, h1, Jx]
def MF48 : AFn := ⟨(sQ [wV 4 (.box 33 1), wV 6 (.move (vI 0)), wV 7 (.move (.val (.bool false)))] (sQ [wM 12 0, wV 13 (.len false 12), wM 8 13] (sQ [wM 14 8, wV 9 (.move (vI 0)), wM 10 14] (.seq (.block 0 (.loop (.seq (sQ [wM 15 9, wM 16 10, wV 17 (.bin .lss none 15 16)] (.cond 17 .skip (.exit 0))) (.block 1 (sQ [wM 18 9, wM 19 10, wV 20 (.bin .add none 18 19), wV 21 (.conv (.int .u64) 20), wV 22 (.bin .shr none 21 (.val (.int .u64 1))), wV 23 (.conv (.int .i64) 22), wM 11 23] (.seq (.draw [wM 24 2, wM 25 0, wM 26 11, wV 27 (.idxSl 3 25 26), wV 28 (.load 3 true 27), wV 29 (.load 3 true 4), wV 30 (.call 24 [28, 29]), wV 31 (.bin .lss none 30 (vI 0))]) (.cond 31 (.ops [wM 32 11, wV 33 (.bin .add none 32 (vI 1)), wM 9 33]) (.ops [wM 34 11, wM 10 34])))))))) (.seq (.draw [wM 35 9, wM 36 9, wM 37 8, wV 38 (.bin .lss none 36 37), wM 39 38, wT 40 39 (.move 2), wT 41 39 (.move 0), wT 42 39 (.move 9), wT 43 39 (.idxSl 3 41 42), wT 44 39 (.load 3 true 43), wT 45 39 (.load 3 true 4), wT 46 39 (.call 40 [44, 45]), wT 47 39 (.bin .eql none 46 (vI 0)), wV 48 (.pick 39 47 (.val (.bool false))), wM 6 35, wM 7 48]) .ret))))), [6, 7], 49⟩
theorem MG48 : Ab Tryz.prog 48 = some MF48 := by kernel_rfl
def MF17 : AFn := ⟨(sQ [wV 3 (.box 47 1), wV 4 (.move (vI 0)), wV 5 (.move (.val (.bool false)))] (sQ [wM 6 0, wV 7 (.fieldAddr 1 3), wV 8 (.load 1 false 7), wV 9 (.fieldAddr 2 3), wV 10 (.load 1 false 9), wV 11 (.build z8L [(0, 1, 8), (1, 1, 10)]), wV 12 (kF 48 [6, 11, (.val (.fn 49 [] []))]), wV 13 (.extract 12 0), wV 14 (.extract 12 1), wM 4 13, wM 5 14] .ret)), [4, 5], 15⟩
theorem MG17 : Ab Tryz.prog 17 = some MF17 := by kernel_rfl
theorem shrE {n h : Nat} (e : n / 2 = h) : AVal.int .u64 (((n : Nat) : Int).fdiv (2 ^ (min (1 : Int).toNat IntKind.u64.bits))) = .int .u64 ((h : Nat) : Int) := by
 subst e
 have : ((2 : Int) ^ (min (1 : Int).toNat IntKind.u64.bits)) = 2 := by rfl
 rw [this, Int.fdiv_eq_ediv_of_nonneg _ (by omega)]
 rfl
theorem u64E {n : Nat} (h : n < 18446744073709551616) : AVal.int .u64 (IntKind.u64.wrap ((n : Nat) : Int)) = .int .u64 ((n : Nat) : Int) := by
 have : IntKind.u64.wrap ((n : Nat) : Int) = (n : Nat) := by
  show ((n : Nat) : Int) % 18446744073709551616 = _
  omega
 rw [this]
theorem searchP (hg : hGr W0 G) {cs : List PCl} {t : PCl} (hn : cs.length ≤ 1000000) (hord : ∀ h, h < cs.length → Vp (cs.getD h pc0) t = -1) : cP W0 48 [.hsl 3 0 0 cs.length none, pcV t, .fn 49 [] []] [A2.cells 33 (clF cs) true] (.tup [.int .i64 ((cs.length : Nat) : Int), .bool false]) [A2.cells 33 (clF cs) true] := by
 refine oF MG48 ?_
 refine sO (mV (v := .ptr 1 0) rfl (x2 rfl rfl (sO (mV rfl (mV (v := .int .i64 ((cs.length : Nat) : Int)) rfl (x1 rfl (sO (x3 rfl rfl rfl (sq (bM ?_))))))))))
 refine ExM.loopJ (σ := Nat) (τ := Unit) (fun i => ⟨.al [(0, .hsl 3 0 0 cs.length none), (2, .fn 49 [] []), (4, .ptr 1 0), (8, .int .i64 ((cs.length : Nat) : Int)), (9, .int .i64 ((i : Nat) : Int)), (10, .int .i64 ((cs.length : Nat) : Int))], [A2.cells 33 (clF cs) true, A2.cells 33 [.int .i64 ((t.r : Nat) : Int), .int .i64 ((t.c : Nat) : Int), .str t.s] false], 49⟩) (fun i => i ≤ cs.length) (fun i => cs.length - i) 0 0 (fun _ => ⟨.al [(0, .hsl 3 0 0 cs.length none), (2, .fn 49 [] []), (4, .ptr 1 0), (8, .int .i64 ((cs.length : Nat) : Int)), (9, .int .i64 ((cs.length : Nat) : Int))], [A2.cells 33 (clF cs) true, A2.cells 33 [.int .i64 ((t.r : Nat) : Int), .int .i64 ((t.c : Nat) : Int), .str t.s] false], 49⟩) (fun _ => True) (Ac rfl rfl (sb4 rfl rfl rfl rfl (((( sbC rfl (sbC rfl (sbN)))))))) (Nat.zero_le _) ?_ ?_
 · rintro i hi
   have hi : i ≤ cs.length := hi
   by_cases hlt : i < cs.length
   · have hm : (i + cs.length) / 2 < cs.length := by omega
     have hm2 : i ≤ (i + cs.length) / 2 := by omega
     generalize hmd : (i + cs.length) / 2 = h at hm hm2
     refine sq (sO (m2 rfl rfl (mT rfl (mn (cT rfl (kM (bM (sO (m2 rfl rfl (mI ((i + cs.length : Nat) : Int) rfl (mK (v := .int .u64 (((i + cs.length : Nat)) : Int)) rfl (u64E (by omega)) (mKs (v := .int .u64 ((h : Nat) : Int)) rfl (shrE hmd) (mI ((h : Nat) : Int) rfl (x1 rfl (sq ?_)))))))))))))))
     refine ExM.draw hg ?_
     refine qV rfl (qV rfl (qV rfl (B1 (v := .optr 0 (h * 3) (cs.length * 3)) (oIdxO rfl rfl rfl L6) rfl (by first | exact trivial | decide | (simp only [Af, and_true]; omega)) (B1 (v := pcV (cs.getD h pc0)) (oLdO rfl rfl hm) rfl trivial (B1 (v := pcV t) rfl rfl trivial (Cc rfl rfl (A1.pure rfl rfl (by have q := A2l hg (a := cs.getD h pc0) (b := t); rw [hord h hm] at q; exact q) _) (qBk (c := true) rfl rfl rfl (G8 (ExM.condT hg rfl (ExM.ops hg (Ag hg gN rfl rfl trivial (mKv hg gN (v := .int .i64 ((h + 1 : Nat) : Int)) rfl rfl (by first | exact trivial | (simp only [Af, and_true, lCo, lNi, lAp]; omega)) (B8 (by omega) (by omega) (by omega)) (Ag hg gN rfl rfl trivial (Eu (?_)))))))))))))))
     exact ⟨(h + 1), (by omega : h + 1 ≤ cs.length), (by show cs.length - (h + 1) < cs.length - i; omega), Ac rfl rfl (sb4 rfl rfl rfl rfl (((( sbC rfl (sbC rfl (sbN)))))))⟩
   · have he : i = cs.length := by omega
     subst he
     refine sq (sO (m2 rfl rfl (mF rfl (mn (cF rfl ?_)))))
     exact ExM.exit (.inl ⟨rfl, (), trivial, Ac rfl rfl (sb4 rfl rfl rfl rfl (((( sbC rfl (sbN))))))⟩)
 · rintro _ s' hJ hs
   refine ExM.sub hs ?_
   refine sq ?_
   refine ExM.draw hg ?_
   refine qV rfl (qV rfl (qV rfl (qBk (c := false) rfl rfl (dF (by omega)) (qBk (c := false) rfl rfl rfl (qGN rfl rfl (qGN rfl rfl (qGN rfl rfl (qGN rfl rfl (qGN rfl rfl (qGN rfl rfl (qGN rfl rfl (qGN rfl rfl (qV rfl (qV rfl (qV rfl (G8 (?_)))))))))))))))))
   exact ExM.ret (A0 trivial rfl (by show cond (A8 1 (clF cs)) true false = true; rw [Cb]; rfl) 100 rfl rfl)
theorem lift1 {f : FuncId} {args cs cs' : List AVal} {v : AVal} {H : Hz} {i : Nat} {T : TypeId} {b b' : Bool} (hi : H[i]? = some (.cells T cs b)) (hcl : ∀ n, A8 n cs = true) (hcl' : ∀ n, A8 n cs' = true) (ha : A8 1 args = true) (hc : cP W0 f args [.cells T cs b] v [.cells T cs' b']) :
 cP W0 f (Eg (fun _ => i) args) H (Abs.ren (fun _ => i) v) (H.set i (.cells T cs' b')) := by
 have hlt : i < H.length := (List.getElem?_eq_some_iff.1 hi).1
 have hs : Sel [i] 1 [A2.cells T cs b] H (fun _ => i) := by
  refine ⟨by simp, rfl, rfl, fun j hj => ?_, fun k hk => ?_, fun j o ho => ?_⟩
  · match j, hj with
    | 0, _ => rfl
  · have : k = i := by simpa using hk
    subst this; exact hlt
  · match j, ho with
    | 0, ho => simp only [List.getElem?_cons_zero, iS] at ho; subst ho; simp only [D6, Aq cs (hcl 0)]; exact hi
    | j + 1, ho => simp at ho
 have h := A1.ren (H := H) (H0 := [A2.cells T cs b]) (H0' := [A2.cells T cs' b']) [i] (fun _ => i) hs (by show cond (A8 1 cs) true false = true; rw [hcl]; rfl) ha rfl hc
 have e : Bt [i] ([A2.cells T cs' b'].map (D6 fun _ => i)) H = H.set i (.cells T cs' b') := by
  show H.set i (D6 (fun _ => i) (.cells T cs' b')) = _
  simp only [D6, Aq cs' (hcl' 0)]
 rw [e] at h
 exact h
theorem searchL (hg : hGr W0 G) {H : Hz} {i : Nat} {cs : List PCl} {r c : Nat} (hi : H[i]? = some (A2.cells 33 (clF cs) true)) (hs : H.set i (A2.cells 33 (clF cs) true) = H) (hn : cs.length ≤ 1000000) (hord : ∀ h, h < cs.length → Vp (cs.getD h pc0) ⟨r, c, []⟩ = -1) : cP W0 48 [.hsl 3 i 0 cs.length none, .agg [.int .i64 ((r : Nat) : Int), .int .i64 ((c : Nat) : Int), .str []], .fn 49 [] []] H (.tup [.int .i64 ((cs.length : Nat) : Int), .bool false]) H := by
 have h := lift1 (i := i) hi (fun _ => Cb cs) (fun _ => Cb cs) rfl (searchP hg (t := ⟨r, c, []⟩) hn hord)
 rw [hs] at h
 exact h
theorem findP (hg : hGr W0 G) {cs : List PCl} {r c : Nat} (hn : cs.length ≤ 1000000) (hord : ∀ h, h < cs.length → Vp (cs.getD h pc0) ⟨r, c, []⟩ = -1) : cP W0 17 [.hsl 3 0 0 cs.length none, .agg [.int .i64 0, .int .i64 ((r : Nat) : Int), .int .i64 ((c : Nat) : Int)]] [A2.cells 33 (clF cs) true] (.tup [.int .i64 ((cs.length : Nat) : Int), .bool false]) [A2.cells 33 (clF cs) true] := by
 refine oF MG17 ?_
 refine sO (mV (v := .ptr 1 0) rfl (x2 rfl rfl (sO (mV rfl (mV (v := .ptr 1 1) rfl (mV rfl (mV (v := .ptr 1 2) rfl (m2 rfl rfl (mC rfl (searchL hg rfl rfl hn hord) (x4 rfl rfl rfl rfl ?_))))))))))
 exact ExM.ret (A0 trivial rfl (by show cond (A8 1 (clF cs)) true false = true; rw [Cb]; rfl) 100 rfl rfl)
theorem A3q {cs : List PCl} {t : PCl} : clF (cs ++ [t]) = clF cs ++ [.int .i64 ((t.r : Nat) : Int), .int .i64 ((t.c : Nat) : Int), .str t.s] := by
 simp [clF]
theorem oCutO {s : St} {x a : AOpd} {k id len n : Nat} {T : TypeId} {cs : List AVal} (hx : ev G s x = some (.hsl k id 0 len none)) (ha : ev G s a = some (.int .i64 ((n : Nat) : Int))) (ho : s.H[id]? = some (.cells T cs true)) (hl : cs.length = len * k) (hk : Nat.ble 1 k = true) : aop G s (.cutSl k x (some a) none) = some (.val (.hsl k id (n * k) (len - n) none) s.H [(1, ((n : Nat) : Int)), (((n : Nat) : Int), ((len : Nat) : Int)), (((len : Nat) : Int), ((len : Nat) : Int))]) := by
 have h1 : Gv s.H id = false := by simp only [Gv, ho]
 have h2 : J3 s.H id (len * k) = true := by simp only [J3, ho, hl, Nat.beq_refl]
 simp only [aop, hx, ha, oev, Qa, h1, h2, hk, Nat.beq_refl, Bool.and_self, cond_true, cond_false, Vm, Option.getD_none, Int.toNat_natCast]
theorem oAppO {s : St} {x y : AOpd} {cs : List PCl} {t : PCl} {jd vd : Nat} {c c' : Option Nat} {H' : Hz} (hx : ev G s x = some (.hsl 3 jd 0 cs.length c)) (hy : ev G s y = some (.hsl 3 vd 0 1 c')) (hj : s.H[jd]? = some (.cells 33 (clF cs) true)) (hv : s.H[vd]? = some (.cells 33 [.int .i64 ((t.r : Nat) : Int), .int .i64 ((t.c : Nat) : Int), .str t.s] false)) (hH : s.H.set jd (.cells 33 (clF (cs ++ [t])) true) = H') :
 aop G s (.append 33 3 32 x y) = some (.val (.hsl 3 jd 0 (cs ++ [t]).length none) H' [(((cs.length + 1) * 32 : Nat), C9), ((cs.length + 1 : Nat), C9)]) := by
 subst hH
 have h2 : (cs ++ [t]).length = cs.length + 1 := by simp
 have hl : (clF cs).length = cs.length * 3 := L6
 have hy' : Dq 3 s.H (.hsl 3 vd 0 1 c') = some ([.int .i64 ((t.r : Nat) : Int), .int .i64 ((t.c : Nat) : Int), .str t.s], 1) := by
  simp only [Dq, hv]; rfl
 rw [h2, A3q]
 simp only [aop, hx, hy, Qj, hy', G9, hj, hl, Nat.beq_refl, cond_true, Bool.and_self]
 rfl
def MF19 : AFn := ⟨(sQ [wV 6 (.move (.val (.nilSl)))] (sQ [wM 10 0, wM 11 1, wV 12 (.cutSl 3 10 (some 11) none)] (sQ [wM 13 2, wV 14 (.len false 13), wM 7 14] (.seq (sQ [wM 15 7, wV 16 (.bin .eql none 15 (vI 0))] (.cond 16 (sQ [wM 17 0, wM 6 17] .ret) .skip)) (sQ [wM 18 0, wV 19 (.len false 18), wM 8 19] (.seq (sQ [wM 20 1, wM 21 8, wV 22 (.bin .eql none 20 21)] (.cond 22 (sQ [wM 23 0, wM 24 2, wV 25 (.append 33 3 32 23 24), wM 6 25] .ret) .skip)) (.seq (.seq .stuck (.cond 31 (.seq .stuck (.seq .stuck (.seq .stuck (sQ [wM 55 9, wM 6 55] .ret)))) .skip)) (sQ [wM 56 0, wM 57 8, wM 58 7, wV 59 (.bin .add none 57 58), wV 60 (.cutSl 3 56 none (some 59)), wM 0 60] (.seq (sQ [wM 61 2, wM 62 0, wM 63 1, wM 64 7, wV 65 (.bin .add none 63 64), wV 66 (.cutSl 3 62 (some 65) none), wV 67 (kF 50 [61, 66]), wV 68 (.un .not 67)] (.cond 68 (.seq .stuck (.seq .stuck (sQ [wM 83 0, wM 6 83] .ret))) .skip)) (.seq .stuck (sQ [wM 89 0, wM 90 1, wV 91 (.cutSl 3 89 (some 90) none), wM 92 7, wV 93 (kF 51 [91, 92])] (sQ [wM 94 0, wM 6 94] .ret)))))))))))), [6], 95⟩
theorem MG19 : Ab Tryz.prog 19 = some MF19 := by kernel_rfl
theorem insP (hg : hGr W0 G) {cs : List PCl} {t : PCl} (hn : cs.length ≤ 1000000) (h1 : 1 ≤ cs.length) : cP W0 19 [.hsl 3 0 0 cs.length none, .int .i64 ((cs.length : Nat) : Int), .hsl 3 1 0 1 (some 1)] [A2.cells 33 (clF cs) true, A2.cells 33 [.int .i64 ((t.r : Nat) : Int), .int .i64 ((t.c : Nat) : Int), .str t.s] false] (.hsl 3 0 0 (cs ++ [t]).length none) [A2.cells 33 (clF (cs ++ [t])) true, A2.cells 33 [.int .i64 ((t.r : Nat) : Int), .int .i64 ((t.c : Nat) : Int), .str t.s] false] := by
 refine oF MG19 ?_
 refine sO (x1 rfl (sO (m2 rfl rfl (mS (v := .hsl 3 0 (cs.length * 3) (cs.length - cs.length) none) (oCutO rfl rfl rfl L6 rfl) (mn (sO (x3 rfl rfl rfl (sq (sO (mV rfl (mBk hg gN (c := false) rfl rfl rfl (mn (cF rfl (kM (sO (x3 rfl rfl rfl (sq (sO (m2 rfl rfl (mBk hg gN (c := true) rfl rfl (by show ((((cs.length : Nat) : Int)) == ((cs.length : Nat) : Int)) = true; rw [beq_self_eq_true]) (mn (cT rfl (sO (m2 rfl rfl (mS (v := .hsl 3 0 0 (cs ++ [t]).length none) (oAppO rfl rfl rfl rfl rfl) (x1 rfl ?_))))))))))))))))))))))))))
 exact ExM.ret (pS)
theorem clF_map (cs : List PCl) : (cs.map pcV).flatMap AVal.cells = clF cs := by
 induction cs with
 | nil => rfl
 | cons c cs ih => rw [List.map_cons, List.flatMap_cons, ih]; rfl
theorem clF_one (cs : List PCl) : (clF cs).all AVal.one = true := by
 induction cs with
 | nil => rfl
 | cons c cs ih => exact ih
theorem oAppR {s : St} {x y : AOpd} {c0 : PCl} {cs : List PCl} {id : Nat} {T : TypeId} (hx : ev G s x = some (.hsl 3 id 0 0 (some 0))) (hy : ev G s y = some (.row 3 ((c0 :: cs).map pcV))) (ho : s.H[id]? = some (.cells T [] false)) :
 aop G s (.append 33 3 32 x y) = some (.val (.hsl 3 s.H.length 0 (c0 :: cs).length none) (s.H ++ [.cells 33 (clF (c0 :: cs)) true]) [(((0 + (c0 :: cs).length) * 32 : Nat), C9), ((0 + (c0 :: cs).length : Nat), C9)]) := by
 have hy' : Dq 3 s.H (.row 3 ((c0 :: cs).map pcV)) = some (clF (c0 :: cs), (c0 :: cs).length) := by
  have h := clF_map (c0 :: cs)
  simp only [Dq, Nat.beq_refl, cond_true, h, List.length_map]
 have h0 : Nat.beq (c0 :: cs).length 0 = false := rfl
 simp only [aop, hx, hy, Qj, hy', G9, ho, h0, clF_one, Nat.beq_refl, cond_true, cond_false]
 rw [Nat.zero_add]
 rfl
def MF42 : AFn := ⟨(sQ [wV 2 (.move (.val (.nilSl)))] (.seq (sQ [wM 3 0, wV 4 (.bin .eql (some (.slice 36)) 3 (.val (.nilSl)))] (.cond 4 (sQ [wV 2 (.move (.val (.nilSl)))] .ret) .skip)) (sQ [wV 5 (.bslice 36 2 0 Qf []), wM 6 0, wV 7 (.append 36 2 40 5 6), wM 2 7] .ret))), [2], 8⟩
theorem MG42 : Ab Tryz.prog 42 = some MF42 := by kernel_rfl
def MF43 : AFn := ⟨(sQ [wV 2 (.move (.val (.nilSl)))] (.seq (sQ [wM 3 0, wV 4 (.bin .eql (some (.slice 88)) 3 (.val (.nilSl)))] (.cond 4 (sQ [wV 2 (.move (.val (.nilSl)))] .ret) .skip)) (sQ [wV 5 (.bslice 88 3 0 A1l []), wM 6 0, wV 7 (.append 88 3 40 5 6), wM 2 7] .ret))), [2], 8⟩
theorem MG43 : Ab Tryz.prog 43 = some MF43 := by kernel_rfl
def MF44 : AFn := ⟨(sQ [wV 2 (.move (.val (.nilSl)))] (.seq (sQ [wM 3 0, wV 4 (.bin .eql (some (.slice 91)) 3 (.val (.nilSl)))] (.cond 4 (sQ [wV 2 (.move (.val (.nilSl)))] .ret) .skip)) (sQ [wV 5 (.bslice 91 6 0 z10L []), wM 6 0, wV 7 (.append 91 6 72 5 6), wM 2 7] .ret))), [2], 8⟩
theorem MG44 : Ab Tryz.prog 44 = some MF44 := by kernel_rfl
def MF45 : AFn := ⟨(sQ [wV 2 (.move (.val (.nilSl)))] (.seq (sQ [wM 3 0, wV 4 (.bin .eql (some (.slice 95)) 3 (.val (.nilSl)))] (.cond 4 (sQ [wV 2 (.move (.val (.nilSl)))] .ret) .skip)) (sQ [wV 5 (.bslice 95 8 0 z7L []), wM 6 0, wV 7 (.append 95 8 72 5 6), wM 2 7] .ret))), [2], 8⟩
theorem MG45 : Ab Tryz.prog 45 = some MF45 := by kernel_rfl
def MF46 : AFn := ⟨(sQ [wV 2 (.move (.val (.nilSl)))] (.seq (sQ [wM 3 0, wV 4 (.bin .eql (some (.slice 33)) 3 (.val (.nilSl)))] (.cond 4 (sQ [wV 2 (.move (.val (.nilSl)))] .ret) .skip)) (sQ [wV 5 (.bslice 33 3 0 z8L []), wM 6 0, wV 7 (.append 33 3 32 5 6), wM 2 7] .ret))), [2], 8⟩
theorem MG46 : Ab Tryz.prog 46 = some MF46 := by kernel_rfl
def MF16 : AFn := ⟨(sQ [wV 1 (.box 42 0), wV 2 (.alloc 42 z4L)] (.seq (.drawC [wV 5 (.fieldAddr 0 1), wV 6 (.load 1 false 5), wV 7 (kF 42 [6]), wV 8 (.fieldAddr 1 1), wV 9 (.load 1 false 8), wV 10 (kF 43 [9]), wV 11 (.fieldAddr 2 1), wV 12 (.load 1 false 11), wV 13 (kF 44 [12]), wV 14 (.fieldAddr 3 1), wV 15 (.load 1 false 14), wV 16 (kF 45 [15]), wV 17 (.fieldAddr 0 1), wN (.store 1 17 7), wV 18 (.fieldAddr 1 1), wN (.store 1 18 10), wV 19 (.fieldAddr 2 1), wN (.store 1 19 13), wV 20 (.fieldAddr 3 1), wN (.store 1 20 16)] ⟨20, [1, 1, 3, 1, 1, 3, 1, 1, 3, 1, 1, 3, 1, 2, 1, 2, 1, 2, 1, 2], [0, 1, 3, 0, 8, 31, 0, 64, 255, 0, 512, 2047, 1759, 8191, 16383, 32767, 65535, 131071, 262143, 524287], [0, 4, 36, 292, 2340, 10532, 43300, 174372, 698660]⟩) (.seq (sQ [wV 21 (.fieldAddr 0 1), wV 22 (.load 1 false 21), wV 23 (.len false 22), wV 24 (.move (vI 0))] (.block 0 (.loop (sQ [wV 25 (.bin .lss none 24 23)] (.seq (.cond 25 .skip (.exit 0)) (.seq (.block 1 (sQ [wM 26 24, wM 3 26] (.drawC [wV 27 (.fieldAddr 0 1), wV 28 (.load 1 false 27), wM 29 3, wV 30 (.fieldAddr 0 1), wV 31 (.load 1 false 30), wM 32 3, wV 33 (.idxSl 2 31 32), wV 34 (.fieldAddr 1 33), wV 35 (.load 1 false 34), wV 36 (kF 46 [35]), wV 37 (.idxSl 2 28 29), wV 38 (.fieldAddr 1 37), wN (.store 1 38 36)] ⟨13, [1, 1, 0, 1, 1, 0, 1, 1, 1, 3, 1, 1, 2], [0, 1, 0, 0, 8, 0, 56, 120, 248, 504, 1023, 2047, 4095], [0, 512, 4608]⟩))) (.ops [wV 39 (.bin .add none 24 (vI 1)), wM 24 39]))))))) (.seq (sQ [wV 40 (.fieldAddr 2 1), wV 41 (.load 1 false 40), wV 42 (.len false 41), wV 43 (.move (vI 0))] (.block 2 (.loop (sQ [wV 44 (.bin .lss none 43 42)] (.seq (.cond 44 .skip (.exit 2)) (.seq (.block 3 (sQ [wM 45 43, wM 4 45] (.drawC [wV 46 (.fieldAddr 2 1), wV 47 (.load 1 false 46), wM 48 4, wV 49 (.fieldAddr 2 1), wV 50 (.load 1 false 49), wM 51 4, wV 52 (.idxSl 6 50 51), wV 53 (.fieldAddr 5 52), wV 54 (.load 1 false 53), wV 55 (kF 47 [54]), wV 56 (.idxSl 6 47 48), wV 57 (.fieldAddr 5 56), wN (.store 1 57 55)] ⟨13, [1, 1, 0, 1, 1, 0, 1, 1, 1, 3, 1, 1, 2], [0, 1, 0, 0, 8, 0, 56, 120, 248, 504, 1023, 2047, 4095], [0, 512, 4608]⟩))) (.ops [wV 58 (.bin .add none 43 (vI 1)), wM 43 58]))))))) (sQ [wV 59 (.load 4 true 1), wN (.store 4 2 59)] .ret))))), [.cell 2 4 true], 60⟩
theorem MG16 : Ab Tryz.prog 16 = some MF16 := by kernel_rfl
theorem clone43 (hg : hGr W0 G) : cP W0 43 [.nilSl] [] .nilSl [] := by
 refine oF MG43 ?_
 refine sO (x1 rfl (sq (sO (mV rfl (mBk hg gN (c := true) rfl rfl rfl (mn (cT rfl (sO (x1 rfl ?_)))))))))
 exact ExM.ret (pS)
theorem clone44 (hg : hGr W0 G) : cP W0 44 [.nilSl] [] .nilSl [] := by
 refine oF MG44 ?_
 refine sO (x1 rfl (sq (sO (mV rfl (mBk hg gN (c := true) rfl rfl rfl (mn (cT rfl (sO (x1 rfl ?_)))))))))
 exact ExM.ret (pS)
theorem clone45 (hg : hGr W0 G) : cP W0 45 [.nilSl] [] .nilSl [] := by
 refine oF MG45 ?_
 refine sO (x1 rfl (sq (sO (mV rfl (mBk hg gN (c := true) rfl rfl rfl (mn (cT rfl (sO (x1 rfl ?_)))))))))
 exact ExM.ret (pS)
theorem clone46 (hg : hGr W0 G) {c0 : PCl} {cs : List PCl} (hn : (c0 :: cs).length ≤ 1000000) : cP W0 46 [.row 3 ((c0 :: cs).map pcV)] [] (.hsl 3 1 0 (c0 :: cs).length none) [.cells 33 [] false, .cells 33 (clF (c0 :: cs)) true] := by
 refine oF MG46 ?_
 refine sO (x1 rfl (sq (sO (mV rfl (mBk hg gN (c := false) rfl rfl rfl (mn (cF rfl (kM (sO (m2 rfl rfl (Ag hg gN (v := .hsl 3 1 0 (c0 :: cs).length none) (oAppR rfl rfl rfl) rfl (by simp only [Af, and_true, C9]; omega) (x1 rfl ?_))))))))))))
 exact ExM.ret (pS)
theorem clone42 (hg : hGr W0 G) {nm : Bz} {cs : List PCl} : cP W0 42 [.row 2 [psV ⟨nm, cs⟩]] [] (.hsl 2 1 0 1 none) [.cells 36 [] false, .cells 36 [.str nm, .row 3 (cs.map pcV)] true] := by
 refine oF MG42 ?_
 refine sO (x1 rfl (sq (sO (mV rfl (mBk hg gN (c := false) rfl rfl rfl (mn (cF rfl (kM (sO (m2 rfl rfl (Ag hg gN (v := .hsl 2 1 0 1 none) rfl rfl (by simp [Af, C9]) (x1 rfl ?_))))))))))))
 exact ExM.ret (pS)
theorem lift0 {f : FuncId} {args : List AVal} {k len T T' : Nat} {cs : List AVal} (H : Hz) (ha : A8 0 args = true) (hcs : A8 0 cs = true) (hc : cP W0 f args [] (.hsl k 1 0 len none) [.cells T [] false, .cells T' cs true]) :
 cP W0 f args H (.hsl k (H.length + 1) 0 len none) (H ++ [.cells T [] false, .cells T' cs true]) := by
 have h := A1.renG (H := H) (H0 := []) [] (fun j => H.length + j) ⟨List.nodup_nil, rfl, rfl, fun j hj => by simp at hj, fun i hi => by simp at hi, fun j o ho => by simp at ho⟩ rfl ha (Nat.zero_le _) (fun j _ _ => rfl) hc
 rw [Aq args ha] at h
 have e : Bt ([] ++ List.range' H.length 2) ([A2.cells T [] false, .cells T' cs true].map (D6 fun j => H.length + j)) (H ++ List.replicate 2 .dead) = H ++ [.cells T [] false, .cells T' cs true] := by
  simp only [List.map, D6, Aq cs hcs, Eg]
  show ((H ++ [A2.dead, .dead]).set H.length _).set (H.length + 1) _ = _
  simp
 exact (show Bt ([] ++ List.range' H.length 2) ([A2.cells T [] false, .cells T' cs true].map (D6 fun j => H.length + j)) (H ++ List.replicate 2 .dead) = _ from e) ▸ h
theorem copiedP (hg : hGr W0 G) {nm : Bz} {c0 : PCl} {cs : List PCl} (hn : (c0 :: cs).length ≤ 1000000) : cP W0 16 [bkV [⟨nm, c0 :: cs⟩]] [] (.agg [.hsl 2 3 0 1 none, .nilSl, .nilSl, .nilSl])
 [.cells 42 [.hsl 2 3 0 1 none, .nilSl, .nilSl, .nilSl] false, .cells 42 [.hsl 2 3 0 1 none, .nilSl, .nilSl, .nilSl] false, .cells 36 [] false, .cells 36 [.str nm, .hsl 3 5 0 (c0 :: cs).length none] true, .cells 33 [] false, .cells 33 (clF (c0 :: cs)) true] := by
 refine oF MG16 ?_
 refine sO (mV (v := .ptr 0 0) rfl (mV (v := .ptr 1 0) rfl (mn (sq ?_))))
 refine ExM.drawC hg ?_
 refine Dl (v := .ptr 0 0) rfl rfl trivial (by kernel_rfl) (Dl rfl rfl trivial (by kernel_rfl) (L0 (v := .hsl 2 3 0 1 none) rfl rfl (lift0 _ (by show A8 0 [.row 2 ([(⟨nm, c0 :: cs⟩ : PSh)].map psV)] = true; simp only [A8, blw, Ai, cond_true]) (by simp only [A8, blw, B3, cond_true]) (clone42 hg)) rfl pdN (J0 (v := .ptr 0 1) rfl rfl trivial rfl (ptC (cNp (by show (Nat.beq 4 4 || !(SP.mayB _ 4 3)) = true; rfl)) (ptC (cYp (by show (Nat.beq 0 4 || !(SP.mayB _ 0 3)) = false; rfl) (evY rfl trivial)) ptN)) (J0 rfl rfl trivial rfl (ptC (cNp (by show (Nat.beq 4 4 || !(SP.mayB _ 4 4)) = true; rfl)) (ptC (cYp (by show (Nat.beq 0 4 || !(SP.mayB _ 0 4)) = false; rfl) (evY rfl trivial)) ptN)) (L0 rfl rfl (A1.pure rfl rfl (clone43 hg) _) rfl pdN (?_))))))
 refine J0 (v := .ptr 0 2) rfl rfl trivial rfl (ptC (cNp (by show (Nat.beq 36 36 || !(SP.mayB _ 36 6)) = true; rfl)) (ptC (cYp (by show (Nat.beq 4 36 || !(SP.mayB _ 4 6)) = false; rfl) (evY rfl trivial)) (ptC (cYp (by show (Nat.beq 0 36 || !(SP.mayB _ 0 6)) = false; rfl) (evY rfl trivial)) ptN))) (J0 rfl rfl trivial rfl (ptC (cNp (by show (Nat.beq 36 36 || !(SP.mayB _ 36 7)) = true; rfl)) (ptC (cYp (by show (Nat.beq 4 36 || !(SP.mayB _ 4 7)) = false; rfl) (evY rfl trivial)) (ptC (cYp (by show (Nat.beq 0 36 || !(SP.mayB _ 0 7)) = false; rfl) (evY rfl trivial)) ptN))) (L0 rfl rfl (A1.pure rfl rfl (clone44 hg) _) rfl pdN (J0 (v := .ptr 0 3) rfl rfl trivial rfl (ptC (cNp (by show (Nat.beq 292 292 || !(SP.mayB _ 292 9)) = true; rfl)) (ptC (cYp (by show (Nat.beq 36 292 || !(SP.mayB _ 36 9)) = false; rfl) (evY rfl trivial)) (ptC (cYp (by show (Nat.beq 4 292 || !(SP.mayB _ 4 9)) = false; rfl) (evY rfl trivial)) (ptC (cYp (by show (Nat.beq 0 292 || !(SP.mayB _ 0 9)) = false; rfl) (evY rfl trivial)) ptN)))) (J0 rfl rfl trivial rfl (ptC (cNp (by show (Nat.beq 292 292 || !(SP.mayB _ 292 10)) = true; rfl)) (ptC (cYp (by show (Nat.beq 36 292 || !(SP.mayB _ 36 10)) = false; rfl) (evY rfl trivial)) (ptC (cYp (by show (Nat.beq 4 292 || !(SP.mayB _ 4 10)) = false; rfl) (evY rfl trivial)) (ptC (cYp (by show (Nat.beq 0 292 || !(SP.mayB _ 0 10)) = false; rfl) (evY rfl trivial)) ptN)))) (L0 rfl rfl (A1.pure rfl rfl (clone45 hg) _) rfl pdN (?_))))))
 refine J0 (v := .ptr 0 0) rfl rfl trivial rfl (ptC (cNp (by show (Nat.beq 2340 2340 || !(SP.mayB _ 2340 12)) = true; rfl)) (ptC (cYp (by show (Nat.beq 292 2340 || !(SP.mayB _ 292 12)) = false; rfl) (evY rfl trivial)) (ptC (cYp (by show (Nat.beq 36 2340 || !(SP.mayB _ 36 12)) = false; rfl) (evY rfl trivial)) (ptC (cYp (by show (Nat.beq 4 2340 || !(SP.mayB _ 4 12)) = false; rfl) (evY rfl trivial)) (ptC (cNp (by show (Nat.beq 0 2340 || !(SP.mayB _ 0 12)) = true; rfl)) ptN))))) (Ls rfl rfl pdN (Dl (v := .ptr 0 1) rfl rfl trivial (by kernel_rfl) (Ls rfl rfl pdN (Dl (v := .ptr 0 2) rfl rfl trivial (by kernel_rfl) (Ls rfl rfl pdN (?_))))))
 refine Dl (v := .ptr 0 3) rfl rfl trivial (by kernel_rfl) (Ls rfl rfl pdN (A1c rfl (?_)))
 refine sq (sO (x4 rfl rfl rfl rfl (bM ?_)))
 refine ExM.unroll 2 ?_
 refine Ep.step ?_
 refine sO (mBk hg gN (c := true) rfl rfl rfl (mn (sq (cT rfl (kM (sq (bM (sO (x2 rfl rfl ?_)))))))))
 refine ExM.drawC hg ?_
 refine Dl rfl rfl trivial (by kernel_rfl) (Dl rfl rfl trivial (by kernel_rfl) (Dl rfl rfl trivial (by kernel_rfl) (Dl rfl rfl trivial (by kernel_rfl) (Dl rfl rfl trivial (by kernel_rfl) (Dl rfl rfl trivial (by kernel_rfl) (?_))))))
 refine Dl rfl rfl (by first | exact trivial | decide | (simp only [Af, and_true]; omega)) (by kernel_rfl) (Dl rfl rfl trivial (by kernel_rfl) (Dl rfl rfl trivial (by kernel_rfl) (L0 rfl rfl (lift0 _ (by show A8 0 [.row 3 ((c0 :: cs).map pcV)] = true; simp only [A8, blw, B3, cond_true]) (Cb _) (clone46 hg hn)) rfl (pdC (cY (by show SP.mayB _ 512 1 = true; rfl) (evY rfl trivial)) (pdC (cY (by show SP.mayB _ 512 0 = true; rfl) (evY rfl trivial)) pdN)) (Dl rfl rfl (by first | exact trivial | decide | (simp only [Af, and_true]; omega)) (by kernel_rfl) (Dl rfl rfl trivial (by kernel_rfl) (?_))))))
 refine Ls rfl rfl (pdC (cN (by show SP.mayB _ 4608 1 = false; rfl)) (pdC (cN (by show SP.mayB _ 4608 0 = false; rfl)) pdN)) (A1c rfl (?_))
 refine oM (mKs (v := .int .i64 1) rfl rfl (x1 rfl ?_))
 refine Ep.step ?_
 refine sO (mBk hg gN (c := false) rfl rfl rfl (mn (sq (cF rfl ?_))))
 refine ExM.exit ?_
 refine sq (sO (x4 rfl rfl rfl rfl (bM ?_)))
 refine ExM.unroll 1 ?_
 refine Ep.step ?_
 refine sO (mBk hg gN (c := false) rfl rfl rfl (mn (sq (cF rfl ?_))))
 refine ExM.exit ?_
 refine sO (mV rfl (A6 hg gN rfl (mn ?_)))
 exact ExM.ret (pS)
def NF20 : AFn := ⟨(sQ [wV 1 (.box 42 0), wV 2 (.move (vI 0))] (sQ [wV 3 (.move (vI 0))] (.seq (sQ [wV 6 (.fieldAddr 0 1), wV 7 (.load 1 false 6), wV 8 (.len false 7), wV 9 (.move (vI 0))] (.block 0 (.loop (sQ [wV 10 (.bin .lss none 9 8)] (.seq (.cond 10 .skip (.exit 0)) (.seq (.block 1 (sQ [wV 11 (.idxSl 2 7 9), wV 12 (.load 2 true 11), wV 5 (.alloc 36 Qf), wN (.store 2 5 12)] (.ops [wM 13 3, wV 14 (.fieldAddr 1 5), wV 15 (.load 1 false 14), wV 16 (.len false 15), wV 17 (.bin .add none 13 16), wM 3 17]))) (.ops [wV 18 (.bin .add none 9 (vI 1)), wM 9 18]))))))) (sQ [wM 19 3, wM 2 19] .ret)))), [2], 20⟩
theorem NG20 : Ab Tryz.prog 20 = some NF20 := by kernel_rfl
theorem many2 (hg : hGr W0 G) {nm : Bz} {cs : List PCl} (hn : cs.length ≤ 1000000) : cP W0 20 [.agg [.hsl 2 0 0 1 none, .nilSl, .nilSl, .nilSl]] [A2.cells 36 [.str nm, .hsl 3 1 0 cs.length none] true, A2.cells 33 (clF cs) true] (.int .i64 ((cs.length : Nat) : Int)) [A2.cells 36 [.str nm, .hsl 3 1 0 cs.length none] true, A2.cells 33 (clF cs) true] := by
 refine oF NG20 ?_
 refine sO (mV (v := .ptr 2 0) rfl (x1 rfl (sO (x1 rfl (sq (sO (x4 rfl rfl rfl rfl (bM ?_))))))))
 refine ExM.unroll 2 ?_
 refine Ep.step ?_
 refine sO (mBk hg gN (c := true) rfl rfl rfl (mn (sq (cT rfl (kM (sq (bM (sO (mS (v := .optr 0 0 2) rfl (mV rfl (mV (v := .ptr 3 0) rfl (A6 hg gN rfl (mn (oM (m4 rfl rfl rfl rfl (mI ((cs.length : Nat) : Int) rfl (x1 rfl (oM (mKs (v := .int .i64 1) rfl rfl (x1 rfl ?_))))))))))))))))))))
 refine Ep.step ?_
 refine sO (mBk hg gN (c := false) rfl rfl rfl (mn (sq (cF rfl ?_))))
 refine ExM.exit ?_
 refine sO (x2 rfl rfl ?_)
 exact ExM.ret (A0 trivial rfl (by show cond (cond true (cond true true false) false) (cond (A8 2 (clF cs)) true false) false = true; rw [Cb]; rfl) 100 rfl rfl)
end Go.Abs
