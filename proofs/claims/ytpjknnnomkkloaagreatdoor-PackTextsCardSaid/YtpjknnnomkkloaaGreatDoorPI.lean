/- A part of the proof that tabula/tabulalaw25.PackTexts returns true for every input, each argument reading as it did (its card: the last text). No conditions of its own. -/
import Derived.Test.YtpjknnnomkkloaaGreatDoorPH
namespace Go.Abs
open Go.Proofs Go.RowKit
set_option maxRecDepth 100000
variable {W0 : World} {G : List (Nat × AVal)}
def Sub (a b : AVal) : Prop := ∀ (F : Nat → Prop) (bs : List Nat) (H : Hz) (w : World) (v : Value), Rep F bs H w a v → Rep F bs H w b v
theorem Sub.refl (a : AVal) : Sub a a := fun _ _ _ _ _ h => h
theorem Sub.nil : Sub .nilSl (dg []) := fun F bs H w v h => by
 simp only [Rep] at h
 subst h
 simp only [dg, B4, List.map_nil, Rep, A5]
 exact ⟨none, 0, [], rfl, rfl, by simp, rfl, rfl⟩
theorem A1.argW {P : Program} {f : FuncId} {args args' : List AVal} {H H' : Hz} {v : AVal} (hs : ∀ (F : Nat → Prop) (bs : List Nat) (w : World) (l : List Value), A5 F bs H w args' l → A5 F bs H w args l) (hc : A1 P W0 f args H v H') : A1 P W0 f args' H v H' :=
 ⟨hc.1, fun F bs w cargs hh hr => hc.2 F bs w cargs hh (hs F bs w cargs hr)⟩
theorem A1.sub2 {P : Program} {f : FuncId} {a b a' b' : AVal} {H H' : Hz} {v : AVal} (h1 : Sub a' a) (h2 : Sub b' b) (hc : A1 P W0 f [a, b] H v H') : A1 P W0 f [a', b'] H v H' := hc.argW fun F bs w l h => by
 simp only [A5] at h ⊢
 obtain ⟨u, us, rfl, k1, u2, us2, rfl, k2, rfl⟩ := h
 exact ⟨u, [u2], rfl, h1 _ _ _ _ _ k1, u2, [], rfl, h2 _ _ _ _ _ k2, rfl⟩
theorem A1.sub3 {P : Program} {f : FuncId} {a b c a' b' c' : AVal} {H H' : Hz} {v : AVal} (h1 : Sub a' a) (h2 : Sub b' b) (h3 : Sub c' c) (hc : A1 P W0 f [a, b, c] H v H') : A1 P W0 f [a', b', c'] H v H' := hc.argW fun F bs w l h => by
 simp only [A5] at h ⊢
 obtain ⟨u, us, rfl, k1, u2, us2, rfl, k2, u3, us3, rfl, k3, rfl⟩ := h
 exact ⟨u, [u2, u3], rfl, h1 _ _ _ _ _ k1, u2, [u3], rfl, h2 _ _ _ _ _ k2, u3, [], rfl, h3 _ _ _ _ _ k3, rfl⟩
def tN (x : Nat) (n : Int) : AVal := if x = 0 then .nilSl else dN (x * 10 ^ n.toNat)
theorem Bj (x : Nat) (n : Int) : Sub (tN x n) (dN (x * 10 ^ n.toNat)) := by
 unfold tN
 split
 · rename_i h; subst h; rw [Nat.zero_mul, dN0]; exact Sub.nil
 · exact Sub.refl _
theorem blwT (k x : Nat) (n : Int) : blw k (tN x n) = true := by
 unfold tN; split
 · rfl
 · exact A3t _ _
theorem fvT {H : Hz} {k x : Nat} {n : Int} : FzV H k (tN x n) (tN x n) := by
 unfold tN; split
 · exact Ji
 · exact C5
theorem Eo (hg : hGr W0 G) {x : Nat} {n : Int} (hx : x < 10 ^ 250) (hn : n ≤ 1000) (H : Hz) : cP W0 90 [dN x, .int .i64 n] H (tN x n) H := by
 have h1 := E7 hx
 have := tenP hg (a := D1 x) (n := n) (by omega) hn H
 by_cases h0 : x = 0
 · subst h0
   have h2 : Yu (D1 0) n = .nilSl := by rw [Yu, E8]; rfl
   rw [h2] at this
   rw [tN, if_pos rfl]; exact this
 · rw [Yu, if_neg (Q8 h0), ten_dN h0] at this
   rw [tN, if_neg h0]; exact this
theorem Pz : ∀ (a : List Nat) (k : Nat), val (a.drop k) ≤ val a
 | [], k => by simp
 | x :: a, 0 => by simp
 | x :: a, k + 1 => by
   have := Pz a k
   rw [Gw, List.drop_succ_cons]; omega
theorem A3v {a : List Nat} {k : Nat} (h : k < a.length) : val (a.drop k) = a.getD k 0 + 10 * val (a.drop (k + 1)) := by rw [Ql h, Gw]
def KF155 : AFn := ⟨(sQ [wV 2 (.move (vI 0))] (sQ [wV 3 (.move (vI 0))] (.seq (sQ [wM 5 0, wV 6 (.len false 5), wV 7 (.bin .sub none 6 (vI 1)), wM 4 7] (.block 0 (.loop (.seq (sQ [wM 8 4, wV 9 (.bin .geq none 8 (vI 0))] (.cond 9 .skip (.exit 0))) (.seq (.block 1 (.ops [wM 12 3, wV 13 (.bin .mul none (vI 10) 12), wM 14 0, wM 15 4, wV 16 (.idxSl 1 14 15), wV 17 (.load 1 false 16), wV 18 (.bin .add none 13 17), wM 3 18])) (.ops [wM 10 4, wV 11 (.bin .sub none 10 (vI 1)), wM 4 11])))))) (sQ [wM 19 3, wM 2 19] .ret)))), [2], 20⟩
theorem KG155 : Ab Tryz.prog 136 = some KF155 := by kernel_rfl
def KF154 : AFn := ⟨(sQ [wV 4 (.alloc 24 z2L)] (.seq (sQ [wM 5 0, wV 6 (.bin .eql none 5 (vI 0))] (.cond 6 (sQ [wV 7 (.build z2L []), wN (.store 2 4 7)] .ret) .skip)) (.seq (.block 0 (.loop (.seq (sQ [wM 8 0, wV 9 (.bin .rem none 8 (vI 10)), wV 10 (.bin .eql none 9 (vI 0)), wM 11 10, wT 12 11 (.move 1), wT 13 11 (.bin .lss none 12 (vI 9)), wV 14 (.pick 11 13 (.val (.bool false)))] (.cond 14 .skip (.exit 0))) (.block 1 (sQ [wM 15 0, wV 16 (.bin .quo none 15 (vI 10)), wM 0 16] (.ops [wM 17 1, wV 18 (.bin .add none 17 (vI 1)), wM 1 18])))))) (sQ [wM 19 0, wM 20 1, wV 21 (.build z2L [(0, 1, 19), (1, 1, 20)]), wN (.store 2 4 21)] .ret)))), [.cell 4 2 true], 22⟩
theorem KG154 : Ab Tryz.prog 135 = some KF154 := by kernel_rfl
theorem valueP (hg : hGr W0 G) {a : List Nat} (hv : val a < 1000000000000000000) (hla : a.length ≤ 1000) (H : Hz) : cP W0 136 [dg a] H (.int .i64 (val a : Nat)) H := by
 refine A1.pure (by simp [A8, blw, dg, As]) rfl ?_ H
 refine oF KG155 ?_
 refine sO (x1 rfl (sO (x1 rfl (sq (sO (mV rfl (mV (v := .int .i64 (a.length : Nat)) (E5 rfl) (mK (v := .int .i64 ((a.length : Nat) - 1)) rfl (B8 (by omega) (by omega) rfl) (x1 rfl (bM ?_))))))))))
 refine ExM.loop (σ := Nat) (fun k => ⟨.al [(0, dg a), (3, .int .i64 (val (a.drop k) : Nat)), (4, .int .i64 (((k : Nat) : Int) - 1))], [], 20⟩) (fun k => k ≤ a.length) (fun k => k) a.length (Ae 0 rfl (Nat.le_refl _) rfl rfl (fzC rfl fvD (fzC rfl (by rw [List.drop_length]; exact fvI) (fI fzN)))) (Nat.le_refl _) ?_
 rintro k hk
 cases k with
 | zero =>
   refine sq (sO (mV rfl (mF rfl (mn (cF rfl ?_)))))
   refine ExM.exit ?_
   refine sO (x2 rfl rfl ?_)
   exact ExM.ret (pS)
 | succ k =>
   have hvd := A3v (a := a) (k := k) (by omega)
   have hvl := Pz a k
   refine sq (sO (mV rfl (mT rfl (mn (cT rfl (kM (sq (bM (oM (mV rfl (mI (10 * (val (a.drop (k + 1)) : Nat)) rfl (mV rfl (mK (v := .int .i64 (k : Nat)) rfl (iE (by omega)) (mS (v := .eptr (.int .i64 (a.getD k 0 : Nat)) 0) (Ew rfl rfl (by omega)) (mV rfl (mI (val (a.drop k) : Nat) rfl (x1 rfl (oM (mV rfl (mI ((k : Nat) - 1) rfl (x1 rfl ?_)))))))))))))))))))))
   exact ⟨k, by omega, by omega, Ae 0 rfl (Nat.le_refl _) rfl rfl (fzC rfl fvD (fI (fI fzN)))⟩
theorem Kp (hg : hGr W0 G) {x : Nat} (hx : x ≤ 999999999999999) (H : Hz) : cP W0 136 [dN x] H (.int .i64 (x : Nat)) H := by
 have h1 := E7 (n := x) (k := 15) (by omega)
 have := valueP hg (a := D1 x) (by rw [D2]; omega) (by omega) H
 rw [D2] at this
 exact this
def lwF : Nat → Nat → Int → Nat × Int
 | 0, m, e => (m, e)
 | f + 1, m, e => if m % 10 = 0 then lwF f (m / 10) (e + 1) else (m, e)
def K6 (m : Nat) (e : Int) : Nat × Int := if m = 0 then (0, 0) else lwF (9 - e).toNat m e
theorem lwF_b : ∀ (f m : Nat) (e : Int), (f : Int) ≤ 9 - e → -9 ≤ e → (lwF f m e).1 ≤ m ∧ -9 ≤ (lwF f m e).2 ∧ (lwF f m e).2 ≤ 9
 | 0, m, e, h, h1 => ⟨Nat.le_refl _, h1, by simp only [lwF]; omega⟩
 | f + 1, m, e, h, h1 => by
   simp only [lwF]
   split
   · have := lwF_b f (m / 10) (e + 1) (by omega) (by omega)
     exact ⟨by omega, this.2.1, this.2.2⟩
   · exact ⟨Nat.le_refl _, h1, by simp only; omega⟩
theorem Qg {m : Nat} {e : Int} (h1 : -9 ≤ e) (h2 : e ≤ 9) : (K6 m e).1 ≤ m ∧ -9 ≤ (K6 m e).2 ∧ (K6 m e).2 ≤ 9 := by
 unfold K6
 split
 · exact ⟨Nat.zero_le _, by decide, by decide⟩
 · exact lwF_b _ _ _ (by omega) h1
theorem Wh (hg : hGr W0 G) {m : Nat} {e : Int} (hm : m ≤ 999999999999999) (h1 : -9 ≤ e) (h2 : e ≤ 9) (H : Hz) : cP W0 135 [.int .i64 (m : Nat), .int .i64 e] H (.agg [.int .i64 ((K6 m e).1 : Nat), .int .i64 (K6 m e).2]) H := by
 refine A1.pure rfl rfl ?_ H
 refine oF KG154 ?_
 by_cases hm0 : m = 0
 · skip
   refine sO (mV (v := .ptr 0 0) rfl (mn (sq (sO (mV rfl (mBk hg gN (c := true) rfl rfl (by rw [hm0]; decide) (mn (cT rfl (sO (mV rfl (A6 hg gN rfl (mn ?_))))))))))))
   refine ExM.ret ?_
   refine A0 trivial rfl rfl 100 ?_ rfl
   rw [K6, if_pos hm0]; rfl
 · skip
   refine sO (mV (v := .ptr 0 0) rfl (mn (sq (sO (mV rfl (mF rfl (mn (cF rfl (kM (sq (bM ?_)))))))))))
   refine ExM.loop (σ := Nat × Int) (fun σ => ⟨.al [(0, .int .i64 (σ.1 : Nat)), (1, .int .i64 σ.2), (4, .ptr 0 0)], [.cells 24 z2L false], 22⟩) (fun σ => σ.1 ≤ m ∧ -9 ≤ σ.2 ∧ σ.2 ≤ 9 ∧ lwF (9 - σ.2).toNat σ.1 σ.2 = K6 m e) (fun σ => (9 - σ.2).toNat) (m, e) (Ae 1 rfl (Nat.zero_le _) rfl rfl (fI (fI (fzC rfl (fvP rfl) fzN)))) ⟨Nat.le_refl _, h1, h2, by rw [K6, if_neg hm0]⟩ ?_
   rintro ⟨x, y⟩ ⟨hx, hy1, hy2, hl⟩
   simp only at hx hy1 hy2 hl ⊢
   by_cases hx10 : x % 10 = 0
   · by_cases hy9 : y < 9
     · rw [show (9 - y).toNat = (9 - (y + 1)).toNat + 1 by omega, lwF, if_pos hx10] at hl
       refine sq (sO (mV rfl (mKv hg gN (v := .int .i64 ((x % 10 : Nat))) rfl rfl Dc (iE (Int.ofNat_tmod x 10).symm) (mT rfl (m2 rfl rfl (mT rfl (x1 rfl (cT rfl (kM (bM (sO (mV rfl (mKv hg gN (v := .int .i64 ((x / 10 : Nat))) rfl rfl Dc (B8 (by rw [Int.ofNat_tdiv_ten]; omega) (by rw [Int.ofNat_tdiv_ten]; omega) Int.ofNat_tdiv_ten) (x1 rfl (oM (mV rfl (mKs (v := .int .i64 (y + 1)) rfl (B8 (by omega) (by omega) rfl) (x1 rfl ?_))))))))))))))))))
       exact ⟨(x / 10, y + 1), ⟨by simp only; omega, by simp only; omega, by simp only; omega, hl⟩, by simp only; omega, Ae 1 rfl (Nat.zero_le _) rfl rfl (fI (fI (fzC rfl (fvP rfl) fzN)))⟩
     · rw [show (9 - y).toNat = 0 by omega, lwF] at hl
       refine sq (sO (mV rfl (mKv hg gN (v := .int .i64 ((x % 10 : Nat))) rfl rfl Dc (iE (Int.ofNat_tmod x 10).symm) (mT rfl (m2 rfl rfl (mF rfl (x1 rfl (cF rfl ?_))))))))
       refine ExM.exit ?_
       refine sO (m3 rfl rfl rfl (A6 hg gN rfl (mn ?_)))
       refine ExM.ret ?_
       refine A0 trivial rfl rfl 100 ?_ rfl
       rw [← hl]; rfl
   · have hl' : (x, y) = K6 m e := by rw [← hl]; cases (9 - y).toNat with | zero => rfl | succ f => rw [lwF, if_neg hx10]
     refine sq (sO (mV rfl (mKv hg gN (v := .int .i64 ((x % 10 : Nat))) rfl rfl Dc (iE (Int.ofNat_tmod x 10).symm) (mF rfl (mV rfl (mG (mG (x1 rfl (cF rfl ?_)))))))))
     refine ExM.exit ?_
     refine sO (m3 rfl rfl rfl (A6 hg gN rfl (mn ?_)))
     refine ExM.ret ?_
     refine A0 trivial rfl rfl 100 ?_ rfl
     rw [← hl']; rfl
def nQ2 (D r q : Nat) : Nat := if D < r + r then q + 1 else if r + r < D then q else if q % 10 % 2 = 1 then q + 1 else q
def U1 (n d : Nat) (e : Int) : Nat := nQ2 (d * 10 ^ e.toNat) ((n * 10 ^ (-e).toNat) % (d * 10 ^ e.toNat)) ((n * 10 ^ (-e).toNat) / (d * 10 ^ e.toNat))
def Ja (s : Bool) (n d : Nat) : Nat → Int → Int × Int × Int
 | 0, _ => (0, 0, 10)
 | f + 1, e => if 999999999999999 < U1 n d e then Ja s n d f (e + 1) else (if s then -((K6 (U1 n d e) e).1 : Int) else ((K6 (U1 n d e) e).1 : Int), (K6 (U1 n d e) e).2, 0)
def Ic (s : Bool) (n d : Nat) : Int × Int × Int := Ja s n d 19 (-9)
theorem Z9 (s : Bool) (n d : Nat) : ∀ (f : Nat) (e : Int), (f : Int) = 10 - e → -9 ≤ e → -999999999999999 ≤ (Ja s n d f e).1 ∧ (Ja s n d f e).1 ≤ 999999999999999 ∧ -9 ≤ (Ja s n d f e).2.1 ∧ (Ja s n d f e).2.1 ≤ 9
 | 0, e, _, _ => by simp [Ja]
 | f + 1, e, h, h1 => by
   simp only [Ja]
   split
   · exact Z9 s n d f (e + 1) (by omega) (by omega)
   · rename_i hq
     have := Qg (m := U1 n d e) (e := e) h1 (by omega)
     cases s
     · exact ⟨by simp only [bFt, if_false]; omega, by simp only [bFt, if_false]; omega, this.2.1, this.2.2⟩
     · exact ⟨by simp only [if_true]; omega, by simp only [if_true]; omega, this.2.1, this.2.2⟩
theorem A03 (s : Bool) (n d : Nat) : -999999999999999 ≤ (Ic s n d).1 ∧ (Ic s n d).1 ≤ 999999999999999 ∧ -9 ≤ (Ic s n d).2.1 ∧ (Ic s n d).2.1 ≤ 9 := Z9 s n d 19 (-9) (by decide) (by decide)
def Po (p : Int × Int × Int) : AVal := .tup [.agg [.int .i64 p.1, .int .i64 p.2.1], .int .i64 p.2.2]
theorem byQ (hg : hGr W0 G) {x y : Nat} (hx : x < 10 ^ 250) (hy : 0 < y) (hyl : y < 10 ^ 249) (H : Hz) : cP W0 132 [dN x, dN y] H (.tup [dN (x / y), dN (x % y)]) H := by
 have h1 := E7 hx
 have := byP hg (F4 x) hy hyl (by omega) H
 rw [D2] at this
 exact this
theorem atQ (hg : hGr W0 G) {x : Nat} (H : Hz) : cP W0 134 [dN x, .int .i64 0] H (.int .i64 ((x % 10 : Nat))) H := by
 have := atP hg (a := D1 x) (i := 0) H
 rw [A0s] at this
 exact this
theorem Ya {x : Nat} {n : Int} (hx : x < 10 ^ 100) (hn : n ≤ 50) : x * 10 ^ n.toNat < 10 ^ 150 := by
 have h1 : 10 ^ n.toNat ≤ 10 ^ 50 := Nat.pow_le_pow_right (by decide) (by omega)
 have h2 : 0 < 10 ^ n.toNat := Nat.pow_pos (by decide)
 have h3 : x * 10 ^ n.toNat < 10 ^ 100 * 10 ^ n.toNat := Nat.mul_lt_mul_of_pos_right hx h2
 have h4 : 10 ^ 100 * 10 ^ n.toNat ≤ 10 ^ 100 * 10 ^ 50 := Nat.mul_le_mul_left _ h1
 have h5 : 10 ^ 100 * 10 ^ 50 ≤ 10 ^ 150 := by rw [← Nat.pow_add]; exact Nat.pow_le_pow_right (by decide) (by decide)
 exact nLl (nLl h3 h4) h5
theorem Ap {x : Nat} (h : x < 10 ^ 150) : x + x < 10 ^ 249 ∧ x < 10 ^ 249 ∧ x < 10 ^ 250 ∧ x + 1 < 10 ^ 250 ∧ x + x < 10 ^ 250 := by
 have h1 : 10 ^ 150 * 10 ≤ 10 ^ 249 := by rw [← Nat.pow_succ]; exact Nat.pow_le_pow_right (by decide) (by decide)
 have h2 : 10 ^ 249 ≤ 10 ^ 250 := Nat.pow_le_pow_right (by decide) (by decide)
 generalize 10 ^ 150 = a at *
 generalize 10 ^ 249 = b at *
 generalize 10 ^ 250 = c at *
 omega
def KF95 : AFn := ⟨(sQ [wV 6 (.alloc 24 z2L), wV 7 (.move (vI 0))] (.seq (sQ [wV 8 (.move (.val (.int .i64 (-9))))] (.block 0 (.loop (.seq (sQ [wM 14 8, wV 15 (.bin .leq none 14 (vI 9))] (.cond 15 .skip (.exit 0))) (.seq (.block 1 (sQ [wM 18 2, wM 19 8, wV 20 (kF 90 [18, 19]), wM 9 20] (sQ [wM 22 1, wM 23 8, wV 24 (.un .neg 23), wV 25 (kF 90 [22, 24]), wM 26 9, wV 27 (kF 132 [25, 26]), wM 21 27, wV 28 (.extract 21 0), wV 29 (.extract 21 1), wM 10 28, wM 11 29] (sQ [wM 30 11, wM 31 11, wV 32 (kF 133 [30, 31]), wM 12 32] (.seq (sQ [wM 33 9, wM 34 12, wV 35 (kF 88 [33, 34]), wM 36 35, wF 37 36 (.move 12), wF 38 36 (.move 9), wF 39 36 (kF 88 [37, 38]), wF 40 36 (.un .not 39), wF 41 36 (.move 40), wT 42 41 (.move 10), wT 43 41 (kF 134 [42, (vI 0)]), wT 44 41 (.bin .rem none 43 (vI 2)), wT 45 41 (.bin .eql none 44 (vI 1)), wF 46 36 (.pick 41 45 (.val (.bool false))), wV 47 (.pick 36 (.val (.bool true)) 46)] (.cond 47 (.ops [wM 48 10, wV 49 (.bslice 3 1 1 [.int .i64 0] [(0, 1, (vI 1))]), wV 50 (kF 133 [48, 49]), wM 10 50]) .skip)) (.seq (sQ [wV 51 (kF 87 [(vI 999999999999999)]), wM 52 10, wV 53 (kF 88 [51, 52])] (.cond 53 (.exit 1) .skip)) (sQ [wM 54 10, wV 55 (kF 136 [54]), wM 56 8, wV 57 (kF 135 [55, 56]), wV 13 (.alloc 24 z2L), wN (.store 2 13 57)] (.seq (sQ [wM 58 0] (.cond 58 (.ops [wV 59 (.fieldAddr 0 13), wV 60 (.load 1 false 59), wV 61 (.un .neg 60), wV 62 (.fieldAddr 0 13), wN (.store 1 62 61)]) .skip)) (sQ [wV 63 (.load 2 true 13), wN (.store 2 6 63), wV 7 (.move (vI 0))] .ret))))))))) (.ops [wM 16 8, wV 17 (.bin .add none 16 (vI 1)), wM 8 17])))))) (sQ [wV 64 (.build z2L []), wN (.store 2 6 64), wV 7 (.move (vI 10))] .ret))), [.cell 6 2 true, 7], 65⟩
theorem KG95 : Ab Tryz.prog 86 = some KF95 := by kernel_rfl
theorem Py : Af [((1 : Int), 2 * 2)] := ⟨by decide, trivial⟩
set_option maxHeartbeats 1000000 in
theorem A3c (hg : hGr W0 G) {s : Bool} {n d : Nat} (hn : n < 10 ^ 100) (hd : d < 10 ^ 100) (hd0 : 0 < d) (H : Hz) : cP W0 86 [.bool s, dN n, dN d] H (Po (Ic s n d)) H := by
 refine A1.pure (by simp [A8, blw, A3t]) rfl ?_ H
 refine oF KG95 ?_
 refine sO (mV (v := .ptr 0 0) rfl (x1 rfl (sq (sO (x1 rfl (bM ?_))))))
 refine ExM.loop (σ := Nat) (fun j => ⟨.al [(0, .bool s), (1, dN n), (2, dN d), (6, .ptr 0 0), (8, .int .i64 ((j : Nat) - 9))], [.cells 24 z2L false], 65⟩) (fun j => j ≤ 19 ∧ Ja s n d (19 - j) ((j : Nat) - 9) = Ic s n d) (fun j => 19 - j) 0 (Ae 1 rfl (Nat.zero_le _) rfl rfl (fB (fzC rfl C5 (fzC rfl C5 (fzC rfl (fvP rfl) (fI fzN)))))) ⟨by decide, rfl⟩ ?_
 rintro j ⟨hj, hN⟩
 by_cases h19 : j = 19
 · subst h19
   refine sq (sO (mV rfl (mF rfl (mn (cF rfl ?_)))))
   refine ExM.exit ?_
   refine sO (mV rfl (A6 hg gN rfl (x1 rfl ?_)))
   refine ExM.ret ?_
   refine A0 trivial rfl rfl 100 ?_ rfl
   rw [← hN]; rfl
 · rw [show 19 - j = (19 - (j + 1)) + 1 by omega, Ja] at hN
   generalize he : ((j : Nat) : Int) - 9 = e at hN ⊢
   have hNb := Ya (n := -e) hn (by omega)
   have hDb := Ya (n := e) hd (by omega)
   have hD0 : 0 < d * 10 ^ e.toNat := Nat.mul_pos hd0 (Nat.pow_pos (by decide))
   have hqe : U1 n d e = nQ2 (d * 10 ^ e.toNat) ((n * 10 ^ (-e).toNat) % (d * 10 ^ e.toNat)) ((n * 10 ^ (-e).toNat) / (d * 10 ^ e.toNat)) := rfl
   generalize hNN : n * 10 ^ (-e).toNat = N at hNb hqe ⊢
   generalize hDD : d * 10 ^ e.toNat = D at hDb hD0 hqe ⊢
   have hr : N % D < D := Nat.mod_lt _ hD0
   have hq : N / D < 10 ^ 150 := Nat.lt_of_le_of_lt (Nat.div_le_self _ _) hNb
   have hr9 : N % D < 10 ^ 150 := Nat.lt_trans hr hDb
   generalize hqq : N / D = q at hq hqe ⊢
   generalize hrr : N % D = r at hr hr9 hqe ⊢
   unfold nQ2 at hqe
   by_cases hlt : D < r + r
   · rw [if_pos hlt] at hqe; rw [hqe] at hN
     by_cases hbig : 999999999999999 < q + 1
     · rw [if_pos hbig] at hN
       refine sq (sO (mV rfl (mT rfl (mn (cT rfl (kM (sq (bM (sO (m2 rfl rfl (mC rfl (Eo hg (x := d) (n := e) (nLl hd (An (by decide))) (by omega) _) (x1 rfl (sO (m2 rfl rfl (mI (-e) rfl (mC rfl (Eo hg (x := n) (n := -e) (nLl hn (An (by decide))) (by omega) _) (mV rfl (mC rfl (show cP W0 132 [tN n (-e), tN d e] [.cells 24 z2L false] (.tup [dN q, dN r]) [.cells 24 z2L false] from by rw [← hqq, ← hrr]; exact A1.sub2 (by rw [← hNN]; exact Bj n (-e)) (by rw [← hDD]; exact Bj d e) (byQ hg (x := N) (y := D) (Ap hNb).2.2.1 hD0 (Ap hDb).2.1 _)) (mV rfl (x4 rfl rfl rfl rfl (sO (m2 rfl rfl (mC rfl (G5 hg (x := r) (y := r) (Ap hr9).2.2.1 (Ap hr9).2.2.1 _) (x1 rfl (sq (sO (m2 rfl rfl (mC rfl (A1.sub2 (by rw [← hDD]; exact Bj d e) (Sub.refl _) (Bf hg (x := D) (y := r + r) (Ap hDb).2.2.1 (Ap hr9).2.2.2.2 _)) (mK (v := .bool true) rfl (congrArg AVal.bool (decide_eq_true hlt)) (mG (mG (mG (mG (mG (mGT hg rfl rfl (mGT hg rfl rfl (mGT hg rfl rfl (mGT hg rfl rfl (mG (x1 rfl (cT rfl (oM (mV rfl (mV (v := .hsl 1 1 0 1 (some 1)) rfl ?_))))))))))))))))))))))))))))))))))))))))))))
       refine mFz (Ae (l := [(0, .bool s), (1, dN n), (2, dN d), (6, .ptr 0 0), (8, .int .i64 e), (48, dN q), (49, dN 1)]) 1 rfl (Nat.zero_le _) rfl rfl (fB (fzC rfl C5 (fzC rfl C5 (fzC rfl (fvP rfl) (fI (fzC rfl C5 (fzC rfl (by rw [dN1]; exact Dh (id := 1) (l := [1]) (by decide) rfl) fzN)))))))) ?_
       refine mC rfl (G5 hg (x := q) (y := 1) (Ap hq).2.2.1 (by decide) _) (x1 rfl (sq (sO (mC rfl (Bl hg (n := 999999999999999) (by decide) (by decide) _) (mV rfl (Fg hg gN (c := true) rfl rfl (Bf hg (x := 999999999999999) (y := q + 1) (by decide) (by have := Ap hq; omega) _) (decide_eq_true hbig) (mn (cT rfl ?_))))))))
       refine ExM.exit ?_
       refine oM (mV rfl (mK (v := .int .i64 (e + 1)) rfl (B8 (by omega) (by omega) rfl) (x1 rfl ?_)))
       exact ⟨j + 1, ⟨by omega, by rw [← hN]; congr 1; omega⟩, by omega, Ae 1 rfl (Nat.zero_le _) rfl rfl (fB (fzC rfl C5 (fzC rfl C5 (fzC rfl (fvP rfl) (fzC rfl (by rw [show ((j + 1 : Nat) : Int) - 9 = e + 1 by omega]; exact fvI) fzN)))))⟩
     · have hlb := Qg (m := q + 1) (e := e) (by omega) (by omega)
       cases s
       · rw [if_neg hbig] at hN
         refine sq (sO (mV rfl (mT rfl (mn (cT rfl (kM (sq (bM (sO (m2 rfl rfl (mC rfl (Eo hg (x := d) (n := e) (nLl hd (An (by decide))) (by omega) _) (x1 rfl (sO (m2 rfl rfl (mI (-e) rfl (mC rfl (Eo hg (x := n) (n := -e) (nLl hn (An (by decide))) (by omega) _) (mV rfl (mC rfl (show cP W0 132 [tN n (-e), tN d e] [.cells 24 z2L false] (.tup [dN q, dN r]) [.cells 24 z2L false] from by rw [← hqq, ← hrr]; exact A1.sub2 (by rw [← hNN]; exact Bj n (-e)) (by rw [← hDD]; exact Bj d e) (byQ hg (x := N) (y := D) (Ap hNb).2.2.1 hD0 (Ap hDb).2.1 _)) (mV rfl (x4 rfl rfl rfl rfl (sO (m2 rfl rfl (mC rfl (G5 hg (x := r) (y := r) (Ap hr9).2.2.1 (Ap hr9).2.2.1 _) (x1 rfl (sq (sO (m2 rfl rfl (mC rfl (A1.sub2 (by rw [← hDD]; exact Bj d e) (Sub.refl _) (Bf hg (x := D) (y := r + r) (Ap hDb).2.2.1 (Ap hr9).2.2.2.2 _)) (mK (v := .bool true) rfl (congrArg AVal.bool (decide_eq_true hlt)) (mG (mG (mG (mG (mG (mGT hg rfl rfl (mGT hg rfl rfl (mGT hg rfl rfl (mGT hg rfl rfl (mG (x1 rfl (cT rfl (oM (mV rfl (mV (v := .hsl 1 1 0 1 (some 1)) rfl ?_))))))))))))))))))))))))))))))))))))))))))))
         refine mFz (Ae (l := [(0, .bool false), (1, dN n), (2, dN d), (6, .ptr 0 0), (8, .int .i64 e), (48, dN q), (49, dN 1)]) 1 rfl (Nat.zero_le _) rfl rfl (fB (fzC rfl C5 (fzC rfl C5 (fzC rfl (fvP rfl) (fI (fzC rfl C5 (fzC rfl (by rw [dN1]; exact Dh (id := 1) (l := [1]) (by decide) rfl) fzN)))))))) ?_
         refine mC rfl (G5 hg (x := q) (y := 1) (Ap hq).2.2.1 (by decide) _) (x1 rfl (sq (sO (mC rfl (Bl hg (n := 999999999999999) (by decide) (by decide) _) (mV rfl (Fg hg gN (c := false) rfl rfl (Bf hg (x := 999999999999999) (y := q + 1) (by decide) (by have := Ap hq; omega) _) (dF hbig) (mn (cF rfl (kM (sO (mV rfl (mC rfl (Kp hg (x := q + 1) (by omega) _) (mV rfl (mC rfl (Wh hg (m := q + 1) (e := e) (by omega) (by omega) (by omega) _) (mV (v := .ptr 1 0) rfl (A6 hg gN rfl (mn (sq (sO (x1 rfl (cF rfl (kM (sO (mV rfl (A6 hg gN rfl (x1 rfl ?_))))))))))))))))))))))))))
         refine ExM.ret ?_
         refine A0 trivial rfl rfl 100 ?_ rfl
         rw [← hN]; rfl
       · rw [if_neg hbig] at hN
         refine sq (sO (mV rfl (mT rfl (mn (cT rfl (kM (sq (bM (sO (m2 rfl rfl (mC rfl (Eo hg (x := d) (n := e) (nLl hd (An (by decide))) (by omega) _) (x1 rfl (sO (m2 rfl rfl (mI (-e) rfl (mC rfl (Eo hg (x := n) (n := -e) (nLl hn (An (by decide))) (by omega) _) (mV rfl (mC rfl (show cP W0 132 [tN n (-e), tN d e] [.cells 24 z2L false] (.tup [dN q, dN r]) [.cells 24 z2L false] from by rw [← hqq, ← hrr]; exact A1.sub2 (by rw [← hNN]; exact Bj n (-e)) (by rw [← hDD]; exact Bj d e) (byQ hg (x := N) (y := D) (Ap hNb).2.2.1 hD0 (Ap hDb).2.1 _)) (mV rfl (x4 rfl rfl rfl rfl (sO (m2 rfl rfl (mC rfl (G5 hg (x := r) (y := r) (Ap hr9).2.2.1 (Ap hr9).2.2.1 _) (x1 rfl (sq (sO (m2 rfl rfl (mC rfl (A1.sub2 (by rw [← hDD]; exact Bj d e) (Sub.refl _) (Bf hg (x := D) (y := r + r) (Ap hDb).2.2.1 (Ap hr9).2.2.2.2 _)) (mK (v := .bool true) rfl (congrArg AVal.bool (decide_eq_true hlt)) (mG (mG (mG (mG (mG (mGT hg rfl rfl (mGT hg rfl rfl (mGT hg rfl rfl (mGT hg rfl rfl (mG (x1 rfl (cT rfl (oM (mV rfl (mV (v := .hsl 1 1 0 1 (some 1)) rfl ?_))))))))))))))))))))))))))))))))))))))))))))
         refine mFz (Ae (l := [(0, .bool true), (1, dN n), (2, dN d), (6, .ptr 0 0), (8, .int .i64 e), (48, dN q), (49, dN 1)]) 1 rfl (Nat.zero_le _) rfl rfl (fB (fzC rfl C5 (fzC rfl C5 (fzC rfl (fvP rfl) (fI (fzC rfl C5 (fzC rfl (by rw [dN1]; exact Dh (id := 1) (l := [1]) (by decide) rfl) fzN)))))))) ?_
         refine mC rfl (G5 hg (x := q) (y := 1) (Ap hq).2.2.1 (by decide) _) (x1 rfl (sq (sO (mC rfl (Bl hg (n := 999999999999999) (by decide) (by decide) _) (mV rfl (Fg hg gN (c := false) rfl rfl (Bf hg (x := 999999999999999) (y := q + 1) (by decide) (by have := Ap hq; omega) _) (dF hbig) (mn (cF rfl (kM (sO (mV rfl (mC rfl (Kp hg (x := q + 1) (by omega) _) (mV rfl (mC rfl (Wh hg (m := q + 1) (e := e) (by omega) (by omega) (by omega) _) (mV (v := .ptr 1 0) rfl (A6 hg gN rfl (mn (sq (sO (x1 rfl (cT rfl (oM (m2 rfl rfl (mI (-((K6 (q + 1) e).1 : Int)) rfl (mV rfl (A6 hg gN rfl (mn (sO (mV rfl (A6 hg gN rfl (x1 rfl ?_)))))))))))))))))))))))))))))))
         refine ExM.ret ?_
         refine A0 trivial rfl rfl 100 ?_ rfl
         rw [← hN]; rfl
   · rw [if_neg hlt] at hqe
     by_cases hgt : r + r < D
     · rw [if_pos hgt] at hqe; rw [hqe] at hN
       by_cases hbig : 999999999999999 < q
       · rw [if_pos hbig] at hN
         refine sq (sO (mV rfl (mT rfl (mn (cT rfl (kM (sq (bM (sO (m2 rfl rfl (mC rfl (Eo hg (x := d) (n := e) (nLl hd (An (by decide))) (by omega) _) (x1 rfl (sO (m2 rfl rfl (mI (-e) rfl (mC rfl (Eo hg (x := n) (n := -e) (nLl hn (An (by decide))) (by omega) _) (mV rfl (mC rfl (show cP W0 132 [tN n (-e), tN d e] [.cells 24 z2L false] (.tup [dN q, dN r]) [.cells 24 z2L false] from by rw [← hqq, ← hrr]; exact A1.sub2 (by rw [← hNN]; exact Bj n (-e)) (by rw [← hDD]; exact Bj d e) (byQ hg (x := N) (y := D) (Ap hNb).2.2.1 hD0 (Ap hDb).2.1 _)) (mV rfl (x4 rfl rfl rfl rfl (sO (m2 rfl rfl (mC rfl (G5 hg (x := r) (y := r) (Ap hr9).2.2.1 (Ap hr9).2.2.1 _) (x1 rfl (sq (sO (m2 rfl rfl (mC rfl (A1.sub2 (by rw [← hDD]; exact Bj d e) (Sub.refl _) (Bf hg (x := D) (y := r + r) (Ap hDb).2.2.1 (Ap hr9).2.2.2.2 _)) (mK (v := .bool false) rfl (congrArg AVal.bool (dF hlt)) (m2 rfl rfl (mC rfl (A1.sub2 (Sub.refl _) (by rw [← hDD]; exact Bj d e) (Bf hg (x := r + r) (y := D) (Ap hr9).2.2.2.2 (Ap hDb).2.2.1 _)) (mK (v := .bool false) rfl (congrArg AVal.bool (by rw [decide_eq_true hgt]; rfl)) (mV rfl (mG (mG (mG (mG (x2 rfl rfl (cF rfl (kM (sq (sO (mC rfl (Bl hg (n := 999999999999999) (by decide) (by decide) _) (mV rfl (Fg hg gN (c := true) rfl rfl (Bf hg (x := 999999999999999) (y := q) (by decide) (by have := Ap hq; omega) _) (decide_eq_true hbig) (mn (cT rfl ?_)))))))))))))))))))))))))))))))))))))))))))))))
         refine ExM.exit ?_
         refine oM (mV rfl (mK (v := .int .i64 (e + 1)) rfl (B8 (by omega) (by omega) rfl) (x1 rfl ?_)))
         exact ⟨j + 1, ⟨by omega, by rw [← hN]; congr 1; omega⟩, by omega, Ae 1 rfl (Nat.zero_le _) rfl rfl (fB (fzC rfl C5 (fzC rfl C5 (fzC rfl (fvP rfl) (fzC rfl (by rw [show ((j + 1 : Nat) : Int) - 9 = e + 1 by omega]; exact fvI) fzN)))))⟩
       · have hlb := Qg (m := q) (e := e) (by omega) (by omega)
         cases s
         · rw [if_neg hbig] at hN
           refine sq (sO (mV rfl (mT rfl (mn (cT rfl (kM (sq (bM (sO (m2 rfl rfl (mC rfl (Eo hg (x := d) (n := e) (nLl hd (An (by decide))) (by omega) _) (x1 rfl (sO (m2 rfl rfl (mI (-e) rfl (mC rfl (Eo hg (x := n) (n := -e) (nLl hn (An (by decide))) (by omega) _) (mV rfl (mC rfl (show cP W0 132 [tN n (-e), tN d e] [.cells 24 z2L false] (.tup [dN q, dN r]) [.cells 24 z2L false] from by rw [← hqq, ← hrr]; exact A1.sub2 (by rw [← hNN]; exact Bj n (-e)) (by rw [← hDD]; exact Bj d e) (byQ hg (x := N) (y := D) (Ap hNb).2.2.1 hD0 (Ap hDb).2.1 _)) (mV rfl (x4 rfl rfl rfl rfl (sO (m2 rfl rfl (mC rfl (G5 hg (x := r) (y := r) (Ap hr9).2.2.1 (Ap hr9).2.2.1 _) (x1 rfl (sq (sO (m2 rfl rfl (mC rfl (A1.sub2 (by rw [← hDD]; exact Bj d e) (Sub.refl _) (Bf hg (x := D) (y := r + r) (Ap hDb).2.2.1 (Ap hr9).2.2.2.2 _)) (mK (v := .bool false) rfl (congrArg AVal.bool (dF hlt)) (m2 rfl rfl (mC rfl (A1.sub2 (Sub.refl _) (by rw [← hDD]; exact Bj d e) (Bf hg (x := r + r) (y := D) (Ap hr9).2.2.2.2 (Ap hDb).2.2.1 _)) (mK (v := .bool false) rfl (congrArg AVal.bool (by rw [decide_eq_true hgt]; rfl)) (mV rfl (mG (mG (mG (mG (x2 rfl rfl (cF rfl (kM (sq (sO (mC rfl (Bl hg (n := 999999999999999) (by decide) (by decide) _) (mV rfl (Fg hg gN (c := false) rfl rfl (Bf hg (x := 999999999999999) (y := q) (by decide) (by have := Ap hq; omega) _) (dF hbig) (mn (cF rfl (kM (sO (mV rfl (mC rfl (Kp hg (x := q) (by omega) _) (mV rfl (mC rfl (Wh hg (m := q) (e := e) (by omega) (by omega) (by omega) _) (mV (v := .ptr 1 0) rfl (A6 hg gN rfl (mn (sq (sO (x1 rfl (cF rfl (kM (sO (mV rfl (A6 hg gN rfl (x1 rfl ?_)))))))))))))))))))))))))))))))))))))))))))))))))))))))))))))))))
           refine ExM.ret ?_
           refine A0 trivial rfl rfl 100 ?_ rfl
           rw [← hN]; rfl
         · rw [if_neg hbig] at hN
           refine sq (sO (mV rfl (mT rfl (mn (cT rfl (kM (sq (bM (sO (m2 rfl rfl (mC rfl (Eo hg (x := d) (n := e) (nLl hd (An (by decide))) (by omega) _) (x1 rfl (sO (m2 rfl rfl (mI (-e) rfl (mC rfl (Eo hg (x := n) (n := -e) (nLl hn (An (by decide))) (by omega) _) (mV rfl (mC rfl (show cP W0 132 [tN n (-e), tN d e] [.cells 24 z2L false] (.tup [dN q, dN r]) [.cells 24 z2L false] from by rw [← hqq, ← hrr]; exact A1.sub2 (by rw [← hNN]; exact Bj n (-e)) (by rw [← hDD]; exact Bj d e) (byQ hg (x := N) (y := D) (Ap hNb).2.2.1 hD0 (Ap hDb).2.1 _)) (mV rfl (x4 rfl rfl rfl rfl (sO (m2 rfl rfl (mC rfl (G5 hg (x := r) (y := r) (Ap hr9).2.2.1 (Ap hr9).2.2.1 _) (x1 rfl (sq (sO (m2 rfl rfl (mC rfl (A1.sub2 (by rw [← hDD]; exact Bj d e) (Sub.refl _) (Bf hg (x := D) (y := r + r) (Ap hDb).2.2.1 (Ap hr9).2.2.2.2 _)) (mK (v := .bool false) rfl (congrArg AVal.bool (dF hlt)) (m2 rfl rfl (mC rfl (A1.sub2 (Sub.refl _) (by rw [← hDD]; exact Bj d e) (Bf hg (x := r + r) (y := D) (Ap hr9).2.2.2.2 (Ap hDb).2.2.1 _)) (mK (v := .bool false) rfl (congrArg AVal.bool (by rw [decide_eq_true hgt]; rfl)) (mV rfl (mG (mG (mG (mG (x2 rfl rfl (cF rfl (kM (sq (sO (mC rfl (Bl hg (n := 999999999999999) (by decide) (by decide) _) (mV rfl (Fg hg gN (c := false) rfl rfl (Bf hg (x := 999999999999999) (y := q) (by decide) (by have := Ap hq; omega) _) (dF hbig) (mn (cF rfl (kM (sO (mV rfl (mC rfl (Kp hg (x := q) (by omega) _) (mV rfl (mC rfl (Wh hg (m := q) (e := e) (by omega) (by omega) (by omega) _) (mV (v := .ptr 1 0) rfl (A6 hg gN rfl (mn (sq (sO (x1 rfl (cT rfl (oM (m2 rfl rfl (mI (-((K6 (q) e).1 : Int)) rfl (mV rfl (A6 hg gN rfl (mn (sO (mV rfl (A6 hg gN rfl (x1 rfl ?_))))))))))))))))))))))))))))))))))))))))))))))))))))))))))))))))))))))
           refine ExM.ret ?_
           refine A0 trivial rfl rfl 100 ?_ rfl
           rw [← hN]; rfl
     · rw [if_neg hgt] at hqe
       by_cases hodd : q % 10 % 2 = 1
       · rw [if_pos hodd] at hqe; rw [hqe] at hN
         by_cases hbig : 999999999999999 < q + 1
         · rw [if_pos hbig] at hN
           refine sq (sO (mV rfl (mT rfl (mn (cT rfl (kM (sq (bM (sO (m2 rfl rfl (mC rfl (Eo hg (x := d) (n := e) (nLl hd (An (by decide))) (by omega) _) (x1 rfl (sO (m2 rfl rfl (mI (-e) rfl (mC rfl (Eo hg (x := n) (n := -e) (nLl hn (An (by decide))) (by omega) _) (mV rfl (mC rfl (show cP W0 132 [tN n (-e), tN d e] [.cells 24 z2L false] (.tup [dN q, dN r]) [.cells 24 z2L false] from by rw [← hqq, ← hrr]; exact A1.sub2 (by rw [← hNN]; exact Bj n (-e)) (by rw [← hDD]; exact Bj d e) (byQ hg (x := N) (y := D) (Ap hNb).2.2.1 hD0 (Ap hDb).2.1 _)) (mV rfl (x4 rfl rfl rfl rfl (sO (m2 rfl rfl (mC rfl (G5 hg (x := r) (y := r) (Ap hr9).2.2.1 (Ap hr9).2.2.1 _) (x1 rfl (sq (sO (m2 rfl rfl (mC rfl (A1.sub2 (by rw [← hDD]; exact Bj d e) (Sub.refl _) (Bf hg (x := D) (y := r + r) (Ap hDb).2.2.1 (Ap hr9).2.2.2.2 _)) (mK (v := .bool false) rfl (congrArg AVal.bool (dF hlt)) (m2 rfl rfl (mC rfl (A1.sub2 (Sub.refl _) (by rw [← hDD]; exact Bj d e) (Bf hg (x := r + r) (y := D) (Ap hr9).2.2.2.2 (Ap hDb).2.2.1 _)) (mK (v := .bool true) rfl (congrArg AVal.bool (by rw [dF hgt]; rfl)) (m2 rfl rfl (mC rfl (atQ hg _) (mKv hg (gS rfl) (v := .int .i64 ((q % 10 % 2 : Nat))) rfl rfl Py (iE (Int.ofNat_tmod (q % 10) 2).symm) (mK (v := .bool true) rfl (congrArg AVal.bool (by rw [hodd]; rfl)) (x2 rfl rfl (cT rfl (oM (mV rfl (mV (v := .hsl 1 1 0 1 (some 1)) rfl ?_)))))))))))))))))))))))))))))))))))))))))
           refine mFz (Ae (l := [(0, .bool s), (1, dN n), (2, dN d), (6, .ptr 0 0), (8, .int .i64 e), (48, dN q), (49, dN 1)]) 1 rfl (Nat.zero_le _) rfl rfl (fB (fzC rfl C5 (fzC rfl C5 (fzC rfl (fvP rfl) (fI (fzC rfl C5 (fzC rfl (by rw [dN1]; exact Dh (id := 1) (l := [1]) (by decide) rfl) fzN)))))))) ?_
           refine mC rfl (G5 hg (x := q) (y := 1) (Ap hq).2.2.1 (by decide) _) (x1 rfl (sq (sO (mC rfl (Bl hg (n := 999999999999999) (by decide) (by decide) _) (mV rfl (Fg hg gN (c := true) rfl rfl (Bf hg (x := 999999999999999) (y := q + 1) (by decide) (by have := Ap hq; omega) _) (decide_eq_true hbig) (mn (cT rfl ?_))))))))
           refine ExM.exit ?_
           refine oM (mV rfl (mK (v := .int .i64 (e + 1)) rfl (B8 (by omega) (by omega) rfl) (x1 rfl ?_)))
           exact ⟨j + 1, ⟨by omega, by rw [← hN]; congr 1; omega⟩, by omega, Ae 1 rfl (Nat.zero_le _) rfl rfl (fB (fzC rfl C5 (fzC rfl C5 (fzC rfl (fvP rfl) (fzC rfl (by rw [show ((j + 1 : Nat) : Int) - 9 = e + 1 by omega]; exact fvI) fzN)))))⟩
         · have hlb := Qg (m := q + 1) (e := e) (by omega) (by omega)
           cases s
           · rw [if_neg hbig] at hN
             refine sq (sO (mV rfl (mT rfl (mn (cT rfl (kM (sq (bM (sO (m2 rfl rfl (mC rfl (Eo hg (x := d) (n := e) (nLl hd (An (by decide))) (by omega) _) (x1 rfl (sO (m2 rfl rfl (mI (-e) rfl (mC rfl (Eo hg (x := n) (n := -e) (nLl hn (An (by decide))) (by omega) _) (mV rfl (mC rfl (show cP W0 132 [tN n (-e), tN d e] [.cells 24 z2L false] (.tup [dN q, dN r]) [.cells 24 z2L false] from by rw [← hqq, ← hrr]; exact A1.sub2 (by rw [← hNN]; exact Bj n (-e)) (by rw [← hDD]; exact Bj d e) (byQ hg (x := N) (y := D) (Ap hNb).2.2.1 hD0 (Ap hDb).2.1 _)) (mV rfl (x4 rfl rfl rfl rfl (sO (m2 rfl rfl (mC rfl (G5 hg (x := r) (y := r) (Ap hr9).2.2.1 (Ap hr9).2.2.1 _) (x1 rfl (sq (sO (m2 rfl rfl (mC rfl (A1.sub2 (by rw [← hDD]; exact Bj d e) (Sub.refl _) (Bf hg (x := D) (y := r + r) (Ap hDb).2.2.1 (Ap hr9).2.2.2.2 _)) (mK (v := .bool false) rfl (congrArg AVal.bool (dF hlt)) (m2 rfl rfl (mC rfl (A1.sub2 (Sub.refl _) (by rw [← hDD]; exact Bj d e) (Bf hg (x := r + r) (y := D) (Ap hr9).2.2.2.2 (Ap hDb).2.2.1 _)) (mK (v := .bool true) rfl (congrArg AVal.bool (by rw [dF hgt]; rfl)) (m2 rfl rfl (mC rfl (atQ hg _) (mKv hg (gS rfl) (v := .int .i64 ((q % 10 % 2 : Nat))) rfl rfl Py (iE (Int.ofNat_tmod (q % 10) 2).symm) (mK (v := .bool true) rfl (congrArg AVal.bool (by rw [hodd]; rfl)) (x2 rfl rfl (cT rfl (oM (mV rfl (mV (v := .hsl 1 1 0 1 (some 1)) rfl ?_)))))))))))))))))))))))))))))))))))))))))
             refine mFz (Ae (l := [(0, .bool false), (1, dN n), (2, dN d), (6, .ptr 0 0), (8, .int .i64 e), (48, dN q), (49, dN 1)]) 1 rfl (Nat.zero_le _) rfl rfl (fB (fzC rfl C5 (fzC rfl C5 (fzC rfl (fvP rfl) (fI (fzC rfl C5 (fzC rfl (by rw [dN1]; exact Dh (id := 1) (l := [1]) (by decide) rfl) fzN)))))))) ?_
             refine mC rfl (G5 hg (x := q) (y := 1) (Ap hq).2.2.1 (by decide) _) (x1 rfl (sq (sO (mC rfl (Bl hg (n := 999999999999999) (by decide) (by decide) _) (mV rfl (Fg hg gN (c := false) rfl rfl (Bf hg (x := 999999999999999) (y := q + 1) (by decide) (by have := Ap hq; omega) _) (dF hbig) (mn (cF rfl (kM (sO (mV rfl (mC rfl (Kp hg (x := q + 1) (by omega) _) (mV rfl (mC rfl (Wh hg (m := q + 1) (e := e) (by omega) (by omega) (by omega) _) (mV (v := .ptr 1 0) rfl (A6 hg gN rfl (mn (sq (sO (x1 rfl (cF rfl (kM (sO (mV rfl (A6 hg gN rfl (x1 rfl ?_))))))))))))))))))))))))))
             refine ExM.ret ?_
             refine A0 trivial rfl rfl 100 ?_ rfl
             rw [← hN]; rfl
           · rw [if_neg hbig] at hN
             refine sq (sO (mV rfl (mT rfl (mn (cT rfl (kM (sq (bM (sO (m2 rfl rfl (mC rfl (Eo hg (x := d) (n := e) (nLl hd (An (by decide))) (by omega) _) (x1 rfl (sO (m2 rfl rfl (mI (-e) rfl (mC rfl (Eo hg (x := n) (n := -e) (nLl hn (An (by decide))) (by omega) _) (mV rfl (mC rfl (show cP W0 132 [tN n (-e), tN d e] [.cells 24 z2L false] (.tup [dN q, dN r]) [.cells 24 z2L false] from by rw [← hqq, ← hrr]; exact A1.sub2 (by rw [← hNN]; exact Bj n (-e)) (by rw [← hDD]; exact Bj d e) (byQ hg (x := N) (y := D) (Ap hNb).2.2.1 hD0 (Ap hDb).2.1 _)) (mV rfl (x4 rfl rfl rfl rfl (sO (m2 rfl rfl (mC rfl (G5 hg (x := r) (y := r) (Ap hr9).2.2.1 (Ap hr9).2.2.1 _) (x1 rfl (sq (sO (m2 rfl rfl (mC rfl (A1.sub2 (by rw [← hDD]; exact Bj d e) (Sub.refl _) (Bf hg (x := D) (y := r + r) (Ap hDb).2.2.1 (Ap hr9).2.2.2.2 _)) (mK (v := .bool false) rfl (congrArg AVal.bool (dF hlt)) (m2 rfl rfl (mC rfl (A1.sub2 (Sub.refl _) (by rw [← hDD]; exact Bj d e) (Bf hg (x := r + r) (y := D) (Ap hr9).2.2.2.2 (Ap hDb).2.2.1 _)) (mK (v := .bool true) rfl (congrArg AVal.bool (by rw [dF hgt]; rfl)) (m2 rfl rfl (mC rfl (atQ hg _) (mKv hg (gS rfl) (v := .int .i64 ((q % 10 % 2 : Nat))) rfl rfl Py (iE (Int.ofNat_tmod (q % 10) 2).symm) (mK (v := .bool true) rfl (congrArg AVal.bool (by rw [hodd]; rfl)) (x2 rfl rfl (cT rfl (oM (mV rfl (mV (v := .hsl 1 1 0 1 (some 1)) rfl ?_)))))))))))))))))))))))))))))))))))))))))
             refine mFz (Ae (l := [(0, .bool true), (1, dN n), (2, dN d), (6, .ptr 0 0), (8, .int .i64 e), (48, dN q), (49, dN 1)]) 1 rfl (Nat.zero_le _) rfl rfl (fB (fzC rfl C5 (fzC rfl C5 (fzC rfl (fvP rfl) (fI (fzC rfl C5 (fzC rfl (by rw [dN1]; exact Dh (id := 1) (l := [1]) (by decide) rfl) fzN)))))))) ?_
             refine mC rfl (G5 hg (x := q) (y := 1) (Ap hq).2.2.1 (by decide) _) (x1 rfl (sq (sO (mC rfl (Bl hg (n := 999999999999999) (by decide) (by decide) _) (mV rfl (Fg hg gN (c := false) rfl rfl (Bf hg (x := 999999999999999) (y := q + 1) (by decide) (by have := Ap hq; omega) _) (dF hbig) (mn (cF rfl (kM (sO (mV rfl (mC rfl (Kp hg (x := q + 1) (by omega) _) (mV rfl (mC rfl (Wh hg (m := q + 1) (e := e) (by omega) (by omega) (by omega) _) (mV (v := .ptr 1 0) rfl (A6 hg gN rfl (mn (sq (sO (x1 rfl (cT rfl (oM (m2 rfl rfl (mI (-((K6 (q + 1) e).1 : Int)) rfl (mV rfl (A6 hg gN rfl (mn (sO (mV rfl (A6 hg gN rfl (x1 rfl ?_)))))))))))))))))))))))))))))))
             refine ExM.ret ?_
             refine A0 trivial rfl rfl 100 ?_ rfl
             rw [← hN]; rfl
       · rw [if_neg hodd] at hqe; rw [hqe] at hN
         by_cases hbig : 999999999999999 < q
         · rw [if_pos hbig] at hN
           refine sq (sO (mV rfl (mT rfl (mn (cT rfl (kM (sq (bM (sO (m2 rfl rfl (mC rfl (Eo hg (x := d) (n := e) (nLl hd (An (by decide))) (by omega) _) (x1 rfl (sO (m2 rfl rfl (mI (-e) rfl (mC rfl (Eo hg (x := n) (n := -e) (nLl hn (An (by decide))) (by omega) _) (mV rfl (mC rfl (show cP W0 132 [tN n (-e), tN d e] [.cells 24 z2L false] (.tup [dN q, dN r]) [.cells 24 z2L false] from by rw [← hqq, ← hrr]; exact A1.sub2 (by rw [← hNN]; exact Bj n (-e)) (by rw [← hDD]; exact Bj d e) (byQ hg (x := N) (y := D) (Ap hNb).2.2.1 hD0 (Ap hDb).2.1 _)) (mV rfl (x4 rfl rfl rfl rfl (sO (m2 rfl rfl (mC rfl (G5 hg (x := r) (y := r) (Ap hr9).2.2.1 (Ap hr9).2.2.1 _) (x1 rfl (sq (sO (m2 rfl rfl (mC rfl (A1.sub2 (by rw [← hDD]; exact Bj d e) (Sub.refl _) (Bf hg (x := D) (y := r + r) (Ap hDb).2.2.1 (Ap hr9).2.2.2.2 _)) (mK (v := .bool false) rfl (congrArg AVal.bool (dF hlt)) (m2 rfl rfl (mC rfl (A1.sub2 (Sub.refl _) (by rw [← hDD]; exact Bj d e) (Bf hg (x := r + r) (y := D) (Ap hr9).2.2.2.2 (Ap hDb).2.2.1 _)) (mK (v := .bool true) rfl (congrArg AVal.bool (by rw [dF hgt]; rfl)) (m2 rfl rfl (mC rfl (atQ hg _) (mKv hg (gS rfl) (v := .int .i64 ((q % 10 % 2 : Nat))) rfl rfl Py (iE (Int.ofNat_tmod (q % 10) 2).symm) (mK (v := .bool false) rfl (congrArg AVal.bool (by rw [bFn]; omega)) (x2 rfl rfl (cF rfl (kM (sq (sO (mC rfl (Bl hg (n := 999999999999999) (by decide) (by decide) _) (mV rfl (Fg hg gN (c := true) rfl rfl (Bf hg (x := 999999999999999) (y := q) (by decide) (by have := Ap hq; omega) _) (decide_eq_true hbig) (mn (cT rfl ?_))))))))))))))))))))))))))))))))))))))))))))))
           refine ExM.exit ?_
           refine oM (mV rfl (mK (v := .int .i64 (e + 1)) rfl (B8 (by omega) (by omega) rfl) (x1 rfl ?_)))
           exact ⟨j + 1, ⟨by omega, by rw [← hN]; congr 1; omega⟩, by omega, Ae 1 rfl (Nat.zero_le _) rfl rfl (fB (fzC rfl C5 (fzC rfl C5 (fzC rfl (fvP rfl) (fzC rfl (by rw [show ((j + 1 : Nat) : Int) - 9 = e + 1 by omega]; exact fvI) fzN)))))⟩
         · have hlb := Qg (m := q) (e := e) (by omega) (by omega)
           cases s
           · rw [if_neg hbig] at hN
             refine sq (sO (mV rfl (mT rfl (mn (cT rfl (kM (sq (bM (sO (m2 rfl rfl (mC rfl (Eo hg (x := d) (n := e) (nLl hd (An (by decide))) (by omega) _) (x1 rfl (sO (m2 rfl rfl (mI (-e) rfl (mC rfl (Eo hg (x := n) (n := -e) (nLl hn (An (by decide))) (by omega) _) (mV rfl (mC rfl (show cP W0 132 [tN n (-e), tN d e] [.cells 24 z2L false] (.tup [dN q, dN r]) [.cells 24 z2L false] from by rw [← hqq, ← hrr]; exact A1.sub2 (by rw [← hNN]; exact Bj n (-e)) (by rw [← hDD]; exact Bj d e) (byQ hg (x := N) (y := D) (Ap hNb).2.2.1 hD0 (Ap hDb).2.1 _)) (mV rfl (x4 rfl rfl rfl rfl (sO (m2 rfl rfl (mC rfl (G5 hg (x := r) (y := r) (Ap hr9).2.2.1 (Ap hr9).2.2.1 _) (x1 rfl (sq (sO (m2 rfl rfl (mC rfl (A1.sub2 (by rw [← hDD]; exact Bj d e) (Sub.refl _) (Bf hg (x := D) (y := r + r) (Ap hDb).2.2.1 (Ap hr9).2.2.2.2 _)) (mK (v := .bool false) rfl (congrArg AVal.bool (dF hlt)) (m2 rfl rfl (mC rfl (A1.sub2 (Sub.refl _) (by rw [← hDD]; exact Bj d e) (Bf hg (x := r + r) (y := D) (Ap hr9).2.2.2.2 (Ap hDb).2.2.1 _)) (mK (v := .bool true) rfl (congrArg AVal.bool (by rw [dF hgt]; rfl)) (m2 rfl rfl (mC rfl (atQ hg _) (mKv hg (gS rfl) (v := .int .i64 ((q % 10 % 2 : Nat))) rfl rfl Py (iE (Int.ofNat_tmod (q % 10) 2).symm) (mK (v := .bool false) rfl (congrArg AVal.bool (by rw [bFn]; omega)) (x2 rfl rfl (cF rfl (kM (sq (sO (mC rfl (Bl hg (n := 999999999999999) (by decide) (by decide) _) (mV rfl (Fg hg gN (c := false) rfl rfl (Bf hg (x := 999999999999999) (y := q) (by decide) (by have := Ap hq; omega) _) (dF hbig) (mn (cF rfl (kM (sO (mV rfl (mC rfl (Kp hg (x := q) (by omega) _) (mV rfl (mC rfl (Wh hg (m := q) (e := e) (by omega) (by omega) (by omega) _) (mV (v := .ptr 1 0) rfl (A6 hg gN rfl (mn (sq (sO (x1 rfl (cF rfl (kM (sO (mV rfl (A6 hg gN rfl (x1 rfl ?_))))))))))))))))))))))))))))))))))))))))))))))))))))))))))))))))
             refine ExM.ret ?_
             refine A0 trivial rfl rfl 100 ?_ rfl
             rw [← hN]; rfl
           · rw [if_neg hbig] at hN
             refine sq (sO (mV rfl (mT rfl (mn (cT rfl (kM (sq (bM (sO (m2 rfl rfl (mC rfl (Eo hg (x := d) (n := e) (nLl hd (An (by decide))) (by omega) _) (x1 rfl (sO (m2 rfl rfl (mI (-e) rfl (mC rfl (Eo hg (x := n) (n := -e) (nLl hn (An (by decide))) (by omega) _) (mV rfl (mC rfl (show cP W0 132 [tN n (-e), tN d e] [.cells 24 z2L false] (.tup [dN q, dN r]) [.cells 24 z2L false] from by rw [← hqq, ← hrr]; exact A1.sub2 (by rw [← hNN]; exact Bj n (-e)) (by rw [← hDD]; exact Bj d e) (byQ hg (x := N) (y := D) (Ap hNb).2.2.1 hD0 (Ap hDb).2.1 _)) (mV rfl (x4 rfl rfl rfl rfl (sO (m2 rfl rfl (mC rfl (G5 hg (x := r) (y := r) (Ap hr9).2.2.1 (Ap hr9).2.2.1 _) (x1 rfl (sq (sO (m2 rfl rfl (mC rfl (A1.sub2 (by rw [← hDD]; exact Bj d e) (Sub.refl _) (Bf hg (x := D) (y := r + r) (Ap hDb).2.2.1 (Ap hr9).2.2.2.2 _)) (mK (v := .bool false) rfl (congrArg AVal.bool (dF hlt)) (m2 rfl rfl (mC rfl (A1.sub2 (Sub.refl _) (by rw [← hDD]; exact Bj d e) (Bf hg (x := r + r) (y := D) (Ap hr9).2.2.2.2 (Ap hDb).2.2.1 _)) (mK (v := .bool true) rfl (congrArg AVal.bool (by rw [dF hgt]; rfl)) (m2 rfl rfl (mC rfl (atQ hg _) (mKv hg (gS rfl) (v := .int .i64 ((q % 10 % 2 : Nat))) rfl rfl Py (iE (Int.ofNat_tmod (q % 10) 2).symm) (mK (v := .bool false) rfl (congrArg AVal.bool (by rw [bFn]; omega)) (x2 rfl rfl (cF rfl (kM (sq (sO (mC rfl (Bl hg (n := 999999999999999) (by decide) (by decide) _) (mV rfl (Fg hg gN (c := false) rfl rfl (Bf hg (x := 999999999999999) (y := q) (by decide) (by have := Ap hq; omega) _) (dF hbig) (mn (cF rfl (kM (sO (mV rfl (mC rfl (Kp hg (x := q) (by omega) _) (mV rfl (mC rfl (Wh hg (m := q) (e := e) (by omega) (by omega) (by omega) _) (mV (v := .ptr 1 0) rfl (A6 hg gN rfl (mn (sq (sO (x1 rfl (cT rfl (oM (m2 rfl rfl (mI (-((K6 (q) e).1 : Int)) rfl (mV rfl (A6 hg gN rfl (mn (sO (mV rfl (A6 hg gN rfl (x1 rfl ?_)))))))))))))))))))))))))))))))))))))))))))))))))))))))))))))))))))))
             refine ExM.ret ?_
             refine A0 trivial rfl rfl 100 ?_ rfl
             rw [← hN]; rfl
theorem frzT {H : Hz} {k x : Nat} {n : Int} : ∃ m, frz H k m (tN x n) = some (tN x n) := by
 rcases fvT (H := H) (k := k) (x := x) (n := n) with h | ⟨h1, j, h2⟩
 · exact h
 · exact ⟨1, by rw [h1]; rfl⟩
theorem one500 : 1 < 10 ^ 100 := by decide
def Dj (M E : Int) : Bool := if M < -999999999999999 ∨ 999999999999999 < M ∨ E < -9 ∨ 9 < E then false else if M = 0 then E == 0 else if M.tmod 10 != 0 then true else E == 9
theorem Nk {M E : Int} (h : Dj M E = true) : -999999999999999 ≤ M ∧ M ≤ 999999999999999 ∧ -9 ≤ E ∧ E ≤ 9 := by
 unfold Dj at h
 split at h
 · cases h
 · omega
theorem Dp {M : Int} (h1 : -999999999999999 ≤ M) (h2 : M ≤ 999999999999999) : M.natAbs < 10 ^ 100 := by
 have : (1000000000000000 : Nat) ≤ 10 ^ 100 := by
  have : (10 : Nat) ^ 15 ≤ 10 ^ 100 := Nat.pow_le_pow_right (by decide) (by decide)
  exact Nat.le_trans (by decide) this
 omega
theorem N6 {x : Nat} (h : x < 10 ^ 100) : x < 10 ^ 250 := nLl h (An (by decide))
def KF98 : AFn := ⟨(sQ [wV 1 (.box 24 0), wV 2 (.move (.val (.nilSl)))] (.seq (.draw [wV 3 (.fieldAddr 0 1), wV 4 (.load 1 false 3), wV 5 (kF 87 [4]), wV 6 (.fieldAddr 1 1), wV 7 (.load 1 false 6), wV 8 (.bin .add none 7 (vI 9)), wV 9 (kF 90 [5, 8]), wM 2 9]) .ret)), [2], 10⟩
theorem KG98 : Ab Tryz.prog 89 = some KF98 := by kernel_rfl
def KF147 : AFn := ⟨(sQ [wV 2 (.move (.val (.nilSl)))] (sQ [wV 3 (.bslice 3 1 1 [.int .i64 0] [(0, 1, (vI 1))]), wM 4 0, wV 5 (kF 90 [3, 4]), wM 2 5] .ret)), [2], 6⟩
theorem KG147 : Ab Tryz.prog 128 = some KF147 := by kernel_rfl
def KF100 : AFn := ⟨(sQ [wV 1 (.box 24 0), wV 2 (.move (.val (.bool false)))] (.seq (sQ [wV 3 (.fieldAddr 0 1), wV 4 (.load 1 false 3), wV 5 (.bin .lss none 4 (.val (.int .i64 (-999999999999999)))), wM 6 5, wF 7 6 (.fieldAddr 0 1), wF 8 6 (.load 1 false 7), wF 9 6 (.bin .gtr none 8 (vI 999999999999999)), wV 10 (.pick 6 (.val (.bool true)) 9), wM 11 10, wF 12 11 (.fieldAddr 1 1), wF 13 11 (.load 1 false 12), wF 14 11 (.bin .lss none 13 (.val (.int .i64 (-9)))), wV 15 (.pick 11 (.val (.bool true)) 14), wM 16 15, wF 17 16 (.fieldAddr 1 1), wF 18 16 (.load 1 false 17), wF 19 16 (.bin .gtr none 18 (vI 9)), wV 20 (.pick 16 (.val (.bool true)) 19)] (.cond 20 (sQ [wV 2 (.move (.val (.bool false)))] .ret) .skip)) (.seq (sQ [wV 21 (.fieldAddr 0 1), wV 22 (.load 1 false 21), wV 23 (.bin .eql none 22 (vI 0))] (.cond 23 (sQ [wV 24 (.fieldAddr 1 1), wV 25 (.load 1 false 24), wV 26 (.bin .eql none 25 (vI 0)), wM 2 26] .ret) .skip)) (sQ [wV 27 (.fieldAddr 0 1), wV 28 (.load 1 false 27), wV 29 (.bin .rem none 28 (vI 10)), wV 30 (.bin .neq none 29 (vI 0)), wM 31 30, wF 32 31 (.fieldAddr 1 1), wF 33 31 (.load 1 false 32), wF 34 31 (.bin .eql none 33 (vI 9)), wV 35 (.pick 31 (.val (.bool true)) 34), wM 2 35] .ret)))), [2], 36⟩
theorem KG100 : Ab Tryz.prog 91 = some KF100 := by kernel_rfl
def KF54 : AFn := ⟨(sQ [wV 2 (.alloc 24 z2L), wV 3 (.move (vI 0))] (sQ [wM 7 0, wV 8 (.bin .lss none 7 (vI 0)), wM 9 0, wV 10 (kF 87 [9]), wV 11 (.bslice 3 1 1 [.int .i64 0] [(0, 1, (vI 1))]), wV 12 (kF 86 [8, 10, 11]), wM 6 12, wV 13 (.extract 6 0), wV 14 (.extract 6 1), wV 4 (.alloc 24 z2L), wN (.store 2 4 13), wM 5 14] (.seq (.seq (.draw [wM 15 5, wV 16 (.bin .neq none 15 (vI 0)), wM 17 16, wF 18 17 (.load 2 true 4), wF 19 17 (kF 89 [18]), wF 20 17 (.move 0), wF 21 17 (kF 87 [20]), wF 22 17 (kF 90 [21, (vI 9)]), wF 23 17 (kF 88 [19, 22]), wV 24 (.pick 17 (.val (.bool true)) 23), wM 25 24, wF 26 25 (.move 0), wF 27 25 (kF 87 [26]), wF 28 25 (kF 90 [27, (vI 9)]), wF 29 25 (.load 2 true 4), wF 30 25 (kF 89 [29]), wF 31 25 (kF 88 [28, 30]), wV 32 (.pick 25 (.val (.bool true)) 31)]) (.cond 32 (sQ [wV 33 (.build z2L []), wN (.store 2 2 33), wV 3 (.move (vI 10))] .ret) .skip)) (sQ [wV 34 (.load 2 true 4), wN (.store 2 2 34), wV 3 (.move (vI 0))] .ret)))), [.cell 2 2 true, 3], 35⟩
theorem KG54 : Ab Tryz.prog 35 = some KF54 := by kernel_rfl
theorem Jy (hg : hGr W0 G) {M E : Int} (h1 : -999999999999999 ≤ M) (h2 : M ≤ 999999999999999) (h3 : -9 ≤ E) (h4 : E ≤ 9) (H : Hz) : cP W0 89 [.agg [.int .i64 M, .int .i64 E]] H (tN M.natAbs (E + 9)) H := by
 refine A1.pure rfl (blwT 0 _ _) ?_ H
 refine oF KG98 ?_
 refine sO (mV (v := .ptr 0 0) rfl (x1 rfl (sq ?_)))
 refine ExM.draw hg ?_
 refine qV rfl (qV rfl (Cc rfl rfl (Bl hg (by omega) (by omega) _) (qV rfl (qV rfl (qKv (v := .int .i64 (E + 9)) rfl rfl (by first | exact trivial | (simp only [Af, and_true, lCo, lNi, lAp]; omega)) (B8 (by omega) (by omega) rfl) (Cc rfl rfl (Eo hg (N6 (Dp h1 h2)) (by omega) _) (qV rfl (G8 (?_)))))))))
 exact ExM.ret ⟨trivial, _, rfl, .inr ⟨rfl, frzT, rfl⟩⟩
theorem unitP (hg : hGr W0 G) {n : Int} (hn : n ≤ 1000) (H : Hz) : cP W0 128 [.int .i64 n] H (tN 1 n) H := by
 refine A1.pure rfl (blwT 0 _ _) ?_ H
 refine oF KG147 ?_
 refine sO (x1 rfl (sO (mV (v := .hsl 1 0 0 1 (some 1)) rfl (mV rfl ?_))))
 refine mFz (Ae (l := [(3, dN 1), (4, .int .i64 n)]) 0 rfl (Nat.le_refl _) rfl rfl (fzC rfl (by rw [dN1]; exact Dh (id := 0) (l := [1]) (Nat.le_refl _) rfl) (fI fzN))) ?_
 refine mC rfl (Eo hg (x := 1) (by decide) hn _) (x1 rfl ?_)
 exact ExM.ret (pS)
theorem Ly (hg : hGr W0 G) {M E : Int} (H : Hz) : cP W0 91 [.agg [.int .i64 M, .int .i64 E]] H (.bool (Dj M E)) H := by
 refine A1.pure rfl rfl ?_ H
 refine oF KG100 ?_
 refine sO (mV (v := .ptr 0 0) rfl (x1 rfl (sq (sO (m2 rfl rfl ?_)))))
 refine mB hg gN rfl rfl trivial (fun h1 => ?_) (fun h1 => ?_)
 · refine mV rfl (mG (mG (mG (m2 rfl rfl (mG (mG (mG (m2 rfl rfl (mG (mG (mG (x1 rfl (cT rfl (sO (x1 rfl ?_)))))))))))))))
   refine ExM.ret ?_
   refine A0 trivial rfl rfl 100 (congrArg (fun b => some (AVal.bool b)) ?_) rfl
   simp only [dTe] at *
   rw [Dj, if_pos (by omega)]
 · refine m3 rfl rfl rfl ?_
   refine mB hg (gS rfl) rfl rfl trivial (fun h2 => ?_) (fun h2 => ?_)
   · refine m2 rfl rfl (mG (mG (mG (m2 rfl rfl (mG (mG (mG (x1 rfl (cT rfl (sO (x1 rfl ?_)))))))))))
     refine ExM.ret ?_
     refine A0 trivial rfl rfl 100 (congrArg (fun b => some (AVal.bool b)) ?_) rfl
     simp only [dTe, dFn] at *
     rw [Dj, if_pos (by omega)]
   · refine m4 rfl rfl rfl rfl ?_
     refine mB hg (gS rfl) rfl rfl trivial (fun h3 => ?_) (fun h3 => ?_)
     · refine m2 rfl rfl (mG (mG (mG (x1 rfl (cT rfl (sO (x1 rfl ?_)))))))
       refine ExM.ret ?_
       refine A0 trivial rfl rfl 100 (congrArg (fun b => some (AVal.bool b)) ?_) rfl
       simp only [dTe, dFn] at *
       rw [Dj, if_pos (by omega)]
     · refine m4 rfl rfl rfl rfl ?_
       refine mB hg (gS rfl) rfl rfl trivial (fun h4 => ?_) (fun h4 => ?_)
       · refine x1 rfl (cT rfl (sO (x1 rfl ?_)))
         refine ExM.ret ?_
         refine A0 trivial rfl rfl 100 (congrArg (fun b => some (AVal.bool b)) ?_) rfl
         simp only [dTe, dFn] at *
         rw [Dj, if_pos (by omega)]
       · refine x1 rfl (cF rfl (kM (sq (sO (m2 rfl rfl ?_)))))
         refine mB hg gN rfl rfl trivial (fun h5 => ?_) (fun h5 => ?_)
         · refine mn (cT rfl (sO (x4 rfl rfl rfl rfl ?_)))
           refine ExM.ret ?_
           refine A0 trivial rfl rfl 100 (congrArg (fun b => some (AVal.bool b)) ?_) rfl
           simp only [dFn, beq_iff_eq] at *
           rw [Dj, if_neg (by omega), if_pos (by omega)]
         · refine mn (cF rfl (kM (sO (m2 rfl rfl (Ag hg gN rfl rfl Dc ?_)))))
           refine mB hg gN rfl rfl trivial (fun h6 => ?_) (fun h6 => ?_)
           · refine mV rfl (mG (mG (mG (x2 rfl rfl ?_))))
             refine ExM.ret ?_
             refine A0 trivial rfl rfl 100 (congrArg (fun b => some (AVal.bool b)) ?_) rfl
             simp only [dFn, bFn, ne_eq] at *
             rw [Dj, if_neg (by omega), if_neg (by omega), if_pos (by assumption)]
           · refine m2 rfl rfl (x4 rfl rfl rfl rfl ?_)
             refine ExM.ret ?_
             refine A0 trivial rfl rfl 100 (congrArg (fun b => some (AVal.bool b)) ?_) rfl
             have h6' := h6
             simp only [dFn, bFn, ne_eq] at h1 h2 h3 h4 h5
             rw [Dj, if_neg (by omega), if_neg (by omega), if_neg (by rw [h6']; decide)]
theorem OfK (hg : hGr W0 G) {n : Int} (hn1 : -1000000000 < n) (hn2 : n < 1000000000) : ∃ M E er : Int, (er = 0 ∨ er = 10) ∧ cP W0 35 [.int .i64 n] [] (Po (M, E, er)) [] := by
 have hb := A03 (decide (n < 0)) n.natAbs 1
 have hnear : ∀ H, cP W0 86 [.bool (decide (n < 0)), dN n.natAbs, dN 1] H (Po (Ic (decide (n < 0)) n.natAbs 1)) H := A3c hg (Dp (by omega) (by omega)) one500 (by decide)
 generalize Ic (decide (n < 0)) n.natAbs 1 = p at hb hnear
 obtain ⟨pM, pE, pe⟩ := p
 simp only at hb
 replace hnear : ∀ H, cP W0 86 [.bool (decide (n < 0)), dN n.natAbs, dN 1] H (.tup [.agg [.int .i64 pM, .int .i64 pE], .int .i64 pe]) H := hnear
 have hA : pM.natAbs * 10 ^ (pE + 9).toNat < 10 ^ 250 := (Ap (Ya (Dp hb.1 hb.2.1) (by omega))).2.2.1
 have hB : n.natAbs * 10 ^ (9 : Int).toNat < 10 ^ 250 := (Ap (Ya (Dp (by omega) (by omega)) (by decide))).2.2.1
 by_cases he : pe = 0
 · by_cases hb1 : pM.natAbs * 10 ^ (pE + 9).toNat < n.natAbs * 10 ^ (9 : Int).toNat
   · skip
     refine ⟨0, 0, 10, .inr rfl, ?_⟩
     refine oF KG54 ?_
     refine sO (mV (v := .ptr 0 0) rfl (x1 rfl (sO (m3 rfl rfl rfl (mC rfl (Bl hg (by omega) (by omega) _) (mV (v := .hsl 1 1 0 1 (some 1)) rfl ?_))))))
     refine mFz (Ae (l := [(0, .int .i64 n), (2, .ptr 0 0), (3, .int .i64 0), (8, .bool (decide (n < 0))), (10, dN n.natAbs), (11, dN 1)]) 1 rfl (Nat.zero_le _) rfl rfl (fI (fzC rfl (fvP rfl) (fI (fB (fzC rfl C5 (fzC rfl (by rw [dN1]; exact Dh (id := 1) (l := [1]) (Nat.le_refl _) rfl) fzN))))))) ?_
     refine mC rfl (hnear _) (m3 rfl rfl rfl (mV (v := .ptr 1 0) rfl (A6 hg gN rfl (x1 rfl (sq (sq ?_))))))
     refine ExM.draw hg ?_
     refine qV rfl (qBk (c := false) rfl rfl (by rw [he]; decide) (qV rfl (qGY rfl (qV rfl (qGY rfl (Cc rfl rfl (Jy hg hb.1 hb.2.1 hb.2.2.1 hb.2.2.2 _) (qGY rfl (qV rfl (qGY rfl (Cc rfl rfl (Bl hg (by omega) (by omega) _) (qGY rfl (Cc rfl rfl (Eo hg (N6 (Dp (by omega) (by omega))) (by decide) _) ?_))))))))))))
     refine qGY rfl (Cc rfl rfl (A1.sub2 (Bj _ _) (Bj _ _) (Bf hg (x := pM.natAbs * 10 ^ (pE + 9).toNat) (y := n.natAbs * 10 ^ (9 : Int).toNat) hA hB _)) (B1 rfl rfl trivial (qKv (v := .bool true) rfl rfl trivial (congrArg AVal.bool (decide_eq_true hb1)) (qGN rfl rfl (qGN rfl rfl (qGN rfl rfl (qGN rfl rfl (qGN rfl rfl (qGN rfl rfl (B1 rfl rfl trivial (G8 (?_))))))))))))
     refine cT rfl (sO (mV rfl (A6 hg gN rfl (x1 rfl ?_))))
     exact ExM.ret (pL)
   · by_cases hb2 : n.natAbs * 10 ^ (9 : Int).toNat < pM.natAbs * 10 ^ (pE + 9).toNat
     · skip
       refine ⟨0, 0, 10, .inr rfl, ?_⟩
       refine oF KG54 ?_
       refine sO (mV (v := .ptr 0 0) rfl (x1 rfl (sO (m3 rfl rfl rfl (mC rfl (Bl hg (by omega) (by omega) _) (mV (v := .hsl 1 1 0 1 (some 1)) rfl ?_))))))
       refine mFz (Ae (l := [(0, .int .i64 n), (2, .ptr 0 0), (3, .int .i64 0), (8, .bool (decide (n < 0))), (10, dN n.natAbs), (11, dN 1)]) 1 rfl (Nat.zero_le _) rfl rfl (fI (fzC rfl (fvP rfl) (fI (fB (fzC rfl C5 (fzC rfl (by rw [dN1]; exact Dh (id := 1) (l := [1]) (Nat.le_refl _) rfl) fzN))))))) ?_
       refine mC rfl (hnear _) (m3 rfl rfl rfl (mV (v := .ptr 1 0) rfl (A6 hg gN rfl (x1 rfl (sq (sq ?_))))))
       refine ExM.draw hg ?_
       refine qV rfl (qBk (c := false) rfl rfl (by rw [he]; decide) (qV rfl (qGY rfl (qV rfl (qGY rfl (Cc rfl rfl (Jy hg hb.1 hb.2.1 hb.2.2.1 hb.2.2.2 _) (qGY rfl (qV rfl (qGY rfl (Cc rfl rfl (Bl hg (by omega) (by omega) _) (qGY rfl (Cc rfl rfl (Eo hg (N6 (Dp (by omega) (by omega))) (by decide) _) ?_))))))))))))
       refine qGY rfl (Cc rfl rfl (A1.sub2 (Bj _ _) (Bj _ _) (Bf hg (x := pM.natAbs * 10 ^ (pE + 9).toNat) (y := n.natAbs * 10 ^ (9 : Int).toNat) hA hB _)) (B1 rfl rfl trivial (qKv (v := .bool false) rfl rfl trivial (congrArg AVal.bool (dF hb1)) (qGY rfl (B1 rfl rfl trivial (qGY rfl (Cc rfl rfl (Bl hg (by omega) (by omega) _) (qGY rfl (Cc rfl rfl (Eo hg (N6 (Dp (by omega) (by omega))) (by decide) _) (qGY rfl (B1 rfl rfl trivial (?_))))))))))))
       refine qGY rfl (Cc rfl rfl (Jy hg hb.1 hb.2.1 hb.2.2.1 hb.2.2.2 _) (qGY rfl (Cc rfl rfl (A1.sub2 (Bj _ _) (Bj _ _) (Bf hg (x := n.natAbs * 10 ^ (9 : Int).toNat) (y := pM.natAbs * 10 ^ (pE + 9).toNat) hB hA _)) (qKv (v := .bool true) rfl rfl trivial (congrArg AVal.bool (decide_eq_true hb2)) (G8 (?_))))))
       refine cT rfl (sO (mV rfl (A6 hg gN rfl (x1 rfl ?_))))
       exact ExM.ret (pL)
     · skip
       refine ⟨pM, pE, 0, .inl rfl, ?_⟩
       refine oF KG54 ?_
       refine sO (mV (v := .ptr 0 0) rfl (x1 rfl (sO (m3 rfl rfl rfl (mC rfl (Bl hg (by omega) (by omega) _) (mV (v := .hsl 1 1 0 1 (some 1)) rfl ?_))))))
       refine mFz (Ae (l := [(0, .int .i64 n), (2, .ptr 0 0), (3, .int .i64 0), (8, .bool (decide (n < 0))), (10, dN n.natAbs), (11, dN 1)]) 1 rfl (Nat.zero_le _) rfl rfl (fI (fzC rfl (fvP rfl) (fI (fB (fzC rfl C5 (fzC rfl (by rw [dN1]; exact Dh (id := 1) (l := [1]) (Nat.le_refl _) rfl) fzN))))))) ?_
       refine mC rfl (hnear _) (m3 rfl rfl rfl (mV (v := .ptr 1 0) rfl (A6 hg gN rfl (x1 rfl (sq (sq ?_))))))
       refine ExM.draw hg ?_
       refine qV rfl (qBk (c := false) rfl rfl (by rw [he]; decide) (qV rfl (qGY rfl (qV rfl (qGY rfl (Cc rfl rfl (Jy hg hb.1 hb.2.1 hb.2.2.1 hb.2.2.2 _) (qGY rfl (qV rfl (qGY rfl (Cc rfl rfl (Bl hg (by omega) (by omega) _) (qGY rfl (Cc rfl rfl (Eo hg (N6 (Dp (by omega) (by omega))) (by decide) _) ?_))))))))))))
       refine qGY rfl (Cc rfl rfl (A1.sub2 (Bj _ _) (Bj _ _) (Bf hg (x := pM.natAbs * 10 ^ (pE + 9).toNat) (y := n.natAbs * 10 ^ (9 : Int).toNat) hA hB _)) (B1 rfl rfl trivial (qKv (v := .bool false) rfl rfl trivial (congrArg AVal.bool (dF hb1)) (qGY rfl (B1 rfl rfl trivial (qGY rfl (Cc rfl rfl (Bl hg (by omega) (by omega) _) (qGY rfl (Cc rfl rfl (Eo hg (N6 (Dp (by omega) (by omega))) (by decide) _) (qGY rfl (B1 rfl rfl trivial (?_))))))))))))
       refine qGY rfl (Cc rfl rfl (Jy hg hb.1 hb.2.1 hb.2.2.1 hb.2.2.2 _) (qGY rfl (Cc rfl rfl (A1.sub2 (Bj _ _) (Bj _ _) (Bf hg (x := n.natAbs * 10 ^ (9 : Int).toNat) (y := pM.natAbs * 10 ^ (pE + 9).toNat) hB hA _)) (qKv (v := .bool false) rfl rfl trivial (congrArg AVal.bool (dF hb2)) (G8 (?_))))))
       refine cF rfl (kM (sO (mV rfl (A6 hg gN rfl (x1 rfl ?_)))))
       exact ExM.ret (pL)
 · skip
   refine ⟨0, 0, 10, .inr rfl, ?_⟩
   refine oF KG54 ?_
   refine sO (mV (v := .ptr 0 0) rfl (x1 rfl (sO (m3 rfl rfl rfl (mC rfl (Bl hg (by omega) (by omega) _) (mV (v := .hsl 1 1 0 1 (some 1)) rfl ?_))))))
   refine mFz (Ae (l := [(0, .int .i64 n), (2, .ptr 0 0), (3, .int .i64 0), (8, .bool (decide (n < 0))), (10, dN n.natAbs), (11, dN 1)]) 1 rfl (Nat.zero_le _) rfl rfl (fI (fzC rfl (fvP rfl) (fI (fB (fzC rfl C5 (fzC rfl (by rw [dN1]; exact Dh (id := 1) (l := [1]) (Nat.le_refl _) rfl) fzN))))))) ?_
   refine mC rfl (hnear _) (m3 rfl rfl rfl (mV (v := .ptr 1 0) rfl (A6 hg gN rfl (x1 rfl (sq (sq ?_))))))
   refine ExM.draw hg ?_
   refine qV rfl (qBk (c := true) rfl rfl (by rw [bne_iff_ne]; exact he) (qV rfl (qGN rfl rfl (qGN rfl rfl (qGN rfl rfl (qGN rfl rfl (qGN rfl rfl (qGN rfl rfl (qV rfl (qV rfl (qGN rfl rfl (qGN rfl rfl (qGN rfl rfl (qGN rfl rfl (qGN rfl rfl (qGN rfl rfl (qV rfl ?_)))))))))))))))))
   refine G8 (?_)
   refine cT rfl (sO (mV rfl (A6 hg gN rfl (x1 rfl ?_))))
   exact ExM.ret (pL)
theorem E3 {s : St} {x i : AOpd} {t : Bz} {n : Nat} (hx : ev G s x = some (.str t)) (hi : ev G s i = some (.int .i64 (n : Nat))) : aop G s (.idxStr x i) = some (.val (.int .u8 ((t.getD n 0).toNat : Nat)) s.H [(0, (n : Nat)), ((n : Nat) + 1, (t.length : Nat))]) := by
 simp only [aop, hx, hi, Int.toNat_natCast]
def Ix (c : UInt8) : Prop := 48 ≤ c.toNat ∧ c.toNat ≤ 57
def KF145 : AFn := ⟨(sQ [wV 4 (.move (vI 0))] (sQ [wV 5 (.move (vI 0))] (.seq (.block 0 (.loop (.seq (sQ [wM 6 1, wM 7 5, wV 8 (.bin .add none 6 7), wM 9 0, wV 10 (.len true 9), wV 11 (.bin .lss none 8 10), wM 12 11, wT 13 12 (.move 0), wT 14 12 (.move 1), wT 15 12 (.move 5), wT 16 12 (.bin .add none 14 15), wT 17 12 (.idxStr 13 16), wT 18 12 (.bin .geq none 17 (.val (.int .u8 48))), wV 19 (.pick 12 18 (.val (.bool false))), wM 20 19, wT 21 20 (.move 0), wT 22 20 (.move 1), wT 23 20 (.move 5), wT 24 20 (.bin .add none 22 23), wT 25 20 (.idxStr 21 24), wT 26 20 (.bin .leq none 25 (.val (.int .u8 57))), wV 27 (.pick 20 26 (.val (.bool false)))] (.cond 27 .skip (.exit 0))) (.block 1 (.ops [wM 28 5, wV 29 (.bin .add none 28 (vI 1)), wM 5 29]))))) (sQ [wM 30 5, wM 4 30] .ret)))), [4], 31⟩
theorem KG145 : Ab Tryz.prog 126 = some KF145 := by kernel_rfl
def KF88t : ACode := sQ [wV 9 (.move (.val (.nilSl)))] (.seq (sQ [wM 69 7, wV 70 (.bin .sub none 69 (vI 1)), wM 10 70] (.block 0 (.loop (.seq (sQ [wM 71 10, wM 72 5, wV 73 (.bin .geq none 71 72)] (.cond 73 .skip (.exit 0))) (.seq (.block 1 (sQ [wM 76 0, wM 77 10, wV 78 (.idxStr 76 77), wV 79 (.bin .neq none 78 (.val (.int .u8 46)))] (.cond 79 (.ops [wM 80 9, wM 81 0, wM 82 10, wV 83 (.idxStr 81 82), wV 84 (.bin .sub none 83 (.val (.int .u8 48))), wV 85 (.conv (.int .i64) 84), wV 86 (.bslice 3 1 1 [.int .i64 0] [(0, 1, 85)]), wV 87 (.append 3 1 8 80 86), wM 9 87]) .skip))) (.ops [wM 74 10, wV 75 (.bin .sub none 74 (vI 1)), wM 10 75])))))) (sQ [wM 88 9, wV 89 (kF 127 [88]), wM 11 89] (sQ [wM 91 4, wM 92 11, wM 93 8, wV 94 (kF 128 [93]), wV 95 (kF 86 [91, 92, 94]), wM 90 95, wV 96 (.extract 90 0), wV 97 (.extract 90 1), wV 12 (.alloc 24 z2L), wN (.store 2 12 96), wM 13 97] (.seq (sQ [wM 98 13, wV 99 (.bin .neq none 98 (vI 0))] (.cond 99 (sQ [wV 100 (.build z2L []), wM 101 13, wN (.store 2 2 100), wM 3 101] .ret) .skip)) (sQ [wV 102 (.load 2 true 12), wV 103 (kF 89 [102]), wM 104 8, wV 105 (kF 90 [103, 104]), wM 14 105] (sQ [wM 106 11, wV 107 (kF 90 [106, (vI 9)]), wM 15 107] (.seq (sQ [wM 108 14, wM 109 15, wV 110 (kF 88 [108, 109]), wM 111 110, wF 112 111 (.move 15), wF 113 111 (.move 14), wF 114 111 (kF 88 [112, 113]), wV 115 (.pick 111 (.val (.bool true)) 114)] (.cond 115 (sQ [wV 116 (.build z2L []), wN (.store 2 2 116), wV 3 (.move (vI 10))] .ret) .skip)) (sQ [wV 117 (.load 2 true 12), wN (.store 2 2 117), wV 3 (.move (vI 0))] .ret))))))))
def KF88 : AFn := ⟨(sQ [wV 2 (.alloc 24 z2L), wV 3 (.move (vI 0))] (sQ [wM 16 0, wV 17 (.len true 16), wV 18 (.bin .gtr none 17 (vI 0)), wM 19 18, wT 20 19 (.move 0), wT 21 19 (.idxStr 20 (vI 0)), wT 22 19 (.bin .eql none 21 (.val (.int .u8 45))), wV 23 (.pick 19 22 (.val (.bool false))), wM 4 23] (sQ [wV 5 (.move (vI 0))] (.seq (sQ [wM 24 4] (.cond 24 (.ops [wV 5 (.move (vI 1))]) .skip)) (sQ [wM 25 0, wM 26 5, wV 27 (kF 126 [25, 26]), wM 6 27] (sQ [wM 28 5, wM 29 6, wV 30 (.bin .add none 28 29), wM 7 30] (sQ [wV 8 (.move (vI 0))] (.seq (sQ [wM 31 7, wM 32 0, wV 33 (.len true 32), wV 34 (.bin .lss none 31 33), wM 35 34, wT 36 35 (.move 0), wT 37 35 (.move 7), wT 38 35 (.idxStr 36 37), wT 39 35 (.bin .eql none 38 (.val (.int .u8 46))), wV 40 (.pick 35 39 (.val (.bool false)))] (.cond 40 (sQ [wM 41 0, wM 42 7, wV 43 (.bin .add none 42 (vI 1)), wV 44 (kF 126 [41, 43]), wM 8 44] (.seq (sQ [wM 45 8, wV 46 (.bin .eql none 45 (vI 0))] (.cond 46 (sQ [wV 47 (.build z2L []), wN (.store 2 2 47), wV 3 (.move (vI 12))] .ret) .skip)) (.ops [wM 48 7, wV 49 (.bin .add none 48 (vI 1)), wM 50 8, wV 51 (.bin .add none 49 50), wM 7 51]))) .skip)) (.seq (sQ [wM 52 6, wV 53 (.bin .lss none 52 (vI 1)), wM 54 53, wF 55 54 (.move 6), wF 56 54 (.bin .gtr none 55 (vI 40)), wV 57 (.pick 54 (.val (.bool true)) 56), wM 58 57, wF 59 58 (.move 8), wF 60 58 (.bin .gtr none 59 (vI 40)), wV 61 (.pick 58 (.val (.bool true)) 60), wM 62 61, wF 63 62 (.move 7), wF 64 62 (.move 0), wF 65 62 (.len true 64), wF 66 62 (.bin .neq none 63 65), wV 67 (.pick 62 (.val (.bool true)) 66)] (.cond 67 (sQ [wV 68 (.build z2L []), wN (.store 2 2 68), wV 3 (.move (vI 12))] .ret) .skip)) KF88t))))))))), [.cell 2 2 true, 3], 118⟩
theorem KG88 : Ab Tryz.prog 79 = some KF88 := by kernel_rfl
theorem A3r (hg : hGr W0 G) {s : Bz} {f : Nat} (hs : s.length ≤ 1000000) (hf : f ≤ s.length) : Aj Tryz.prog W0 126 [.str s, .int .i64 (f : Nat)] (fun v => ∃ n : Nat, v = .int .i64 (n : Nat) ∧ f + n ≤ s.length ∧ ∀ i, i < n → Ix (s.getD (f + i) 0)) := by
 refine Aj.of_fnM KG145 (by simp) rfl ?_
 refine sO (x1 rfl (sO (x1 rfl (sq (bM ?_)))))
 refine ExM.loop (σ := Nat) (fun n => ⟨.al [(0, .str s), (1, .int .i64 (f : Nat)), (5, .int .i64 (n : Nat))], [], 31⟩) (fun n => f + n ≤ s.length ∧ ∀ i, i < n → Ix (s.getD (f + i) 0)) (fun n => s.length - (f + n)) 0 (Ae 0 rfl (Nat.le_refl _) rfl rfl (fS (fI (fI fzN)))) ⟨hf, fun i hi => by omega⟩ ?_
 rintro n ⟨hn, hd⟩
 by_cases h1 : f + n < s.length
 · by_cases h2 : 48 ≤ (s.getD (f + n) 0).toNat
   · by_cases h3 : (s.getD (f + n) 0).toNat ≤ 57
     · refine sq (sO (m2 rfl rfl (mI ((f + n : Nat)) rfl (m2 rfl rfl (mT rfl (m4 rfl rfl rfl rfl (mI ((f + n : Nat)) rfl (mS (v := .int .u8 ((s.getD (f + n) 0).toNat : Nat)) (E3 rfl rfl) (mT rfl (mV rfl (m4 rfl rfl rfl rfl (mI ((f + n : Nat)) rfl (mS (v := .int .u8 ((s.getD (f + n) 0).toNat : Nat)) (E3 rfl rfl) (mT rfl (x1 rfl (cT rfl (kM (bM (oM (mV rfl (mI ((n + 1 : Nat)) rfl (x1 rfl ?_))))))))))))))))))))))
       exact ⟨n + 1, ⟨by omega, fun i hi => by
        by_cases hin : i = n
        · subst hin; exact ⟨h2, h3⟩
        · exact hd i (by omega)⟩, by omega, Ae 0 rfl (Nat.le_refl _) rfl rfl (fS (fI (fI fzN)))⟩
     · refine sq (sO (m2 rfl rfl (mI ((f + n : Nat)) rfl (m2 rfl rfl (mT rfl (m4 rfl rfl rfl rfl (mI ((f + n : Nat)) rfl (mS (v := .int .u8 ((s.getD (f + n) 0).toNat : Nat)) (E3 rfl rfl) (mT rfl (mV rfl (m4 rfl rfl rfl rfl (mI ((f + n : Nat)) rfl (mS (v := .int .u8 ((s.getD (f + n) 0).toNat : Nat)) (E3 rfl rfl) (mF rfl (x1 rfl (cF rfl ?_))))))))))))))))
       refine ExM.exit ?_
       refine sO (x2 rfl rfl ?_)
       exact ExM.ret ⟨_, ⟨n, rfl, hn, hd⟩, A4 trivial rfl rfl rfl⟩
   · refine sq (sO (m2 rfl rfl (mI ((f + n : Nat)) rfl (m2 rfl rfl (mT rfl (m4 rfl rfl rfl rfl (mI ((f + n : Nat)) rfl (mS (v := .int .u8 ((s.getD (f + n) 0).toNat : Nat)) (E3 rfl rfl) (mF rfl (m2 rfl rfl (mG (mG (mG (mG (mG (mG (x1 rfl (cF rfl ?_))))))))))))))))))
     refine ExM.exit ?_
     refine sO (x2 rfl rfl ?_)
     exact ExM.ret ⟨_, ⟨n, rfl, hn, hd⟩, A4 trivial rfl rfl rfl⟩
 · refine sq (sO (m2 rfl rfl (mI ((f + n : Nat)) rfl (m2 rfl rfl (mF rfl (mV rfl (mG (mG (mG (mG (mG (mG (m2 rfl rfl (mG (mG (mG (mG (mG (mG (x1 rfl (cF rfl ?_)))))))))))))))))))))
   refine ExM.exit ?_
   refine sO (x2 rfl rfl ?_)
   exact ExM.ret ⟨_, ⟨n, rfl, hn, hd⟩, A4 trivial rfl rfl rfl⟩
theorem val500 {d : List Nat} (hd : Dig d) (hl : d.length ≤ 100) : val d < 10 ^ 100 := by
 have h1 := Jh hd d.length
 have h2 : 10 ^ d.length ≤ 10 ^ 100 := Nat.pow_le_pow_right (by decide) (by omega)
 exact nLl h1 h2
theorem ten500 {m : Nat} (hm : m ≤ 90) : 1 * 10 ^ ((m : Nat) : Int).toNat < 10 ^ 100 := by
 rw [Nat.one_mul, Int.toNat_natCast]
 exact Nat.pow_lt_pow_right (by decide) (by omega)
theorem w8E {x y : Int} (h1 : 0 ≤ x) (h2 : x ≤ 255) (h : x = y) : AVal.int .u8 (IntKind.u8.wrap x) = .int .u8 y := by
 have : IntKind.u8.wrap x = x := by rw [IntKind.wrap_u8]; omega
 rw [this, h]
theorem mul1000 {x m : Nat} (hx : x < 10 ^ 150) (hm : m ≤ 90) : x * 10 ^ ((m : Nat) : Int).toNat < 10 ^ 250 := by
 rw [Int.toNat_natCast]
 have h1 : 10 ^ m ≤ 10 ^ 90 := Nat.pow_le_pow_right (by decide) hm
 have h2 : 0 < 10 ^ m := Nat.pow_pos (by decide)
 have h3 : x * 10 ^ m < 10 ^ 150 * 10 ^ m := Nat.mul_lt_mul_of_pos_right hx h2
 have h4 : 10 ^ 150 * 10 ^ m ≤ 10 ^ 150 * 10 ^ 90 := Nat.mul_le_mul_left _ h1
 have h5 : 10 ^ 150 * 10 ^ 90 ≤ 10 ^ 250 := by rw [← Nat.pow_add]; exact Nat.pow_le_pow_right (by decide) (by decide)
 exact nLl (nLl h3 h4) h5
theorem R7 {k T : Nat} {l : List Nat} (h : B2 k (oh l) = true) : B2 k (.cells T z2L false :: oh l) = true := h
theorem Tn (hg : hGr W0 G) {s : Bz} {f tq mm : Nat} {b : Bool} (_ : s.length ≤ 100000) (hft : f ≤ tq) (hto : tq ≤ s.length) (htl : tq ≤ 100) (hmm : mm ≤ 40) (hdg : ∀ i, f ≤ i → i < tq → (s.getD i 0).toNat = 46 ∨ Ix (s.getD i 0)) : ExM Tryz.prog W0 0 KF88t ⟨.al [(0, .str s), (2, .ptr 0 0), (3, .int .i64 0), (4, .bool b), (5, .int .i64 (f : Nat)), (7, .int .i64 (tq : Nat)), (8, .int .i64 (mm : Nat))], [.cells 24 z2L false], 118⟩ (fun e s' => ∃ v, (∃ M E er : Int, v = Po (M, E, er)) ∧ Lp KF88.res 0 v [] e s') := by
 refine sO (x1 rfl (sq (sO (mV rfl (mK (v := .int .i64 ((tq : Nat) - 1)) rfl (B8 (by omega) (by omega) rfl) (x1 rfl (bM ?_)))))))
 refine ExM.loop (σ := Nat × List Nat) (fun σ => ⟨.al [(0, .str s), (2, .ptr 0 0), (3, .int .i64 0), (4, .bool b), (5, .int .i64 f), (8, .int .i64 (mm : Nat)), (9, ov 1 σ.2), (10, .int .i64 ((σ.1 : Nat) - 1))], .cells 24 z2L false :: oh σ.2, 118⟩) (fun σ => f ≤ σ.1 ∧ σ.1 ≤ tq ∧ Dig σ.2 ∧ σ.2.length + σ.1 ≤ tq) (fun σ => σ.1) (tq, []) (Ae 1 rfl (Nat.zero_le _) rfl rfl (fS (fzC rfl (fvP rfl) (fI (fB (fI (fI (fzC rfl Ji (fI fzN))))))))) ⟨by omega, Nat.le_refl _, Dig.nil, by simp⟩ ?_
 rintro ⟨k, l⟩ ⟨hk1, hk2, hl, hll⟩
 simp only at hk1 hk2 hl hll ⊢
 by_cases hk : k = f
 · have hvl := val500 hl (by omega)
   have hnb := A03 b (val l) (1 * 10 ^ (((mm : Nat) : Nat) : Int).toNat)
   have hnear : ∀ H, cP W0 86 [.bool b, dN (val l), tN 1 ((mm : Nat) : Nat)] H (Po (Ic b (val l) (1 * 10 ^ (((mm : Nat) : Nat) : Int).toNat))) H := fun H => A1.sub3 (Sub.refl _) (Sub.refl _) (Bj 1 _) (A3c hg hvl (ten500 (by omega)) (Nat.mul_pos (by decide) (Nat.pow_pos (by decide))) H)
   generalize Ic b (val l) (1 * 10 ^ (((mm : Nat) : Nat) : Int).toNat) = p at hnb hnear
   obtain ⟨pM, pE, pe⟩ := p
   simp only at hnb
   replace hnear : ∀ H, cP W0 86 [.bool b, dN (val l), tN 1 ((mm : Nat) : Nat)] H (.tup [.agg [.int .i64 pM, .int .i64 pE], .int .i64 pe]) H := hnear
   have hA : pM.natAbs * 10 ^ (pE + 9).toNat * 10 ^ (((mm : Nat) : Nat) : Int).toNat < 10 ^ 250 := mul1000 (Ya (Dp hnb.1 hnb.2.1) (by omega)) (by omega)
   have hA' := (Ap (Ya (x := pM.natAbs) (n := pE + 9) (Dp hnb.1 hnb.2.1) (by omega))).2.2.1
   have hB : val l * 10 ^ (9 : Int).toNat < 10 ^ 250 := (Ap (Ya hvl (by decide))).2.2.1
   refine sq (sO (m2 rfl rfl (mF rfl (mn (cF rfl ?_)))))
   refine ExM.exit ?_
   refine sO (mV rfl ?_)
   refine mFz (Ae (l := [(0, .str s), (2, .ptr 0 0), (3, .int .i64 0), (4, .bool b), (8, .int .i64 (mm : Nat)), (88, dg l)]) 1 rfl (Nat.zero_le _) rfl rfl (fS (fzC rfl (fvP rfl) (fI (fB (fI (fzC rfl fvOv1 fzN))))))) ?_
   refine mC rfl (show cP W0 127 [dg l] _ (dN (val l)) _ from A1.pure (by simp [A8, dg, blw, As]) (A3t 0 _) (by rw [dN, ← Ky hl]; exact U3 hg (by omega)) _) (x1 rfl (sO (m3 rfl rfl rfl (mC rfl (unitP hg (by omega) _) (mC rfl (hnear _) (m3 rfl rfl rfl (mV (v := .ptr 1 0) rfl (A6 hg gN rfl (x1 rfl (sq (sO (mV rfl ?_))))))))))))
   refine mB hg gN rfl rfl trivial (fun h1 => ?_) (fun h1 => ?_)
   · refine mn (cT rfl (sO (m2 rfl rfl (A6 hg gN rfl (x1 rfl ?_)))))
     exact ExM.ret ⟨_, ⟨_, _, _, rfl⟩, A0 trivial rfl rfl 100 rfl rfl⟩
   · refine mn (cF rfl (kM (sO (mV rfl (mC rfl (Jy hg hnb.1 hnb.2.1 hnb.2.2.1 hnb.2.2.2 _) (mV rfl (mC rfl (A1.sub2 (Bj _ _) (Sub.refl _) (Eo hg (x := pM.natAbs * 10 ^ (pE + 9).toNat) (n := ((mm : Nat) : Nat)) hA' (by omega) _)) (x1 rfl (sO (mV rfl (mC rfl (Eo hg (x := val l) (n := 9) (N6 hvl) (by decide) _) (x1 rfl (sq (sO (m2 rfl rfl ?_)))))))))))))))
     refine mCB hg gN rfl rfl (A1.sub2 (Bj _ _) (Bj _ _) (Bf hg (x := pM.natAbs * 10 ^ (pE + 9).toNat * 10 ^ (((mm : Nat) : Nat) : Int).toNat) (y := val l * 10 ^ (9 : Int).toNat) hA hB _)) (fun h2 => ?_) (fun h2 => ?_)
     · refine mV rfl (mG (mG (mG (x1 rfl (cT rfl (sO (mV rfl (A6 hg gN rfl (x1 rfl ?_)))))))))
       exact ExM.ret ⟨_, ⟨_, _, _, rfl⟩, A0 trivial rfl rfl 100 rfl rfl⟩
     · refine m3 rfl rfl rfl ?_
       refine mCB hg (gS rfl) rfl rfl (A1.sub2 (Bj _ _) (Bj _ _) (Bf hg (x := val l * 10 ^ (9 : Int).toNat) (y := pM.natAbs * 10 ^ (pE + 9).toNat * 10 ^ (((mm : Nat) : Nat) : Int).toNat) hB hA _)) (fun h3 => ?_) (fun h3 => ?_)
       · refine x1 rfl (cT rfl (sO (mV rfl (A6 hg gN rfl (x1 rfl ?_)))))
         exact ExM.ret ⟨_, ⟨_, _, _, rfl⟩, A0 trivial rfl rfl 100 rfl rfl⟩
       · refine x1 rfl (cF rfl (kM (sO (mV rfl (A6 hg gN rfl (x1 rfl ?_))))))
         exact ExM.ret ⟨_, ⟨_, _, _, rfl⟩, A0 trivial rfl rfl 100 rfl rfl⟩
 · obtain ⟨j, rfl⟩ : ∃ j, k = j + 1 := ⟨k - 1, by omega⟩
   have hj := hdg j (by omega) (by omega)
   by_cases hp : (s.getD j 0).toNat = 46
   · rcases l with _ | ⟨d, r⟩
     · refine sq (sO (m2 rfl rfl (mT rfl (mn (cT rfl (kM (sq (bM (sO (mV rfl (mK (v := .int .i64 (j : Nat)) rfl (iE (by omega)) (mS (v := .int .u8 ((s.getD j 0).toNat : Nat)) (E3 rfl rfl) (mF rfl (mn (cF rfl (kM (oM (mV rfl (mI ((j : Nat) - 1) rfl (x1 rfl ?_))))))))))))))))))))
       exact ⟨(j, []), ⟨by simp only; omega, by simp only; omega, hl, by simp only; omega⟩, by simp only; omega, Ae 1 rfl (Nat.zero_le _) rfl rfl (fS (fzC rfl (fvP rfl) (fI (fB (fI (fI (fzC rfl Ji (fI fzN))))))))⟩
     · refine sq (sO (m2 rfl rfl (mT rfl (mn (cT rfl (kM (sq (bM (sO (mV rfl (mK (v := .int .i64 (j : Nat)) rfl (iE (by omega)) (mS (v := .int .u8 ((s.getD j 0).toNat : Nat)) (E3 rfl rfl) (mF rfl (mn (cF rfl (kM (oM (mV rfl (mI ((j : Nat) - 1) rfl (x1 rfl ?_))))))))))))))))))))
       exact ⟨(j, (d :: r)), ⟨by simp only; omega, by simp only; omega, hl, by simp only; omega⟩, by simp only; omega, Ae 3 rfl (Nat.zero_le _) rfl (R7 (Dz _)) (fS (fzC rfl (fvP rfl) (fI (fB (fI (fI (fzC rfl (fvH rfl) (fI fzN))))))))⟩
   · rcases l with _ | ⟨d, r⟩
     · refine sq (sO (m2 rfl rfl (mT rfl (mn (cT rfl (kM (sq (bM (sO (mV rfl (mK (v := .int .i64 (j : Nat)) rfl (iE (by omega)) (mS (v := .int .u8 ((s.getD j 0).toNat : Nat)) (E3 rfl rfl) (mT rfl (mn (cT rfl (oM (m2 rfl rfl (mK (v := .int .i64 (j : Nat)) rfl (iE (by omega)) (mS (v := .int .u8 ((s.getD j 0).toNat : Nat)) (E3 rfl rfl) (mK (v := .int .u8 ((((s.getD j 0).toNat - 48) : Nat))) rfl (w8E (by unfold Ix at hj; omega) (by unfold Ix at hj; omega) (by unfold Ix at hj; omega)) (mK (v := .int .i64 ((((s.getD j 0).toNat - 48) : Nat))) rfl (B8 (by unfold Ix at hj; omega) (by unfold Ix at hj; omega) rfl) (mV (v := .hsl 1 1 0 1 (some 1)) rfl (Ag hg gN (v := .hsl 1 2 0 ([] ++ [(s.getD j 0).toNat - 48]).length none) rfl rfl (E4 (n := 1) (by decide)) (x1 rfl (oM (mV rfl (mI ((j : Nat) - 1) rfl (x1 rfl ?_))))))))))))))))))))))))))))
       exact ⟨(j, [] ++ [(s.getD j 0).toNat - 48]), ⟨by simp only; omega, by simp only; omega, hl.snoc (by unfold Ix at hj; omega), by simp only [lAp, lCo, lNi] at *; omega⟩, by simp only; omega, Ae 3 rfl (Nat.zero_le _) rfl (R7 (Dz _)) (fS (fzC rfl (fvP rfl) (fI (fB (fI (fI (fzC rfl (fvH rfl) (fI fzN))))))))⟩
     · refine sq (sO (m2 rfl rfl (mT rfl (mn (cT rfl (kM (sq (bM (sO (mV rfl (mK (v := .int .i64 (j : Nat)) rfl (iE (by omega)) (mS (v := .int .u8 ((s.getD j 0).toNat : Nat)) (E3 rfl rfl) (mT rfl (mn (cT rfl (oM (m2 rfl rfl (mK (v := .int .i64 (j : Nat)) rfl (iE (by omega)) (mS (v := .int .u8 ((s.getD j 0).toNat : Nat)) (E3 rfl rfl) (mK (v := .int .u8 ((((s.getD j 0).toNat - 48) : Nat))) rfl (w8E (by unfold Ix at hj; omega) (by unfold Ix at hj; omega) (by unfold Ix at hj; omega)) (mK (v := .int .i64 ((((s.getD j 0).toNat - 48) : Nat))) rfl (B8 (by unfold Ix at hj; omega) (by unfold Ix at hj; omega) rfl) (mV (v := .hsl 1 3 0 1 (some 1)) rfl (Ag hg gN (v := .hsl 1 2 0 ((d :: r) ++ [(s.getD j 0).toNat - 48]).length none) (appS rfl rfl rfl rfl rfl) rfl (E4 (by simp only [lCo] at *; omega)) (x1 rfl (oM (mV rfl (mI ((j : Nat) - 1) rfl (x1 rfl ?_))))))))))))))))))))))))))))
       exact ⟨(j, (d :: r) ++ [(s.getD j 0).toNat - 48]), ⟨by simp only; omega, by simp only; omega, hl.snoc (by unfold Ix at hj; omega), by simp only [lAp, lCo, lNi] at *; omega⟩, by simp only; omega, Ae 3 rfl (Nat.zero_le _) rfl (R7 (Dz _)) (fS (fzC rfl (fvP rfl) (fI (fB (fI (fI (fzC rfl (fvH rfl) (fI fzN))))))))⟩
theorem readE (hg : hGr W0 G) {s : Bz} (hs : s.length ≤ 100000) : Aj Tryz.prog W0 79 [.str s] (fun v => ∃ M E er : Int, v = Po (M, E, er)) := by
 refine Aj.of_fnM KG88 (by simp) rfl ?_
 by_cases hem : s.length = 0
 · skip
   refine sO (mV (v := .ptr 0 0) rfl (x1 rfl (sO (m2 rfl rfl (mF rfl (mV rfl (mG (mG (mG (x2 rfl rfl (sO (x1 rfl (sq (sO (x1 rfl (cF rfl (kM (sO (m2 rfl rfl ?_)))))))))))))))))))
   refine Bd hg gN rfl rfl rfl (A3r hg (s := s) (f := 0) (by omega) (by omega)) ?_ ?_
   · rintro _ ⟨n, rfl, hn1, hd1⟩; rfl
   rintro _ ⟨n, rfl, hn1, hd1⟩
   refine x1 rfl (sO (m2 rfl rfl (mI ((0 + n : Nat)) rfl (x1 rfl (sO (x1 rfl (sq (sO (m3 rfl rfl rfl (mF rfl (mV rfl (mG (mG (mG (mG (x1 rfl (cF rfl (kM (sq (sO (mV rfl (mT rfl (mV rfl (mG (mG (m2 rfl rfl (mG (mG (m2 rfl rfl (mG (mG (mG (mG (x1 rfl (cT rfl (sO (mV rfl (A6 hg gN rfl (x1 rfl ?_)))))))))))))))))))))))))))))))))))))))
   exact ExM.ret ⟨_, ⟨_, _, _, rfl⟩, A0 trivial rfl rfl 100 rfl rfl⟩
 · by_cases hneg : (s.getD 0 0).toNat = 45
   · skip
     refine sO (mV (v := .ptr 0 0) rfl (x1 rfl (sO (m2 rfl rfl (mT rfl (m2 rfl rfl (mS (v := .int .u8 ((s.getD 0 0).toNat : Nat)) (E3 rfl rfl) (mBk hg (gS rfl) (c := true) rfl rfl (by rw [hneg]; decide) (x2 rfl rfl (sO (x1 rfl (sq (sO (x1 rfl (cT rfl (oM (x1 rfl (sO (m2 rfl rfl ?_)))))))))))))))))))
     refine Bd hg gN rfl rfl rfl (A3r hg (s := s) (f := 1) (by omega) (by omega)) ?_ ?_
     · rintro _ ⟨n, rfl, hn1, hd1⟩; rfl
     rintro _ ⟨n, rfl, hn1, hd1⟩
     refine x1 rfl (sO (m2 rfl rfl (mI ((1 + n : Nat)) rfl (x1 rfl (sO (x1 rfl (sq (sO (m3 rfl rfl rfl ?_)))))))))
     refine mB hg gN rfl rfl trivial (fun h1 => ?_) (fun h1 => ?_)
     · simp only [dTe] at h1
       refine m3 rfl rfl rfl (mS (v := .int .u8 ((s.getD (1 + n) 0).toNat : Nat)) (E3 rfl rfl) ?_)
       refine mB hg (gS rfl) rfl rfl trivial (fun h2 => ?_) (fun h2 => ?_)
       · have hdot : (s.getD (1 + n) 0).toNat = 46 := by simp only [beq_iff_eq] at h2; omega
         refine x1 rfl (cT rfl (sO (m2 rfl rfl (mI ((1 + n + 1 : Nat)) rfl ?_))))
         refine Bd hg gN rfl rfl rfl (A3r hg (s := s) (f := 1 + n + 1) (by omega) (by omega)) ?_ ?_
         · rintro _ ⟨m, rfl, hm1, hd2⟩; rfl
         rintro _ ⟨m, rfl, hm1, hd2⟩
         refine x1 rfl (sq (sO (mV rfl ?_)))
         refine mB hg gN rfl rfl trivial (fun h3 => ?_) (fun h3 => ?_)
         · simp only [beq_iff_eq] at h3
           refine mn (cT rfl (sO (mV rfl (A6 hg gN rfl (x1 rfl ?_)))))
           exact ExM.ret ⟨_, ⟨_, _, _, rfl⟩, A0 trivial rfl rfl 100 rfl rfl⟩
         · simp only [bFn, ne_eq] at h3
           refine mn (cF rfl (kM (oM (mV rfl (mI ((1 + n + 1 : Nat)) rfl (mV rfl (mI ((1 + n + 1 + m : Nat)) rfl (x1 rfl (sq (sO (mV rfl ?_)))))))))))
           refine mB hg gN rfl rfl trivial (fun h4 => ?_) (fun h4 => ?_)
           · simp only [dTe] at h4
             refine mV rfl (mG (mG (m2 rfl rfl (mG (mG (m2 rfl rfl (mG (mG (mG (mG (x1 rfl (cT rfl (sO (mV rfl (A6 hg gN rfl (x1 rfl ?_))))))))))))))))
             exact ExM.ret ⟨_, ⟨_, _, _, rfl⟩, A0 trivial rfl rfl 100 rfl rfl⟩
           · simp only [dFn, Int.not_lt] at h4
             refine m2 rfl rfl ?_
             refine mB hg (gS rfl) rfl rfl trivial (fun h5 => ?_) (fun h5 => ?_)
             · simp only [dTe] at h5
               refine m2 rfl rfl (mG (mG (m2 rfl rfl (mG (mG (mG (mG (x1 rfl (cT rfl (sO (mV rfl (A6 hg gN rfl (x1 rfl ?_)))))))))))))
               exact ExM.ret ⟨_, ⟨_, _, _, rfl⟩, A0 trivial rfl rfl 100 rfl rfl⟩
             · simp only [dFn, Int.not_lt] at h5
               refine m3 rfl rfl rfl ?_
               refine mB hg (gS rfl) rfl rfl trivial (fun h6 => ?_) (fun h6 => ?_)
               · simp only [dTe] at h6
                 refine m2 rfl rfl (mG (mG (mG (mG (x1 rfl (cT rfl (sO (mV rfl (A6 hg gN rfl (x1 rfl ?_))))))))))
                 exact ExM.ret ⟨_, ⟨_, _, _, rfl⟩, A0 trivial rfl rfl 100 rfl rfl⟩
               · simp only [dFn, Int.not_lt] at h6
                 refine mV rfl (m4 rfl rfl rfl rfl ?_)
                 refine mB hg (gS rfl) rfl rfl trivial (fun h7 => ?_) (fun h7 => ?_)
                 · simp only [bne_iff_ne, ne_eq] at h7
                   refine x1 rfl (cT rfl (sO (mV rfl (A6 hg gN rfl (x1 rfl ?_)))))
                   exact ExM.ret ⟨_, ⟨_, _, _, rfl⟩, A0 trivial rfl rfl 100 rfl rfl⟩
                 · simp only [bNf] at h7
                   refine x1 rfl (cF rfl (kM ?_))
                   have hdg : ∀ i, 1 ≤ i → i < (1 + n + 1 + m) → (s.getD i 0).toNat = 46 ∨ Ix (s.getD i 0) := by
                    intro i hi1 hi2
                    by_cases hin : i < 1 + n
                    · have := hd1 (i - 1) (by omega)
                      rw [show 1 + (i - 1) = i by omega] at this; exact .inr this
                    · by_cases hip : i = 1 + n
                      · subst hip; exact .inl hdot
                      · have := hd2 (i - (1 + n + 1)) (by omega)
                        rw [show 1 + n + 1 + (i - (1 + n + 1)) = i by omega] at this; exact .inr this
                   exact ExM.fz (Ae 1 rfl (Nat.zero_le _) rfl rfl (fS (fzC rfl (fvP rfl) (fI (fB (fI (fI (fI fzN)))))))) (Tn hg (f := 1) (tq := (1 + n + 1 + m)) (mm := m) (b := true) hs (by omega) (by omega) (by omega) (by omega) hdg)
       · refine x1 rfl (cF rfl (kM (sq (sO (mV rfl ?_)))))
         refine mB hg gN rfl rfl trivial (fun h8 => ?_) (fun h8 => ?_)
         · simp only [dTe] at h8
           refine mV rfl (mG (mG (m2 rfl rfl (mG (mG (m2 rfl rfl (mG (mG (mG (mG (x1 rfl (cT rfl (sO (mV rfl (A6 hg gN rfl (x1 rfl ?_))))))))))))))))
           exact ExM.ret ⟨_, ⟨_, _, _, rfl⟩, A0 trivial rfl rfl 100 rfl rfl⟩
         · simp only [dFn, Int.not_lt] at h8
           refine m2 rfl rfl ?_
           refine mB hg (gS rfl) rfl rfl trivial (fun h9 => ?_) (fun h9 => ?_)
           · simp only [dTe] at h9
             refine m2 rfl rfl (mG (mG (m2 rfl rfl (mG (mG (mG (mG (x1 rfl (cT rfl (sO (mV rfl (A6 hg gN rfl (x1 rfl ?_)))))))))))))
             exact ExM.ret ⟨_, ⟨_, _, _, rfl⟩, A0 trivial rfl rfl 100 rfl rfl⟩
           · simp only [dFn, Int.not_lt] at h9
             refine m3 rfl rfl rfl ?_
             refine mB hg (gS rfl) rfl rfl trivial (fun h10 => ?_) (fun h10 => ?_)
             · simp only [dTe] at h10
               refine m2 rfl rfl (mG (mG (mG (mG (x1 rfl (cT rfl (sO (mV rfl (A6 hg gN rfl (x1 rfl ?_))))))))))
               exact ExM.ret ⟨_, ⟨_, _, _, rfl⟩, A0 trivial rfl rfl 100 rfl rfl⟩
             · simp only [dFn, Int.not_lt] at h10
               refine mV rfl (m4 rfl rfl rfl rfl ?_)
               refine mB hg (gS rfl) rfl rfl trivial (fun h11 => ?_) (fun h11 => ?_)
               · simp only [bne_iff_ne, ne_eq] at h11
                 refine x1 rfl (cT rfl (sO (mV rfl (A6 hg gN rfl (x1 rfl ?_)))))
                 exact ExM.ret ⟨_, ⟨_, _, _, rfl⟩, A0 trivial rfl rfl 100 rfl rfl⟩
               · simp only [bNf] at h11
                 refine x1 rfl (cF rfl (kM ?_))
                 have hdg : ∀ i, 1 ≤ i → i < (1 + n) → (s.getD i 0).toNat = 46 ∨ Ix (s.getD i 0) := by
                  intro i hi1 hi2
                  by_cases hin : i < 1 + n
                  · have := hd1 (i - 1) (by omega)
                    rw [show 1 + (i - 1) = i by omega] at this; exact .inr this
                  · omega
                 exact ExM.fz (Ae 1 rfl (Nat.zero_le _) rfl rfl (fS (fzC rfl (fvP rfl) (fI (fB (fI (fI (fI fzN)))))))) (Tn hg (f := 1) (tq := (1 + n)) (mm := 0) (b := true) hs (by omega) (by omega) (by omega) (by omega) hdg)
     · simp only [dFn, Int.not_lt] at h1
       refine mV rfl (mG (mG (mG (mG (x1 rfl (cF rfl (kM (sq (sO (mV rfl ?_))))))))))
       refine mB hg gN rfl rfl trivial (fun h12 => ?_) (fun h12 => ?_)
       · simp only [dTe] at h12
         refine mV rfl (mG (mG (m2 rfl rfl (mG (mG (m2 rfl rfl (mG (mG (mG (mG (x1 rfl (cT rfl (sO (mV rfl (A6 hg gN rfl (x1 rfl ?_))))))))))))))))
         exact ExM.ret ⟨_, ⟨_, _, _, rfl⟩, A0 trivial rfl rfl 100 rfl rfl⟩
       · simp only [dFn, Int.not_lt] at h12
         refine m2 rfl rfl ?_
         refine mB hg (gS rfl) rfl rfl trivial (fun h13 => ?_) (fun h13 => ?_)
         · simp only [dTe] at h13
           refine m2 rfl rfl (mG (mG (m2 rfl rfl (mG (mG (mG (mG (x1 rfl (cT rfl (sO (mV rfl (A6 hg gN rfl (x1 rfl ?_)))))))))))))
           exact ExM.ret ⟨_, ⟨_, _, _, rfl⟩, A0 trivial rfl rfl 100 rfl rfl⟩
         · simp only [dFn, Int.not_lt] at h13
           refine m3 rfl rfl rfl ?_
           refine mB hg (gS rfl) rfl rfl trivial (fun h14 => ?_) (fun h14 => ?_)
           · simp only [dTe] at h14
             refine m2 rfl rfl (mG (mG (mG (mG (x1 rfl (cT rfl (sO (mV rfl (A6 hg gN rfl (x1 rfl ?_))))))))))
             exact ExM.ret ⟨_, ⟨_, _, _, rfl⟩, A0 trivial rfl rfl 100 rfl rfl⟩
           · simp only [dFn, Int.not_lt] at h14
             refine mV rfl (m4 rfl rfl rfl rfl ?_)
             refine mB hg (gS rfl) rfl rfl trivial (fun h15 => ?_) (fun h15 => ?_)
             · simp only [bne_iff_ne, ne_eq] at h15
               refine x1 rfl (cT rfl (sO (mV rfl (A6 hg gN rfl (x1 rfl ?_)))))
               exact ExM.ret ⟨_, ⟨_, _, _, rfl⟩, A0 trivial rfl rfl 100 rfl rfl⟩
             · simp only [bNf] at h15
               refine x1 rfl (cF rfl (kM ?_))
               have hdg : ∀ i, 1 ≤ i → i < (1 + n) → (s.getD i 0).toNat = 46 ∨ Ix (s.getD i 0) := by
                intro i hi1 hi2
                by_cases hin : i < 1 + n
                · have := hd1 (i - 1) (by omega)
                  rw [show 1 + (i - 1) = i by omega] at this; exact .inr this
                · omega
               exact ExM.fz (Ae 1 rfl (Nat.zero_le _) rfl rfl (fS (fzC rfl (fvP rfl) (fI (fB (fI (fI (fI fzN)))))))) (Tn hg (f := 1) (tq := (1 + n)) (mm := 0) (b := true) hs (by omega) (by omega) (by omega) (by omega) hdg)
   · skip
     refine sO (mV (v := .ptr 0 0) rfl (x1 rfl (sO (m2 rfl rfl (mT rfl (m2 rfl rfl (mS (v := .int .u8 ((s.getD 0 0).toNat : Nat)) (E3 rfl rfl) (mF rfl (x2 rfl rfl (sO (x1 rfl (sq (sO (x1 rfl (cF rfl (kM (sO (m2 rfl rfl ?_))))))))))))))))))
     refine Bd hg gN rfl rfl rfl (A3r hg (s := s) (f := 0) (by omega) (by omega)) ?_ ?_
     · rintro _ ⟨n, rfl, hn1, hd1⟩; rfl
     rintro _ ⟨n, rfl, hn1, hd1⟩
     refine x1 rfl (sO (m2 rfl rfl (mI ((0 + n : Nat)) rfl (x1 rfl (sO (x1 rfl (sq (sO (m3 rfl rfl rfl ?_)))))))))
     refine mB hg gN rfl rfl trivial (fun h1 => ?_) (fun h1 => ?_)
     · simp only [dTe] at h1
       refine m3 rfl rfl rfl (mS (v := .int .u8 ((s.getD (0 + n) 0).toNat : Nat)) (E3 rfl rfl) ?_)
       refine mB hg (gS rfl) rfl rfl trivial (fun h2 => ?_) (fun h2 => ?_)
       · have hdot : (s.getD (0 + n) 0).toNat = 46 := by simp only [beq_iff_eq] at h2; omega
         refine x1 rfl (cT rfl (sO (m2 rfl rfl (mI ((0 + n + 1 : Nat)) rfl ?_))))
         refine Bd hg gN rfl rfl rfl (A3r hg (s := s) (f := 0 + n + 1) (by omega) (by omega)) ?_ ?_
         · rintro _ ⟨m, rfl, hm1, hd2⟩; rfl
         rintro _ ⟨m, rfl, hm1, hd2⟩
         refine x1 rfl (sq (sO (mV rfl ?_)))
         refine mB hg gN rfl rfl trivial (fun h3 => ?_) (fun h3 => ?_)
         · simp only [beq_iff_eq] at h3
           refine mn (cT rfl (sO (mV rfl (A6 hg gN rfl (x1 rfl ?_)))))
           exact ExM.ret ⟨_, ⟨_, _, _, rfl⟩, A0 trivial rfl rfl 100 rfl rfl⟩
         · simp only [bFn, ne_eq] at h3
           refine mn (cF rfl (kM (oM (mV rfl (mI ((0 + n + 1 : Nat)) rfl (mV rfl (mI ((0 + n + 1 + m : Nat)) rfl (x1 rfl (sq (sO (mV rfl ?_)))))))))))
           refine mB hg gN rfl rfl trivial (fun h4 => ?_) (fun h4 => ?_)
           · simp only [dTe] at h4
             refine mV rfl (mG (mG (m2 rfl rfl (mG (mG (m2 rfl rfl (mG (mG (mG (mG (x1 rfl (cT rfl (sO (mV rfl (A6 hg gN rfl (x1 rfl ?_))))))))))))))))
             exact ExM.ret ⟨_, ⟨_, _, _, rfl⟩, A0 trivial rfl rfl 100 rfl rfl⟩
           · simp only [dFn, Int.not_lt] at h4
             refine m2 rfl rfl ?_
             refine mB hg (gS rfl) rfl rfl trivial (fun h5 => ?_) (fun h5 => ?_)
             · simp only [dTe] at h5
               refine m2 rfl rfl (mG (mG (m2 rfl rfl (mG (mG (mG (mG (x1 rfl (cT rfl (sO (mV rfl (A6 hg gN rfl (x1 rfl ?_)))))))))))))
               exact ExM.ret ⟨_, ⟨_, _, _, rfl⟩, A0 trivial rfl rfl 100 rfl rfl⟩
             · simp only [dFn, Int.not_lt] at h5
               refine m3 rfl rfl rfl ?_
               refine mB hg (gS rfl) rfl rfl trivial (fun h6 => ?_) (fun h6 => ?_)
               · simp only [dTe] at h6
                 refine m2 rfl rfl (mG (mG (mG (mG (x1 rfl (cT rfl (sO (mV rfl (A6 hg gN rfl (x1 rfl ?_))))))))))
                 exact ExM.ret ⟨_, ⟨_, _, _, rfl⟩, A0 trivial rfl rfl 100 rfl rfl⟩
               · simp only [dFn, Int.not_lt] at h6
                 refine mV rfl (m4 rfl rfl rfl rfl ?_)
                 refine mB hg (gS rfl) rfl rfl trivial (fun h7 => ?_) (fun h7 => ?_)
                 · simp only [bne_iff_ne, ne_eq] at h7
                   refine x1 rfl (cT rfl (sO (mV rfl (A6 hg gN rfl (x1 rfl ?_)))))
                   exact ExM.ret ⟨_, ⟨_, _, _, rfl⟩, A0 trivial rfl rfl 100 rfl rfl⟩
                 · simp only [bNf] at h7
                   refine x1 rfl (cF rfl (kM ?_))
                   have hdg : ∀ i, 0 ≤ i → i < (0 + n + 1 + m) → (s.getD i 0).toNat = 46 ∨ Ix (s.getD i 0) := by
                    intro i hi1 hi2
                    by_cases hin : i < 0 + n
                    · have := hd1 (i - 0) (by omega)
                      rw [show 0 + (i - 0) = i by omega] at this; exact .inr this
                    · by_cases hip : i = 0 + n
                      · subst hip; exact .inl hdot
                      · have := hd2 (i - (0 + n + 1)) (by omega)
                        rw [show 0 + n + 1 + (i - (0 + n + 1)) = i by omega] at this; exact .inr this
                   exact ExM.fz (Ae 1 rfl (Nat.zero_le _) rfl rfl (fS (fzC rfl (fvP rfl) (fI (fB (fI (fI (fI fzN)))))))) (Tn hg (f := 0) (tq := (0 + n + 1 + m)) (mm := m) (b := false) hs (by omega) (by omega) (by omega) (by omega) hdg)
       · refine x1 rfl (cF rfl (kM (sq (sO (mV rfl ?_)))))
         refine mB hg gN rfl rfl trivial (fun h8 => ?_) (fun h8 => ?_)
         · simp only [dTe] at h8
           refine mV rfl (mG (mG (m2 rfl rfl (mG (mG (m2 rfl rfl (mG (mG (mG (mG (x1 rfl (cT rfl (sO (mV rfl (A6 hg gN rfl (x1 rfl ?_))))))))))))))))
           exact ExM.ret ⟨_, ⟨_, _, _, rfl⟩, A0 trivial rfl rfl 100 rfl rfl⟩
         · simp only [dFn, Int.not_lt] at h8
           refine m2 rfl rfl ?_
           refine mB hg (gS rfl) rfl rfl trivial (fun h9 => ?_) (fun h9 => ?_)
           · simp only [dTe] at h9
             refine m2 rfl rfl (mG (mG (m2 rfl rfl (mG (mG (mG (mG (x1 rfl (cT rfl (sO (mV rfl (A6 hg gN rfl (x1 rfl ?_)))))))))))))
             exact ExM.ret ⟨_, ⟨_, _, _, rfl⟩, A0 trivial rfl rfl 100 rfl rfl⟩
           · simp only [dFn, Int.not_lt] at h9
             refine m3 rfl rfl rfl ?_
             refine mB hg (gS rfl) rfl rfl trivial (fun h10 => ?_) (fun h10 => ?_)
             · simp only [dTe] at h10
               refine m2 rfl rfl (mG (mG (mG (mG (x1 rfl (cT rfl (sO (mV rfl (A6 hg gN rfl (x1 rfl ?_))))))))))
               exact ExM.ret ⟨_, ⟨_, _, _, rfl⟩, A0 trivial rfl rfl 100 rfl rfl⟩
             · simp only [dFn, Int.not_lt] at h10
               refine mV rfl (m4 rfl rfl rfl rfl ?_)
               refine mB hg (gS rfl) rfl rfl trivial (fun h11 => ?_) (fun h11 => ?_)
               · simp only [bne_iff_ne, ne_eq] at h11
                 refine x1 rfl (cT rfl (sO (mV rfl (A6 hg gN rfl (x1 rfl ?_)))))
                 exact ExM.ret ⟨_, ⟨_, _, _, rfl⟩, A0 trivial rfl rfl 100 rfl rfl⟩
               · simp only [bNf] at h11
                 refine x1 rfl (cF rfl (kM ?_))
                 have hdg : ∀ i, 0 ≤ i → i < (0 + n) → (s.getD i 0).toNat = 46 ∨ Ix (s.getD i 0) := by
                  intro i hi1 hi2
                  by_cases hin : i < 0 + n
                  · have := hd1 (i - 0) (by omega)
                    rw [show 0 + (i - 0) = i by omega] at this; exact .inr this
                  · omega
                 exact ExM.fz (Ae 1 rfl (Nat.zero_le _) rfl rfl (fS (fzC rfl (fvP rfl) (fI (fB (fI (fI (fI fzN)))))))) (Tn hg (f := 0) (tq := (0 + n)) (mm := 0) (b := false) hs (by omega) (by omega) (by omega) (by omega) hdg)
     · simp only [dFn, Int.not_lt] at h1
       refine mV rfl (mG (mG (mG (mG (x1 rfl (cF rfl (kM (sq (sO (mV rfl ?_))))))))))
       refine mB hg gN rfl rfl trivial (fun h12 => ?_) (fun h12 => ?_)
       · simp only [dTe] at h12
         refine mV rfl (mG (mG (m2 rfl rfl (mG (mG (m2 rfl rfl (mG (mG (mG (mG (x1 rfl (cT rfl (sO (mV rfl (A6 hg gN rfl (x1 rfl ?_))))))))))))))))
         exact ExM.ret ⟨_, ⟨_, _, _, rfl⟩, A0 trivial rfl rfl 100 rfl rfl⟩
       · simp only [dFn, Int.not_lt] at h12
         refine m2 rfl rfl ?_
         refine mB hg (gS rfl) rfl rfl trivial (fun h13 => ?_) (fun h13 => ?_)
         · simp only [dTe] at h13
           refine m2 rfl rfl (mG (mG (m2 rfl rfl (mG (mG (mG (mG (x1 rfl (cT rfl (sO (mV rfl (A6 hg gN rfl (x1 rfl ?_)))))))))))))
           exact ExM.ret ⟨_, ⟨_, _, _, rfl⟩, A0 trivial rfl rfl 100 rfl rfl⟩
         · simp only [dFn, Int.not_lt] at h13
           refine m3 rfl rfl rfl ?_
           refine mB hg (gS rfl) rfl rfl trivial (fun h14 => ?_) (fun h14 => ?_)
           · simp only [dTe] at h14
             refine m2 rfl rfl (mG (mG (mG (mG (x1 rfl (cT rfl (sO (mV rfl (A6 hg gN rfl (x1 rfl ?_))))))))))
             exact ExM.ret ⟨_, ⟨_, _, _, rfl⟩, A0 trivial rfl rfl 100 rfl rfl⟩
           · simp only [dFn, Int.not_lt] at h14
             refine mV rfl (m4 rfl rfl rfl rfl ?_)
             refine mB hg (gS rfl) rfl rfl trivial (fun h15 => ?_) (fun h15 => ?_)
             · simp only [bne_iff_ne, ne_eq] at h15
               refine x1 rfl (cT rfl (sO (mV rfl (A6 hg gN rfl (x1 rfl ?_)))))
               exact ExM.ret ⟨_, ⟨_, _, _, rfl⟩, A0 trivial rfl rfl 100 rfl rfl⟩
             · simp only [bNf] at h15
               refine x1 rfl (cF rfl (kM ?_))
               have hdg : ∀ i, 0 ≤ i → i < (0 + n) → (s.getD i 0).toNat = 46 ∨ Ix (s.getD i 0) := by
                intro i hi1 hi2
                by_cases hin : i < 0 + n
                · have := hd1 (i - 0) (by omega)
                  rw [show 0 + (i - 0) = i by omega] at this; exact .inr this
                · omega
               exact ExM.fz (Ae 1 rfl (Nat.zero_le _) rfl rfl (fS (fzC rfl (fvP rfl) (fI (fB (fI (fI (fI fzN)))))))) (Tn hg (f := 0) (tq := (0 + n)) (mm := 0) (b := false) hs (by omega) (by omega) (by omega) (by omega) hdg)
end Go.Abs
namespace Go.Abs
open Go.Proofs Go.RowKit
set_option maxRecDepth 10000000
variable {W0 : World}
def opqW (f : Nat) : Bool := cond (Nat.beq f 87) true (Nat.beq f 90)
def A12 (f : Nat) : Bool := cond (Nat.beq f 86) true (cond (Nat.beq f 89) true (Nat.beq f 91))
def A0k (f : Nat) : Bool := cond (Nat.beq f 34) true (cond (Nat.beq f 35) true (Nat.beq f 36))
def A2w (f : Nat) : Bool := Nat.beq f 89
theorem Zc (hk : Kn W0) (opq : Nat → Bool) : Ce Tryz.prog W0 (Es Tryz.prog GL A2w opq G0 libTab 1000 60) := by
 refine Rn (by kernel_rfl) hk.g (fun g m h => ?_) (Oz hk.w) 1000 60
 cases h
theorem wholK0 (hk : Kn W0) {a1 a2 : Int} {x1 x9 : AVal} {cs2 cs3 : List AVal} (h1 : cP W0 90 [x1, .int .i64 (IntKind.i64.wrap (a2 + 9))] [.cells 24 [.int .i64 a1, .int .i64 a2] false, .cells 24 [.int .i64 a1, .int .i64 a2] false] (x9) [.cells 24 [.int .i64 a1, .int .i64 a2] false, .cells 24 [.int .i64 a1, .int .i64 a2] false, .cells 3 cs2 false, .cells 3 cs3 true]) (h2 : cP W0 87 [.int .i64 a1] [.cells 24 [.int .i64 a1, .int .i64 a2] false, .cells 24 [.int .i64 a1, .int .i64 a2] false] (x1) [.cells 24 [.int .i64 a1, .int .i64 a2] false, .cells 24 [.int .i64 a1, .int .i64 a2] false]) : cP W0 89 [.agg [.int .i64 a1, .int .i64 a2]] [.cells 24 [.int .i64 a1, .int .i64 a2] false] (x9) [.cells 24 [.int .i64 a1, .int .i64 a2] false, .cells 24 [.int .i64 a1, .int .i64 a2] false, .cells 3 cs2 false, .cells 3 cs3 true] :=
 Dm (Zc hk opqW) (show Es Tryz.prog GL A2w opqW G0 libTab 1000 60 89 [.agg [.int .i64 a1, .int .i64 a2]] [.cells 24 [.int .i64 a1, .int .i64 a2] false] (ss0 0 [] 0 [] [(x1, some [.cells 24 [.int .i64 a1, .int .i64 a2] false, .cells 24 [.int .i64 a1, .int .i64 a2] false]), (x9, some [.cells 24 [.int .i64 a1, .int .i64 a2] false, .cells 24 [.int .i64 a1, .int .i64 a2] false, .cells 3 cs2 false, .cells 3 cs3 true])] []) = some (x9, [.cells 24 [.int .i64 a1, .int .i64 a2] false, .cells 24 [.int .i64 a1, .int .i64 a2] false, .cells 3 cs2 false, .cells 3 cs3 true], SS.mk 0 [] 0 [] [] [] [.veq (.int .i64 a2) (.int .i64 a2), .veq (.ptr 1 1) (.ptr 1 1), .callH 90 [x1, .int .i64 (IntKind.i64.wrap (a2 + 9))] [.cells 24 [.int .i64 a1, .int .i64 a2] false, .cells 24 [.int .i64 a1, .int .i64 a2] false] (x9) [.cells 24 [.int .i64 a1, .int .i64 a2] false, .cells 24 [.int .i64 a1, .int .i64 a2] false, .cells 3 cs2 false, .cells 3 cs3 true], .callH 87 [.int .i64 a1] [.cells 24 [.int .i64 a1, .int .i64 a2] false, .cells 24 [.int .i64 a1, .int .i64 a2] false] (x1) [.cells 24 [.int .i64 a1, .int .i64 a2] false, .cells 24 [.int .i64 a1, .int .i64 a2] false]]) by kernel_rfl) (gdC obV (gdC obV (gdC (obC h1) (gdC (obC h2) (gdN)))))
theorem wholK1 (hk : Kn W0) {a1 a2 : Int} {x1 : AVal} (h1 : cP W0 90 [x1, .int .i64 (IntKind.i64.wrap (a2 + 9))] [.cells 24 [.int .i64 a1, .int .i64 a2] false, .cells 24 [.int .i64 a1, .int .i64 a2] false] (.nilSl) [.cells 24 [.int .i64 a1, .int .i64 a2] false, .cells 24 [.int .i64 a1, .int .i64 a2] false]) (h2 : cP W0 87 [.int .i64 a1] [.cells 24 [.int .i64 a1, .int .i64 a2] false, .cells 24 [.int .i64 a1, .int .i64 a2] false] (x1) [.cells 24 [.int .i64 a1, .int .i64 a2] false, .cells 24 [.int .i64 a1, .int .i64 a2] false]) : cP W0 89 [.agg [.int .i64 a1, .int .i64 a2]] [.cells 24 [.int .i64 a1, .int .i64 a2] false] (.nilSl) [.cells 24 [.int .i64 a1, .int .i64 a2] false, .cells 24 [.int .i64 a1, .int .i64 a2] false] :=
 Dm (Zc hk opqW) (show Es Tryz.prog GL A2w opqW G0 libTab 1000 60 89 [.agg [.int .i64 a1, .int .i64 a2]] [.cells 24 [.int .i64 a1, .int .i64 a2] false] (ss0 0 [] 0 [] [(x1, some [.cells 24 [.int .i64 a1, .int .i64 a2] false, .cells 24 [.int .i64 a1, .int .i64 a2] false]), (.nilSl, some [.cells 24 [.int .i64 a1, .int .i64 a2] false, .cells 24 [.int .i64 a1, .int .i64 a2] false])] []) = some (.nilSl, [.cells 24 [.int .i64 a1, .int .i64 a2] false, .cells 24 [.int .i64 a1, .int .i64 a2] false], SS.mk 0 [] 0 [] [] [] [.veq (.int .i64 a2) (.int .i64 a2), .veq (.ptr 1 1) (.ptr 1 1), .callH 90 [x1, .int .i64 (IntKind.i64.wrap (a2 + 9))] [.cells 24 [.int .i64 a1, .int .i64 a2] false, .cells 24 [.int .i64 a1, .int .i64 a2] false] (.nilSl) [.cells 24 [.int .i64 a1, .int .i64 a2] false, .cells 24 [.int .i64 a1, .int .i64 a2] false], .callH 87 [.int .i64 a1] [.cells 24 [.int .i64 a1, .int .i64 a2] false, .cells 24 [.int .i64 a1, .int .i64 a2] false] (x1) [.cells 24 [.int .i64 a1, .int .i64 a2] false, .cells 24 [.int .i64 a1, .int .i64 a2] false]]) by kernel_rfl) (gdC obV (gdC obV (gdC (obC h1) (gdC (obC h2) (gdN)))))
theorem div0 (hk : Kn W0) {a1 a2 a3 : Int} (h1 : Ob.ok Tryz.prog W0 (.call 91 [.agg [.int .i64 a1, .int .i64 a2]] (.bool false))) : cP W0 36 [.agg [.int .i64 a1, .int .i64 a2], .agg [.int .i64 1, .int .i64 a3]] [] (.tup [.agg z2L, .int .i64 10]) [] :=
 Dm (Fq hk A12) (show Es Tryz.prog GL Gk A12 G0 libTab 1000 60 36 [.agg [.int .i64 a1, .int .i64 a2], .agg [.int .i64 1, .int .i64 a3]] [] (ss0 0 [] 0 [] [(.bool false, none)] []) = some (.tup [.agg z2L, .int .i64 10], [], SS.mk 0 [] 0 [] [] [] [.call 91 [.agg [.int .i64 a1, .int .i64 a2]] (.bool false)]) by kernel_rfl) (gdC h1 (gdN))
theorem div1 (hk : Kn W0) {a1 a2 a3 a5 a6 a7 : Int} {x1 x2 : AVal} (hs : 0 ≤ a1) (h1 : cP W0 86 [.bool false, x1, x2] [.cells 24 [.int .i64 a1, .int .i64 a2] false, .cells 24 [.int .i64 1, .int .i64 a3] false, .cells 24 z2L false] (.tup [.agg [.int .i64 a5, .int .i64 a6], .int .i64 a7]) [.cells 24 [.int .i64 a1, .int .i64 a2] false, .cells 24 [.int .i64 1, .int .i64 a3] false, .cells 24 z2L false]) (h2 : cP W0 89 [.agg [.int .i64 1, .int .i64 a3]] [.cells 24 [.int .i64 a1, .int .i64 a2] false, .cells 24 [.int .i64 1, .int .i64 a3] false, .cells 24 z2L false] (x2) [.cells 24 [.int .i64 a1, .int .i64 a2] false, .cells 24 [.int .i64 1, .int .i64 a3] false, .cells 24 z2L false]) (h3 : cP W0 89 [.agg [.int .i64 a1, .int .i64 a2]] [.cells 24 [.int .i64 a1, .int .i64 a2] false, .cells 24 [.int .i64 1, .int .i64 a3] false, .cells 24 z2L false] (x1) [.cells 24 [.int .i64 a1, .int .i64 a2] false, .cells 24 [.int .i64 1, .int .i64 a3] false, .cells 24 z2L false]) (h4 : Ob.ok Tryz.prog W0 (.call 91 [.agg [.int .i64 1, .int .i64 a3]] (.bool true))) (h5 : Ob.ok Tryz.prog W0 (.call 91 [.agg [.int .i64 a1, .int .i64 a2]] (.bool true))) : cP W0 36 [.agg [.int .i64 a1, .int .i64 a2], .agg [.int .i64 1, .int .i64 a3]] [] (.tup [.agg [.int .i64 a5, .int .i64 a6], .int .i64 a7]) [] :=
 Dm (Fq hk A12) (show Es Tryz.prog GL Gk A12 G0 libTab 1000 60 36 [.agg [.int .i64 a1, .int .i64 a2], .agg [.int .i64 1, .int .i64 a3]] [] (ss0 1 [(false, 2)] 0 [] [(.bool true, none), (.bool true, none), (x1, some [.cells 24 [.int .i64 a1, .int .i64 a2] false, .cells 24 [.int .i64 1, .int .i64 a3] false, .cells 24 z2L false]), (x2, some [.cells 24 [.int .i64 a1, .int .i64 a2] false, .cells 24 [.int .i64 1, .int .i64 a3] false, .cells 24 z2L false]), (.tup [.agg [.int .i64 a5, .int .i64 a6], .int .i64 a7], some [.cells 24 [.int .i64 a1, .int .i64 a2] false, .cells 24 [.int .i64 1, .int .i64 a3] false, .cells 24 z2L false])] []) = some (.tup [.agg [.int .i64 a5, .int .i64 a6], .int .i64 a7], [], SS.mk 0 [] 0 [] [] [] [.veq (.agg [.int .i64 1, .int .i64 a3]) (.agg [.int .i64 1, .int .i64 a3]), .veq (.int .i64 1) (.int .i64 1), .veq (.int .i64 1) (.int .i64 1), .veq (.ptr 1 0) (.ptr 1 0), .veq (.ptr 1 0) (.ptr 1 0), .veq (.int .i64 a1) (.int .i64 a1), .veq (.int .i64 a1) (.int .i64 a1), .veq (.ptr 0 0) (.ptr 0 0), .veq (.ptr 0 0) (.ptr 0 0), .callH 86 [.bool false, x1, x2] [.cells 24 [.int .i64 a1, .int .i64 a2] false, .cells 24 [.int .i64 1, .int .i64 a3] false, .cells 24 z2L false] (.tup [.agg [.int .i64 a5, .int .i64 a6], .int .i64 a7]) [.cells 24 [.int .i64 a1, .int .i64 a2] false, .cells 24 [.int .i64 1, .int .i64 a3] false, .cells 24 z2L false], .callH 89 [.agg [.int .i64 1, .int .i64 a3]] [.cells 24 [.int .i64 a1, .int .i64 a2] false, .cells 24 [.int .i64 1, .int .i64 a3] false, .cells 24 z2L false] (x2) [.cells 24 [.int .i64 a1, .int .i64 a2] false, .cells 24 [.int .i64 1, .int .i64 a3] false, .cells 24 z2L false], .callH 89 [.agg [.int .i64 a1, .int .i64 a2]] [.cells 24 [.int .i64 a1, .int .i64 a2] false, .cells 24 [.int .i64 1, .int .i64 a3] false, .cells 24 z2L false] (x1) [.cells 24 [.int .i64 a1, .int .i64 a2] false, .cells 24 [.int .i64 1, .int .i64 a3] false, .cells 24 z2L false], .eq (X2 .lss (.int .i64 a1) (.int .i64 0)) false, .call 91 [.agg [.int .i64 1, .int .i64 a3]] (.bool true), .call 91 [.agg [.int .i64 a1, .int .i64 a2]] (.bool true)]) by kernel_rfl) (gdC obV (gdC obV (gdC obV (gdC obV (gdC obV (gdC obV (gdC obV (gdC obV (gdC obV (gdC (obC h1) (gdC (obC h2) (gdC (obC h3) (gdC (obE (by simp [X2, Ws, Vy, Qr]; exact hs)) (gdC h4 (gdC h5 (gdN))))))))))))))))
theorem div2 (hk : Kn W0) {a1 a2 a3 a5 a6 a7 : Int} {x1 x2 : AVal} (hs : a1 < 0) (h1 : cP W0 86 [.bool true, x1, x2] [.cells 24 [.int .i64 a1, .int .i64 a2] false, .cells 24 [.int .i64 1, .int .i64 a3] false, .cells 24 z2L false] (.tup [.agg [.int .i64 a5, .int .i64 a6], .int .i64 a7]) [.cells 24 [.int .i64 a1, .int .i64 a2] false, .cells 24 [.int .i64 1, .int .i64 a3] false, .cells 24 z2L false]) (h2 : cP W0 89 [.agg [.int .i64 1, .int .i64 a3]] [.cells 24 [.int .i64 a1, .int .i64 a2] false, .cells 24 [.int .i64 1, .int .i64 a3] false, .cells 24 z2L false] (x2) [.cells 24 [.int .i64 a1, .int .i64 a2] false, .cells 24 [.int .i64 1, .int .i64 a3] false, .cells 24 z2L false]) (h3 : cP W0 89 [.agg [.int .i64 a1, .int .i64 a2]] [.cells 24 [.int .i64 a1, .int .i64 a2] false, .cells 24 [.int .i64 1, .int .i64 a3] false, .cells 24 z2L false] (x1) [.cells 24 [.int .i64 a1, .int .i64 a2] false, .cells 24 [.int .i64 1, .int .i64 a3] false, .cells 24 z2L false]) (h4 : Ob.ok Tryz.prog W0 (.call 91 [.agg [.int .i64 1, .int .i64 a3]] (.bool true))) (h5 : Ob.ok Tryz.prog W0 (.call 91 [.agg [.int .i64 a1, .int .i64 a2]] (.bool true))) : cP W0 36 [.agg [.int .i64 a1, .int .i64 a2], .agg [.int .i64 1, .int .i64 a3]] [] (.tup [.agg [.int .i64 a5, .int .i64 a6], .int .i64 a7]) [] :=
 Dm (Fq hk A12) (show Es Tryz.prog GL Gk A12 G0 libTab 1000 60 36 [.agg [.int .i64 a1, .int .i64 a2], .agg [.int .i64 1, .int .i64 a3]] [] (ss0 1 [(true, 2)] 0 [] [(.bool true, none), (.bool true, none), (x1, some [.cells 24 [.int .i64 a1, .int .i64 a2] false, .cells 24 [.int .i64 1, .int .i64 a3] false, .cells 24 z2L false]), (x2, some [.cells 24 [.int .i64 a1, .int .i64 a2] false, .cells 24 [.int .i64 1, .int .i64 a3] false, .cells 24 z2L false]), (.tup [.agg [.int .i64 a5, .int .i64 a6], .int .i64 a7], some [.cells 24 [.int .i64 a1, .int .i64 a2] false, .cells 24 [.int .i64 1, .int .i64 a3] false, .cells 24 z2L false])] []) = some (.tup [.agg [.int .i64 a5, .int .i64 a6], .int .i64 a7], [], SS.mk 0 [] 0 [] [] [] [.veq (.agg [.int .i64 1, .int .i64 a3]) (.agg [.int .i64 1, .int .i64 a3]), .veq (.int .i64 1) (.int .i64 1), .veq (.int .i64 1) (.int .i64 1), .veq (.ptr 1 0) (.ptr 1 0), .veq (.ptr 1 0) (.ptr 1 0), .veq (.int .i64 a1) (.int .i64 a1), .veq (.int .i64 a1) (.int .i64 a1), .veq (.ptr 0 0) (.ptr 0 0), .veq (.ptr 0 0) (.ptr 0 0), .callH 86 [.bool true, x1, x2] [.cells 24 [.int .i64 a1, .int .i64 a2] false, .cells 24 [.int .i64 1, .int .i64 a3] false, .cells 24 z2L false] (.tup [.agg [.int .i64 a5, .int .i64 a6], .int .i64 a7]) [.cells 24 [.int .i64 a1, .int .i64 a2] false, .cells 24 [.int .i64 1, .int .i64 a3] false, .cells 24 z2L false], .callH 89 [.agg [.int .i64 1, .int .i64 a3]] [.cells 24 [.int .i64 a1, .int .i64 a2] false, .cells 24 [.int .i64 1, .int .i64 a3] false, .cells 24 z2L false] (x2) [.cells 24 [.int .i64 a1, .int .i64 a2] false, .cells 24 [.int .i64 1, .int .i64 a3] false, .cells 24 z2L false], .callH 89 [.agg [.int .i64 a1, .int .i64 a2]] [.cells 24 [.int .i64 a1, .int .i64 a2] false, .cells 24 [.int .i64 1, .int .i64 a3] false, .cells 24 z2L false] (x1) [.cells 24 [.int .i64 a1, .int .i64 a2] false, .cells 24 [.int .i64 1, .int .i64 a3] false, .cells 24 z2L false], .eq (X2 .lss (.int .i64 a1) (.int .i64 0)) true, .call 91 [.agg [.int .i64 1, .int .i64 a3]] (.bool true), .call 91 [.agg [.int .i64 a1, .int .i64 a2]] (.bool true)]) by kernel_rfl) (gdC obV (gdC obV (gdC obV (gdC obV (gdC obV (gdC obV (gdC obV (gdC obV (gdC obV (gdC (obC h1) (gdC (obC h2) (gdC (obC h3) (gdC (obE (by simp [X2, Ws, Vy, Qr]; exact hs)) (gdC h4 (gdC h5 (gdN))))))))))))))))
def K7 (s1 : Bz) (a1 a2 a3 a5 a6 : Int) (bR : Bool) : Hz := [.cells 26 [.int .i64 a1, .int .i64 a2, .int .i64 a3, .str s1, .bool bR] false, .cells 62 z1L false, .cells 24 [.int .i64 a5, .int .i64 a6] false, .cells 24 z2L false]
def Un (s1 : Bz) (a1 a2 a3 a5 a6 : Int) (bR : Bool) : Hz := [.cells 26 [.int .i64 a1, .int .i64 a2, .int .i64 a3, .str s1, .bool bR] false, .cells 62 z1L false, .cells 24 [.int .i64 a5, .int .i64 a6] false]
theorem val0 (hk : Kn W0) {s1 : Bz} {a1 a2 a3 a5 a6 a8 a9 a49 a51 : Int} {bR : Bool} (h1 : Ob.ok Tryz.prog W0 (.call 36 [.agg [.int .i64 a5, .int .i64 a6], .agg [.int .i64 1, .int .i64 a51]] (.tup [.agg [.int .i64 a8, .int .i64 a9], .int .i64 0]))) (h2 : Ob.ok Tryz.prog W0 (.call 34 [.int .i64 a3, .int .i64 5] (.int .i64 a51))) (h3 : Ob.ok Tryz.prog W0 (.call 35 [.int .i64 (IntKind.i64.wrap (a49 - 1000000))] (.tup [.agg [.int .i64 a5, .int .i64 a6], .int .i64 0]))) (h4 : Ob.ok Tryz.prog W0 (.call 34 [.int .i64 a2, .int .i64 2000001] (.int .i64 a49))) (h5 : Ob.ok Tryz.prog W0 (.call 34 [.int .i64 a1, .int .i64 5] (.int .i64 1))) : cP W0 13 [.agg [.int .i64 a1, .int .i64 a2, .int .i64 a3, .str s1, .bool bR]] [] (.agg [.int .i64 1, .int .i64 a8, .int .i64 a9, .str [], .bool false, .int .i64 0, .int .i64 0, .int .i64 0, .nilSl, .int .i64 0, .nilSl, .nilSl]) [] :=
 Dm (Fq hk A0k) (show Es Tryz.prog GL Gk A0k G0 libTab 1000 60 13 [.agg [.int .i64 a1, .int .i64 a2, .int .i64 a3, .str s1, .bool bR]] [] (ss0 3 [] 0 [] [(.int .i64 1, none), (.int .i64 a49, none), (.tup [.agg [.int .i64 a5, .int .i64 a6], .int .i64 0], none), (.int .i64 a51, none), (.tup [.agg [.int .i64 a8, .int .i64 a9], .int .i64 0], none)] [1, 1, 2, 2]) = some (.agg [.int .i64 1, .int .i64 a8, .int .i64 a9, .str [], .bool false, .int .i64 0, .int .i64 0, .int .i64 0, .nilSl, .int .i64 0, .nilSl, .nilSl], [], SS.mk 0 [] 0 [] [] [] [.veq (.int .i64 a3) (.int .i64 a3), .veq (.ptr 0 2) (.ptr 0 2), .veq (.ptr 0 1) (.ptr 0 1), .veq (.agg [.int .i64 a5, .int .i64 a6]) (.agg [.int .i64 a5, .int .i64 a6]), .veq (.agg [.int .i64 a5, .int .i64 a6]) (.agg [.int .i64 a5, .int .i64 a6]), .veq (.agg [.int .i64 a5, .int .i64 a6]) (.agg [.int .i64 a5, .int .i64 a6]), .hp (K7 s1 a1 a2 a3 a5 a6 bR) (K7 s1 a1 a2 a3 a5 a6 bR), .hp (K7 s1 a1 a2 a3 a5 a6 bR) (K7 s1 a1 a2 a3 a5 a6 bR), .hp (K7 s1 a1 a2 a3 a5 a6 bR) (K7 s1 a1 a2 a3 a5 a6 bR), .hp (K7 s1 a1 a2 a3 a5 a6 bR) (K7 s1 a1 a2 a3 a5 a6 bR), .hp (Un s1 a1 a2 a3 a5 a6 bR) (Un s1 a1 a2 a3 a5 a6 bR), .hp (Un s1 a1 a2 a3 a5 a6 bR) (Un s1 a1 a2 a3 a5 a6 bR), .call 36 [.agg [.int .i64 a5, .int .i64 a6], .agg [.int .i64 1, .int .i64 a51]] (.tup [.agg [.int .i64 a8, .int .i64 a9], .int .i64 0]), .call 34 [.int .i64 a3, .int .i64 5] (.int .i64 a51), .call 35 [.int .i64 (IntKind.i64.wrap (a49 - 1000000))] (.tup [.agg [.int .i64 a5, .int .i64 a6], .int .i64 0]), .call 34 [.int .i64 a2, .int .i64 2000001] (.int .i64 a49), .call 34 [.int .i64 a1, .int .i64 5] (.int .i64 1)]) by kernel_rfl) (gdC obV (gdC obV (gdC obV (gdC obV (gdC obV (gdC obV (gdC obH (gdC obH (gdC obH (gdC obH (gdC obH (gdC obH (gdC h1 (gdC h2 (gdC h3 (gdC h4 (gdC h5 (gdN))))))))))))))))))
def K9 (s1 : Bz) (a1 a2 a3 a5 a6 : Int) (bR : Bool) : Hz := [.cells 26 [.int .i64 a1, .int .i64 a2, .int .i64 a3, .str s1, .bool bR] false, .cells 62 z1L false, .cells 24 [.int .i64 a5, .int .i64 a6] false, .cells 24 z2L false]
def Vb (s1 : Bz) (a1 a2 a3 a5 a6 : Int) (bR : Bool) : Hz := [.cells 26 [.int .i64 a1, .int .i64 a2, .int .i64 a3, .str s1, .bool bR] false, .cells 62 z1L false, .cells 24 [.int .i64 a5, .int .i64 a6] false]
theorem val1 (hk : Kn W0) {s1 : Bz} {a1 a2 a3 a5 a6 a8 a9 a49 a51 : Int} {bR : Bool} (h1 : Ob.ok Tryz.prog W0 (.call 36 [.agg [.int .i64 a5, .int .i64 a6], .agg [.int .i64 1, .int .i64 a51]] (.tup [.agg [.int .i64 a8, .int .i64 a9], .int .i64 10]))) (h2 : Ob.ok Tryz.prog W0 (.call 34 [.int .i64 a3, .int .i64 5] (.int .i64 a51))) (h3 : Ob.ok Tryz.prog W0 (.call 35 [.int .i64 (IntKind.i64.wrap (a49 - 1000000))] (.tup [.agg [.int .i64 a5, .int .i64 a6], .int .i64 0]))) (h4 : Ob.ok Tryz.prog W0 (.call 34 [.int .i64 a2, .int .i64 2000001] (.int .i64 a49))) (h5 : Ob.ok Tryz.prog W0 (.call 34 [.int .i64 a1, .int .i64 5] (.int .i64 1))) : cP W0 13 [.agg [.int .i64 a1, .int .i64 a2, .int .i64 a3, .str s1, .bool bR]] [] (.agg z5L) [] :=
 Dm (Fq hk A0k) (show Es Tryz.prog GL Gk A0k G0 libTab 1000 60 13 [.agg [.int .i64 a1, .int .i64 a2, .int .i64 a3, .str s1, .bool bR]] [] (ss0 3 [] 0 [] [(.int .i64 1, none), (.int .i64 a49, none), (.tup [.agg [.int .i64 a5, .int .i64 a6], .int .i64 0], none), (.int .i64 a51, none), (.tup [.agg [.int .i64 a8, .int .i64 a9], .int .i64 10], none)] [1, 1, 2, 2]) = some (.agg z5L, [], SS.mk 0 [] 0 [] [] [] [.veq (.int .i64 a3) (.int .i64 a3), .veq (.ptr 0 2) (.ptr 0 2), .veq (.ptr 0 1) (.ptr 0 1), .veq (.agg [.int .i64 a5, .int .i64 a6]) (.agg [.int .i64 a5, .int .i64 a6]), .veq (.agg [.int .i64 a5, .int .i64 a6]) (.agg [.int .i64 a5, .int .i64 a6]), .veq (.agg [.int .i64 a5, .int .i64 a6]) (.agg [.int .i64 a5, .int .i64 a6]), .hp (K9 s1 a1 a2 a3 a5 a6 bR) (K9 s1 a1 a2 a3 a5 a6 bR), .hp (K9 s1 a1 a2 a3 a5 a6 bR) (K9 s1 a1 a2 a3 a5 a6 bR), .hp (K9 s1 a1 a2 a3 a5 a6 bR) (K9 s1 a1 a2 a3 a5 a6 bR), .hp (K9 s1 a1 a2 a3 a5 a6 bR) (K9 s1 a1 a2 a3 a5 a6 bR), .hp (Vb s1 a1 a2 a3 a5 a6 bR) (Vb s1 a1 a2 a3 a5 a6 bR), .hp (Vb s1 a1 a2 a3 a5 a6 bR) (Vb s1 a1 a2 a3 a5 a6 bR), .call 36 [.agg [.int .i64 a5, .int .i64 a6], .agg [.int .i64 1, .int .i64 a51]] (.tup [.agg [.int .i64 a8, .int .i64 a9], .int .i64 10]), .call 34 [.int .i64 a3, .int .i64 5] (.int .i64 a51), .call 35 [.int .i64 (IntKind.i64.wrap (a49 - 1000000))] (.tup [.agg [.int .i64 a5, .int .i64 a6], .int .i64 0]), .call 34 [.int .i64 a2, .int .i64 2000001] (.int .i64 a49), .call 34 [.int .i64 a1, .int .i64 5] (.int .i64 1)]) by kernel_rfl) (gdC obV (gdC obV (gdC obV (gdC obV (gdC obV (gdC obV (gdC obH (gdC obH (gdC obH (gdC obH (gdC obH (gdC obH (gdC h1 (gdC h2 (gdC h3 (gdC h4 (gdC h5 (gdN))))))))))))))))))
def K4 (s1 : Bz) (a1 a2 a3 a5 a6 : Int) (bR : Bool) : Hz := [.cells 26 [.int .i64 a1, .int .i64 a2, .int .i64 a3, .str s1, .bool bR] false, .cells 62 z1L false, .cells 24 [.int .i64 a5, .int .i64 a6] false, .cells 24 z2L false]
def Vk (s1 : Bz) (a1 a2 a3 a5 a6 : Int) (bR : Bool) : Hz := [.cells 26 [.int .i64 a1, .int .i64 a2, .int .i64 a3, .str s1, .bool bR] false, .cells 62 z1L false, .cells 24 [.int .i64 a5, .int .i64 a6] false]
theorem val2 (hk : Kn W0) {s1 : Bz} {a1 a2 a3 a5 a6 a8 a9 a10 a49 a51 : Int} {bR : Bool} (h1 : Ob.ok Tryz.prog W0 (.call 36 [.agg [.int .i64 a5, .int .i64 a6], .agg [.int .i64 1, .int .i64 a51]] (.tup [.agg [.int .i64 a8, .int .i64 a9], .int .i64 a10]))) (h2 : Ob.ok Tryz.prog W0 (.call 34 [.int .i64 a3, .int .i64 5] (.int .i64 a51))) (h3 : Ob.ok Tryz.prog W0 (.call 35 [.int .i64 (IntKind.i64.wrap (a49 - 1000000))] (.tup [.agg [.int .i64 a5, .int .i64 a6], .int .i64 10]))) (h4 : Ob.ok Tryz.prog W0 (.call 34 [.int .i64 a2, .int .i64 2000001] (.int .i64 a49))) (h5 : Ob.ok Tryz.prog W0 (.call 34 [.int .i64 a1, .int .i64 5] (.int .i64 1))) : cP W0 13 [.agg [.int .i64 a1, .int .i64 a2, .int .i64 a3, .str s1, .bool bR]] [] (.agg z5L) [] :=
 Dm (Fq hk A0k) (show Es Tryz.prog GL Gk A0k G0 libTab 1000 60 13 [.agg [.int .i64 a1, .int .i64 a2, .int .i64 a3, .str s1, .bool bR]] [] (ss0 2 [] 0 [] [(.int .i64 1, none), (.int .i64 a49, none), (.tup [.agg [.int .i64 a5, .int .i64 a6], .int .i64 10], none), (.int .i64 a51, none), (.tup [.agg [.int .i64 a8, .int .i64 a9], .int .i64 a10], none)] [1, 1, 2, 2]) = some (.agg z5L, [], SS.mk 0 [] 0 [] [] [] [.veq (.int .i64 a3) (.int .i64 a3), .veq (.ptr 0 2) (.ptr 0 2), .veq (.ptr 0 1) (.ptr 0 1), .veq (.agg [.int .i64 a5, .int .i64 a6]) (.agg [.int .i64 a5, .int .i64 a6]), .veq (.agg [.int .i64 a5, .int .i64 a6]) (.agg [.int .i64 a5, .int .i64 a6]), .veq (.agg [.int .i64 a5, .int .i64 a6]) (.agg [.int .i64 a5, .int .i64 a6]), .hp (K4 s1 a1 a2 a3 a5 a6 bR) (K4 s1 a1 a2 a3 a5 a6 bR), .hp (K4 s1 a1 a2 a3 a5 a6 bR) (K4 s1 a1 a2 a3 a5 a6 bR), .hp (K4 s1 a1 a2 a3 a5 a6 bR) (K4 s1 a1 a2 a3 a5 a6 bR), .hp (K4 s1 a1 a2 a3 a5 a6 bR) (K4 s1 a1 a2 a3 a5 a6 bR), .hp (Vk s1 a1 a2 a3 a5 a6 bR) (Vk s1 a1 a2 a3 a5 a6 bR), .hp (Vk s1 a1 a2 a3 a5 a6 bR) (Vk s1 a1 a2 a3 a5 a6 bR), .call 36 [.agg [.int .i64 a5, .int .i64 a6], .agg [.int .i64 1, .int .i64 a51]] (.tup [.agg [.int .i64 a8, .int .i64 a9], .int .i64 a10]), .call 34 [.int .i64 a3, .int .i64 5] (.int .i64 a51), .call 35 [.int .i64 (IntKind.i64.wrap (a49 - 1000000))] (.tup [.agg [.int .i64 a5, .int .i64 a6], .int .i64 10]), .call 34 [.int .i64 a2, .int .i64 2000001] (.int .i64 a49), .call 34 [.int .i64 a1, .int .i64 5] (.int .i64 1)]) by kernel_rfl) (gdC obV (gdC obV (gdC obV (gdC obV (gdC obV (gdC obV (gdC obH (gdC obH (gdC obH (gdC obH (gdC obH (gdC obH (gdC h1 (gdC h2 (gdC h3 (gdC h4 (gdC h5 (gdN))))))))))))))))))
end Go.Abs
