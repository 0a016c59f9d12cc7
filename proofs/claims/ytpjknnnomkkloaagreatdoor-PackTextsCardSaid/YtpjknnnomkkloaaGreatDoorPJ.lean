/- A part of the proof that tabula/tabulalaw25.PackTexts returns true for every input, each argument reading as it did (its card: the last text). No conditions of its own. -/
import Derived.Test.YtpjknnnomkkloaaGreatDoorPI
namespace Go.Abs
open Go.Proofs Go.RowKit
set_option maxRecDepth 100000
variable {W0 : World} {G : List (Nat × AVal)}
theorem Zp (s : Bool) (n d : Nat) : ∀ (f : Nat) (e : Int), (Ja s n d f e).2.2 = 0 ∨ (Ja s n d f e).2.2 = 10
 | 0, e => .inr rfl
 | f + 1, e => by
   simp only [Ja]
   split
   · exact Zp s n d f (e + 1)
   · exact .inl rfl
theorem A01 (s : Bool) (n d : Nat) : (Ic s n d).2.2 = 0 ∨ (Ic s n d).2.2 = 10 := Zp s n d 19 (-9)
theorem A1f {M E : Int} (h1 : -999999999999999 ≤ M) (h2 : M ≤ 999999999999999) (h4 : E ≤ 9) : M.natAbs * 10 ^ (E + 9).toNat < 10 ^ 40 := by
 have h5 : M.natAbs < 10 ^ 15 := by omega
 have h6 : 10 ^ (E + 9).toNat ≤ 10 ^ 18 := Nat.pow_le_pow_right (by decide) (by omega)
 have h7 : 0 < 10 ^ (E + 9).toNat := Nat.pow_pos (by decide)
 have h8 : M.natAbs * 10 ^ (E + 9).toNat < 10 ^ 15 * 10 ^ (E + 9).toNat := Nat.mul_lt_mul_of_pos_right h5 h7
 have h9 : 10 ^ 15 * 10 ^ (E + 9).toNat ≤ 10 ^ 15 * 10 ^ 18 := Nat.mul_le_mul_left _ h6
 have h10 : 10 ^ 15 * 10 ^ 18 ≤ 10 ^ 40 := by rw [← Nat.pow_add]; exact Nat.pow_le_pow_right (by decide) (by decide)
 exact nLl (nLl h8 h9) h10
theorem DivK (hk : Kn W0) {M E E2 : Int} (h0 : 0 ≤ E2) (h1 : E2 ≤ 4) : ∃ M' E' er : Int, (er = 0 ∨ er = 10) ∧ cP W0 36 [.agg [.int .i64 M, .int .i64 E], .agg [.int .i64 1, .int .i64 E2]] [] (Po (M', E', er)) [] := by
 have hg := grK hk
 by_cases hr : Dj M E = true
 · have hb := Nk hr
   have hr2 : Dj 1 E2 = true := by
    have : E2 = 0 ∨ E2 = 1 ∨ E2 = 2 ∨ E2 = 3 ∨ E2 = 4 := by omega
    rcases this with rfl | rfl | rfl | rfl | rfl <;> decide
   have h5 := Ly hg (M := M) (E := E) ([] : Hz)
   rw [hr] at h5
   have h4 := Ly hg (M := 1) (E := E2) ([] : Hz)
   rw [hr2] at h4
   have hd0 : 0 < 1 * 10 ^ (E2 + 9).toNat := Nat.mul_pos (by decide) (Nat.pow_pos (by decide))
   have hd : 1 * 10 ^ (E2 + 9).toNat < 10 ^ 40 := by have := A1f (M := 1) (E := E2) (by decide) (by decide) (by omega); exact this
   have hn := A1f hb.1 hb.2.1 hb.2.2.2
   have hnear : ∀ (s : Bool) (H : Hz), cP W0 86 [.bool s, tN M.natAbs (E + 9), tN (1 : Int).natAbs (E2 + 9)] H (Po (Ic s (M.natAbs * 10 ^ (E + 9).toNat) (1 * 10 ^ (E2 + 9).toNat))) H := fun s H => A1.sub3 (Sub.refl _) (Bj _ _) (Bj _ _) (A3c hg (Nat.lt_trans hn (Nat.pow_lt_pow_right (by decide) (by decide))) (Nat.lt_trans hd (Nat.pow_lt_pow_right (by decide) (by decide))) hd0 H)
   have w1 := fun H => Jy hg (M := M) (E := E) hb.1 hb.2.1 hb.2.2.1 hb.2.2.2 H
   have w2 := fun H => Jy hg (M := 1) (E := E2) (by decide) (by decide) (by omega) (by omega) H
   by_cases hs : M < 0
   · have he := A01 true (M.natAbs * 10 ^ (E + 9).toNat) (1 * 10 ^ (E2 + 9).toNat)
     have hn' := hnear true
     generalize Ic true (M.natAbs * 10 ^ (E + 9).toNat) (1 * 10 ^ (E2 + 9).toNat) = p at he hn'
     obtain ⟨pM, pE, pe⟩ := p
     exact ⟨pM, pE, pe, he, div2 hk hs (hn' _) (w2 _) (w1 _) h4 h5⟩
   · have he := A01 false (M.natAbs * 10 ^ (E + 9).toNat) (1 * 10 ^ (E2 + 9).toNat)
     have hn' := hnear false
     generalize Ic false (M.natAbs * 10 ^ (E + 9).toNat) (1 * 10 ^ (E2 + 9).toNat) = p at he hn'
     obtain ⟨pM, pE, pe⟩ := p
     exact ⟨pM, pE, pe, he, div1 hk (by omega) (hn' _) (w2 _) (w1 _) h4 h5⟩
 · have hr' : Dj M E = false := by cases h : Dj M E with | false => rfl | true => exact absurd h hr
   have h5 := Ly hg (M := M) (E := E) ([] : Hz)
   rw [hr'] at h5
   exact ⟨0, 0, 10, .inr rfl, div0 hk h5⟩
def Cd (k m e : Int) (s : Bz) (b : Bool) (er : Int) : AVal := .agg [.int .i64 k, .int .i64 m, .int .i64 e, .str s, .bool b, .int .i64 er, .int .i64 0, .int .i64 0, .nilSl, .int .i64 0, .nilSl, .nilSl]
def i64 (x : Int) : Prop := -9223372036854775808 ≤ x ∧ x ≤ 9223372036854775807
theorem ValNum (hk : Kn W0) {K M E : Int} {s : Bz} {b : Bool} (hK : i64 K) (hM : i64 M) (hE : i64 E) (h1 : Ds K 5 = 1) : ∃ m e : Int, cP W0 13 [.agg [.int .i64 K, .int .i64 M, .int .i64 E, .str s, .bool b]] [] (Cd 1 m e [] false 0) [] := by
 have hg := grK hk
 have k1 := Nj hg (c := K) (n := 5) hK.1 hK.2 (by decide)
 rw [h1] at k1
 have k2 := Nj hg (c := M) (n := 2000001) hM.1 hM.2 (by decide)
 have k3 := Nj hg (c := E) (n := 5) hE.1 hE.2 (by decide)
 have l2 := Kx (c := M) (n := 2000001) (by decide)
 have l3 := Kx (c := E) (n := 5) (by decide)
 obtain ⟨m1, e1, er1, hr1, c1⟩ := OfK hg (n := ((Ds M 2000001 : Nat) : Int) - 1000000) (by omega) (by omega)
 rw [← w64 (x := ((Ds M 2000001 : Nat) : Int) - 1000000) (by omega) (by omega)] at c1
 obtain ⟨m2, e2, er2, hr2, c2⟩ := DivK hk (M := m1) (E := e1) (E2 := ((Ds E 5 : Nat) : Int)) (by omega) (by omega)
 rcases hr1 with rfl | rfl
 · rcases hr2 with rfl | rfl
   · exact ⟨m2, e2, val0 hk c2 k3 c1 k2 k1⟩
   · exact ⟨0, 0, val1 hk c2 k3 c1 k2 k1⟩
 · exact ⟨0, 0, val2 hk c2 k3 c1 k2 k1⟩
theorem tenK (hg : hGr W0 G) {x : Nat} {n : Int} {o1 o2 : A2} (hx : x ≠ 0) (hl : (D1 x).length ≤ 1000) (hn : n ≤ 1000) : cP W0 90 [dN x, .int .i64 n] [o1, o2] (.hsl 1 3 0 (List.replicate n.toNat 0 ++ D1 x).length none) [o1, o2, .cells 3 (B4 (List.replicate n.toNat 0)) false, .cells 3 (B4 (List.replicate n.toNat 0 ++ D1 x)) true] := by
 have hz := Q8 hx
 refine oF KG99 ?_
 refine sO (x1 rfl (sq (sO (mV rfl (mV (v := .int .i64 ((D1 x).length : Nat)) (E5 rfl) (mF rfl (mn (cF rfl (kM (sO (mV rfl (mK (v := .int .i64 (n.toNat : Nat)) rfl (iE (by by_cases h : n < 0 <;> simp [h] <;> omega)) (Ag hg gN (v := .hsl 1 2 0 n.toNat (some n.toNat)) (mkSlD rfl) rfl (by simp only [Af, and_true]; omega) (mV rfl (Ag hg gN (v := .hsl 1 3 0 (List.replicate n.toNat 0 ++ D1 x).length none) (A3p rfl rfl hz rfl (by simp) rfl) rfl (by simp only [Af, C9, and_true, lAp, List.length_replicate]; omega) (x1 rfl ?_))))))))))))))))
 exact ExM.ret (pS)
theorem wholeK1 (hk : Kn W0) {M E : Int} (hr : Dj M E = true) (h0 : M ≠ 0) : cP W0 89 [.agg [.int .i64 M, .int .i64 E]] [.cells 24 [.int .i64 M, .int .i64 E] false] (.hsl 1 3 0 (List.replicate (E + 9).toNat 0 ++ D1 M.natAbs).length none) [.cells 24 [.int .i64 M, .int .i64 E] false, .cells 24 [.int .i64 M, .int .i64 E] false, .cells 3 (B4 (List.replicate (E + 9).toNat 0)) false, .cells 3 (B4 (List.replicate (E + 9).toNat 0 ++ D1 M.natAbs)) true] := by
 have hb := Nk hr
 have hg := grK hk
 have hl := E7 (n := M.natAbs) (k := 15) (by omega)
 refine wholK0 hk (x1 := dN M.natAbs) ?_ (Bl hg (by omega) (by omega) _)
 rw [w64 (x := E + 9) (by omega) (by omega)]
 exact tenK hg (by omega) (by omega) (by omega)
theorem wholeK0 (hk : Kn W0) {E : Int} (hr : Dj 0 E = true) : cP W0 89 [.agg [.int .i64 0, .int .i64 E]] [.cells 24 [.int .i64 0, .int .i64 E] false] .nilSl [.cells 24 [.int .i64 0, .int .i64 E] false, .cells 24 [.int .i64 0, .int .i64 E] false] := by
 have hb := Nk hr
 have hg := grK hk
 refine wholK1 hk (x1 := dN (0 : Int).natAbs) ?_ (Bl hg (by omega) (by omega) _)
 rw [w64 (x := E + 9) (by omega) (by omega)]
 have := Eo hg (x := 0) (n := E + 9) (by decide) (by omega) [.cells 24 [.int .i64 0, .int .i64 E] false, .cells 24 [.int .i64 0, .int .i64 E] false]
 exact this
def tvv : List AVal × List Nat → AVal
 | (_, []) => .nilSl
 | (_, d :: r) => .hsl 1 3 0 (d :: r).length none
def thh (A : A2) : List AVal × List Nat → Hz
 | (_, []) => [A, A]
 | (J, d :: r) => [A, A, .cells 3 J false, .cells 3 (B4 (d :: r)) true]
theorem Nb {k T : Nat} {m e : Int} {x : List AVal × List Nat} (h : ∀ k, A8 k x.1 = true) : B2 k (thh (.cells T [.int .i64 m, .int .i64 e] false) x) = true := by
 obtain ⟨J, l⟩ := x
 cases l with
 | nil => rfl
 | cons d r =>
   show cond (A8 k J) (cond (A8 k (B4 (d :: r))) true false) false = true
   rw [h k, As]; rfl
def Sj (s : Bz) : Prop := ∀ c r, s = c :: r → c ≠ 61
theorem Hr : Sj [] := fun _ _ h => by cases h
def pl (s : Bz) : Prop := ∀ b ∈ s, 45 ≤ b.toNat ∧ b.toNat ≤ 57
theorem Me : pl [] := fun _ h => by cases h
theorem E9 {s t : Bz} (h : pl s) (ht : pl t) : pl (s ++ t) := fun b hb => by
 rcases List.mem_append.1 hb with hb | hb
 · exact h b hb
 · exact ht b hb
theorem Gi {c : UInt8} (h : 45 ≤ c.toNat ∧ c.toNat ≤ 57) : pl [c] := fun b hb => by
 rw [List.mem_singleton] at hb; subst hb; exact h
theorem Jr {d : Nat} (h : d < 10) : pl [UInt8.ofNat (48 + d)] := Gi (by
 have : (UInt8.ofNat (48 + d)).toNat = 48 + d := by simp [UInt8.toNat_ofNat']; omega
 omega)
theorem pl_hd {s : Bz} (h : pl s) : Sj s := fun c r e => by
 subst e
 have := h c (by simp)
 intro e; subst e
 exact absurd this.2 (by decide)
def KF150 : AFn := ⟨(sQ [wV 1 (.box 24 0), wV 2 (.move (.val (.str []))), wV 3 (.move (vI 0))] (.seq (sQ [wV 8 (.load 2 true 1), wV 9 (kF 91 [8]), wV 10 (.un .not 9)] (.cond 10 (sQ [wV 2 (.move (.val (.str []))), wV 3 (.move (vI 10))] .ret) .skip)) (sQ [wV 11 (.load 2 true 1), wV 12 (kF 89 [11]), wM 4 12] (.seq (.block 0 (.loop (.seq (sQ [wM 13 4, wV 14 (.len false 13), wV 15 (.bin .leq none 14 (vI 9))] (.cond 15 .skip (.exit 0))) (.block 1 (.ops [wM 16 4, wV 17 (.bslice 3 1 1 [.int .i64 0] [(0, 1, (vI 0))]), wV 18 (.append 3 1 8 16 17), wM 4 18]))))) (sQ [wV 5 (.move (vI 0))] (.seq (.block 2 (.loop (.seq (sQ [wM 19 5, wV 20 (.bin .lss none 19 (vI 9)), wM 21 20, wT 22 21 (.move 4), wT 23 21 (.move 5), wT 24 21 (.idxSl 1 22 23), wT 25 21 (.load 1 false 24), wT 26 21 (.bin .eql none 25 (vI 0)), wV 27 (.pick 21 26 (.val (.bool false)))] (.cond 27 .skip (.exit 2))) (.block 3 (.ops [wM 28 5, wV 29 (.bin .add none 28 (vI 1)), wM 5 29]))))) (sQ [wV 6 (.move (.val (.str [])))] (.seq (sQ [wV 30 (.fieldAddr 0 1), wV 31 (.load 1 false 30), wV 32 (.bin .lss none 31 (vI 0))] (.cond 32 (.ops [wV 6 (.move (.val (.str [45])))]) .skip)) (.seq (sQ [wM 33 4, wV 34 (.len false 33), wV 35 (.bin .sub none 34 (vI 1)), wM 7 35] (.block 4 (.loop (.seq (sQ [wM 36 7, wM 37 5, wV 38 (.bin .geq none 36 37)] (.cond 38 .skip (.exit 4))) (.seq (.block 5 (.seq (sQ [wM 41 7, wV 42 (.bin .eql none 41 (vI 8))] (.cond 42 (.ops [wM 43 6, wV 44 (.bin .add none 43 (.val (.str [46]))), wM 6 44]) .skip)) (.ops [wM 45 6, wM 46 4, wM 47 7, wV 48 (.idxSl 1 46 47), wV 49 (.load 1 false 48), wV 50 (.bin .add none (vI 48) 49), wV 51 (.conv (.int .u8) 50), wV 52 (.bslice 5 1 1 [.int .u8 0] [(0, 1, 51)]), wV 53 (.conv .b2s 52), wV 54 (.bin .add none 45 53), wM 6 54]))) (.ops [wM 39 7, wV 40 (.bin .sub none 39 (vI 1)), wM 7 40])))))) (sQ [wM 55 6, wM 2 55, wV 3 (.move (vI 0))] .ret)))))))))), [2, 3], 56⟩
theorem KG150 : Ab Tryz.prog 131 = some KF150 := by kernel_rfl
theorem textE (hk : Kn W0) {M E : Int} : Aj Tryz.prog W0 131 [.agg [.int .i64 M, .int .i64 E]] (fun v => ∃ (s : Bz) (er : Int), v = .tup [.str s, .int .i64 er] ∧ pl s ∧ s.length ≤ 90) := by
 have hg := grK hk
 refine Aj.of_fnM KG150 (by simp) rfl ?_
 cases hr : Dj M E with
 | false =>
   skip
   refine sO (mV (v := .ptr 0 0) rfl (x2 rfl rfl (sq (sO (mV rfl (Fg hg gN (c := false) rfl rfl (show cP W0 91 [.agg [.int .i64 M, .int .i64 E]] _ (.bool (Dj M E)) _ from Ly hg _) hr (x1 rfl (cT rfl (sO (x2 rfl rfl ?_))))))))))
   exact ExM.ret ⟨_, ⟨[], 10, rfl, Me, by decide⟩, A0 trivial rfl rfl 100 rfl rfl⟩
 | true =>
   have hb := Nk hr
   by_cases hM : M = 0
   · subst hM
     refine sO (mV (v := .ptr 0 0) rfl (x2 rfl rfl (sq (sO (mV rfl (Fg hg gN (c := true) rfl rfl (show cP W0 91 [.agg [.int .i64 0, .int .i64 E]] _ (.bool (Dj 0 E)) _ from Ly hg _) hr (x1 rfl (cF rfl (kM (sO (mV rfl (mC rfl (wholeK0 hk hr) (x1 rfl (sq (bM ?_)))))))))))))))
     refine ExM.loop (σ := List AVal × List Nat) (fun σ => ⟨.al [(1, .ptr 0 0), (4, tvv σ)], thh (.cells 24 [.int .i64 0, .int .i64 E] false) σ, 56⟩) (fun σ => Dig σ.2 ∧ σ.2.length ≤ 40 ∧ ∀ k, A8 k σ.1 = true) (fun σ => 40 - σ.2.length) ([], []) ?_ ⟨Dig.nil, by simp, fun _ => rfl⟩ ?_
     · exact Ae 2 rfl (by decide) rfl rfl (fzC rfl (fvP rfl) (fzC rfl Ji fzN))
     rintro ⟨J, l⟩ ⟨hl, hll, hJ⟩
     simp only at hl hll hJ ⊢
     rcases l with _ | ⟨d, r⟩
     · refine sq (sO (mV rfl (mV (v := .int .i64 0) rfl (mT rfl (mn (cT rfl (kM (bM (oM (mV rfl (mV (v := .hsl 1 2 0 1 (some 1)) rfl (Ag hg gN (v := .hsl 1 3 0 ([] ++ [0]).length none) rfl rfl (E4 (n := 1) (by decide)) (x1 rfl ?_)))))))))))))
       exact ⟨([.int .i64 0], [] ++ [0]), ⟨Dig.cons (by decide) Dig.nil, by simp, fun _ => rfl⟩, by simp, Ae 4 rfl (by decide) rfl (Nb fun _ => rfl) (fzC rfl (fvP rfl) (fzC rfl (fvH rfl) fzN))⟩
     · by_cases h9 : (d :: r).length ≤ 9
       · refine sq (sO (m2 rfl rfl (mBk hg gN (c := true) rfl rfl (decide_eq_true (by simp only [lCo] at *; omega)) (mn (cT rfl (kM (bM (oM (mV rfl (mV (v := .hsl 1 4 0 1 (some 1)) rfl (Ag hg gN (v := .hsl 1 3 0 ((d :: r) ++ [0]).length none) (appS rfl rfl rfl rfl rfl) rfl (E4 (by simp only [lCo] at *; omega)) (x1 rfl ?_))))))))))))
         exact ⟨(J, (d :: r) ++ [0]), ⟨hl.snoc (by decide), by simp only [lAp, lCo, lNi] at *; omega, hJ⟩, by simp only [lAp, lCo, lNi] at *; omega, Ae 4 rfl (by decide) rfl (Nb hJ) (fzC rfl (fvP rfl) (fzC rfl (fvH rfl) fzN))⟩
       · refine sq (sO (m2 rfl rfl (mBk hg gN (c := false) rfl rfl (dF (by simp only [lCo] at *; omega)) (mn (cF rfl ?_)))))
         refine ExM.exit ?_
         refine sO (x1 rfl (sq (bM ?_)))
         have h10 : ¬ (d :: r).length ≤ 9 := h9
         refine ExM.loop (σ := Nat) (fun f => ⟨.al [(1, .ptr 0 0), (4, dg (d :: r)), (5, .int .i64 (f : Nat))], [.cells 24 [.int .i64 0, .int .i64 E] false], 56⟩) (fun f => f ≤ 9) (fun f => 9 - f) 0 (Ae 1 rfl (Nat.zero_le _) rfl rfl (fzC rfl (fvP rfl) (fzC rfl (N2 (id := 3) (by decide) rfl) (fI fzN)))) (Nat.zero_le _) ?_
         rintro f hf
         generalize d :: r = D at *
         by_cases hf9 : f < 9
         · by_cases hz : D.getD f 0 = 0
           · refine sq (sO (mV rfl (mT rfl (m3 rfl rfl rfl (mS (v := .eptr (.int .i64 (D.getD f 0 : Nat)) 0) (Ew rfl rfl (by omega)) (mV rfl (mBk hg (gS rfl) (c := true) rfl rfl (by rw [hz]; decide) (x1 rfl (cT rfl (kM (bM (oM (mV rfl (mI ((f + 1 : Nat)) rfl (x1 rfl ?_)))))))))))))))
             exact ⟨f + 1, by omega, by omega, Ae 1 rfl (Nat.zero_le _) rfl rfl (fzC rfl (fvP rfl) (fzC rfl fvD (fI fzN)))⟩
           · refine sq (sO (mV rfl (mT rfl (m3 rfl rfl rfl (mS (v := .eptr (.int .i64 (D.getD f 0 : Nat)) 0) (Ew rfl rfl (by omega)) (mV rfl (mF rfl (x1 rfl (cF rfl ?_)))))))))
             refine ExM.exit ?_
             refine sO (x1 rfl (sq (sO (m2 rfl rfl (mF rfl (mn (cF rfl (kM (sq (sO (mV rfl (mV (v := .int .i64 (D.length : Nat)) (E5 rfl) (mK (v := .int .i64 ((D.length : Nat) - 1)) rfl (B8 (by omega) (by omega) rfl) (x1 rfl (bM ?_)))))))))))))))
             refine ExM.loop (σ := Nat × Bz) (fun σ => ⟨.al [(1, .ptr 0 0), (4, dg D), (5, .int .i64 (f : Nat)), (6, .str σ.2), (7, .int .i64 ((σ.1 : Nat) - 1))], [.cells 24 [.int .i64 0, .int .i64 E] false], 56⟩) (fun σ => σ.1 ≤ D.length ∧ pl σ.2 ∧ σ.2.length + 2 * σ.1 ≤ 90) (fun σ => σ.1) (D.length, _) (Ae 1 rfl (Nat.zero_le _) rfl rfl (fzC rfl (fvP rfl) (fzC rfl fvD (fI (fS (fI fzN)))))) ⟨Nat.le_refl _, by first | exact Me | exact Gi (by decide), by simp only [lNi]; omega⟩ ?_
             rintro ⟨k, s⟩ ⟨hk, hs, hsl⟩
             simp only at hk hs hsl ⊢
             by_cases hkf : f < k
             · obtain ⟨j, rfl⟩ : ∃ j, k = j + 1 := ⟨k - 1, by omega⟩
               have hdj := hl.get j
               by_cases h8 : j = 8
               · refine sq (sO (m2 rfl rfl (mT rfl (mn (cT rfl (kM (sq (bM (sq (sO (mV rfl (mT rfl (mn (cT rfl (oM (mV rfl (mS rfl (x1 rfl (oM (m2 rfl rfl (mK (v := .int .i64 (j : Nat)) rfl (iE (by omega)) (mS (v := .eptr (.int .i64 (D.getD j 0 : Nat)) 0) (Ew rfl rfl (by omega)) (mV rfl (mI ((48 + D.getD j 0 : Nat)) rfl (mK (v := .int .u8 ((48 + D.getD j 0 : Nat))) rfl (w8E (by omega) (by omega) rfl) (mV (v := .hsl 1 1 0 1 (some 1)) rfl (mV (v := .str [UInt8.ofNat (48 + D.getD j 0)]) rfl (Ag hg gN rfl rfl (by simp only [Af, and_true, lAp, lCo, lNi]; omega) (x1 rfl (oM (mV rfl (mI ((j : Nat) - 1) rfl (x1 rfl ?_)))))))))))))))))))))))))))))))))
                 exact ⟨(j, (s ++ [46]) ++ [UInt8.ofNat (48 + D.getD j 0)]), ⟨by simp only; omega, E9 (E9 hs (Gi (by decide))) (Jr hdj), by simp only [lAp, lCo, lNi]; omega⟩, by simp only; omega, Ae 1 rfl (Nat.zero_le _) rfl rfl (fzC rfl (fvP rfl) (fzC rfl fvD (fI (fS (fI fzN)))))⟩
               · refine sq (sO (m2 rfl rfl (mT rfl (mn (cT rfl (kM (sq (bM (sq (sO (mV rfl (mF rfl (mn (cF rfl (kM (oM (m2 rfl rfl (mK (v := .int .i64 (j : Nat)) rfl (iE (by omega)) (mS (v := .eptr (.int .i64 (D.getD j 0 : Nat)) 0) (Ew rfl rfl (by omega)) (mV rfl (mI ((48 + D.getD j 0 : Nat)) rfl (mK (v := .int .u8 ((48 + D.getD j 0 : Nat))) rfl (w8E (by omega) (by omega) rfl) (mV (v := .hsl 1 1 0 1 (some 1)) rfl (mV (v := .str [UInt8.ofNat (48 + D.getD j 0)]) rfl (Ag hg gN rfl rfl (by simp only [Af, and_true, lCo, lNi]; omega) (x1 rfl (oM (mV rfl (mI ((j : Nat) - 1) rfl (x1 rfl ?_))))))))))))))))))))))))))))))
                 exact ⟨(j, s ++ [UInt8.ofNat (48 + D.getD j 0)]), ⟨by simp only; omega, E9 hs (Jr hdj), by simp only [lAp, lCo, lNi]; omega⟩, by simp only; omega, Ae 1 rfl (Nat.zero_le _) rfl rfl (fzC rfl (fvP rfl) (fzC rfl fvD (fI (fS (fI fzN)))))⟩
             · refine sq (sO (m2 rfl rfl (mF rfl (mn (cF rfl ?_)))))
               refine ExM.exit ?_
               refine sO (x3 rfl rfl rfl ?_)
               exact ExM.ret ⟨_, ⟨s, 0, rfl, hs, by omega⟩, A0 trivial rfl rfl 100 rfl rfl⟩
         · refine sq (sO (mV rfl (mF rfl (mV rfl (mG (mG (mG (mG (mG (x1 rfl (cF rfl ?_)))))))))))
           refine ExM.exit ?_
           refine sO (x1 rfl (sq (sO (m2 rfl rfl (mF rfl (mn (cF rfl (kM (sq (sO (mV rfl (mV (v := .int .i64 (D.length : Nat)) (E5 rfl) (mK (v := .int .i64 ((D.length : Nat) - 1)) rfl (B8 (by omega) (by omega) rfl) (x1 rfl (bM ?_)))))))))))))))
           refine ExM.loop (σ := Nat × Bz) (fun σ => ⟨.al [(1, .ptr 0 0), (4, dg D), (5, .int .i64 (f : Nat)), (6, .str σ.2), (7, .int .i64 ((σ.1 : Nat) - 1))], [.cells 24 [.int .i64 0, .int .i64 E] false], 56⟩) (fun σ => σ.1 ≤ D.length ∧ pl σ.2 ∧ σ.2.length + 2 * σ.1 ≤ 90) (fun σ => σ.1) (D.length, _) (Ae 1 rfl (Nat.zero_le _) rfl rfl (fzC rfl (fvP rfl) (fzC rfl fvD (fI (fS (fI fzN)))))) ⟨Nat.le_refl _, by first | exact Me | exact Gi (by decide), by simp only [lNi]; omega⟩ ?_
           rintro ⟨k, s⟩ ⟨hk, hs, hsl⟩
           simp only at hk hs hsl ⊢
           by_cases hkf : f < k
           · obtain ⟨j, rfl⟩ : ∃ j, k = j + 1 := ⟨k - 1, by omega⟩
             have hdj := hl.get j
             by_cases h8 : j = 8
             · refine sq (sO (m2 rfl rfl (mT rfl (mn (cT rfl (kM (sq (bM (sq (sO (mV rfl (mT rfl (mn (cT rfl (oM (mV rfl (mS rfl (x1 rfl (oM (m2 rfl rfl (mK (v := .int .i64 (j : Nat)) rfl (iE (by omega)) (mS (v := .eptr (.int .i64 (D.getD j 0 : Nat)) 0) (Ew rfl rfl (by omega)) (mV rfl (mI ((48 + D.getD j 0 : Nat)) rfl (mK (v := .int .u8 ((48 + D.getD j 0 : Nat))) rfl (w8E (by omega) (by omega) rfl) (mV (v := .hsl 1 1 0 1 (some 1)) rfl (mV (v := .str [UInt8.ofNat (48 + D.getD j 0)]) rfl (Ag hg gN rfl rfl (by simp only [Af, and_true, lAp, lCo, lNi]; omega) (x1 rfl (oM (mV rfl (mI ((j : Nat) - 1) rfl (x1 rfl ?_)))))))))))))))))))))))))))))))))
               exact ⟨(j, (s ++ [46]) ++ [UInt8.ofNat (48 + D.getD j 0)]), ⟨by simp only; omega, E9 (E9 hs (Gi (by decide))) (Jr hdj), by simp only [lAp, lCo, lNi]; omega⟩, by simp only; omega, Ae 1 rfl (Nat.zero_le _) rfl rfl (fzC rfl (fvP rfl) (fzC rfl fvD (fI (fS (fI fzN)))))⟩
             · refine sq (sO (m2 rfl rfl (mT rfl (mn (cT rfl (kM (sq (bM (sq (sO (mV rfl (mF rfl (mn (cF rfl (kM (oM (m2 rfl rfl (mK (v := .int .i64 (j : Nat)) rfl (iE (by omega)) (mS (v := .eptr (.int .i64 (D.getD j 0 : Nat)) 0) (Ew rfl rfl (by omega)) (mV rfl (mI ((48 + D.getD j 0 : Nat)) rfl (mK (v := .int .u8 ((48 + D.getD j 0 : Nat))) rfl (w8E (by omega) (by omega) rfl) (mV (v := .hsl 1 1 0 1 (some 1)) rfl (mV (v := .str [UInt8.ofNat (48 + D.getD j 0)]) rfl (Ag hg gN rfl rfl (by simp only [Af, and_true, lCo, lNi]; omega) (x1 rfl (oM (mV rfl (mI ((j : Nat) - 1) rfl (x1 rfl ?_))))))))))))))))))))))))))))))
               exact ⟨(j, s ++ [UInt8.ofNat (48 + D.getD j 0)]), ⟨by simp only; omega, E9 hs (Jr hdj), by simp only [lAp, lCo, lNi]; omega⟩, by simp only; omega, Ae 1 rfl (Nat.zero_le _) rfl rfl (fzC rfl (fvP rfl) (fzC rfl fvD (fI (fS (fI fzN)))))⟩
           · refine sq (sO (m2 rfl rfl (mF rfl (mn (cF rfl ?_)))))
             refine ExM.exit ?_
             refine sO (x3 rfl rfl rfl ?_)
             exact ExM.ret ⟨_, ⟨s, 0, rfl, hs, by omega⟩, A0 trivial rfl rfl 100 rfl rfl⟩
   · have hlM := E7 (n := M.natAbs) (k := 15) (by omega)
     obtain ⟨d0, r0, hdr⟩ : ∃ d r, List.replicate (E + 9).toNat 0 ++ D1 M.natAbs = d :: r := by
      cases h : List.replicate (E + 9).toNat 0 ++ D1 M.natAbs with
      | nil => exact absurd (Wp (List.append_eq_nil_iff.1 h).2) (by omega)
      | cons d r => exact ⟨d, r, rfl⟩
     have hd0 : Dig (d0 :: r0) := by rw [← hdr]; exact (Dig.zeros _).app (F4 _)
     have hl0 : (d0 :: r0).length ≤ 40 := by rw [← hdr, lAp, List.length_replicate]; omega
     have hw := wholeK1 hk hr hM
     rw [hdr] at hw
     refine sO (mV (v := .ptr 0 0) rfl (x2 rfl rfl (sq (sO (mV rfl (Fg hg gN (c := true) rfl rfl (show cP W0 91 [.agg [.int .i64 M, .int .i64 E]] _ (.bool (Dj M E)) _ from Ly hg _) hr (x1 rfl (cF rfl (kM (sO (mV rfl (mC rfl hw (x1 rfl (sq (bM ?_)))))))))))))))
     refine ExM.loop (σ := List AVal × List Nat) (fun σ => ⟨.al [(1, .ptr 0 0), (4, tvv σ)], thh (.cells 24 [.int .i64 M, .int .i64 E] false) σ, 56⟩) (fun σ => Dig σ.2 ∧ σ.2.length ≤ 40 ∧ ∀ k, A8 k σ.1 = true) (fun σ => 40 - σ.2.length) (B4 (List.replicate (E + 9).toNat 0), d0 :: r0) ?_ ⟨hd0, hl0, fun _ => As _⟩ ?_
     · exact Ae 4 rfl (by decide) rfl (Nb fun _ => As _) (fzC rfl (fvP rfl) (fzC rfl (fvH rfl) fzN))
     rintro ⟨J, l⟩ ⟨hl, hll, hJ⟩
     simp only at hl hll hJ ⊢
     rcases l with _ | ⟨d, r⟩
     · refine sq (sO (mV rfl (mV (v := .int .i64 0) rfl (mT rfl (mn (cT rfl (kM (bM (oM (mV rfl (mV (v := .hsl 1 2 0 1 (some 1)) rfl (Ag hg gN (v := .hsl 1 3 0 ([] ++ [0]).length none) rfl rfl (E4 (n := 1) (by decide)) (x1 rfl ?_)))))))))))))
       exact ⟨([.int .i64 0], [] ++ [0]), ⟨Dig.cons (by decide) Dig.nil, by simp, fun _ => rfl⟩, by simp, Ae 4 rfl (by decide) rfl (Nb fun _ => rfl) (fzC rfl (fvP rfl) (fzC rfl (fvH rfl) fzN))⟩
     · by_cases h9 : (d :: r).length ≤ 9
       · refine sq (sO (m2 rfl rfl (mBk hg gN (c := true) rfl rfl (decide_eq_true (by simp only [lCo] at *; omega)) (mn (cT rfl (kM (bM (oM (mV rfl (mV (v := .hsl 1 4 0 1 (some 1)) rfl (Ag hg gN (v := .hsl 1 3 0 ((d :: r) ++ [0]).length none) (appS rfl rfl rfl rfl rfl) rfl (E4 (by simp only [lCo] at *; omega)) (x1 rfl ?_))))))))))))
         exact ⟨(J, (d :: r) ++ [0]), ⟨hl.snoc (by decide), by simp only [lAp, lCo, lNi] at *; omega, hJ⟩, by simp only [lAp, lCo, lNi] at *; omega, Ae 4 rfl (by decide) rfl (Nb hJ) (fzC rfl (fvP rfl) (fzC rfl (fvH rfl) fzN))⟩
       · refine sq (sO (m2 rfl rfl (mBk hg gN (c := false) rfl rfl (dF (by simp only [lCo] at *; omega)) (mn (cF rfl ?_)))))
         refine ExM.exit ?_
         refine sO (x1 rfl (sq (bM ?_)))
         have h10 : ¬ (d :: r).length ≤ 9 := h9
         refine ExM.loop (σ := Nat) (fun f => ⟨.al [(1, .ptr 0 0), (4, dg (d :: r)), (5, .int .i64 (f : Nat))], [.cells 24 [.int .i64 M, .int .i64 E] false], 56⟩) (fun f => f ≤ 9) (fun f => 9 - f) 0 (Ae 1 rfl (Nat.zero_le _) rfl rfl (fzC rfl (fvP rfl) (fzC rfl (N2 (id := 3) (by decide) rfl) (fI fzN)))) (Nat.zero_le _) ?_
         rintro f hf
         generalize d :: r = D at *
         by_cases hf9 : f < 9
         · by_cases hz : D.getD f 0 = 0
           · refine sq (sO (mV rfl (mT rfl (m3 rfl rfl rfl (mS (v := .eptr (.int .i64 (D.getD f 0 : Nat)) 0) (Ew rfl rfl (by omega)) (mV rfl (mBk hg (gS rfl) (c := true) rfl rfl (by rw [hz]; decide) (x1 rfl (cT rfl (kM (bM (oM (mV rfl (mI ((f + 1 : Nat)) rfl (x1 rfl ?_)))))))))))))))
             exact ⟨f + 1, by omega, by omega, Ae 1 rfl (Nat.zero_le _) rfl rfl (fzC rfl (fvP rfl) (fzC rfl fvD (fI fzN)))⟩
           · refine sq (sO (mV rfl (mT rfl (m3 rfl rfl rfl (mS (v := .eptr (.int .i64 (D.getD f 0 : Nat)) 0) (Ew rfl rfl (by omega)) (mV rfl (mF rfl (x1 rfl (cF rfl ?_)))))))))
             refine ExM.exit ?_
             refine sO (x1 rfl (sq (sO (m2 rfl rfl ?_))))
             refine mB hg gN rfl rfl trivial (fun h1 => ?_) (fun h1 => ?_)
             · refine mn (cT rfl (oM (x1 rfl (sq (sO (mV rfl (mV (v := .int .i64 (D.length : Nat)) (E5 rfl) (mK (v := .int .i64 ((D.length : Nat) - 1)) rfl (B8 (by omega) (by omega) rfl) (x1 rfl (bM ?_))))))))))
               refine ExM.loop (σ := Nat × Bz) (fun σ => ⟨.al [(1, .ptr 0 0), (4, dg D), (5, .int .i64 (f : Nat)), (6, .str σ.2), (7, .int .i64 ((σ.1 : Nat) - 1))], [.cells 24 [.int .i64 M, .int .i64 E] false], 56⟩) (fun σ => σ.1 ≤ D.length ∧ pl σ.2 ∧ σ.2.length + 2 * σ.1 ≤ 90) (fun σ => σ.1) (D.length, _) (Ae 1 rfl (Nat.zero_le _) rfl rfl (fzC rfl (fvP rfl) (fzC rfl fvD (fI (fS (fI fzN)))))) ⟨Nat.le_refl _, by first | exact Me | exact Gi (by decide), by simp only [lCo, lNi]; omega⟩ ?_
               rintro ⟨k, s⟩ ⟨hk, hs, hsl⟩
               simp only at hk hs hsl ⊢
               by_cases hkf : f < k
               · obtain ⟨j, rfl⟩ : ∃ j, k = j + 1 := ⟨k - 1, by omega⟩
                 have hdj := hl.get j
                 by_cases h8 : j = 8
                 · refine sq (sO (m2 rfl rfl (mT rfl (mn (cT rfl (kM (sq (bM (sq (sO (mV rfl (mT rfl (mn (cT rfl (oM (mV rfl (mS rfl (x1 rfl (oM (m2 rfl rfl (mK (v := .int .i64 (j : Nat)) rfl (iE (by omega)) (mS (v := .eptr (.int .i64 (D.getD j 0 : Nat)) 0) (Ew rfl rfl (by omega)) (mV rfl (mI ((48 + D.getD j 0 : Nat)) rfl (mK (v := .int .u8 ((48 + D.getD j 0 : Nat))) rfl (w8E (by omega) (by omega) rfl) (mV (v := .hsl 1 1 0 1 (some 1)) rfl (mV (v := .str [UInt8.ofNat (48 + D.getD j 0)]) rfl (Ag hg gN rfl rfl (by simp only [Af, and_true, lAp, lCo, lNi]; omega) (x1 rfl (oM (mV rfl (mI ((j : Nat) - 1) rfl (x1 rfl ?_)))))))))))))))))))))))))))))))))
                   exact ⟨(j, (s ++ [46]) ++ [UInt8.ofNat (48 + D.getD j 0)]), ⟨by simp only; omega, E9 (E9 hs (Gi (by decide))) (Jr hdj), by simp only [lAp, lCo, lNi]; omega⟩, by simp only; omega, Ae 1 rfl (Nat.zero_le _) rfl rfl (fzC rfl (fvP rfl) (fzC rfl fvD (fI (fS (fI fzN)))))⟩
                 · refine sq (sO (m2 rfl rfl (mT rfl (mn (cT rfl (kM (sq (bM (sq (sO (mV rfl (mF rfl (mn (cF rfl (kM (oM (m2 rfl rfl (mK (v := .int .i64 (j : Nat)) rfl (iE (by omega)) (mS (v := .eptr (.int .i64 (D.getD j 0 : Nat)) 0) (Ew rfl rfl (by omega)) (mV rfl (mI ((48 + D.getD j 0 : Nat)) rfl (mK (v := .int .u8 ((48 + D.getD j 0 : Nat))) rfl (w8E (by omega) (by omega) rfl) (mV (v := .hsl 1 1 0 1 (some 1)) rfl (mV (v := .str [UInt8.ofNat (48 + D.getD j 0)]) rfl (Ag hg gN rfl rfl (by simp only [Af, and_true, lCo, lNi]; omega) (x1 rfl (oM (mV rfl (mI ((j : Nat) - 1) rfl (x1 rfl ?_))))))))))))))))))))))))))))))
                   exact ⟨(j, s ++ [UInt8.ofNat (48 + D.getD j 0)]), ⟨by simp only; omega, E9 hs (Jr hdj), by simp only [lAp, lCo, lNi]; omega⟩, by simp only; omega, Ae 1 rfl (Nat.zero_le _) rfl rfl (fzC rfl (fvP rfl) (fzC rfl fvD (fI (fS (fI fzN)))))⟩
               · refine sq (sO (m2 rfl rfl (mF rfl (mn (cF rfl ?_)))))
                 refine ExM.exit ?_
                 refine sO (x3 rfl rfl rfl ?_)
                 exact ExM.ret ⟨_, ⟨s, 0, rfl, hs, by omega⟩, A0 trivial rfl rfl 100 rfl rfl⟩
             · refine mn (cF rfl (kM (sq (sO (mV rfl (mV (v := .int .i64 (D.length : Nat)) (E5 rfl) (mK (v := .int .i64 ((D.length : Nat) - 1)) rfl (B8 (by omega) (by omega) rfl) (x1 rfl (bM ?_)))))))))
               refine ExM.loop (σ := Nat × Bz) (fun σ => ⟨.al [(1, .ptr 0 0), (4, dg D), (5, .int .i64 (f : Nat)), (6, .str σ.2), (7, .int .i64 ((σ.1 : Nat) - 1))], [.cells 24 [.int .i64 M, .int .i64 E] false], 56⟩) (fun σ => σ.1 ≤ D.length ∧ pl σ.2 ∧ σ.2.length + 2 * σ.1 ≤ 90) (fun σ => σ.1) (D.length, _) (Ae 1 rfl (Nat.zero_le _) rfl rfl (fzC rfl (fvP rfl) (fzC rfl fvD (fI (fS (fI fzN)))))) ⟨Nat.le_refl _, by first | exact Me | exact Gi (by decide), by simp only [lNi]; omega⟩ ?_
               rintro ⟨k, s⟩ ⟨hk, hs, hsl⟩
               simp only at hk hs hsl ⊢
               by_cases hkf : f < k
               · obtain ⟨j, rfl⟩ : ∃ j, k = j + 1 := ⟨k - 1, by omega⟩
                 have hdj := hl.get j
                 by_cases h8 : j = 8
                 · refine sq (sO (m2 rfl rfl (mT rfl (mn (cT rfl (kM (sq (bM (sq (sO (mV rfl (mT rfl (mn (cT rfl (oM (mV rfl (mS rfl (x1 rfl (oM (m2 rfl rfl (mK (v := .int .i64 (j : Nat)) rfl (iE (by omega)) (mS (v := .eptr (.int .i64 (D.getD j 0 : Nat)) 0) (Ew rfl rfl (by omega)) (mV rfl (mI ((48 + D.getD j 0 : Nat)) rfl (mK (v := .int .u8 ((48 + D.getD j 0 : Nat))) rfl (w8E (by omega) (by omega) rfl) (mV (v := .hsl 1 1 0 1 (some 1)) rfl (mV (v := .str [UInt8.ofNat (48 + D.getD j 0)]) rfl (Ag hg gN rfl rfl (by simp only [Af, and_true, lAp, lCo, lNi]; omega) (x1 rfl (oM (mV rfl (mI ((j : Nat) - 1) rfl (x1 rfl ?_)))))))))))))))))))))))))))))))))
                   exact ⟨(j, (s ++ [46]) ++ [UInt8.ofNat (48 + D.getD j 0)]), ⟨by simp only; omega, E9 (E9 hs (Gi (by decide))) (Jr hdj), by simp only [lAp, lCo, lNi]; omega⟩, by simp only; omega, Ae 1 rfl (Nat.zero_le _) rfl rfl (fzC rfl (fvP rfl) (fzC rfl fvD (fI (fS (fI fzN)))))⟩
                 · refine sq (sO (m2 rfl rfl (mT rfl (mn (cT rfl (kM (sq (bM (sq (sO (mV rfl (mF rfl (mn (cF rfl (kM (oM (m2 rfl rfl (mK (v := .int .i64 (j : Nat)) rfl (iE (by omega)) (mS (v := .eptr (.int .i64 (D.getD j 0 : Nat)) 0) (Ew rfl rfl (by omega)) (mV rfl (mI ((48 + D.getD j 0 : Nat)) rfl (mK (v := .int .u8 ((48 + D.getD j 0 : Nat))) rfl (w8E (by omega) (by omega) rfl) (mV (v := .hsl 1 1 0 1 (some 1)) rfl (mV (v := .str [UInt8.ofNat (48 + D.getD j 0)]) rfl (Ag hg gN rfl rfl (by simp only [Af, and_true, lCo, lNi]; omega) (x1 rfl (oM (mV rfl (mI ((j : Nat) - 1) rfl (x1 rfl ?_))))))))))))))))))))))))))))))
                   exact ⟨(j, s ++ [UInt8.ofNat (48 + D.getD j 0)]), ⟨by simp only; omega, E9 hs (Jr hdj), by simp only [lAp, lCo, lNi]; omega⟩, by simp only; omega, Ae 1 rfl (Nat.zero_le _) rfl rfl (fzC rfl (fvP rfl) (fzC rfl fvD (fI (fS (fI fzN)))))⟩
               · refine sq (sO (m2 rfl rfl (mF rfl (mn (cF rfl ?_)))))
                 refine ExM.exit ?_
                 refine sO (x3 rfl rfl rfl ?_)
                 exact ExM.ret ⟨_, ⟨s, 0, rfl, hs, by omega⟩, A0 trivial rfl rfl 100 rfl rfl⟩
         · refine sq (sO (mV rfl (mF rfl (mV rfl (mG (mG (mG (mG (mG (x1 rfl (cF rfl ?_)))))))))))
           refine ExM.exit ?_
           refine sO (x1 rfl (sq (sO (m2 rfl rfl ?_))))
           refine mB hg gN rfl rfl trivial (fun h2 => ?_) (fun h2 => ?_)
           · refine mn (cT rfl (oM (x1 rfl (sq (sO (mV rfl (mV (v := .int .i64 (D.length : Nat)) (E5 rfl) (mK (v := .int .i64 ((D.length : Nat) - 1)) rfl (B8 (by omega) (by omega) rfl) (x1 rfl (bM ?_))))))))))
             refine ExM.loop (σ := Nat × Bz) (fun σ => ⟨.al [(1, .ptr 0 0), (4, dg D), (5, .int .i64 (f : Nat)), (6, .str σ.2), (7, .int .i64 ((σ.1 : Nat) - 1))], [.cells 24 [.int .i64 M, .int .i64 E] false], 56⟩) (fun σ => σ.1 ≤ D.length ∧ pl σ.2 ∧ σ.2.length + 2 * σ.1 ≤ 90) (fun σ => σ.1) (D.length, _) (Ae 1 rfl (Nat.zero_le _) rfl rfl (fzC rfl (fvP rfl) (fzC rfl fvD (fI (fS (fI fzN)))))) ⟨Nat.le_refl _, by first | exact Me | exact Gi (by decide), by simp only [lCo, lNi]; omega⟩ ?_
             rintro ⟨k, s⟩ ⟨hk, hs, hsl⟩
             simp only at hk hs hsl ⊢
             by_cases hkf : f < k
             · obtain ⟨j, rfl⟩ : ∃ j, k = j + 1 := ⟨k - 1, by omega⟩
               have hdj := hl.get j
               by_cases h8 : j = 8
               · refine sq (sO (m2 rfl rfl (mT rfl (mn (cT rfl (kM (sq (bM (sq (sO (mV rfl (mT rfl (mn (cT rfl (oM (mV rfl (mS rfl (x1 rfl (oM (m2 rfl rfl (mK (v := .int .i64 (j : Nat)) rfl (iE (by omega)) (mS (v := .eptr (.int .i64 (D.getD j 0 : Nat)) 0) (Ew rfl rfl (by omega)) (mV rfl (mI ((48 + D.getD j 0 : Nat)) rfl (mK (v := .int .u8 ((48 + D.getD j 0 : Nat))) rfl (w8E (by omega) (by omega) rfl) (mV (v := .hsl 1 1 0 1 (some 1)) rfl (mV (v := .str [UInt8.ofNat (48 + D.getD j 0)]) rfl (Ag hg gN rfl rfl (by simp only [Af, and_true, lAp, lCo, lNi]; omega) (x1 rfl (oM (mV rfl (mI ((j : Nat) - 1) rfl (x1 rfl ?_)))))))))))))))))))))))))))))))))
                 exact ⟨(j, (s ++ [46]) ++ [UInt8.ofNat (48 + D.getD j 0)]), ⟨by simp only; omega, E9 (E9 hs (Gi (by decide))) (Jr hdj), by simp only [lAp, lCo, lNi]; omega⟩, by simp only; omega, Ae 1 rfl (Nat.zero_le _) rfl rfl (fzC rfl (fvP rfl) (fzC rfl fvD (fI (fS (fI fzN)))))⟩
               · refine sq (sO (m2 rfl rfl (mT rfl (mn (cT rfl (kM (sq (bM (sq (sO (mV rfl (mF rfl (mn (cF rfl (kM (oM (m2 rfl rfl (mK (v := .int .i64 (j : Nat)) rfl (iE (by omega)) (mS (v := .eptr (.int .i64 (D.getD j 0 : Nat)) 0) (Ew rfl rfl (by omega)) (mV rfl (mI ((48 + D.getD j 0 : Nat)) rfl (mK (v := .int .u8 ((48 + D.getD j 0 : Nat))) rfl (w8E (by omega) (by omega) rfl) (mV (v := .hsl 1 1 0 1 (some 1)) rfl (mV (v := .str [UInt8.ofNat (48 + D.getD j 0)]) rfl (Ag hg gN rfl rfl (by simp only [Af, and_true, lCo, lNi]; omega) (x1 rfl (oM (mV rfl (mI ((j : Nat) - 1) rfl (x1 rfl ?_))))))))))))))))))))))))))))))
                 exact ⟨(j, s ++ [UInt8.ofNat (48 + D.getD j 0)]), ⟨by simp only; omega, E9 hs (Jr hdj), by simp only [lAp, lCo, lNi]; omega⟩, by simp only; omega, Ae 1 rfl (Nat.zero_le _) rfl rfl (fzC rfl (fvP rfl) (fzC rfl fvD (fI (fS (fI fzN)))))⟩
             · refine sq (sO (m2 rfl rfl (mF rfl (mn (cF rfl ?_)))))
               refine ExM.exit ?_
               refine sO (x3 rfl rfl rfl ?_)
               exact ExM.ret ⟨_, ⟨s, 0, rfl, hs, by omega⟩, A0 trivial rfl rfl 100 rfl rfl⟩
           · refine mn (cF rfl (kM (sq (sO (mV rfl (mV (v := .int .i64 (D.length : Nat)) (E5 rfl) (mK (v := .int .i64 ((D.length : Nat) - 1)) rfl (B8 (by omega) (by omega) rfl) (x1 rfl (bM ?_)))))))))
             refine ExM.loop (σ := Nat × Bz) (fun σ => ⟨.al [(1, .ptr 0 0), (4, dg D), (5, .int .i64 (f : Nat)), (6, .str σ.2), (7, .int .i64 ((σ.1 : Nat) - 1))], [.cells 24 [.int .i64 M, .int .i64 E] false], 56⟩) (fun σ => σ.1 ≤ D.length ∧ pl σ.2 ∧ σ.2.length + 2 * σ.1 ≤ 90) (fun σ => σ.1) (D.length, _) (Ae 1 rfl (Nat.zero_le _) rfl rfl (fzC rfl (fvP rfl) (fzC rfl fvD (fI (fS (fI fzN)))))) ⟨Nat.le_refl _, by first | exact Me | exact Gi (by decide), by simp only [lNi]; omega⟩ ?_
             rintro ⟨k, s⟩ ⟨hk, hs, hsl⟩
             simp only at hk hs hsl ⊢
             by_cases hkf : f < k
             · obtain ⟨j, rfl⟩ : ∃ j, k = j + 1 := ⟨k - 1, by omega⟩
               have hdj := hl.get j
               by_cases h8 : j = 8
               · refine sq (sO (m2 rfl rfl (mT rfl (mn (cT rfl (kM (sq (bM (sq (sO (mV rfl (mT rfl (mn (cT rfl (oM (mV rfl (mS rfl (x1 rfl (oM (m2 rfl rfl (mK (v := .int .i64 (j : Nat)) rfl (iE (by omega)) (mS (v := .eptr (.int .i64 (D.getD j 0 : Nat)) 0) (Ew rfl rfl (by omega)) (mV rfl (mI ((48 + D.getD j 0 : Nat)) rfl (mK (v := .int .u8 ((48 + D.getD j 0 : Nat))) rfl (w8E (by omega) (by omega) rfl) (mV (v := .hsl 1 1 0 1 (some 1)) rfl (mV (v := .str [UInt8.ofNat (48 + D.getD j 0)]) rfl (Ag hg gN rfl rfl (by simp only [Af, and_true, lAp, lCo, lNi]; omega) (x1 rfl (oM (mV rfl (mI ((j : Nat) - 1) rfl (x1 rfl ?_)))))))))))))))))))))))))))))))))
                 exact ⟨(j, (s ++ [46]) ++ [UInt8.ofNat (48 + D.getD j 0)]), ⟨by simp only; omega, E9 (E9 hs (Gi (by decide))) (Jr hdj), by simp only [lAp, lCo, lNi]; omega⟩, by simp only; omega, Ae 1 rfl (Nat.zero_le _) rfl rfl (fzC rfl (fvP rfl) (fzC rfl fvD (fI (fS (fI fzN)))))⟩
               · refine sq (sO (m2 rfl rfl (mT rfl (mn (cT rfl (kM (sq (bM (sq (sO (mV rfl (mF rfl (mn (cF rfl (kM (oM (m2 rfl rfl (mK (v := .int .i64 (j : Nat)) rfl (iE (by omega)) (mS (v := .eptr (.int .i64 (D.getD j 0 : Nat)) 0) (Ew rfl rfl (by omega)) (mV rfl (mI ((48 + D.getD j 0 : Nat)) rfl (mK (v := .int .u8 ((48 + D.getD j 0 : Nat))) rfl (w8E (by omega) (by omega) rfl) (mV (v := .hsl 1 1 0 1 (some 1)) rfl (mV (v := .str [UInt8.ofNat (48 + D.getD j 0)]) rfl (Ag hg gN rfl rfl (by simp only [Af, and_true, lCo, lNi]; omega) (x1 rfl (oM (mV rfl (mI ((j : Nat) - 1) rfl (x1 rfl ?_))))))))))))))))))))))))))))))
                 exact ⟨(j, s ++ [UInt8.ofNat (48 + D.getD j 0)]), ⟨by simp only; omega, E9 hs (Jr hdj), by simp only [lAp, lCo, lNi]; omega⟩, by simp only; omega, Ae 1 rfl (Nat.zero_le _) rfl rfl (fzC rfl (fvP rfl) (fzC rfl fvD (fI (fS (fI fzN)))))⟩
             · refine sq (sO (m2 rfl rfl (mF rfl (mn (cF rfl ?_)))))
               refine ExM.exit ?_
               refine sO (x3 rfl rfl rfl ?_)
               exact ExM.ret ⟨_, ⟨s, 0, rfl, hs, by omega⟩, A0 trivial rfl rfl 100 rfl rfl⟩
theorem B7 {c : UInt8} {r : Bz} (h : c ≠ 61) : Sj (c :: r) := fun c' r' e => by injection e with e1 _; rw [← e1]; exact h
theorem Xe (s : Bz) (i : Nat) : (s.getD i 0).toNat < 256 := (s.getD i 0).toNat_lt
theorem Ys {s : Bz} {n : Nat} {low high : Int} (hn : n ≤ s.length) (hc : (n = 2 ∧ 194 ≤ (s.getD 0 0).toNat ∧ (s.getD 0 0).toNat ≤ 223 ∧ low = 128 ∧ high = 191) ∨ (n = 3 ∧ 224 ≤ (s.getD 0 0).toNat ∧ (s.getD 0 0).toNat ≤ 239 ∧ 128 ≤ low ∧ high ≤ 191 ∧ ((s.getD 0 0).toNat = 224 → low = 160) ∧ ((s.getD 0 0).toNat = 237 → high = 159)) ∨ (n = 4 ∧ 240 ≤ (s.getD 0 0).toNat ∧ (s.getD 0 0).toNat ≤ 244 ∧ 128 ≤ low ∧ high ≤ 191 ∧ ((s.getD 0 0).toNat = 240 → low = 144) ∧ ((s.getD 0 0).toNat = 244 → high = 143)))
 (h1 : low ≤ ((s.getD 1 0).toNat : Int)) (h2 : ((s.getD 1 0).toNat : Int) ≤ high) (h3 : ∀ k, 2 ≤ k → k < n → 128 ≤ (s.getD k 0).toNat ∧ (s.getD k 0).toNat ≤ 191) : Im s 0 n := by
 refine ⟨by omega, ?_⟩
 simp only [Nat.zero_add, bt]
 rcases hc with ⟨rfl, a1, a2, rfl, rfl⟩ | ⟨rfl, a1, a2, a3, a4, a5, a6⟩ | ⟨rfl, a1, a2, a3, a4, a5, a6⟩
 · exact .inr (.inl ⟨rfl, a1, a2, by omega, by omega⟩)
 · have q := h3 2 (by decide) (by decide)
   exact .inr (.inr (.inl ⟨rfl, a1, a2, by omega, by omega, fun h => by have := a5 h; omega, fun h => by have := a6 h; omega, q.1, q.2⟩))
 · have q := h3 2 (by decide) (by decide)
   have q' := h3 3 (by decide) (by decide)
   exact .inr (.inr (.inr ⟨rfl, a1, a2, by omega, by omega, fun h => by have := a5 h; omega, fun h => by have := a6 h; omega, q.1, q.2, q'.1, q'.2⟩))
theorem Im.undrop {s : Bz} {i n : Nat} (hi : i ≤ s.length) (h : Im (s.drop i) 0 n) : Im s i n := by
 obtain ⟨h1, h⟩ := h
 refine ⟨by rw [List.length_drop] at h1; omega, ?_⟩
 simp only [Nq, Nat.add_zero, Nat.zero_add] at h
 exact h
def KF148 : AFn := ⟨(sQ [wV 2 (.move (.val (.bool false)))] (.seq (sQ [wV 3 (.move (vI 0))] (.block 0 (.loop (.seq (sQ [wM 5 3, wM 6 0, wV 7 (.len true 6), wV 8 (.bin .lss none 5 7)] (.cond 8 .skip (.exit 0))) (.block 1 (sQ [wM 9 0, wM 10 3, wV 11 (.cutStr 9 (some 10) none), wV 12 (kF 92 [11]), wM 4 12] (.seq (sQ [wM 13 4, wV 14 (.bin .eql none 13 (vI 0)), wM 15 14, wF 16 15 (.move 0), wF 17 15 (.move 3), wF 18 15 (.idxStr 16 17), wF 19 15 (.bin .lss none 18 (.val (.int .u8 32))), wV 20 (.pick 15 (.val (.bool true)) 19), wM 21 20, wF 22 21 (.move 0), wF 23 21 (.move 3), wF 24 21 (.idxStr 22 23), wF 25 21 (.bin .eql none 24 (.val (.int .u8 127))), wV 26 (.pick 21 (.val (.bool true)) 25)] (.cond 26 (sQ [wV 2 (.move (.val (.bool false)))] .ret) .skip)) (.ops [wM 27 3, wM 28 4, wV 29 (.bin .add none 27 28), wM 3 29])))))))) (sQ [wV 2 (.move (.val (.bool true)))] .ret))), [2], 30⟩
theorem KG148 : Ab Tryz.prog 129 = some KF148 := by kernel_rfl
def KF89 : AFn := ⟨(sQ [wV 2 (.move (.val (.str [])))] (sQ [wM 5 0, wV 6 (.conv (.s2b 5) 5), wM 3 6] (.seq (sQ [wV 4 (.move (vI 0))] (.block 0 (.loop (.seq (sQ [wM 7 4, wM 8 3, wV 9 (.len false 8), wV 10 (.bin .lss none 7 9)] (.cond 10 .skip (.exit 0))) (.seq (.block 1 (sQ [wM 13 3, wM 14 4, wV 15 (.idxSl 1 13 14), wV 16 (.load 1 false 15), wV 17 (.bin .geq none 16 (.val (.int .u8 65))), wM 18 17, wT 19 18 (.move 3), wT 20 18 (.move 4), wT 21 18 (.idxSl 1 19 20), wT 22 18 (.load 1 false 21), wT 23 18 (.bin .leq none 22 (.val (.int .u8 90))), wV 24 (.pick 18 23 (.val (.bool false)))] (.cond 24 (.ops [wM 25 3, wM 26 4, wM 27 3, wM 28 4, wV 29 (.idxSl 1 27 28), wV 30 (.load 1 false 29), wV 31 (.bin .add none 30 (.val (.int .u8 32))), wV 32 (.idxSl 1 25 26), wN (.store 1 32 31)]) .skip))) (.ops [wM 11 4, wV 12 (.bin .add none 11 (vI 1)), wM 4 12])))))) (sQ [wM 33 3, wV 34 (.conv .b2s 33), wM 2 34] .ret)))), [2], 35⟩
theorem KG89 : Ab Tryz.prog 80 = some KF89 := by kernel_rfl
def KF56 : AFn := ⟨(sQ [wV 2 (.move (.val (.str [])))] (sQ [wV 3 (.move (.val (.str [])))] (.seq (sQ [wV 4 (.move (vI 0))] (.block 0 (.loop (.seq (sQ [wM 6 4, wM 7 0, wV 8 (.len true 7), wV 9 (.bin .lss none 6 8), wM 10 9, wT 11 10 (.move 3), wT 12 10 (.len true 11), wT 13 10 (.bin .lss none 12 (vI 37)), wV 14 (.pick 10 13 (.val (.bool false)))] (.cond 14 .skip (.exit 0))) (.block 1 (sQ [wM 15 0, wM 16 4, wV 17 (.cutStr 15 (some 16) none), wV 18 (kF 92 [17]), wM 5 18] (.seq (sQ [wM 19 5, wV 20 (.bin .eql none 19 (vI 0)), wM 21 20, wF 22 21 (.move 0), wF 23 21 (.move 4), wF 24 21 (.idxStr 22 23), wF 25 21 (.bin .lss none 24 (.val (.int .u8 32))), wV 26 (.pick 21 (.val (.bool true)) 25), wM 27 26, wF 28 27 (.move 0), wF 29 27 (.move 4), wF 30 27 (.idxStr 28 29), wF 31 27 (.bin .eql none 30 (.val (.int .u8 127))), wV 32 (.pick 27 (.val (.bool true)) 31)] (.cond 32 (sQ [wM 33 4, wV 34 (.bin .add none 33 (vI 1)), wM 4 34] (.exit 1)) .skip)) (sQ [wM 35 3, wM 36 0, wM 37 4, wM 38 4, wM 39 5, wV 40 (.bin .add none 38 39), wV 41 (.cutStr 36 (some 37) (some 40)), wV 42 (.bin .add none 35 41), wM 3 42] (.ops [wM 43 4, wM 44 5, wV 45 (.bin .add none 43 44), wM 4 45]))))))))) (sQ [wM 46 3, wM 2 46] .ret)))), [2], 47⟩
theorem KG56 : Ab Tryz.prog 37 = some KF56 := by kernel_rfl
def KF92 : AFn := ⟨(sQ [wV 2 (.move (.val (.bool false)))] (sQ [wM 3 0, wV 4 (.len true 3), wV 5 (.bin .leq none 4 (vI 200)), wM 6 5, wT 7 6 (.move 0), wT 8 6 (kF 129 [7]), wV 9 (.pick 6 8 (.val (.bool false))), wM 2 9] .ret)), [2], 10⟩
theorem KG92 : Ab Tryz.prog 83 = some KF92 := by kernel_rfl
def KF90 : AFn := ⟨(sQ [wV 2 (.move (.val (.str [])))] (.seq (sQ [wM 3 0] (.block 0 (sQ [wV 5 (.bin .eql none 3 (vI 1)), wM 4 5] (.cond 4 (sQ [wV 2 (.move (.val (.str [35, 78, 85, 76, 76, 33])))] .ret) (sQ [wV 7 (.bin .eql none 3 (vI 2)), wM 6 7] (.cond 6 (sQ [wV 2 (.move (.val (.str [35, 68, 73, 86, 47, 48, 33])))] .ret) (sQ [wV 9 (.bin .eql none 3 (vI 3)), wM 8 9] (.cond 8 (sQ [wV 2 (.move (.val (.str [35, 86, 65, 76, 85, 69, 33])))] .ret) (sQ [wV 11 (.bin .eql none 3 (vI 4)), wM 10 11] (.cond 10 (sQ [wV 2 (.move (.val (.str [35, 82, 69, 70, 33])))] .ret) (sQ [wV 13 (.bin .eql none 3 (vI 5)), wM 12 13] (.cond 12 (sQ [wV 2 (.move (.val (.str [35, 78, 65, 77, 69, 63])))] .ret) (sQ [wV 15 (.bin .eql none 3 (vI 6)), wM 14 15] (.cond 14 (sQ [wV 2 (.move (.val (.str [35, 78, 85, 77, 33])))] .ret) (sQ [wV 17 (.bin .eql none 3 (vI 7)), wM 16 17] (.cond 16 (sQ [wV 2 (.move (.val (.str [35, 78, 47, 65])))] .ret) (sQ [wV 19 (.bin .eql none 3 (vI 8)), wM 18 19] (.cond 18 (sQ [wV 2 (.move (.val (.str [35, 83, 80, 73, 76, 76, 33])))] .ret) .skip)))))))))))))))))) (sQ [wV 2 (.move (.val (.str [35, 67, 73, 82, 67, 33])))] .ret))), [2], 20⟩
theorem KG90 : Ab Tryz.prog 81 = some KF90 := by kernel_rfl
def KF91 : AFn := ⟨(sQ [wV 2 (.alloc 62 z1L)] (sQ [wM 3 0, wV 4 (.build z1L [(0, 1, (vI 4)), (5, 1, 3)]), wN (.store 12 2 4)] .ret)), [.cell 2 12 true], 5⟩
theorem KG91 : Ab Tryz.prog 82 = some KF91 := by kernel_rfl
def A3b : ACode := .seq (sQ [wM 51 0, wV 52 (.idxStr 51 (vI 1)), wV 53 (.conv (.int .i64) 52), wM 54 5, wV 55 (.bin .lss none 53 54), wM 56 55, wF 57 56 (.move 0), wF 58 56 (.idxStr 57 (vI 1)), wF 59 56 (.conv (.int .i64) 58), wF 60 56 (.move 6), wF 61 56 (.bin .gtr none 59 60), wV 62 (.pick 56 (.val (.bool true)) 61)] (.cond 62 (sQ [wV 2 (.move (vI 0))] .ret) .skip)) (.seq (sQ [wV 7 (.move (vI 2))] (.block 1 (.loop (.seq (sQ [wM 63 7, wM 64 4, wV 65 (.bin .lss none 63 64)] (.cond 65 .skip (.exit 1))) (.seq (.block 2 (sQ [wM 68 0, wM 69 7, wV 70 (.idxStr 68 69), wV 71 (.bin .lss none 70 (.val (.int .u8 128))), wM 72 71, wF 73 72 (.move 0), wF 74 72 (.move 7), wF 75 72 (.idxStr 73 74), wF 76 72 (.bin .gtr none 75 (.val (.int .u8 191))), wV 77 (.pick 72 (.val (.bool true)) 76)] (.cond 77 (sQ [wV 2 (.move (vI 0))] .ret) .skip))) (.ops [wM 66 7, wV 67 (.bin .add none 66 (vI 1)), wM 7 67])))))) (sQ [wM 78 4, wM 2 78] .ret))
def KF101 : AFn := ⟨(sQ [wV 2 (.move (vI 0))] (.seq (sQ [wM 8 0, wV 9 (.len true 8), wV 10 (.bin .eql none 9 (vI 0))] (.cond 10 (sQ [wV 2 (.move (vI 0))] .ret) .skip)) (sQ [wM 11 0, wV 12 (.idxStr 11 (vI 0)), wV 13 (.conv (.int .i64) 12), wM 3 13] (.seq (sQ [wM 14 3, wV 15 (.bin .lss none 14 (vI 128))] (.cond 15 (sQ [wV 2 (.move (vI 1))] .ret) .skip)) (sQ [wV 4 (.move (vI 0))] (sQ [wV 5 (.move (vI 128))] (sQ [wV 6 (.move (vI 191))] (.seq (sQ [wM 16 3, wV 17 (.bin .geq none 16 (vI 194)), wM 18 17, wT 19 18 (.move 3), wT 20 18 (.bin .leq none 19 (vI 223)), wV 21 (.pick 18 20 (.val (.bool false)))] (.cond 21 (.ops [wV 4 (.move (vI 2))]) .skip)) (.seq (sQ [wM 22 3, wV 23 (.bin .geq none 22 (vI 224)), wM 24 23, wT 25 24 (.move 3), wT 26 24 (.bin .leq none 25 (vI 239)), wV 27 (.pick 24 26 (.val (.bool false)))] (.cond 27 (.ops [wV 4 (.move (vI 3))]) .skip)) (.seq (sQ [wM 28 3, wV 29 (.bin .geq none 28 (vI 240)), wM 30 29, wT 31 30 (.move 3), wT 32 30 (.bin .leq none 31 (vI 244)), wV 33 (.pick 30 32 (.val (.bool false)))] (.cond 33 (.ops [wV 4 (.move (vI 4))]) .skip)) (.seq (sQ [wM 34 4, wV 35 (.bin .eql none 34 (vI 0)), wM 36 35, wF 37 36 (.move 0), wF 38 36 (.len true 37), wF 39 36 (.move 4), wF 40 36 (.bin .lss none 38 39), wV 41 (.pick 36 (.val (.bool true)) 40)] (.cond 41 (sQ [wV 2 (.move (vI 0))] .ret) .skip)) (.seq (sQ [wM 42 3] (.block 0 (sQ [wV 44 (.bin .eql none 42 (vI 224)), wM 43 44] (.cond 43 (.ops [wV 5 (.move (vI 160))]) (sQ [wV 46 (.bin .eql none 42 (vI 237)), wM 45 46] (.cond 45 (.ops [wV 6 (.move (vI 159))]) (sQ [wV 48 (.bin .eql none 42 (vI 240)), wM 47 48] (.cond 47 (.ops [wV 5 (.move (vI 144))]) (sQ [wV 50 (.bin .eql none 42 (vI 244)), wM 49 50] (.cond 49 (.ops [wV 6 (.move (vI 143))]) .skip)))))))))) A3b)))))))))))), [2], 79⟩
theorem KG101 : Ab Tryz.prog 92 = some KF101 := by kernel_rfl
theorem nameE (hg : hGr W0 G) {n : Int} : Aj Tryz.prog W0 81 [.int .i64 n] (fun v => ∃ t, v = .str t ∧ Sj t ∧ t.length ≤ 1000) := by
 refine Aj.of_fnM KG90 (by simp) rfl ?_
 refine sO (x1 rfl (sq (sO (x1 rfl (bM (sO ?_))))))
 refine mB hg gN rfl rfl trivial (fun h1 => ?_) (fun h1 => ?_)
 · refine x1 rfl (cT rfl (sO (x1 rfl ?_)))
   exact ExM.ret ⟨_, ⟨_, rfl, B7 (by decide), by decide⟩, A4 trivial rfl rfl rfl⟩
 · refine x1 rfl (cF rfl (sO ?_))
   refine mB hg gN rfl rfl trivial (fun h2 => ?_) (fun h2 => ?_)
   · refine x1 rfl (cT rfl (sO (x1 rfl ?_)))
     exact ExM.ret ⟨_, ⟨_, rfl, B7 (by decide), by decide⟩, A4 trivial rfl rfl rfl⟩
   · refine x1 rfl (cF rfl (sO ?_))
     refine mB hg gN rfl rfl trivial (fun h3 => ?_) (fun h3 => ?_)
     · refine x1 rfl (cT rfl (sO (x1 rfl ?_)))
       exact ExM.ret ⟨_, ⟨_, rfl, B7 (by decide), by decide⟩, A4 trivial rfl rfl rfl⟩
     · refine x1 rfl (cF rfl (sO ?_))
       refine mB hg gN rfl rfl trivial (fun h4 => ?_) (fun h4 => ?_)
       · refine x1 rfl (cT rfl (sO (x1 rfl ?_)))
         exact ExM.ret ⟨_, ⟨_, rfl, B7 (by decide), by decide⟩, A4 trivial rfl rfl rfl⟩
       · refine x1 rfl (cF rfl (sO ?_))
         refine mB hg gN rfl rfl trivial (fun h5 => ?_) (fun h5 => ?_)
         · refine x1 rfl (cT rfl (sO (x1 rfl ?_)))
           exact ExM.ret ⟨_, ⟨_, rfl, B7 (by decide), by decide⟩, A4 trivial rfl rfl rfl⟩
         · refine x1 rfl (cF rfl (sO ?_))
           refine mB hg gN rfl rfl trivial (fun h6 => ?_) (fun h6 => ?_)
           · refine x1 rfl (cT rfl (sO (x1 rfl ?_)))
             exact ExM.ret ⟨_, ⟨_, rfl, B7 (by decide), by decide⟩, A4 trivial rfl rfl rfl⟩
           · refine x1 rfl (cF rfl (sO ?_))
             refine mB hg gN rfl rfl trivial (fun h7 => ?_) (fun h7 => ?_)
             · refine x1 rfl (cT rfl (sO (x1 rfl ?_)))
               exact ExM.ret ⟨_, ⟨_, rfl, B7 (by decide), by decide⟩, A4 trivial rfl rfl rfl⟩
             · refine x1 rfl (cF rfl (sO ?_))
               refine mB hg gN rfl rfl trivial (fun h8 => ?_) (fun h8 => ?_)
               · refine x1 rfl (cT rfl (sO (x1 rfl ?_)))
                 exact ExM.ret ⟨_, ⟨_, rfl, B7 (by decide), by decide⟩, A4 trivial rfl rfl rfl⟩
               · refine x1 rfl (cF rfl (kM (sO (x1 rfl ?_))))
                 exact ExM.ret ⟨_, ⟨_, rfl, B7 (by decide), by decide⟩, A4 trivial rfl rfl rfl⟩
theorem errP (hg : hGr W0 G) {n : Int} : cP W0 82 [.int .i64 n] [] (Cd 4 0 0 [] false n) [] := by
 refine oF KG91 ?_
 refine sO (mV (v := .ptr 0 0) rfl (mn (sO (m2 rfl rfl (A6 hg gN rfl (mn ?_))))))
 exact ExM.ret (pL)
theorem Rl (hg : hGr W0 G) {s : Bz} {n : Nat} {low high : Int} (hs : s.length ≤ 150000000000000) (hn : n ≤ s.length) (hn2 : 2 ≤ n) (hn4 : n ≤ 4) (hS : low ≤ ((s.getD 1 0).toNat : Int) → ((s.getD 1 0).toNat : Int) ≤ high → (∀ k, 2 ≤ k → k < n → 128 ≤ (s.getD k 0).toNat ∧ (s.getD k 0).toNat ≤ 191) → Im s 0 n) : ExM Tryz.prog W0 0 A3b ⟨.al [(0, .str s), (4, .int .i64 (n : Nat)), (5, .int .i64 low), (6, .int .i64 high)], [], 79⟩ (fun e s' => ∃ v, (∃ n : Nat, v = .int .i64 (n : Nat) ∧ n ≤ s.length ∧ n ≤ 4 ∧ (n = 0 ∨ Im s 0 n)) ∧ Lp KF101.res 0 v [] e s') := by
 refine sq (sO (mV rfl (mS (v := .int .u8 ((s.getD 1 0).toNat : Nat)) (E3 (n := 1) rfl rfl) (mK (v := .int .i64 ((s.getD 1 0).toNat : Nat)) rfl (B8 (by have := Xe s 1; omega) (by have := Xe s 1; omega) rfl) (mV rfl ?_)))))
 refine mB hg gN rfl rfl trivial (fun h1 => ?_) (fun h1 => ?_)
 · refine mV rfl (mG (mG (mG (mG (mG (x1 rfl (cT rfl (sO (x1 rfl ?_)))))))))
   exact ExM.ret ⟨_, ⟨0, rfl, Nat.zero_le _, by decide, .inl rfl⟩, A4 trivial rfl rfl rfl⟩
 · have hlow := Int.not_lt.1 (of_decide_eq_false h1)
   refine m2 rfl rfl (mS (v := .int .u8 ((s.getD 1 0).toNat : Nat)) (E3 (n := 1) rfl rfl) (mK (v := .int .i64 ((s.getD 1 0).toNat : Nat)) rfl (B8 (by have := Xe s 1; omega) (by have := Xe s 1; omega) rfl) (mV rfl ?_)))
   refine mB hg (gS rfl) rfl rfl trivial (fun h2 => ?_) (fun h2 => ?_)
   · refine x1 rfl (cT rfl (sO (x1 rfl ?_)))
     exact ExM.ret ⟨_, ⟨0, rfl, Nat.zero_le _, by decide, .inl rfl⟩, A4 trivial rfl rfl rfl⟩
   · have hhigh := Int.not_lt.1 (of_decide_eq_false h2)
     refine x1 rfl (cF rfl (kM (sq (sO (x1 rfl (bM ?_))))))
     refine ExM.loop (σ := Nat) (fun i => ⟨.al [(0, .str s), (4, .int .i64 (n : Nat)), (7, .int .i64 (i : Nat))], [], 79⟩) (fun i => 2 ≤ i ∧ i ≤ n ∧ ∀ k, 2 ≤ k → k < i → 128 ≤ (s.getD k 0).toNat ∧ (s.getD k 0).toNat ≤ 191) (fun i => n - i) 2 (Ae 0 rfl (Nat.le_refl _) rfl rfl (fS (fI (fI fzN)))) ⟨by omega, by omega, fun k h1 h2 => by omega⟩ ?_
     rintro i ⟨hi2, hi, hall⟩
     by_cases hin : i < n
     · refine sq (sO (m2 rfl rfl (mT rfl (mn (cT rfl (kM (sq (bM (sO (m2 rfl rfl (mS (v := .int .u8 ((s.getD i 0).toNat : Nat)) (E3 rfl rfl) ?_)))))))))))
       refine mB hg gN rfl rfl trivial (fun h3 => ?_) (fun h3 => ?_)
       · refine mV rfl (mG (mG (mG (mG (x1 rfl (cT rfl (sO (x1 rfl ?_))))))))
         exact ExM.ret ⟨_, ⟨0, rfl, Nat.zero_le _, by decide, .inl rfl⟩, A4 trivial rfl rfl rfl⟩
       · have hb1 := of_decide_eq_false h3
         refine m3 rfl rfl rfl (mS (v := .int .u8 ((s.getD i 0).toNat : Nat)) (E3 rfl rfl) ?_)
         refine mB hg (gS rfl) rfl rfl trivial (fun h4 => ?_) (fun h4 => ?_)
         · refine x1 rfl (cT rfl (sO (x1 rfl ?_)))
           exact ExM.ret ⟨_, ⟨0, rfl, Nat.zero_le _, by decide, .inl rfl⟩, A4 trivial rfl rfl rfl⟩
         · have hb2 := of_decide_eq_false h4
           refine x1 rfl (cF rfl (kM (oM (mV rfl (mI ((i + 1 : Nat)) rfl (x1 rfl ?_))))))
           exact ⟨i + 1, ⟨by omega, by omega, fun k h1 h2 => (Nat.lt_or_ge k i).elim (hall k h1) (fun h => by rw [show k = i by omega]; omega)⟩, by omega, Ae 0 rfl (Nat.le_refl _) rfl rfl (fS (fI (fI fzN)))⟩
     · refine sq (sO (m2 rfl rfl (mF rfl (mn (cF rfl ?_)))))
       refine ExM.exit ?_
       refine sO (x2 rfl rfl ?_)
       exact ExM.ret ⟨_, ⟨n, rfl, by omega, by omega, .inr (hS hlow hhigh fun k h1 h2 => hall k h1 (by omega))⟩, A4 trivial rfl rfl rfl⟩
theorem signE (hg : hGr W0 G) {s : Bz} (hs : s.length ≤ 150000000000000) : Aj Tryz.prog W0 92 [.str s] (fun v => ∃ n : Nat, v = .int .i64 (n : Nat) ∧ n ≤ s.length ∧ n ≤ 4 ∧ (n = 0 ∨ Im s 0 n)) := by
 refine Aj.of_fnM KG101 (by simp) rfl ?_
 by_cases hem : s.length = 0
 · skip
   refine sO (x1 rfl (sq (sO (m2 rfl rfl (mT rfl (mn (cT rfl (sO (x1 rfl ?_)))))))))
   exact ExM.ret ⟨_, ⟨0, rfl, Nat.zero_le _, by decide, .inl rfl⟩, A4 trivial rfl rfl rfl⟩
 have ha := Xe s 0
 by_cases h1 : (s.getD 0 0).toNat < 128
 · skip
   refine sO (x1 rfl (sq (sO (m2 rfl rfl (mF rfl (mn (cF rfl (kM (sO (mV rfl (mS (v := .int .u8 ((s.getD 0 0).toNat : Nat)) (E3 (n := 0) rfl rfl) (mK (v := .int .i64 ((s.getD 0 0).toNat : Nat)) rfl (B8 (by omega) (by omega) rfl) (x1 rfl (sq (sO (mV rfl (mT rfl (mn (cT rfl (sO (x1 rfl ?_)))))))))))))))))))))
   exact ExM.ret ⟨_, ⟨1, rfl, by omega, by decide, .inr ⟨by omega, .inl ⟨rfl, by simp only [bt]; omega⟩⟩⟩, A4 trivial rfl rfl rfl⟩
 by_cases h2 : (s.getD 0 0).toNat < 194
 · skip
   refine sO (x1 rfl (sq (sO (m2 rfl rfl (mF rfl (mn (cF rfl (kM (sO (mV rfl (mS (v := .int .u8 ((s.getD 0 0).toNat : Nat)) (E3 (n := 0) rfl rfl) (mK (v := .int .i64 ((s.getD 0 0).toNat : Nat)) rfl (B8 (by omega) (by omega) rfl) (x1 rfl (sq (sO (mV rfl (mF rfl (mn (cF rfl (kM (sO (x1 rfl (sO (x1 rfl (sO (x1 rfl (sq (sO (mV rfl (mF rfl (mV rfl (mG (mG (x1 rfl (cF rfl (kM (sq (sO (mV rfl (mF rfl (mV rfl (mG (mG (x1 rfl (cF rfl (kM (sq (sO (mV rfl (mF rfl (mV rfl (mG (mG (x1 rfl (cF rfl (kM (sq (sO (mV rfl (mT rfl (mV rfl (mG (mG (mG (mG (x1 rfl (cT rfl (sO (x1 rfl ?_)))))))))))))))))))))))))))))))))))))))))))))))))))))))))))))))))))))
   exact ExM.ret ⟨_, ⟨0, rfl, Nat.zero_le _, by decide, .inl rfl⟩, A4 trivial rfl rfl rfl⟩
 by_cases h3 : 244 < (s.getD 0 0).toNat
 · skip
   refine sO (x1 rfl (sq (sO (m2 rfl rfl (mF rfl (mn (cF rfl (kM (sO (mV rfl (mS (v := .int .u8 ((s.getD 0 0).toNat : Nat)) (E3 (n := 0) rfl rfl) (mK (v := .int .i64 ((s.getD 0 0).toNat : Nat)) rfl (B8 (by omega) (by omega) rfl) (x1 rfl (sq (sO (mV rfl (mF rfl (mn (cF rfl (kM (sO (x1 rfl (sO (x1 rfl (sO (x1 rfl (sq (sO (mV rfl (mT rfl (m2 rfl rfl (mF rfl (x1 rfl (cF rfl (kM (sq (sO (mV rfl (mT rfl (m2 rfl rfl (mF rfl (x1 rfl (cF rfl (kM (sq (sO (mV rfl (mT rfl (m2 rfl rfl (mF rfl (x1 rfl (cF rfl (kM (sq (sO (mV rfl (mT rfl (mV rfl (mG (mG (mG (mG (x1 rfl (cT rfl (sO (x1 rfl ?_))))))))))))))))))))))))))))))))))))))))))))))))))))))))))))))))))
   exact ExM.ret ⟨_, ⟨0, rfl, Nat.zero_le _, by decide, .inl rfl⟩, A4 trivial rfl rfl rfl⟩
 by_cases h4 : (s.getD 0 0).toNat ≤ 223
 · skip
   refine sO (x1 rfl (sq (sO (m2 rfl rfl (mF rfl (mn (cF rfl (kM (sO (mV rfl (mS (v := .int .u8 ((s.getD 0 0).toNat : Nat)) (E3 (n := 0) rfl rfl) (mK (v := .int .i64 ((s.getD 0 0).toNat : Nat)) rfl (B8 (by omega) (by omega) rfl) (x1 rfl (sq (sO (mV rfl (mF rfl (mn (cF rfl (kM (sO (x1 rfl (sO (x1 rfl (sO (x1 rfl (sq (sO (mV rfl (mT rfl (m2 rfl rfl (mT rfl (x1 rfl (cT rfl (oM (x1 rfl (sq (sO (mV rfl (mF rfl (mV rfl (mG (mG (x1 rfl (cF rfl (kM (sq (sO (mV rfl (mF rfl (mV rfl (mG (mG (x1 rfl (cF rfl (kM (sq (sO (mV rfl (mF rfl (m4 rfl rfl rfl rfl ?_)))))))))))))))))))))))))))))))))))))))))))))))))))))))))))))
   refine mB hg (gS rfl) rfl rfl trivial (fun h1 => ?_) (fun h1 => ?_)
   ·
    refine x1 rfl (cT rfl (sO (x1 rfl ?_)))
    exact ExM.ret ⟨_, ⟨0, rfl, Nat.zero_le _, by decide, .inl rfl⟩, A4 trivial rfl rfl rfl⟩
   · have hsl := of_decide_eq_false h1
     refine x1 rfl (cF rfl (kM (sq (sO (x1 rfl (bM (sO (mF rfl (x1 rfl (cF rfl (sO (mF rfl (x1 rfl (cF rfl (sO (mF rfl (x1 rfl (cF rfl (sO (mF rfl (x1 rfl (cF rfl (kM ?_)))))))))))))))))))))))
     exact ExM.fz (Ae 0 rfl (Nat.le_refl _) rfl rfl (fS (fI (fI (fI fzN))))) (Rl hg (n := 2) (low := 128) (high := 191) hs (by omega) (by decide) (by decide) (fun h1 h2 h3 => Ys (by omega) (by omega) h1 h2 h3))
 by_cases h5 : (s.getD 0 0).toNat = 224
 · skip
   refine sO (x1 rfl (sq (sO (m2 rfl rfl (mF rfl (mn (cF rfl (kM (sO (mV rfl (mS (v := .int .u8 ((s.getD 0 0).toNat : Nat)) (E3 (n := 0) rfl rfl) (mK (v := .int .i64 ((s.getD 0 0).toNat : Nat)) rfl (B8 (by omega) (by omega) rfl) (x1 rfl (sq (sO (mV rfl (mF rfl (mn (cF rfl (kM (sO (x1 rfl (sO (x1 rfl (sO (x1 rfl (sq (sO (mV rfl (mT rfl (m2 rfl rfl (mF rfl (x1 rfl (cF rfl (kM (sq (sO (mV rfl (mT rfl (m2 rfl rfl (mT rfl (x1 rfl (cT rfl (oM (x1 rfl (sq (sO (mV rfl (mF rfl (mV rfl (mG (mG (x1 rfl (cF rfl (kM (sq (sO (mV rfl (mF rfl (m4 rfl rfl rfl rfl ?_))))))))))))))))))))))))))))))))))))))))))))))))))))))))))))
   refine mB hg (gS rfl) rfl rfl trivial (fun h1 => ?_) (fun h1 => ?_)
   ·
    refine x1 rfl (cT rfl (sO (x1 rfl ?_)))
    exact ExM.ret ⟨_, ⟨0, rfl, Nat.zero_le _, by decide, .inl rfl⟩, A4 trivial rfl rfl rfl⟩
   · have hsl := of_decide_eq_false h1
     refine x1 rfl (cF rfl (kM (sq (sO (x1 rfl (bM (sO (mT rfl (x1 rfl (cT rfl (oM (x1 rfl ?_))))))))))))
     exact ExM.fz (Ae 0 rfl (Nat.le_refl _) rfl rfl (fS (fI (fI (fI fzN))))) (Rl hg (n := 3) (low := 160) (high := 191) hs (by omega) (by decide) (by decide) (fun h1 h2 h3 => Ys (by omega) (by omega) h1 h2 h3))
 by_cases h6 : (s.getD 0 0).toNat = 237
 · skip
   refine sO (x1 rfl (sq (sO (m2 rfl rfl (mF rfl (mn (cF rfl (kM (sO (mV rfl (mS (v := .int .u8 ((s.getD 0 0).toNat : Nat)) (E3 (n := 0) rfl rfl) (mK (v := .int .i64 ((s.getD 0 0).toNat : Nat)) rfl (B8 (by omega) (by omega) rfl) (x1 rfl (sq (sO (mV rfl (mF rfl (mn (cF rfl (kM (sO (x1 rfl (sO (x1 rfl (sO (x1 rfl (sq (sO (mV rfl (mT rfl (m2 rfl rfl (mF rfl (x1 rfl (cF rfl (kM (sq (sO (mV rfl (mT rfl (m2 rfl rfl (mT rfl (x1 rfl (cT rfl (oM (x1 rfl (sq (sO (mV rfl (mF rfl (mV rfl (mG (mG (x1 rfl (cF rfl (kM (sq (sO (mV rfl (mF rfl (m4 rfl rfl rfl rfl ?_))))))))))))))))))))))))))))))))))))))))))))))))))))))))))))
   refine mB hg (gS rfl) rfl rfl trivial (fun h1 => ?_) (fun h1 => ?_)
   ·
    refine x1 rfl (cT rfl (sO (x1 rfl ?_)))
    exact ExM.ret ⟨_, ⟨0, rfl, Nat.zero_le _, by decide, .inl rfl⟩, A4 trivial rfl rfl rfl⟩
   · have hsl := of_decide_eq_false h1
     refine x1 rfl (cF rfl (kM (sq (sO (x1 rfl (bM (sO (mF rfl (x1 rfl (cF rfl (sO (mT rfl (x1 rfl (cT rfl (oM (x1 rfl ?_))))))))))))))))
     exact ExM.fz (Ae 0 rfl (Nat.le_refl _) rfl rfl (fS (fI (fI (fI fzN))))) (Rl hg (n := 3) (low := 128) (high := 159) hs (by omega) (by decide) (by decide) (fun h1 h2 h3 => Ys (by omega) (by omega) h1 h2 h3))
 by_cases h7 : (s.getD 0 0).toNat ≤ 239
 · skip
   refine sO (x1 rfl (sq (sO (m2 rfl rfl (mF rfl (mn (cF rfl (kM (sO (mV rfl (mS (v := .int .u8 ((s.getD 0 0).toNat : Nat)) (E3 (n := 0) rfl rfl) (mK (v := .int .i64 ((s.getD 0 0).toNat : Nat)) rfl (B8 (by omega) (by omega) rfl) (x1 rfl (sq (sO (mV rfl (mF rfl (mn (cF rfl (kM (sO (x1 rfl (sO (x1 rfl (sO (x1 rfl (sq (sO (mV rfl (mT rfl (m2 rfl rfl (mF rfl (x1 rfl (cF rfl (kM (sq (sO (mV rfl (mT rfl (m2 rfl rfl (mT rfl (x1 rfl (cT rfl (oM (x1 rfl (sq (sO (mV rfl (mF rfl (mV rfl (mG (mG (x1 rfl (cF rfl (kM (sq (sO (mV rfl (mF rfl (m4 rfl rfl rfl rfl ?_))))))))))))))))))))))))))))))))))))))))))))))))))))))))))))
   refine mB hg (gS rfl) rfl rfl trivial (fun h1 => ?_) (fun h1 => ?_)
   ·
    refine x1 rfl (cT rfl (sO (x1 rfl ?_)))
    exact ExM.ret ⟨_, ⟨0, rfl, Nat.zero_le _, by decide, .inl rfl⟩, A4 trivial rfl rfl rfl⟩
   · have hsl := of_decide_eq_false h1
     refine x1 rfl (cF rfl (kM (sq (sO (x1 rfl (bM (sO (mF rfl (x1 rfl (cF rfl (sO (mF rfl (x1 rfl (cF rfl (sO (mF rfl (x1 rfl (cF rfl (sO (mF rfl (x1 rfl (cF rfl (kM ?_)))))))))))))))))))))))
     exact ExM.fz (Ae 0 rfl (Nat.le_refl _) rfl rfl (fS (fI (fI (fI fzN))))) (Rl hg (n := 3) (low := 128) (high := 191) hs (by omega) (by decide) (by decide) (fun h1 h2 h3 => Ys (by omega) (by omega) h1 h2 h3))
 by_cases h8 : (s.getD 0 0).toNat = 240
 · skip
   refine sO (x1 rfl (sq (sO (m2 rfl rfl (mF rfl (mn (cF rfl (kM (sO (mV rfl (mS (v := .int .u8 ((s.getD 0 0).toNat : Nat)) (E3 (n := 0) rfl rfl) (mK (v := .int .i64 ((s.getD 0 0).toNat : Nat)) rfl (B8 (by omega) (by omega) rfl) (x1 rfl (sq (sO (mV rfl (mF rfl (mn (cF rfl (kM (sO (x1 rfl (sO (x1 rfl (sO (x1 rfl (sq (sO (mV rfl (mT rfl (m2 rfl rfl (mF rfl (x1 rfl (cF rfl (kM (sq (sO (mV rfl (mT rfl (m2 rfl rfl (mF rfl (x1 rfl (cF rfl (kM (sq (sO (mV rfl (mT rfl (m2 rfl rfl (mT rfl (x1 rfl (cT rfl (oM (x1 rfl (sq (sO (mV rfl (mF rfl (m4 rfl rfl rfl rfl ?_)))))))))))))))))))))))))))))))))))))))))))))))))))))))))))
   refine mB hg (gS rfl) rfl rfl trivial (fun h1 => ?_) (fun h1 => ?_)
   ·
    refine x1 rfl (cT rfl (sO (x1 rfl ?_)))
    exact ExM.ret ⟨_, ⟨0, rfl, Nat.zero_le _, by decide, .inl rfl⟩, A4 trivial rfl rfl rfl⟩
   · have hsl := of_decide_eq_false h1
     refine x1 rfl (cF rfl (kM (sq (sO (x1 rfl (bM (sO (mF rfl (x1 rfl (cF rfl (sO (mF rfl (x1 rfl (cF rfl (sO (mT rfl (x1 rfl (cT rfl (oM (x1 rfl ?_))))))))))))))))))))
     exact ExM.fz (Ae 0 rfl (Nat.le_refl _) rfl rfl (fS (fI (fI (fI fzN))))) (Rl hg (n := 4) (low := 144) (high := 191) hs (by omega) (by decide) (by decide) (fun h1 h2 h3 => Ys (by omega) (by omega) h1 h2 h3))
 by_cases h9 : (s.getD 0 0).toNat = 244
 · skip
   refine sO (x1 rfl (sq (sO (m2 rfl rfl (mF rfl (mn (cF rfl (kM (sO (mV rfl (mS (v := .int .u8 ((s.getD 0 0).toNat : Nat)) (E3 (n := 0) rfl rfl) (mK (v := .int .i64 ((s.getD 0 0).toNat : Nat)) rfl (B8 (by omega) (by omega) rfl) (x1 rfl (sq (sO (mV rfl (mF rfl (mn (cF rfl (kM (sO (x1 rfl (sO (x1 rfl (sO (x1 rfl (sq (sO (mV rfl (mT rfl (m2 rfl rfl (mF rfl (x1 rfl (cF rfl (kM (sq (sO (mV rfl (mT rfl (m2 rfl rfl (mF rfl (x1 rfl (cF rfl (kM (sq (sO (mV rfl (mT rfl (m2 rfl rfl (mT rfl (x1 rfl (cT rfl (oM (x1 rfl (sq (sO (mV rfl (mF rfl (m4 rfl rfl rfl rfl ?_)))))))))))))))))))))))))))))))))))))))))))))))))))))))))))
   refine mB hg (gS rfl) rfl rfl trivial (fun h1 => ?_) (fun h1 => ?_)
   ·
    refine x1 rfl (cT rfl (sO (x1 rfl ?_)))
    exact ExM.ret ⟨_, ⟨0, rfl, Nat.zero_le _, by decide, .inl rfl⟩, A4 trivial rfl rfl rfl⟩
   · have hsl := of_decide_eq_false h1
     refine x1 rfl (cF rfl (kM (sq (sO (x1 rfl (bM (sO (mF rfl (x1 rfl (cF rfl (sO (mF rfl (x1 rfl (cF rfl (sO (mF rfl (x1 rfl (cF rfl (sO (mT rfl (x1 rfl (cT rfl (oM (x1 rfl ?_))))))))))))))))))))))))
     exact ExM.fz (Ae 0 rfl (Nat.le_refl _) rfl rfl (fS (fI (fI (fI fzN))))) (Rl hg (n := 4) (low := 128) (high := 143) hs (by omega) (by decide) (by decide) (fun h1 h2 h3 => Ys (by omega) (by omega) h1 h2 h3))
 refine sO (x1 rfl (sq (sO (m2 rfl rfl (mF rfl (mn (cF rfl (kM (sO (mV rfl (mS (v := .int .u8 ((s.getD 0 0).toNat : Nat)) (E3 (n := 0) rfl rfl) (mK (v := .int .i64 ((s.getD 0 0).toNat : Nat)) rfl (B8 (by omega) (by omega) rfl) (x1 rfl (sq (sO (mV rfl (mF rfl (mn (cF rfl (kM (sO (x1 rfl (sO (x1 rfl (sO (x1 rfl (sq (sO (mV rfl (mT rfl (m2 rfl rfl (mF rfl (x1 rfl (cF rfl (kM (sq (sO (mV rfl (mT rfl (m2 rfl rfl (mF rfl (x1 rfl (cF rfl (kM (sq (sO (mV rfl (mT rfl (m2 rfl rfl (mT rfl (x1 rfl (cT rfl (oM (x1 rfl (sq (sO (mV rfl (mF rfl (m4 rfl rfl rfl rfl ?_)))))))))))))))))))))))))))))))))))))))))))))))))))))))))))
 refine mB hg (gS rfl) rfl rfl trivial (fun h1 => ?_) (fun h1 => ?_)
 ·
  refine x1 rfl (cT rfl (sO (x1 rfl ?_)))
  exact ExM.ret ⟨_, ⟨0, rfl, Nat.zero_le _, by decide, .inl rfl⟩, A4 trivial rfl rfl rfl⟩
 · have hsl := of_decide_eq_false h1
   refine x1 rfl (cF rfl (kM (sq (sO (x1 rfl (bM (sO (mF rfl (x1 rfl (cF rfl (sO (mF rfl (x1 rfl (cF rfl (sO (mF rfl (x1 rfl (cF rfl (sO (mF rfl (x1 rfl (cF rfl (kM ?_)))))))))))))))))))))))
   exact ExM.fz (Ae 0 rfl (Nat.le_refl _) rfl rfl (fS (fI (fI (fI fzN))))) (Rl hg (n := 4) (low := 128) (high := 191) hs (by omega) (by decide) (by decide) (fun h1 h2 h3 => Ys (by omega) (by omega) h1 h2 h3))
theorem isTextE (hg : hGr W0 G) {s : Bz} (hs : s.length ≤ 100000) : Aj Tryz.prog W0 129 [.str s] (fun v => ∃ b, v = .bool b ∧ (b = true → Txt s 0)) := by
 refine Aj.of_fnM KG148 (by simp) rfl ?_
 refine sO (x1 rfl (sq (sO (x1 rfl (bM ?_)))))
 refine ExM.loop (σ := Nat) (fun i => ⟨.al [(0, .str s), (3, .int .i64 (i : Nat))], [], 30⟩) (fun i => i ≤ s.length ∧ (Txt s i → Txt s 0)) (fun i => s.length - i) 0 (Ae 0 rfl (Nat.le_refl _) rfl rfl (fS (fI fzN))) ⟨Nat.zero_le _, id⟩ ?_
 rintro i ⟨hi, hT⟩
 by_cases hin : i < s.length
 · refine sq (sO (m3 rfl rfl rfl (mT rfl (mn (cT rfl (kM (bM (sO (m2 rfl rfl (mS (v := .str (s.drop i)) rfl ?_))))))))))
   refine Bd hg gN rfl rfl rfl (signE hg (s := s.drop i) (by rw [List.length_drop]; omega)) ?_ ?_
   · rintro _ ⟨n, rfl, hn, hn4, hsg⟩; rfl
   rintro _ ⟨n, rfl, hn, hn4, hsg⟩
   rw [List.length_drop] at hn
   refine x1 rfl (sq (sO (mV rfl ?_)))
   refine mB hg gN rfl rfl trivial (fun h1 => ?_) (fun h1 => ?_)
   · refine mV rfl (mG (mG (mG (mG (m2 rfl rfl (mG (mG (mG (mG (x1 rfl (cT rfl (sO (x1 rfl ?_)))))))))))))
     exact ExM.ret ⟨_, ⟨false, rfl, fun h => by cases h⟩, A4 trivial rfl rfl rfl⟩
   · have hn0 : n ≠ 0 := by rw [bFn] at h1; omega
     refine m3 rfl rfl rfl (mS (v := .int .u8 ((s.getD i 0).toNat : Nat)) (E3 rfl rfl) ?_)
     refine mB hg (gS rfl) rfl rfl trivial (fun h2 => ?_) (fun h2 => ?_)
     · refine m2 rfl rfl (mG (mG (mG (mG (x1 rfl (cT rfl (sO (x1 rfl ?_))))))))
       exact ExM.ret ⟨_, ⟨false, rfl, fun h => by cases h⟩, A4 trivial rfl rfl rfl⟩
     · have hb1 := of_decide_eq_false h2
       refine m4 rfl rfl rfl rfl (mS (v := .int .u8 ((s.getD i 0).toNat : Nat)) (E3 rfl rfl) ?_)
       refine mB hg (gS rfl) rfl rfl trivial (fun h3 => ?_) (fun h3 => ?_)
       · refine x1 rfl (cT rfl (sO (x1 rfl ?_)))
         exact ExM.ret ⟨_, ⟨false, rfl, fun h => by cases h⟩, A4 trivial rfl rfl rfl⟩
       · have hb2 := h3
         rw [bFn] at hb2
         refine x1 rfl (cF rfl (kM (oM (m2 rfl rfl (mI ((i + n : Nat)) rfl (x1 rfl ?_))))))
         exact ⟨i + n, ⟨by omega, fun h => hT (.step ((hsg.resolve_left hn0).undrop hi) (by simp only [bt]; omega) (by simp only [bt]; omega) h)⟩, by omega, Ae 0 rfl (Nat.le_refl _) rfl rfl (fS (fI fzN))⟩
 · refine sq (sO (m3 rfl rfl rfl (mF rfl (mn (cF rfl ?_)))))
   refine ExM.exit ?_
   refine sO (x1 rfl ?_)
   refine ExM.ret ?_
   have hil : i = s.length := by omega
   subst hil
   exact ⟨_, ⟨true, rfl, fun _ => hT .done⟩, A4 trivial rfl rfl rfl⟩
theorem Vd (hg : hGr W0 G) {s : Bz} (hs : s.length ≤ 100000) : Aj Tryz.prog W0 83 [.str s] (fun v => ∃ b, v = .bool b ∧ (b = true → Txt s 0)) := by
 refine Aj.of_fnM KG92 (by simp) rfl ?_
 refine sO (x1 rfl (sO (m2 rfl rfl ?_)))
 refine mB hg gN rfl rfl trivial (fun h1 => ?_) (fun h1 => ?_)
 · refine m2 rfl rfl ?_
   refine Bd hg (gS rfl) rfl rfl rfl (isTextE hg hs) ?_ ?_
   · rintro _ ⟨b, rfl, hb⟩; rfl
   rintro _ ⟨b, rfl, hb⟩
   refine x2 rfl rfl ?_
   exact ExM.ret ⟨_, ⟨_, rfl, hb⟩, A4 trivial rfl rfl rfl⟩
 · refine mV rfl (mG (mG (x2 rfl rfl ?_)))
   exact ExM.ret ⟨_, ⟨_, rfl, fun h => by cases h⟩, A4 trivial rfl rfl rfl⟩
theorem textOfE (hg : hGr W0 G) {s : Bz} (hs : s.length ≤ 150000000000000) : Aj Tryz.prog W0 37 [.str s] (fun v => ∃ t, v = .str t ∧ t.length ≤ 40) := by
 refine Aj.of_fnM KG56 (by simp) rfl ?_
 refine sO (x1 rfl (sO (x1 rfl (sq (sO (x1 rfl (bM ?_)))))))
 refine ExM.loop (σ := Nat × Bz) (fun σ => ⟨.al [(0, .str s), (3, .str σ.2), (4, .int .i64 (σ.1 : Nat))], [], 47⟩) (fun σ => σ.1 ≤ s.length ∧ σ.2.length ≤ 40) (fun σ => s.length - σ.1) (0, []) (Ae 0 rfl (Nat.le_refl _) rfl rfl (fS (fS (fI fzN)))) ⟨Nat.zero_le _, by simp⟩ ?_
 rintro ⟨i, t⟩ ⟨hi, ht⟩
 simp only at hi ht ⊢
 by_cases hin : i < s.length
 · by_cases ht37 : t.length < 37
   · refine sq (sO (m3 rfl rfl rfl (mT rfl (m3 rfl rfl rfl (mT rfl (x1 rfl (cT rfl (kM (bM (sO (m2 rfl rfl (mS (v := .str (s.drop i)) rfl ?_))))))))))))
     refine Bd hg gN rfl rfl rfl (signE hg (s := s.drop i) (by rw [List.length_drop]; omega)) ?_ ?_
     · rintro _ ⟨n, rfl, hn, hn4, hsg⟩; rfl
     rintro _ ⟨n, rfl, hn, hn4, hsg⟩
     rw [List.length_drop] at hn
     refine x1 rfl (sq (sO (mV rfl ?_)))
     refine mB hg gN rfl rfl trivial (fun h1 => ?_) (fun h1 => ?_)
     · refine mV rfl (mG (mG (mG (mG (m2 rfl rfl (mG (mG (mG (mG (x1 rfl (cT rfl (sO (mV rfl (mI ((i + 1 : Nat)) rfl (x1 rfl ?_)))))))))))))))
       refine ExM.exit ?_
       first | exact ⟨(i + 1, t), ⟨by simp only; omega, by simp only; omega⟩, by simp only; omega, Ae 0 rfl (Nat.le_refl _) rfl rfl (fS (fS (fI fzN)))⟩ | exact ⟨(i + n, t ++ (s.take (i + n)).drop i), ⟨by simp only; omega, by simp only [lAp, List.length_drop, List.length_take]; omega⟩, by simp only; omega, Ae 0 rfl (Nat.le_refl _) rfl rfl (fS (fS (fI fzN)))⟩
     · have hn0 : n ≠ 0 := by rw [bFn] at h1; omega
       refine m3 rfl rfl rfl (mS (v := .int .u8 ((s.getD i 0).toNat : Nat)) (E3 rfl rfl) ?_)
       refine mB hg (gS rfl) rfl rfl trivial (fun h2 => ?_) (fun h2 => ?_)
       · refine m2 rfl rfl (mG (mG (mG (mG (x1 rfl (cT rfl (sO (mV rfl (mI ((i + 1 : Nat)) rfl (x1 rfl ?_))))))))))
         refine ExM.exit ?_
         first | exact ⟨(i + 1, t), ⟨by simp only; omega, by simp only; omega⟩, by simp only; omega, Ae 0 rfl (Nat.le_refl _) rfl rfl (fS (fS (fI fzN)))⟩ | exact ⟨(i + n, t ++ (s.take (i + n)).drop i), ⟨by simp only; omega, by simp only [lAp, List.length_drop, List.length_take]; omega⟩, by simp only; omega, Ae 0 rfl (Nat.le_refl _) rfl rfl (fS (fS (fI fzN)))⟩
       · refine m4 rfl rfl rfl rfl (mS (v := .int .u8 ((s.getD i 0).toNat : Nat)) (E3 rfl rfl) ?_)
         refine mB hg (gS rfl) rfl rfl trivial (fun h3 => ?_) (fun h3 => ?_)
         · refine x1 rfl (cT rfl (sO (mV rfl (mI ((i + 1 : Nat)) rfl (x1 rfl ?_)))))
           refine ExM.exit ?_
           first | exact ⟨(i + 1, t), ⟨by simp only; omega, by simp only; omega⟩, by simp only; omega, Ae 0 rfl (Nat.le_refl _) rfl rfl (fS (fS (fI fzN)))⟩ | exact ⟨(i + n, t ++ (s.take (i + n)).drop i), ⟨by simp only; omega, by simp only [lAp, List.length_drop, List.length_take]; omega⟩, by simp only; omega, Ae 0 rfl (Nat.le_refl _) rfl rfl (fS (fS (fI fzN)))⟩
         · refine x1 rfl (cF rfl (kM (sO (mV rfl (m4 rfl rfl rfl rfl (mI ((i + n : Nat)) rfl (mS (v := .str ((s.take (i + n)).drop i)) rfl (Ag hg gN rfl rfl (by simp only [Af, and_true, List.length_drop, List.length_take]; omega) (x1 rfl (oM (m2 rfl rfl (mI ((i + n : Nat)) rfl (x1 rfl ?_)))))))))))))
           first | exact ⟨(i + 1, t), ⟨by simp only; omega, by simp only; omega⟩, by simp only; omega, Ae 0 rfl (Nat.le_refl _) rfl rfl (fS (fS (fI fzN)))⟩ | exact ⟨(i + n, t ++ (s.take (i + n)).drop i), ⟨by simp only; omega, by simp only [lAp, List.length_drop, List.length_take]; omega⟩, by simp only; omega, Ae 0 rfl (Nat.le_refl _) rfl rfl (fS (fS (fI fzN)))⟩
   · refine sq (sO (m3 rfl rfl rfl (mT rfl (m3 rfl rfl rfl (mF rfl (x1 rfl (cF rfl ?_)))))))
     refine ExM.exit ?_
     refine sO (x2 rfl rfl ?_)
     exact ExM.ret ⟨_, ⟨t, rfl, ht⟩, A4 trivial rfl rfl rfl⟩
 · refine sq (sO (m3 rfl rfl rfl (mF rfl (mV rfl (mG (mG (mG (x1 rfl (cF rfl ?_)))))))))
   refine ExM.exit ?_
   refine sO (x2 rfl rfl ?_)
   exact ExM.ret ⟨_, ⟨t, rfl, ht⟩, A4 trivial rfl rfl rfl⟩
def u8s (l : List Nat) : List AVal := l.map fun (d : Nat) => .int .u8 d
theorem S0 (l : List Nat) : (u8s l).length = l.length := by simp [u8s]
theorem A2p {l : List Nat} {i : Nat} (h : i < l.length) : (u8s l).drop i = .int .u8 (l.getD i 0 : Nat) :: (u8s l).drop (i + 1) := by
 rw [u8s, ← List.map_drop, ← List.map_drop, Ql h]; rfl
theorem Qx {s : St} {x i : AOpd} {id T m : Nat} {c : Option Nat} {cs : List AVal} {n : Nat} (hx : ev G s x = some (.hsl 1 id 0 m c)) (hi : ev G s i = some (.int .i64 (n : Nat))) (ho : s.H[id]? = some (.cells T cs false)) : aop G s (.idxSl 1 x i) = some (.val (.ptr id n) s.H [(0, (n : Nat)), ((n : Nat) + 1, (m : Nat))]) := by
 have hl : Gv s.H id = true := by simp only [Gv, ho]
 simp only [aop, hx, hi, Int.toNat_natCast, hl, Nat.beq_refl, Bool.and_self, cond_true, Nat.mul_one, Nat.zero_add]
theorem Nl {s : St} {a : AOpd} {id T : Nat} {l : List Nat} {n : Nat} (ha : ev G s a = some (.ptr id n)) (ho : s.H[id]? = some (.cells T (u8s l) false)) (hn : n < l.length) : aop G s (.load 1 false a) = some (.val (.int .u8 (l.getD n 0 : Nat)) s.H []) := by
 simp only [aop, ha, Hy, ho, Bg, A2p hn]
 rfl
theorem u8s_set {l : List Nat} {n x : Nat} (h : n < l.length) : spl (u8s l) n [.int .u8 (x : Nat)] = u8s (l.set n x) := by
 rw [spl, u8s, ← List.map_take, List.length_singleton, ← List.map_drop, u8s, List.set_eq_take_append_cons_drop, if_pos h, List.map_append, List.map_cons]
 rfl
theorem A1w {s : St} {a x : AOpd} {id T : Nat} {l : List Nat} {n v : Nat} {H' : Hz} (ha : ev G s a = some (.ptr id n)) (hx : ev G s x = some (.int .u8 (v : Nat))) (ho : s.H[id]? = some (.cells T (u8s l) false)) (hn : n < l.length) (hH : s.H.set id (.cells T (u8s (l.set n v)) false) = H') : aop G s (.store 1 a x) = some (.skip H') := by
 subst hH
 have h1 : Nat.ble (n + 1) (u8s l).length = true := by rw [S0]; exact Nat.ble_eq_true_of_le hn
 have h2 : (Nat.beq [AVal.int .u8 (v : Nat)].length 1 && Nat.ble (n + 1) (u8s l).length && [AVal.int .u8 (v : Nat)].all AVal.one) = true := by rw [h1]; rfl
 simp only [aop, ha, hx, Lu, ho]
 show (match (cond (Nat.beq [AVal.int .u8 (v : Nat)].length 1 && Nat.ble (n + 1) (u8s l).length && [AVal.int .u8 (v : Nat)].all AVal.one) (some (s.H.set id (.cells T (spl (u8s l) n [.int .u8 (v : Nat)]) false))) none) with | some H' => some (ARes.skip H') | none => none) = _
 rw [h2, u8s_set hn]
 rfl
theorem bytesU (l : List Nat) : G1 (u8s l) = some (l.map UInt8.ofNat) := by
 induction l with
 | nil => rfl
 | cons d l ih =>
   show (match G1 (u8s l) with | some l' => some (UInt8.ofNat (((d : Nat) : Int)).toNat :: l') | none => none) = _
   rw [ih]; rfl
theorem b2sB {s : St} {x : AOpd} {id T m : Nat} {c : Option Nat} {l : List Nat} (hx : ev G s x = some (.hsl 1 id 0 m c)) (ho : s.H[id]? = some (.cells T (u8s l) false)) (hm : m = l.length) : aop G s (.conv .b2s x) = some (.val (.str (l.map UInt8.ofNat)) s.H []) := by
 subst hm
 have h1 : ((u8s l).drop 0).take (l.length * 1) = u8s l := by rw [List.drop_zero, Nat.mul_one, List.take_of_length_le (by rw [S0]; exact Nat.le_refl _)]
 simp only [aop, hx, Lt, ab2s, Dq, Nat.beq_refl, cond_true, ho, h1, bytesU]
 rfl
theorem s2bB (s : Bz) : (s.map fun b => AVal.int .u8 (b.toNat : Nat)) = u8s (s.map UInt8.toNat) := by rw [u8s, List.map_map]; rfl
theorem L1 {k T : Nat} (l : List Nat) : B2 k [.cells T (u8s l) false] = true := by
 have : A8 k (u8s l) = true := by
  induction l with
  | nil => rfl
  | cons d l ih => exact ih
 show cond (A8 k (u8s l)) true false = true
 rw [this]; rfl
theorem foldE (hg : hGr W0 G) {s : Bz} (hs : s.length ≤ 100000) : Aj Tryz.prog W0 80 [.str s] (fun v => ∃ t, v = .str t) := by
 refine Aj.of_fnM KG89 (by simp) rfl ?_
 refine sO (x1 rfl (sO (mV rfl (mV (v := .hsl 1 0 0 s.length none) rfl (x1 rfl (sq (sO (x1 rfl (bM ?_)))))))))
 refine ExM.loop (σ := Nat × List Nat) (fun σ => ⟨.al [(3, .hsl 1 0 0 s.length none), (4, .int .i64 (σ.1 : Nat))], [.cells 5 (u8s σ.2) false], 35⟩) (fun σ => σ.1 ≤ s.length ∧ σ.2.length = s.length) (fun σ => s.length - σ.1) (0, s.map UInt8.toNat) (Ae 1 rfl (Nat.zero_le _) (by rw [← s2bB]; rfl) (L1 _) (fzC rfl (fvH rfl) (fI fzN))) ⟨Nat.zero_le _, by simp⟩ ?_
 rintro ⟨i, l⟩ ⟨hi, hl⟩
 simp only at hi hl ⊢
 by_cases hin : i < s.length
 · by_cases h65 : 65 ≤ l.getD i 0
   · by_cases h90 : l.getD i 0 ≤ 90
     · refine sq (sO (m3 rfl rfl rfl (mT rfl (mn (cT rfl (kM (sq (bM (sO (m2 rfl rfl (mS (v := .ptr 0 i) (Qx rfl rfl rfl) (mV (v := .int .u8 (l.getD i 0 : Nat)) (Nl rfl rfl (by omega)) (mT rfl (m3 rfl rfl rfl (mS (v := .ptr 0 i) (Qx rfl rfl rfl) (mV (v := .int .u8 (l.getD i 0 : Nat)) (Nl rfl rfl (by omega)) (mT rfl (x1 rfl (cT rfl (oM (m4 rfl rfl rfl rfl (mS (v := .ptr 0 i) (Qx rfl rfl rfl) (mV (v := .int .u8 (l.getD i 0 : Nat)) (Nl rfl rfl (by omega)) (mKs (v := .int .u8 ((l.getD i 0 + 32 : Nat))) rfl (w8E (by omega) (by omega) (by omega)) (mS (v := .ptr 0 i) (Qx rfl rfl rfl) (A6 hg gN (A1w rfl rfl rfl (by omega) rfl) (mn (oM (mV rfl (mI ((i + 1 : Nat)) rfl (x1 rfl ?_)))))))))))))))))))))))))))))))
       exact ⟨(i + 1, l.set i (l.getD i 0 + 32)), ⟨by simp only; omega, by simp only [List.length_set]; exact hl⟩, by simp only; omega, Ae 1 rfl (Nat.zero_le _) rfl (L1 _) (fzC rfl (fvH rfl) (fI fzN))⟩
     · refine sq (sO (m3 rfl rfl rfl (mT rfl (mn (cT rfl (kM (sq (bM (sO (m2 rfl rfl (mS (v := .ptr 0 i) (Qx rfl rfl rfl) (mV (v := .int .u8 (l.getD i 0 : Nat)) (Nl rfl rfl (by omega)) (mT rfl (m3 rfl rfl rfl (mS (v := .ptr 0 i) (Qx rfl rfl rfl) (mV (v := .int .u8 (l.getD i 0 : Nat)) (Nl rfl rfl (by omega)) (mF rfl (x1 rfl (cF rfl (kM (oM (mV rfl (mI ((i + 1 : Nat)) rfl (x1 rfl ?_))))))))))))))))))))))))
       exact ⟨(i + 1, l), ⟨by simp only; omega, hl⟩, by simp only; omega, Ae 1 rfl (Nat.zero_le _) rfl (L1 _) (fzC rfl (fvH rfl) (fI fzN))⟩
   · refine sq (sO (m3 rfl rfl rfl (mT rfl (mn (cT rfl (kM (sq (bM (sO (m2 rfl rfl (mS (v := .ptr 0 i) (Qx rfl rfl rfl) (mV (v := .int .u8 (l.getD i 0 : Nat)) (Nl rfl rfl (by omega)) (mF rfl (mV rfl (mG (mG (mG (mG (mG (x1 rfl (cF rfl (kM (oM (mV rfl (mI ((i + 1 : Nat)) rfl (x1 rfl ?_))))))))))))))))))))))))))
     exact ⟨(i + 1, l), ⟨by simp only; omega, hl⟩, by simp only; omega, Ae 1 rfl (Nat.zero_le _) rfl (L1 _) (fzC rfl (fvH rfl) (fI fzN))⟩
 · refine sq (sO (m3 rfl rfl rfl (mF rfl (mn (cF rfl ?_)))))
   refine ExM.exit ?_
   refine sO (mV rfl (mV (v := .str (l.map UInt8.ofNat)) (b2sB rfl rfl hl.symm) (x1 rfl ?_)))
   exact ExM.ret ⟨_, ⟨_, rfl⟩, A0 trivial rfl rfl 100 rfl rfl⟩
end Go.Abs
namespace Go.Abs
open Go.Proofs Go.RowKit
set_option maxRecDepth 100000
variable {W0 : World} {G : List (Nat × AVal)}
set_option maxRecDepth 10000000
theorem bareK1 (hk : Kn W0) {a1 a2 : Int}  : cP W0 78 [.agg [.int .i64 1, .int .i64 a1, .int .i64 a2, .str [], .bool false, .int .i64 0, .int .i64 0, .int .i64 0, .nilSl, .int .i64 0, .nilSl, .nilSl], .int .i64 1] [] (.bool true) [] :=
 Dm (Fq hk Lo) (show Es Tryz.prog GL Gk Lo G0 libTab 1000 60 78 [.agg [.int .i64 1, .int .i64 a1, .int .i64 a2, .str [], .bool false, .int .i64 0, .int .i64 0, .int .i64 0, .nilSl, .int .i64 0, .nilSl, .nilSl], .int .i64 1] [] (ss0 17 [] 0 [] [] []) = some (.bool true, [], SS.mk 0 [] 0 [] [] [] []) by kernel_rfl) (gdN)
theorem bareK2 (hk : Kn W0) {s1 : Bz}  : cP W0 78 [.agg [.int .i64 2, .int .i64 0, .int .i64 0, .str s1, .bool false, .int .i64 0, .int .i64 0, .int .i64 0, .nilSl, .int .i64 0, .nilSl, .nilSl], .int .i64 2] [] (.bool true) [] :=
 Dm (Fq hk Lo) (show Es Tryz.prog GL Gk Lo G0 libTab 1000 60 78 [.agg [.int .i64 2, .int .i64 0, .int .i64 0, .str s1, .bool false, .int .i64 0, .int .i64 0, .int .i64 0, .nilSl, .int .i64 0, .nilSl, .nilSl], .int .i64 2] [] (ss0 17 [] 0 [] [] []) = some (.bool true, [], SS.mk 0 [] 0 [] [] [] []) by kernel_rfl) (gdN)
theorem sameK0 (hk : Kn W0) {s1 s2 : Bz} {a1 a2 a3 : Int} {bR : Bool}  : cP W0 31 [.agg [.int .i64 0, .int .i64 a1, .int .i64 a2, .str s2, .bool bR, .int .i64 a3, .int .i64 0, .int .i64 0, .nilSl, .int .i64 0, .nilSl, .nilSl], .agg [.int .i64 2, .int .i64 0, .int .i64 0, .str s1, .bool false, .int .i64 0, .int .i64 0, .int .i64 0, .nilSl, .int .i64 0, .nilSl, .nilSl]] [] (.bool false) [] :=
 Dm (Fq hk Lo) (show Es Tryz.prog GL Gk Lo G0 libTab 1000 60 31 [.agg [.int .i64 0, .int .i64 a1, .int .i64 a2, .str s2, .bool bR, .int .i64 a3, .int .i64 0, .int .i64 0, .nilSl, .int .i64 0, .nilSl, .nilSl], .agg [.int .i64 2, .int .i64 0, .int .i64 0, .str s1, .bool false, .int .i64 0, .int .i64 0, .int .i64 0, .nilSl, .int .i64 0, .nilSl, .nilSl]] [] (ss0 1 [] 0 [] [] []) = some (.bool false, [], SS.mk 0 [] 0 [] [] [] []) by kernel_rfl) (gdN)
theorem sameK1 (hk : Kn W0) {s1 s2 : Bz} {a1 a2 a3 : Int} {bR : Bool}  : cP W0 31 [.agg [.int .i64 1, .int .i64 a1, .int .i64 a2, .str s2, .bool bR, .int .i64 a3, .int .i64 0, .int .i64 0, .nilSl, .int .i64 0, .nilSl, .nilSl], .agg [.int .i64 2, .int .i64 0, .int .i64 0, .str s1, .bool false, .int .i64 0, .int .i64 0, .int .i64 0, .nilSl, .int .i64 0, .nilSl, .nilSl]] [] (.bool false) [] :=
 Dm (Fq hk Lo) (show Es Tryz.prog GL Gk Lo G0 libTab 1000 60 31 [.agg [.int .i64 1, .int .i64 a1, .int .i64 a2, .str s2, .bool bR, .int .i64 a3, .int .i64 0, .int .i64 0, .nilSl, .int .i64 0, .nilSl, .nilSl], .agg [.int .i64 2, .int .i64 0, .int .i64 0, .str s1, .bool false, .int .i64 0, .int .i64 0, .int .i64 0, .nilSl, .int .i64 0, .nilSl, .nilSl]] [] (ss0 1 [] 0 [] [] []) = some (.bool false, [], SS.mk 0 [] 0 [] [] [] []) by kernel_rfl) (gdN)
theorem sameK3 (hk : Kn W0) {s1 s2 : Bz} {a1 a2 a3 : Int} {bR : Bool}  : cP W0 31 [.agg [.int .i64 3, .int .i64 a1, .int .i64 a2, .str s2, .bool bR, .int .i64 a3, .int .i64 0, .int .i64 0, .nilSl, .int .i64 0, .nilSl, .nilSl], .agg [.int .i64 2, .int .i64 0, .int .i64 0, .str s1, .bool false, .int .i64 0, .int .i64 0, .int .i64 0, .nilSl, .int .i64 0, .nilSl, .nilSl]] [] (.bool false) [] :=
 Dm (Fq hk Lo) (show Es Tryz.prog GL Gk Lo G0 libTab 1000 60 31 [.agg [.int .i64 3, .int .i64 a1, .int .i64 a2, .str s2, .bool bR, .int .i64 a3, .int .i64 0, .int .i64 0, .nilSl, .int .i64 0, .nilSl, .nilSl], .agg [.int .i64 2, .int .i64 0, .int .i64 0, .str s1, .bool false, .int .i64 0, .int .i64 0, .int .i64 0, .nilSl, .int .i64 0, .nilSl, .nilSl]] [] (ss0 1 [] 0 [] [] []) = some (.bool false, [], SS.mk 0 [] 0 [] [] [] []) by kernel_rfl) (gdN)
theorem sameK4 (hk : Kn W0) {s1 s2 : Bz} {a1 a2 a3 : Int} {bR : Bool}  : cP W0 31 [.agg [.int .i64 4, .int .i64 a1, .int .i64 a2, .str s2, .bool bR, .int .i64 a3, .int .i64 0, .int .i64 0, .nilSl, .int .i64 0, .nilSl, .nilSl], .agg [.int .i64 2, .int .i64 0, .int .i64 0, .str s1, .bool false, .int .i64 0, .int .i64 0, .int .i64 0, .nilSl, .int .i64 0, .nilSl, .nilSl]] [] (.bool false) [] :=
 Dm (Fq hk Lo) (show Es Tryz.prog GL Gk Lo G0 libTab 1000 60 31 [.agg [.int .i64 4, .int .i64 a1, .int .i64 a2, .str s2, .bool bR, .int .i64 a3, .int .i64 0, .int .i64 0, .nilSl, .int .i64 0, .nilSl, .nilSl], .agg [.int .i64 2, .int .i64 0, .int .i64 0, .str s1, .bool false, .int .i64 0, .int .i64 0, .int .i64 0, .nilSl, .int .i64 0, .nilSl, .nilSl]] [] (ss0 1 [] 0 [] [] []) = some (.bool false, [], SS.mk 0 [] 0 [] [] [] []) by kernel_rfl) (gdN)
theorem sameK2 (hk : Kn W0) {s1 : Bz}  : cP W0 31 [.agg [.int .i64 2, .int .i64 0, .int .i64 0, .str s1, .bool false, .int .i64 0, .int .i64 0, .int .i64 0, .nilSl, .int .i64 0, .nilSl, .nilSl], .agg [.int .i64 2, .int .i64 0, .int .i64 0, .str s1, .bool false, .int .i64 0, .int .i64 0, .int .i64 0, .nilSl, .int .i64 0, .nilSl, .nilSl]] [] (.bool true) [] :=
 Dm (Fq hk Lo) (show Es Tryz.prog GL Gk Lo G0 libTab 1000 60 31 [.agg [.int .i64 2, .int .i64 0, .int .i64 0, .str s1, .bool false, .int .i64 0, .int .i64 0, .int .i64 0, .nilSl, .int .i64 0, .nilSl, .nilSl], .agg [.int .i64 2, .int .i64 0, .int .i64 0, .str s1, .bool false, .int .i64 0, .int .i64 0, .int .i64 0, .nilSl, .int .i64 0, .nilSl, .nilSl]] [] (ss0 2 [(false, 11)] 0 [] [] []) = some (.bool true, [], SS.mk 0 [] 0 [] [] [] [.eq (X2 .neq (.str s1) (.str s1)) false]) by kernel_rfl) (gdC (obE (by simp [X2, Ws, Yp])) (gdN))
theorem sameK5 (hk : Kn W0) {s1 s2 : Bz}  (hs : ¬ s2 = s1) : cP W0 31 [.agg [.int .i64 2, .int .i64 0, .int .i64 0, .str s2, .bool false, .int .i64 0, .int .i64 0, .int .i64 0, .nilSl, .int .i64 0, .nilSl, .nilSl], .agg [.int .i64 2, .int .i64 0, .int .i64 0, .str s1, .bool false, .int .i64 0, .int .i64 0, .int .i64 0, .nilSl, .int .i64 0, .nilSl, .nilSl]] [] (.bool false) [] :=
 Dm (Fq hk Lo) (show Es Tryz.prog GL Gk Lo G0 libTab 1000 60 31 [.agg [.int .i64 2, .int .i64 0, .int .i64 0, .str s2, .bool false, .int .i64 0, .int .i64 0, .int .i64 0, .nilSl, .int .i64 0, .nilSl, .nilSl], .agg [.int .i64 2, .int .i64 0, .int .i64 0, .str s1, .bool false, .int .i64 0, .int .i64 0, .int .i64 0, .nilSl, .int .i64 0, .nilSl, .nilSl]] [] (ss0 2 [(true, 0)] 0 [] [] []) = some (.bool false, [], SS.mk 0 [] 0 [] [] [] [.eq (X2 .neq (.str s2) (.str s1)) true]) by kernel_rfl) (gdC (obE (by simp [X2, Ws, Yp]; exact hs)) (gdN))
def lit (t : Bz) : Prop := Sj t ∧ t.length ≤ 200 ∧ Txt (Lib.trimPrefix t [39]) 0
theorem tr39 (t : Bz) : Lib.trimPrefix t [39] = t ∨ (∃ r, t = 39 :: r ∧ Lib.trimPrefix t [39] = r) := by
 cases t with
 | nil => exact .inl rfl
 | cons c r =>
   by_cases h : c = 39
   · subst h; exact .inr ⟨r, rfl, by simp [Lib.trimPrefix, Lib.hasPrefix]⟩
   · refine .inl ?_
     have : Lib.hasPrefix (c :: r) [39] = false := by simp [Lib.hasPrefix, List.isPrefixOf]; exact fun e => h e.symm
     simp [Lib.trimPrefix, this]
theorem bt_mem {s : Bz} {i : Nat} (h : i < s.length) : ∃ b ∈ s, bt s i = b.toNat := by
 refine ⟨s[i], List.getElem_mem h, ?_⟩
 simp [bt, List.getD_eq_getElem?_getD, gGe h]
theorem Td {s : Bz} (h : ∀ b ∈ s, 32 ≤ b.toNat ∧ b.toNat < 127) : Txt s 0 :=
 Txt.plain (fun i hi => by obtain ⟨b, hb, e⟩ := bt_mem hi; rw [e]; exact h b hb) s.length 0 (by omega)
theorem A1k {t : Bz} (h1 : Sj t) (h2 : t.length ≤ 200) (h3 : ∀ b ∈ t, 32 ≤ b.toNat ∧ b.toNat < 127) : lit t := by
 refine ⟨h1, h2, ?_⟩
 rcases tr39 t with h | ⟨r, rfl, h⟩
 · rw [h]; exact Td h3
 · rw [h]; exact Td fun b hb => h3 b (List.mem_cons_of_mem _ hb)
theorem lit_pl {t : Bz} (h : pl t) (hl : t.length ≤ 90) : lit t := A1k (pl_hd h) (by omega) fun b hb => by have := h b hb; omega
theorem G3 {t : Bz} (h1 : Sj t) (h2 : (Nat.ble t.length 200 && t.all fun b => Nat.ble 32 b.toNat && Nat.blt b.toNat 127) = true) : lit t := by
 rw [bAt, Nat.ble_eq, lAt] at h2
 exact A1k h1 h2.1 fun b hb => by have := h2.2 b hb; rw [bAt, Nat.ble_eq, Nat.blt_eq] at this; exact this
theorem Ze {s : Bz} (h : Txt s 0) (hl : s.length ≤ 40) : lit (39 :: s) := by
 refine ⟨B7 (by decide), by simp only [lCo]; omega, ?_⟩
 rcases tr39 (39 :: s) with h' | ⟨r, e, h'⟩
 · exact absurd h' (by simp [Lib.trimPrefix, Lib.hasPrefix])
 · cases e; rw [h']; exact h
theorem A0d {s : Bz} (h1 : Sj s) (h : Txt s 0) (hl : s.length ≤ 40) : lit s := by
 refine ⟨h1, by omega, ?_⟩
 rcases tr39 s with h' | ⟨r, rfl, h'⟩
 · rw [h']; exact h
 · rw [h']
   cases h with
   | @step _ n q1 _ _ q4 =>
     have : n = 1 := by
      obtain ⟨_, q⟩ := q1
      have hb : bt (39 :: r) 0 = 39 := rfl
      rw [hb] at q
      omega
     subst this
     exact q4.shift (j := 1) 0 rfl
theorem sameE (hk : Kn W0) {k m e er : Int} {t s : Bz} {b : Bool} (h : k = 0 ∨ k = 1 ∨ k = 3 ∨ k = 4 ∨ (k = 2 ∧ m = 0 ∧ e = 0 ∧ b = false ∧ er = 0)) : Aj Tryz.prog W0 31 [Cd k m e t b er, Cd 2 0 0 s false 0] (fun v => ∃ c, v = .bool c) := by
 rcases h with rfl | rfl | rfl | rfl | ⟨rfl, rfl, rfl, rfl, rfl⟩
 · exact (Aj.of (sameK0 hk)).mono fun v hv => ⟨_, hv⟩
 · exact (Aj.of (sameK1 hk)).mono fun v hv => ⟨_, hv⟩
 · exact (Aj.of (sameK3 hk)).mono fun v hv => ⟨_, hv⟩
 · exact (Aj.of (sameK4 hk)).mono fun v hv => ⟨_, hv⟩
 · by_cases hs : t = s
   · subst hs; exact (Aj.of (sameK2 hk)).mono fun v hv => ⟨_, hv⟩
   · exact (Aj.of (sameK5 hk hs)).mono fun v hv => ⟨_, hv⟩
def KF49 : AFn := ⟨(sQ [wV 2 (.alloc 62 z1L), wV 3 (.move (vI 0))] (.seq (sQ [wM 9 0, wV 10 (.len true 9), wV 11 (.bin .eql none 10 (vI 0))] (.cond 11 (sQ [wV 12 (.build z1L []), wN (.store 12 2 12), wV 3 (.move (vI 0))] .ret) .skip)) (.seq (sQ [wM 13 0, wV 14 (.idxStr 13 (vI 0)), wV 15 (.bin .eql none 14 (.val (.int .u8 61)))] (.cond 15 (sQ [wV 16 (.build z1L []), wN (.store 12 2 16), wV 3 (.move (vI 30))] .ret) .skip)) (sQ [wM 18 0, wV 19 (kF 79 [18]), wM 17 19, wV 20 (.extract 17 0), wV 21 (.extract 17 1), wV 4 (.alloc 24 z2L), wN (.store 2 4 20), wM 5 21] (.seq (sQ [wM 22 5, wV 23 (.bin .eql none 22 (vI 0))] (.cond 23 (sQ [wV 24 (.load 2 true 4), wV 25 (.build z1L [(0, 1, (vI 1)), (1, 2, 24)]), wN (.store 12 2 25), wV 3 (.move (vI 0))] .ret) .skip)) (sQ [wM 26 0, wV 27 (kF 80 [26]), wM 6 27] (.seq (sQ [wM 28 6, wV 29 (.bin .eql none 28 (.val (.str [116, 114, 117, 101]))), wM 30 29, wF 31 30 (.move 6), wF 32 30 (.bin .eql none 31 (.val (.str [102, 97, 108, 115, 101]))), wV 33 (.pick 30 (.val (.bool true)) 32)] (.cond 33 (sQ [wM 34 6, wV 35 (.bin .eql none 34 (.val (.str [116, 114, 117, 101]))), wV 36 (.build z1L [(0, 1, (vI 3)), (4, 1, 35)]), wN (.store 12 2 36), wV 3 (.move (vI 0))] .ret) .skip)) (.seq (sQ [wV 7 (.move (vI 1))] (.block 0 (.loop (.seq (sQ [wM 37 7, wV 38 (.bin .leq none 37 (vI 9))] (.cond 38 .skip (.exit 0))) (.seq (.block 1 (sQ [wM 41 6, wM 42 7, wV 43 (kF 81 [42]), wV 44 (kF 80 [43]), wV 45 (.bin .eql none 41 44)] (.cond 45 (sQ [wM 46 7, wV 47 (kF 82 [46]), wN (.store 12 2 47), wV 3 (.move (vI 0))] .ret) .skip))) (.ops [wM 39 7, wV 40 (.bin .add none 39 (vI 1)), wM 7 40])))))) (sQ [wM 48 0, wM 8 48] (.seq (sQ [wM 49 0, wV 50 (.idxStr 49 (vI 0)), wV 51 (.bin .eql none 50 (.val (.int .u8 39)))] (.cond 51 (.ops [wM 52 0, wV 53 (.cutStr 52 (some (vI 1)) none), wM 8 53]) .skip)) (.seq (sQ [wM 54 8, wV 55 (kF 83 [54]), wV 56 (.un .not 55)] (.cond 56 (sQ [wV 57 (.build z1L []), wN (.store 12 2 57), wV 3 (.move (vI 30))] .ret) .skip)) (sQ [wM 58 8, wV 59 (.build z1L [(0, 1, (vI 2)), (3, 1, 58)]), wN (.store 12 2 59), wV 3 (.move (vI 0))] .ret)))))))))))), [.cell 2 12 true, 3], 60⟩
theorem KG49 : Ab Tryz.prog 30 = some KF49 := by kernel_rfl
def KF86 : AFn := ⟨(sQ [wV 1 (.box 62 0), wV 2 (.move (.val (.bool false)))] (.seq (sQ [wV 3 (.load 12 true 1), wV 4 (.fieldAddr 0 1), wV 5 (.load 1 false 4), wV 6 (kF 78 [3, 5]), wV 7 (.un .not 6)] (.cond 7 (sQ [wV 2 (.move (.val (.bool false)))] .ret) .skip)) (.seq (sQ [wV 8 (.fieldAddr 0 1), wV 9 (.load 1 false 8)] (.block 0 (.seq (sQ [wV 11 (.bin .eql none 9 (vI 0)), wM 10 11] (.cond 10 .skip (.ops [wV 12 (.bin .eql none 9 (vI 3)), wM 10 12]))) (.cond 10 (sQ [wV 2 (.move (.val (.bool true)))] .ret) (sQ [wV 14 (.bin .eql none 9 (vI 1)), wM 13 14] (.cond 13 (sQ [wV 15 (.fieldAddr 1 1), wV 16 (.load 2 true 15), wV 17 (kF 91 [16]), wM 2 17] .ret) (sQ [wV 19 (.bin .eql none 9 (vI 2)), wM 18 19] (.cond 18 (sQ [wV 20 (.fieldAddr 3 1), wV 21 (.load 1 false 20), wV 22 (kF 83 [21]), wM 2 22] .ret) (sQ [wV 24 (.bin .eql none 9 (vI 4)), wM 23 24] (.cond 23 (sQ [wV 25 (.fieldAddr 5 1), wV 26 (.load 1 false 25), wV 27 (.bin .geq none 26 (vI 1)), wM 28 27, wT 29 28 (.fieldAddr 5 1), wT 30 28 (.load 1 false 29), wT 31 28 (.bin .leq none 30 (vI 9)), wV 32 (.pick 28 31 (.val (.bool false))), wM 2 32] .ret) .skip)))))))))) (sQ [wV 2 (.move (.val (.bool false)))] .ret)))), [2], 33⟩
theorem KG86 : Ab Tryz.prog 77 = some KF86 := by kernel_rfl
def KF48 : AFn := ⟨(sQ [wV 1 (.box 62 0), wV 2 (.move (.val (.bool false)))] (.seq (sQ [wV 6 (.fieldAddr 0 1), wV 7 (.load 1 false 6), wV 8 (.bin .lss none 7 (vI 5))] (.cond 8 (sQ [wV 9 (.load 12 true 1), wV 10 (kF 77 [9]), wM 2 10] .ret) .skip)) (.seq (sQ [wV 11 (.load 12 true 1), wV 12 (.fieldAddr 0 1), wV 13 (.load 1 false 12), wV 14 (kF 78 [11, 13]), wV 15 (.un .not 14)] (.cond 15 (sQ [wV 2 (.move (.val (.bool false)))] .ret) .skip)) (.seq (sQ [wV 16 (.fieldAddr 0 1), wV 17 (.load 1 false 16), wV 18 (.bin .eql none 17 (vI 5))] (.cond 18 (.seq (sQ [wV 19 (.fieldAddr 6 1), wV 20 (.load 1 false 19), wV 21 (.bin .lss none 20 (vI 1)), wM 22 21, wF 23 22 (.fieldAddr 7 1), wF 24 22 (.load 1 false 23), wF 25 22 (.bin .lss none 24 (vI 1)), wV 26 (.pick 22 (.val (.bool true)) 25), wM 27 26, wF 28 27 (.fieldAddr 6 1), wF 29 27 (.load 1 false 28), wF 30 27 (.bin .gtr none 29 (vI 400)), wV 31 (.pick 27 (.val (.bool true)) 30), wM 32 31, wF 33 32 (.fieldAddr 7 1), wF 34 32 (.load 1 false 33), wF 35 32 (.bin .gtr none 34 (vI 400)), wV 36 (.pick 32 (.val (.bool true)) 35), wM 37 36, wF 38 37 (.fieldAddr 6 1), wF 39 37 (.load 1 false 38), wF 40 37 (.fieldAddr 7 1), wF 41 37 (.load 1 false 40), wF 42 37 (.bin .mul none 39 41), wF 43 37 (.bin .gtr none 42 (vI 400)), wV 44 (.pick 37 (.val (.bool true)) 43), wM 45 44, wF 46 45 (.fieldAddr 8 1), wF 47 45 (.load 1 false 46), wF 48 45 (.len false 47), wF 49 45 (.fieldAddr 6 1), wF 50 45 (.load 1 false 49), wF 51 45 (.fieldAddr 7 1), wF 52 45 (.load 1 false 51), wF 53 45 (.bin .mul none 50 52), wF 54 45 (.bin .neq none 48 53), wV 55 (.pick 45 (.val (.bool true)) 54)] (.cond 55 (sQ [wV 2 (.move (.val (.bool false)))] .ret) .skip)) (.seq (sQ [wV 3 (.move (vI 0))] (.block 0 (.loop (.seq (sQ [wM 56 3, wV 57 (.fieldAddr 8 1), wV 58 (.load 1 false 57), wV 59 (.len false 58), wV 60 (.bin .lss none 56 59)] (.cond 60 .skip (.exit 0))) (.seq (.block 1 (sQ [wV 63 (.fieldAddr 8 1), wV 64 (.load 1 false 63), wM 65 3, wV 66 (.idxSl 12 64 65), wV 67 (.load 12 true 66), wV 68 (kF 77 [67]), wV 69 (.un .not 68)] (.cond 69 (sQ [wV 2 (.move (.val (.bool false)))] .ret) .skip))) (.ops [wM 61 3, wV 62 (.bin .add none 61 (vI 1)), wM 3 62])))))) (sQ [wV 2 (.move (.val (.bool true)))] .ret))) .skip)) (sQ [wV 70 (.fieldAddr 10 1), wV 71 (.fieldAddr 0 70), wV 72 (.load 1 false 71), wV 73 (.len false 72), wM 4 73] (.seq (sQ [wV 74 (.fieldAddr 0 1), wV 75 (.load 1 false 74), wV 76 (.bin .neq none 75 (vI 6)), wM 77 76, wF 78 77 (.move 4), wF 79 77 (.bin .lss none 78 (vI 1)), wV 80 (.pick 77 (.val (.bool true)) 79), wM 81 80, wF 82 81 (.move 4), wF 83 81 (.bin .gtr none 82 (vI 20)), wV 84 (.pick 81 (.val (.bool true)) 83), wM 85 84, wF 86 85 (.fieldAddr 10 1), wF 87 85 (.fieldAddr 1 86), wF 88 85 (.load 1 false 87), wF 89 85 (.len false 88), wF 90 85 (.move 4), wF 91 85 (.bin .neq none 89 90), wV 92 (.pick 85 (.val (.bool true)) 91), wM 93 92, wF 94 93 (.fieldAddr 9 1), wF 95 93 (.load 1 false 94), wF 96 93 (.bin .lss none 95 (vI 0)), wV 97 (.pick 93 (.val (.bool true)) 96), wM 98 97, wF 99 98 (.fieldAddr 9 1), wF 100 98 (.load 1 false 99), wF 101 98 (.move 4), wF 102 98 (.bin .geq none 100 101), wV 103 (.pick 98 (.val (.bool true)) 102), wM 104 103, wF 105 104 (.fieldAddr 8 1), wF 106 104 (.load 1 false 105), wF 107 104 (.len false 106), wF 108 104 (.bin .gtr none 107 (vI 40)), wV 109 (.pick 104 (.val (.bool true)) 108)] (.cond 109 (sQ [wV 2 (.move (.val (.bool false)))] .ret) .skip)) (.seq (sQ [wV 5 (.move (vI 0))] (.block 2 (.loop (.seq (sQ [wM 110 5, wV 111 (.fieldAddr 8 1), wV 112 (.load 1 false 111), wV 113 (.len false 112), wV 114 (.bin .lss none 110 113)] (.cond 114 .skip (.exit 2))) (.seq (.block 3 (sQ [wV 117 (.fieldAddr 8 1), wV 118 (.load 1 false 117), wM 119 5, wV 120 (.idxSl 12 118 119), wV 121 (.load 12 true 120), wV 122 (kF 29 [121]), wV 123 (.un .not 122)] (.cond 123 (sQ [wV 2 (.move (.val (.bool false)))] .ret) .skip))) (.ops [wM 115 5, wV 116 (.bin .add none 115 (vI 1)), wM 5 116])))))) (sQ [wV 2 (.move (.val (.bool true)))] .ret)))))))), [2], 124⟩
theorem KG48 : Ab Tryz.prog 29 = some KF48 := by kernel_rfl
def KF94 : AFn := ⟨(sQ [wV 1 (.box 62 0), wV 2 (.alloc 62 z1L)] (.seq (sQ [wV 5 (.fieldAddr 0 1), wV 6 (.load 1 false 5)] (.block 0 (sQ [wV 8 (.bin .eql none 6 (vI 0)), wM 7 8] (.cond 7 (sQ [wV 9 (.build z1L [(0, 1, (vI 2))]), wN (.store 12 2 9)] .ret) (sQ [wV 11 (.bin .eql none 6 (vI 1)), wM 10 11] (.cond 10 (sQ [wV 13 (.fieldAddr 1 1), wV 14 (.load 2 true 13), wV 15 (kF 131 [14]), wM 12 15, wV 16 (.extract 12 0), wV 17 (.extract 12 1), wM 3 16, wM 4 17] (sQ [wM 18 3, wV 19 (.build z1L [(0, 1, (vI 2)), (3, 1, 18)]), wN (.store 12 2 19)] .ret)) (sQ [wV 21 (.bin .eql none 6 (vI 3)), wM 20 21] (.cond 20 (.seq (sQ [wV 22 (.fieldAddr 4 1), wV 23 (.load 1 false 22)] (.cond 23 (sQ [wV 24 (.build z1L [(0, 1, (vI 2)), (3, 1, (.val (.str [84, 82, 85, 69])))]), wN (.store 12 2 24)] .ret) .skip)) (sQ [wV 25 (.build z1L [(0, 1, (vI 2)), (3, 1, (.val (.str [70, 65, 76, 83, 69])))]), wN (.store 12 2 25)] .ret)) .skip)))))))) (sQ [wV 26 (.load 12 true 1), wN (.store 12 2 26)] .ret))), [.cell 2 12 true], 27⟩
theorem KG94 : Ab Tryz.prog 85 = some KF94 := by kernel_rfl
def KF51 : AFn := ⟨(sQ [wV 1 (.box 62 0), wV 2 (.move (.val (.str [])))] (.seq (sQ [wV 3 (.fieldAddr 0 1), wV 4 (.load 1 false 3), wV 5 (.bin .eql none 4 (vI 4))] (.cond 5 (sQ [wV 6 (.fieldAddr 5 1), wV 7 (.load 1 false 6), wV 8 (kF 81 [7]), wM 2 8] .ret) .skip)) (sQ [wV 9 (.load 12 true 1), wV 10 (kF 85 [9]), wV 11 (.field 1 false 3 10), wM 2 11] .ret))), [2], 12⟩
theorem KG51 : Ab Tryz.prog 32 = some KF51 := by kernel_rfl
def KF19 : AFn := ⟨(sQ [wV 1 (.box 62 0), wV 2 (.move (.val (.str []))), wV 3 (.move (vI 0))] (.seq (sQ [wV 8 (.load 12 true 1), wV 9 (kF 29 [8]), wV 10 (.un .not 9)] (.cond 10 (sQ [wV 2 (.move (.val (.str []))), wV 3 (.move (vI 30))] .ret) .skip)) (.seq (sQ [wV 11 (.fieldAddr 0 1), wV 12 (.load 1 false 11), wV 13 (.bin .eql none 12 (vI 6))] (.cond 13 (sQ [wV 2 (.move (.val (.str [76, 65, 77, 66, 68, 65]))), wV 3 (.move (vI 0))] .ret) .skip)) (.seq (sQ [wV 14 (.fieldAddr 0 1), wV 15 (.load 1 false 14), wV 16 (.bin .eql none 15 (vI 2))] (.cond 16 (sQ [wV 18 (.fieldAddr 3 1), wV 19 (.load 1 false 18), wV 20 (kF 30 [19]), wM 17 20, wV 21 (.extract 17 0), wV 22 (.extract 17 1), wV 4 (.alloc 62 z1L), wN (.store 12 4 21), wM 5 22] (.seq (sQ [wM 23 5, wV 24 (.bin .eql none 23 (vI 0)), wM 25 24, wT 26 25 (.load 12 true 4), wT 27 25 (.load 12 true 1), wT 28 25 (kF 31 [26, 27]), wV 29 (.pick 25 28 (.val (.bool false)))] (.cond 29 (sQ [wV 30 (.fieldAddr 3 1), wV 31 (.load 1 false 30), wM 2 31, wV 3 (.move (vI 0))] .ret) .skip)) (sQ [wV 32 (.fieldAddr 3 1), wV 33 (.load 1 false 32), wV 34 (.bin .add none (.val (.str [39])) 33), wM 2 34, wV 3 (.move (vI 0))] .ret))) .skip)) (.seq (sQ [wV 35 (.fieldAddr 0 1), wV 36 (.load 1 false 35), wV 37 (.bin .neq none 36 (vI 5))] (.cond 37 (sQ [wV 38 (.load 12 true 1), wV 39 (kF 32 [38]), wM 2 39, wV 3 (.move (vI 0))] .ret) .skip)) (sQ [wV 6 (.move (.val (.str [123])))] (.seq (sQ [wV 7 (.move (vI 0))] (.block 0 (.loop (.seq (sQ [wM 40 7, wV 41 (.fieldAddr 8 1), wV 42 (.load 1 false 41), wV 43 (.len false 42), wV 44 (.bin .lss none 40 43)] (.cond 44 .skip (.exit 0))) (.seq (.block 1 (.seq (sQ [wM 47 7, wV 48 (.bin .gtr none 47 (vI 0)), wM 49 48, wT 50 49 (.move 7), wT 51 49 (.fieldAddr 7 1), wT 52 49 (.load 1 false 51), wT 53 49 (.bin .rem none 50 52), wT 54 49 (.bin .eql none 53 (vI 0)), wV 55 (.pick 49 54 (.val (.bool false)))] (.cond 55 (.ops [wM 56 6, wV 57 (.bin .add none 56 (.val (.str [59]))), wM 6 57]) (sQ [wM 58 7, wV 59 (.bin .gtr none 58 (vI 0))] (.cond 59 (.ops [wM 60 6, wV 61 (.bin .add none 60 (.val (.str [44]))), wM 6 61]) .skip)))) (sQ [wV 62 (.fieldAddr 8 1), wV 63 (.load 1 false 62), wM 64 7, wV 65 (.idxSl 12 63 64), wV 66 (.fieldAddr 0 65), wV 67 (.load 1 false 66), wV 68 (.bin .eql none 67 (vI 2))] (.cond 68 (.ops [wM 69 6, wV 70 (.fieldAddr 8 1), wV 71 (.load 1 false 70), wM 72 7, wV 73 (.idxSl 12 71 72), wV 74 (.fieldAddr 3 73), wV 75 (.load 1 false 74), wV 76 (kF 33 [75]), wV 77 (.bin .add none 69 76), wM 6 77]) (.ops [wM 78 6, wV 79 (.fieldAddr 8 1), wV 80 (.load 1 false 79), wM 81 7, wV 82 (.idxSl 12 80 81), wV 83 (.load 12 true 82), wV 84 (kF 32 [83]), wV 85 (.bin .add none 78 84), wM 6 85]))))) (.ops [wM 45 7, wV 46 (.bin .add none 45 (vI 1)), wM 7 46])))))) (sQ [wM 86 6, wV 87 (.bin .add none 86 (.val (.str [125]))), wM 2 87, wV 3 (.move (vI 0))] .ret)))))))), [2, 3], 88⟩
theorem KG19 : Ab Tryz.prog 12 = some KF19 := by kernel_rfl
def KF20 : AFn := ⟨(sQ [wV 1 (.box 26 0), wV 2 (.alloc 62 z1L)] (.seq (sQ [wV 7 (.fieldAddr 0 1), wV 8 (.load 1 false 7), wV 9 (kF 34 [8, (vI 5)])] (.block 0 (sQ [wV 11 (.bin .eql none 9 (vI 1)), wM 10 11] (.cond 10 (sQ [wV 13 (.fieldAddr 1 1), wV 14 (.fieldAddr 0 13), wV 15 (.load 1 false 14), wV 16 (kF 34 [15, (vI 2000001)]), wV 17 (.bin .sub none 16 (vI 1000000)), wV 18 (kF 35 [17]), wM 12 18, wV 19 (.extract 12 0), wV 20 (.extract 12 1), wV 3 (.alloc 24 z2L), wN (.store 2 3 19), wM 4 20] (.seq (.draw [wV 22 (.load 2 true 3), wV 23 (.fieldAddr 1 1), wV 24 (.fieldAddr 1 23), wV 25 (.load 1 false 24), wV 26 (kF 34 [25, (vI 5)]), wV 27 (.build z2L [(0, 1, (vI 1)), (1, 1, 26)]), wV 28 (kF 36 [22, 27]), wM 21 28, wV 29 (.extract 21 0), wV 30 (.extract 21 1), wV 5 (.alloc 24 z2L), wN (.store 2 5 29), wM 6 30]) (.seq (sQ [wM 31 4, wV 32 (.bin .eql none 31 (vI 0)), wM 33 32, wT 34 33 (.move 6), wT 35 33 (.bin .eql none 34 (vI 0)), wV 36 (.pick 33 35 (.val (.bool false)))] (.cond 36 (sQ [wV 37 (.load 2 true 5), wV 38 (.build z1L [(0, 1, (vI 1)), (1, 2, 37)]), wN (.store 12 2 38)] .ret) .skip)) (sQ [wV 39 (.build z1L [(0, 1, (vI 1))]), wN (.store 12 2 39)] .ret)))) (sQ [wV 41 (.bin .eql none 9 (vI 2)), wM 40 41] (.cond 40 (sQ [wV 42 (.fieldAddr 3 1), wV 43 (.load 1 false 42), wV 44 (kF 37 [43]), wV 45 (.build z1L [(0, 1, (vI 2)), (3, 1, 44)]), wN (.store 12 2 45)] .ret) (sQ [wV 47 (.bin .eql none 9 (vI 3)), wM 46 47] (.cond 46 (sQ [wV 48 (.fieldAddr 4 1), wV 49 (.load 1 false 48), wV 50 (.build z1L [(0, 1, (vI 3)), (4, 1, 49)]), wN (.store 12 2 50)] .ret) (sQ [wV 52 (.bin .eql none 9 (vI 4)), wM 51 52] (.cond 51 (sQ [wV 53 (.fieldAddr 1 1), wV 54 (.fieldAddr 0 53), wV 55 (.load 1 false 54), wV 56 (kF 34 [55, (vI 9)]), wV 57 (.bin .add none (vI 1) 56), wV 58 (.build z1L [(0, 1, (vI 4)), (5, 1, 57)]), wN (.store 12 2 58)] .ret) .skip)))))))))) (sQ [wV 59 (.build z1L []), wN (.store 12 2 59)] .ret))), [.cell 2 12 true], 60⟩
theorem KG20 : Ab Tryz.prog 13 = some KF20 := by kernel_rfl
def KF11 : AFn := ⟨(sQ [wV 1 (.box 26 0), wV 2 (.move (.val (.str [])))] (sQ [wV 6 (.load 5 true 1), wV 7 (kF 13 [6]), wV 8 (kF 12 [7]), wM 5 8, wV 9 (.extract 5 0), wV 10 (.extract 5 1), wM 3 9, wM 4 10] (.seq (sQ [wM 11 3, wV 12 (.bin .eql none 11 (.val (.str [])))] (.cond 12 (sQ [wV 2 (.move (.val (.str [55])))] .ret) .skip)) (sQ [wM 13 3, wM 2 13] .ret)))), [2], 14⟩
theorem KG11 : Ab Tryz.prog 6 = some KF11 := by kernel_rfl
theorem readV (hg : hGr W0 G) {s : Bz} (hs : s.length ≤ 10000) : Aj Tryz.prog W0 30 [.str s] (fun v => ∃ (k m e er err : Int) (t : Bz) (b : Bool), v = .tup [Cd k m e t b er, .int .i64 err] ∧ (err = 0 → Sj s) ∧ (k = 0 ∨ k = 1 ∨ k = 3 ∨ k = 4 ∨ (k = 2 ∧ m = 0 ∧ e = 0 ∧ b = false ∧ er = 0))) := by
 refine Aj.of_fnM KG49 (by simp) rfl ?_
 by_cases hem0 : s.length = 0
 · have hem : Sj s := by rw [List.length_eq_zero_iff.1 hem0]; exact Hr
   refine sO (mV (v := .ptr 0 0) rfl (x1 rfl (sq (sO (m2 rfl rfl (mT rfl (mn (cT rfl (sO (mV rfl (A6 hg gN rfl (x1 rfl ?_))))))))))))
   exact ExM.ret ⟨_, ⟨_, _, _, _, _, _, _, rfl, (fun _ => hem), .inl rfl⟩, A0 trivial rfl rfl 100 rfl rfl⟩
 · by_cases h61 : s.getD 0 0 = 61
   · skip
     refine sO (mV (v := .ptr 0 0) rfl (x1 rfl (sq (sO (m2 rfl rfl (mF rfl (mn (cF rfl (kM (sq (sO (mV rfl (mS (v := .int .u8 ((s.getD 0 0).toNat : Nat)) (E3 (n := 0) rfl rfl) (mBk hg gN (c := true) rfl rfl (by rw [h61]; decide) (mn (cT rfl (sO (mV rfl (A6 hg gN rfl (x1 rfl ?_))))))))))))))))))))
     exact ExM.ret ⟨_, ⟨_, _, _, _, _, _, _, rfl, (fun h => by cases h), .inl rfl⟩, A0 trivial rfl rfl 100 rfl rfl⟩
   · have h61' : Sj s := fun c r e => by subst e; exact h61
     refine sO (mV (v := .ptr 0 0) rfl (x1 rfl (sq (sO (m2 rfl rfl (mF rfl (mn (cF rfl (kM (sq (sO (mV rfl (mS (v := .int .u8 ((s.getD 0 0).toNat : Nat)) (E3 (n := 0) rfl rfl) (mBk hg gN (c := false) rfl rfl (by rw [bFn]; intro e; exact h61 (UInt8.toNat_inj.1 (by have e2 : (61 : UInt8).toNat = 61 := rfl; omega))) (mn (cF rfl (kM (sO (mV rfl ?_)))))))))))))))))))
     refine Bd hg gN rfl rfl rfl (readE hg (by omega)) ?_ ?_
     · rintro _ ⟨pM, pE, pe, rfl⟩; rfl
     rintro _ ⟨pM, pE, pe, rfl⟩
     refine m3 rfl rfl rfl (mV (v := .ptr 1 0) rfl (A6 hg gN rfl (x1 rfl (sq (sO (mV rfl ?_))))))
     refine mB hg gN rfl rfl trivial (fun h1 => ?_) (fun h1 => ?_)
     · refine mn (cT rfl (sO (m2 rfl rfl (A6 hg gN rfl (x1 rfl ?_)))))
       exact ExM.ret ⟨_, ⟨_, _, _, _, _, _, _, rfl, (fun _ => h61'), .inr (.inl rfl)⟩, A0 trivial rfl rfl 100 rfl rfl⟩
     · refine mn (cF rfl (kM (sO (mV rfl ?_))))
       refine Bd hg gN rfl rfl rfl (foldE hg (by omega)) ?_ ?_
       · rintro _ ⟨f, rfl⟩; rfl
       rintro _ ⟨f, rfl⟩
       refine x1 rfl (sq (sO (mV rfl ?_)))
       refine mB hg gN rfl rfl trivial (fun h2 => ?_) (fun h2 => ?_)
       · refine mV rfl (mG (mG (x1 rfl (cT rfl (sO (mV rfl ?_))))))
         refine mB hg gN rfl rfl trivial (fun h3 => ?_) (fun h3 => ?_)
         · refine mV rfl (A6 hg gN rfl (x1 rfl ?_))
           exact ExM.ret ⟨_, ⟨_, _, _, _, _, _, _, rfl, (fun _ => h61'), .inr (.inr (.inl rfl))⟩, A0 trivial rfl rfl 100 rfl rfl⟩
         · refine mV rfl (A6 hg gN rfl (x1 rfl ?_))
           exact ExM.ret ⟨_, ⟨_, _, _, _, _, _, _, rfl, (fun _ => h61'), .inr (.inr (.inl rfl))⟩, A0 trivial rfl rfl 100 rfl rfl⟩
       · refine m2 rfl rfl ?_
         refine mB hg (gS rfl) rfl rfl trivial (fun h4 => ?_) (fun h4 => ?_)
         · refine x1 rfl (cT rfl (sO (mV rfl ?_)))
           refine mB hg gN rfl rfl trivial (fun h5 => ?_) (fun h5 => ?_)
           · refine mV rfl (A6 hg gN rfl (x1 rfl ?_))
             exact ExM.ret ⟨_, ⟨_, _, _, _, _, _, _, rfl, (fun _ => h61'), .inr (.inr (.inl rfl))⟩, A0 trivial rfl rfl 100 rfl rfl⟩
           · refine mV rfl (A6 hg gN rfl (x1 rfl ?_))
             exact ExM.ret ⟨_, ⟨_, _, _, _, _, _, _, rfl, (fun _ => h61'), .inr (.inr (.inl rfl))⟩, A0 trivial rfl rfl 100 rfl rfl⟩
         · refine x1 rfl (cF rfl (kM (sq (sO (x1 rfl (bM ?_))))))
           refine ExM.loop (σ := Nat) (fun j => ⟨.al [(0, .str s), (2, .ptr 0 0), (6, .str f), (7, .int .i64 (j : Nat))], [.cells 62 z1L false], 60⟩) (fun j => j ≤ 10) (fun j => 10 - j) 1 (Ae 1 rfl (Nat.zero_le _) rfl rfl (fS (fzC rfl (fvP rfl) (fS (fI fzN))))) (by decide) ?_
           rintro j hj
           by_cases hj9 : j ≤ 9
           · refine sq (sO (mV rfl (mT rfl (mn (cT rfl (kM (sq (bM (sO (m2 rfl rfl ?_))))))))))
             refine Bd hg gN rfl rfl rfl (nameE hg) ?_ ?_
             · rintro _ ⟨nm, rfl, _, hnm⟩; rfl
             rintro _ ⟨nm, rfl, _, hnm⟩
             refine Bd hg gN rfl rfl rfl (foldE hg (by omega)) ?_ ?_
             · rintro _ ⟨fm, rfl⟩; rfl
             rintro _ ⟨fm, rfl⟩
             refine mB hg gN rfl rfl trivial (fun h6 => ?_) (fun h6 => ?_)
             · refine mn (cT rfl (sO (mV rfl (mC rfl (A1.pure rfl rfl (errP hg) _) (A6 hg gN rfl (x1 rfl ?_))))))
               exact ExM.ret ⟨_, ⟨_, _, _, _, _, _, _, rfl, (fun _ => h61'), .inr (.inr (.inr (.inl rfl)))⟩, A0 trivial rfl rfl 100 rfl rfl⟩
             · refine mn (cF rfl (kM (oM (mV rfl (mI ((j + 1 : Nat)) rfl (x1 rfl ?_))))))
               exact ⟨j + 1, by omega, by omega, Ae 1 rfl (Nat.zero_le _) rfl rfl (fS (fzC rfl (fvP rfl) (fS (fI fzN))))⟩
           · refine sq (sO (mV rfl (mF rfl (mn (cF rfl ?_)))))
             refine ExM.exit ?_
             refine sO (x2 rfl rfl (sq (sO (mV rfl (mS (v := .int .u8 ((s.getD 0 0).toNat : Nat)) (E3 (n := 0) rfl rfl) ?_)))))
             refine mB hg gN rfl rfl trivial (fun h7 => ?_) (fun h7 => ?_)
             · refine mn (cT rfl (oM (mV rfl (mS rfl (x1 rfl (sq (sO (mV rfl ?_))))))))
               refine Bd hg gN rfl rfl rfl (Vd hg (by first | omega | (simp only [List.length_drop]; omega))) ?_ ?_
               · rintro _ ⟨tb, rfl, _⟩; rfl
               rintro _ ⟨tb, rfl, _⟩
               cases tb
               · refine x1 rfl (cT rfl (sO (mV rfl (A6 hg gN rfl (x1 rfl ?_)))))
                 exact ExM.ret ⟨_, ⟨_, _, _, _, _, _, _, rfl, (fun h => by cases h), .inl rfl⟩, A0 trivial rfl rfl 100 rfl rfl⟩
               · refine x1 rfl (cF rfl (kM (sO (m2 rfl rfl (A6 hg gN rfl (x1 rfl ?_))))))
                 exact ExM.ret ⟨_, ⟨_, _, _, _, _, _, _, rfl, (fun _ => h61'), .inr (.inr (.inr (.inr ⟨rfl, rfl, rfl, rfl, rfl⟩)))⟩, A0 trivial rfl rfl 100 rfl rfl⟩
             · refine mn (cF rfl (kM (sq (sO (mV rfl ?_)))))
               refine Bd hg gN rfl rfl rfl (Vd hg (by first | omega | (simp only [List.length_drop]; omega))) ?_ ?_
               · rintro _ ⟨tb, rfl, _⟩; rfl
               rintro _ ⟨tb, rfl, _⟩
               cases tb
               · refine x1 rfl (cT rfl (sO (mV rfl (A6 hg gN rfl (x1 rfl ?_)))))
                 exact ExM.ret ⟨_, ⟨_, _, _, _, _, _, _, rfl, (fun h => by cases h), .inl rfl⟩, A0 trivial rfl rfl 100 rfl rfl⟩
               · refine x1 rfl (cF rfl (kM (sO (m2 rfl rfl (A6 hg gN rfl (x1 rfl ?_))))))
                 exact ExM.ret ⟨_, ⟨_, _, _, _, _, _, _, rfl, (fun _ => h61'), .inr (.inr (.inr (.inr ⟨rfl, rfl, rfl, rfl, rfl⟩)))⟩, A0 trivial rfl rfl 100 rfl rfl⟩
theorem plain1 (hk : Kn W0) {m e : Int} : Aj Tryz.prog W0 77 [Cd 1 m e [] false 0] (fun v => ∃ b, v = .bool b) := by
 have hg := grK hk
 refine Aj.of_fnM KG86 (by simp) rfl ?_
 refine sO (mV (v := .ptr 0 0) rfl (x1 rfl (sq (sO (m3 rfl rfl rfl (Fg hg gN (c := true) rfl rfl (A1.pure (args := [Cd 1 m e [] false 0, .int .i64 1]) rfl rfl (bareK1 hk) _) rfl (x1 rfl (cF rfl (kM (sq (sO (x2 rfl rfl (bM (sq (sO (mF rfl (x1 rfl (cF rfl (oM (mF rfl (x1 rfl (cF rfl (sO (mT rfl (x1 rfl (cT rfl (sO (m2 rfl rfl (mC rfl (show cP W0 91 [.agg [.int .i64 m, .int .i64 e]] _ (.bool (Dj m e)) _ from Ly hg _) (x1 rfl ?_))))))))))))))))))))))))))))))
 exact ExM.ret ⟨_, ⟨_, rfl⟩, A0 trivial rfl rfl 100 rfl rfl⟩
theorem plain2 (hk : Kn W0) {s : Bz} (hs : s.length ≤ 10000) : Aj Tryz.prog W0 77 [Cd 2 0 0 s false 0] (fun v => ∃ b, v = .bool b ∧ (b = true → Txt s 0)) := by
 have hg := grK hk
 refine Aj.of_fnM KG86 (by simp) rfl ?_
 refine sO (mV (v := .ptr 0 0) rfl (x1 rfl (sq (sO (m3 rfl rfl rfl (Fg hg gN (c := true) rfl rfl (A1.pure (args := [Cd 2 0 0 s false 0, .int .i64 2]) rfl rfl (bareK2 hk) _) rfl (x1 rfl (cF rfl (kM (sq (sO (x2 rfl rfl (bM (sq (sO (mF rfl (x1 rfl (cF rfl (oM (mF rfl (x1 rfl (cF rfl (sO (mF rfl (x1 rfl (cF rfl (sO (mT rfl (x1 rfl (cT rfl (sO (m2 rfl rfl ?_))))))))))))))))))))))))))))))))
 refine Bd hg gN rfl rfl rfl (Vd hg (by omega)) ?_ ?_
 · rintro _ ⟨tb, rfl, htx⟩; rfl
 rintro _ ⟨tb, rfl, htx⟩
 cases tb
 · refine x1 rfl ?_
   refine ExM.ret ?_
   first | exact ⟨_, ⟨_, rfl, fun _ => htx rfl⟩, A0 trivial rfl rfl 100 rfl rfl⟩ | exact ⟨_, ⟨false, rfl, fun h => by cases h⟩, A0 trivial rfl rfl 100 rfl rfl⟩
 · refine x1 rfl ?_
   refine ExM.ret ?_
   first | exact ⟨_, ⟨_, rfl, fun _ => htx rfl⟩, A0 trivial rfl rfl 100 rfl rfl⟩ | exact ⟨_, ⟨false, rfl, fun h => by cases h⟩, A0 trivial rfl rfl 100 rfl rfl⟩
theorem right1 (hk : Kn W0) {m e : Int} : Aj Tryz.prog W0 29 [Cd 1 m e [] false 0] (fun v => ∃ b, v = .bool b) := by
 have hg := grK hk
 refine Aj.of_fnM KG48 (by simp) rfl ?_
 refine sO (mV (v := .ptr 0 0) rfl (x1 rfl (sq (sO (m2 rfl rfl (mT rfl (mn (cT rfl (sO (mV rfl ?_))))))))))
 refine Bd hg gN rfl rfl rfl (plain1 hk) ?_ ?_
 · rintro _ ⟨tb, rfl⟩; rfl
 rintro _ ⟨tb, rfl⟩
 refine x1 rfl ?_
 exact ExM.ret ⟨_, ⟨_, rfl⟩, A0 trivial rfl rfl 100 rfl rfl⟩
theorem right2 (hk : Kn W0) {s : Bz} (hs : s.length ≤ 10000) : Aj Tryz.prog W0 29 [Cd 2 0 0 s false 0] (fun v => ∃ b, v = .bool b ∧ (b = true → Txt s 0)) := by
 have hg := grK hk
 refine Aj.of_fnM KG48 (by simp) rfl ?_
 refine sO (mV (v := .ptr 0 0) rfl (x1 rfl (sq (sO (m2 rfl rfl (mT rfl (mn (cT rfl (sO (mV rfl ?_))))))))))
 refine Bd hg gN rfl rfl rfl (plain2 hk hs) ?_ ?_
 · rintro _ ⟨tb, rfl, htx⟩; rfl
 rintro _ ⟨tb, rfl, htx⟩
 refine x1 rfl ?_
 exact ExM.ret ⟨_, ⟨_, rfl, htx⟩, A0 trivial rfl rfl 100 rfl rfl⟩
theorem told1 (hk : Kn W0) {m e : Int} : Aj Tryz.prog W0 85 [Cd 1 m e [] false 0] (fun v => ∃ t, v = Cd 2 0 0 t false 0 ∧ pl t ∧ t.length ≤ 90) := by
 have hg := grK hk
 refine Aj.of_fnM KG94 (by simp) rfl ?_
 refine sO (mV (v := .ptr 0 0) rfl (mV (v := .ptr 1 0) rfl (mn (sq (sO (x2 rfl rfl (bM (sO (mF rfl (x1 rfl (cF rfl (sO (mT rfl (x1 rfl (cT rfl (sO (m2 rfl rfl ?_)))))))))))))))))
 refine Bd hg gN rfl rfl rfl (textE hk) ?_ ?_
 · rintro _ ⟨t, er, rfl, ht, htl⟩; rfl
 rintro _ ⟨t, er, rfl, ht, htl⟩
 refine mV rfl (x4 rfl rfl rfl rfl (sO (m2 rfl rfl (A6 hg gN rfl (mn ?_)))))
 exact ExM.ret ⟨_, ⟨t, rfl, ht, htl⟩, A0 trivial rfl rfl 100 rfl rfl⟩
theorem A21 (hk : Kn W0) {m e : Int} : Aj Tryz.prog W0 32 [Cd 1 m e [] false 0] (fun v => ∃ t, v = .str t ∧ pl t ∧ t.length ≤ 90) := by
 have hg := grK hk
 refine Aj.of_fnM KG51 (by simp) rfl ?_
 refine sO (mV (v := .ptr 0 0) rfl (x1 rfl (sq (sO (m2 rfl rfl (mF rfl (mn (cF rfl (kM (sO (mV rfl ?_)))))))))))
 refine Bd hg gN rfl rfl rfl (told1 hk) ?_ ?_
 · rintro _ ⟨t, rfl, ht, htl⟩; rfl
 rintro _ ⟨t, rfl, ht, htl⟩
 refine x2 rfl rfl ?_
 exact ExM.ret ⟨_, ⟨t, rfl, ht, htl⟩, A0 trivial rfl rfl 100 rfl rfl⟩
theorem text1 (hk : Kn W0) {m e : Int} : Aj Tryz.prog W0 12 [Cd 1 m e [] false 0] (fun v => ∃ (t : Bz) (er : Int), v = .tup [.str t, .int .i64 er] ∧ lit t) := by
 have hg := grK hk
 refine Aj.of_fnM KG19 (by simp) rfl ?_
 refine sO (mV (v := .ptr 0 0) rfl (x2 rfl rfl (sq (sO (mV rfl ?_)))))
 refine Bd hg gN rfl rfl rfl (right1 hk) ?_ ?_
 · rintro _ ⟨tb, rfl⟩; rfl
 rintro _ ⟨tb, rfl⟩
 cases tb
 · refine x1 rfl (cT rfl (sO (x2 rfl rfl ?_)))
   exact ExM.ret ⟨_, ⟨[], 30, rfl, G3 Hr (by decide)⟩, A0 trivial rfl rfl 100 rfl rfl⟩
 · refine x1 rfl (cF rfl (kM (sq (sO (m2 rfl rfl (mF rfl (mn (cF rfl (kM (sq (sO (m2 rfl rfl (mF rfl (mn (cF rfl (kM (sq (sO (m2 rfl rfl (mT rfl (mn (cT rfl (sO (mV rfl ?_))))))))))))))))))))))))
   refine Bd hg gN rfl rfl rfl (A21 hk) ?_ ?_
   · rintro _ ⟨t, rfl, ht, htl⟩; rfl
   rintro _ ⟨t, rfl, ht, htl⟩
   refine x2 rfl rfl ?_
   exact ExM.ret ⟨_, ⟨t, 0, rfl, lit_pl ht htl⟩, A0 trivial rfl rfl 100 rfl rfl⟩
theorem text2 (hk : Kn W0) {s : Bz} (hs : s.length ≤ 40) : Aj Tryz.prog W0 12 [Cd 2 0 0 s false 0] (fun v => ∃ (t : Bz) (er : Int), v = .tup [.str t, .int .i64 er] ∧ lit t) := by
 have hg := grK hk
 refine Aj.of_fnM KG19 (by simp) rfl ?_
 refine sO (mV (v := .ptr 0 0) rfl (x2 rfl rfl (sq (sO (mV rfl ?_)))))
 refine Bd hg gN rfl rfl rfl (right2 hk (by omega)) ?_ ?_
 · rintro _ ⟨tb, rfl, htx⟩; rfl
 rintro _ ⟨tb, rfl, htx⟩
 cases tb
 · refine x1 rfl (cT rfl (sO (x2 rfl rfl ?_)))
   refine ExM.ret ?_
   first | exact ⟨_, ⟨[], 30, rfl, G3 Hr (by decide)⟩, A0 trivial rfl rfl 100 rfl rfl⟩ | exact ⟨_, ⟨s, 0, rfl, A0d (herr (by rw [beq_iff_eq] at h1; exact h1)) (htx rfl) hs⟩, A0 trivial rfl rfl 100 rfl rfl⟩ | exact ⟨_, ⟨39 :: s, 0, rfl, Ze (htx rfl) hs⟩, A0 trivial rfl rfl 100 rfl rfl⟩
 · refine x1 rfl (cF rfl (kM (sq (sO (m2 rfl rfl (mF rfl (mn (cF rfl (kM (sq (sO (m2 rfl rfl (mT rfl (mn (cT rfl (sO (m2 rfl rfl ?_)))))))))))))))))
   refine Bd hg gN rfl rfl rfl (readV hg (s := s) (by omega)) ?_ ?_
   · rintro _ ⟨k, m, e, er, err, t, b, rfl, herr, hsh⟩; rfl
   rintro _ ⟨k, m, e, er, err, t, b, rfl, herr, hsh⟩
   refine m3 rfl rfl rfl (mV (v := .ptr 1 0) rfl (A6 hg gN rfl (x1 rfl (sq (sO (mV rfl ?_))))))
   refine mB hg gN rfl rfl trivial (fun h1 => ?_) (fun h1 => ?_)
   · refine m3 rfl rfl rfl ?_
     refine Bd hg (gS rfl) rfl rfl rfl (sameE hk hsh) ?_ ?_
     · rintro _ ⟨c, rfl⟩; rfl
     rintro _ ⟨c, rfl⟩
     cases c
     · refine x1 rfl (cF rfl (kM (sO (m2 rfl rfl (mS rfl (x2 rfl rfl ?_))))))
       refine ExM.ret ?_
       first | exact ⟨_, ⟨[], 30, rfl, G3 Hr (by decide)⟩, A0 trivial rfl rfl 100 rfl rfl⟩ | exact ⟨_, ⟨s, 0, rfl, A0d (herr (by rw [beq_iff_eq] at h1; exact h1)) (htx rfl) hs⟩, A0 trivial rfl rfl 100 rfl rfl⟩ | exact ⟨_, ⟨39 :: s, 0, rfl, Ze (htx rfl) hs⟩, A0 trivial rfl rfl 100 rfl rfl⟩
     · refine x1 rfl (cT rfl (sO (x4 rfl rfl rfl rfl ?_)))
       refine ExM.ret ?_
       first | exact ⟨_, ⟨[], 30, rfl, G3 Hr (by decide)⟩, A0 trivial rfl rfl 100 rfl rfl⟩ | exact ⟨_, ⟨s, 0, rfl, A0d (herr (by rw [beq_iff_eq] at h1; exact h1)) (htx rfl) hs⟩, A0 trivial rfl rfl 100 rfl rfl⟩ | exact ⟨_, ⟨39 :: s, 0, rfl, Ze (htx rfl) hs⟩, A0 trivial rfl rfl 100 rfl rfl⟩
   · refine mV rfl (mG (mG (mG (x1 rfl (cF rfl (kM (sO (m2 rfl rfl (mS rfl (x2 rfl rfl ?_))))))))))
     refine ExM.ret ?_
     first | exact ⟨_, ⟨[], 30, rfl, G3 Hr (by decide)⟩, A0 trivial rfl rfl 100 rfl rfl⟩ | exact ⟨_, ⟨s, 0, rfl, A0d (herr (by rw [beq_iff_eq] at h1; exact h1)) (htx rfl) hs⟩, A0 trivial rfl rfl 100 rfl rfl⟩ | exact ⟨_, ⟨39 :: s, 0, rfl, Ze (htx rfl) hs⟩, A0 trivial rfl rfl 100 rfl rfl⟩
def valQ (v : AVal) : Prop := v = Cd 0 0 0 [] false 0 ∨ (∃ m e, v = Cd 1 m e [] false 0) ∨ (∃ s : Bz, v = Cd 2 0 0 s false 0 ∧ s.length ≤ 40) ∨ (∃ b, v = Cd 3 0 0 [] b 0) ∨ (∃ n : Nat, v = Cd 4 0 0 [] false (n : Nat) ∧ 1 ≤ n ∧ n ≤ 9)
theorem Wg {v : AVal} (h : valQ v) : blw 0 v = true := by
 rcases h with rfl | ⟨m, e, rfl⟩ | ⟨s, rfl, _⟩ | ⟨b, rfl⟩ | ⟨n, rfl, _⟩ <;> rfl
theorem valE (hk : Kn W0) {K M E : Int} {s : Bz} {b : Bool} (hK : i64 K) (hM : i64 M) (hE : i64 E) (hs : s.length ≤ 150000000000000) : Aj Tryz.prog W0 13 [.agg [.int .i64 K, .int .i64 M, .int .i64 E, .str s, .bool b]] valQ := by
 have hg := grK hk
 have hk5 := Kx (c := K) (n := 5) (by decide)
 have hk9 := Kx (c := M) (n := 9) (by decide)
 have k1 := Nj hg (c := K) (n := 5) hK.1 hK.2 (by decide)
 have hc : Ds K 5 = 1 ∨ Ds K 5 = 0 ∨ Ds K 5 = 2 ∨ Ds K 5 = 3 ∨ Ds K 5 = 4 := by omega
 rcases hc with h | h | h | h | h
 · obtain ⟨m, e, c⟩ := ValNum hk (s := s) (b := b) hK hM hE h
   exact (Aj.of c).mono fun v hv => .inr (.inl ⟨m, e, hv⟩)
 · rw [h] at k1
   refine Aj.of_fnM KG20 (by simp) rfl ?_
   refine sO (mV (v := .ptr 0 0) rfl (mV (v := .ptr 1 0) rfl (mn (sq (sO (m2 rfl rfl (mC rfl (A1.pure rfl rfl k1 _) (mn (bM (sO (mF rfl (x1 rfl (cF rfl (sO (mF rfl (x1 rfl (cF rfl (sO (mF rfl (x1 rfl (cF rfl (sO (mF rfl (x1 rfl (cF rfl (kM (sO (mV rfl (A6 hg gN rfl (mn ?_))))))))))))))))))))))))))))))
   exact ExM.ret ⟨_, .inl rfl, A0 trivial rfl rfl 100 rfl rfl⟩
 · rw [h] at k1
   refine Aj.of_fnM KG20 (by simp) rfl ?_
   refine sO (mV (v := .ptr 0 0) rfl (mV (v := .ptr 1 0) rfl (mn (sq (sO (m2 rfl rfl (mC rfl (A1.pure rfl rfl k1 _) (mn (bM (sO (mF rfl (x1 rfl (cF rfl (sO (mT rfl (x1 rfl (cT rfl (sO (m2 rfl rfl ?_)))))))))))))))))))
   refine Bd hg gN rfl rfl rfl (textOfE hg hs) ?_ ?_
   · rintro _ ⟨t, rfl, ht⟩; rfl
   rintro _ ⟨t, rfl, ht⟩
   refine mV rfl (A6 hg gN rfl (mn ?_))
   exact ExM.ret ⟨_, .inr (.inr (.inl ⟨t, rfl, ht⟩)), A0 trivial rfl rfl 100 rfl rfl⟩
 · rw [h] at k1
   refine Aj.of_fnM KG20 (by simp) rfl ?_
   refine sO (mV (v := .ptr 0 0) rfl (mV (v := .ptr 1 0) rfl (mn (sq (sO (m2 rfl rfl (mC rfl (A1.pure rfl rfl k1 _) (mn (bM (sO (mF rfl (x1 rfl (cF rfl (sO (mF rfl (x1 rfl (cF rfl (sO (mT rfl (x1 rfl (cT rfl (sO (m3 rfl rfl rfl (A6 hg gN rfl (mn ?_)))))))))))))))))))))))))
   exact ExM.ret ⟨_, .inr (.inr (.inr (.inl ⟨b, rfl⟩))), A0 trivial rfl rfl 100 rfl rfl⟩
 · rw [h] at k1
   refine Aj.of_fnM KG20 (by simp) rfl ?_
   refine sO (mV (v := .ptr 0 0) rfl (mV (v := .ptr 1 0) rfl (mn (sq (sO (m2 rfl rfl (mC rfl (A1.pure rfl rfl k1 _) (mn (bM (sO (mF rfl (x1 rfl (cF rfl (sO (mF rfl (x1 rfl (cF rfl (sO (mF rfl (x1 rfl (cF rfl (sO (mT rfl (x1 rfl (cT rfl (sO (m3 rfl rfl rfl (mC rfl (pickC53 hg (c := M) (n := 9) hM.1 hM.2 (by decide) _) (mI ((1 + Ds M 9 : Nat)) rfl (mV rfl (A6 hg gN rfl (mn ?_))))))))))))))))))))))))))))))))
   exact ExM.ret ⟨_, .inr (.inr (.inr (.inr ⟨1 + Ds M 9, rfl, by omega, by omega⟩))), A0 trivial rfl rfl 100 rfl rfl⟩
theorem text0 (hk : Kn W0) : cP W0 12 [Cd 0 0 0 [] false 0] [] (.tup [.str [], .int .i64 0]) [] := F7 hk (d := 60) (show run 60 12 [Cd 0 0 0 [] false 0] [] = some (.tup [.str [], .int .i64 0], []) by kernel_rfl) (by kernel_rfl) (by kernel_rfl) []
theorem text3t (hk : Kn W0) : cP W0 12 [Cd 3 0 0 [] true 0] [] (.tup [.str [84, 82, 85, 69], .int .i64 0]) [] := F7 hk (d := 60) (show run 60 12 [Cd 3 0 0 [] true 0] [] = some (.tup [.str [84, 82, 85, 69], .int .i64 0], []) by kernel_rfl) (by kernel_rfl) (by kernel_rfl) []
theorem text3f (hk : Kn W0) : cP W0 12 [Cd 3 0 0 [] false 0] [] (.tup [.str [70, 65, 76, 83, 69], .int .i64 0]) [] := F7 hk (d := 60) (show run 60 12 [Cd 3 0 0 [] false 0] [] = some (.tup [.str [70, 65, 76, 83, 69], .int .i64 0], []) by kernel_rfl) (by kernel_rfl) (by kernel_rfl) []
theorem text41 (hk : Kn W0) : cP W0 12 [Cd 4 0 0 [] false 1] [] (.tup [.str [35, 78, 85, 76, 76, 33], .int .i64 0]) [] := F7 hk (d := 60) (show run 60 12 [Cd 4 0 0 [] false 1] [] = some (.tup [.str [35, 78, 85, 76, 76, 33], .int .i64 0], []) by kernel_rfl) (by kernel_rfl) (by kernel_rfl) []
theorem text42 (hk : Kn W0) : cP W0 12 [Cd 4 0 0 [] false 2] [] (.tup [.str [35, 68, 73, 86, 47, 48, 33], .int .i64 0]) [] := F7 hk (d := 60) (show run 60 12 [Cd 4 0 0 [] false 2] [] = some (.tup [.str [35, 68, 73, 86, 47, 48, 33], .int .i64 0], []) by kernel_rfl) (by kernel_rfl) (by kernel_rfl) []
theorem text43 (hk : Kn W0) : cP W0 12 [Cd 4 0 0 [] false 3] [] (.tup [.str [35, 86, 65, 76, 85, 69, 33], .int .i64 0]) [] := F7 hk (d := 60) (show run 60 12 [Cd 4 0 0 [] false 3] [] = some (.tup [.str [35, 86, 65, 76, 85, 69, 33], .int .i64 0], []) by kernel_rfl) (by kernel_rfl) (by kernel_rfl) []
theorem text44 (hk : Kn W0) : cP W0 12 [Cd 4 0 0 [] false 4] [] (.tup [.str [35, 82, 69, 70, 33], .int .i64 0]) [] := F7 hk (d := 60) (show run 60 12 [Cd 4 0 0 [] false 4] [] = some (.tup [.str [35, 82, 69, 70, 33], .int .i64 0], []) by kernel_rfl) (by kernel_rfl) (by kernel_rfl) []
theorem text45 (hk : Kn W0) : cP W0 12 [Cd 4 0 0 [] false 5] [] (.tup [.str [35, 78, 65, 77, 69, 63], .int .i64 0]) [] := F7 hk (d := 60) (show run 60 12 [Cd 4 0 0 [] false 5] [] = some (.tup [.str [35, 78, 65, 77, 69, 63], .int .i64 0], []) by kernel_rfl) (by kernel_rfl) (by kernel_rfl) []
theorem text46 (hk : Kn W0) : cP W0 12 [Cd 4 0 0 [] false 6] [] (.tup [.str [35, 78, 85, 77, 33], .int .i64 0]) [] := F7 hk (d := 60) (show run 60 12 [Cd 4 0 0 [] false 6] [] = some (.tup [.str [35, 78, 85, 77, 33], .int .i64 0], []) by kernel_rfl) (by kernel_rfl) (by kernel_rfl) []
theorem text47 (hk : Kn W0) : cP W0 12 [Cd 4 0 0 [] false 7] [] (.tup [.str [35, 78, 47, 65], .int .i64 0]) [] := F7 hk (d := 60) (show run 60 12 [Cd 4 0 0 [] false 7] [] = some (.tup [.str [35, 78, 47, 65], .int .i64 0], []) by kernel_rfl) (by kernel_rfl) (by kernel_rfl) []
theorem text48 (hk : Kn W0) : cP W0 12 [Cd 4 0 0 [] false 8] [] (.tup [.str [35, 83, 80, 73, 76, 76, 33], .int .i64 0]) [] := F7 hk (d := 60) (show run 60 12 [Cd 4 0 0 [] false 8] [] = some (.tup [.str [35, 83, 80, 73, 76, 76, 33], .int .i64 0], []) by kernel_rfl) (by kernel_rfl) (by kernel_rfl) []
theorem text49 (hk : Kn W0) : cP W0 12 [Cd 4 0 0 [] false 9] [] (.tup [.str [35, 67, 73, 82, 67, 33], .int .i64 0]) [] := F7 hk (d := 60) (show run 60 12 [Cd 4 0 0 [] false 9] [] = some (.tup [.str [35, 67, 73, 82, 67, 33], .int .i64 0], []) by kernel_rfl) (by kernel_rfl) (by kernel_rfl) []
theorem textV (hk : Kn W0) {v : AVal} (h : valQ v) : Aj Tryz.prog W0 12 [v] (fun v => ∃ (t : Bz) (er : Int), v = .tup [.str t, .int .i64 er] ∧ lit t) := by
 rcases h with rfl | ⟨m, e, rfl⟩ | ⟨s, rfl, hs⟩ | ⟨b, rfl⟩ | ⟨n, rfl, h1, h2⟩
 · exact (Aj.of (text0 hk)).mono fun v hv => ⟨_, _, hv, G3 Hr (by decide)⟩
 · exact text1 hk
 · exact text2 hk (by omega)
 · cases b
   · exact (Aj.of (text3f hk)).mono fun v hv => ⟨_, _, hv, G3 (B7 (by decide)) (by decide)⟩
   · exact (Aj.of (text3t hk)).mono fun v hv => ⟨_, _, hv, G3 (B7 (by decide)) (by decide)⟩
 · have : n = 1 ∨ n = 2 ∨ n = 3 ∨ n = 4 ∨ n = 5 ∨ n = 6 ∨ n = 7 ∨ n = 8 ∨ n = 9 := by omega
   rcases this with rfl | rfl | rfl | rfl | rfl | rfl | rfl | rfl | rfl
   · exact (Aj.of (text41 hk)).mono fun v hv => ⟨_, _, hv, G3 (B7 (by decide)) (by decide)⟩
   · exact (Aj.of (text42 hk)).mono fun v hv => ⟨_, _, hv, G3 (B7 (by decide)) (by decide)⟩
   · exact (Aj.of (text43 hk)).mono fun v hv => ⟨_, _, hv, G3 (B7 (by decide)) (by decide)⟩
   · exact (Aj.of (text44 hk)).mono fun v hv => ⟨_, _, hv, G3 (B7 (by decide)) (by decide)⟩
   · exact (Aj.of (text45 hk)).mono fun v hv => ⟨_, _, hv, G3 (B7 (by decide)) (by decide)⟩
   · exact (Aj.of (text46 hk)).mono fun v hv => ⟨_, _, hv, G3 (B7 (by decide)) (by decide)⟩
   · exact (Aj.of (text47 hk)).mono fun v hv => ⟨_, _, hv, G3 (B7 (by decide)) (by decide)⟩
   · exact (Aj.of (text48 hk)).mono fun v hv => ⟨_, _, hv, G3 (B7 (by decide)) (by decide)⟩
   · exact (Aj.of (text49 hk)).mono fun v hv => ⟨_, _, hv, G3 (B7 (by decide)) (by decide)⟩
theorem A1n (hk : Kn W0) {K M E : Int} {s : Bz} {b : Bool} (hK : i64 K) (hM : i64 M) (hE : i64 E) (hs : s.length ≤ 150000000000000) : Aj Tryz.prog W0 6 [.agg [.int .i64 K, .int .i64 M, .int .i64 E, .str s, .bool b]] (fun v => ∃ t : Bz, v = .str t ∧ lit t ∧ t ≠ []) := by
 have hg := grK hk
 refine Aj.of_fnM KG11 (by simp) rfl ?_
 refine sO (mV (v := .ptr 0 0) rfl (x1 rfl (sO (mV rfl ?_))))
 refine Bd hg gN rfl rfl rfl (valE hk hK hM hE hs) ?_ ?_
 · rintro _ hv; exact Wg hv
 rintro _ hv
 refine Bd hg gN rfl rfl (by show cond (blw 0 _) true false = true; rw [Wg hv]; rfl) (textV hk hv) ?_ ?_
 · rintro _ ⟨t, er, rfl, ht⟩; rfl
 rintro _ ⟨t, er, rfl, ht⟩
 refine mV rfl (x4 rfl rfl rfl rfl (sq (sO (mV rfl ?_))))
 refine mB hg gN rfl rfl trivial (fun h1 => ?_) (fun h1 => ?_)
 · refine mn (cT rfl (sO (x1 rfl ?_)))
   exact ExM.ret ⟨_, ⟨_, rfl, G3 (B7 (by decide)) (by decide), by decide⟩, A0 trivial rfl rfl 100 rfl rfl⟩
 · refine mn (cF rfl (kM (sO (x2 rfl rfl ?_))))
   exact ExM.ret ⟨_, ⟨t, rfl, ht, fun e => by subst e; cases h1⟩, A0 trivial rfl rfl 100 rfl rfl⟩
end Go.Abs
namespace Go.Abs
open Go.Proofs Go.RowKit
set_option maxRecDepth 100000
variable {W0 : World} {G : List (Nat × AVal)}
theorem nextY {s : St} {x : AOpd} {id pos : Nat} {t : Bz} (hx : ev G s x = some (.ptr id 0)) (ho : s.H[id]? = some (.iter t pos)) (hlt : pos < t.length) : aop G s (.next x) = some (.val (.tup [.bool true, .int .i64 (pos : Nat), .int .i32 ((Jz t pos).1 : Nat)]) (s.H.set id (.iter t (pos + (Jz t pos).2))) []) := by
 have h : Nat.blt pos t.length = true := by rw [Nat.blt_eq]; exact hlt
 simp only [aop, hx, Wl, Nat.beq_refl, cond_true, ho, h]
theorem nextN {s : St} {x : AOpd} {id pos : Nat} {t : Bz} (hx : ev G s x = some (.ptr id 0)) (ho : s.H[id]? = some (.iter t pos)) (hlt : ¬ pos < t.length) : aop G s (.next x) = some (.val (.tup [.bool false]) s.H []) := by
 have h : Nat.blt pos t.length = false := by
  cases hb : Nat.blt pos t.length with
  | false => rfl
  | true => rw [Nat.blt_eq] at hb; exact absurd hb hlt
 simp only [aop, hx, Wl, Nat.beq_refl, cond_true, ho, h, cond_false]
def JF146 : AFn := ⟨(sQ [wV 2 (.move (.val (.bool false)))] (sQ [wM 3 0, wV 4 (.bin .lss none 3 (.val (.int .i32 32))), wM 5 4, wF 6 5 (.move 0), wF 7 5 (.bin .eql none 6 (.val (.int .i32 127))), wV 8 (.pick 5 (.val (.bool true)) 7), wM 2 8] .ret)), [2], 9⟩
theorem JG146 : Ab Tryz.prog 146 = some JF146 := by kernel_rfl
def JF238 : AFn := ⟨(sQ [wV 6 (.move (vI 0))] (.seq (sQ [wM 9 0, wV 10 (.range 9)] (.block 0 (.loop (sQ [wV 11 (.next 10), wV 12 (.extract 11 0)] (.seq (.cond 12 .skip (.exit 0)) (.block 1 (sQ [wV 13 (.extract 11 1), wV 14 (.extract 11 2), wM 7 13, wM 8 14] (sQ [wM 15 1, wM 16 8, wV 17 (.call 15 [16]), wM 18 2, wV 19 (.bin .eql (some .bool) 17 18)] (.cond 19 (sQ [wM 20 7, wM 6 20] .ret) .skip))))))))) (sQ [wV 6 (.move (.val (.int .i64 (-1))))] .ret))), [6], 21⟩
theorem JG238 : Ab Tryz.prog 238 = some JF238 := by kernel_rfl
def JF186 : AFn := ⟨(sQ [wV 4 (.move (vI 0))] (sQ [wM 5 0, wM 6 1, wV 7 (kF 238 [5, 6, (.val (.bool true))]), wM 4 7] .ret)), [4], 8⟩
theorem JG186 : Ab Tryz.prog 186 = some JF186 := by kernel_rfl
def JF148 : AFn := ⟨(sQ [wV 4 (.move (.val (.bool false)))] (sQ [wM 5 0, wM 6 1, wV 7 (kF 186 [5, 6]), wV 8 (.bin .geq none 7 (vI 0)), wM 4 8] .ret)), [4], 9⟩
theorem JG148 : Ab Tryz.prog 148 = some JF148 := by kernel_rfl
def JF104 : AFn := ⟨(sQ [wV 2 (.move (.val (.bool false)))] (sQ [wV 3 (.move (.val (.fn 146 [] [])))] (sQ [wM 4 0, wV 5 (.len true 4), wV 6 (.bin .leq none 5 (vI 200)), wM 7 6, wT 8 7 (.move 0), wT 9 7 (kF 147 [8]), wV 10 (.pick 7 9 (.val (.bool false))), wM 11 10, wT 12 11 (.move 0), wT 13 11 (.move 3), wT 14 11 (kF 148 [12, 13]), wT 15 11 (.un .not 14), wV 16 (.pick 11 15 (.val (.bool false))), wM 2 16] .ret))), [2], 17⟩
theorem JG104 : Ab Tryz.prog 104 = some JF104 := by kernel_rfl
def JF101 : AFn := ⟨(sQ [wV 2 (.move (.val (.str [])))] (sQ [wM 6 0, wV 7 (.conv (.s2b 5) 6), wM 3 7] (.seq (sQ [wM 8 3, wV 9 (.len false 8), wV 10 (.move (vI 0))] (.block 0 (.loop (sQ [wV 11 (.bin .lss none 10 9)] (.seq (.cond 11 .skip (.exit 0)) (.seq (.block 1 (sQ [wM 12 10, wV 13 (.idxSl 1 8 10), wV 14 (.load 1 false 13), wM 4 12, wM 5 14] (sQ [wM 15 5, wV 16 (.bin .geq none 15 (.val (.int .u8 65))), wM 17 16, wT 18 17 (.move 5), wT 19 17 (.bin .leq none 18 (.val (.int .u8 90))), wV 20 (.pick 17 19 (.val (.bool false)))] (.cond 20 (.ops [wM 21 3, wM 22 4, wM 23 5, wV 24 (.bin .add none 23 (.val (.int .u8 97))), wV 25 (.bin .sub none 24 (.val (.int .u8 65))), wV 26 (.idxSl 1 21 22), wN (.store 1 26 25)]) .skip)))) (.ops [wV 27 (.bin .add none 10 (vI 1)), wM 10 27]))))))) (sQ [wM 28 3, wV 29 (.conv .b2s 28), wM 2 29] .ret)))), [2], 30⟩
theorem JG101 : Ab Tryz.prog 101 = some JF101 := by kernel_rfl
def JF98 : AFn := ⟨(sQ [wV 2 (.move (.val (.bool false))), wV 3 (.move (.val (.bool false)))] (sQ [wM 5 0, wV 6 (kF 101 [5]), wM 4 6] (sQ [wM 7 4, wV 8 (.bin .eql none 7 (.val (.str [116, 114, 117, 101]))), wM 9 4, wV 10 (.bin .eql none 9 (.val (.str [116, 114, 117, 101]))), wM 11 10, wF 12 11 (.move 4), wF 13 11 (.bin .eql none 12 (.val (.str [102, 97, 108, 115, 101]))), wV 14 (.pick 11 (.val (.bool true)) 13), wM 2 8, wM 3 14] .ret))), [2, 3], 15⟩
theorem JG98 : Ab Tryz.prog 98 = some JF98 := by kernel_rfl
def JF97 : AFn := ⟨(sQ [wV 1 (.box 24 0), wV 2 (.alloc 62 z1L)] (sQ [wV 3 (.load 2 true 1), wV 4 (.build z1L [(0, 1, (vI 1)), (1, 2, 3)]), wN (.store 12 2 4)] .ret)), [.cell 2 12 true], 5⟩
theorem JG97 : Ab Tryz.prog 97 = some JF97 := by kernel_rfl
def JF99 : AFn := ⟨(sQ [wV 2 (.alloc 62 z1L)] (sQ [wM 3 0, wV 4 (.build z1L [(0, 1, (vI 3)), (4, 1, 3)]), wN (.store 12 2 4)] .ret)), [.cell 2 12 true], 5⟩
theorem JG99 : Ab Tryz.prog 99 = some JF99 := by kernel_rfl
def JF100 : AFn := ⟨(sQ [wV 0 (.alloc 174 z11L)] (sQ [wV 1 (.build z11L [(0, 1, (.val (.str [35, 78, 85, 76, 76, 33]))), (1, 1, (.val (.str [35, 68, 73, 86, 47, 48, 33]))), (2, 1, (.val (.str [35, 86, 65, 76, 85, 69, 33]))), (3, 1, (.val (.str [35, 82, 69, 70, 33]))), (4, 1, (.val (.str [35, 78, 65, 77, 69, 63]))), (5, 1, (.val (.str [35, 78, 85, 77, 33]))), (6, 1, (.val (.str [35, 78, 47, 65]))), (7, 1, (.val (.str [35, 83, 80, 73, 76, 76, 33]))), (8, 1, (.val (.str [35, 67, 73, 82, 67, 33])))]), wN (.store 9 0 1)] .ret)), [.cell 0 9 true], 2⟩
theorem JG100 : Ab Tryz.prog 100 = some JF100 := by kernel_rfl
def JF102 : AFn := ⟨(sQ [wV 2 (.alloc 62 z1L)] (sQ [wM 3 0, wV 4 (.build z1L [(0, 1, (vI 4)), (5, 1, 3)]), wN (.store 12 2 4)] .ret)), [.cell 2 12 true], 5⟩
theorem JG102 : Ab Tryz.prog 102 = some JF102 := by kernel_rfl
def JF105 : AFn := ⟨(sQ [wV 2 (.alloc 62 z1L)] (sQ [wM 3 0, wV 4 (.build z1L [(0, 1, (vI 2)), (3, 1, 3)]), wN (.store 12 2 4)] .ret)), [.cell 2 12 true], 5⟩
theorem JG105 : Ab Tryz.prog 105 = some JF105 := by kernel_rfl
def JF41 : AFn := ⟨(sQ [wV 2 (.alloc 62 z1L), wV 3 (.move (vI 0))] (.seq (.block 0 (sQ [wM 12 0, wV 13 (.bin .eql none 12 (.val (.str []))), wM 11 13] (.cond 11 (sQ [wV 14 (.build z1L []), wN (.store 12 2 14), wV 3 (.move (vI 0))] .ret) (sQ [wM 16 0, wV 17 (.idxStr 16 (vI 0)), wV 18 (.bin .eql none 17 (.val (.int .u8 61))), wM 15 18] (.cond 15 (sQ [wV 19 (.build z1L []), wN (.store 12 2 19), wV 3 (.move (vI 30))] .ret) .skip))))) (.seq (sQ [wM 21 0, wV 22 (kF 96 [21]), wM 20 22, wV 23 (.extract 20 0), wV 24 (.extract 20 1), wV 4 (.alloc 24 z2L), wN (.store 2 4 23), wM 5 24] (sQ [wM 25 5, wV 26 (.bin .eql none 25 (vI 0))] (.cond 26 (sQ [wV 27 (.load 2 true 4), wV 28 (kF 97 [27]), wN (.store 12 2 28), wV 3 (.move (vI 0))] .ret) .skip))) (.seq (sQ [wM 30 0, wV 31 (kF 98 [30]), wM 29 31, wV 32 (.extract 29 0), wV 33 (.extract 29 1), wM 6 32, wM 7 33] (sQ [wM 34 7] (.cond 34 (sQ [wM 35 6, wV 36 (kF 99 [35]), wN (.store 12 2 36), wV 3 (.move (vI 0))] .ret) .skip))) (.seq (sQ [wV 37 (kF 100 []), wV 38 (.move (vI 0))] (.block 1 (.loop (sQ [wV 39 (.bin .lss none 38 (vI 9))] (.seq (.cond 39 .skip (.exit 1)) (.seq (.block 2 (sQ [wM 40 38, wV 41 (.idxVal 9 1 false 37 38), wM 8 40, wM 9 41] (sQ [wM 42 9, wV 43 (kF 101 [42]), wM 44 0, wV 45 (kF 101 [44]), wV 46 (.bin .eql none 43 45)] (.cond 46 (sQ [wM 47 8, wV 48 (.bin .add none 47 (vI 1)), wV 49 (kF 102 [48]), wN (.store 12 2 49), wV 3 (.move (vI 0))] .ret) .skip)))) (.ops [wV 50 (.bin .add none 38 (vI 1)), wM 38 50]))))))) (sQ [wM 51 0, wV 52 (kF 103 [51, (.val (.str [39]))]), wM 10 52] (.seq (sQ [wM 53 10, wV 54 (kF 104 [53]), wV 55 (.un .not 54)] (.cond 55 (sQ [wV 56 (.build z1L []), wN (.store 12 2 56), wV 3 (.move (vI 30))] .ret) .skip)) (sQ [wM 57 10, wV 58 (kF 105 [57]), wN (.store 12 2 58), wV 3 (.move (vI 0))] .ret)))))))), [.cell 2 12 true, 3], 59⟩
theorem JG41 : Ab Tryz.prog 41 = some JF41 := by kernel_rfl
theorem oddF (hg : hGr W0 G) {r : Nat} (h1 : 32 ≤ r) (h2 : r ≠ 127) : cP W0 146 [.int .i32 (r : Nat)] [] (.bool false) [] := by
 refine oF JG146 ?_
 refine sO (x1 rfl (sO (mV rfl (mF rfl (m2 rfl rfl (mF rfl (x2 rfl rfl ?_)))))))
 exact ExM.ret (pS)
theorem idxF (hg : hGr W0 G) {s : Bz} (h : Txt s 0) : cP W0 238 [.str s, .fn 146 [] [], .bool true] [] (.int .i64 (-1)) [] := by
 refine oF JG238 ?_
 refine sO (x1 rfl (sq (sO (mV rfl (mV (v := .ptr 0 0) rfl (mn (bM ?_)))))))
 refine ExM.loopS (σ := Nat) (fun i => ⟨.al [(0, .str s), (1, .fn 146 [] []), (2, .bool true), (10, .ptr 0 0)], [.iter s i], 21⟩) (fun i => Txt s i) (fun i => s.length - i) 0 (Ac rfl rfl (sbC rfl (sbC rfl (sbC rfl (sbC rfl sbN))))) h ?_
 intro i hT
 have hle := hT.le
 by_cases hin : i < s.length
 · obtain ⟨q1, q2, q3, q4⟩ := hT.rune hin
   refine sO (mV (v := .tup [.bool true, .int .i64 (i : Nat), .int .i32 ((Jz s i).1 : Nat)]) (nextY rfl rfl hin) (x1 rfl (sq (cT rfl (kM (bM (sO (x4 rfl rfl rfl rfl (sO (m2 rfl rfl (Fg hg gN (c := false) rfl rfl (A1.pure (args := [.int .i32 ((Jz s i).1 : Nat)]) rfl rfl (oddF hg q2 q3) _) rfl (mV rfl (mBk hg gN (c := false) rfl rfl rfl (mn (cF rfl (kM ?_))))))))))))))))
   exact ⟨i + (Jz s i).2, q1, by have := q1.le; unfold Jz at *; omega, Ac rfl rfl (sbC rfl (sbC rfl (sbC rfl (sbC rfl sbN))))⟩
 · refine sO (mV (v := .tup [.bool false]) (nextN rfl rfl hin) (x1 rfl (sq (cF rfl ?_))))
   refine ExM.exit ?_
   refine sO (x1 rfl ?_)
   exact ExM.ret (pL)
theorem idx186 (hg : hGr W0 G) {s : Bz} (h : Txt s 0) : cP W0 186 [.str s, .fn 146 [] []] [] (.int .i64 (-1)) [] := by
 refine oF JG186 ?_
 refine sO (x1 rfl (sO (m2 rfl rfl (mC rfl (idxF hg h) (x1 rfl ?_)))))
 exact ExM.ret (pS)
theorem con148 (hg : hGr W0 G) {s : Bz} (h : Txt s 0) : cP W0 148 [.str s, .fn 146 [] []] [] (.bool false) [] := by
 refine oF JG148 ?_
 refine sO (x1 rfl (sO (m2 rfl rfl (mC rfl (idx186 hg h) (mBk hg gN (c := false) rfl rfl rfl (x1 rfl ?_))))))
 exact ExM.ret (pS)
theorem textT (hg : hGr W0 G) (hw : Lw W0) {s : Bz} (h : Txt s 0) (hl : s.length ≤ 200) : cP W0 104 [.str s] [] (.bool true) [] := by
 refine oF JG104 ?_
 refine sO (x1 rfl (sO (x1 rfl (sO (m2 rfl rfl (mT rfl (m2 rfl rfl (Fg hg (gS rfl) (c := true) rfl rfl (lValid hw (by omega)) h.valid (m4 rfl rfl rfl rfl (Fg hg (gS rfl) (c := false) rfl rfl (con148 hg h) rfl (x3 rfl rfl rfl ?_)))))))))))
 exact ExM.ret (pS)
theorem A3d (hg : hGr W0 G) {s : Bz} (hs : s.length ≤ 100000) : Aj Tryz.prog W0 101 [.str s] (fun v => ∃ t, v = .str t) := by
 refine Aj.of_fnM JG101 (by simp) rfl ?_
 refine sO (x1 rfl (sO (mV rfl (mV (v := .hsl 1 0 0 s.length none) rfl (x1 rfl (sq (sO (x3 rfl rfl rfl (bM ?_)))))))))
 refine ExM.loop (σ := Nat × List Nat) (fun σ => ⟨.al [(3, .hsl 1 0 0 s.length none), (8, .hsl 1 0 0 s.length none), (9, .int .i64 (s.length : Nat)), (10, .int .i64 (σ.1 : Nat))], [.cells 5 (u8s σ.2) false], 30⟩) (fun σ => σ.1 ≤ s.length ∧ σ.2.length = s.length) (fun σ => s.length - σ.1) (0, s.map UInt8.toNat) (Ae 1 rfl (Nat.zero_le _) (by rw [← s2bB]; rfl) (L1 _) (fzC rfl (fvH rfl) (fzC rfl (fvH rfl) (fI (fI fzN))))) ⟨Nat.zero_le _, by simp⟩ ?_
 rintro ⟨i, l⟩ ⟨hi, hl⟩
 simp only at hi hl ⊢
 by_cases hin : i < s.length
 · by_cases h65 : 65 ≤ l.getD i 0
   · by_cases h90 : l.getD i 0 ≤ 90
     · refine sO (mT rfl (mn (sq (cT rfl (kM (sq (bM (sO (mV rfl (mS (v := .ptr 0 i) (Qx rfl rfl rfl) (mV (v := .int .u8 (l.getD i 0 : Nat)) (Nl rfl rfl (by omega)) (x2 rfl rfl (sO (mV rfl (mT rfl (m2 rfl rfl (mT rfl (x1 rfl (cT rfl (oM (m3 rfl rfl rfl (mKs (v := .int .u8 ((l.getD i 0 + 97 : Nat))) rfl (w8E (by omega) (by omega) (by omega)) (mK (v := .int .u8 ((l.getD i 0 + 32 : Nat))) rfl (w8E (by omega) (by omega) (by omega)) (mS (v := .ptr 0 i) (Qx rfl rfl rfl) (A6 hg gN (A1w rfl rfl rfl (by omega) rfl) (mn (oM (mI ((i + 1 : Nat)) rfl (x1 rfl ?_)))))))))))))))))))))))))))))
       exact ⟨(i + 1, l.set i (l.getD i 0 + 32)), ⟨by simp only; omega, by simp only [List.length_set]; exact hl⟩, by simp only; omega, Ae 1 rfl (Nat.zero_le _) rfl (L1 _) (fzC rfl (fvH rfl) (fzC rfl (fvH rfl) (fI (fI fzN))))⟩
     · refine sO (mT rfl (mn (sq (cT rfl (kM (sq (bM (sO (mV rfl (mS (v := .ptr 0 i) (Qx rfl rfl rfl) (mV (v := .int .u8 (l.getD i 0 : Nat)) (Nl rfl rfl (by omega)) (x2 rfl rfl (sO (mV rfl (mT rfl (m2 rfl rfl (mF rfl (x1 rfl (cF rfl (kM (oM (mI ((i + 1 : Nat)) rfl (x1 rfl ?_)))))))))))))))))))))))
       exact ⟨(i + 1, l), ⟨by simp only; omega, by simp only []; exact hl⟩, by simp only; omega, Ae 1 rfl (Nat.zero_le _) rfl (L1 _) (fzC rfl (fvH rfl) (fzC rfl (fvH rfl) (fI (fI fzN))))⟩
   · refine sO (mT rfl (mn (sq (cT rfl (kM (sq (bM (sO (mV rfl (mS (v := .ptr 0 i) (Qx rfl rfl rfl) (mV (v := .int .u8 (l.getD i 0 : Nat)) (Nl rfl rfl (by omega)) (x2 rfl rfl (sO (mV rfl (mF rfl (mV rfl (mG (mG (x1 rfl (cF rfl (kM (oM (mI ((i + 1 : Nat)) rfl (x1 rfl ?_))))))))))))))))))))))))
     exact ⟨(i + 1, l), ⟨by simp only; omega, by simp only []; exact hl⟩, by simp only; omega, Ae 1 rfl (Nat.zero_le _) rfl (L1 _) (fzC rfl (fvH rfl) (fzC rfl (fvH rfl) (fI (fI fzN))))⟩
 · refine sO (mF rfl (mn (sq (cF rfl ?_))))
   refine ExM.exit ?_
   refine sO (mV rfl (mV (v := .str (l.map UInt8.ofNat)) (b2sB rfl rfl hl.symm) (x1 rfl ?_)))
   exact ExM.ret ⟨_, ⟨_, rfl⟩, A0 trivial rfl rfl 100 rfl rfl⟩
theorem truthsV (hg : hGr W0 G) {s : Bz} (hs : s.length ≤ 100000) : Aj Tryz.prog W0 98 [.str s] (fun v => ∃ a b, v = .tup [.bool a, .bool b]) := by
 refine Aj.of_fnM JG98 (by simp) rfl ?_
 refine sO (x2 rfl rfl (sO (mV rfl ?_)))
 refine Bd hg gN rfl rfl rfl (A3d hg hs) ?_ ?_
 · rintro _ ⟨t, rfl⟩; rfl
 rintro _ ⟨t, rfl⟩
 refine x1 rfl (sO (mV rfl ?_))
 refine mB hg gN rfl rfl trivial (fun h1 => ?_) (fun h1 => ?_)
 · refine mV rfl ?_
   refine mB hg gN rfl rfl trivial (fun h2 => ?_) (fun h2 => ?_)
   · refine mV rfl (mG (mG (x3 rfl rfl rfl ?_)))
     exact ExM.ret ⟨_, ⟨_, _, rfl⟩, A4 trivial rfl rfl rfl⟩
   · refine m2 rfl rfl ?_
     refine mB hg (gS rfl) rfl rfl trivial (fun h3 => ?_) (fun h3 => ?_)
     · refine x3 rfl rfl rfl ?_
       exact ExM.ret ⟨_, ⟨_, _, rfl⟩, A4 trivial rfl rfl rfl⟩
     · refine x3 rfl rfl rfl ?_
       exact ExM.ret ⟨_, ⟨_, _, rfl⟩, A4 trivial rfl rfl rfl⟩
 · refine mV rfl ?_
   refine mB hg gN rfl rfl trivial (fun h4 => ?_) (fun h4 => ?_)
   · refine mV rfl (mG (mG (x3 rfl rfl rfl ?_)))
     exact ExM.ret ⟨_, ⟨_, _, rfl⟩, A4 trivial rfl rfl rfl⟩
   · refine m2 rfl rfl ?_
     refine mB hg (gS rfl) rfl rfl trivial (fun h5 => ?_) (fun h5 => ?_)
     · refine x3 rfl rfl rfl ?_
       exact ExM.ret ⟨_, ⟨_, _, rfl⟩, A4 trivial rfl rfl rfl⟩
     · refine x3 rfl rfl rfl ?_
       exact ExM.ret ⟨_, ⟨_, _, rfl⟩, A4 trivial rfl rfl rfl⟩
theorem numV (hg : hGr W0 G) {m e : Int} : cP W0 97 [.agg [.int .i64 m, .int .i64 e]] [] (Cd 1 m e [] false 0) [] := by
 refine oF JG97 ?_
 refine sO (mV (v := .ptr 0 0) rfl (mV (v := .ptr 1 0) rfl (mn (sO (m2 rfl rfl (A6 hg gN rfl (mn ?_)))))))
 exact ExM.ret (pL)
theorem truV (hg : hGr W0 G) {b : Bool} : cP W0 99 [.bool b] [] (Cd 3 0 0 [] b 0) [] := by
 refine oF JG99 ?_
 refine sO (mV (v := .ptr 0 0) rfl (mn (sO (m2 rfl rfl (A6 hg gN rfl (mn ?_))))))
 exact ExM.ret (pL)
theorem errV (hg : hGr W0 G) {n : Int} : cP W0 102 [.int .i64 n] [] (Cd 4 0 0 [] false n) [] := by
 refine oF JG102 ?_
 refine sO (mV (v := .ptr 0 0) rfl (mn (sO (m2 rfl rfl (A6 hg gN rfl (mn ?_))))))
 exact ExM.ret (pL)
theorem saidV (hg : hGr W0 G) {s : Bz} : cP W0 105 [.str s] [] (Cd 2 0 0 s false 0) [] := by
 refine oF JG105 ?_
 refine sO (mV (v := .ptr 0 0) rfl (mn (sO (m2 rfl rfl (A6 hg gN rfl (mn ?_))))))
 exact ExM.ret (pL)
def nms : List Bz := [[35, 78, 85, 76, 76, 33], [35, 68, 73, 86, 47, 48, 33], [35, 86, 65, 76, 85, 69, 33], [35, 82, 69, 70, 33], [35, 78, 65, 77, 69, 63], [35, 78, 85, 77, 33], [35, 78, 47, 65], [35, 83, 80, 73, 76, 76, 33], [35, 67, 73, 82, 67, 33]]
theorem namesV (hg : hGr W0 G) : cP W0 100 [] [] (.agg (nms.map AVal.str)) [] := by
 refine oF JG100 ?_
 refine sO (mV (v := .ptr 0 0) rfl (mn (sO (mV rfl (A6 hg gN rfl (mn ?_))))))
 exact ExM.ret (pL)
theorem idxV {s : St} {x i : AOpd} {j : Nat} (hx : ev G s x = some (.agg (nms.map AVal.str))) (hi : ev G s i = some (.int .i64 (j : Nat))) (hj : j < 9) : aop G s (.idxVal 9 1 false x i) = some (.val (.str (nms.getD j [])) s.H [(0, (j : Int)), ((j : Int) + 1, ((9 : Nat) : Int))]) := by
 simp only [aop, hx, hi]
 have : j = 0 ∨ j = 1 ∨ j = 2 ∨ j = 3 ∨ j = 4 ∨ j = 5 ∨ j = 6 ∨ j = 7 ∨ j = 8 := by omega
 rcases this with rfl | rfl | rfl | rfl | rfl | rfl | rfl | rfl | rfl <;> rfl
theorem nms_len (j : Nat) : (nms.getD j []).length ≤ 100 := by
 rcases Nat.lt_or_ge j 9 with h | h
 · have : j = 0 ∨ j = 1 ∨ j = 2 ∨ j = 3 ∨ j = 4 ∨ j = 5 ∨ j = 6 ∨ j = 7 ∨ j = 8 := by omega
   rcases this with rfl | rfl | rfl | rfl | rfl | rfl | rfl | rfl | rfl <;> decide
 · rw [List.getD_eq_getElem?_getD, List.getElem?_eq_none (by exact h)]; decide
theorem A25 {s : Bz} : (Lib.trimPrefix s [39]).length ≤ s.length := by
 rcases tr39 s with h | ⟨r, rfl, h⟩
 · rw [h]; exact Nat.le_refl _
 · rw [h]; simp
theorem readOK (hk : Kn W0) (hg : hGr W0 G) (hdec : ∀ s : Bz, s.length ≤ 200 → Aj Tryz.prog W0 96 [.str s] fun v => ∃ m e er : Int, v = .tup [.agg [.int .i64 m, .int .i64 e], .int .i64 er]) {s : Bz} (hl : lit s) (hne : s ≠ []) : Aj Tryz.prog W0 41 [.str s] (fun v => blw 0 v = true ∧ ∃ c, v = .tup [.agg c, .int .i64 0] ∧ c.length = 12 ∧ c.all AVal.one = true) := by
 obtain ⟨h1, hlen, hT⟩ := hl
 have h61 : s.getD 0 0 ≠ 61 := by
  cases s with
  | nil => exact absurd rfl hne
  | cons c r => exact h1 c r rfl
 refine Aj.of_fnM JG41 (by simp) rfl ?_
 refine sO (mV (v := .ptr 0 0) rfl (x1 rfl (sq (bM (sO (mV rfl (mBk hg gN (c := false) rfl rfl (by rw [bFn]; exact hne) (x1 rfl (cF rfl (sO (mV rfl (Ag hg gN (v := .int .u8 ((s.getD 0 0).toNat : Nat)) (E3 (n := 0) rfl rfl) rfl (by have := List.length_pos_iff.2 hne; simp only [Af, and_true]; omega) (mBk hg gN (c := false) rfl rfl (by rw [bFn]; intro e; exact h61 (UInt8.toNat_inj.1 (by have e2 : (61 : UInt8).toNat = 61 := rfl; omega))) (x1 rfl (cF rfl (kM (sq (sO (mV rfl ?_)))))))))))))))))))
 refine Bd hg gN rfl rfl rfl (hdec s hlen) ?_ ?_
 · rintro _ ⟨m, e, er, rfl⟩; rfl
 rintro _ ⟨m, e, er, rfl⟩
 refine m3 rfl rfl rfl (mV (v := .ptr 1 0) rfl (A6 hg gN rfl (x1 rfl (sO (mV rfl ?_)))))
 refine mB hg gN rfl rfl trivial (fun h1 => ?_) (fun h1 => ?_)
 · refine mn (cT rfl (sO (mV rfl (mC rfl (A1.pure rfl rfl (numV hg) _) (A6 hg gN rfl (x1 rfl ?_))))))
   exact ExM.ret ⟨_, ⟨rfl, _, rfl, rfl, rfl⟩, A0 trivial rfl rfl 100 rfl rfl⟩
 · refine mn (cF rfl (kM (sq (sO (mV rfl ?_)))))
   refine Bd hg gN rfl rfl rfl (truthsV hg (by omega)) ?_ ?_
   · rintro _ ⟨a1, a2, rfl⟩; rfl
   rintro _ ⟨a1, a2, rfl⟩
   refine mV rfl (x4 rfl rfl rfl rfl (sO ?_))
   refine mB hg gN rfl rfl trivial (fun h2 => ?_) (fun h2 => ?_)
   · refine mn (cT rfl (sO (mV rfl (mC rfl (A1.pure rfl rfl (truV hg) _) (A6 hg gN rfl (x1 rfl ?_))))))
     exact ExM.ret ⟨_, ⟨rfl, _, rfl, rfl, rfl⟩, A0 trivial rfl rfl 100 rfl rfl⟩
   · refine mn (cF rfl (kM (sq (sO (mC rfl (A1.pure rfl rfl (namesV hg) _) (x1 rfl (bM ?_)))))))
     refine ExM.loop (σ := Nat) (fun j => ⟨.al [(0, .str s), (2, .ptr 0 0), (37, .agg (nms.map AVal.str)), (38, .int .i64 (j : Nat))], [.cells 62 z1L false], 59⟩) (fun j => j ≤ 9) (fun j => 9 - j) 0 (Ae 1 rfl (Nat.zero_le _) rfl rfl (fS (fzC rfl (fvP rfl) (fzC rfl (.inl ⟨12, rfl⟩) (fI fzN))))) (by decide) ?_
     rintro j hj
     by_cases hj9 : j < 9
     · refine sO (mT rfl (mn (sq (cT rfl (kM (sq (bM (sO (mV rfl (mS (v := .str (nms.getD j [])) (idxV rfl rfl hj9) (x2 rfl rfl (sO (mV rfl ?_)))))))))))))
       refine Bd hg gN rfl rfl rfl (A3d hg (s := nms.getD j []) (Nat.le_trans (nms_len j) (by decide))) ?_ ?_
       · rintro _ ⟨t1, rfl⟩; rfl
       rintro _ ⟨t1, rfl⟩
       refine mV rfl ?_
       refine Bd hg gN rfl rfl rfl (A3d hg (by omega)) ?_ ?_
       · rintro _ ⟨t2, rfl⟩; rfl
       rintro _ ⟨t2, rfl⟩
       refine mB hg gN rfl rfl trivial (fun h3 => ?_) (fun h3 => ?_)
       · refine mn (cT rfl (sO (mV rfl (mI ((j + 1 : Nat)) rfl (mC rfl (A1.pure rfl rfl (errV hg) _) (A6 hg gN rfl (x1 rfl ?_)))))))
         exact ExM.ret ⟨_, ⟨rfl, _, rfl, rfl, rfl⟩, A0 trivial rfl rfl 100 rfl rfl⟩
       · refine mn (cF rfl (kM (oM (mI ((j + 1 : Nat)) rfl (x1 rfl ?_)))))
         exact ⟨j + 1, by omega, by omega, Ae 1 rfl (Nat.zero_le _) rfl rfl (fS (fzC rfl (fvP rfl) (fzC rfl (.inl ⟨12, rfl⟩) (fI fzN))))⟩
     · refine sO (mF rfl (mn (sq (cF rfl ?_))))
       refine ExM.exit ?_
       refine sO (mV rfl (mC rfl Xl (x1 rfl (sq (sO (mV rfl (Fg hg gN (c := true) rfl rfl (A1.pure rfl rfl (textT hg hk.w hT (Nat.le_trans A25 (by omega))) _) rfl (x1 rfl (cF rfl (kM (sO (mV rfl (mC rfl (A1.pure rfl rfl (saidV hg) _) (A6 hg gN rfl (x1 rfl ?_)))))))))))))))
       exact ExM.ret ⟨_, ⟨rfl, _, rfl, rfl, rfl⟩, A0 trivial rfl rfl 100 rfl rfl⟩
end Go.Abs
