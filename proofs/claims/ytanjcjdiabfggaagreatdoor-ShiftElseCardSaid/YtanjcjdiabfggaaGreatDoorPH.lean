/- A part of the proof that tabula/tabulalaw17.ShiftElse returns true for every input, each argument reading as it did (its card: the last text). No conditions of its own. -/
import Derived.Test.YtanjcjdiabfggaaGreatDoorPG
namespace Go.Abs
open Go.Proofs Go.RowKit
set_option maxRecDepth 100000
variable {W0 : World} {G : List (Nat × AVal)}
theorem Ed {s : St} {x i : AOpd} {t : Bz} {n : Nat} (hx : ev G s x = some (.str t)) (hi : ev G s i = some (.int .i64 (n : Nat))) : aop G s (.idxStr x i) = some (.val (.int .u8 ((t.getD n 0).toNat : Nat)) s.H [(0, (n : Nat)), ((n : Nat) + 1, (t.length : Nat))]) := by
 simp only [aop, hx, hi, Int.toNat_natCast]
def I0 (c : UInt8) : Prop := 48 ≤ c.toNat ∧ c.toNat ≤ 57
def KF145 : AFn := ⟨(sQ [wV 4 (.move (vI 0))] (sQ [wV 5 (.move (vI 0))] (.seq (.block 0 (.loop (.seq (sQ [wM 6 1, wM 7 5, wV 8 (.bin .add none 6 7), wM 9 0, wV 10 (.len true 9), wV 11 (.bin .lss none 8 10), wM 12 11, wT 13 12 (.move 0), wT 14 12 (.move 1), wT 15 12 (.move 5), wT 16 12 (.bin .add none 14 15), wT 17 12 (.idxStr 13 16), wT 18 12 (.bin .geq none 17 (.val (.int .u8 48))), wV 19 (.pick 12 18 (.val (.bool false))), wM 20 19, wT 21 20 (.move 0), wT 22 20 (.move 1), wT 23 20 (.move 5), wT 24 20 (.bin .add none 22 23), wT 25 20 (.idxStr 21 24), wT 26 20 (.bin .leq none 25 (.val (.int .u8 57))), wV 27 (.pick 20 26 (.val (.bool false)))] (.cond 27 .skip (.exit 0))) (.block 1 (.ops [wM 28 5, wV 29 (.bin .add none 28 (vI 1)), wM 5 29]))))) (sQ [wM 30 5, wM 4 30] .ret)))), [4], 31⟩
theorem KG145 : Au Tryz.prog 145 = some KF145 := by kernel_rfl
def KF88t : ACode := sQ [wV 9 (.move (.val (.nilSl)))] (.seq (sQ [wM 69 7, wV 70 (.bin .sub none 69 (vI 1)), wM 10 70] (.block 0 (.loop (.seq (sQ [wM 71 10, wM 72 5, wV 73 (.bin .geq none 71 72)] (.cond 73 .skip (.exit 0))) (.seq (.block 1 (sQ [wM 76 0, wM 77 10, wV 78 (.idxStr 76 77), wV 79 (.bin .neq none 78 (.val (.int .u8 46)))] (.cond 79 (.ops [wM 80 9, wM 81 0, wM 82 10, wV 83 (.idxStr 81 82), wV 84 (.bin .sub none 83 (.val (.int .u8 48))), wV 85 (.conv (.int .i64) 84), wV 86 (.bslice 3 1 1 [.int .i64 0] [(0, 1, 85)]), wV 87 (.append 3 1 8 80 86), wM 9 87]) .skip))) (.ops [wM 74 10, wV 75 (.bin .sub none 74 (vI 1)), wM 10 75])))))) (sQ [wM 88 9, wV 89 (kF 146 [88]), wM 11 89] (sQ [wM 91 4, wM 92 11, wM 93 8, wV 94 (kF 147 [93]), wV 95 (kF 95 [91, 92, 94]), wM 90 95, wV 96 (.extract 90 0), wV 97 (.extract 90 1), wV 12 (.alloc 24 [.int .i64 0, .int .i64 0]), wN (.store 2 12 96), wM 13 97] (.seq (sQ [wM 98 13, wV 99 (.bin .neq none 98 (vI 0))] (.cond 99 (sQ [wV 100 (.build [.int .i64 0, .int .i64 0] []), wM 101 13, wN (.store 2 2 100), wM 3 101] .ret) .skip)) (sQ [wV 102 (.load 2 true 12), wV 103 (kF 98 [102]), wM 104 8, wV 105 (kF 99 [103, 104]), wM 14 105] (sQ [wM 106 11, wV 107 (kF 99 [106, (vI 9)]), wM 15 107] (.seq (sQ [wM 108 14, wM 109 15, wV 110 (kF 97 [108, 109]), wM 111 110, wF 112 111 (.move 15), wF 113 111 (.move 14), wF 114 111 (kF 97 [112, 113]), wV 115 (.pick 111 (.val (.bool true)) 114)] (.cond 115 (sQ [wV 116 (.build [.int .i64 0, .int .i64 0] []), wN (.store 2 2 116), wV 3 (.move (vI 10))] .ret) .skip)) (sQ [wV 117 (.load 2 true 12), wN (.store 2 2 117), wV 3 (.move (vI 0))] .ret))))))))
def KF88 : AFn := ⟨(sQ [wV 2 (.alloc 24 [.int .i64 0, .int .i64 0]), wV 3 (.move (vI 0))] (sQ [wM 16 0, wV 17 (.len true 16), wV 18 (.bin .gtr none 17 (vI 0)), wM 19 18, wT 20 19 (.move 0), wT 21 19 (.idxStr 20 (vI 0)), wT 22 19 (.bin .eql none 21 (.val (.int .u8 45))), wV 23 (.pick 19 22 (.val (.bool false))), wM 4 23] (sQ [wV 5 (.move (vI 0))] (.seq (sQ [wM 24 4] (.cond 24 (.ops [wV 5 (.move (vI 1))]) .skip)) (sQ [wM 25 0, wM 26 5, wV 27 (kF 145 [25, 26]), wM 6 27] (sQ [wM 28 5, wM 29 6, wV 30 (.bin .add none 28 29), wM 7 30] (sQ [wV 8 (.move (vI 0))] (.seq (sQ [wM 31 7, wM 32 0, wV 33 (.len true 32), wV 34 (.bin .lss none 31 33), wM 35 34, wT 36 35 (.move 0), wT 37 35 (.move 7), wT 38 35 (.idxStr 36 37), wT 39 35 (.bin .eql none 38 (.val (.int .u8 46))), wV 40 (.pick 35 39 (.val (.bool false)))] (.cond 40 (sQ [wM 41 0, wM 42 7, wV 43 (.bin .add none 42 (vI 1)), wV 44 (kF 145 [41, 43]), wM 8 44] (.seq (sQ [wM 45 8, wV 46 (.bin .eql none 45 (vI 0))] (.cond 46 (sQ [wV 47 (.build [.int .i64 0, .int .i64 0] []), wN (.store 2 2 47), wV 3 (.move (vI 12))] .ret) .skip)) (.ops [wM 48 7, wV 49 (.bin .add none 48 (vI 1)), wM 50 8, wV 51 (.bin .add none 49 50), wM 7 51]))) .skip)) (.seq (sQ [wM 52 6, wV 53 (.bin .lss none 52 (vI 1)), wM 54 53, wF 55 54 (.move 6), wF 56 54 (.bin .gtr none 55 (vI 40)), wV 57 (.pick 54 (.val (.bool true)) 56), wM 58 57, wF 59 58 (.move 8), wF 60 58 (.bin .gtr none 59 (vI 40)), wV 61 (.pick 58 (.val (.bool true)) 60), wM 62 61, wF 63 62 (.move 7), wF 64 62 (.move 0), wF 65 62 (.len true 64), wF 66 62 (.bin .neq none 63 65), wV 67 (.pick 62 (.val (.bool true)) 66)] (.cond 67 (sQ [wV 68 (.build [.int .i64 0, .int .i64 0] []), wN (.store 2 2 68), wV 3 (.move (vI 12))] .ret) .skip)) KF88t))))))))), [.cell 2 2 true, 3], 118⟩
theorem KG88 : Au Tryz.prog 88 = some KF88 := by kernel_rfl
theorem A3l (hg : Gr Tryz.prog W0 G) {s : Bz} {f : Nat} (hs : s.length ≤ 1000000) (hf : f ≤ s.length) : Aq Tryz.prog W0 145 [.str s, .int .i64 (f : Nat)] (fun v => ∃ n : Nat, v = .int .i64 (n : Nat) ∧ f + n ≤ s.length ∧ ∀ i, i < n → I0 (s.getD (f + i) 0)) := by
 refine Aq.of_fnM KG145 (by simp) rfl ?_
 refine sO (mV rfl (mn (sO (mV rfl (mn (sq (bM ?_)))))))
 refine ExM.loop (σ := Nat) (fun n => ⟨.al [(0, .str s), (1, .int .i64 (f : Nat)), (5, .int .i64 (n : Nat))], [], 31⟩) (fun n => f + n ≤ s.length ∧ ∀ i, i < n → I0 (s.getD (f + i) 0)) (fun n => s.length - (f + n)) 0 (Ap 0 rfl (Nat.le_refl _) rfl rfl (fzC rfl fvS (fzC rfl fvI (fzC rfl fvI fzN)))) ⟨hf, fun i hi => by omega⟩ ?_
 rintro n ⟨hn, hd⟩
 by_cases h1 : f + n < s.length
 · by_cases h2 : 48 ≤ (s.getD (f + n) 0).toNat
   · by_cases h3 : (s.getD (f + n) 0).toNat ≤ 57
     · refine sq (sO (mV rfl (mV rfl (mI ((f + n : Nat)) rfl (mV rfl (mV rfl (mT rfl (mV rfl (mV rfl (mV rfl (mV rfl (mI ((f + n : Nat)) rfl (mS (v := .int .u8 ((s.getD (f + n) 0).toNat : Nat)) (Ed rfl rfl) (mT rfl (mV rfl (mV rfl (mV rfl (mV rfl (mV rfl (mI ((f + n : Nat)) rfl (mS (v := .int .u8 ((s.getD (f + n) 0).toNat : Nat)) (Ed rfl rfl) (mT rfl (mV rfl (mn (cT rfl (kM (bM (oM (mV rfl (mI ((n + 1 : Nat)) rfl (mV rfl (mn ?_))))))))))))))))))))))))))))))))
       exact ⟨n + 1, ⟨by omega, fun i hi => by
        by_cases hin : i = n
        · subst hin; exact ⟨h2, h3⟩
        · exact hd i (by omega)⟩, by omega, Ap 0 rfl (Nat.le_refl _) rfl rfl (fzC rfl fvS (fzC rfl fvI (fzC rfl fvI fzN)))⟩
     · refine sq (sO (mV rfl (mV rfl (mI ((f + n : Nat)) rfl (mV rfl (mV rfl (mT rfl (mV rfl (mV rfl (mV rfl (mV rfl (mI ((f + n : Nat)) rfl (mS (v := .int .u8 ((s.getD (f + n) 0).toNat : Nat)) (Ed rfl rfl) (mT rfl (mV rfl (mV rfl (mV rfl (mV rfl (mV rfl (mI ((f + n : Nat)) rfl (mS (v := .int .u8 ((s.getD (f + n) 0).toNat : Nat)) (Ed rfl rfl) (mF rfl (mV rfl (mn (cF rfl ?_)))))))))))))))))))))))))
       refine ExM.exit ?_
       refine sO (mV rfl (mV rfl (mn ?_)))
       exact ExM.ret ⟨_, ⟨n, rfl, hn, hd⟩, A5 trivial rfl rfl rfl⟩
   · refine sq (sO (mV rfl (mV rfl (mI ((f + n : Nat)) rfl (mV rfl (mV rfl (mT rfl (mV rfl (mV rfl (mV rfl (mV rfl (mI ((f + n : Nat)) rfl (mS (v := .int .u8 ((s.getD (f + n) 0).toNat : Nat)) (Ed rfl rfl) (mF rfl (mV rfl (mV rfl (mG (mG (mG (mG (mG (mG (mV rfl (mn (cF rfl ?_)))))))))))))))))))))))))
     refine ExM.exit ?_
     refine sO (mV rfl (mV rfl (mn ?_)))
     exact ExM.ret ⟨_, ⟨n, rfl, hn, hd⟩, A5 trivial rfl rfl rfl⟩
 · refine sq (sO (mV rfl (mV rfl (mI ((f + n : Nat)) rfl (mV rfl (mV rfl (mF rfl (mV rfl (mG (mG (mG (mG (mG (mG (mV rfl (mV rfl (mG (mG (mG (mG (mG (mG (mV rfl (mn (cF rfl ?_)))))))))))))))))))))))))
   refine ExM.exit ?_
   refine sO (mV rfl (mV rfl (mn ?_)))
   exact ExM.ret ⟨_, ⟨n, rfl, hn, hd⟩, A5 trivial rfl rfl rfl⟩
theorem val500 {d : List Nat} (hd : Dig d) (hl : d.length ≤ 100) : val d < 10 ^ 100 := by
 have h1 := Iz hd d.length
 have h2 : 10 ^ d.length ≤ 10 ^ 100 := Nat.pow_le_pow_right (by decide) (by omega)
 exact nLl h1 h2
theorem ten500 {m : Nat} (hm : m ≤ 90) : 1 * 10 ^ ((m : Nat) : Int).toNat < 10 ^ 100 := by
 rw [Nat.one_mul, Int.toNat_natCast]
 exact Nat.pow_lt_pow_right (by decide) (by omega)
theorem w8E {x y : Int} (h1 : 0 ≤ x) (h2 : x ≤ 255) (h : x = y) : AVal.int .u8 (IntKind.u8.wrap x) = .int .u8 y := by
 have : IntKind.u8.wrap x = x := by rw [IntKind.wrap_u8]; omega
 rw [this, h]
theorem mul1000 {x m : Nat} (hx : x < 10 ^ 150) (hm : m ≤ 90) : x * 10 ^ ((m : Nat) : Int).toNat < 10 ^ 250 := by
 rw [Int.toNat_natCast]
 have h1 : 10 ^ m ≤ 10 ^ 90 := Nat.pow_le_pow_right (by decide) hm
 have h2 : 0 < 10 ^ m := Nat.pow_pos (by decide)
 have h3 : x * 10 ^ m < 10 ^ 150 * 10 ^ m := Nat.mul_lt_mul_of_pos_right hx h2
 have h4 : 10 ^ 150 * 10 ^ m ≤ 10 ^ 150 * 10 ^ 90 := Nat.mul_le_mul_left _ h1
 have h5 : 10 ^ 150 * 10 ^ 90 ≤ 10 ^ 250 := by rw [← Nat.pow_add]; exact Nat.pow_le_pow_right (by decide) (by decide)
 exact nLl (nLl h3 h4) h5
theorem Qq {k T : Nat} {l : List Nat} (h : Fg k (oh l) = true) : Fg k (.cells T [.int .i64 0, .int .i64 0] false :: oh l) = true := h
theorem Tf (hg : Gr Tryz.prog W0 G) {s : Bz} {f tq mm : Nat} {b : Bool} (_ : s.length ≤ 100000) (hft : f ≤ tq) (hto : tq ≤ s.length) (htl : tq ≤ 100) (hmm : mm ≤ 40) (hdg : ∀ i, f ≤ i → i < tq → (s.getD i 0).toNat = 46 ∨ I0 (s.getD i 0)) : ExM Tryz.prog W0 0 KF88t ⟨.al [(0, .str s), (2, .ptr 0 0), (3, .int .i64 0), (4, .bool b), (5, .int .i64 (f : Nat)), (7, .int .i64 (tq : Nat)), (8, .int .i64 (mm : Nat))], [.cells 24 [.int .i64 0, .int .i64 0] false], 118⟩ (fun e s' => ∃ v, (∃ M E er : Int, v = P5 (M, E, er)) ∧ Ye KF88.res 0 v [] e s') := by
 refine sO (mV rfl (mn (sq (sO (mV rfl (mK (v := .int .i64 ((tq : Nat) - 1)) rfl (Br (by omega) (by omega) rfl) (mV rfl (mn (bM ?_)))))))))
 refine ExM.loop (σ := Nat × List Nat) (fun σ => ⟨.al [(0, .str s), (2, .ptr 0 0), (3, .int .i64 0), (4, .bool b), (5, .int .i64 f), (8, .int .i64 (mm : Nat)), (9, ov 1 σ.2), (10, .int .i64 ((σ.1 : Nat) - 1))], .cells 24 [.int .i64 0, .int .i64 0] false :: oh σ.2, 118⟩) (fun σ => f ≤ σ.1 ∧ σ.1 ≤ tq ∧ Dig σ.2 ∧ σ.2.length + σ.1 ≤ tq) (fun σ => σ.1) (tq, []) (Ap 1 rfl (Nat.zero_le _) rfl rfl (fzC rfl fvS (fzC rfl (fvP rfl) (fzC rfl fvI (fzC rfl fvB (fzC rfl fvI (fzC rfl fvI (fzC rfl J0 (fzC rfl fvI fzN))))))))) ⟨by omega, Nat.le_refl _, Dig.nil, by simp⟩ ?_
 rintro ⟨k, l⟩ ⟨hk1, hk2, hl, hll⟩
 simp only at hk1 hk2 hl hll ⊢
 by_cases hk : k = f
 · have hvl := val500 hl (by omega)
   have hnb := Zm b (val l) (1 * 10 ^ (((mm : Nat) : Nat) : Int).toNat)
   have hnear : ∀ H, cP W0 95 [.bool b, dN (val l), tN 1 ((mm : Nat) : Nat)] H (P5 (Hh b (val l) (1 * 10 ^ (((mm : Nat) : Nat) : Int).toNat))) H := fun H => A3.sub3 (Sub.refl _) (Sub.refl _) (Bt 1 _) (A2e hg hvl (ten500 (by omega)) (Nat.mul_pos (by decide) (Nat.pow_pos (by decide))) H)
   generalize Hh b (val l) (1 * 10 ^ (((mm : Nat) : Nat) : Int).toNat) = p at hnb hnear
   obtain ⟨pM, pE, pe⟩ := p
   simp only at hnb
   replace hnear : ∀ H, cP W0 95 [.bool b, dN (val l), tN 1 ((mm : Nat) : Nat)] H (.tup [.agg [.int .i64 pM, .int .i64 pE], .int .i64 pe]) H := hnear
   have hA : pM.natAbs * 10 ^ (pE + 9).toNat * 10 ^ (((mm : Nat) : Nat) : Int).toNat < 10 ^ 250 := mul1000 (Xg (Ds hnb.1 hnb.2.1) (by omega)) (by omega)
   have hA' := (Az (Xg (x := pM.natAbs) (n := pE + 9) (Ds hnb.1 hnb.2.1) (by omega))).2.2.1
   have hB : val l * 10 ^ (9 : Int).toNat < 10 ^ 250 := (Az (Xg hvl (by decide))).2.2.1
   refine sq (sO (mV rfl (mV rfl (mF rfl (mn (cF rfl ?_))))))
   refine ExM.exit ?_
   refine sO (mV rfl ?_)
   refine mFz (Ap (l := [(0, .str s), (2, .ptr 0 0), (3, .int .i64 0), (4, .bool b), (8, .int .i64 (mm : Nat)), (88, dg l)]) 1 rfl (Nat.zero_le _) rfl rfl (fzC rfl fvS (fzC rfl (fvP rfl) (fzC rfl fvI (fzC rfl fvB (fzC rfl fvI (fzC rfl fvOv1 fzN))))))) ?_
   refine mC rfl (show cP W0 146 [dg l] _ (dN (val l)) _ from A3.pure (by simp [C0, dg, blw, C7]) (A20 0 _) (by rw [dN, ← Jf hl]; exact Tt hg (by omega)) _) (mV rfl (mn (sO (mV rfl (mV rfl (mV rfl (mC rfl (unitP hg (by omega) _) (mC rfl (hnear _) (mV rfl (mV rfl (mV rfl (mV (v := .ptr 1 0) rfl (Ai hg gN rfl (mV rfl (mn (sq (sO (mV rfl ?_))))))))))))))))))
   refine mB hg gN rfl rfl trivial (fun h1 => ?_) (fun h1 => ?_)
   · refine mn (cT rfl (sO (mV rfl (mV rfl (Ai hg gN rfl (mV rfl (mn ?_)))))))
     exact ExM.ret ⟨_, ⟨_, _, _, rfl⟩, A4 trivial rfl rfl 100 rfl rfl⟩
   · refine mn (cF rfl (kM (sO (mV rfl (mC rfl (Jt hg hnb.1 hnb.2.1 hnb.2.2.1 hnb.2.2.2 _) (mV rfl (mC rfl (A3.sub2 (Bt _ _) (Sub.refl _) (Em hg (x := pM.natAbs * 10 ^ (pE + 9).toNat) (n := ((mm : Nat) : Nat)) hA' (by omega) _)) (mV rfl (mn (sO (mV rfl (mC rfl (Em hg (x := val l) (n := 9) (Lj hvl) (by decide) _) (mV rfl (mn (sq (sO (mV rfl (mV rfl ?_))))))))))))))))))
     refine mCB hg gN rfl rfl (A3.sub2 (Bt _ _) (Bt _ _) (Bl hg (x := pM.natAbs * 10 ^ (pE + 9).toNat * 10 ^ (((mm : Nat) : Nat) : Int).toNat) (y := val l * 10 ^ (9 : Int).toNat) hA hB _)) (fun h2 => ?_) (fun h2 => ?_)
     · refine mV rfl (mG (mG (mG (mV rfl (mn (cT rfl (sO (mV rfl (Ai hg gN rfl (mV rfl (mn ?_)))))))))))
       exact ExM.ret ⟨_, ⟨_, _, _, rfl⟩, A4 trivial rfl rfl 100 rfl rfl⟩
     · refine mV rfl (mV rfl (mV rfl ?_))
       refine mCB hg (gS rfl) rfl rfl (A3.sub2 (Bt _ _) (Bt _ _) (Bl hg (x := val l * 10 ^ (9 : Int).toNat) (y := pM.natAbs * 10 ^ (pE + 9).toNat * 10 ^ (((mm : Nat) : Nat) : Int).toNat) hB hA _)) (fun h3 => ?_) (fun h3 => ?_)
       · refine mV rfl (mn (cT rfl (sO (mV rfl (Ai hg gN rfl (mV rfl (mn ?_)))))))
         exact ExM.ret ⟨_, ⟨_, _, _, rfl⟩, A4 trivial rfl rfl 100 rfl rfl⟩
       · refine mV rfl (mn (cF rfl (kM (sO (mV rfl (Ai hg gN rfl (mV rfl (mn ?_))))))))
         exact ExM.ret ⟨_, ⟨_, _, _, rfl⟩, A4 trivial rfl rfl 100 rfl rfl⟩
 · obtain ⟨j, rfl⟩ : ∃ j, k = j + 1 := ⟨k - 1, by omega⟩
   have hj := hdg j (by omega) (by omega)
   by_cases hp : (s.getD j 0).toNat = 46
   · rcases l with _ | ⟨d, r⟩
     · refine sq (sO (mV rfl (mV rfl (mT rfl (mn (cT rfl (kM (sq (bM (sO (mV rfl (mK (v := .int .i64 (j : Nat)) rfl (iE (by omega)) (mS (v := .int .u8 ((s.getD j 0).toNat : Nat)) (Ed rfl rfl) (mF rfl (mn (cF rfl (kM (oM (mV rfl (mI ((j : Nat) - 1) rfl (mV rfl (mn ?_))))))))))))))))))))))
       exact ⟨(j, []), ⟨by simp only; omega, by simp only; omega, hl, by simp only; omega⟩, by simp only; omega, Ap 1 rfl (Nat.zero_le _) rfl rfl (fzC rfl fvS (fzC rfl (fvP rfl) (fzC rfl fvI (fzC rfl fvB (fzC rfl fvI (fzC rfl fvI (fzC rfl J0 (fzC rfl fvI fzN))))))))⟩
     · refine sq (sO (mV rfl (mV rfl (mT rfl (mn (cT rfl (kM (sq (bM (sO (mV rfl (mK (v := .int .i64 (j : Nat)) rfl (iE (by omega)) (mS (v := .int .u8 ((s.getD j 0).toNat : Nat)) (Ed rfl rfl) (mF rfl (mn (cF rfl (kM (oM (mV rfl (mI ((j : Nat) - 1) rfl (mV rfl (mn ?_))))))))))))))))))))))
       exact ⟨(j, (d :: r)), ⟨by simp only; omega, by simp only; omega, hl, by simp only; omega⟩, by simp only; omega, Ap 3 rfl (Nat.zero_le _) rfl (Qq (Dw _)) (fzC rfl fvS (fzC rfl (fvP rfl) (fzC rfl fvI (fzC rfl fvB (fzC rfl fvI (fzC rfl fvI (fzC rfl (fvH rfl) (fzC rfl fvI fzN))))))))⟩
   · rcases l with _ | ⟨d, r⟩
     · refine sq (sO (mV rfl (mV rfl (mT rfl (mn (cT rfl (kM (sq (bM (sO (mV rfl (mK (v := .int .i64 (j : Nat)) rfl (iE (by omega)) (mS (v := .int .u8 ((s.getD j 0).toNat : Nat)) (Ed rfl rfl) (mT rfl (mn (cT rfl (oM (mV rfl (mV rfl (mK (v := .int .i64 (j : Nat)) rfl (iE (by omega)) (mS (v := .int .u8 ((s.getD j 0).toNat : Nat)) (Ed rfl rfl) (mK (v := .int .u8 ((((s.getD j 0).toNat - 48) : Nat))) rfl (w8E (by unfold I0 at hj; omega) (by unfold I0 at hj; omega) (by unfold I0 at hj; omega)) (mK (v := .int .i64 ((((s.getD j 0).toNat - 48) : Nat))) rfl (Br (by unfold I0 at hj; omega) (by unfold I0 at hj; omega) rfl) (mV (v := .hsl 1 1 0 1 (some 1)) rfl (Ba hg gN (v := .hsl 1 2 0 ([] ++ [(s.getD j 0).toNat - 48]).length none) rfl rfl (E3 (n := 1) (by decide)) (mV rfl (mn (oM (mV rfl (mI ((j : Nat) - 1) rfl (mV rfl (mn ?_))))))))))))))))))))))))))))))))
       exact ⟨(j, [] ++ [(s.getD j 0).toNat - 48]), ⟨by simp only; omega, by simp only; omega, hl.snoc (by unfold I0 at hj; omega), by simp only [lAp, lCo, lNi] at *; omega⟩, by simp only; omega, Ap 3 rfl (Nat.zero_le _) rfl (Qq (Dw _)) (fzC rfl fvS (fzC rfl (fvP rfl) (fzC rfl fvI (fzC rfl fvB (fzC rfl fvI (fzC rfl fvI (fzC rfl (fvH rfl) (fzC rfl fvI fzN))))))))⟩
     · refine sq (sO (mV rfl (mV rfl (mT rfl (mn (cT rfl (kM (sq (bM (sO (mV rfl (mK (v := .int .i64 (j : Nat)) rfl (iE (by omega)) (mS (v := .int .u8 ((s.getD j 0).toNat : Nat)) (Ed rfl rfl) (mT rfl (mn (cT rfl (oM (mV rfl (mV rfl (mK (v := .int .i64 (j : Nat)) rfl (iE (by omega)) (mS (v := .int .u8 ((s.getD j 0).toNat : Nat)) (Ed rfl rfl) (mK (v := .int .u8 ((((s.getD j 0).toNat - 48) : Nat))) rfl (w8E (by unfold I0 at hj; omega) (by unfold I0 at hj; omega) (by unfold I0 at hj; omega)) (mK (v := .int .i64 ((((s.getD j 0).toNat - 48) : Nat))) rfl (Br (by unfold I0 at hj; omega) (by unfold I0 at hj; omega) rfl) (mV (v := .hsl 1 3 0 1 (some 1)) rfl (Ba hg gN (v := .hsl 1 2 0 ((d :: r) ++ [(s.getD j 0).toNat - 48]).length none) (Qa rfl rfl rfl rfl rfl) rfl (E3 (by simp only [lCo] at *; omega)) (mV rfl (mn (oM (mV rfl (mI ((j : Nat) - 1) rfl (mV rfl (mn ?_))))))))))))))))))))))))))))))))
       exact ⟨(j, (d :: r) ++ [(s.getD j 0).toNat - 48]), ⟨by simp only; omega, by simp only; omega, hl.snoc (by unfold I0 at hj; omega), by simp only [lAp, lCo, lNi] at *; omega⟩, by simp only; omega, Ap 3 rfl (Nat.zero_le _) rfl (Qq (Dw _)) (fzC rfl fvS (fzC rfl (fvP rfl) (fzC rfl fvI (fzC rfl fvB (fzC rfl fvI (fzC rfl fvI (fzC rfl (fvH rfl) (fzC rfl fvI fzN))))))))⟩
theorem readE (hg : Gr Tryz.prog W0 G) {s : Bz} (hs : s.length ≤ 100000) : Aq Tryz.prog W0 88 [.str s] (fun v => ∃ M E er : Int, v = P5 (M, E, er)) := by
 refine Aq.of_fnM KG88 (by simp) rfl ?_
 by_cases hem : s.length = 0
 · skip
   refine sO (mV (v := .ptr 0 0) rfl (mV rfl (mn (sO (mV rfl (mV rfl (mF rfl (mV rfl (mG (mG (mG (mV rfl (mV rfl (mn (sO (mV rfl (mn (sq (sO (mV rfl (mn (cF rfl (kM (sO (mV rfl (mV rfl ?_))))))))))))))))))))))))))
   refine Bm hg gN rfl rfl rfl (A3l hg (s := s) (f := 0) (by omega) (by omega)) ?_ ?_
   · rintro _ ⟨n, rfl, hn1, hd1⟩; rfl
   rintro _ ⟨n, rfl, hn1, hd1⟩
   refine mV rfl (mn (sO (mV rfl (mV rfl (mI ((0 + n : Nat)) rfl (mV rfl (mn (sO (mV rfl (mn (sq (sO (mV rfl (mV rfl (mV rfl (mF rfl (mV rfl (mG (mG (mG (mG (mV rfl (mn (cF rfl (kM (sq (sO (mV rfl (mT rfl (mV rfl (mG (mG (mV rfl (mV rfl (mG (mG (mV rfl (mV rfl (mG (mG (mG (mG (mV rfl (mn (cT rfl (sO (mV rfl (Ai hg gN rfl (mV rfl (mn ?_))))))))))))))))))))))))))))))))))))))))))))))))))
   exact ExM.ret ⟨_, ⟨_, _, _, rfl⟩, A4 trivial rfl rfl 100 rfl rfl⟩
 · by_cases hneg : (s.getD 0 0).toNat = 45
   · skip
     refine sO (mV (v := .ptr 0 0) rfl (mV rfl (mn (sO (mV rfl (mV rfl (mT rfl (mV rfl (mV rfl (mS (v := .int .u8 ((s.getD 0 0).toNat : Nat)) (Ed rfl rfl) (mBk hg (gS rfl) (c := true) rfl rfl (by rw [hneg]; decide) (mV rfl (mV rfl (mn (sO (mV rfl (mn (sq (sO (mV rfl (mn (cT rfl (oM (mV rfl (mn (sO (mV rfl (mV rfl ?_))))))))))))))))))))))))))))
     refine Bm hg gN rfl rfl rfl (A3l hg (s := s) (f := 1) (by omega) (by omega)) ?_ ?_
     · rintro _ ⟨n, rfl, hn1, hd1⟩; rfl
     rintro _ ⟨n, rfl, hn1, hd1⟩
     refine mV rfl (mn (sO (mV rfl (mV rfl (mI ((1 + n : Nat)) rfl (mV rfl (mn (sO (mV rfl (mn (sq (sO (mV rfl (mV rfl (mV rfl ?_)))))))))))))))
     refine mB hg gN rfl rfl trivial (fun h1 => ?_) (fun h1 => ?_)
     · simp only [dTe] at h1
       refine mV rfl (mV rfl (mV rfl (mS (v := .int .u8 ((s.getD (1 + n) 0).toNat : Nat)) (Ed rfl rfl) ?_)))
       refine mB hg (gS rfl) rfl rfl trivial (fun h2 => ?_) (fun h2 => ?_)
       · have hdot : (s.getD (1 + n) 0).toNat = 46 := by simp only [beq_iff_eq] at h2; omega
         refine mV rfl (mn (cT rfl (sO (mV rfl (mV rfl (mI ((1 + n + 1 : Nat)) rfl ?_))))))
         refine Bm hg gN rfl rfl rfl (A3l hg (s := s) (f := 1 + n + 1) (by omega) (by omega)) ?_ ?_
         · rintro _ ⟨m, rfl, hm1, hd2⟩; rfl
         rintro _ ⟨m, rfl, hm1, hd2⟩
         refine mV rfl (mn (sq (sO (mV rfl ?_))))
         refine mB hg gN rfl rfl trivial (fun h3 => ?_) (fun h3 => ?_)
         · simp only [beq_iff_eq] at h3
           refine mn (cT rfl (sO (mV rfl (Ai hg gN rfl (mV rfl (mn ?_))))))
           exact ExM.ret ⟨_, ⟨_, _, _, rfl⟩, A4 trivial rfl rfl 100 rfl rfl⟩
         · simp only [bFn, ne_eq] at h3
           refine mn (cF rfl (kM (oM (mV rfl (mI ((1 + n + 1 : Nat)) rfl (mV rfl (mI ((1 + n + 1 + m : Nat)) rfl (mV rfl (mn (sq (sO (mV rfl ?_))))))))))))
           refine mB hg gN rfl rfl trivial (fun h4 => ?_) (fun h4 => ?_)
           · simp only [dTe] at h4
             refine mV rfl (mG (mG (mV rfl (mV rfl (mG (mG (mV rfl (mV rfl (mG (mG (mG (mG (mV rfl (mn (cT rfl (sO (mV rfl (Ai hg gN rfl (mV rfl (mn ?_))))))))))))))))))))
             exact ExM.ret ⟨_, ⟨_, _, _, rfl⟩, A4 trivial rfl rfl 100 rfl rfl⟩
           · simp only [dFn, Int.not_lt] at h4
             refine mV rfl (mV rfl ?_)
             refine mB hg (gS rfl) rfl rfl trivial (fun h5 => ?_) (fun h5 => ?_)
             · simp only [dTe] at h5
               refine mV rfl (mV rfl (mG (mG (mV rfl (mV rfl (mG (mG (mG (mG (mV rfl (mn (cT rfl (sO (mV rfl (Ai hg gN rfl (mV rfl (mn ?_)))))))))))))))))
               exact ExM.ret ⟨_, ⟨_, _, _, rfl⟩, A4 trivial rfl rfl 100 rfl rfl⟩
             · simp only [dFn, Int.not_lt] at h5
               refine mV rfl (mV rfl (mV rfl ?_))
               refine mB hg (gS rfl) rfl rfl trivial (fun h6 => ?_) (fun h6 => ?_)
               · simp only [dTe] at h6
                 refine mV rfl (mV rfl (mG (mG (mG (mG (mV rfl (mn (cT rfl (sO (mV rfl (Ai hg gN rfl (mV rfl (mn ?_)))))))))))))
                 exact ExM.ret ⟨_, ⟨_, _, _, rfl⟩, A4 trivial rfl rfl 100 rfl rfl⟩
               · simp only [dFn, Int.not_lt] at h6
                 refine mV rfl (mV rfl (mV rfl (mV rfl (mV rfl ?_))))
                 refine mB hg (gS rfl) rfl rfl trivial (fun h7 => ?_) (fun h7 => ?_)
                 · simp only [bne_iff_ne, ne_eq] at h7
                   refine mV rfl (mn (cT rfl (sO (mV rfl (Ai hg gN rfl (mV rfl (mn ?_)))))))
                   exact ExM.ret ⟨_, ⟨_, _, _, rfl⟩, A4 trivial rfl rfl 100 rfl rfl⟩
                 · simp only [bNf] at h7
                   refine mV rfl (mn (cF rfl (kM ?_)))
                   have hdg : ∀ i, 1 ≤ i → i < (1 + n + 1 + m) → (s.getD i 0).toNat = 46 ∨ I0 (s.getD i 0) := by
                    intro i hi1 hi2
                    by_cases hin : i < 1 + n
                    · have := hd1 (i - 1) (by omega)
                      rw [show 1 + (i - 1) = i by omega] at this; exact .inr this
                    · by_cases hip : i = 1 + n
                      · subst hip; exact .inl hdot
                      · have := hd2 (i - (1 + n + 1)) (by omega)
                        rw [show 1 + n + 1 + (i - (1 + n + 1)) = i by omega] at this; exact .inr this
                   exact ExM.fz (Ap 1 rfl (Nat.zero_le _) rfl rfl (fzC rfl fvS (fzC rfl (fvP rfl) (fzC rfl fvI (fzC rfl fvB (fzC rfl fvI (fzC rfl fvI (fzC rfl fvI fzN)))))))) (Tf hg (f := 1) (tq := (1 + n + 1 + m)) (mm := m) (b := true) hs (by omega) (by omega) (by omega) (by omega) hdg)
       · refine mV rfl (mn (cF rfl (kM (sq (sO (mV rfl ?_))))))
         refine mB hg gN rfl rfl trivial (fun h8 => ?_) (fun h8 => ?_)
         · simp only [dTe] at h8
           refine mV rfl (mG (mG (mV rfl (mV rfl (mG (mG (mV rfl (mV rfl (mG (mG (mG (mG (mV rfl (mn (cT rfl (sO (mV rfl (Ai hg gN rfl (mV rfl (mn ?_))))))))))))))))))))
           exact ExM.ret ⟨_, ⟨_, _, _, rfl⟩, A4 trivial rfl rfl 100 rfl rfl⟩
         · simp only [dFn, Int.not_lt] at h8
           refine mV rfl (mV rfl ?_)
           refine mB hg (gS rfl) rfl rfl trivial (fun h9 => ?_) (fun h9 => ?_)
           · simp only [dTe] at h9
             refine mV rfl (mV rfl (mG (mG (mV rfl (mV rfl (mG (mG (mG (mG (mV rfl (mn (cT rfl (sO (mV rfl (Ai hg gN rfl (mV rfl (mn ?_)))))))))))))))))
             exact ExM.ret ⟨_, ⟨_, _, _, rfl⟩, A4 trivial rfl rfl 100 rfl rfl⟩
           · simp only [dFn, Int.not_lt] at h9
             refine mV rfl (mV rfl (mV rfl ?_))
             refine mB hg (gS rfl) rfl rfl trivial (fun h10 => ?_) (fun h10 => ?_)
             · simp only [dTe] at h10
               refine mV rfl (mV rfl (mG (mG (mG (mG (mV rfl (mn (cT rfl (sO (mV rfl (Ai hg gN rfl (mV rfl (mn ?_)))))))))))))
               exact ExM.ret ⟨_, ⟨_, _, _, rfl⟩, A4 trivial rfl rfl 100 rfl rfl⟩
             · simp only [dFn, Int.not_lt] at h10
               refine mV rfl (mV rfl (mV rfl (mV rfl (mV rfl ?_))))
               refine mB hg (gS rfl) rfl rfl trivial (fun h11 => ?_) (fun h11 => ?_)
               · simp only [bne_iff_ne, ne_eq] at h11
                 refine mV rfl (mn (cT rfl (sO (mV rfl (Ai hg gN rfl (mV rfl (mn ?_)))))))
                 exact ExM.ret ⟨_, ⟨_, _, _, rfl⟩, A4 trivial rfl rfl 100 rfl rfl⟩
               · simp only [bNf] at h11
                 refine mV rfl (mn (cF rfl (kM ?_)))
                 have hdg : ∀ i, 1 ≤ i → i < (1 + n) → (s.getD i 0).toNat = 46 ∨ I0 (s.getD i 0) := by
                  intro i hi1 hi2
                  by_cases hin : i < 1 + n
                  · have := hd1 (i - 1) (by omega)
                    rw [show 1 + (i - 1) = i by omega] at this; exact .inr this
                  · omega
                 exact ExM.fz (Ap 1 rfl (Nat.zero_le _) rfl rfl (fzC rfl fvS (fzC rfl (fvP rfl) (fzC rfl fvI (fzC rfl fvB (fzC rfl fvI (fzC rfl fvI (fzC rfl fvI fzN)))))))) (Tf hg (f := 1) (tq := (1 + n)) (mm := 0) (b := true) hs (by omega) (by omega) (by omega) (by omega) hdg)
     · simp only [dFn, Int.not_lt] at h1
       refine mV rfl (mG (mG (mG (mG (mV rfl (mn (cF rfl (kM (sq (sO (mV rfl ?_)))))))))))
       refine mB hg gN rfl rfl trivial (fun h12 => ?_) (fun h12 => ?_)
       · simp only [dTe] at h12
         refine mV rfl (mG (mG (mV rfl (mV rfl (mG (mG (mV rfl (mV rfl (mG (mG (mG (mG (mV rfl (mn (cT rfl (sO (mV rfl (Ai hg gN rfl (mV rfl (mn ?_))))))))))))))))))))
         exact ExM.ret ⟨_, ⟨_, _, _, rfl⟩, A4 trivial rfl rfl 100 rfl rfl⟩
       · simp only [dFn, Int.not_lt] at h12
         refine mV rfl (mV rfl ?_)
         refine mB hg (gS rfl) rfl rfl trivial (fun h13 => ?_) (fun h13 => ?_)
         · simp only [dTe] at h13
           refine mV rfl (mV rfl (mG (mG (mV rfl (mV rfl (mG (mG (mG (mG (mV rfl (mn (cT rfl (sO (mV rfl (Ai hg gN rfl (mV rfl (mn ?_)))))))))))))))))
           exact ExM.ret ⟨_, ⟨_, _, _, rfl⟩, A4 trivial rfl rfl 100 rfl rfl⟩
         · simp only [dFn, Int.not_lt] at h13
           refine mV rfl (mV rfl (mV rfl ?_))
           refine mB hg (gS rfl) rfl rfl trivial (fun h14 => ?_) (fun h14 => ?_)
           · simp only [dTe] at h14
             refine mV rfl (mV rfl (mG (mG (mG (mG (mV rfl (mn (cT rfl (sO (mV rfl (Ai hg gN rfl (mV rfl (mn ?_)))))))))))))
             exact ExM.ret ⟨_, ⟨_, _, _, rfl⟩, A4 trivial rfl rfl 100 rfl rfl⟩
           · simp only [dFn, Int.not_lt] at h14
             refine mV rfl (mV rfl (mV rfl (mV rfl (mV rfl ?_))))
             refine mB hg (gS rfl) rfl rfl trivial (fun h15 => ?_) (fun h15 => ?_)
             · simp only [bne_iff_ne, ne_eq] at h15
               refine mV rfl (mn (cT rfl (sO (mV rfl (Ai hg gN rfl (mV rfl (mn ?_)))))))
               exact ExM.ret ⟨_, ⟨_, _, _, rfl⟩, A4 trivial rfl rfl 100 rfl rfl⟩
             · simp only [bNf] at h15
               refine mV rfl (mn (cF rfl (kM ?_)))
               have hdg : ∀ i, 1 ≤ i → i < (1 + n) → (s.getD i 0).toNat = 46 ∨ I0 (s.getD i 0) := by
                intro i hi1 hi2
                by_cases hin : i < 1 + n
                · have := hd1 (i - 1) (by omega)
                  rw [show 1 + (i - 1) = i by omega] at this; exact .inr this
                · omega
               exact ExM.fz (Ap 1 rfl (Nat.zero_le _) rfl rfl (fzC rfl fvS (fzC rfl (fvP rfl) (fzC rfl fvI (fzC rfl fvB (fzC rfl fvI (fzC rfl fvI (fzC rfl fvI fzN)))))))) (Tf hg (f := 1) (tq := (1 + n)) (mm := 0) (b := true) hs (by omega) (by omega) (by omega) (by omega) hdg)
   · skip
     refine sO (mV (v := .ptr 0 0) rfl (mV rfl (mn (sO (mV rfl (mV rfl (mT rfl (mV rfl (mV rfl (mS (v := .int .u8 ((s.getD 0 0).toNat : Nat)) (Ed rfl rfl) (mF rfl (mV rfl (mV rfl (mn (sO (mV rfl (mn (sq (sO (mV rfl (mn (cF rfl (kM (sO (mV rfl (mV rfl ?_))))))))))))))))))))))))))
     refine Bm hg gN rfl rfl rfl (A3l hg (s := s) (f := 0) (by omega) (by omega)) ?_ ?_
     · rintro _ ⟨n, rfl, hn1, hd1⟩; rfl
     rintro _ ⟨n, rfl, hn1, hd1⟩
     refine mV rfl (mn (sO (mV rfl (mV rfl (mI ((0 + n : Nat)) rfl (mV rfl (mn (sO (mV rfl (mn (sq (sO (mV rfl (mV rfl (mV rfl ?_)))))))))))))))
     refine mB hg gN rfl rfl trivial (fun h1 => ?_) (fun h1 => ?_)
     · simp only [dTe] at h1
       refine mV rfl (mV rfl (mV rfl (mS (v := .int .u8 ((s.getD (0 + n) 0).toNat : Nat)) (Ed rfl rfl) ?_)))
       refine mB hg (gS rfl) rfl rfl trivial (fun h2 => ?_) (fun h2 => ?_)
       · have hdot : (s.getD (0 + n) 0).toNat = 46 := by simp only [beq_iff_eq] at h2; omega
         refine mV rfl (mn (cT rfl (sO (mV rfl (mV rfl (mI ((0 + n + 1 : Nat)) rfl ?_))))))
         refine Bm hg gN rfl rfl rfl (A3l hg (s := s) (f := 0 + n + 1) (by omega) (by omega)) ?_ ?_
         · rintro _ ⟨m, rfl, hm1, hd2⟩; rfl
         rintro _ ⟨m, rfl, hm1, hd2⟩
         refine mV rfl (mn (sq (sO (mV rfl ?_))))
         refine mB hg gN rfl rfl trivial (fun h3 => ?_) (fun h3 => ?_)
         · simp only [beq_iff_eq] at h3
           refine mn (cT rfl (sO (mV rfl (Ai hg gN rfl (mV rfl (mn ?_))))))
           exact ExM.ret ⟨_, ⟨_, _, _, rfl⟩, A4 trivial rfl rfl 100 rfl rfl⟩
         · simp only [bFn, ne_eq] at h3
           refine mn (cF rfl (kM (oM (mV rfl (mI ((0 + n + 1 : Nat)) rfl (mV rfl (mI ((0 + n + 1 + m : Nat)) rfl (mV rfl (mn (sq (sO (mV rfl ?_))))))))))))
           refine mB hg gN rfl rfl trivial (fun h4 => ?_) (fun h4 => ?_)
           · simp only [dTe] at h4
             refine mV rfl (mG (mG (mV rfl (mV rfl (mG (mG (mV rfl (mV rfl (mG (mG (mG (mG (mV rfl (mn (cT rfl (sO (mV rfl (Ai hg gN rfl (mV rfl (mn ?_))))))))))))))))))))
             exact ExM.ret ⟨_, ⟨_, _, _, rfl⟩, A4 trivial rfl rfl 100 rfl rfl⟩
           · simp only [dFn, Int.not_lt] at h4
             refine mV rfl (mV rfl ?_)
             refine mB hg (gS rfl) rfl rfl trivial (fun h5 => ?_) (fun h5 => ?_)
             · simp only [dTe] at h5
               refine mV rfl (mV rfl (mG (mG (mV rfl (mV rfl (mG (mG (mG (mG (mV rfl (mn (cT rfl (sO (mV rfl (Ai hg gN rfl (mV rfl (mn ?_)))))))))))))))))
               exact ExM.ret ⟨_, ⟨_, _, _, rfl⟩, A4 trivial rfl rfl 100 rfl rfl⟩
             · simp only [dFn, Int.not_lt] at h5
               refine mV rfl (mV rfl (mV rfl ?_))
               refine mB hg (gS rfl) rfl rfl trivial (fun h6 => ?_) (fun h6 => ?_)
               · simp only [dTe] at h6
                 refine mV rfl (mV rfl (mG (mG (mG (mG (mV rfl (mn (cT rfl (sO (mV rfl (Ai hg gN rfl (mV rfl (mn ?_)))))))))))))
                 exact ExM.ret ⟨_, ⟨_, _, _, rfl⟩, A4 trivial rfl rfl 100 rfl rfl⟩
               · simp only [dFn, Int.not_lt] at h6
                 refine mV rfl (mV rfl (mV rfl (mV rfl (mV rfl ?_))))
                 refine mB hg (gS rfl) rfl rfl trivial (fun h7 => ?_) (fun h7 => ?_)
                 · simp only [bne_iff_ne, ne_eq] at h7
                   refine mV rfl (mn (cT rfl (sO (mV rfl (Ai hg gN rfl (mV rfl (mn ?_)))))))
                   exact ExM.ret ⟨_, ⟨_, _, _, rfl⟩, A4 trivial rfl rfl 100 rfl rfl⟩
                 · simp only [bNf] at h7
                   refine mV rfl (mn (cF rfl (kM ?_)))
                   have hdg : ∀ i, 0 ≤ i → i < (0 + n + 1 + m) → (s.getD i 0).toNat = 46 ∨ I0 (s.getD i 0) := by
                    intro i hi1 hi2
                    by_cases hin : i < 0 + n
                    · have := hd1 (i - 0) (by omega)
                      rw [show 0 + (i - 0) = i by omega] at this; exact .inr this
                    · by_cases hip : i = 0 + n
                      · subst hip; exact .inl hdot
                      · have := hd2 (i - (0 + n + 1)) (by omega)
                        rw [show 0 + n + 1 + (i - (0 + n + 1)) = i by omega] at this; exact .inr this
                   exact ExM.fz (Ap 1 rfl (Nat.zero_le _) rfl rfl (fzC rfl fvS (fzC rfl (fvP rfl) (fzC rfl fvI (fzC rfl fvB (fzC rfl fvI (fzC rfl fvI (fzC rfl fvI fzN)))))))) (Tf hg (f := 0) (tq := (0 + n + 1 + m)) (mm := m) (b := false) hs (by omega) (by omega) (by omega) (by omega) hdg)
       · refine mV rfl (mn (cF rfl (kM (sq (sO (mV rfl ?_))))))
         refine mB hg gN rfl rfl trivial (fun h8 => ?_) (fun h8 => ?_)
         · simp only [dTe] at h8
           refine mV rfl (mG (mG (mV rfl (mV rfl (mG (mG (mV rfl (mV rfl (mG (mG (mG (mG (mV rfl (mn (cT rfl (sO (mV rfl (Ai hg gN rfl (mV rfl (mn ?_))))))))))))))))))))
           exact ExM.ret ⟨_, ⟨_, _, _, rfl⟩, A4 trivial rfl rfl 100 rfl rfl⟩
         · simp only [dFn, Int.not_lt] at h8
           refine mV rfl (mV rfl ?_)
           refine mB hg (gS rfl) rfl rfl trivial (fun h9 => ?_) (fun h9 => ?_)
           · simp only [dTe] at h9
             refine mV rfl (mV rfl (mG (mG (mV rfl (mV rfl (mG (mG (mG (mG (mV rfl (mn (cT rfl (sO (mV rfl (Ai hg gN rfl (mV rfl (mn ?_)))))))))))))))))
             exact ExM.ret ⟨_, ⟨_, _, _, rfl⟩, A4 trivial rfl rfl 100 rfl rfl⟩
           · simp only [dFn, Int.not_lt] at h9
             refine mV rfl (mV rfl (mV rfl ?_))
             refine mB hg (gS rfl) rfl rfl trivial (fun h10 => ?_) (fun h10 => ?_)
             · simp only [dTe] at h10
               refine mV rfl (mV rfl (mG (mG (mG (mG (mV rfl (mn (cT rfl (sO (mV rfl (Ai hg gN rfl (mV rfl (mn ?_)))))))))))))
               exact ExM.ret ⟨_, ⟨_, _, _, rfl⟩, A4 trivial rfl rfl 100 rfl rfl⟩
             · simp only [dFn, Int.not_lt] at h10
               refine mV rfl (mV rfl (mV rfl (mV rfl (mV rfl ?_))))
               refine mB hg (gS rfl) rfl rfl trivial (fun h11 => ?_) (fun h11 => ?_)
               · simp only [bne_iff_ne, ne_eq] at h11
                 refine mV rfl (mn (cT rfl (sO (mV rfl (Ai hg gN rfl (mV rfl (mn ?_)))))))
                 exact ExM.ret ⟨_, ⟨_, _, _, rfl⟩, A4 trivial rfl rfl 100 rfl rfl⟩
               · simp only [bNf] at h11
                 refine mV rfl (mn (cF rfl (kM ?_)))
                 have hdg : ∀ i, 0 ≤ i → i < (0 + n) → (s.getD i 0).toNat = 46 ∨ I0 (s.getD i 0) := by
                  intro i hi1 hi2
                  by_cases hin : i < 0 + n
                  · have := hd1 (i - 0) (by omega)
                    rw [show 0 + (i - 0) = i by omega] at this; exact .inr this
                  · omega
                 exact ExM.fz (Ap 1 rfl (Nat.zero_le _) rfl rfl (fzC rfl fvS (fzC rfl (fvP rfl) (fzC rfl fvI (fzC rfl fvB (fzC rfl fvI (fzC rfl fvI (fzC rfl fvI fzN)))))))) (Tf hg (f := 0) (tq := (0 + n)) (mm := 0) (b := false) hs (by omega) (by omega) (by omega) (by omega) hdg)
     · simp only [dFn, Int.not_lt] at h1
       refine mV rfl (mG (mG (mG (mG (mV rfl (mn (cF rfl (kM (sq (sO (mV rfl ?_)))))))))))
       refine mB hg gN rfl rfl trivial (fun h12 => ?_) (fun h12 => ?_)
       · simp only [dTe] at h12
         refine mV rfl (mG (mG (mV rfl (mV rfl (mG (mG (mV rfl (mV rfl (mG (mG (mG (mG (mV rfl (mn (cT rfl (sO (mV rfl (Ai hg gN rfl (mV rfl (mn ?_))))))))))))))))))))
         exact ExM.ret ⟨_, ⟨_, _, _, rfl⟩, A4 trivial rfl rfl 100 rfl rfl⟩
       · simp only [dFn, Int.not_lt] at h12
         refine mV rfl (mV rfl ?_)
         refine mB hg (gS rfl) rfl rfl trivial (fun h13 => ?_) (fun h13 => ?_)
         · simp only [dTe] at h13
           refine mV rfl (mV rfl (mG (mG (mV rfl (mV rfl (mG (mG (mG (mG (mV rfl (mn (cT rfl (sO (mV rfl (Ai hg gN rfl (mV rfl (mn ?_)))))))))))))))))
           exact ExM.ret ⟨_, ⟨_, _, _, rfl⟩, A4 trivial rfl rfl 100 rfl rfl⟩
         · simp only [dFn, Int.not_lt] at h13
           refine mV rfl (mV rfl (mV rfl ?_))
           refine mB hg (gS rfl) rfl rfl trivial (fun h14 => ?_) (fun h14 => ?_)
           · simp only [dTe] at h14
             refine mV rfl (mV rfl (mG (mG (mG (mG (mV rfl (mn (cT rfl (sO (mV rfl (Ai hg gN rfl (mV rfl (mn ?_)))))))))))))
             exact ExM.ret ⟨_, ⟨_, _, _, rfl⟩, A4 trivial rfl rfl 100 rfl rfl⟩
           · simp only [dFn, Int.not_lt] at h14
             refine mV rfl (mV rfl (mV rfl (mV rfl (mV rfl ?_))))
             refine mB hg (gS rfl) rfl rfl trivial (fun h15 => ?_) (fun h15 => ?_)
             · simp only [bne_iff_ne, ne_eq] at h15
               refine mV rfl (mn (cT rfl (sO (mV rfl (Ai hg gN rfl (mV rfl (mn ?_)))))))
               exact ExM.ret ⟨_, ⟨_, _, _, rfl⟩, A4 trivial rfl rfl 100 rfl rfl⟩
             · simp only [bNf] at h15
               refine mV rfl (mn (cF rfl (kM ?_)))
               have hdg : ∀ i, 0 ≤ i → i < (0 + n) → (s.getD i 0).toNat = 46 ∨ I0 (s.getD i 0) := by
                intro i hi1 hi2
                by_cases hin : i < 0 + n
                · have := hd1 (i - 0) (by omega)
                  rw [show 0 + (i - 0) = i by omega] at this; exact .inr this
                · omega
               exact ExM.fz (Ap 1 rfl (Nat.zero_le _) rfl rfl (fzC rfl fvS (fzC rfl (fvP rfl) (fzC rfl fvI (fzC rfl fvB (fzC rfl fvI (fzC rfl fvI (fzC rfl fvI fzN)))))))) (Tf hg (f := 0) (tq := (0 + n)) (mm := 0) (b := false) hs (by omega) (by omega) (by omega) (by omega) hdg)
end Go.Abs
namespace Go.Abs
open Go.Proofs Go.RowKit
set_option maxRecDepth 10000000
variable {W0 : World}
def opqW (f : Nat) : Bool := cond (Nat.beq f 96) true (Nat.beq f 99)
def opqV (f : Nat) : Bool := cond (Nat.beq f 95) true (cond (Nat.beq f 98) true (Nat.beq f 100))
def opqU (f : Nat) : Bool := cond (Nat.beq f 53) true (cond (Nat.beq f 54) true (Nat.beq f 55))
def A4r (f : Nat) : Bool := Nat.beq f 98
theorem Zv (hk : Kn W0) (opq : Nat → Bool) : D1 Tryz.prog W0 (Md Tryz.prog GL A4r opq Kx libTab 1000 60) := by
 refine Qm (by kernel_rfl) hk.g (fun g m h => ?_) (Nu hk.w) 1000 60
 unfold Kx at h
 cases hg : Nat.beq g 128 with
 | false => rw [hg] at h; cases h
 | true =>
   rw [hg, cond_true] at h
   injection h with h
   subst h
   have := nBq hg
   subst this
   exact ⟨Vk, Na (by kernel_rfl)⟩
theorem wholK0 (hk : Kn W0) {a1 a2 : Int} {x1 x9 : AVal} {cs2 cs3 : List AVal} (h1 : cP W0 99 [x1, jI (IntKind.i64.wrap (a2 + 9))] [Be a1 a2, Be a1 a2] (x9) [Be a1 a2, Be a1 a2, .cells 3 cs2 false, .cells 3 cs3 true]) (h2 : cP W0 96 [jI a1] [Be a1 a2, Be a1 a2] (x1) [Be a1 a2, Be a1 a2]) : cP W0 98 [.agg [jI a1, jI a2]] [Be a1 a2] (x9) [Be a1 a2, Be a1 a2, .cells 3 cs2 false, .cells 3 cs3 true] :=
 U9 (Zv hk opqW) (show Md Tryz.prog GL A4r opqW Kx libTab 1000 60 98 [.agg [jI a1, jI a2]] [Be a1 a2] (ss0 0 [] 0 [] [(x1, some [Be a1 a2, Be a1 a2]), (x9, some [Be a1 a2, Be a1 a2, .cells 3 cs2 false, .cells 3 cs3 true])] []) = some (x9, [Be a1 a2, Be a1 a2, .cells 3 cs2 false, .cells 3 cs3 true], SS.mk 0 [] 0 [] [] [] [.veq (jI a2) (jI a2), .veq (.ptr 1 1) (.ptr 1 1), .callH 99 [x1, jI (IntKind.i64.wrap (a2 + 9))] [Be a1 a2, Be a1 a2] (x9) [Be a1 a2, Be a1 a2, .cells 3 cs2 false, .cells 3 cs3 true], .callH 96 [jI a1] [Be a1 a2, Be a1 a2] (x1) [Be a1 a2, Be a1 a2]]) by kernel_rfl) (gdC obV (gdC obV (gdC (obC h1) (gdC (obC h2) (gdN)))))
theorem wholK1 (hk : Kn W0) {a1 a2 : Int} {x1 : AVal} (h1 : cP W0 99 [x1, jI (IntKind.i64.wrap (a2 + 9))] [Be a1 a2, Be a1 a2] (.nilSl) [Be a1 a2, Be a1 a2]) (h2 : cP W0 96 [jI a1] [Be a1 a2, Be a1 a2] (x1) [Be a1 a2, Be a1 a2]) : cP W0 98 [.agg [jI a1, jI a2]] [Be a1 a2] (.nilSl) [Be a1 a2, Be a1 a2] :=
 U9 (Zv hk opqW) (show Md Tryz.prog GL A4r opqW Kx libTab 1000 60 98 [.agg [jI a1, jI a2]] [Be a1 a2] (ss0 0 [] 0 [] [(x1, some [Be a1 a2, Be a1 a2]), (.nilSl, some [Be a1 a2, Be a1 a2])] []) = some (.nilSl, [Be a1 a2, Be a1 a2], SS.mk 0 [] 0 [] [] [] [.veq (jI a2) (jI a2), .veq (.ptr 1 1) (.ptr 1 1), .callH 99 [x1, jI (IntKind.i64.wrap (a2 + 9))] [Be a1 a2, Be a1 a2] (.nilSl) [Be a1 a2, Be a1 a2], .callH 96 [jI a1] [Be a1 a2, Be a1 a2] (x1) [Be a1 a2, Be a1 a2]]) by kernel_rfl) (gdC obV (gdC obV (gdC (obC h1) (gdC (obC h2) (gdN)))))
theorem div0 (hk : Kn W0) {a1 a2 a3 : Int} (h1 : oC W0 100 [.agg [jI a1, jI a2]] zB) : cP W0 55 [.agg [jI a1, jI a2], .agg [jI 1, jI a3]] [] (.tup [.agg [zI, zI], jI 10]) [] :=
 Aa hk opqV (ss0 0 [] 0 [] [(zB, none)] []) (by kernel_rfl) (gdC h1 gdN)
theorem div1 (hk : Kn W0) {a1 a2 a3 a5 a6 a7 : Int} {x1 x2 : AVal} (hs : 0 ≤ a1) (h1 : cP W0 95 [zB, x1, x2] [Be a1 a2, F9 a3, F8] (Rt a5 a6 a7) [Be a1 a2, F9 a3, F8]) (h2 : cP W0 98 [.agg [jI 1, jI a3]] [Be a1 a2, F9 a3, F8] (x2) [Be a1 a2, F9 a3, F8]) (h3 : cP W0 98 [.agg [jI a1, jI a2]] [Be a1 a2, F9 a3, F8] (x1) [Be a1 a2, F9 a3, F8]) (h4 : oC W0 100 [.agg [jI 1, jI a3]] (.bool true)) (h5 : oC W0 100 [.agg [jI a1, jI a2]] (.bool true)) : cP W0 55 [.agg [jI a1, jI a2], .agg [jI 1, jI a3]] [] (Rt a5 a6 a7) [] :=
 Aa hk opqV (ss0 1 [(false, 2)] 0 [] [(.bool true, none), (.bool true, none), (x1, some [Be a1 a2, F9 a3, F8]), (x2, some [Be a1 a2, F9 a3, F8]), (Rt a5 a6 a7, some [Be a1 a2, F9 a3, F8])] []) (by kernel_rfl) (gdC (o := .callH 95 [zB, x1, x2] [Be a1 a2, F9 a3, F8] (Rt a5 a6 a7) [Be a1 a2, F9 a3, F8]) (obC h1) (gdC (o := .callH 98 [.agg [jI 1, jI a3]] [Be a1 a2, F9 a3, F8] (x2) [Be a1 a2, F9 a3, F8]) (obC h2) (gdC (o := .callH 98 [.agg [jI a1, jI a2]] [Be a1 a2, F9 a3, F8] (x1) [Be a1 a2, F9 a3, F8]) (obC h3) (gdC (o := .eq (B5 .lss (jI a1) zI) false) (obE (by simp [B5, Un, U0, Pq]; exact hs)) (gdC h4 (gdC h5 gdN))))))
theorem div2 (hk : Kn W0) {a1 a2 a3 a5 a6 a7 : Int} {x1 x2 : AVal} (hs : a1 < 0) (h1 : cP W0 95 [.bool true, x1, x2] [Be a1 a2, F9 a3, F8] (Rt a5 a6 a7) [Be a1 a2, F9 a3, F8]) (h2 : cP W0 98 [.agg [jI 1, jI a3]] [Be a1 a2, F9 a3, F8] (x2) [Be a1 a2, F9 a3, F8]) (h3 : cP W0 98 [.agg [jI a1, jI a2]] [Be a1 a2, F9 a3, F8] (x1) [Be a1 a2, F9 a3, F8]) (h4 : oC W0 100 [.agg [jI 1, jI a3]] (.bool true)) (h5 : oC W0 100 [.agg [jI a1, jI a2]] (.bool true)) : cP W0 55 [.agg [jI a1, jI a2], .agg [jI 1, jI a3]] [] (Rt a5 a6 a7) [] :=
 Aa hk opqV (ss0 1 [(true, 2)] 0 [] [(.bool true, none), (.bool true, none), (x1, some [Be a1 a2, F9 a3, F8]), (x2, some [Be a1 a2, F9 a3, F8]), (Rt a5 a6 a7, some [Be a1 a2, F9 a3, F8])] []) (by kernel_rfl) (gdC (o := .callH 95 [.bool true, x1, x2] [Be a1 a2, F9 a3, F8] (Rt a5 a6 a7) [Be a1 a2, F9 a3, F8]) (obC h1) (gdC (o := .callH 98 [.agg [jI 1, jI a3]] [Be a1 a2, F9 a3, F8] (x2) [Be a1 a2, F9 a3, F8]) (obC h2) (gdC (o := .callH 98 [.agg [jI a1, jI a2]] [Be a1 a2, F9 a3, F8] (x1) [Be a1 a2, F9 a3, F8]) (obC h3) (gdC (o := .eq (B5 .lss (jI a1) zI) true) (obE (by simp [B5, Un, U0, Pq]; exact hs)) (gdC h4 (gdC h5 gdN))))))
theorem val0 (hk : Kn W0) {s1 : Bz} {a1 a2 a3 a5 a6 a8 a9 a49 a51 : Int} {bR : Bool} (h1 : oC W0 55 [.agg [jI a5, jI a6], .agg [jI 1, jI a51]] (A0m a8 a9)) (h2 : oC W0 53 [jI a3, jI 5] (jI a51)) (h3 : oC W0 54 [jI (IntKind.i64.wrap (a49 - 1000000))] (A0m a5 a6)) (h4 : oC W0 53 [jI a2, jI 2000001] (jI a49)) (h5 : oC W0 53 [jI a1, jI 5] (jI 1)) : cP W0 20 [A1x a1 a2 a3 s1 bR] [] (N221 a8 a9) [] :=
 Aa hk opqU (ss0 3 [] 0 [] [(jI 1, none), (jI a49, none), (A0m a5 a6, none), (jI a51, none), (A0m a8 a9, none)] [1, 1, 2, 2]) (by kernel_rfl) (gdC h1 (gdC h2 (gdC h3 (gdC h4 (gdC h5 gdN)))))
theorem val1 (hk : Kn W0) {s1 : Bz} {a1 a2 a3 a5 a6 a8 a9 a49 a51 : Int} {bR : Bool} (h1 : oC W0 55 [.agg [jI a5, jI a6], .agg [jI 1, jI a51]] (N222 a8 a9)) (h2 : oC W0 53 [jI a3, jI 5] (jI a51)) (h3 : oC W0 54 [jI (IntKind.i64.wrap (a49 - 1000000))] (A0m a5 a6)) (h4 : oC W0 53 [jI a2, jI 2000001] (jI a49)) (h5 : oC W0 53 [jI a1, jI 5] (jI 1)) : cP W0 20 [A1x a1 a2 a3 s1 bR] [] (N223) [] :=
 Aa hk opqU (ss0 3 [] 0 [] [(jI 1, none), (jI a49, none), (A0m a5 a6, none), (jI a51, none), (N222 a8 a9, none)] [1, 1, 2, 2]) (by kernel_rfl) (gdC h1 (gdC h2 (gdC h3 (gdC h4 (gdC h5 gdN)))))
theorem val2 (hk : Kn W0) {s1 : Bz} {a1 a2 a3 a5 a6 a8 a9 a10 a49 a51 : Int} {bR : Bool} (h1 : oC W0 55 [.agg [jI a5, jI a6], .agg [jI 1, jI a51]] (Rt a8 a9 a10)) (h2 : oC W0 53 [jI a3, jI 5] (jI a51)) (h3 : oC W0 54 [jI (IntKind.i64.wrap (a49 - 1000000))] (N222 a5 a6)) (h4 : oC W0 53 [jI a2, jI 2000001] (jI a49)) (h5 : oC W0 53 [jI a1, jI 5] (jI 1)) : cP W0 20 [A1x a1 a2 a3 s1 bR] [] (N223) [] :=
 Aa hk opqU (ss0 2 [] 0 [] [(jI 1, none), (jI a49, none), (N222 a5 a6, none), (jI a51, none), (Rt a8 a9 a10, none)] [1, 1, 2, 2]) (by kernel_rfl) (gdC h1 (gdC h2 (gdC h3 (gdC h4 (gdC h5 gdN)))))
end Go.Abs
namespace Go.Abs
open Go.Proofs Go.RowKit
set_option maxRecDepth 100000
variable {W0 : World} {G : List (Nat × AVal)}
set_option maxHeartbeats 2000000
def F33 : AFn := ⟨(sQ [wV 4 (.box 28 0), wV 8 (.move (.val (.str [])))] (sQ [wV 11 (.fieldAddr 4 4), wV 12 (.load 3 true 11), wM 13 1, wV 14 (kF 40 [12, 13, (.val (.bool false))]), wM 9 14] (sQ [wV 15 (.fieldAddr 7 4), wV 16 (.load 3 true 15), wM 17 1, wV 18 (kF 40 [16, 17, (.val (.bool false))]), wM 10 18] (.seq (sQ [wV 19 (.fieldAddr 3 4), wV 20 (.load 1 false 19), wV 21 (kF 13 [20, (vI 16)])] (.block 0 (sQ [wV 23 (.bin .eql none 21 (vI 0)), wM 22 23] (.cond 22 (sQ [wM 24 9, wV 25 (.bin .add none (.val (.str [61])) 24), wV 26 (.bin .add none 25 (.val (.str [43, 49]))), wM 8 26] .ret) (sQ [wV 28 (.bin .eql none 21 (vI 1)), wM 27 28] (.cond 27 (sQ [wM 29 9, wV 30 (.bin .add none (.val (.str [61])) 29), wV 31 (.bin .add none 30 (.val (.str [42]))), wM 32 10, wV 33 (.bin .add none 31 32), wM 8 33] .ret) (sQ [wV 35 (.bin .eql none 21 (vI 2)), wM 34 35] (.cond 34 (sQ [wV 36 (.fieldAddr 4 4), wV 37 (.load 3 true 36), wV 38 (.fieldAddr 7 4), wV 39 (.load 3 true 38), wM 40 1, wV 41 (kF 41 [37, 39, 40]), wV 42 (.bin .add none (.val (.str [61, 83, 85, 77, 40])) 41), wV 43 (.bin .add none 42 (.val (.str [41]))), wM 8 43] .ret) (sQ [wV 45 (.bin .eql none 21 (vI 3)), wM 44 45] (.cond 44 (sQ [wM 46 9, wV 47 (.bin .add none (.val (.str [61, 73, 70, 40])) 46), wV 48 (.bin .add none 47 (.val (.str [62, 50, 44]))), wM 49 10, wV 50 (.bin .add none 48 49), wV 51 (.bin .add none 50 (.val (.str [44, 48, 41]))), wM 8 51] .ret) (sQ [wV 53 (.bin .eql none 21 (vI 4)), wM 52 53] (.cond 52 (sQ [wM 54 9, wV 55 (.bin .add none (.val (.str [61, 123, 49, 44, 50, 59, 51, 44, 52, 125, 43])) 54), wM 8 55] .ret) (sQ [wV 57 (.bin .eql none 21 (vI 5)), wM 56 57] (.cond 56 (sQ [wV 58 (.fieldAddr 4 4), wV 59 (.load 3 true 58), wV 60 (.fieldAddr 7 4), wV 61 (.load 3 true 60), wM 62 1, wV 63 (kF 41 [59, 61, 62]), wV 64 (.bin .add none (.val (.str [61])) 63), wV 65 (.bin .add none 64 (.val (.str [42, 50]))), wM 8 65] .ret) (sQ [wV 67 (.bin .eql none 21 (vI 6)), wM 66 67] (.cond 66 (sQ [wM 68 9, wV 69 (.bin .add none (.val (.str [61, 76, 69, 84, 40, 120, 44])) 68), wV 70 (.bin .add none 69 (.val (.str [44, 120, 42, 120, 45]))), wM 71 10, wV 72 (.bin .add none 70 71), wV 73 (.bin .add none 72 (.val (.str [41]))), wM 8 73] .ret) (sQ [wV 75 (.bin .eql none 21 (vI 7)), wM 74 75] (.cond 74 (sQ [wM 76 9, wV 77 (.bin .add none (.val (.str [61, 76, 69, 84, 40, 102, 44, 76, 65, 77, 66, 68, 65, 40, 110, 44, 73, 70, 40, 110, 60, 49, 44, 49, 44, 110, 42, 102, 40, 110, 45, 49, 41, 41, 41, 44, 102, 40])) 76), wV 78 (.bin .add none 77 (.val (.str [41, 41]))), wM 8 78] .ret) (sQ [wV 80 (.bin .eql none 21 (vI 8)), wM 79 80] (.cond 79 (sQ [wM 81 9, wV 82 (.bin .add none (.val (.str [61])) 81), wV 83 (.bin .add none 82 (.val (.str [38, 34, 97, 34]))), wM 8 83] .ret) (sQ [wV 85 (.bin .eql none 21 (vI 9)), wM 84 85] (.cond 84 (sQ [wM 86 9, wV 87 (.bin .add none (.val (.str [61, 49, 47])) 86), wM 8 87] .ret) (sQ [wV 89 (.bin .eql none 21 (vI 10)), wM 88 89] (.cond 88 (sQ [wM 90 9, wV 91 (.bin .add none (.val (.str [61, 35, 82, 69, 70, 33, 43])) 90), wM 8 91] .ret) (sQ [wV 93 (.bin .eql none 21 (vI 11)), wM 92 93] (.cond 92 (sQ [wM 94 9, wV 95 (.bin .add none (.val (.str [61, 45])) 94), wV 96 (.bin .add none 95 (.val (.str [37]))), wM 8 96] .ret) (sQ [wV 98 (.bin .eql none 21 (vI 12)), wM 97 98] (.cond 97 (sQ [wV 99 (.fieldAddr 4 4), wV 100 (.load 3 true 99), wV 101 (.fieldAddr 7 4), wV 102 (.load 3 true 101), wM 103 1, wV 104 (kF 41 [100, 102, 103]), wV 105 (.bin .add none (.val (.str [61, 67, 79, 85, 78, 84, 40])) 104), wV 106 (.bin .add none 105 (.val (.str [44]))), wM 107 10, wV 108 (.bin .add none 106 107), wV 109 (.bin .add none 108 (.val (.str [41]))), wM 8 109] .ret) .skip)))))))))))))))))))))))))))) (.seq (sQ [wM 110 2, wM 111 110, wT 112 111 (.fieldAddr 3 4), wT 113 111 (.load 1 false 112), wT 114 111 (kF 13 [113, (vI 16)]), wT 115 111 (.bin .eql none 114 (vI 13)), wV 116 (.pick 111 115 (.val (.bool false)))] (.cond 116 (sQ [wM 117 9, wV 118 (.bin .add none (.val (.str [61, 114, 97, 116, 101, 42])) 117), wM 8 118] .ret) .skip)) (.seq (sQ [wM 119 2, wM 120 119, wT 121 120 (.fieldAddr 3 4), wT 122 120 (.load 1 false 121), wT 123 120 (kF 13 [122, (vI 16)]), wT 124 120 (.bin .eql none 123 (vI 14)), wV 125 (.pick 120 124 (.val (.bool false)))] (.cond 125 (sQ [wM 126 9, wV 127 (.bin .add none (.val (.str [61, 79, 119, 110, 43])) 126), wM 8 127] .ret) .skip)) (.seq (sQ [wM 128 3] (.cond 128 (sQ [wM 129 9, wV 130 (.bin .add none (.val (.str [61, 83, 85, 77, 40, 84, 97, 98, 91, 120, 93, 41, 43])) 129), wM 8 130] .ret) .skip)) (sQ [wM 131 9, wV 132 (.bin .add none (.val (.str [61])) 131), wM 8 132] .ret)))))))), [8], 133⟩
theorem G33 : Au Tryz.prog 15 = some F33 := by kernel_rfl
theorem fm0 (hg : Gr Tryz.prog W0 G) {p q ar vs : Bz} {sn rw cl kd A0 A1 A2 B0 B1 B2 vk vm ve n : Int} {vb : Bool} (hA : ∀ H, cP W0 40 [.agg [.int .i64 A0, .int .i64 A1, .int .i64 A2], .int .i64 n, .bool false] H (.str p) H) (hB : ∀ H, cP W0 40 [.agg [.int .i64 B0, .int .i64 B1, .int .i64 B2], .int .i64 n, .bool false] H (.str q) H) (_ : ∀ H, cP W0 41 [.agg [.int .i64 A0, .int .i64 A1, .int .i64 A2], .agg [.int .i64 B0, .int .i64 B1, .int .i64 B2], .int .i64 n] H (.str ar) H) (hP : ∀ H, cP W0 13 [.int .i64 kd, .int .i64 16] H (.int .i64 0) H) (hp : p.length ≤ 100) (_ : q.length ≤ 100) (_ : ar.length ≤ 100) : cP W0 15 [.agg [.int .i64 sn, .int .i64 rw, .int .i64 cl, .int .i64 kd, .int .i64 A0, .int .i64 A1, .int .i64 A2, .int .i64 B0, .int .i64 B1, .int .i64 B2, .int .i64 vk, .int .i64 vm, .int .i64 ve, .str vs, .bool vb], .int .i64 n, .bool true, .bool true] [] (.str (([61] ++ p) ++ [43, 49])) [] := by
 refine A3.of_fn G33 (by simp) rfl ?_
 refine sA (lV (v := .ptr 0 0) rfl (lV rfl (ln (sA (lV rfl (lV rfl (lV rfl (lC rfl (hA _) (lV rfl (ln (sA (lV rfl (lV rfl (lV rfl (lC rfl (hB _) (lV rfl (ln (sa (sA (lV rfl (lV rfl (lC rfl (hP _) (ln (bA (sA (lV rfl (lV rfl (ln (aT rfl (sA (lV rfl (lS rfl (lS rfl (lV rfl (ln ?_)))))))))))))))))))))))))))))))))))
 exact ExA.ret (A4 trivial rfl rfl 100 rfl rfl)
theorem fm1 (hg : Gr Tryz.prog W0 G) {p q ar vs : Bz} {sn rw cl kd A0 A1 A2 B0 B1 B2 vk vm ve n : Int} {vb : Bool} (hA : ∀ H, cP W0 40 [.agg [.int .i64 A0, .int .i64 A1, .int .i64 A2], .int .i64 n, .bool false] H (.str p) H) (hB : ∀ H, cP W0 40 [.agg [.int .i64 B0, .int .i64 B1, .int .i64 B2], .int .i64 n, .bool false] H (.str q) H) (_ : ∀ H, cP W0 41 [.agg [.int .i64 A0, .int .i64 A1, .int .i64 A2], .agg [.int .i64 B0, .int .i64 B1, .int .i64 B2], .int .i64 n] H (.str ar) H) (hP : ∀ H, cP W0 13 [.int .i64 kd, .int .i64 16] H (.int .i64 1) H) (hp : p.length ≤ 100) (hq : q.length ≤ 100) (_ : ar.length ≤ 100) : cP W0 15 [.agg [.int .i64 sn, .int .i64 rw, .int .i64 cl, .int .i64 kd, .int .i64 A0, .int .i64 A1, .int .i64 A2, .int .i64 B0, .int .i64 B1, .int .i64 B2, .int .i64 vk, .int .i64 vm, .int .i64 ve, .str vs, .bool vb], .int .i64 n, .bool true, .bool true] [] (.str ((([61] ++ p) ++ [42]) ++ q)) [] := by
 refine A3.of_fn G33 (by simp) rfl ?_
 refine sA (lV (v := .ptr 0 0) rfl (lV rfl (ln (sA (lV rfl (lV rfl (lV rfl (lC rfl (hA _) (lV rfl (ln (sA (lV rfl (lV rfl (lV rfl (lC rfl (hB _) (lV rfl (ln (sa (sA (lV rfl (lV rfl (lC rfl (hP _) (ln (bA (sA (lV rfl (lV rfl (ln (aF rfl (sA (lV rfl (lV rfl (ln (aT rfl (sA (lV rfl (lS rfl (lS rfl (lV rfl (lS rfl (lV rfl (ln ?_))))))))))))))))))))))))))))))))))))))))))
 exact ExA.ret (A4 trivial rfl rfl 100 rfl rfl)
theorem fm2 (hg : Gr Tryz.prog W0 G) {p q ar vs : Bz} {sn rw cl kd A0 A1 A2 B0 B1 B2 vk vm ve n : Int} {vb : Bool} (hA : ∀ H, cP W0 40 [.agg [.int .i64 A0, .int .i64 A1, .int .i64 A2], .int .i64 n, .bool false] H (.str p) H) (hB : ∀ H, cP W0 40 [.agg [.int .i64 B0, .int .i64 B1, .int .i64 B2], .int .i64 n, .bool false] H (.str q) H) (hC : ∀ H, cP W0 41 [.agg [.int .i64 A0, .int .i64 A1, .int .i64 A2], .agg [.int .i64 B0, .int .i64 B1, .int .i64 B2], .int .i64 n] H (.str ar) H) (hP : ∀ H, cP W0 13 [.int .i64 kd, .int .i64 16] H (.int .i64 2) H) (_ : p.length ≤ 100) (_ : q.length ≤ 100) (har : ar.length ≤ 100) : cP W0 15 [.agg [.int .i64 sn, .int .i64 rw, .int .i64 cl, .int .i64 kd, .int .i64 A0, .int .i64 A1, .int .i64 A2, .int .i64 B0, .int .i64 B1, .int .i64 B2, .int .i64 vk, .int .i64 vm, .int .i64 ve, .str vs, .bool vb], .int .i64 n, .bool true, .bool true] [] (.str (([61, 83, 85, 77, 40] ++ ar) ++ [41])) [] := by
 refine A3.of_fn G33 (by simp) rfl ?_
 refine sA (lV (v := .ptr 0 0) rfl (lV rfl (ln (sA (lV rfl (lV rfl (lV rfl (lC rfl (hA _) (lV rfl (ln (sA (lV rfl (lV rfl (lV rfl (lC rfl (hB _) (lV rfl (ln (sa (sA (lV rfl (lV rfl (lC rfl (hP _) (ln (bA (sA (lV rfl (lV rfl (ln (aF rfl (sA (lV rfl (lV rfl (ln (aF rfl (sA (lV rfl (lV rfl (ln (aT rfl (sA (lV rfl (lV rfl (lV rfl (lV rfl (lV rfl (lC rfl (hC _) (lS rfl (lS rfl (lV rfl (ln ?_))))))))))))))))))))))))))))))))))))))))))))))))))
 exact ExA.ret (A4 trivial rfl rfl 100 rfl rfl)
theorem fm3 (hg : Gr Tryz.prog W0 G) {p q ar vs : Bz} {sn rw cl kd A0 A1 A2 B0 B1 B2 vk vm ve n : Int} {vb : Bool} (hA : ∀ H, cP W0 40 [.agg [.int .i64 A0, .int .i64 A1, .int .i64 A2], .int .i64 n, .bool false] H (.str p) H) (hB : ∀ H, cP W0 40 [.agg [.int .i64 B0, .int .i64 B1, .int .i64 B2], .int .i64 n, .bool false] H (.str q) H) (_ : ∀ H, cP W0 41 [.agg [.int .i64 A0, .int .i64 A1, .int .i64 A2], .agg [.int .i64 B0, .int .i64 B1, .int .i64 B2], .int .i64 n] H (.str ar) H) (hP : ∀ H, cP W0 13 [.int .i64 kd, .int .i64 16] H (.int .i64 3) H) (hp : p.length ≤ 100) (hq : q.length ≤ 100) (_ : ar.length ≤ 100) : cP W0 15 [.agg [.int .i64 sn, .int .i64 rw, .int .i64 cl, .int .i64 kd, .int .i64 A0, .int .i64 A1, .int .i64 A2, .int .i64 B0, .int .i64 B1, .int .i64 B2, .int .i64 vk, .int .i64 vm, .int .i64 ve, .str vs, .bool vb], .int .i64 n, .bool true, .bool true] [] (.str (((([61, 73, 70, 40] ++ p) ++ [62, 50, 44]) ++ q) ++ [44, 48, 41])) [] := by
 refine A3.of_fn G33 (by simp) rfl ?_
 refine sA (lV (v := .ptr 0 0) rfl (lV rfl (ln (sA (lV rfl (lV rfl (lV rfl (lC rfl (hA _) (lV rfl (ln (sA (lV rfl (lV rfl (lV rfl (lC rfl (hB _) (lV rfl (ln (sa (sA (lV rfl (lV rfl (lC rfl (hP _) (ln (bA (sA (lV rfl (lV rfl (ln (aF rfl (sA (lV rfl (lV rfl (ln (aF rfl (sA (lV rfl (lV rfl (ln (aF rfl (sA (lV rfl (lV rfl (ln (aT rfl (sA (lV rfl (lS rfl (lS rfl (lV rfl (lS rfl (lS rfl (lV rfl (ln ?_)))))))))))))))))))))))))))))))))))))))))))))))))))))
 exact ExA.ret (A4 trivial rfl rfl 100 rfl rfl)
theorem fm4 (hg : Gr Tryz.prog W0 G) {p q ar vs : Bz} {sn rw cl kd A0 A1 A2 B0 B1 B2 vk vm ve n : Int} {vb : Bool} (hA : ∀ H, cP W0 40 [.agg [.int .i64 A0, .int .i64 A1, .int .i64 A2], .int .i64 n, .bool false] H (.str p) H) (hB : ∀ H, cP W0 40 [.agg [.int .i64 B0, .int .i64 B1, .int .i64 B2], .int .i64 n, .bool false] H (.str q) H) (_ : ∀ H, cP W0 41 [.agg [.int .i64 A0, .int .i64 A1, .int .i64 A2], .agg [.int .i64 B0, .int .i64 B1, .int .i64 B2], .int .i64 n] H (.str ar) H) (hP : ∀ H, cP W0 13 [.int .i64 kd, .int .i64 16] H (.int .i64 4) H) (hp : p.length ≤ 100) (_ : q.length ≤ 100) (_ : ar.length ≤ 100) : cP W0 15 [.agg [.int .i64 sn, .int .i64 rw, .int .i64 cl, .int .i64 kd, .int .i64 A0, .int .i64 A1, .int .i64 A2, .int .i64 B0, .int .i64 B1, .int .i64 B2, .int .i64 vk, .int .i64 vm, .int .i64 ve, .str vs, .bool vb], .int .i64 n, .bool true, .bool true] [] (.str ([61, 123, 49, 44, 50, 59, 51, 44, 52, 125, 43] ++ p)) [] := by
 refine A3.of_fn G33 (by simp) rfl ?_
 refine sA (lV (v := .ptr 0 0) rfl (lV rfl (ln (sA (lV rfl (lV rfl (lV rfl (lC rfl (hA _) (lV rfl (ln (sA (lV rfl (lV rfl (lV rfl (lC rfl (hB _) (lV rfl (ln (sa (sA (lV rfl (lV rfl (lC rfl (hP _) (ln (bA (sA (lV rfl (lV rfl (ln (aF rfl (sA (lV rfl (lV rfl (ln (aF rfl (sA (lV rfl (lV rfl (ln (aF rfl (sA (lV rfl (lV rfl (ln (aF rfl (sA (lV rfl (lV rfl (ln (aT rfl (sA (lV rfl (lS rfl (lV rfl (ln ?_))))))))))))))))))))))))))))))))))))))))))))))))))))))
 exact ExA.ret (A4 trivial rfl rfl 100 rfl rfl)
theorem fm5 (hg : Gr Tryz.prog W0 G) {p q ar vs : Bz} {sn rw cl kd A0 A1 A2 B0 B1 B2 vk vm ve n : Int} {vb : Bool} (hA : ∀ H, cP W0 40 [.agg [.int .i64 A0, .int .i64 A1, .int .i64 A2], .int .i64 n, .bool false] H (.str p) H) (hB : ∀ H, cP W0 40 [.agg [.int .i64 B0, .int .i64 B1, .int .i64 B2], .int .i64 n, .bool false] H (.str q) H) (hC : ∀ H, cP W0 41 [.agg [.int .i64 A0, .int .i64 A1, .int .i64 A2], .agg [.int .i64 B0, .int .i64 B1, .int .i64 B2], .int .i64 n] H (.str ar) H) (hP : ∀ H, cP W0 13 [.int .i64 kd, .int .i64 16] H (.int .i64 5) H) (_ : p.length ≤ 100) (_ : q.length ≤ 100) (har : ar.length ≤ 100) : cP W0 15 [.agg [.int .i64 sn, .int .i64 rw, .int .i64 cl, .int .i64 kd, .int .i64 A0, .int .i64 A1, .int .i64 A2, .int .i64 B0, .int .i64 B1, .int .i64 B2, .int .i64 vk, .int .i64 vm, .int .i64 ve, .str vs, .bool vb], .int .i64 n, .bool true, .bool true] [] (.str (([61] ++ ar) ++ [42, 50])) [] := by
 refine A3.of_fn G33 (by simp) rfl ?_
 refine sA (lV (v := .ptr 0 0) rfl (lV rfl (ln (sA (lV rfl (lV rfl (lV rfl (lC rfl (hA _) (lV rfl (ln (sA (lV rfl (lV rfl (lV rfl (lC rfl (hB _) (lV rfl (ln (sa (sA (lV rfl (lV rfl (lC rfl (hP _) (ln (bA (sA (lV rfl (lV rfl (ln (aF rfl (sA (lV rfl (lV rfl (ln (aF rfl (sA (lV rfl (lV rfl (ln (aF rfl (sA (lV rfl (lV rfl (ln (aF rfl (sA (lV rfl (lV rfl (ln (aF rfl (sA (lV rfl (lV rfl (ln (aT rfl (sA (lV rfl (lV rfl (lV rfl (lV rfl (lV rfl (lC rfl (hC _) (lS rfl (lS rfl (lV rfl (ln ?_)))))))))))))))))))))))))))))))))))))))))))))))))))))))))))))))))
 exact ExA.ret (A4 trivial rfl rfl 100 rfl rfl)
theorem fm6 (hg : Gr Tryz.prog W0 G) {p q ar vs : Bz} {sn rw cl kd A0 A1 A2 B0 B1 B2 vk vm ve n : Int} {vb : Bool} (hA : ∀ H, cP W0 40 [.agg [.int .i64 A0, .int .i64 A1, .int .i64 A2], .int .i64 n, .bool false] H (.str p) H) (hB : ∀ H, cP W0 40 [.agg [.int .i64 B0, .int .i64 B1, .int .i64 B2], .int .i64 n, .bool false] H (.str q) H) (_ : ∀ H, cP W0 41 [.agg [.int .i64 A0, .int .i64 A1, .int .i64 A2], .agg [.int .i64 B0, .int .i64 B1, .int .i64 B2], .int .i64 n] H (.str ar) H) (hP : ∀ H, cP W0 13 [.int .i64 kd, .int .i64 16] H (.int .i64 6) H) (hp : p.length ≤ 100) (hq : q.length ≤ 100) (_ : ar.length ≤ 100) : cP W0 15 [.agg [.int .i64 sn, .int .i64 rw, .int .i64 cl, .int .i64 kd, .int .i64 A0, .int .i64 A1, .int .i64 A2, .int .i64 B0, .int .i64 B1, .int .i64 B2, .int .i64 vk, .int .i64 vm, .int .i64 ve, .str vs, .bool vb], .int .i64 n, .bool true, .bool true] [] (.str (((([61, 76, 69, 84, 40, 120, 44] ++ p) ++ [44, 120, 42, 120, 45]) ++ q) ++ [41])) [] := by
 refine A3.of_fn G33 (by simp) rfl ?_
 refine sA (lV (v := .ptr 0 0) rfl (lV rfl (ln (sA (lV rfl (lV rfl (lV rfl (lC rfl (hA _) (lV rfl (ln (sA (lV rfl (lV rfl (lV rfl (lC rfl (hB _) (lV rfl (ln (sa (sA (lV rfl (lV rfl (lC rfl (hP _) (ln (bA (sA (lV rfl (lV rfl (ln (aF rfl (sA (lV rfl (lV rfl (ln (aF rfl (sA (lV rfl (lV rfl (ln (aF rfl (sA (lV rfl (lV rfl (ln (aF rfl (sA (lV rfl (lV rfl (ln (aF rfl (sA (lV rfl (lV rfl (ln (aF rfl (sA (lV rfl (lV rfl (ln (aT rfl (sA (lV rfl (lS rfl (lS rfl (lV rfl (lS rfl (lS rfl (lV rfl (ln ?_))))))))))))))))))))))))))))))))))))))))))))))))))))))))))))))))))))
 exact ExA.ret (A4 trivial rfl rfl 100 rfl rfl)
theorem fm7 (hg : Gr Tryz.prog W0 G) {p q ar vs : Bz} {sn rw cl kd A0 A1 A2 B0 B1 B2 vk vm ve n : Int} {vb : Bool} (hA : ∀ H, cP W0 40 [.agg [.int .i64 A0, .int .i64 A1, .int .i64 A2], .int .i64 n, .bool false] H (.str p) H) (hB : ∀ H, cP W0 40 [.agg [.int .i64 B0, .int .i64 B1, .int .i64 B2], .int .i64 n, .bool false] H (.str q) H) (_ : ∀ H, cP W0 41 [.agg [.int .i64 A0, .int .i64 A1, .int .i64 A2], .agg [.int .i64 B0, .int .i64 B1, .int .i64 B2], .int .i64 n] H (.str ar) H) (hP : ∀ H, cP W0 13 [.int .i64 kd, .int .i64 16] H (.int .i64 7) H) (hp : p.length ≤ 100) (_ : q.length ≤ 100) (_ : ar.length ≤ 100) : cP W0 15 [.agg [.int .i64 sn, .int .i64 rw, .int .i64 cl, .int .i64 kd, .int .i64 A0, .int .i64 A1, .int .i64 A2, .int .i64 B0, .int .i64 B1, .int .i64 B2, .int .i64 vk, .int .i64 vm, .int .i64 ve, .str vs, .bool vb], .int .i64 n, .bool true, .bool true] [] (.str (([61, 76, 69, 84, 40, 102, 44, 76, 65, 77, 66, 68, 65, 40, 110, 44, 73, 70, 40, 110, 60, 49, 44, 49, 44, 110, 42, 102, 40, 110, 45, 49, 41, 41, 41, 44, 102, 40] ++ p) ++ [41, 41])) [] := by
 refine A3.of_fn G33 (by simp) rfl ?_
 refine sA (lV (v := .ptr 0 0) rfl (lV rfl (ln (sA (lV rfl (lV rfl (lV rfl (lC rfl (hA _) (lV rfl (ln (sA (lV rfl (lV rfl (lV rfl (lC rfl (hB _) (lV rfl (ln (sa (sA (lV rfl (lV rfl (lC rfl (hP _) (ln (bA (sA (lV rfl (lV rfl (ln (aF rfl (sA (lV rfl (lV rfl (ln (aF rfl (sA (lV rfl (lV rfl (ln (aF rfl (sA (lV rfl (lV rfl (ln (aF rfl (sA (lV rfl (lV rfl (ln (aF rfl (sA (lV rfl (lV rfl (ln (aF rfl (sA (lV rfl (lV rfl (ln (aF rfl (sA (lV rfl (lV rfl (ln (aT rfl (sA (lV rfl (lS rfl (lS rfl (lV rfl (ln ?_))))))))))))))))))))))))))))))))))))))))))))))))))))))))))))))))))))))
 exact ExA.ret (A4 trivial rfl rfl 100 rfl rfl)
theorem fm8 (hg : Gr Tryz.prog W0 G) {p q ar vs : Bz} {sn rw cl kd A0 A1 A2 B0 B1 B2 vk vm ve n : Int} {vb : Bool} (hA : ∀ H, cP W0 40 [.agg [.int .i64 A0, .int .i64 A1, .int .i64 A2], .int .i64 n, .bool false] H (.str p) H) (hB : ∀ H, cP W0 40 [.agg [.int .i64 B0, .int .i64 B1, .int .i64 B2], .int .i64 n, .bool false] H (.str q) H) (_ : ∀ H, cP W0 41 [.agg [.int .i64 A0, .int .i64 A1, .int .i64 A2], .agg [.int .i64 B0, .int .i64 B1, .int .i64 B2], .int .i64 n] H (.str ar) H) (hP : ∀ H, cP W0 13 [.int .i64 kd, .int .i64 16] H (.int .i64 8) H) (hp : p.length ≤ 100) (_ : q.length ≤ 100) (_ : ar.length ≤ 100) : cP W0 15 [.agg [.int .i64 sn, .int .i64 rw, .int .i64 cl, .int .i64 kd, .int .i64 A0, .int .i64 A1, .int .i64 A2, .int .i64 B0, .int .i64 B1, .int .i64 B2, .int .i64 vk, .int .i64 vm, .int .i64 ve, .str vs, .bool vb], .int .i64 n, .bool true, .bool true] [] (.str (([61] ++ p) ++ [38, 34, 97, 34])) [] := by
 refine A3.of_fn G33 (by simp) rfl ?_
 refine sA (lV (v := .ptr 0 0) rfl (lV rfl (ln (sA (lV rfl (lV rfl (lV rfl (lC rfl (hA _) (lV rfl (ln (sA (lV rfl (lV rfl (lV rfl (lC rfl (hB _) (lV rfl (ln (sa (sA (lV rfl (lV rfl (lC rfl (hP _) (ln (bA (sA (lV rfl (lV rfl (ln (aF rfl (sA (lV rfl (lV rfl (ln (aF rfl (sA (lV rfl (lV rfl (ln (aF rfl (sA (lV rfl (lV rfl (ln (aF rfl (sA (lV rfl (lV rfl (ln (aF rfl (sA (lV rfl (lV rfl (ln (aF rfl (sA (lV rfl (lV rfl (ln (aF rfl (sA (lV rfl (lV rfl (ln (aF rfl (sA (lV rfl (lV rfl (ln (aT rfl (sA (lV rfl (lS rfl (lS rfl (lV rfl (ln ?_)))))))))))))))))))))))))))))))))))))))))))))))))))))))))))))))))))))))))))
 exact ExA.ret (A4 trivial rfl rfl 100 rfl rfl)
theorem fm9 (hg : Gr Tryz.prog W0 G) {p q ar vs : Bz} {sn rw cl kd A0 A1 A2 B0 B1 B2 vk vm ve n : Int} {vb : Bool} (hA : ∀ H, cP W0 40 [.agg [.int .i64 A0, .int .i64 A1, .int .i64 A2], .int .i64 n, .bool false] H (.str p) H) (hB : ∀ H, cP W0 40 [.agg [.int .i64 B0, .int .i64 B1, .int .i64 B2], .int .i64 n, .bool false] H (.str q) H) (_ : ∀ H, cP W0 41 [.agg [.int .i64 A0, .int .i64 A1, .int .i64 A2], .agg [.int .i64 B0, .int .i64 B1, .int .i64 B2], .int .i64 n] H (.str ar) H) (hP : ∀ H, cP W0 13 [.int .i64 kd, .int .i64 16] H (.int .i64 9) H) (hp : p.length ≤ 100) (_ : q.length ≤ 100) (_ : ar.length ≤ 100) : cP W0 15 [.agg [.int .i64 sn, .int .i64 rw, .int .i64 cl, .int .i64 kd, .int .i64 A0, .int .i64 A1, .int .i64 A2, .int .i64 B0, .int .i64 B1, .int .i64 B2, .int .i64 vk, .int .i64 vm, .int .i64 ve, .str vs, .bool vb], .int .i64 n, .bool true, .bool true] [] (.str ([61, 49, 47] ++ p)) [] := by
 refine A3.of_fn G33 (by simp) rfl ?_
 refine sA (lV (v := .ptr 0 0) rfl (lV rfl (ln (sA (lV rfl (lV rfl (lV rfl (lC rfl (hA _) (lV rfl (ln (sA (lV rfl (lV rfl (lV rfl (lC rfl (hB _) (lV rfl (ln (sa (sA (lV rfl (lV rfl (lC rfl (hP _) (ln (bA (sA (lV rfl (lV rfl (ln (aF rfl (sA (lV rfl (lV rfl (ln (aF rfl (sA (lV rfl (lV rfl (ln (aF rfl (sA (lV rfl (lV rfl (ln (aF rfl (sA (lV rfl (lV rfl (ln (aF rfl (sA (lV rfl (lV rfl (ln (aF rfl (sA (lV rfl (lV rfl (ln (aF rfl (sA (lV rfl (lV rfl (ln (aF rfl (sA (lV rfl (lV rfl (ln (aF rfl (sA (lV rfl (lV rfl (ln (aT rfl (sA (lV rfl (lS rfl (lV rfl (ln ?_)))))))))))))))))))))))))))))))))))))))))))))))))))))))))))))))))))))))))))))))
 exact ExA.ret (A4 trivial rfl rfl 100 rfl rfl)
theorem fm10 (hg : Gr Tryz.prog W0 G) {p q ar vs : Bz} {sn rw cl kd A0 A1 A2 B0 B1 B2 vk vm ve n : Int} {vb : Bool} (hA : ∀ H, cP W0 40 [.agg [.int .i64 A0, .int .i64 A1, .int .i64 A2], .int .i64 n, .bool false] H (.str p) H) (hB : ∀ H, cP W0 40 [.agg [.int .i64 B0, .int .i64 B1, .int .i64 B2], .int .i64 n, .bool false] H (.str q) H) (_ : ∀ H, cP W0 41 [.agg [.int .i64 A0, .int .i64 A1, .int .i64 A2], .agg [.int .i64 B0, .int .i64 B1, .int .i64 B2], .int .i64 n] H (.str ar) H) (hP : ∀ H, cP W0 13 [.int .i64 kd, .int .i64 16] H (.int .i64 10) H) (hp : p.length ≤ 100) (_ : q.length ≤ 100) (_ : ar.length ≤ 100) : cP W0 15 [.agg [.int .i64 sn, .int .i64 rw, .int .i64 cl, .int .i64 kd, .int .i64 A0, .int .i64 A1, .int .i64 A2, .int .i64 B0, .int .i64 B1, .int .i64 B2, .int .i64 vk, .int .i64 vm, .int .i64 ve, .str vs, .bool vb], .int .i64 n, .bool true, .bool true] [] (.str ([61, 35, 82, 69, 70, 33, 43] ++ p)) [] := by
 refine A3.of_fn G33 (by simp) rfl ?_
 refine sA (lV (v := .ptr 0 0) rfl (lV rfl (ln (sA (lV rfl (lV rfl (lV rfl (lC rfl (hA _) (lV rfl (ln (sA (lV rfl (lV rfl (lV rfl (lC rfl (hB _) (lV rfl (ln (sa (sA (lV rfl (lV rfl (lC rfl (hP _) (ln (bA (sA (lV rfl (lV rfl (ln (aF rfl (sA (lV rfl (lV rfl (ln (aF rfl (sA (lV rfl (lV rfl (ln (aF rfl (sA (lV rfl (lV rfl (ln (aF rfl (sA (lV rfl (lV rfl (ln (aF rfl (sA (lV rfl (lV rfl (ln (aF rfl (sA (lV rfl (lV rfl (ln (aF rfl (sA (lV rfl (lV rfl (ln (aF rfl (sA (lV rfl (lV rfl (ln (aF rfl (sA (lV rfl (lV rfl (ln (aF rfl (sA (lV rfl (lV rfl (ln (aT rfl (sA (lV rfl (lS rfl (lV rfl (ln ?_))))))))))))))))))))))))))))))))))))))))))))))))))))))))))))))))))))))))))))))))))))
 exact ExA.ret (A4 trivial rfl rfl 100 rfl rfl)
theorem fm11 (hg : Gr Tryz.prog W0 G) {p q ar vs : Bz} {sn rw cl kd A0 A1 A2 B0 B1 B2 vk vm ve n : Int} {vb : Bool} (hA : ∀ H, cP W0 40 [.agg [.int .i64 A0, .int .i64 A1, .int .i64 A2], .int .i64 n, .bool false] H (.str p) H) (hB : ∀ H, cP W0 40 [.agg [.int .i64 B0, .int .i64 B1, .int .i64 B2], .int .i64 n, .bool false] H (.str q) H) (_ : ∀ H, cP W0 41 [.agg [.int .i64 A0, .int .i64 A1, .int .i64 A2], .agg [.int .i64 B0, .int .i64 B1, .int .i64 B2], .int .i64 n] H (.str ar) H) (hP : ∀ H, cP W0 13 [.int .i64 kd, .int .i64 16] H (.int .i64 11) H) (hp : p.length ≤ 100) (_ : q.length ≤ 100) (_ : ar.length ≤ 100) : cP W0 15 [.agg [.int .i64 sn, .int .i64 rw, .int .i64 cl, .int .i64 kd, .int .i64 A0, .int .i64 A1, .int .i64 A2, .int .i64 B0, .int .i64 B1, .int .i64 B2, .int .i64 vk, .int .i64 vm, .int .i64 ve, .str vs, .bool vb], .int .i64 n, .bool true, .bool true] [] (.str (([61, 45] ++ p) ++ [37])) [] := by
 refine A3.of_fn G33 (by simp) rfl ?_
 refine sA (lV (v := .ptr 0 0) rfl (lV rfl (ln (sA (lV rfl (lV rfl (lV rfl (lC rfl (hA _) (lV rfl (ln (sA (lV rfl (lV rfl (lV rfl (lC rfl (hB _) (lV rfl (ln (sa (sA (lV rfl (lV rfl (lC rfl (hP _) (ln (bA (sA (lV rfl (lV rfl (ln (aF rfl (sA (lV rfl (lV rfl (ln (aF rfl (sA (lV rfl (lV rfl (ln (aF rfl (sA (lV rfl (lV rfl (ln (aF rfl (sA (lV rfl (lV rfl (ln (aF rfl (sA (lV rfl (lV rfl (ln (aF rfl (sA (lV rfl (lV rfl (ln (aF rfl (sA (lV rfl (lV rfl (ln (aF rfl (sA (lV rfl (lV rfl (ln (aF rfl (sA (lV rfl (lV rfl (ln (aF rfl (sA (lV rfl (lV rfl (ln (aF rfl (sA (lV rfl (lV rfl (ln (aT rfl (sA (lV rfl (lS rfl (lS rfl (lV rfl (ln ?_))))))))))))))))))))))))))))))))))))))))))))))))))))))))))))))))))))))))))))))))))))))))))
 exact ExA.ret (A4 trivial rfl rfl 100 rfl rfl)
theorem fm12 (hg : Gr Tryz.prog W0 G) {p q ar vs : Bz} {sn rw cl kd A0 A1 A2 B0 B1 B2 vk vm ve n : Int} {vb : Bool} (hA : ∀ H, cP W0 40 [.agg [.int .i64 A0, .int .i64 A1, .int .i64 A2], .int .i64 n, .bool false] H (.str p) H) (hB : ∀ H, cP W0 40 [.agg [.int .i64 B0, .int .i64 B1, .int .i64 B2], .int .i64 n, .bool false] H (.str q) H) (hC : ∀ H, cP W0 41 [.agg [.int .i64 A0, .int .i64 A1, .int .i64 A2], .agg [.int .i64 B0, .int .i64 B1, .int .i64 B2], .int .i64 n] H (.str ar) H) (hP : ∀ H, cP W0 13 [.int .i64 kd, .int .i64 16] H (.int .i64 12) H) (_ : p.length ≤ 100) (hq : q.length ≤ 100) (har : ar.length ≤ 100) : cP W0 15 [.agg [.int .i64 sn, .int .i64 rw, .int .i64 cl, .int .i64 kd, .int .i64 A0, .int .i64 A1, .int .i64 A2, .int .i64 B0, .int .i64 B1, .int .i64 B2, .int .i64 vk, .int .i64 vm, .int .i64 ve, .str vs, .bool vb], .int .i64 n, .bool true, .bool true] [] (.str (((([61, 67, 79, 85, 78, 84, 40] ++ ar) ++ [44]) ++ q) ++ [41])) [] := by
 refine A3.of_fn G33 (by simp) rfl ?_
 refine sA (lV (v := .ptr 0 0) rfl (lV rfl (ln (sA (lV rfl (lV rfl (lV rfl (lC rfl (hA _) (lV rfl (ln (sA (lV rfl (lV rfl (lV rfl (lC rfl (hB _) (lV rfl (ln (sa (sA (lV rfl (lV rfl (lC rfl (hP _) (ln (bA (sA (lV rfl (lV rfl (ln (aF rfl (sA (lV rfl (lV rfl (ln (aF rfl (sA (lV rfl (lV rfl (ln (aF rfl (sA (lV rfl (lV rfl (ln (aF rfl (sA (lV rfl (lV rfl (ln (aF rfl (sA (lV rfl (lV rfl (ln (aF rfl (sA (lV rfl (lV rfl (ln (aF rfl (sA (lV rfl (lV rfl (ln (aF rfl (sA (lV rfl (lV rfl (ln (aF rfl (sA (lV rfl (lV rfl (ln (aF rfl (sA (lV rfl (lV rfl (ln (aF rfl (sA (lV rfl (lV rfl (ln (aF rfl (sA (lV rfl (lV rfl (ln (aT rfl (sA (lV rfl (lV rfl (lV rfl (lV rfl (lV rfl (lC rfl (hC _) (lS rfl (lS rfl (lV rfl (lS rfl (lS rfl (lV rfl (ln ?_)))))))))))))))))))))))))))))))))))))))))))))))))))))))))))))))))))))))))))))))))))))))))))))))))))))))
 exact ExA.ret (A4 trivial rfl rfl 100 rfl rfl)
theorem fm13 (hg : Gr Tryz.prog W0 G) {p q ar vs : Bz} {sn rw cl kd A0 A1 A2 B0 B1 B2 vk vm ve n : Int} {vb : Bool} (hA : ∀ H, cP W0 40 [.agg [.int .i64 A0, .int .i64 A1, .int .i64 A2], .int .i64 n, .bool false] H (.str p) H) (hB : ∀ H, cP W0 40 [.agg [.int .i64 B0, .int .i64 B1, .int .i64 B2], .int .i64 n, .bool false] H (.str q) H) (_ : ∀ H, cP W0 41 [.agg [.int .i64 A0, .int .i64 A1, .int .i64 A2], .agg [.int .i64 B0, .int .i64 B1, .int .i64 B2], .int .i64 n] H (.str ar) H) (hP : ∀ H, cP W0 13 [.int .i64 kd, .int .i64 16] H (.int .i64 13) H) (hp : p.length ≤ 100) (_ : q.length ≤ 100) (_ : ar.length ≤ 100) : cP W0 15 [.agg [.int .i64 sn, .int .i64 rw, .int .i64 cl, .int .i64 kd, .int .i64 A0, .int .i64 A1, .int .i64 A2, .int .i64 B0, .int .i64 B1, .int .i64 B2, .int .i64 vk, .int .i64 vm, .int .i64 ve, .str vs, .bool vb], .int .i64 n, .bool true, .bool true] [] (.str ([61, 114, 97, 116, 101, 42] ++ p)) [] := by
 refine A3.of_fn G33 (by simp) rfl ?_
 refine sA (lV (v := .ptr 0 0) rfl (lV rfl (ln (sA (lV rfl (lV rfl (lV rfl (lC rfl (hA _) (lV rfl (ln (sA (lV rfl (lV rfl (lV rfl (lC rfl (hB _) (lV rfl (ln (sa (sA (lV rfl (lV rfl (lC rfl (hP _) (ln (bA (sA (lV rfl (lV rfl (ln (aF rfl (sA (lV rfl (lV rfl (ln (aF rfl (sA (lV rfl (lV rfl (ln (aF rfl (sA (lV rfl (lV rfl (ln (aF rfl (sA (lV rfl (lV rfl (ln (aF rfl (sA (lV rfl (lV rfl (ln (aF rfl (sA (lV rfl (lV rfl (ln (aF rfl (sA (lV rfl (lV rfl (ln (aF rfl (sA (lV rfl (lV rfl (ln (aF rfl (sA (lV rfl (lV rfl (ln (aF rfl (sA (lV rfl (lV rfl (ln (aF rfl (sA (lV rfl (lV rfl (ln (aF rfl (sA (lV rfl (lV rfl (ln (aF rfl (kA (sa (sA (lV rfl (lV rfl (lGY rfl (A6 rfl rfl trivial (lGY rfl (A6 rfl rfl trivial (lGY rfl (Dt rfl rfl (hP _) (lGY rfl (A6 rfl rfl trivial (A6 rfl rfl trivial (Bo (ExA.condT hg rfl (ExA.seq (ExA.ops hg (A6 rfl rfl trivial (A6 rfl rfl (by first | exact trivial | (simp only [Ae, and_true, lCo, lNi]; omega)) (A6 rfl rfl trivial (Bo (?_))))))))))))))))))))))))))))))))))))))))))))))))))))))))))))))))))))))))))))))))))))))))))))))))))))))))))))))))
 exact ExA.ret (A4 trivial rfl rfl 100 rfl rfl)
theorem fm14 (hg : Gr Tryz.prog W0 G) {p q ar vs : Bz} {sn rw cl kd A0 A1 A2 B0 B1 B2 vk vm ve n : Int} {vb : Bool} (hA : ∀ H, cP W0 40 [.agg [.int .i64 A0, .int .i64 A1, .int .i64 A2], .int .i64 n, .bool false] H (.str p) H) (hB : ∀ H, cP W0 40 [.agg [.int .i64 B0, .int .i64 B1, .int .i64 B2], .int .i64 n, .bool false] H (.str q) H) (_ : ∀ H, cP W0 41 [.agg [.int .i64 A0, .int .i64 A1, .int .i64 A2], .agg [.int .i64 B0, .int .i64 B1, .int .i64 B2], .int .i64 n] H (.str ar) H) (hP : ∀ H, cP W0 13 [.int .i64 kd, .int .i64 16] H (.int .i64 14) H) (hp : p.length ≤ 100) (_ : q.length ≤ 100) (_ : ar.length ≤ 100) : cP W0 15 [.agg [.int .i64 sn, .int .i64 rw, .int .i64 cl, .int .i64 kd, .int .i64 A0, .int .i64 A1, .int .i64 A2, .int .i64 B0, .int .i64 B1, .int .i64 B2, .int .i64 vk, .int .i64 vm, .int .i64 ve, .str vs, .bool vb], .int .i64 n, .bool true, .bool true] [] (.str ([61, 79, 119, 110, 43] ++ p)) [] := by
 refine A3.of_fn G33 (by simp) rfl ?_
 refine sA (lV (v := .ptr 0 0) rfl (lV rfl (ln (sA (lV rfl (lV rfl (lV rfl (lC rfl (hA _) (lV rfl (ln (sA (lV rfl (lV rfl (lV rfl (lC rfl (hB _) (lV rfl (ln (sa (sA (lV rfl (lV rfl (lC rfl (hP _) (ln (bA (sA (lV rfl (lV rfl (ln (aF rfl (sA (lV rfl (lV rfl (ln (aF rfl (sA (lV rfl (lV rfl (ln (aF rfl (sA (lV rfl (lV rfl (ln (aF rfl (sA (lV rfl (lV rfl (ln (aF rfl (sA (lV rfl (lV rfl (ln (aF rfl (sA (lV rfl (lV rfl (ln (aF rfl (sA (lV rfl (lV rfl (ln (aF rfl (sA (lV rfl (lV rfl (ln (aF rfl (sA (lV rfl (lV rfl (ln (aF rfl (sA (lV rfl (lV rfl (ln (aF rfl (sA (lV rfl (lV rfl (ln (aF rfl (sA (lV rfl (lV rfl (ln (aF rfl (kA (sa (sA (lV rfl (lV rfl (lGY rfl (A6 rfl rfl trivial (lGY rfl (A6 rfl rfl trivial (lGY rfl (Dt rfl rfl (hP _) (lGY rfl (A6 rfl rfl trivial (A6 rfl rfl trivial (Bo (ExA.condF hg rfl (ExA.skip (ExA.seq (ExA.seq (ExA.ops hg (A6 rfl rfl trivial (A6 rfl rfl trivial (lGY rfl (A6 rfl rfl trivial (lGY rfl (A6 rfl rfl trivial (lGY rfl (Dt rfl rfl (hP _) (lGY rfl (A6 rfl rfl trivial (A6 rfl rfl trivial (Bo (ExA.condT hg rfl (ExA.seq (ExA.ops hg (A6 rfl rfl trivial (A6 rfl rfl (by first | exact trivial | (simp only [Ae, and_true, lCo, lNi]; omega)) (A6 rfl rfl trivial (Bo (?_)))))))))))))))))))))))))))))))))))))))))))))))))))))))))))))))))))))))))))))))))))))))))))))))))))))))))))))))))))))))))))))))))
 exact ExA.ret (A4 trivial rfl rfl 100 rfl rfl)
theorem fm15 (hg : Gr Tryz.prog W0 G) {p q ar vs : Bz} {sn rw cl kd A0 A1 A2 B0 B1 B2 vk vm ve n : Int} {vb : Bool} (hA : ∀ H, cP W0 40 [.agg [.int .i64 A0, .int .i64 A1, .int .i64 A2], .int .i64 n, .bool false] H (.str p) H) (hB : ∀ H, cP W0 40 [.agg [.int .i64 B0, .int .i64 B1, .int .i64 B2], .int .i64 n, .bool false] H (.str q) H) (_ : ∀ H, cP W0 41 [.agg [.int .i64 A0, .int .i64 A1, .int .i64 A2], .agg [.int .i64 B0, .int .i64 B1, .int .i64 B2], .int .i64 n] H (.str ar) H) (hP : ∀ H, cP W0 13 [.int .i64 kd, .int .i64 16] H (.int .i64 15) H) (hp : p.length ≤ 100) (_ : q.length ≤ 100) (_ : ar.length ≤ 100) : cP W0 15 [.agg [.int .i64 sn, .int .i64 rw, .int .i64 cl, .int .i64 kd, .int .i64 A0, .int .i64 A1, .int .i64 A2, .int .i64 B0, .int .i64 B1, .int .i64 B2, .int .i64 vk, .int .i64 vm, .int .i64 ve, .str vs, .bool vb], .int .i64 n, .bool true, .bool true] [] (.str ([61, 83, 85, 77, 40, 84, 97, 98, 91, 120, 93, 41, 43] ++ p)) [] := by
 refine A3.of_fn G33 (by simp) rfl ?_
 refine sA (lV (v := .ptr 0 0) rfl (lV rfl (ln (sA (lV rfl (lV rfl (lV rfl (lC rfl (hA _) (lV rfl (ln (sA (lV rfl (lV rfl (lV rfl (lC rfl (hB _) (lV rfl (ln (sa (sA (lV rfl (lV rfl (lC rfl (hP _) (ln (bA (sA (lV rfl (lV rfl (ln (aF rfl (sA (lV rfl (lV rfl (ln (aF rfl (sA (lV rfl (lV rfl (ln (aF rfl (sA (lV rfl (lV rfl (ln (aF rfl (sA (lV rfl (lV rfl (ln (aF rfl (sA (lV rfl (lV rfl (ln (aF rfl (sA (lV rfl (lV rfl (ln (aF rfl (sA (lV rfl (lV rfl (ln (aF rfl (sA (lV rfl (lV rfl (ln (aF rfl (sA (lV rfl (lV rfl (ln (aF rfl (sA (lV rfl (lV rfl (ln (aF rfl (sA (lV rfl (lV rfl (ln (aF rfl (sA (lV rfl (lV rfl (ln (aF rfl (kA (sa (sA (lV rfl (lV rfl (lGY rfl (A6 rfl rfl trivial (lGY rfl (A6 rfl rfl trivial (lGY rfl (Dt rfl rfl (hP _) (lGY rfl (A6 rfl rfl trivial (A6 rfl rfl trivial (Bo (ExA.condF hg rfl (ExA.skip (ExA.seq (ExA.seq (ExA.ops hg (A6 rfl rfl trivial (A6 rfl rfl trivial (lGY rfl (A6 rfl rfl trivial (lGY rfl (A6 rfl rfl trivial (lGY rfl (Dt rfl rfl (hP _) (lGY rfl (A6 rfl rfl trivial (A6 rfl rfl trivial (Bo (ExA.condF hg rfl (ExA.skip (ExA.seq (ExA.seq (ExA.ops hg (A6 rfl rfl trivial (Bo (ExA.condT hg rfl (ExA.seq (ExA.ops hg (A6 rfl rfl trivial (A6 rfl rfl (by first | exact trivial | (simp only [Ae, and_true, lCo, lNi]; omega)) (A6 rfl rfl trivial (Bo (?_))))))))))))))))))))))))))))))))))))))))))))))))))))))))))))))))))))))))))))))))))))))))))))))))))))))))))))))))))))))))))))))))))))))))
 exact ExA.ret (A4 trivial rfl rfl 100 rfl rfl)
end Go.Abs
namespace Go.Abs
open Go.Proofs Go.RowKit
set_option maxRecDepth 100000
variable {W0 : World} {G : List (Nat × AVal)}
def Am (c : Int) (n : Nat) : Nat := (if c < 0 then -(c + 1) else c).toNat % n
theorem tmodN {a : Int} {n : Nat} (h : 0 ≤ a) : a.tmod (n : Nat) = ((a.toNat % n : Nat) : Int) := by
 rw [Int.tmod_eq_emod_of_nonneg h]
 obtain ⟨m, rfl⟩ := Int.eq_ofNat_of_zero_le h
 simp
theorem pkA {c : Int} {n : Nat} (h : c < 0) : (-(c + 1)).tmod (n : Nat) = ((Am c n : Nat) : Int) := by
 rw [tmodN (by omega), Am, if_pos h]
theorem pkB {c : Int} {n : Nat} (h : ¬ c < 0) : c.tmod (n : Nat) = ((Am c n : Nat) : Int) := by
 rw [tmodN (by omega), Am, if_neg h]
theorem Bf {c : Int} {n : Nat} (h : 0 < n) : Am c n < n := Nat.mod_lt _ h
def F31 : AFn := ⟨(sQ [wV 4 (.move (vI 0))] (.seq (sQ [wM 5 0, wV 6 (.bin .lss none 5 (vI 0))] (.cond 6 (.ops [wM 7 0, wV 8 (.bin .add none 7 (vI 1)), wV 9 (.un .neg 8), wM 0 9]) .skip)) (sQ [wM 10 0, wM 11 1, wV 12 (.bin .rem none 10 11), wM 4 12] .ret))), [4], 13⟩
theorem G31 : Au Tryz.prog 13 = some F31 := by kernel_rfl
theorem Hv (hg : Gr Tryz.prog W0 G) {c : Int} {n : Nat} (h1' : -9223372036854775808 ≤ c) (h2' : c ≤ 9223372036854775807) (hn : 0 < n) : cP W0 13 [.int .i64 c, .int .i64 (n : Nat)] [] (.int .i64 (Am c n : Nat)) [] := by
 have hnn : (1 : Int) ≤ (n : Nat) * (n : Nat) := by
  have : 1 * 1 ≤ n * n := Nat.mul_le_mul hn hn
  exact_mod_cast this
 refine A3.of_fn G31 (by simp) rfl ?_
 refine sA (lV rfl (ln (sa (sA (lV rfl ?_)))))
 refine lB rfl rfl trivial (fun h1 => ?_) (fun h1 => ?_)
 · have hc : c < 0 := by simpa using h1
   refine ln (aT rfl (oA (lV rfl (lKv (v := .int .i64 (c + 1)) rfl rfl (by first | exact trivial | (simp only [Ae, and_true, lCo, lNi, lAp]; omega)) (congrArg (AVal.int .i64) (w64 (by omega) (by omega))) (lKv (v := .int .i64 (-(c + 1))) rfl rfl trivial (congrArg (AVal.int .i64) (by rw [w64 (by omega) (by omega)]; omega)) (lV rfl (ln (sA (lV rfl (lV rfl (lKv (v := .int .i64 (Am c n : Nat)) rfl rfl (by first | exact trivial | (simp only [Ae, and_true]; exact hnn)) (congrArg (AVal.int .i64) (by first | exact pkA hc | exact pkB hc)) (lV rfl (ln ?_)))))))))))))
   exact ExA.ret (A5 trivial rfl rfl rfl)
 · have hc : ¬ c < 0 := by simpa using h1
   refine ln (aF rfl (kA (sA (lV rfl (lV rfl (lKv (v := .int .i64 (Am c n : Nat)) rfl rfl (by first | exact trivial | (simp only [Ae, and_true]; exact hnn)) (congrArg (AVal.int .i64) (by first | exact pkA hc | exact pkB hc)) (lV rfl (ln ?_))))))))
   exact ExA.ret (A5 trivial rfl rfl rfl)
theorem V0 (hg : Gr Tryz.prog W0 G) {c : Int} {n : Nat} (h1 : -9223372036854775808 ≤ c) (h2 : c ≤ 9223372036854775807) (hn : 0 < n) (H : Hz) : cP W0 13 [.int .i64 c, .int .i64 (n : Nat)] H (.int .i64 (Am c n : Nat)) H := A3.pure rfl rfl (Hv hg h1 h2 hn) H
def F21 : AFn := ⟨(sQ [wV 4 (.move (vI 0))] (.seq (sQ [wM 5 0, wV 6 (.bin .lss none 5 (vI 0))] (.cond 6 (.ops [wM 7 0, wV 8 (.bin .add none 7 (vI 1)), wV 9 (.un .neg 8), wM 0 9]) .skip)) (sQ [wM 10 0, wM 11 1, wV 12 (.bin .rem none 10 11), wM 4 12] .ret))), [4], 13⟩
theorem G21 : Au Tryz.prog 5 = some F21 := by kernel_rfl
theorem H9 (hg : Gr Tryz.prog W0 G) {c : Int} {n : Nat} (h1' : -9223372036854775808 ≤ c) (h2' : c ≤ 9223372036854775807) (hn : 0 < n) : cP W0 5 [.int .i64 c, .int .i64 (n : Nat)] [] (.int .i64 (Am c n : Nat)) [] := by
 have hnn : (1 : Int) ≤ (n : Nat) * (n : Nat) := by
  have : 1 * 1 ≤ n * n := Nat.mul_le_mul hn hn
  exact_mod_cast this
 refine A3.of_fn G21 (by simp) rfl ?_
 refine sA (lV rfl (ln (sa (sA (lV rfl ?_)))))
 refine lB rfl rfl trivial (fun h1 => ?_) (fun h1 => ?_)
 · have hc : c < 0 := by simpa using h1
   refine ln (aT rfl (oA (lV rfl (lKv (v := .int .i64 (c + 1)) rfl rfl (by first | exact trivial | (simp only [Ae, and_true, lCo, lNi, lAp]; omega)) (congrArg (AVal.int .i64) (w64 (by omega) (by omega))) (lKv (v := .int .i64 (-(c + 1))) rfl rfl trivial (congrArg (AVal.int .i64) (by rw [w64 (by omega) (by omega)]; omega)) (lV rfl (ln (sA (lV rfl (lV rfl (lKv (v := .int .i64 (Am c n : Nat)) rfl rfl (by first | exact trivial | (simp only [Ae, and_true]; exact hnn)) (congrArg (AVal.int .i64) (by first | exact pkA hc | exact pkB hc)) (lV rfl (ln ?_)))))))))))))
   exact ExA.ret (A5 trivial rfl rfl rfl)
 · have hc : ¬ c < 0 := by simpa using h1
   refine ln (aF rfl (kA (sA (lV rfl (lV rfl (lKv (v := .int .i64 (Am c n : Nat)) rfl rfl (by first | exact trivial | (simp only [Ae, and_true]; exact hnn)) (congrArg (AVal.int .i64) (by first | exact pkA hc | exact pkB hc)) (lV rfl (ln ?_))))))))
   exact ExA.ret (A5 trivial rfl rfl rfl)
def F104 : AFn := ⟨(sQ [wV 4 (.move (vI 0))] (.seq (sQ [wM 5 0, wV 6 (.bin .lss none 5 (vI 0))] (.cond 6 (.ops [wM 7 0, wV 8 (.bin .add none 7 (vI 1)), wV 9 (.un .neg 8), wM 0 9]) .skip)) (sQ [wM 10 0, wM 11 1, wV 12 (.bin .rem none 10 11), wM 4 12] .ret))), [4], 13⟩
theorem G104 : Au Tryz.prog 53 = some F104 := by kernel_rfl
theorem M5 (hg : Gr Tryz.prog W0 G) {c : Int} {n : Nat} (h1' : -9223372036854775808 ≤ c) (h2' : c ≤ 9223372036854775807) (hn : 0 < n) : cP W0 53 [.int .i64 c, .int .i64 (n : Nat)] [] (.int .i64 (Am c n : Nat)) [] := by
 have hnn : (1 : Int) ≤ (n : Nat) * (n : Nat) := by
  have : 1 * 1 ≤ n * n := Nat.mul_le_mul hn hn
  exact_mod_cast this
 refine A3.of_fn G104 (by simp) rfl ?_
 refine sA (lV rfl (ln (sa (sA (lV rfl ?_)))))
 refine lB rfl rfl trivial (fun h1 => ?_) (fun h1 => ?_)
 · have hc : c < 0 := by simpa using h1
   refine ln (aT rfl (oA (lV rfl (lKv (v := .int .i64 (c + 1)) rfl rfl (by first | exact trivial | (simp only [Ae, and_true, lCo, lNi, lAp]; omega)) (congrArg (AVal.int .i64) (w64 (by omega) (by omega))) (lKv (v := .int .i64 (-(c + 1))) rfl rfl trivial (congrArg (AVal.int .i64) (by rw [w64 (by omega) (by omega)]; omega)) (lV rfl (ln (sA (lV rfl (lV rfl (lKv (v := .int .i64 (Am c n : Nat)) rfl rfl (by first | exact trivial | (simp only [Ae, and_true]; exact hnn)) (congrArg (AVal.int .i64) (by first | exact pkA hc | exact pkB hc)) (lV rfl (ln ?_)))))))))))))
   exact ExA.ret (A5 trivial rfl rfl rfl)
 · have hc : ¬ c < 0 := by simpa using h1
   refine ln (aF rfl (kA (sA (lV rfl (lV rfl (lKv (v := .int .i64 (Am c n : Nat)) rfl rfl (by first | exact trivial | (simp only [Ae, and_true]; exact hnn)) (congrArg (AVal.int .i64) (by first | exact pkA hc | exact pkB hc)) (lV rfl (ln ?_))))))))
   exact ExA.ret (A5 trivial rfl rfl rfl)
theorem pickC53 (hg : Gr Tryz.prog W0 G) {c : Int} {n : Nat} (h1 : -9223372036854775808 ≤ c) (h2 : c ≤ 9223372036854775807) (hn : 0 < n) (H : Hz) : cP W0 53 [.int .i64 c, .int .i64 (n : Nat)] H (.int .i64 (Am c n : Nat)) H := A3.pure rfl rfl (M5 hg h1 h2 hn) H
theorem Zf (s : Bool) (n d : Nat) : ∀ (f : Nat) (e : Int), (Ic s n d f e).2.2 = 0 ∨ (Ic s n d f e).2.2 = 10
 | 0, e => .inr rfl
 | f + 1, e => by
   simp only [Ic]
   split
   · exact Zf s n d f (e + 1)
   · exact .inl rfl
theorem Zg (s : Bool) (n d : Nat) : (Hh s n d).2.2 = 0 ∨ (Hh s n d).2.2 = 10 := Zf s n d 19 (-9)
theorem A3o {M E : Int} (h1 : -999999999999999 ≤ M) (h2 : M ≤ 999999999999999) (h4 : E ≤ 9) : M.natAbs * 10 ^ (E + 9).toNat < 10 ^ 100 := by
 have h5 : M.natAbs < 10 ^ 15 := by omega
 have h6 : 10 ^ (E + 9).toNat ≤ 10 ^ 18 := Nat.pow_le_pow_right (by decide) (by omega)
 have h7 : 0 < 10 ^ (E + 9).toNat := Nat.pow_pos (by decide)
 have h8 : M.natAbs * 10 ^ (E + 9).toNat < 10 ^ 15 * 10 ^ (E + 9).toNat := Nat.mul_lt_mul_of_pos_right h5 h7
 have h9 : 10 ^ 15 * 10 ^ (E + 9).toNat ≤ 10 ^ 15 * 10 ^ 18 := Nat.mul_le_mul_left _ h6
 have h10 : 10 ^ 15 * 10 ^ 18 ≤ 10 ^ 100 := by rw [← Nat.pow_add]; exact Nat.pow_le_pow_right (by decide) (by decide)
 exact nLl (nLl h8 h9) h10
theorem DivK (hk : Kn W0) {M E E2 : Int} (h0 : 0 ≤ E2) (h1 : E2 ≤ 4) : ∃ M' E' er : Int, (er = 0 ∨ er = 10) ∧ cP W0 55 [.agg [.int .i64 M, .int .i64 E], .agg [.int .i64 1, .int .i64 E2]] [] (P5 (M', E', er)) [] := by
 have hg := grK hk
 by_cases hr : Dk M E = true
 · have hb := M4 hr
   have hr2 : Dk 1 E2 = true := by
    have : E2 = 0 ∨ E2 = 1 ∨ E2 = 2 ∨ E2 = 3 ∨ E2 = 4 := by omega
    rcases this with rfl | rfl | rfl | rfl | rfl <;> decide
   have h5 := Lm hg (M := M) (E := E) ([] : Hz)
   rw [hr] at h5
   have h4 := Lm hg (M := 1) (E := E2) ([] : Hz)
   rw [hr2] at h4
   have hd0 : 0 < 1 * 10 ^ (E2 + 9).toNat := Nat.mul_pos (by decide) (Nat.pow_pos (by decide))
   have hd : 1 * 10 ^ (E2 + 9).toNat < 10 ^ 100 := by have := A3o (M := 1) (E := E2) (by decide) (by decide) (by omega); exact this
   have hn := A3o hb.1 hb.2.1 hb.2.2.2
   have hnear : ∀ (s : Bool) (H : Hz), cP W0 95 [.bool s, tN M.natAbs (E + 9), tN (1 : Int).natAbs (E2 + 9)] H (P5 (Hh s (M.natAbs * 10 ^ (E + 9).toNat) (1 * 10 ^ (E2 + 9).toNat))) H := fun s H => A3.sub3 (Sub.refl _) (Bt _ _) (Bt _ _) (A2e hg hn hd hd0 H)
   have w1 := fun H => Jt hg (M := M) (E := E) hb.1 hb.2.1 hb.2.2.1 hb.2.2.2 H
   have w2 := fun H => Jt hg (M := 1) (E := E2) (by decide) (by decide) (by omega) (by omega) H
   by_cases hs : M < 0
   · have he := Zg true (M.natAbs * 10 ^ (E + 9).toNat) (1 * 10 ^ (E2 + 9).toNat)
     have hn' := hnear true
     generalize Hh true (M.natAbs * 10 ^ (E + 9).toNat) (1 * 10 ^ (E2 + 9).toNat) = p at he hn'
     obtain ⟨pM, pE, pe⟩ := p
     exact ⟨pM, pE, pe, he, div2 hk hs (hn' _) (w2 _) (w1 _) h4 h5⟩
   · have he := Zg false (M.natAbs * 10 ^ (E + 9).toNat) (1 * 10 ^ (E2 + 9).toNat)
     have hn' := hnear false
     generalize Hh false (M.natAbs * 10 ^ (E + 9).toNat) (1 * 10 ^ (E2 + 9).toNat) = p at he hn'
     obtain ⟨pM, pE, pe⟩ := p
     exact ⟨pM, pE, pe, he, div1 hk (by omega) (hn' _) (w2 _) (w1 _) h4 h5⟩
 · have hr' : Dk M E = false := by cases h : Dk M E with | false => rfl | true => exact absurd h hr
   have h5 := Lm hg (M := M) (E := E) ([] : Hz)
   rw [hr'] at h5
   exact ⟨0, 0, 10, .inr rfl, div0 hk h5⟩
def Db (k m e : Int) (s : Bz) (b : Bool) (er : Int) : AVal := .agg [.int .i64 k, .int .i64 m, .int .i64 e, .str s, .bool b, .int .i64 er, .int .i64 0, .int .i64 0, .nilSl, .int .i64 0, .nilSl, .nilSl]
def i64 (x : Int) : Prop := -9223372036854775808 ≤ x ∧ x ≤ 9223372036854775807
theorem ValNum (hk : Kn W0) {K M E : Int} {s : Bz} {b : Bool} (hK : i64 K) (hM : i64 M) (hE : i64 E) (h1 : Am K 5 = 1) : ∃ m e : Int, cP W0 20 [.agg [.int .i64 K, .int .i64 M, .int .i64 E, .str s, .bool b]] [] (Db 1 m e [] false 0) [] := by
 have hg := grK hk
 have k1 := M5 hg (c := K) (n := 5) hK.1 hK.2 (by decide)
 rw [h1] at k1
 have k2 := M5 hg (c := M) (n := 2000001) hM.1 hM.2 (by decide)
 have k3 := M5 hg (c := E) (n := 5) hE.1 hE.2 (by decide)
 have l2 := Bf (c := M) (n := 2000001) (by decide)
 have l3 := Bf (c := E) (n := 5) (by decide)
 obtain ⟨m1, e1, er1, hr1, c1⟩ := OfK hg (n := ((Am M 2000001 : Nat) : Int) - 1000000) (by omega) (by omega)
 rw [← w64 (x := ((Am M 2000001 : Nat) : Int) - 1000000) (by omega) (by omega)] at c1
 obtain ⟨m2, e2, er2, hr2, c2⟩ := DivK hk (M := m1) (E := e1) (E2 := ((Am E 5 : Nat) : Int)) (by omega) (by omega)
 rcases hr1 with rfl | rfl
 · rcases hr2 with rfl | rfl
   · exact ⟨m2, e2, val0 hk c2 k3 c1 k2 k1⟩
   · exact ⟨0, 0, val1 hk c2 k3 c1 k2 k1⟩
 · exact ⟨0, 0, val2 hk c2 k3 c1 k2 k1⟩
theorem tenK (hg : Gr Tryz.prog W0 G) {x : Nat} {n : Int} {o1 o2 : HObj} (hx : x ≠ 0) (hl : (D6 x).length ≤ 1000) (hn : n ≤ 1000) : cP W0 99 [dN x, .int .i64 n] [o1, o2] (.hsl 1 3 0 (List.replicate n.toNat 0 ++ D6 x).length none) [o1, o2, .cells 3 (Cb (List.replicate n.toNat 0)) false, .cells 3 (Cb (List.replicate n.toNat 0 ++ D6 x)) true] := by
 have hz := Pz hx
 refine A3.of_fnM KG99 (by simp) rfl ?_
 refine sO (mV rfl (mn (sq (sO (mV rfl (mV (v := .int .i64 ((D6 x).length : Nat)) (E0 rfl) (mF rfl (mn (cF rfl (kM (sO (mV rfl (mK (v := .int .i64 (n.toNat : Nat)) rfl (iE (by by_cases h : n < 0 <;> simp [h] <;> omega)) (Ba hg gN (v := .hsl 1 2 0 n.toNat (some n.toNat)) (mkSlD rfl) rfl (by simp only [Ae, and_true]; omega) (mV rfl (Ba hg gN (v := .hsl 1 3 0 (List.replicate n.toNat 0 ++ D6 x).length none) (A3h rfl rfl hz rfl (by simp) rfl) rfl (by simp only [Ae, C2, and_true, lAp, List.length_replicate]; omega) (mV rfl (mn ?_))))))))))))))))))
 exact ExM.ret (A5 trivial rfl rfl rfl)
theorem wholeK1 (hk : Kn W0) {M E : Int} (hr : Dk M E = true) (h0 : M ≠ 0) : cP W0 98 [.agg [.int .i64 M, .int .i64 E]] [.cells 24 [.int .i64 M, .int .i64 E] false] (.hsl 1 3 0 (List.replicate (E + 9).toNat 0 ++ D6 M.natAbs).length none) [.cells 24 [.int .i64 M, .int .i64 E] false, .cells 24 [.int .i64 M, .int .i64 E] false, .cells 3 (Cb (List.replicate (E + 9).toNat 0)) false, .cells 3 (Cb (List.replicate (E + 9).toNat 0 ++ D6 M.natAbs)) true] := by
 have hb := M4 hr
 have hg := grK hk
 have hl := E1 (n := M.natAbs) (k := 15) (by omega)
 refine wholK0 hk (x1 := dN M.natAbs) ?_ (Bw hg (by omega) (by omega) _)
 rw [w64 (x := E + 9) (by omega) (by omega)]
 exact tenK hg (by omega) (by omega) (by omega)
theorem wholeK0 (hk : Kn W0) {E : Int} (hr : Dk 0 E = true) : cP W0 98 [.agg [.int .i64 0, .int .i64 E]] [.cells 24 [.int .i64 0, .int .i64 E] false] .nilSl [.cells 24 [.int .i64 0, .int .i64 E] false, .cells 24 [.int .i64 0, .int .i64 E] false] := by
 have hb := M4 hr
 have hg := grK hk
 refine wholK1 hk (x1 := dN (0 : Int).natAbs) ?_ (Bw hg (by omega) (by omega) _)
 rw [w64 (x := E + 9) (by omega) (by omega)]
 have := Em hg (x := 0) (n := E + 9) (by decide) (by omega) [.cells 24 [.int .i64 0, .int .i64 E] false, .cells 24 [.int .i64 0, .int .i64 E] false]
 exact this
def tvv : List AVal × List Nat → AVal
 | (_, []) => .nilSl
 | (_, d :: r) => .hsl 1 3 0 (d :: r).length none
def thh (A : HObj) : List AVal × List Nat → Hz
 | (_, []) => [A, A]
 | (J, d :: r) => [A, A, .cells 3 J false, .cells 3 (Cb (d :: r)) true]
theorem Nn {k T : Nat} {m e : Int} {x : List AVal × List Nat} (h : ∀ k, C0 k x.1 = true) : Fg k (thh (.cells T [.int .i64 m, .int .i64 e] false) x) = true := by
 obtain ⟨J, l⟩ := x
 cases l with
 | nil => rfl
 | cons d r =>
   show cond (C0 k J) (cond (C0 k (Cb (d :: r))) true false) false = true
   rw [h k, C7]; rfl
def Fo (s : Bz) : Prop := ∀ c r, s = c :: r → c ≠ 61
theorem Dj : Fo [] := fun _ _ h => by cases h
theorem C6 {s t : Bz} (h : Fo s) (ht : Fo t) : Fo (s ++ t) := by
 cases s with
 | nil => exact ht
 | cons c r => intro c' r' e; exact h c' r (by injection e with e1 _; rw [e1])
theorem Dq {c : UInt8} (h : c ≠ 61) : Fo [c] := fun c' r e => by injection e with e1 _; rw [← e1]; exact h
theorem F3 {d : Nat} (h : d < 10) : Fo [UInt8.ofNat (48 + d)] := Dq fun e => by
 have := congrArg UInt8.toNat e
 rw [UInt8.toNat_ofNat_of_lt' (by simp only [UInt8.size]; omega)] at this
 have h2 : (61 : UInt8).toNat = 61 := rfl
 omega
def KF150 : AFn := ⟨(sQ [wV 1 (.box 24 0), wV 2 (.move (.val (.str []))), wV 3 (.move (vI 0))] (.seq (sQ [wV 8 (.load 2 true 1), wV 9 (kF 100 [8]), wV 10 (.un .not 9)] (.cond 10 (sQ [wV 2 (.move (.val (.str []))), wV 3 (.move (vI 10))] .ret) .skip)) (sQ [wV 11 (.load 2 true 1), wV 12 (kF 98 [11]), wM 4 12] (.seq (.block 0 (.loop (.seq (sQ [wM 13 4, wV 14 (.len false 13), wV 15 (.bin .leq none 14 (vI 9))] (.cond 15 .skip (.exit 0))) (.block 1 (.ops [wM 16 4, wV 17 (.bslice 3 1 1 [.int .i64 0] [(0, 1, (vI 0))]), wV 18 (.append 3 1 8 16 17), wM 4 18]))))) (sQ [wV 5 (.move (vI 0))] (.seq (.block 2 (.loop (.seq (sQ [wM 19 5, wV 20 (.bin .lss none 19 (vI 9)), wM 21 20, wT 22 21 (.move 4), wT 23 21 (.move 5), wT 24 21 (.idxSl 1 22 23), wT 25 21 (.load 1 false 24), wT 26 21 (.bin .eql none 25 (vI 0)), wV 27 (.pick 21 26 (.val (.bool false)))] (.cond 27 .skip (.exit 2))) (.block 3 (.ops [wM 28 5, wV 29 (.bin .add none 28 (vI 1)), wM 5 29]))))) (sQ [wV 6 (.move (.val (.str [])))] (.seq (sQ [wV 30 (.fieldAddr 0 1), wV 31 (.load 1 false 30), wV 32 (.bin .lss none 31 (vI 0))] (.cond 32 (.ops [wV 6 (.move (.val (.str [45])))]) .skip)) (.seq (sQ [wM 33 4, wV 34 (.len false 33), wV 35 (.bin .sub none 34 (vI 1)), wM 7 35] (.block 4 (.loop (.seq (sQ [wM 36 7, wM 37 5, wV 38 (.bin .geq none 36 37)] (.cond 38 .skip (.exit 4))) (.seq (.block 5 (.seq (sQ [wM 41 7, wV 42 (.bin .eql none 41 (vI 8))] (.cond 42 (.ops [wM 43 6, wV 44 (.bin .add none 43 (.val (.str [46]))), wM 6 44]) .skip)) (.ops [wM 45 6, wM 46 4, wM 47 7, wV 48 (.idxSl 1 46 47), wV 49 (.load 1 false 48), wV 50 (.bin .add none (vI 48) 49), wV 51 (.conv (.int .u8) 50), wV 52 (.bslice 5 1 1 [.int .u8 0] [(0, 1, 51)]), wV 53 (.conv .b2s 52), wV 54 (.bin .add none 45 53), wM 6 54]))) (.ops [wM 39 7, wV 40 (.bin .sub none 39 (vI 1)), wM 7 40])))))) (sQ [wM 55 6, wM 2 55, wV 3 (.move (vI 0))] .ret)))))))))), [2, 3], 56⟩
theorem KG150 : Au Tryz.prog 150 = some KF150 := by kernel_rfl
theorem textE (hk : Kn W0) {M E : Int} : Aq Tryz.prog W0 150 [.agg [.int .i64 M, .int .i64 E]] (fun v => ∃ (s : Bz) (er : Int), v = .tup [.str s, .int .i64 er] ∧ Fo s ∧ s.length ≤ 1000) := by
 have hg := grK hk
 refine Aq.of_fnM KG150 (by simp) rfl ?_
 cases hr : Dk M E with
 | false =>
   skip
   refine sO (mV (v := .ptr 0 0) rfl (mV rfl (mV rfl (mn (sq (sO (mV rfl (Ek hg gN (c := false) rfl rfl (show cP W0 100 [.agg [.int .i64 M, .int .i64 E]] _ (.bool (Dk M E)) _ from Lm hg _) hr (mV rfl (mn (cT rfl (sO (mV rfl (mV rfl (mn ?_)))))))))))))))
   exact ExM.ret ⟨_, ⟨[], 10, rfl, Dj, by decide⟩, A4 trivial rfl rfl 100 rfl rfl⟩
 | true =>
   have hb := M4 hr
   by_cases hM : M = 0
   · subst hM
     refine sO (mV (v := .ptr 0 0) rfl (mV rfl (mV rfl (mn (sq (sO (mV rfl (Ek hg gN (c := true) rfl rfl (show cP W0 100 [.agg [.int .i64 0, .int .i64 E]] _ (.bool (Dk 0 E)) _ from Lm hg _) hr (mV rfl (mn (cF rfl (kM (sO (mV rfl (mC rfl (wholeK0 hk hr) (mV rfl (mn (sq (bM ?_)))))))))))))))))))
     refine ExM.loop (σ := List AVal × List Nat) (fun σ => ⟨.al [(1, .ptr 0 0), (4, tvv σ)], thh (.cells 24 [.int .i64 0, .int .i64 E] false) σ, 56⟩) (fun σ => Dig σ.2 ∧ σ.2.length ≤ 100 ∧ ∀ k, C0 k σ.1 = true) (fun σ => 100 - σ.2.length) ([], []) ?_ ⟨Dig.nil, by simp, fun _ => rfl⟩ ?_
     · exact Ap 2 rfl (by decide) rfl rfl (fzC rfl (fvP rfl) (fzC rfl J0 fzN))
     rintro ⟨J, l⟩ ⟨hl, hll, hJ⟩
     simp only at hl hll hJ ⊢
     rcases l with _ | ⟨d, r⟩
     · refine sq (sO (mV rfl (mV (v := .int .i64 0) rfl (mT rfl (mn (cT rfl (kM (bM (oM (mV rfl (mV (v := .hsl 1 2 0 1 (some 1)) rfl (Ba hg gN (v := .hsl 1 3 0 ([] ++ [0]).length none) rfl rfl (E3 (n := 1) (by decide)) (mV rfl (mn ?_))))))))))))))
       exact ⟨([.int .i64 0], [] ++ [0]), ⟨Dig.cons (by decide) Dig.nil, by simp, fun _ => rfl⟩, by simp, Ap 4 rfl (by decide) rfl (Nn fun _ => rfl) (fzC rfl (fvP rfl) (fzC rfl (fvH rfl) fzN))⟩
     · by_cases h9 : (d :: r).length ≤ 9
       · refine sq (sO (mV rfl (mV rfl (mBk hg gN (c := true) rfl rfl (decide_eq_true (by simp only [lCo] at *; omega)) (mn (cT rfl (kM (bM (oM (mV rfl (mV (v := .hsl 1 4 0 1 (some 1)) rfl (Ba hg gN (v := .hsl 1 3 0 ((d :: r) ++ [0]).length none) (Qa rfl rfl rfl rfl rfl) rfl (E3 (by simp only [lCo] at *; omega)) (mV rfl (mn ?_))))))))))))))
         exact ⟨(J, (d :: r) ++ [0]), ⟨hl.snoc (by decide), by simp only [lAp, lCo, lNi] at *; omega, hJ⟩, by simp only [lAp, lCo, lNi] at *; omega, Ap 4 rfl (by decide) rfl (Nn hJ) (fzC rfl (fvP rfl) (fzC rfl (fvH rfl) fzN))⟩
       · refine sq (sO (mV rfl (mV rfl (mBk hg gN (c := false) rfl rfl (dF (by simp only [lCo] at *; omega)) (mn (cF rfl ?_))))))
         refine ExM.exit ?_
         refine sO (mV rfl (mn (sq (bM ?_))))
         have h10 : ¬ (d :: r).length ≤ 9 := h9
         refine ExM.loop (σ := Nat) (fun f => ⟨.al [(1, .ptr 0 0), (4, dg (d :: r)), (5, .int .i64 (f : Nat))], [.cells 24 [.int .i64 0, .int .i64 E] false], 56⟩) (fun f => f ≤ 9) (fun f => 9 - f) 0 (Ap 1 rfl (Nat.zero_le _) rfl rfl (fzC rfl (fvP rfl) (fzC rfl (L5 (id := 3) (by decide) rfl) (fzC rfl fvI fzN)))) (Nat.zero_le _) ?_
         rintro f hf
         generalize d :: r = D at *
         by_cases hf9 : f < 9
         · by_cases hz : D.getD f 0 = 0
           · refine sq (sO (mV rfl (mT rfl (mV rfl (mV rfl (mV rfl (mS (v := .eptr (.int .i64 (D.getD f 0 : Nat)) 0) (Ew rfl rfl (by omega)) (mV rfl (mBk hg (gS rfl) (c := true) rfl rfl (by rw [hz]; decide) (mV rfl (mn (cT rfl (kM (bM (oM (mV rfl (mI ((f + 1 : Nat)) rfl (mV rfl (mn ?_)))))))))))))))))))
             exact ⟨f + 1, by omega, by omega, Ap 1 rfl (Nat.zero_le _) rfl rfl (fzC rfl (fvP rfl) (fzC rfl fvD (fzC rfl fvI fzN)))⟩
           · refine sq (sO (mV rfl (mT rfl (mV rfl (mV rfl (mV rfl (mS (v := .eptr (.int .i64 (D.getD f 0 : Nat)) 0) (Ew rfl rfl (by omega)) (mV rfl (mF rfl (mV rfl (mn (cF rfl ?_))))))))))))
             refine ExM.exit ?_
             refine sO (mV rfl (mn (sq (sO (mV rfl (mV rfl (mF rfl (mn (cF rfl (kM (sq (sO (mV rfl (mV (v := .int .i64 (D.length : Nat)) (E0 rfl) (mK (v := .int .i64 ((D.length : Nat) - 1)) rfl (Br (by omega) (by omega) rfl) (mV rfl (mn (bM ?_))))))))))))))))))
             refine ExM.loop (σ := Nat × Bz) (fun σ => ⟨.al [(1, .ptr 0 0), (4, dg D), (5, .int .i64 (f : Nat)), (6, .str σ.2), (7, .int .i64 ((σ.1 : Nat) - 1))], [.cells 24 [.int .i64 0, .int .i64 E] false], 56⟩) (fun σ => σ.1 ≤ D.length ∧ Fo σ.2 ∧ σ.2.length + 2 * σ.1 ≤ 1000) (fun σ => σ.1) (D.length, _) (Ap 1 rfl (Nat.zero_le _) rfl rfl (fzC rfl (fvP rfl) (fzC rfl fvD (fzC rfl fvI (fzC rfl fvS (fzC rfl fvI fzN)))))) ⟨Nat.le_refl _, by first | exact Dj | exact Dq (by decide), by simp only [lNi]; omega⟩ ?_
             rintro ⟨k, s⟩ ⟨hk, hs, hsl⟩
             simp only at hk hs hsl ⊢
             by_cases hkf : f < k
             · obtain ⟨j, rfl⟩ : ∃ j, k = j + 1 := ⟨k - 1, by omega⟩
               have hdj := hl.get j
               by_cases h8 : j = 8
               · refine sq (sO (mV rfl (mV rfl (mT rfl (mn (cT rfl (kM (sq (bM (sq (sO (mV rfl (mT rfl (mn (cT rfl (oM (mV rfl (mS rfl (mV rfl (mn (oM (mV rfl (mV rfl (mK (v := .int .i64 (j : Nat)) rfl (iE (by omega)) (mS (v := .eptr (.int .i64 (D.getD j 0 : Nat)) 0) (Ew rfl rfl (by omega)) (mV rfl (mI ((48 + D.getD j 0 : Nat)) rfl (mK (v := .int .u8 ((48 + D.getD j 0 : Nat))) rfl (w8E (by omega) (by omega) rfl) (mV (v := .hsl 1 1 0 1 (some 1)) rfl (mV (v := .str [UInt8.ofNat (48 + D.getD j 0)]) rfl (Ba hg gN rfl rfl (by simp only [Ae, and_true, lAp, lCo, lNi]; omega) (mV rfl (mn (oM (mV rfl (mI ((j : Nat) - 1) rfl (mV rfl (mn ?_))))))))))))))))))))))))))))))))))))))
                 exact ⟨(j, (s ++ [46]) ++ [UInt8.ofNat (48 + D.getD j 0)]), ⟨by simp only; omega, C6 (C6 hs (Dq (by decide))) (F3 hdj), by simp only [lAp, lCo, lNi]; omega⟩, by simp only; omega, Ap 1 rfl (Nat.zero_le _) rfl rfl (fzC rfl (fvP rfl) (fzC rfl fvD (fzC rfl fvI (fzC rfl fvS (fzC rfl fvI fzN)))))⟩
               · refine sq (sO (mV rfl (mV rfl (mT rfl (mn (cT rfl (kM (sq (bM (sq (sO (mV rfl (mF rfl (mn (cF rfl (kM (oM (mV rfl (mV rfl (mK (v := .int .i64 (j : Nat)) rfl (iE (by omega)) (mS (v := .eptr (.int .i64 (D.getD j 0 : Nat)) 0) (Ew rfl rfl (by omega)) (mV rfl (mI ((48 + D.getD j 0 : Nat)) rfl (mK (v := .int .u8 ((48 + D.getD j 0 : Nat))) rfl (w8E (by omega) (by omega) rfl) (mV (v := .hsl 1 1 0 1 (some 1)) rfl (mV (v := .str [UInt8.ofNat (48 + D.getD j 0)]) rfl (Ba hg gN rfl rfl (by simp only [Ae, and_true, lCo, lNi]; omega) (mV rfl (mn (oM (mV rfl (mI ((j : Nat) - 1) rfl (mV rfl (mn ?_))))))))))))))))))))))))))))))))))
                 exact ⟨(j, s ++ [UInt8.ofNat (48 + D.getD j 0)]), ⟨by simp only; omega, C6 hs (F3 hdj), by simp only [lAp, lCo, lNi]; omega⟩, by simp only; omega, Ap 1 rfl (Nat.zero_le _) rfl rfl (fzC rfl (fvP rfl) (fzC rfl fvD (fzC rfl fvI (fzC rfl fvS (fzC rfl fvI fzN)))))⟩
             · refine sq (sO (mV rfl (mV rfl (mF rfl (mn (cF rfl ?_))))))
               refine ExM.exit ?_
               refine sO (mV rfl (mV rfl (mV rfl (mn ?_))))
               exact ExM.ret ⟨_, ⟨s, 0, rfl, hs, by omega⟩, A4 trivial rfl rfl 100 rfl rfl⟩
         · refine sq (sO (mV rfl (mF rfl (mV rfl (mG (mG (mG (mG (mG (mV rfl (mn (cF rfl ?_))))))))))))
           refine ExM.exit ?_
           refine sO (mV rfl (mn (sq (sO (mV rfl (mV rfl (mF rfl (mn (cF rfl (kM (sq (sO (mV rfl (mV (v := .int .i64 (D.length : Nat)) (E0 rfl) (mK (v := .int .i64 ((D.length : Nat) - 1)) rfl (Br (by omega) (by omega) rfl) (mV rfl (mn (bM ?_))))))))))))))))))
           refine ExM.loop (σ := Nat × Bz) (fun σ => ⟨.al [(1, .ptr 0 0), (4, dg D), (5, .int .i64 (f : Nat)), (6, .str σ.2), (7, .int .i64 ((σ.1 : Nat) - 1))], [.cells 24 [.int .i64 0, .int .i64 E] false], 56⟩) (fun σ => σ.1 ≤ D.length ∧ Fo σ.2 ∧ σ.2.length + 2 * σ.1 ≤ 1000) (fun σ => σ.1) (D.length, _) (Ap 1 rfl (Nat.zero_le _) rfl rfl (fzC rfl (fvP rfl) (fzC rfl fvD (fzC rfl fvI (fzC rfl fvS (fzC rfl fvI fzN)))))) ⟨Nat.le_refl _, by first | exact Dj | exact Dq (by decide), by simp only [lNi]; omega⟩ ?_
           rintro ⟨k, s⟩ ⟨hk, hs, hsl⟩
           simp only at hk hs hsl ⊢
           by_cases hkf : f < k
           · obtain ⟨j, rfl⟩ : ∃ j, k = j + 1 := ⟨k - 1, by omega⟩
             have hdj := hl.get j
             by_cases h8 : j = 8
             · refine sq (sO (mV rfl (mV rfl (mT rfl (mn (cT rfl (kM (sq (bM (sq (sO (mV rfl (mT rfl (mn (cT rfl (oM (mV rfl (mS rfl (mV rfl (mn (oM (mV rfl (mV rfl (mK (v := .int .i64 (j : Nat)) rfl (iE (by omega)) (mS (v := .eptr (.int .i64 (D.getD j 0 : Nat)) 0) (Ew rfl rfl (by omega)) (mV rfl (mI ((48 + D.getD j 0 : Nat)) rfl (mK (v := .int .u8 ((48 + D.getD j 0 : Nat))) rfl (w8E (by omega) (by omega) rfl) (mV (v := .hsl 1 1 0 1 (some 1)) rfl (mV (v := .str [UInt8.ofNat (48 + D.getD j 0)]) rfl (Ba hg gN rfl rfl (by simp only [Ae, and_true, lAp, lCo, lNi]; omega) (mV rfl (mn (oM (mV rfl (mI ((j : Nat) - 1) rfl (mV rfl (mn ?_))))))))))))))))))))))))))))))))))))))
               exact ⟨(j, (s ++ [46]) ++ [UInt8.ofNat (48 + D.getD j 0)]), ⟨by simp only; omega, C6 (C6 hs (Dq (by decide))) (F3 hdj), by simp only [lAp, lCo, lNi]; omega⟩, by simp only; omega, Ap 1 rfl (Nat.zero_le _) rfl rfl (fzC rfl (fvP rfl) (fzC rfl fvD (fzC rfl fvI (fzC rfl fvS (fzC rfl fvI fzN)))))⟩
             · refine sq (sO (mV rfl (mV rfl (mT rfl (mn (cT rfl (kM (sq (bM (sq (sO (mV rfl (mF rfl (mn (cF rfl (kM (oM (mV rfl (mV rfl (mK (v := .int .i64 (j : Nat)) rfl (iE (by omega)) (mS (v := .eptr (.int .i64 (D.getD j 0 : Nat)) 0) (Ew rfl rfl (by omega)) (mV rfl (mI ((48 + D.getD j 0 : Nat)) rfl (mK (v := .int .u8 ((48 + D.getD j 0 : Nat))) rfl (w8E (by omega) (by omega) rfl) (mV (v := .hsl 1 1 0 1 (some 1)) rfl (mV (v := .str [UInt8.ofNat (48 + D.getD j 0)]) rfl (Ba hg gN rfl rfl (by simp only [Ae, and_true, lCo, lNi]; omega) (mV rfl (mn (oM (mV rfl (mI ((j : Nat) - 1) rfl (mV rfl (mn ?_))))))))))))))))))))))))))))))))))
               exact ⟨(j, s ++ [UInt8.ofNat (48 + D.getD j 0)]), ⟨by simp only; omega, C6 hs (F3 hdj), by simp only [lAp, lCo, lNi]; omega⟩, by simp only; omega, Ap 1 rfl (Nat.zero_le _) rfl rfl (fzC rfl (fvP rfl) (fzC rfl fvD (fzC rfl fvI (fzC rfl fvS (fzC rfl fvI fzN)))))⟩
           · refine sq (sO (mV rfl (mV rfl (mF rfl (mn (cF rfl ?_))))))
             refine ExM.exit ?_
             refine sO (mV rfl (mV rfl (mV rfl (mn ?_))))
             exact ExM.ret ⟨_, ⟨s, 0, rfl, hs, by omega⟩, A4 trivial rfl rfl 100 rfl rfl⟩
   · have hlM := E1 (n := M.natAbs) (k := 15) (by omega)
     obtain ⟨d0, r0, hdr⟩ : ∃ d r, List.replicate (E + 9).toNat 0 ++ D6 M.natAbs = d :: r := by
      cases h : List.replicate (E + 9).toNat 0 ++ D6 M.natAbs with
      | nil => exact absurd (Ws (List.append_eq_nil_iff.1 h).2) (by omega)
      | cons d r => exact ⟨d, r, rfl⟩
     have hd0 : Dig (d0 :: r0) := by rw [← hdr]; exact (Dig.zeros _).app (Eu _)
     have hl0 : (d0 :: r0).length ≤ 100 := by rw [← hdr, lAp, List.length_replicate]; omega
     have hw := wholeK1 hk hr hM
     rw [hdr] at hw
     refine sO (mV (v := .ptr 0 0) rfl (mV rfl (mV rfl (mn (sq (sO (mV rfl (Ek hg gN (c := true) rfl rfl (show cP W0 100 [.agg [.int .i64 M, .int .i64 E]] _ (.bool (Dk M E)) _ from Lm hg _) hr (mV rfl (mn (cF rfl (kM (sO (mV rfl (mC rfl hw (mV rfl (mn (sq (bM ?_)))))))))))))))))))
     refine ExM.loop (σ := List AVal × List Nat) (fun σ => ⟨.al [(1, .ptr 0 0), (4, tvv σ)], thh (.cells 24 [.int .i64 M, .int .i64 E] false) σ, 56⟩) (fun σ => Dig σ.2 ∧ σ.2.length ≤ 100 ∧ ∀ k, C0 k σ.1 = true) (fun σ => 100 - σ.2.length) (Cb (List.replicate (E + 9).toNat 0), d0 :: r0) ?_ ⟨hd0, hl0, fun _ => C7 _⟩ ?_
     · exact Ap 4 rfl (by decide) rfl (Nn fun _ => C7 _) (fzC rfl (fvP rfl) (fzC rfl (fvH rfl) fzN))
     rintro ⟨J, l⟩ ⟨hl, hll, hJ⟩
     simp only at hl hll hJ ⊢
     rcases l with _ | ⟨d, r⟩
     · refine sq (sO (mV rfl (mV (v := .int .i64 0) rfl (mT rfl (mn (cT rfl (kM (bM (oM (mV rfl (mV (v := .hsl 1 2 0 1 (some 1)) rfl (Ba hg gN (v := .hsl 1 3 0 ([] ++ [0]).length none) rfl rfl (E3 (n := 1) (by decide)) (mV rfl (mn ?_))))))))))))))
       exact ⟨([.int .i64 0], [] ++ [0]), ⟨Dig.cons (by decide) Dig.nil, by simp, fun _ => rfl⟩, by simp, Ap 4 rfl (by decide) rfl (Nn fun _ => rfl) (fzC rfl (fvP rfl) (fzC rfl (fvH rfl) fzN))⟩
     · by_cases h9 : (d :: r).length ≤ 9
       · refine sq (sO (mV rfl (mV rfl (mBk hg gN (c := true) rfl rfl (decide_eq_true (by simp only [lCo] at *; omega)) (mn (cT rfl (kM (bM (oM (mV rfl (mV (v := .hsl 1 4 0 1 (some 1)) rfl (Ba hg gN (v := .hsl 1 3 0 ((d :: r) ++ [0]).length none) (Qa rfl rfl rfl rfl rfl) rfl (E3 (by simp only [lCo] at *; omega)) (mV rfl (mn ?_))))))))))))))
         exact ⟨(J, (d :: r) ++ [0]), ⟨hl.snoc (by decide), by simp only [lAp, lCo, lNi] at *; omega, hJ⟩, by simp only [lAp, lCo, lNi] at *; omega, Ap 4 rfl (by decide) rfl (Nn hJ) (fzC rfl (fvP rfl) (fzC rfl (fvH rfl) fzN))⟩
       · refine sq (sO (mV rfl (mV rfl (mBk hg gN (c := false) rfl rfl (dF (by simp only [lCo] at *; omega)) (mn (cF rfl ?_))))))
         refine ExM.exit ?_
         refine sO (mV rfl (mn (sq (bM ?_))))
         have h10 : ¬ (d :: r).length ≤ 9 := h9
         refine ExM.loop (σ := Nat) (fun f => ⟨.al [(1, .ptr 0 0), (4, dg (d :: r)), (5, .int .i64 (f : Nat))], [.cells 24 [.int .i64 M, .int .i64 E] false], 56⟩) (fun f => f ≤ 9) (fun f => 9 - f) 0 (Ap 1 rfl (Nat.zero_le _) rfl rfl (fzC rfl (fvP rfl) (fzC rfl (L5 (id := 3) (by decide) rfl) (fzC rfl fvI fzN)))) (Nat.zero_le _) ?_
         rintro f hf
         generalize d :: r = D at *
         by_cases hf9 : f < 9
         · by_cases hz : D.getD f 0 = 0
           · refine sq (sO (mV rfl (mT rfl (mV rfl (mV rfl (mV rfl (mS (v := .eptr (.int .i64 (D.getD f 0 : Nat)) 0) (Ew rfl rfl (by omega)) (mV rfl (mBk hg (gS rfl) (c := true) rfl rfl (by rw [hz]; decide) (mV rfl (mn (cT rfl (kM (bM (oM (mV rfl (mI ((f + 1 : Nat)) rfl (mV rfl (mn ?_)))))))))))))))))))
             exact ⟨f + 1, by omega, by omega, Ap 1 rfl (Nat.zero_le _) rfl rfl (fzC rfl (fvP rfl) (fzC rfl fvD (fzC rfl fvI fzN)))⟩
           · refine sq (sO (mV rfl (mT rfl (mV rfl (mV rfl (mV rfl (mS (v := .eptr (.int .i64 (D.getD f 0 : Nat)) 0) (Ew rfl rfl (by omega)) (mV rfl (mF rfl (mV rfl (mn (cF rfl ?_))))))))))))
             refine ExM.exit ?_
             refine sO (mV rfl (mn (sq (sO (mV rfl (mV rfl ?_))))))
             refine mB hg gN rfl rfl trivial (fun h1 => ?_) (fun h1 => ?_)
             · refine mn (cT rfl (oM (mV rfl (mn (sq (sO (mV rfl (mV (v := .int .i64 (D.length : Nat)) (E0 rfl) (mK (v := .int .i64 ((D.length : Nat) - 1)) rfl (Br (by omega) (by omega) rfl) (mV rfl (mn (bM ?_))))))))))))
               refine ExM.loop (σ := Nat × Bz) (fun σ => ⟨.al [(1, .ptr 0 0), (4, dg D), (5, .int .i64 (f : Nat)), (6, .str σ.2), (7, .int .i64 ((σ.1 : Nat) - 1))], [.cells 24 [.int .i64 M, .int .i64 E] false], 56⟩) (fun σ => σ.1 ≤ D.length ∧ Fo σ.2 ∧ σ.2.length + 2 * σ.1 ≤ 1000) (fun σ => σ.1) (D.length, _) (Ap 1 rfl (Nat.zero_le _) rfl rfl (fzC rfl (fvP rfl) (fzC rfl fvD (fzC rfl fvI (fzC rfl fvS (fzC rfl fvI fzN)))))) ⟨Nat.le_refl _, by first | exact Dj | exact Dq (by decide), by simp only [lCo, lNi]; omega⟩ ?_
               rintro ⟨k, s⟩ ⟨hk, hs, hsl⟩
               simp only at hk hs hsl ⊢
               by_cases hkf : f < k
               · obtain ⟨j, rfl⟩ : ∃ j, k = j + 1 := ⟨k - 1, by omega⟩
                 have hdj := hl.get j
                 by_cases h8 : j = 8
                 · refine sq (sO (mV rfl (mV rfl (mT rfl (mn (cT rfl (kM (sq (bM (sq (sO (mV rfl (mT rfl (mn (cT rfl (oM (mV rfl (mS rfl (mV rfl (mn (oM (mV rfl (mV rfl (mK (v := .int .i64 (j : Nat)) rfl (iE (by omega)) (mS (v := .eptr (.int .i64 (D.getD j 0 : Nat)) 0) (Ew rfl rfl (by omega)) (mV rfl (mI ((48 + D.getD j 0 : Nat)) rfl (mK (v := .int .u8 ((48 + D.getD j 0 : Nat))) rfl (w8E (by omega) (by omega) rfl) (mV (v := .hsl 1 1 0 1 (some 1)) rfl (mV (v := .str [UInt8.ofNat (48 + D.getD j 0)]) rfl (Ba hg gN rfl rfl (by simp only [Ae, and_true, lAp, lCo, lNi]; omega) (mV rfl (mn (oM (mV rfl (mI ((j : Nat) - 1) rfl (mV rfl (mn ?_))))))))))))))))))))))))))))))))))))))
                   exact ⟨(j, (s ++ [46]) ++ [UInt8.ofNat (48 + D.getD j 0)]), ⟨by simp only; omega, C6 (C6 hs (Dq (by decide))) (F3 hdj), by simp only [lAp, lCo, lNi]; omega⟩, by simp only; omega, Ap 1 rfl (Nat.zero_le _) rfl rfl (fzC rfl (fvP rfl) (fzC rfl fvD (fzC rfl fvI (fzC rfl fvS (fzC rfl fvI fzN)))))⟩
                 · refine sq (sO (mV rfl (mV rfl (mT rfl (mn (cT rfl (kM (sq (bM (sq (sO (mV rfl (mF rfl (mn (cF rfl (kM (oM (mV rfl (mV rfl (mK (v := .int .i64 (j : Nat)) rfl (iE (by omega)) (mS (v := .eptr (.int .i64 (D.getD j 0 : Nat)) 0) (Ew rfl rfl (by omega)) (mV rfl (mI ((48 + D.getD j 0 : Nat)) rfl (mK (v := .int .u8 ((48 + D.getD j 0 : Nat))) rfl (w8E (by omega) (by omega) rfl) (mV (v := .hsl 1 1 0 1 (some 1)) rfl (mV (v := .str [UInt8.ofNat (48 + D.getD j 0)]) rfl (Ba hg gN rfl rfl (by simp only [Ae, and_true, lCo, lNi]; omega) (mV rfl (mn (oM (mV rfl (mI ((j : Nat) - 1) rfl (mV rfl (mn ?_))))))))))))))))))))))))))))))))))
                   exact ⟨(j, s ++ [UInt8.ofNat (48 + D.getD j 0)]), ⟨by simp only; omega, C6 hs (F3 hdj), by simp only [lAp, lCo, lNi]; omega⟩, by simp only; omega, Ap 1 rfl (Nat.zero_le _) rfl rfl (fzC rfl (fvP rfl) (fzC rfl fvD (fzC rfl fvI (fzC rfl fvS (fzC rfl fvI fzN)))))⟩
               · refine sq (sO (mV rfl (mV rfl (mF rfl (mn (cF rfl ?_))))))
                 refine ExM.exit ?_
                 refine sO (mV rfl (mV rfl (mV rfl (mn ?_))))
                 exact ExM.ret ⟨_, ⟨s, 0, rfl, hs, by omega⟩, A4 trivial rfl rfl 100 rfl rfl⟩
             · refine mn (cF rfl (kM (sq (sO (mV rfl (mV (v := .int .i64 (D.length : Nat)) (E0 rfl) (mK (v := .int .i64 ((D.length : Nat) - 1)) rfl (Br (by omega) (by omega) rfl) (mV rfl (mn (bM ?_))))))))))
               refine ExM.loop (σ := Nat × Bz) (fun σ => ⟨.al [(1, .ptr 0 0), (4, dg D), (5, .int .i64 (f : Nat)), (6, .str σ.2), (7, .int .i64 ((σ.1 : Nat) - 1))], [.cells 24 [.int .i64 M, .int .i64 E] false], 56⟩) (fun σ => σ.1 ≤ D.length ∧ Fo σ.2 ∧ σ.2.length + 2 * σ.1 ≤ 1000) (fun σ => σ.1) (D.length, _) (Ap 1 rfl (Nat.zero_le _) rfl rfl (fzC rfl (fvP rfl) (fzC rfl fvD (fzC rfl fvI (fzC rfl fvS (fzC rfl fvI fzN)))))) ⟨Nat.le_refl _, by first | exact Dj | exact Dq (by decide), by simp only [lNi]; omega⟩ ?_
               rintro ⟨k, s⟩ ⟨hk, hs, hsl⟩
               simp only at hk hs hsl ⊢
               by_cases hkf : f < k
               · obtain ⟨j, rfl⟩ : ∃ j, k = j + 1 := ⟨k - 1, by omega⟩
                 have hdj := hl.get j
                 by_cases h8 : j = 8
                 · refine sq (sO (mV rfl (mV rfl (mT rfl (mn (cT rfl (kM (sq (bM (sq (sO (mV rfl (mT rfl (mn (cT rfl (oM (mV rfl (mS rfl (mV rfl (mn (oM (mV rfl (mV rfl (mK (v := .int .i64 (j : Nat)) rfl (iE (by omega)) (mS (v := .eptr (.int .i64 (D.getD j 0 : Nat)) 0) (Ew rfl rfl (by omega)) (mV rfl (mI ((48 + D.getD j 0 : Nat)) rfl (mK (v := .int .u8 ((48 + D.getD j 0 : Nat))) rfl (w8E (by omega) (by omega) rfl) (mV (v := .hsl 1 1 0 1 (some 1)) rfl (mV (v := .str [UInt8.ofNat (48 + D.getD j 0)]) rfl (Ba hg gN rfl rfl (by simp only [Ae, and_true, lAp, lCo, lNi]; omega) (mV rfl (mn (oM (mV rfl (mI ((j : Nat) - 1) rfl (mV rfl (mn ?_))))))))))))))))))))))))))))))))))))))
                   exact ⟨(j, (s ++ [46]) ++ [UInt8.ofNat (48 + D.getD j 0)]), ⟨by simp only; omega, C6 (C6 hs (Dq (by decide))) (F3 hdj), by simp only [lAp, lCo, lNi]; omega⟩, by simp only; omega, Ap 1 rfl (Nat.zero_le _) rfl rfl (fzC rfl (fvP rfl) (fzC rfl fvD (fzC rfl fvI (fzC rfl fvS (fzC rfl fvI fzN)))))⟩
                 · refine sq (sO (mV rfl (mV rfl (mT rfl (mn (cT rfl (kM (sq (bM (sq (sO (mV rfl (mF rfl (mn (cF rfl (kM (oM (mV rfl (mV rfl (mK (v := .int .i64 (j : Nat)) rfl (iE (by omega)) (mS (v := .eptr (.int .i64 (D.getD j 0 : Nat)) 0) (Ew rfl rfl (by omega)) (mV rfl (mI ((48 + D.getD j 0 : Nat)) rfl (mK (v := .int .u8 ((48 + D.getD j 0 : Nat))) rfl (w8E (by omega) (by omega) rfl) (mV (v := .hsl 1 1 0 1 (some 1)) rfl (mV (v := .str [UInt8.ofNat (48 + D.getD j 0)]) rfl (Ba hg gN rfl rfl (by simp only [Ae, and_true, lCo, lNi]; omega) (mV rfl (mn (oM (mV rfl (mI ((j : Nat) - 1) rfl (mV rfl (mn ?_))))))))))))))))))))))))))))))))))
                   exact ⟨(j, s ++ [UInt8.ofNat (48 + D.getD j 0)]), ⟨by simp only; omega, C6 hs (F3 hdj), by simp only [lAp, lCo, lNi]; omega⟩, by simp only; omega, Ap 1 rfl (Nat.zero_le _) rfl rfl (fzC rfl (fvP rfl) (fzC rfl fvD (fzC rfl fvI (fzC rfl fvS (fzC rfl fvI fzN)))))⟩
               · refine sq (sO (mV rfl (mV rfl (mF rfl (mn (cF rfl ?_))))))
                 refine ExM.exit ?_
                 refine sO (mV rfl (mV rfl (mV rfl (mn ?_))))
                 exact ExM.ret ⟨_, ⟨s, 0, rfl, hs, by omega⟩, A4 trivial rfl rfl 100 rfl rfl⟩
         · refine sq (sO (mV rfl (mF rfl (mV rfl (mG (mG (mG (mG (mG (mV rfl (mn (cF rfl ?_))))))))))))
           refine ExM.exit ?_
           refine sO (mV rfl (mn (sq (sO (mV rfl (mV rfl ?_))))))
           refine mB hg gN rfl rfl trivial (fun h2 => ?_) (fun h2 => ?_)
           · refine mn (cT rfl (oM (mV rfl (mn (sq (sO (mV rfl (mV (v := .int .i64 (D.length : Nat)) (E0 rfl) (mK (v := .int .i64 ((D.length : Nat) - 1)) rfl (Br (by omega) (by omega) rfl) (mV rfl (mn (bM ?_))))))))))))
             refine ExM.loop (σ := Nat × Bz) (fun σ => ⟨.al [(1, .ptr 0 0), (4, dg D), (5, .int .i64 (f : Nat)), (6, .str σ.2), (7, .int .i64 ((σ.1 : Nat) - 1))], [.cells 24 [.int .i64 M, .int .i64 E] false], 56⟩) (fun σ => σ.1 ≤ D.length ∧ Fo σ.2 ∧ σ.2.length + 2 * σ.1 ≤ 1000) (fun σ => σ.1) (D.length, _) (Ap 1 rfl (Nat.zero_le _) rfl rfl (fzC rfl (fvP rfl) (fzC rfl fvD (fzC rfl fvI (fzC rfl fvS (fzC rfl fvI fzN)))))) ⟨Nat.le_refl _, by first | exact Dj | exact Dq (by decide), by simp only [lCo, lNi]; omega⟩ ?_
             rintro ⟨k, s⟩ ⟨hk, hs, hsl⟩
             simp only at hk hs hsl ⊢
             by_cases hkf : f < k
             · obtain ⟨j, rfl⟩ : ∃ j, k = j + 1 := ⟨k - 1, by omega⟩
               have hdj := hl.get j
               by_cases h8 : j = 8
               · refine sq (sO (mV rfl (mV rfl (mT rfl (mn (cT rfl (kM (sq (bM (sq (sO (mV rfl (mT rfl (mn (cT rfl (oM (mV rfl (mS rfl (mV rfl (mn (oM (mV rfl (mV rfl (mK (v := .int .i64 (j : Nat)) rfl (iE (by omega)) (mS (v := .eptr (.int .i64 (D.getD j 0 : Nat)) 0) (Ew rfl rfl (by omega)) (mV rfl (mI ((48 + D.getD j 0 : Nat)) rfl (mK (v := .int .u8 ((48 + D.getD j 0 : Nat))) rfl (w8E (by omega) (by omega) rfl) (mV (v := .hsl 1 1 0 1 (some 1)) rfl (mV (v := .str [UInt8.ofNat (48 + D.getD j 0)]) rfl (Ba hg gN rfl rfl (by simp only [Ae, and_true, lAp, lCo, lNi]; omega) (mV rfl (mn (oM (mV rfl (mI ((j : Nat) - 1) rfl (mV rfl (mn ?_))))))))))))))))))))))))))))))))))))))
                 exact ⟨(j, (s ++ [46]) ++ [UInt8.ofNat (48 + D.getD j 0)]), ⟨by simp only; omega, C6 (C6 hs (Dq (by decide))) (F3 hdj), by simp only [lAp, lCo, lNi]; omega⟩, by simp only; omega, Ap 1 rfl (Nat.zero_le _) rfl rfl (fzC rfl (fvP rfl) (fzC rfl fvD (fzC rfl fvI (fzC rfl fvS (fzC rfl fvI fzN)))))⟩
               · refine sq (sO (mV rfl (mV rfl (mT rfl (mn (cT rfl (kM (sq (bM (sq (sO (mV rfl (mF rfl (mn (cF rfl (kM (oM (mV rfl (mV rfl (mK (v := .int .i64 (j : Nat)) rfl (iE (by omega)) (mS (v := .eptr (.int .i64 (D.getD j 0 : Nat)) 0) (Ew rfl rfl (by omega)) (mV rfl (mI ((48 + D.getD j 0 : Nat)) rfl (mK (v := .int .u8 ((48 + D.getD j 0 : Nat))) rfl (w8E (by omega) (by omega) rfl) (mV (v := .hsl 1 1 0 1 (some 1)) rfl (mV (v := .str [UInt8.ofNat (48 + D.getD j 0)]) rfl (Ba hg gN rfl rfl (by simp only [Ae, and_true, lCo, lNi]; omega) (mV rfl (mn (oM (mV rfl (mI ((j : Nat) - 1) rfl (mV rfl (mn ?_))))))))))))))))))))))))))))))))))
                 exact ⟨(j, s ++ [UInt8.ofNat (48 + D.getD j 0)]), ⟨by simp only; omega, C6 hs (F3 hdj), by simp only [lAp, lCo, lNi]; omega⟩, by simp only; omega, Ap 1 rfl (Nat.zero_le _) rfl rfl (fzC rfl (fvP rfl) (fzC rfl fvD (fzC rfl fvI (fzC rfl fvS (fzC rfl fvI fzN)))))⟩
             · refine sq (sO (mV rfl (mV rfl (mF rfl (mn (cF rfl ?_))))))
               refine ExM.exit ?_
               refine sO (mV rfl (mV rfl (mV rfl (mn ?_))))
               exact ExM.ret ⟨_, ⟨s, 0, rfl, hs, by omega⟩, A4 trivial rfl rfl 100 rfl rfl⟩
           · refine mn (cF rfl (kM (sq (sO (mV rfl (mV (v := .int .i64 (D.length : Nat)) (E0 rfl) (mK (v := .int .i64 ((D.length : Nat) - 1)) rfl (Br (by omega) (by omega) rfl) (mV rfl (mn (bM ?_))))))))))
             refine ExM.loop (σ := Nat × Bz) (fun σ => ⟨.al [(1, .ptr 0 0), (4, dg D), (5, .int .i64 (f : Nat)), (6, .str σ.2), (7, .int .i64 ((σ.1 : Nat) - 1))], [.cells 24 [.int .i64 M, .int .i64 E] false], 56⟩) (fun σ => σ.1 ≤ D.length ∧ Fo σ.2 ∧ σ.2.length + 2 * σ.1 ≤ 1000) (fun σ => σ.1) (D.length, _) (Ap 1 rfl (Nat.zero_le _) rfl rfl (fzC rfl (fvP rfl) (fzC rfl fvD (fzC rfl fvI (fzC rfl fvS (fzC rfl fvI fzN)))))) ⟨Nat.le_refl _, by first | exact Dj | exact Dq (by decide), by simp only [lNi]; omega⟩ ?_
             rintro ⟨k, s⟩ ⟨hk, hs, hsl⟩
             simp only at hk hs hsl ⊢
             by_cases hkf : f < k
             · obtain ⟨j, rfl⟩ : ∃ j, k = j + 1 := ⟨k - 1, by omega⟩
               have hdj := hl.get j
               by_cases h8 : j = 8
               · refine sq (sO (mV rfl (mV rfl (mT rfl (mn (cT rfl (kM (sq (bM (sq (sO (mV rfl (mT rfl (mn (cT rfl (oM (mV rfl (mS rfl (mV rfl (mn (oM (mV rfl (mV rfl (mK (v := .int .i64 (j : Nat)) rfl (iE (by omega)) (mS (v := .eptr (.int .i64 (D.getD j 0 : Nat)) 0) (Ew rfl rfl (by omega)) (mV rfl (mI ((48 + D.getD j 0 : Nat)) rfl (mK (v := .int .u8 ((48 + D.getD j 0 : Nat))) rfl (w8E (by omega) (by omega) rfl) (mV (v := .hsl 1 1 0 1 (some 1)) rfl (mV (v := .str [UInt8.ofNat (48 + D.getD j 0)]) rfl (Ba hg gN rfl rfl (by simp only [Ae, and_true, lAp, lCo, lNi]; omega) (mV rfl (mn (oM (mV rfl (mI ((j : Nat) - 1) rfl (mV rfl (mn ?_))))))))))))))))))))))))))))))))))))))
                 exact ⟨(j, (s ++ [46]) ++ [UInt8.ofNat (48 + D.getD j 0)]), ⟨by simp only; omega, C6 (C6 hs (Dq (by decide))) (F3 hdj), by simp only [lAp, lCo, lNi]; omega⟩, by simp only; omega, Ap 1 rfl (Nat.zero_le _) rfl rfl (fzC rfl (fvP rfl) (fzC rfl fvD (fzC rfl fvI (fzC rfl fvS (fzC rfl fvI fzN)))))⟩
               · refine sq (sO (mV rfl (mV rfl (mT rfl (mn (cT rfl (kM (sq (bM (sq (sO (mV rfl (mF rfl (mn (cF rfl (kM (oM (mV rfl (mV rfl (mK (v := .int .i64 (j : Nat)) rfl (iE (by omega)) (mS (v := .eptr (.int .i64 (D.getD j 0 : Nat)) 0) (Ew rfl rfl (by omega)) (mV rfl (mI ((48 + D.getD j 0 : Nat)) rfl (mK (v := .int .u8 ((48 + D.getD j 0 : Nat))) rfl (w8E (by omega) (by omega) rfl) (mV (v := .hsl 1 1 0 1 (some 1)) rfl (mV (v := .str [UInt8.ofNat (48 + D.getD j 0)]) rfl (Ba hg gN rfl rfl (by simp only [Ae, and_true, lCo, lNi]; omega) (mV rfl (mn (oM (mV rfl (mI ((j : Nat) - 1) rfl (mV rfl (mn ?_))))))))))))))))))))))))))))))))))
                 exact ⟨(j, s ++ [UInt8.ofNat (48 + D.getD j 0)]), ⟨by simp only; omega, C6 hs (F3 hdj), by simp only [lAp, lCo, lNi]; omega⟩, by simp only; omega, Ap 1 rfl (Nat.zero_le _) rfl rfl (fzC rfl (fvP rfl) (fzC rfl fvD (fzC rfl fvI (fzC rfl fvS (fzC rfl fvI fzN)))))⟩
             · refine sq (sO (mV rfl (mV rfl (mF rfl (mn (cF rfl ?_))))))
               refine ExM.exit ?_
               refine sO (mV rfl (mV rfl (mV rfl (mn ?_))))
               exact ExM.ret ⟨_, ⟨s, 0, rfl, hs, by omega⟩, A4 trivial rfl rfl 100 rfl rfl⟩
end Go.Abs
