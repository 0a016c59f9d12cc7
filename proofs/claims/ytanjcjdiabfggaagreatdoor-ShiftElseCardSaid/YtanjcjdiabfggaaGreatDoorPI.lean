/- A part of the proof that tabula/tabulalaw17.ShiftElse returns true for every input, each argument reading as it did (its card: the last text). No conditions of its own. -/
import Derived.Test.YtanjcjdiabfggaaGreatDoorPH
namespace Go.Abs
open Go.Proofs Go.RowKit
set_option maxRecDepth 100000
variable {W0 : World} {G : List (Nat × AVal)}
theorem B9 {c : UInt8} {r : Bz} (h : c ≠ 61) : Fo (c :: r) := fun c' r' e => by injection e with e1 _; rw [← e1]; exact h
theorem Wa (s : Bz) (i : Nat) : (s.getD i 0).toNat < 256 := (s.getD i 0).toNat_lt
def KF148 : AFn := ⟨(sQ [wV 2 (.move (.val (.bool false)))] (.seq (sQ [wV 3 (.move (vI 0))] (.block 0 (.loop (.seq (sQ [wM 5 3, wM 6 0, wV 7 (.len true 6), wV 8 (.bin .lss none 5 7)] (.cond 8 .skip (.exit 0))) (.block 1 (sQ [wM 9 0, wM 10 3, wV 11 (.cutStr 9 (some 10) none), wV 12 (kF 101 [11]), wM 4 12] (.seq (sQ [wM 13 4, wV 14 (.bin .eql none 13 (vI 0)), wM 15 14, wF 16 15 (.move 0), wF 17 15 (.move 3), wF 18 15 (.idxStr 16 17), wF 19 15 (.bin .lss none 18 (.val (.int .u8 32))), wV 20 (.pick 15 (.val (.bool true)) 19), wM 21 20, wF 22 21 (.move 0), wF 23 21 (.move 3), wF 24 21 (.idxStr 22 23), wF 25 21 (.bin .eql none 24 (.val (.int .u8 127))), wV 26 (.pick 21 (.val (.bool true)) 25)] (.cond 26 (sQ [wV 2 (.move (.val (.bool false)))] .ret) .skip)) (.ops [wM 27 3, wM 28 4, wV 29 (.bin .add none 27 28), wM 3 29])))))))) (sQ [wV 2 (.move (.val (.bool true)))] .ret))), [2], 30⟩
theorem KG148 : Au Tryz.prog 148 = some KF148 := by kernel_rfl
def KF89 : AFn := ⟨(sQ [wV 2 (.move (.val (.str [])))] (sQ [wM 5 0, wV 6 (.conv (.s2b 5) 5), wM 3 6] (.seq (sQ [wV 4 (.move (vI 0))] (.block 0 (.loop (.seq (sQ [wM 7 4, wM 8 3, wV 9 (.len false 8), wV 10 (.bin .lss none 7 9)] (.cond 10 .skip (.exit 0))) (.seq (.block 1 (sQ [wM 13 3, wM 14 4, wV 15 (.idxSl 1 13 14), wV 16 (.load 1 false 15), wV 17 (.bin .geq none 16 (.val (.int .u8 65))), wM 18 17, wT 19 18 (.move 3), wT 20 18 (.move 4), wT 21 18 (.idxSl 1 19 20), wT 22 18 (.load 1 false 21), wT 23 18 (.bin .leq none 22 (.val (.int .u8 90))), wV 24 (.pick 18 23 (.val (.bool false)))] (.cond 24 (.ops [wM 25 3, wM 26 4, wM 27 3, wM 28 4, wV 29 (.idxSl 1 27 28), wV 30 (.load 1 false 29), wV 31 (.bin .add none 30 (.val (.int .u8 32))), wV 32 (.idxSl 1 25 26), wN (.store 1 32 31)]) .skip))) (.ops [wM 11 4, wV 12 (.bin .add none 11 (vI 1)), wM 4 12])))))) (sQ [wM 33 3, wV 34 (.conv .b2s 33), wM 2 34] .ret)))), [2], 35⟩
theorem KG89 : Au Tryz.prog 89 = some KF89 := by kernel_rfl
def KF56 : AFn := ⟨(sQ [wV 2 (.move (.val (.str [])))] (sQ [wV 3 (.move (.val (.str [])))] (.seq (sQ [wV 4 (.move (vI 0))] (.block 0 (.loop (.seq (sQ [wM 6 4, wM 7 0, wV 8 (.len true 7), wV 9 (.bin .lss none 6 8), wM 10 9, wT 11 10 (.move 3), wT 12 10 (.len true 11), wT 13 10 (.bin .lss none 12 (vI 37)), wV 14 (.pick 10 13 (.val (.bool false)))] (.cond 14 .skip (.exit 0))) (.block 1 (sQ [wM 15 0, wM 16 4, wV 17 (.cutStr 15 (some 16) none), wV 18 (kF 101 [17]), wM 5 18] (.seq (sQ [wM 19 5, wV 20 (.bin .eql none 19 (vI 0)), wM 21 20, wF 22 21 (.move 0), wF 23 21 (.move 4), wF 24 21 (.idxStr 22 23), wF 25 21 (.bin .lss none 24 (.val (.int .u8 32))), wV 26 (.pick 21 (.val (.bool true)) 25), wM 27 26, wF 28 27 (.move 0), wF 29 27 (.move 4), wF 30 27 (.idxStr 28 29), wF 31 27 (.bin .eql none 30 (.val (.int .u8 127))), wV 32 (.pick 27 (.val (.bool true)) 31)] (.cond 32 (sQ [wM 33 4, wV 34 (.bin .add none 33 (vI 1)), wM 4 34] (.exit 1)) .skip)) (sQ [wM 35 3, wM 36 0, wM 37 4, wM 38 4, wM 39 5, wV 40 (.bin .add none 38 39), wV 41 (.cutStr 36 (some 37) (some 40)), wV 42 (.bin .add none 35 41), wM 3 42] (.ops [wM 43 4, wM 44 5, wV 45 (.bin .add none 43 44), wM 4 45]))))))))) (sQ [wM 46 3, wM 2 46] .ret)))), [2], 47⟩
theorem KG56 : Au Tryz.prog 56 = some KF56 := by kernel_rfl
def KF92 : AFn := ⟨(sQ [wV 2 (.move (.val (.bool false)))] (sQ [wM 3 0, wV 4 (.len true 3), wV 5 (.bin .leq none 4 (vI 200)), wM 6 5, wT 7 6 (.move 0), wT 8 6 (kF 148 [7]), wV 9 (.pick 6 8 (.val (.bool false))), wM 2 9] .ret)), [2], 10⟩
theorem KG92 : Au Tryz.prog 92 = some KF92 := by kernel_rfl
def KF90 : AFn := ⟨(sQ [wV 2 (.move (.val (.str [])))] (.seq (sQ [wM 3 0] (.block 0 (sQ [wV 5 (.bin .eql none 3 (vI 1)), wM 4 5] (.cond 4 (sQ [wV 2 (.move (.val (.str [35, 78, 85, 76, 76, 33])))] .ret) (sQ [wV 7 (.bin .eql none 3 (vI 2)), wM 6 7] (.cond 6 (sQ [wV 2 (.move (.val (.str [35, 68, 73, 86, 47, 48, 33])))] .ret) (sQ [wV 9 (.bin .eql none 3 (vI 3)), wM 8 9] (.cond 8 (sQ [wV 2 (.move (.val (.str [35, 86, 65, 76, 85, 69, 33])))] .ret) (sQ [wV 11 (.bin .eql none 3 (vI 4)), wM 10 11] (.cond 10 (sQ [wV 2 (.move (.val (.str [35, 82, 69, 70, 33])))] .ret) (sQ [wV 13 (.bin .eql none 3 (vI 5)), wM 12 13] (.cond 12 (sQ [wV 2 (.move (.val (.str [35, 78, 65, 77, 69, 63])))] .ret) (sQ [wV 15 (.bin .eql none 3 (vI 6)), wM 14 15] (.cond 14 (sQ [wV 2 (.move (.val (.str [35, 78, 85, 77, 33])))] .ret) (sQ [wV 17 (.bin .eql none 3 (vI 7)), wM 16 17] (.cond 16 (sQ [wV 2 (.move (.val (.str [35, 78, 47, 65])))] .ret) (sQ [wV 19 (.bin .eql none 3 (vI 8)), wM 18 19] (.cond 18 (sQ [wV 2 (.move (.val (.str [35, 83, 80, 73, 76, 76, 33])))] .ret) .skip)))))))))))))))))) (sQ [wV 2 (.move (.val (.str [35, 67, 73, 82, 67, 33])))] .ret))), [2], 20⟩
theorem KG90 : Au Tryz.prog 90 = some KF90 := by kernel_rfl
def KF91 : AFn := ⟨(sQ [wV 2 (.alloc 80 [.int .i64 0, .int .i64 0, .int .i64 0, .str [], .bool false, .int .i64 0, .int .i64 0, .int .i64 0, .nilSl, .int .i64 0, .nilSl, .nilSl])] (sQ [wM 3 0, wV 4 (.build [.int .i64 0, .int .i64 0, .int .i64 0, .str [], .bool false, .int .i64 0, .int .i64 0, .int .i64 0, .nilSl, .int .i64 0, .nilSl, .nilSl] [(0, 1, (vI 4)), (5, 1, 3)]), wN (.store 12 2 4)] .ret)), [.cell 2 12 true], 5⟩
theorem KG91 : Au Tryz.prog 91 = some KF91 := by kernel_rfl
def A2p : ACode := .seq (sQ [wM 51 0, wV 52 (.idxStr 51 (vI 1)), wV 53 (.conv (.int .i64) 52), wM 54 5, wV 55 (.bin .lss none 53 54), wM 56 55, wF 57 56 (.move 0), wF 58 56 (.idxStr 57 (vI 1)), wF 59 56 (.conv (.int .i64) 58), wF 60 56 (.move 6), wF 61 56 (.bin .gtr none 59 60), wV 62 (.pick 56 (.val (.bool true)) 61)] (.cond 62 (sQ [wV 2 (.move (vI 0))] .ret) .skip)) (.seq (sQ [wV 7 (.move (vI 2))] (.block 1 (.loop (.seq (sQ [wM 63 7, wM 64 4, wV 65 (.bin .lss none 63 64)] (.cond 65 .skip (.exit 1))) (.seq (.block 2 (sQ [wM 68 0, wM 69 7, wV 70 (.idxStr 68 69), wV 71 (.bin .lss none 70 (.val (.int .u8 128))), wM 72 71, wF 73 72 (.move 0), wF 74 72 (.move 7), wF 75 72 (.idxStr 73 74), wF 76 72 (.bin .gtr none 75 (.val (.int .u8 191))), wV 77 (.pick 72 (.val (.bool true)) 76)] (.cond 77 (sQ [wV 2 (.move (vI 0))] .ret) .skip))) (.ops [wM 66 7, wV 67 (.bin .add none 66 (vI 1)), wM 7 67])))))) (sQ [wM 78 4, wM 2 78] .ret))
def KF101 : AFn := ⟨(sQ [wV 2 (.move (vI 0))] (.seq (sQ [wM 8 0, wV 9 (.len true 8), wV 10 (.bin .eql none 9 (vI 0))] (.cond 10 (sQ [wV 2 (.move (vI 0))] .ret) .skip)) (sQ [wM 11 0, wV 12 (.idxStr 11 (vI 0)), wV 13 (.conv (.int .i64) 12), wM 3 13] (.seq (sQ [wM 14 3, wV 15 (.bin .lss none 14 (vI 128))] (.cond 15 (sQ [wV 2 (.move (vI 1))] .ret) .skip)) (sQ [wV 4 (.move (vI 0))] (sQ [wV 5 (.move (vI 128))] (sQ [wV 6 (.move (vI 191))] (.seq (sQ [wM 16 3, wV 17 (.bin .geq none 16 (vI 194)), wM 18 17, wT 19 18 (.move 3), wT 20 18 (.bin .leq none 19 (vI 223)), wV 21 (.pick 18 20 (.val (.bool false)))] (.cond 21 (.ops [wV 4 (.move (vI 2))]) .skip)) (.seq (sQ [wM 22 3, wV 23 (.bin .geq none 22 (vI 224)), wM 24 23, wT 25 24 (.move 3), wT 26 24 (.bin .leq none 25 (vI 239)), wV 27 (.pick 24 26 (.val (.bool false)))] (.cond 27 (.ops [wV 4 (.move (vI 3))]) .skip)) (.seq (sQ [wM 28 3, wV 29 (.bin .geq none 28 (vI 240)), wM 30 29, wT 31 30 (.move 3), wT 32 30 (.bin .leq none 31 (vI 244)), wV 33 (.pick 30 32 (.val (.bool false)))] (.cond 33 (.ops [wV 4 (.move (vI 4))]) .skip)) (.seq (sQ [wM 34 4, wV 35 (.bin .eql none 34 (vI 0)), wM 36 35, wF 37 36 (.move 0), wF 38 36 (.len true 37), wF 39 36 (.move 4), wF 40 36 (.bin .lss none 38 39), wV 41 (.pick 36 (.val (.bool true)) 40)] (.cond 41 (sQ [wV 2 (.move (vI 0))] .ret) .skip)) (.seq (sQ [wM 42 3] (.block 0 (sQ [wV 44 (.bin .eql none 42 (vI 224)), wM 43 44] (.cond 43 (.ops [wV 5 (.move (vI 160))]) (sQ [wV 46 (.bin .eql none 42 (vI 237)), wM 45 46] (.cond 45 (.ops [wV 6 (.move (vI 159))]) (sQ [wV 48 (.bin .eql none 42 (vI 240)), wM 47 48] (.cond 47 (.ops [wV 5 (.move (vI 144))]) (sQ [wV 50 (.bin .eql none 42 (vI 244)), wM 49 50] (.cond 49 (.ops [wV 6 (.move (vI 143))]) .skip)))))))))) A2p)))))))))))), [2], 79⟩
theorem KG101 : Au Tryz.prog 101 = some KF101 := by kernel_rfl
theorem nameE (hg : Gr Tryz.prog W0 G) {n : Int} : Aq Tryz.prog W0 90 [.int .i64 n] (fun v => ∃ t, v = .str t ∧ Fo t ∧ t.length ≤ 1000) := by
 refine Aq.of_fnM KG90 (by simp) rfl ?_
 refine sO (mV rfl (mn (sq (sO (mV rfl (mn (bM (sO ?_))))))))
 refine mB hg gN rfl rfl trivial (fun h1 => ?_) (fun h1 => ?_)
 · refine mV rfl (mn (cT rfl (sO (mV rfl (mn ?_)))))
   exact ExM.ret ⟨_, ⟨_, rfl, B9 (by decide), by decide⟩, A5 trivial rfl rfl rfl⟩
 · refine mV rfl (mn (cF rfl (sO ?_)))
   refine mB hg gN rfl rfl trivial (fun h2 => ?_) (fun h2 => ?_)
   · refine mV rfl (mn (cT rfl (sO (mV rfl (mn ?_)))))
     exact ExM.ret ⟨_, ⟨_, rfl, B9 (by decide), by decide⟩, A5 trivial rfl rfl rfl⟩
   · refine mV rfl (mn (cF rfl (sO ?_)))
     refine mB hg gN rfl rfl trivial (fun h3 => ?_) (fun h3 => ?_)
     · refine mV rfl (mn (cT rfl (sO (mV rfl (mn ?_)))))
       exact ExM.ret ⟨_, ⟨_, rfl, B9 (by decide), by decide⟩, A5 trivial rfl rfl rfl⟩
     · refine mV rfl (mn (cF rfl (sO ?_)))
       refine mB hg gN rfl rfl trivial (fun h4 => ?_) (fun h4 => ?_)
       · refine mV rfl (mn (cT rfl (sO (mV rfl (mn ?_)))))
         exact ExM.ret ⟨_, ⟨_, rfl, B9 (by decide), by decide⟩, A5 trivial rfl rfl rfl⟩
       · refine mV rfl (mn (cF rfl (sO ?_)))
         refine mB hg gN rfl rfl trivial (fun h5 => ?_) (fun h5 => ?_)
         · refine mV rfl (mn (cT rfl (sO (mV rfl (mn ?_)))))
           exact ExM.ret ⟨_, ⟨_, rfl, B9 (by decide), by decide⟩, A5 trivial rfl rfl rfl⟩
         · refine mV rfl (mn (cF rfl (sO ?_)))
           refine mB hg gN rfl rfl trivial (fun h6 => ?_) (fun h6 => ?_)
           · refine mV rfl (mn (cT rfl (sO (mV rfl (mn ?_)))))
             exact ExM.ret ⟨_, ⟨_, rfl, B9 (by decide), by decide⟩, A5 trivial rfl rfl rfl⟩
           · refine mV rfl (mn (cF rfl (sO ?_)))
             refine mB hg gN rfl rfl trivial (fun h7 => ?_) (fun h7 => ?_)
             · refine mV rfl (mn (cT rfl (sO (mV rfl (mn ?_)))))
               exact ExM.ret ⟨_, ⟨_, rfl, B9 (by decide), by decide⟩, A5 trivial rfl rfl rfl⟩
             · refine mV rfl (mn (cF rfl (sO ?_)))
               refine mB hg gN rfl rfl trivial (fun h8 => ?_) (fun h8 => ?_)
               · refine mV rfl (mn (cT rfl (sO (mV rfl (mn ?_)))))
                 exact ExM.ret ⟨_, ⟨_, rfl, B9 (by decide), by decide⟩, A5 trivial rfl rfl rfl⟩
               · refine mV rfl (mn (cF rfl (kM (sO (mV rfl (mn ?_))))))
                 exact ExM.ret ⟨_, ⟨_, rfl, B9 (by decide), by decide⟩, A5 trivial rfl rfl rfl⟩
theorem errP (hg : Gr Tryz.prog W0 G) {n : Int} : cP W0 91 [.int .i64 n] [] (Db 4 0 0 [] false n) [] := by
 refine A3.of_fnM KG91 (by simp) rfl ?_
 refine sO (mV (v := .ptr 0 0) rfl (mn (sO (mV rfl (mV rfl (Ai hg gN rfl (mn ?_)))))))
 exact ExM.ret (A4 trivial rfl rfl 100 rfl rfl)
theorem Qj (hg : Gr Tryz.prog W0 G) {s : Bz} {n : Nat} {low high : Int} (hs : s.length ≤ 150000000000000) (hn : n ≤ s.length) (hn2 : 2 ≤ n) (hn4 : n ≤ 4) : ExM Tryz.prog W0 0 A2p ⟨.al [(0, .str s), (4, .int .i64 (n : Nat)), (5, .int .i64 low), (6, .int .i64 high)], [], 79⟩ (fun e s' => ∃ v, (∃ n : Nat, v = .int .i64 (n : Nat) ∧ n ≤ s.length ∧ n ≤ 4) ∧ Ye KF101.res 0 v [] e s') := by
 refine sq (sO (mV rfl (mS (v := .int .u8 ((s.getD 1 0).toNat : Nat)) (Ed (n := 1) rfl rfl) (mK (v := .int .i64 ((s.getD 1 0).toNat : Nat)) rfl (Br (by have := Wa s 1; omega) (by have := Wa s 1; omega) rfl) (mV rfl ?_)))))
 refine mB hg gN rfl rfl trivial (fun h1 => ?_) (fun h1 => ?_)
 · refine mV rfl (mG (mG (mG (mG (mG (mV rfl (mn (cT rfl (sO (mV rfl (mn ?_)))))))))))
   exact ExM.ret ⟨_, ⟨0, rfl, Nat.zero_le _, by decide⟩, A5 trivial rfl rfl rfl⟩
 · refine mV rfl (mV rfl (mS (v := .int .u8 ((s.getD 1 0).toNat : Nat)) (Ed (n := 1) rfl rfl) (mK (v := .int .i64 ((s.getD 1 0).toNat : Nat)) rfl (Br (by have := Wa s 1; omega) (by have := Wa s 1; omega) rfl) (mV rfl ?_))))
   refine mB hg (gS rfl) rfl rfl trivial (fun h2 => ?_) (fun h2 => ?_)
   · refine mV rfl (mn (cT rfl (sO (mV rfl (mn ?_)))))
     exact ExM.ret ⟨_, ⟨0, rfl, Nat.zero_le _, by decide⟩, A5 trivial rfl rfl rfl⟩
   · refine mV rfl (mn (cF rfl (kM (sq (sO (mV rfl (mn (bM ?_))))))))
     refine ExM.loop (σ := Nat) (fun i => ⟨.al [(0, .str s), (4, .int .i64 (n : Nat)), (7, .int .i64 (i : Nat))], [], 79⟩) (fun i => i ≤ n) (fun i => n - i) 2 (Ap 0 rfl (Nat.le_refl _) rfl rfl (fzC rfl fvS (fzC rfl fvI (fzC rfl fvI fzN)))) (by omega) ?_
     rintro i hi
     by_cases hin : i < n
     · refine sq (sO (mV rfl (mV rfl (mT rfl (mn (cT rfl (kM (sq (bM (sO (mV rfl (mV rfl (mS (v := .int .u8 ((s.getD i 0).toNat : Nat)) (Ed rfl rfl) ?_)))))))))))))
       refine mB hg gN rfl rfl trivial (fun h3 => ?_) (fun h3 => ?_)
       · refine mV rfl (mG (mG (mG (mG (mV rfl (mn (cT rfl (sO (mV rfl (mn ?_))))))))))
         exact ExM.ret ⟨_, ⟨0, rfl, Nat.zero_le _, by decide⟩, A5 trivial rfl rfl rfl⟩
       · refine mV rfl (mV rfl (mV rfl (mS (v := .int .u8 ((s.getD i 0).toNat : Nat)) (Ed rfl rfl) ?_)))
         refine mB hg (gS rfl) rfl rfl trivial (fun h4 => ?_) (fun h4 => ?_)
         · refine mV rfl (mn (cT rfl (sO (mV rfl (mn ?_)))))
           exact ExM.ret ⟨_, ⟨0, rfl, Nat.zero_le _, by decide⟩, A5 trivial rfl rfl rfl⟩
         · refine mV rfl (mn (cF rfl (kM (oM (mV rfl (mI ((i + 1 : Nat)) rfl (mV rfl (mn ?_))))))))
           exact ⟨i + 1, by omega, by omega, Ap 0 rfl (Nat.le_refl _) rfl rfl (fzC rfl fvS (fzC rfl fvI (fzC rfl fvI fzN)))⟩
     · refine sq (sO (mV rfl (mV rfl (mF rfl (mn (cF rfl ?_))))))
       refine ExM.exit ?_
       refine sO (mV rfl (mV rfl (mn ?_)))
       exact ExM.ret ⟨_, ⟨n, rfl, by omega, by omega⟩, A5 trivial rfl rfl rfl⟩
theorem signE (hg : Gr Tryz.prog W0 G) {s : Bz} (hs : s.length ≤ 150000000000000) : Aq Tryz.prog W0 101 [.str s] (fun v => ∃ n : Nat, v = .int .i64 (n : Nat) ∧ n ≤ s.length ∧ n ≤ 4) := by
 refine Aq.of_fnM KG101 (by simp) rfl ?_
 by_cases hem : s.length = 0
 · skip
   refine sO (mV rfl (mn (sq (sO (mV rfl (mV rfl (mT rfl (mn (cT rfl (sO (mV rfl (mn ?_))))))))))))
   exact ExM.ret ⟨_, ⟨0, rfl, Nat.zero_le _, by decide⟩, A5 trivial rfl rfl rfl⟩
 have ha := Wa s 0
 by_cases h1 : (s.getD 0 0).toNat < 128
 · skip
   refine sO (mV rfl (mn (sq (sO (mV rfl (mV rfl (mF rfl (mn (cF rfl (kM (sO (mV rfl (mS (v := .int .u8 ((s.getD 0 0).toNat : Nat)) (Ed (n := 0) rfl rfl) (mK (v := .int .i64 ((s.getD 0 0).toNat : Nat)) rfl (Br (by omega) (by omega) rfl) (mV rfl (mn (sq (sO (mV rfl (mT rfl (mn (cT rfl (sO (mV rfl (mn ?_)))))))))))))))))))))))))
   exact ExM.ret ⟨_, ⟨1, rfl, by omega, by decide⟩, A5 trivial rfl rfl rfl⟩
 by_cases h2 : (s.getD 0 0).toNat < 194
 · skip
   refine sO (mV rfl (mn (sq (sO (mV rfl (mV rfl (mF rfl (mn (cF rfl (kM (sO (mV rfl (mS (v := .int .u8 ((s.getD 0 0).toNat : Nat)) (Ed (n := 0) rfl rfl) (mK (v := .int .i64 ((s.getD 0 0).toNat : Nat)) rfl (Br (by omega) (by omega) rfl) (mV rfl (mn (sq (sO (mV rfl (mF rfl (mn (cF rfl (kM (sO (mV rfl (mn (sO (mV rfl (mn (sO (mV rfl (mn (sq (sO (mV rfl (mF rfl (mV rfl (mG (mG (mV rfl (mn (cF rfl (kM (sq (sO (mV rfl (mF rfl (mV rfl (mG (mG (mV rfl (mn (cF rfl (kM (sq (sO (mV rfl (mF rfl (mV rfl (mG (mG (mV rfl (mn (cF rfl (kM (sq (sO (mV rfl (mT rfl (mV rfl (mG (mG (mG (mG (mV rfl (mn (cT rfl (sO (mV rfl (mn ?_))))))))))))))))))))))))))))))))))))))))))))))))))))))))))))))))))))))))))))))))
   exact ExM.ret ⟨_, ⟨0, rfl, Nat.zero_le _, by decide⟩, A5 trivial rfl rfl rfl⟩
 by_cases h3 : 244 < (s.getD 0 0).toNat
 · skip
   refine sO (mV rfl (mn (sq (sO (mV rfl (mV rfl (mF rfl (mn (cF rfl (kM (sO (mV rfl (mS (v := .int .u8 ((s.getD 0 0).toNat : Nat)) (Ed (n := 0) rfl rfl) (mK (v := .int .i64 ((s.getD 0 0).toNat : Nat)) rfl (Br (by omega) (by omega) rfl) (mV rfl (mn (sq (sO (mV rfl (mF rfl (mn (cF rfl (kM (sO (mV rfl (mn (sO (mV rfl (mn (sO (mV rfl (mn (sq (sO (mV rfl (mT rfl (mV rfl (mV rfl (mF rfl (mV rfl (mn (cF rfl (kM (sq (sO (mV rfl (mT rfl (mV rfl (mV rfl (mF rfl (mV rfl (mn (cF rfl (kM (sq (sO (mV rfl (mT rfl (mV rfl (mV rfl (mF rfl (mV rfl (mn (cF rfl (kM (sq (sO (mV rfl (mT rfl (mV rfl (mG (mG (mG (mG (mV rfl (mn (cT rfl (sO (mV rfl (mn ?_))))))))))))))))))))))))))))))))))))))))))))))))))))))))))))))))))))))))))))))))
   exact ExM.ret ⟨_, ⟨0, rfl, Nat.zero_le _, by decide⟩, A5 trivial rfl rfl rfl⟩
 by_cases h4 : (s.getD 0 0).toNat ≤ 223
 · skip
   refine sO (mV rfl (mn (sq (sO (mV rfl (mV rfl (mF rfl (mn (cF rfl (kM (sO (mV rfl (mS (v := .int .u8 ((s.getD 0 0).toNat : Nat)) (Ed (n := 0) rfl rfl) (mK (v := .int .i64 ((s.getD 0 0).toNat : Nat)) rfl (Br (by omega) (by omega) rfl) (mV rfl (mn (sq (sO (mV rfl (mF rfl (mn (cF rfl (kM (sO (mV rfl (mn (sO (mV rfl (mn (sO (mV rfl (mn (sq (sO (mV rfl (mT rfl (mV rfl (mV rfl (mT rfl (mV rfl (mn (cT rfl (oM (mV rfl (mn (sq (sO (mV rfl (mF rfl (mV rfl (mG (mG (mV rfl (mn (cF rfl (kM (sq (sO (mV rfl (mF rfl (mV rfl (mG (mG (mV rfl (mn (cF rfl (kM (sq (sO (mV rfl (mF rfl (mV rfl (mV rfl (mV rfl (mV rfl ?_)))))))))))))))))))))))))))))))))))))))))))))))))))))))))))))))))))))))))))
   refine mB hg (gS rfl) rfl rfl trivial (fun h1 => ?_) (fun h1 => ?_)
   ·
    refine mV rfl (mn (cT rfl (sO (mV rfl (mn ?_)))))
    exact ExM.ret ⟨_, ⟨0, rfl, Nat.zero_le _, by decide⟩, A5 trivial rfl rfl rfl⟩
   · have hsl := of_decide_eq_false h1
     refine mV rfl (mn (cF rfl (kM (sq (sO (mV rfl (mn (bM (sO (mF rfl (mV rfl (mn (cF rfl (sO (mF rfl (mV rfl (mn (cF rfl (sO (mF rfl (mV rfl (mn (cF rfl (sO (mF rfl (mV rfl (mn (cF rfl (kM ?_)))))))))))))))))))))))))))))
     exact ExM.fz (Ap 0 rfl (Nat.le_refl _) rfl rfl (fzC rfl fvS (fzC rfl fvI (fzC rfl fvI (fzC rfl fvI fzN))))) (Qj hg (n := 2) (low := 128) (high := 191) hs (by omega) (by decide) (by decide))
 by_cases h5 : (s.getD 0 0).toNat = 224
 · skip
   refine sO (mV rfl (mn (sq (sO (mV rfl (mV rfl (mF rfl (mn (cF rfl (kM (sO (mV rfl (mS (v := .int .u8 ((s.getD 0 0).toNat : Nat)) (Ed (n := 0) rfl rfl) (mK (v := .int .i64 ((s.getD 0 0).toNat : Nat)) rfl (Br (by omega) (by omega) rfl) (mV rfl (mn (sq (sO (mV rfl (mF rfl (mn (cF rfl (kM (sO (mV rfl (mn (sO (mV rfl (mn (sO (mV rfl (mn (sq (sO (mV rfl (mT rfl (mV rfl (mV rfl (mF rfl (mV rfl (mn (cF rfl (kM (sq (sO (mV rfl (mT rfl (mV rfl (mV rfl (mT rfl (mV rfl (mn (cT rfl (oM (mV rfl (mn (sq (sO (mV rfl (mF rfl (mV rfl (mG (mG (mV rfl (mn (cF rfl (kM (sq (sO (mV rfl (mF rfl (mV rfl (mV rfl (mV rfl (mV rfl ?_)))))))))))))))))))))))))))))))))))))))))))))))))))))))))))))))))))))))))))
   refine mB hg (gS rfl) rfl rfl trivial (fun h1 => ?_) (fun h1 => ?_)
   ·
    refine mV rfl (mn (cT rfl (sO (mV rfl (mn ?_)))))
    exact ExM.ret ⟨_, ⟨0, rfl, Nat.zero_le _, by decide⟩, A5 trivial rfl rfl rfl⟩
   · have hsl := of_decide_eq_false h1
     refine mV rfl (mn (cF rfl (kM (sq (sO (mV rfl (mn (bM (sO (mT rfl (mV rfl (mn (cT rfl (oM (mV rfl (mn ?_))))))))))))))))
     exact ExM.fz (Ap 0 rfl (Nat.le_refl _) rfl rfl (fzC rfl fvS (fzC rfl fvI (fzC rfl fvI (fzC rfl fvI fzN))))) (Qj hg (n := 3) (low := 160) (high := 191) hs (by omega) (by decide) (by decide))
 by_cases h6 : (s.getD 0 0).toNat = 237
 · skip
   refine sO (mV rfl (mn (sq (sO (mV rfl (mV rfl (mF rfl (mn (cF rfl (kM (sO (mV rfl (mS (v := .int .u8 ((s.getD 0 0).toNat : Nat)) (Ed (n := 0) rfl rfl) (mK (v := .int .i64 ((s.getD 0 0).toNat : Nat)) rfl (Br (by omega) (by omega) rfl) (mV rfl (mn (sq (sO (mV rfl (mF rfl (mn (cF rfl (kM (sO (mV rfl (mn (sO (mV rfl (mn (sO (mV rfl (mn (sq (sO (mV rfl (mT rfl (mV rfl (mV rfl (mF rfl (mV rfl (mn (cF rfl (kM (sq (sO (mV rfl (mT rfl (mV rfl (mV rfl (mT rfl (mV rfl (mn (cT rfl (oM (mV rfl (mn (sq (sO (mV rfl (mF rfl (mV rfl (mG (mG (mV rfl (mn (cF rfl (kM (sq (sO (mV rfl (mF rfl (mV rfl (mV rfl (mV rfl (mV rfl ?_)))))))))))))))))))))))))))))))))))))))))))))))))))))))))))))))))))))))))))
   refine mB hg (gS rfl) rfl rfl trivial (fun h1 => ?_) (fun h1 => ?_)
   ·
    refine mV rfl (mn (cT rfl (sO (mV rfl (mn ?_)))))
    exact ExM.ret ⟨_, ⟨0, rfl, Nat.zero_le _, by decide⟩, A5 trivial rfl rfl rfl⟩
   · have hsl := of_decide_eq_false h1
     refine mV rfl (mn (cF rfl (kM (sq (sO (mV rfl (mn (bM (sO (mF rfl (mV rfl (mn (cF rfl (sO (mT rfl (mV rfl (mn (cT rfl (oM (mV rfl (mn ?_)))))))))))))))))))))
     exact ExM.fz (Ap 0 rfl (Nat.le_refl _) rfl rfl (fzC rfl fvS (fzC rfl fvI (fzC rfl fvI (fzC rfl fvI fzN))))) (Qj hg (n := 3) (low := 128) (high := 159) hs (by omega) (by decide) (by decide))
 by_cases h7 : (s.getD 0 0).toNat ≤ 239
 · skip
   refine sO (mV rfl (mn (sq (sO (mV rfl (mV rfl (mF rfl (mn (cF rfl (kM (sO (mV rfl (mS (v := .int .u8 ((s.getD 0 0).toNat : Nat)) (Ed (n := 0) rfl rfl) (mK (v := .int .i64 ((s.getD 0 0).toNat : Nat)) rfl (Br (by omega) (by omega) rfl) (mV rfl (mn (sq (sO (mV rfl (mF rfl (mn (cF rfl (kM (sO (mV rfl (mn (sO (mV rfl (mn (sO (mV rfl (mn (sq (sO (mV rfl (mT rfl (mV rfl (mV rfl (mF rfl (mV rfl (mn (cF rfl (kM (sq (sO (mV rfl (mT rfl (mV rfl (mV rfl (mT rfl (mV rfl (mn (cT rfl (oM (mV rfl (mn (sq (sO (mV rfl (mF rfl (mV rfl (mG (mG (mV rfl (mn (cF rfl (kM (sq (sO (mV rfl (mF rfl (mV rfl (mV rfl (mV rfl (mV rfl ?_)))))))))))))))))))))))))))))))))))))))))))))))))))))))))))))))))))))))))))
   refine mB hg (gS rfl) rfl rfl trivial (fun h1 => ?_) (fun h1 => ?_)
   ·
    refine mV rfl (mn (cT rfl (sO (mV rfl (mn ?_)))))
    exact ExM.ret ⟨_, ⟨0, rfl, Nat.zero_le _, by decide⟩, A5 trivial rfl rfl rfl⟩
   · have hsl := of_decide_eq_false h1
     refine mV rfl (mn (cF rfl (kM (sq (sO (mV rfl (mn (bM (sO (mF rfl (mV rfl (mn (cF rfl (sO (mF rfl (mV rfl (mn (cF rfl (sO (mF rfl (mV rfl (mn (cF rfl (sO (mF rfl (mV rfl (mn (cF rfl (kM ?_)))))))))))))))))))))))))))))
     exact ExM.fz (Ap 0 rfl (Nat.le_refl _) rfl rfl (fzC rfl fvS (fzC rfl fvI (fzC rfl fvI (fzC rfl fvI fzN))))) (Qj hg (n := 3) (low := 128) (high := 191) hs (by omega) (by decide) (by decide))
 by_cases h8 : (s.getD 0 0).toNat = 240
 · skip
   refine sO (mV rfl (mn (sq (sO (mV rfl (mV rfl (mF rfl (mn (cF rfl (kM (sO (mV rfl (mS (v := .int .u8 ((s.getD 0 0).toNat : Nat)) (Ed (n := 0) rfl rfl) (mK (v := .int .i64 ((s.getD 0 0).toNat : Nat)) rfl (Br (by omega) (by omega) rfl) (mV rfl (mn (sq (sO (mV rfl (mF rfl (mn (cF rfl (kM (sO (mV rfl (mn (sO (mV rfl (mn (sO (mV rfl (mn (sq (sO (mV rfl (mT rfl (mV rfl (mV rfl (mF rfl (mV rfl (mn (cF rfl (kM (sq (sO (mV rfl (mT rfl (mV rfl (mV rfl (mF rfl (mV rfl (mn (cF rfl (kM (sq (sO (mV rfl (mT rfl (mV rfl (mV rfl (mT rfl (mV rfl (mn (cT rfl (oM (mV rfl (mn (sq (sO (mV rfl (mF rfl (mV rfl (mV rfl (mV rfl (mV rfl ?_)))))))))))))))))))))))))))))))))))))))))))))))))))))))))))))))))))))))))))
   refine mB hg (gS rfl) rfl rfl trivial (fun h1 => ?_) (fun h1 => ?_)
   ·
    refine mV rfl (mn (cT rfl (sO (mV rfl (mn ?_)))))
    exact ExM.ret ⟨_, ⟨0, rfl, Nat.zero_le _, by decide⟩, A5 trivial rfl rfl rfl⟩
   · have hsl := of_decide_eq_false h1
     refine mV rfl (mn (cF rfl (kM (sq (sO (mV rfl (mn (bM (sO (mF rfl (mV rfl (mn (cF rfl (sO (mF rfl (mV rfl (mn (cF rfl (sO (mT rfl (mV rfl (mn (cT rfl (oM (mV rfl (mn ?_))))))))))))))))))))))))))
     exact ExM.fz (Ap 0 rfl (Nat.le_refl _) rfl rfl (fzC rfl fvS (fzC rfl fvI (fzC rfl fvI (fzC rfl fvI fzN))))) (Qj hg (n := 4) (low := 144) (high := 191) hs (by omega) (by decide) (by decide))
 by_cases h9 : (s.getD 0 0).toNat = 244
 · skip
   refine sO (mV rfl (mn (sq (sO (mV rfl (mV rfl (mF rfl (mn (cF rfl (kM (sO (mV rfl (mS (v := .int .u8 ((s.getD 0 0).toNat : Nat)) (Ed (n := 0) rfl rfl) (mK (v := .int .i64 ((s.getD 0 0).toNat : Nat)) rfl (Br (by omega) (by omega) rfl) (mV rfl (mn (sq (sO (mV rfl (mF rfl (mn (cF rfl (kM (sO (mV rfl (mn (sO (mV rfl (mn (sO (mV rfl (mn (sq (sO (mV rfl (mT rfl (mV rfl (mV rfl (mF rfl (mV rfl (mn (cF rfl (kM (sq (sO (mV rfl (mT rfl (mV rfl (mV rfl (mF rfl (mV rfl (mn (cF rfl (kM (sq (sO (mV rfl (mT rfl (mV rfl (mV rfl (mT rfl (mV rfl (mn (cT rfl (oM (mV rfl (mn (sq (sO (mV rfl (mF rfl (mV rfl (mV rfl (mV rfl (mV rfl ?_)))))))))))))))))))))))))))))))))))))))))))))))))))))))))))))))))))))))))))
   refine mB hg (gS rfl) rfl rfl trivial (fun h1 => ?_) (fun h1 => ?_)
   ·
    refine mV rfl (mn (cT rfl (sO (mV rfl (mn ?_)))))
    exact ExM.ret ⟨_, ⟨0, rfl, Nat.zero_le _, by decide⟩, A5 trivial rfl rfl rfl⟩
   · have hsl := of_decide_eq_false h1
     refine mV rfl (mn (cF rfl (kM (sq (sO (mV rfl (mn (bM (sO (mF rfl (mV rfl (mn (cF rfl (sO (mF rfl (mV rfl (mn (cF rfl (sO (mF rfl (mV rfl (mn (cF rfl (sO (mT rfl (mV rfl (mn (cT rfl (oM (mV rfl (mn ?_)))))))))))))))))))))))))))))))
     exact ExM.fz (Ap 0 rfl (Nat.le_refl _) rfl rfl (fzC rfl fvS (fzC rfl fvI (fzC rfl fvI (fzC rfl fvI fzN))))) (Qj hg (n := 4) (low := 128) (high := 143) hs (by omega) (by decide) (by decide))
 refine sO (mV rfl (mn (sq (sO (mV rfl (mV rfl (mF rfl (mn (cF rfl (kM (sO (mV rfl (mS (v := .int .u8 ((s.getD 0 0).toNat : Nat)) (Ed (n := 0) rfl rfl) (mK (v := .int .i64 ((s.getD 0 0).toNat : Nat)) rfl (Br (by omega) (by omega) rfl) (mV rfl (mn (sq (sO (mV rfl (mF rfl (mn (cF rfl (kM (sO (mV rfl (mn (sO (mV rfl (mn (sO (mV rfl (mn (sq (sO (mV rfl (mT rfl (mV rfl (mV rfl (mF rfl (mV rfl (mn (cF rfl (kM (sq (sO (mV rfl (mT rfl (mV rfl (mV rfl (mF rfl (mV rfl (mn (cF rfl (kM (sq (sO (mV rfl (mT rfl (mV rfl (mV rfl (mT rfl (mV rfl (mn (cT rfl (oM (mV rfl (mn (sq (sO (mV rfl (mF rfl (mV rfl (mV rfl (mV rfl (mV rfl ?_)))))))))))))))))))))))))))))))))))))))))))))))))))))))))))))))))))))))))))
 refine mB hg (gS rfl) rfl rfl trivial (fun h1 => ?_) (fun h1 => ?_)
 ·
  refine mV rfl (mn (cT rfl (sO (mV rfl (mn ?_)))))
  exact ExM.ret ⟨_, ⟨0, rfl, Nat.zero_le _, by decide⟩, A5 trivial rfl rfl rfl⟩
 · have hsl := of_decide_eq_false h1
   refine mV rfl (mn (cF rfl (kM (sq (sO (mV rfl (mn (bM (sO (mF rfl (mV rfl (mn (cF rfl (sO (mF rfl (mV rfl (mn (cF rfl (sO (mF rfl (mV rfl (mn (cF rfl (sO (mF rfl (mV rfl (mn (cF rfl (kM ?_)))))))))))))))))))))))))))))
   exact ExM.fz (Ap 0 rfl (Nat.le_refl _) rfl rfl (fzC rfl fvS (fzC rfl fvI (fzC rfl fvI (fzC rfl fvI fzN))))) (Qj hg (n := 4) (low := 128) (high := 191) hs (by omega) (by decide) (by decide))
theorem isTextE (hg : Gr Tryz.prog W0 G) {s : Bz} (hs : s.length ≤ 100000) : Aq Tryz.prog W0 148 [.str s] (fun v => ∃ b, v = .bool b) := by
 refine Aq.of_fnM KG148 (by simp) rfl ?_
 refine sO (mV rfl (mn (sq (sO (mV rfl (mn (bM ?_)))))))
 refine ExM.loop (σ := Nat) (fun i => ⟨.al [(0, .str s), (3, .int .i64 (i : Nat))], [], 30⟩) (fun i => i ≤ s.length) (fun i => s.length - i) 0 (Ap 0 rfl (Nat.le_refl _) rfl rfl (fzC rfl fvS (fzC rfl fvI fzN))) (Nat.zero_le _) ?_
 rintro i hi
 by_cases hin : i < s.length
 · refine sq (sO (mV rfl (mV rfl (mV rfl (mT rfl (mn (cT rfl (kM (bM (sO (mV rfl (mV rfl (mS (v := .str (s.drop i)) rfl ?_)))))))))))))
   refine Bm hg gN rfl rfl rfl (signE hg (s := s.drop i) (by rw [List.length_drop]; omega)) ?_ ?_
   · rintro _ ⟨n, rfl, hn, hn4⟩; rfl
   rintro _ ⟨n, rfl, hn, hn4⟩
   rw [List.length_drop] at hn
   refine mV rfl (mn (sq (sO (mV rfl ?_))))
   refine mB hg gN rfl rfl trivial (fun h1 => ?_) (fun h1 => ?_)
   · refine mV rfl (mG (mG (mG (mG (mV rfl (mV rfl (mG (mG (mG (mG (mV rfl (mn (cT rfl (sO (mV rfl (mn ?_))))))))))))))))
     exact ExM.ret ⟨_, ⟨_, rfl⟩, A5 trivial rfl rfl rfl⟩
   · have hn0 : n ≠ 0 := by rw [bFn] at h1; omega
     refine mV rfl (mV rfl (mV rfl (mS (v := .int .u8 ((s.getD i 0).toNat : Nat)) (Ed rfl rfl) ?_)))
     refine mB hg (gS rfl) rfl rfl trivial (fun h2 => ?_) (fun h2 => ?_)
     · refine mV rfl (mV rfl (mG (mG (mG (mG (mV rfl (mn (cT rfl (sO (mV rfl (mn ?_)))))))))))
       exact ExM.ret ⟨_, ⟨_, rfl⟩, A5 trivial rfl rfl rfl⟩
     · refine mV rfl (mV rfl (mV rfl (mV rfl (mS (v := .int .u8 ((s.getD i 0).toNat : Nat)) (Ed rfl rfl) ?_))))
       refine mB hg (gS rfl) rfl rfl trivial (fun h3 => ?_) (fun h3 => ?_)
       · refine mV rfl (mn (cT rfl (sO (mV rfl (mn ?_)))))
         exact ExM.ret ⟨_, ⟨_, rfl⟩, A5 trivial rfl rfl rfl⟩
       · refine mV rfl (mn (cF rfl (kM (oM (mV rfl (mV rfl (mI ((i + n : Nat)) rfl (mV rfl (mn ?_)))))))))
         exact ⟨i + n, by omega, by omega, Ap 0 rfl (Nat.le_refl _) rfl rfl (fzC rfl fvS (fzC rfl fvI fzN))⟩
 · refine sq (sO (mV rfl (mV rfl (mV rfl (mF rfl (mn (cF rfl ?_)))))))
   refine ExM.exit ?_
   refine sO (mV rfl (mn ?_))
   exact ExM.ret ⟨_, ⟨_, rfl⟩, A5 trivial rfl rfl rfl⟩
theorem Vm (hg : Gr Tryz.prog W0 G) {s : Bz} (hs : s.length ≤ 100000) : Aq Tryz.prog W0 92 [.str s] (fun v => ∃ b, v = .bool b) := by
 refine Aq.of_fnM KG92 (by simp) rfl ?_
 refine sO (mV rfl (mn (sO (mV rfl (mV rfl ?_)))))
 refine mB hg gN rfl rfl trivial (fun h1 => ?_) (fun h1 => ?_)
 · refine mV rfl (mV rfl ?_)
   refine Bm hg (gS rfl) rfl rfl rfl (isTextE hg hs) ?_ ?_
   · rintro _ ⟨b, rfl⟩; rfl
   rintro _ ⟨b, rfl⟩
   refine mV rfl (mV rfl (mn ?_))
   exact ExM.ret ⟨_, ⟨_, rfl⟩, A5 trivial rfl rfl rfl⟩
 · refine mV rfl (mG (mG (mV rfl (mV rfl (mn ?_)))))
   exact ExM.ret ⟨_, ⟨_, rfl⟩, A5 trivial rfl rfl rfl⟩
theorem textOfE (hg : Gr Tryz.prog W0 G) {s : Bz} (hs : s.length ≤ 150000000000000) : Aq Tryz.prog W0 56 [.str s] (fun v => ∃ t, v = .str t ∧ t.length ≤ 40) := by
 refine Aq.of_fnM KG56 (by simp) rfl ?_
 refine sO (mV rfl (mn (sO (mV rfl (mn (sq (sO (mV rfl (mn (bM ?_))))))))))
 refine ExM.loop (σ := Nat × Bz) (fun σ => ⟨.al [(0, .str s), (3, .str σ.2), (4, .int .i64 (σ.1 : Nat))], [], 47⟩) (fun σ => σ.1 ≤ s.length ∧ σ.2.length ≤ 40) (fun σ => s.length - σ.1) (0, []) (Ap 0 rfl (Nat.le_refl _) rfl rfl (fzC rfl fvS (fzC rfl fvS (fzC rfl fvI fzN)))) ⟨Nat.zero_le _, by simp⟩ ?_
 rintro ⟨i, t⟩ ⟨hi, ht⟩
 simp only at hi ht ⊢
 by_cases hin : i < s.length
 · by_cases ht37 : t.length < 37
   · refine sq (sO (mV rfl (mV rfl (mV rfl (mT rfl (mV rfl (mV rfl (mV rfl (mT rfl (mV rfl (mn (cT rfl (kM (bM (sO (mV rfl (mV rfl (mS (v := .str (s.drop i)) rfl ?_))))))))))))))))))
     refine Bm hg gN rfl rfl rfl (signE hg (s := s.drop i) (by rw [List.length_drop]; omega)) ?_ ?_
     · rintro _ ⟨n, rfl, hn, hn4⟩; rfl
     rintro _ ⟨n, rfl, hn, hn4⟩
     rw [List.length_drop] at hn
     refine mV rfl (mn (sq (sO (mV rfl ?_))))
     refine mB hg gN rfl rfl trivial (fun h1 => ?_) (fun h1 => ?_)
     · refine mV rfl (mG (mG (mG (mG (mV rfl (mV rfl (mG (mG (mG (mG (mV rfl (mn (cT rfl (sO (mV rfl (mI ((i + 1 : Nat)) rfl (mV rfl (mn ?_))))))))))))))))))
       refine ExM.exit ?_
       first | exact ⟨(i + 1, t), ⟨by simp only; omega, by simp only; omega⟩, by simp only; omega, Ap 0 rfl (Nat.le_refl _) rfl rfl (fzC rfl fvS (fzC rfl fvS (fzC rfl fvI fzN)))⟩ | exact ⟨(i + n, t ++ (s.take (i + n)).drop i), ⟨by simp only; omega, by simp only [lAp, List.length_drop, List.length_take]; omega⟩, by simp only; omega, Ap 0 rfl (Nat.le_refl _) rfl rfl (fzC rfl fvS (fzC rfl fvS (fzC rfl fvI fzN)))⟩
     · have hn0 : n ≠ 0 := by rw [bFn] at h1; omega
       refine mV rfl (mV rfl (mV rfl (mS (v := .int .u8 ((s.getD i 0).toNat : Nat)) (Ed rfl rfl) ?_)))
       refine mB hg (gS rfl) rfl rfl trivial (fun h2 => ?_) (fun h2 => ?_)
       · refine mV rfl (mV rfl (mG (mG (mG (mG (mV rfl (mn (cT rfl (sO (mV rfl (mI ((i + 1 : Nat)) rfl (mV rfl (mn ?_)))))))))))))
         refine ExM.exit ?_
         first | exact ⟨(i + 1, t), ⟨by simp only; omega, by simp only; omega⟩, by simp only; omega, Ap 0 rfl (Nat.le_refl _) rfl rfl (fzC rfl fvS (fzC rfl fvS (fzC rfl fvI fzN)))⟩ | exact ⟨(i + n, t ++ (s.take (i + n)).drop i), ⟨by simp only; omega, by simp only [lAp, List.length_drop, List.length_take]; omega⟩, by simp only; omega, Ap 0 rfl (Nat.le_refl _) rfl rfl (fzC rfl fvS (fzC rfl fvS (fzC rfl fvI fzN)))⟩
       · refine mV rfl (mV rfl (mV rfl (mV rfl (mS (v := .int .u8 ((s.getD i 0).toNat : Nat)) (Ed rfl rfl) ?_))))
         refine mB hg (gS rfl) rfl rfl trivial (fun h3 => ?_) (fun h3 => ?_)
         · refine mV rfl (mn (cT rfl (sO (mV rfl (mI ((i + 1 : Nat)) rfl (mV rfl (mn ?_)))))))
           refine ExM.exit ?_
           first | exact ⟨(i + 1, t), ⟨by simp only; omega, by simp only; omega⟩, by simp only; omega, Ap 0 rfl (Nat.le_refl _) rfl rfl (fzC rfl fvS (fzC rfl fvS (fzC rfl fvI fzN)))⟩ | exact ⟨(i + n, t ++ (s.take (i + n)).drop i), ⟨by simp only; omega, by simp only [lAp, List.length_drop, List.length_take]; omega⟩, by simp only; omega, Ap 0 rfl (Nat.le_refl _) rfl rfl (fzC rfl fvS (fzC rfl fvS (fzC rfl fvI fzN)))⟩
         · refine mV rfl (mn (cF rfl (kM (sO (mV rfl (mV rfl (mV rfl (mV rfl (mV rfl (mI ((i + n : Nat)) rfl (mS (v := .str ((s.take (i + n)).drop i)) rfl (Ba hg gN rfl rfl (by simp only [Ae, and_true, List.length_drop, List.length_take]; omega) (mV rfl (mn (oM (mV rfl (mV rfl (mI ((i + n : Nat)) rfl (mV rfl (mn ?_))))))))))))))))))))
           first | exact ⟨(i + 1, t), ⟨by simp only; omega, by simp only; omega⟩, by simp only; omega, Ap 0 rfl (Nat.le_refl _) rfl rfl (fzC rfl fvS (fzC rfl fvS (fzC rfl fvI fzN)))⟩ | exact ⟨(i + n, t ++ (s.take (i + n)).drop i), ⟨by simp only; omega, by simp only [lAp, List.length_drop, List.length_take]; omega⟩, by simp only; omega, Ap 0 rfl (Nat.le_refl _) rfl rfl (fzC rfl fvS (fzC rfl fvS (fzC rfl fvI fzN)))⟩
   · refine sq (sO (mV rfl (mV rfl (mV rfl (mT rfl (mV rfl (mV rfl (mV rfl (mF rfl (mV rfl (mn (cF rfl ?_))))))))))))
     refine ExM.exit ?_
     refine sO (mV rfl (mV rfl (mn ?_)))
     exact ExM.ret ⟨_, ⟨t, rfl, ht⟩, A5 trivial rfl rfl rfl⟩
 · refine sq (sO (mV rfl (mV rfl (mV rfl (mF rfl (mV rfl (mG (mG (mG (mV rfl (mn (cF rfl ?_))))))))))))
   refine ExM.exit ?_
   refine sO (mV rfl (mV rfl (mn ?_)))
   exact ExM.ret ⟨_, ⟨t, rfl, ht⟩, A5 trivial rfl rfl rfl⟩
def u8s (l : List Nat) : List AVal := l.map fun (d : Nat) => .int .u8 d
theorem Re (l : List Nat) : (u8s l).length = l.length := by simp [u8s]
theorem A4g {l : List Nat} {i : Nat} (h : i < l.length) : (u8s l).drop i = .int .u8 (l.getD i 0 : Nat) :: (u8s l).drop (i + 1) := by
 rw [u8s, ← List.map_drop, ← List.map_drop, Qb h]; rfl
theorem Yl {s : St} {x i : AOpd} {id T m : Nat} {c : Option Nat} {cs : List AVal} {n : Nat} (hx : ev G s x = some (.hsl 1 id 0 m c)) (hi : ev G s i = some (.int .i64 (n : Nat))) (ho : s.H[id]? = some (.cells T cs false)) : aop G s (.idxSl 1 x i) = some (.val (.ptr id n) s.H [(0, (n : Nat)), ((n : Nat) + 1, (m : Nat))]) := by
 have hl : Nb s.H id = true := by simp only [Nb, ho]
 simp only [aop, hx, hi, Int.toNat_natCast, hl, Nat.beq_refl, Bool.and_self, cond_true, Nat.mul_one, Nat.zero_add]
theorem Su {s : St} {a : AOpd} {id T : Nat} {l : List Nat} {n : Nat} (ha : ev G s a = some (.ptr id n)) (ho : s.H[id]? = some (.cells T (u8s l) false)) (hn : n < l.length) : aop G s (.load 1 false a) = some (.val (.int .u8 (l.getD n 0 : Nat)) s.H []) := by
 simp only [aop, ha, Qi, ho, G0, A4g hn]
 rfl
theorem u8s_set {l : List Nat} {n x : Nat} (h : n < l.length) : spl (u8s l) n [.int .u8 (x : Nat)] = u8s (l.set n x) := by
 rw [spl, u8s, ← List.map_take, List.length_singleton, ← List.map_drop, u8s, List.set_eq_take_append_cons_drop, if_pos h, List.map_append, List.map_cons]
 rfl
theorem storeB {s : St} {a x : AOpd} {id T : Nat} {l : List Nat} {n v : Nat} {H' : Hz} (ha : ev G s a = some (.ptr id n)) (hx : ev G s x = some (.int .u8 (v : Nat))) (ho : s.H[id]? = some (.cells T (u8s l) false)) (hn : n < l.length) (hH : s.H.set id (.cells T (u8s (l.set n v)) false) = H') : aop G s (.store 1 a x) = some (.skip H') := by
 subst hH
 have h1 : Nat.ble (n + 1) (u8s l).length = true := by rw [Re]; exact Nat.ble_eq_true_of_le hn
 have h2 : (Nat.beq [AVal.int .u8 (v : Nat)].length 1 && Nat.ble (n + 1) (u8s l).length && [AVal.int .u8 (v : Nat)].all AVal.one) = true := by rw [h1]; rfl
 simp only [aop, ha, hx, Ub, ho]
 show (match (cond (Nat.beq [AVal.int .u8 (v : Nat)].length 1 && Nat.ble (n + 1) (u8s l).length && [AVal.int .u8 (v : Nat)].all AVal.one) (some (s.H.set id (.cells T (spl (u8s l) n [.int .u8 (v : Nat)]) false))) none) with | some H' => some (ARes.skip H') | none => none) = _
 rw [h2, u8s_set hn]
 rfl
theorem bytesU (l : List Nat) : Eh (u8s l) = some (l.map UInt8.ofNat) := by
 induction l with
 | nil => rfl
 | cons d l ih =>
   show (match Eh (u8s l) with | some l' => some (UInt8.ofNat (((d : Nat) : Int)).toNat :: l') | none => none) = _
   rw [ih]; rfl
theorem b2sB {s : St} {x : AOpd} {id T m : Nat} {c : Option Nat} {l : List Nat} (hx : ev G s x = some (.hsl 1 id 0 m c)) (ho : s.H[id]? = some (.cells T (u8s l) false)) (hm : m = l.length) : aop G s (.conv .b2s x) = some (.val (.str (l.map UInt8.ofNat)) s.H []) := by
 subst hm
 have h1 : ((u8s l).drop 0).take (l.length * 1) = u8s l := by rw [List.drop_zero, Nat.mul_one, List.take_of_length_le (by rw [Re]; exact Nat.le_refl _)]
 simp only [aop, hx, L2, ab2s, F5, Nat.beq_refl, cond_true, ho, h1, bytesU]
 rfl
theorem s2bB (s : Bz) : (s.map fun b => AVal.int .u8 (b.toNat : Nat)) = u8s (s.map UInt8.toNat) := by rw [u8s, List.map_map]; rfl
theorem Ux {k T : Nat} (l : List Nat) : Fg k [.cells T (u8s l) false] = true := by
 have : C0 k (u8s l) = true := by
  induction l with
  | nil => rfl
  | cons d l ih => exact ih
 show cond (C0 k (u8s l)) true false = true
 rw [this]; rfl
theorem foldE (hg : Gr Tryz.prog W0 G) {s : Bz} (hs : s.length ≤ 100000) : Aq Tryz.prog W0 89 [.str s] (fun v => ∃ t, v = .str t) := by
 refine Aq.of_fnM KG89 (by simp) rfl ?_
 refine sO (mV rfl (mn (sO (mV rfl (mV (v := .hsl 1 0 0 s.length none) rfl (mV rfl (mn (sq (sO (mV rfl (mn (bM ?_))))))))))))
 refine ExM.loop (σ := Nat × List Nat) (fun σ => ⟨.al [(3, .hsl 1 0 0 s.length none), (4, .int .i64 (σ.1 : Nat))], [.cells 5 (u8s σ.2) false], 35⟩) (fun σ => σ.1 ≤ s.length ∧ σ.2.length = s.length) (fun σ => s.length - σ.1) (0, s.map UInt8.toNat) (Ap 1 rfl (Nat.zero_le _) (by rw [← s2bB]; rfl) (Ux _) (fzC rfl (fvH rfl) (fzC rfl fvI fzN))) ⟨Nat.zero_le _, by simp⟩ ?_
 rintro ⟨i, l⟩ ⟨hi, hl⟩
 simp only at hi hl ⊢
 by_cases hin : i < s.length
 · by_cases h65 : 65 ≤ l.getD i 0
   · by_cases h90 : l.getD i 0 ≤ 90
     · refine sq (sO (mV rfl (mV rfl (mV rfl (mT rfl (mn (cT rfl (kM (sq (bM (sO (mV rfl (mV rfl (mS (v := .ptr 0 i) (Yl rfl rfl rfl) (mV (v := .int .u8 (l.getD i 0 : Nat)) (Su rfl rfl (by omega)) (mT rfl (mV rfl (mV rfl (mV rfl (mS (v := .ptr 0 i) (Yl rfl rfl rfl) (mV (v := .int .u8 (l.getD i 0 : Nat)) (Su rfl rfl (by omega)) (mT rfl (mV rfl (mn (cT rfl (oM (mV rfl (mV rfl (mV rfl (mV rfl (mS (v := .ptr 0 i) (Yl rfl rfl rfl) (mV (v := .int .u8 (l.getD i 0 : Nat)) (Su rfl rfl (by omega)) (mKs (v := .int .u8 ((l.getD i 0 + 32 : Nat))) rfl (w8E (by omega) (by omega) (by omega)) (mS (v := .ptr 0 i) (Yl rfl rfl rfl) (Ai hg gN (storeB rfl rfl rfl (by omega) rfl) (mn (oM (mV rfl (mI ((i + 1 : Nat)) rfl (mV rfl (mn ?_)))))))))))))))))))))))))))))))))))))))))
       exact ⟨(i + 1, l.set i (l.getD i 0 + 32)), ⟨by simp only; omega, by simp only [List.length_set]; exact hl⟩, by simp only; omega, Ap 1 rfl (Nat.zero_le _) rfl (Ux _) (fzC rfl (fvH rfl) (fzC rfl fvI fzN))⟩
     · refine sq (sO (mV rfl (mV rfl (mV rfl (mT rfl (mn (cT rfl (kM (sq (bM (sO (mV rfl (mV rfl (mS (v := .ptr 0 i) (Yl rfl rfl rfl) (mV (v := .int .u8 (l.getD i 0 : Nat)) (Su rfl rfl (by omega)) (mT rfl (mV rfl (mV rfl (mV rfl (mS (v := .ptr 0 i) (Yl rfl rfl rfl) (mV (v := .int .u8 (l.getD i 0 : Nat)) (Su rfl rfl (by omega)) (mF rfl (mV rfl (mn (cF rfl (kM (oM (mV rfl (mI ((i + 1 : Nat)) rfl (mV rfl (mn ?_)))))))))))))))))))))))))))))))
       exact ⟨(i + 1, l), ⟨by simp only; omega, hl⟩, by simp only; omega, Ap 1 rfl (Nat.zero_le _) rfl (Ux _) (fzC rfl (fvH rfl) (fzC rfl fvI fzN))⟩
   · refine sq (sO (mV rfl (mV rfl (mV rfl (mT rfl (mn (cT rfl (kM (sq (bM (sO (mV rfl (mV rfl (mS (v := .ptr 0 i) (Yl rfl rfl rfl) (mV (v := .int .u8 (l.getD i 0 : Nat)) (Su rfl rfl (by omega)) (mF rfl (mV rfl (mG (mG (mG (mG (mG (mV rfl (mn (cF rfl (kM (oM (mV rfl (mI ((i + 1 : Nat)) rfl (mV rfl (mn ?_)))))))))))))))))))))))))))))))
     exact ⟨(i + 1, l), ⟨by simp only; omega, hl⟩, by simp only; omega, Ap 1 rfl (Nat.zero_le _) rfl (Ux _) (fzC rfl (fvH rfl) (fzC rfl fvI fzN))⟩
 · refine sq (sO (mV rfl (mV rfl (mV rfl (mF rfl (mn (cF rfl ?_)))))))
   refine ExM.exit ?_
   refine sO (mV rfl (mV (v := .str (l.map UInt8.ofNat)) (b2sB rfl rfl hl.symm) (mV rfl (mn ?_))))
   exact ExM.ret ⟨_, ⟨_, rfl⟩, A4 trivial rfl rfl 100 rfl rfl⟩
end Go.Abs
namespace Go.Abs
open Go.Proofs Go.RowKit
set_option maxRecDepth 100000
variable {W0 : World} {G : List (Nat × AVal)}
set_option maxRecDepth 10000000
theorem bareK1 (hk : Kn W0) {a1 a2 : Int}  : cP W0 87 [N221 a1 a2, jI 1] [] (.bool true) [] :=
 Aa hk E6 (ss0 17 [] 0 [] [] []) (by kernel_rfl) gdN
theorem bareK2 (hk : Kn W0) {s1 : Bz}  : cP W0 87 [U4 s1, jI 2] [] (.bool true) [] :=
 Aa hk E6 (ss0 17 [] 0 [] [] []) (by kernel_rfl) gdN
theorem sameK0 (hk : Kn W0) {s1 s2 : Bz} {a1 a2 a3 : Int} {bR : Bool}  : cP W0 50 [.agg [zI, jI a1, jI a2, .str s2, .bool bR, jI a3, zI, zI, .nilSl, zI, .nilSl, .nilSl], U4 s1] [] zB [] :=
 Aa hk E6 (ss0 1 [] 0 [] [] []) (by kernel_rfl) gdN
theorem sameK1 (hk : Kn W0) {s1 s2 : Bz} {a1 a2 a3 : Int} {bR : Bool}  : cP W0 50 [.agg [jI 1, jI a1, jI a2, .str s2, .bool bR, jI a3, zI, zI, .nilSl, zI, .nilSl, .nilSl], U4 s1] [] zB [] :=
 Aa hk E6 (ss0 1 [] 0 [] [] []) (by kernel_rfl) gdN
theorem sameK3 (hk : Kn W0) {s1 s2 : Bz} {a1 a2 a3 : Int} {bR : Bool}  : cP W0 50 [.agg [jI 3, jI a1, jI a2, .str s2, .bool bR, jI a3, zI, zI, .nilSl, zI, .nilSl, .nilSl], U4 s1] [] zB [] :=
 Aa hk E6 (ss0 1 [] 0 [] [] []) (by kernel_rfl) gdN
theorem sameK4 (hk : Kn W0) {s1 s2 : Bz} {a1 a2 a3 : Int} {bR : Bool}  : cP W0 50 [.agg [jI 4, jI a1, jI a2, .str s2, .bool bR, jI a3, zI, zI, .nilSl, zI, .nilSl, .nilSl], U4 s1] [] zB [] :=
 Aa hk E6 (ss0 1 [] 0 [] [] []) (by kernel_rfl) gdN
theorem sameK2 (hk : Kn W0) {s1 : Bz}  : cP W0 50 [U4 s1, U4 s1] [] (.bool true) [] :=
 Aa hk E6 (ss0 2 [(false, 11)] 0 [] [] []) (by kernel_rfl) (gdE (B5 .neq (.str s1) (.str s1)) false gdN)
theorem sameK5 (hk : Kn W0) {s1 s2 : Bz}  (hs : ¬ s2 = s1) : cP W0 50 [U4 s2, U4 s1] [] zB [] :=
 Aa hk E6 (ss0 2 [(true, 0)] 0 [] [] []) (by kernel_rfl) (gdC (o := .eq (B5 .neq (.str s2) (.str s1)) true) (obE (by simp [B5, Un, Vv]; exact hs)) gdN)
def A1n (f : Nat) : Bool := cond (Nat.beq f 16) true (Nat.beq f 43)
theorem litI1 (hk : Kn W0) {s1 s2 s3 s4 : Bz} {a1 a2 : Int} (h1 : oC W0 43 [.str s1, .str [61]] (.tup [.str s1, zB])) (h2 : oC W0 16 [.agg [jI 1, .str s3, jI a1, jI a2, .str s4]] (.bool true)) : cP W0 10 [.str s1, .str s2, .agg [jI 1, .str s3, jI a1, jI a2, .str s4]] [] (.tup [.str s1, zI]) [] :=
 Aa hk A1n (ss0 4 [] 0 [] [(.bool true, none), (.tup [.str s1, zB], none)] []) (by kernel_rfl) (gdC h1 (gdC h2 gdN))
theorem litI2 (hk : Kn W0) {s1 s2 s3 s4 : Bz} {a1 a2 : Int} (h1 : oC W0 43 [.str s1, .str [61]] (.tup [.str s1, zB])) (h2 : oC W0 16 [.agg [jI 2, .str s3, jI a1, jI a2, .str s4]] (.bool true)) : cP W0 10 [.str s1, .str s2, .agg [jI 2, .str s3, jI a1, jI a2, .str s4]] [] (.tup [.str s1, zI]) [] :=
 Aa hk A1n (ss0 6 [] 0 [] [(.bool true, none), (.tup [.str s1, zB], none)] []) (by kernel_rfl) (gdC h1 (gdC h2 gdN))
theorem litI3 (hk : Kn W0) {s1 s2 s3 s4 : Bz} {a1 a2 : Int} (h1 : oC W0 43 [.str s1, .str [61]] (.tup [.str s1, zB])) (h2 : oC W0 16 [.agg [jI 3, .str s3, jI a1, jI a2, .str s4]] (.bool true)) : cP W0 10 [.str s1, .str s2, .agg [jI 3, .str s3, jI a1, jI a2, .str s4]] [] (.tup [.str s1, zI]) [] :=
 Aa hk A1n (ss0 5 [] 0 [] [(.bool true, none), (.tup [.str s1, zB], none)] []) (by kernel_rfl) (gdC h1 (gdC h2 gdN))
theorem litI4 (hk : Kn W0) {s1 s2 s3 s4 : Bz} {a1 a2 : Int} (h1 : oC W0 43 [.str s1, .str [61]] (.tup [.str s1, zB])) (h2 : oC W0 16 [.agg [jI 4, .str s3, jI a1, jI a2, .str s4]] (.bool true)) : cP W0 10 [.str s1, .str s2, .agg [jI 4, .str s3, jI a1, jI a2, .str s4]] [] (.tup [.str s1, zI]) [] :=
 Aa hk A1n (ss0 6 [] 0 [] [(.bool true, none), (.tup [.str s1, zB], none)] []) (by kernel_rfl) (gdC h1 (gdC h2 gdN))
theorem litI5 (hk : Kn W0) {s1 s2 s3 s4 : Bz} {a1 a2 : Int} (h1 : oC W0 43 [.str s1, .str [61]] (.tup [.str s1, zB])) (h2 : oC W0 16 [.agg [jI 5, .str s3, jI a1, jI a2, .str s4]] (.bool true)) : cP W0 10 [.str s1, .str s2, .agg [jI 5, .str s3, jI a1, jI a2, .str s4]] [] (.tup [.str s1, zI]) [] :=
 Aa hk A1n (ss0 6 [] 0 [] [(.bool true, none), (.tup [.str s1, zB], none)] []) (by kernel_rfl) (gdC h1 (gdC h2 gdN))
theorem litI6 (hk : Kn W0) {s1 s2 s3 s4 : Bz} {a1 a2 : Int} (h1 : oC W0 43 [.str s1, .str [61]] (.tup [.str s1, zB])) (h2 : oC W0 16 [.agg [jI 6, .str s3, jI a1, jI a2, .str s4]] (.bool true)) : cP W0 10 [.str s1, .str s2, .agg [jI 6, .str s3, jI a1, jI a2, .str s4]] [] (.tup [.str s1, zI]) [] :=
 Aa hk A1n (ss0 6 [] 0 [] [(.bool true, none), (.tup [.str s1, zB], none)] []) (by kernel_rfl) (gdC h1 (gdC h2 gdN))
theorem sameE (hk : Kn W0) {k m e er : Int} {t s : Bz} {b : Bool} (h : k = 0 ∨ k = 1 ∨ k = 3 ∨ k = 4 ∨ (k = 2 ∧ m = 0 ∧ e = 0 ∧ b = false ∧ er = 0)) : Aq Tryz.prog W0 50 [Db k m e t b er, Db 2 0 0 s false 0] (fun v => ∃ c, v = .bool c) := by
 rcases h with rfl | rfl | rfl | rfl | ⟨rfl, rfl, rfl, rfl, rfl⟩
 · exact (Aq.of (sameK0 hk)).mono fun v hv => ⟨_, hv⟩
 · exact (Aq.of (sameK1 hk)).mono fun v hv => ⟨_, hv⟩
 · exact (Aq.of (sameK3 hk)).mono fun v hv => ⟨_, hv⟩
 · exact (Aq.of (sameK4 hk)).mono fun v hv => ⟨_, hv⟩
 · by_cases hs : t = s
   · subst hs; exact (Aq.of (sameK2 hk)).mono fun v hv => ⟨_, hv⟩
   · exact (Aq.of (sameK5 hk hs)).mono fun v hv => ⟨_, hv⟩
def KF49 : AFn := ⟨(sQ [wV 2 (.alloc 80 [.int .i64 0, .int .i64 0, .int .i64 0, .str [], .bool false, .int .i64 0, .int .i64 0, .int .i64 0, .nilSl, .int .i64 0, .nilSl, .nilSl]), wV 3 (.move (vI 0))] (.seq (sQ [wM 9 0, wV 10 (.len true 9), wV 11 (.bin .eql none 10 (vI 0))] (.cond 11 (sQ [wV 12 (.build [.int .i64 0, .int .i64 0, .int .i64 0, .str [], .bool false, .int .i64 0, .int .i64 0, .int .i64 0, .nilSl, .int .i64 0, .nilSl, .nilSl] []), wN (.store 12 2 12), wV 3 (.move (vI 0))] .ret) .skip)) (.seq (sQ [wM 13 0, wV 14 (.idxStr 13 (vI 0)), wV 15 (.bin .eql none 14 (.val (.int .u8 61)))] (.cond 15 (sQ [wV 16 (.build [.int .i64 0, .int .i64 0, .int .i64 0, .str [], .bool false, .int .i64 0, .int .i64 0, .int .i64 0, .nilSl, .int .i64 0, .nilSl, .nilSl] []), wN (.store 12 2 16), wV 3 (.move (vI 30))] .ret) .skip)) (sQ [wM 18 0, wV 19 (kF 88 [18]), wM 17 19, wV 20 (.extract 17 0), wV 21 (.extract 17 1), wV 4 (.alloc 24 [.int .i64 0, .int .i64 0]), wN (.store 2 4 20), wM 5 21] (.seq (sQ [wM 22 5, wV 23 (.bin .eql none 22 (vI 0))] (.cond 23 (sQ [wV 24 (.load 2 true 4), wV 25 (.build [.int .i64 0, .int .i64 0, .int .i64 0, .str [], .bool false, .int .i64 0, .int .i64 0, .int .i64 0, .nilSl, .int .i64 0, .nilSl, .nilSl] [(0, 1, (vI 1)), (1, 2, 24)]), wN (.store 12 2 25), wV 3 (.move (vI 0))] .ret) .skip)) (sQ [wM 26 0, wV 27 (kF 89 [26]), wM 6 27] (.seq (sQ [wM 28 6, wV 29 (.bin .eql none 28 (.val (.str [116, 114, 117, 101]))), wM 30 29, wF 31 30 (.move 6), wF 32 30 (.bin .eql none 31 (.val (.str [102, 97, 108, 115, 101]))), wV 33 (.pick 30 (.val (.bool true)) 32)] (.cond 33 (sQ [wM 34 6, wV 35 (.bin .eql none 34 (.val (.str [116, 114, 117, 101]))), wV 36 (.build [.int .i64 0, .int .i64 0, .int .i64 0, .str [], .bool false, .int .i64 0, .int .i64 0, .int .i64 0, .nilSl, .int .i64 0, .nilSl, .nilSl] [(0, 1, (vI 3)), (4, 1, 35)]), wN (.store 12 2 36), wV 3 (.move (vI 0))] .ret) .skip)) (.seq (sQ [wV 7 (.move (vI 1))] (.block 0 (.loop (.seq (sQ [wM 37 7, wV 38 (.bin .leq none 37 (vI 9))] (.cond 38 .skip (.exit 0))) (.seq (.block 1 (sQ [wM 41 6, wM 42 7, wV 43 (kF 90 [42]), wV 44 (kF 89 [43]), wV 45 (.bin .eql none 41 44)] (.cond 45 (sQ [wM 46 7, wV 47 (kF 91 [46]), wN (.store 12 2 47), wV 3 (.move (vI 0))] .ret) .skip))) (.ops [wM 39 7, wV 40 (.bin .add none 39 (vI 1)), wM 7 40])))))) (sQ [wM 48 0, wM 8 48] (.seq (sQ [wM 49 0, wV 50 (.idxStr 49 (vI 0)), wV 51 (.bin .eql none 50 (.val (.int .u8 39)))] (.cond 51 (.ops [wM 52 0, wV 53 (.cutStr 52 (some (vI 1)) none), wM 8 53]) .skip)) (.seq (sQ [wM 54 8, wV 55 (kF 92 [54]), wV 56 (.un .not 55)] (.cond 56 (sQ [wV 57 (.build [.int .i64 0, .int .i64 0, .int .i64 0, .str [], .bool false, .int .i64 0, .int .i64 0, .int .i64 0, .nilSl, .int .i64 0, .nilSl, .nilSl] []), wN (.store 12 2 57), wV 3 (.move (vI 30))] .ret) .skip)) (sQ [wM 58 8, wV 59 (.build [.int .i64 0, .int .i64 0, .int .i64 0, .str [], .bool false, .int .i64 0, .int .i64 0, .int .i64 0, .nilSl, .int .i64 0, .nilSl, .nilSl] [(0, 1, (vI 2)), (3, 1, 58)]), wN (.store 12 2 59), wV 3 (.move (vI 0))] .ret)))))))))))), [.cell 2 12 true, 3], 60⟩
theorem KG49 : Au Tryz.prog 49 = some KF49 := by kernel_rfl
def KF86 : AFn := ⟨(sQ [wV 1 (.box 80 0), wV 2 (.move (.val (.bool false)))] (.seq (sQ [wV 3 (.load 12 true 1), wV 4 (.fieldAddr 0 1), wV 5 (.load 1 false 4), wV 6 (kF 87 [3, 5]), wV 7 (.un .not 6)] (.cond 7 (sQ [wV 2 (.move (.val (.bool false)))] .ret) .skip)) (.seq (sQ [wV 8 (.fieldAddr 0 1), wV 9 (.load 1 false 8)] (.block 0 (.seq (sQ [wV 11 (.bin .eql none 9 (vI 0)), wM 10 11] (.cond 10 .skip (.ops [wV 12 (.bin .eql none 9 (vI 3)), wM 10 12]))) (.cond 10 (sQ [wV 2 (.move (.val (.bool true)))] .ret) (sQ [wV 14 (.bin .eql none 9 (vI 1)), wM 13 14] (.cond 13 (sQ [wV 15 (.fieldAddr 1 1), wV 16 (.load 2 true 15), wV 17 (kF 100 [16]), wM 2 17] .ret) (sQ [wV 19 (.bin .eql none 9 (vI 2)), wM 18 19] (.cond 18 (sQ [wV 20 (.fieldAddr 3 1), wV 21 (.load 1 false 20), wV 22 (kF 92 [21]), wM 2 22] .ret) (sQ [wV 24 (.bin .eql none 9 (vI 4)), wM 23 24] (.cond 23 (sQ [wV 25 (.fieldAddr 5 1), wV 26 (.load 1 false 25), wV 27 (.bin .geq none 26 (vI 1)), wM 28 27, wT 29 28 (.fieldAddr 5 1), wT 30 28 (.load 1 false 29), wT 31 28 (.bin .leq none 30 (vI 9)), wV 32 (.pick 28 31 (.val (.bool false))), wM 2 32] .ret) .skip)))))))))) (sQ [wV 2 (.move (.val (.bool false)))] .ret)))), [2], 33⟩
theorem KG86 : Au Tryz.prog 86 = some KF86 := by kernel_rfl
def KF48 : AFn := ⟨(sQ [wV 1 (.box 80 0), wV 2 (.move (.val (.bool false)))] (.seq (sQ [wV 6 (.fieldAddr 0 1), wV 7 (.load 1 false 6), wV 8 (.bin .lss none 7 (vI 5))] (.cond 8 (sQ [wV 9 (.load 12 true 1), wV 10 (kF 86 [9]), wM 2 10] .ret) .skip)) (.seq (sQ [wV 11 (.load 12 true 1), wV 12 (.fieldAddr 0 1), wV 13 (.load 1 false 12), wV 14 (kF 87 [11, 13]), wV 15 (.un .not 14)] (.cond 15 (sQ [wV 2 (.move (.val (.bool false)))] .ret) .skip)) (.seq (sQ [wV 16 (.fieldAddr 0 1), wV 17 (.load 1 false 16), wV 18 (.bin .eql none 17 (vI 5))] (.cond 18 (.seq (sQ [wV 19 (.fieldAddr 6 1), wV 20 (.load 1 false 19), wV 21 (.bin .lss none 20 (vI 1)), wM 22 21, wF 23 22 (.fieldAddr 7 1), wF 24 22 (.load 1 false 23), wF 25 22 (.bin .lss none 24 (vI 1)), wV 26 (.pick 22 (.val (.bool true)) 25), wM 27 26, wF 28 27 (.fieldAddr 6 1), wF 29 27 (.load 1 false 28), wF 30 27 (.bin .gtr none 29 (vI 400)), wV 31 (.pick 27 (.val (.bool true)) 30), wM 32 31, wF 33 32 (.fieldAddr 7 1), wF 34 32 (.load 1 false 33), wF 35 32 (.bin .gtr none 34 (vI 400)), wV 36 (.pick 32 (.val (.bool true)) 35), wM 37 36, wF 38 37 (.fieldAddr 6 1), wF 39 37 (.load 1 false 38), wF 40 37 (.fieldAddr 7 1), wF 41 37 (.load 1 false 40), wF 42 37 (.bin .mul none 39 41), wF 43 37 (.bin .gtr none 42 (vI 400)), wV 44 (.pick 37 (.val (.bool true)) 43), wM 45 44, wF 46 45 (.fieldAddr 8 1), wF 47 45 (.load 1 false 46), wF 48 45 (.len false 47), wF 49 45 (.fieldAddr 6 1), wF 50 45 (.load 1 false 49), wF 51 45 (.fieldAddr 7 1), wF 52 45 (.load 1 false 51), wF 53 45 (.bin .mul none 50 52), wF 54 45 (.bin .neq none 48 53), wV 55 (.pick 45 (.val (.bool true)) 54)] (.cond 55 (sQ [wV 2 (.move (.val (.bool false)))] .ret) .skip)) (.seq (sQ [wV 3 (.move (vI 0))] (.block 0 (.loop (.seq (sQ [wM 56 3, wV 57 (.fieldAddr 8 1), wV 58 (.load 1 false 57), wV 59 (.len false 58), wV 60 (.bin .lss none 56 59)] (.cond 60 .skip (.exit 0))) (.seq (.block 1 (sQ [wV 63 (.fieldAddr 8 1), wV 64 (.load 1 false 63), wM 65 3, wV 66 (.idxSl 12 64 65), wV 67 (.load 12 true 66), wV 68 (kF 86 [67]), wV 69 (.un .not 68)] (.cond 69 (sQ [wV 2 (.move (.val (.bool false)))] .ret) .skip))) (.ops [wM 61 3, wV 62 (.bin .add none 61 (vI 1)), wM 3 62])))))) (sQ [wV 2 (.move (.val (.bool true)))] .ret))) .skip)) (sQ [wV 70 (.fieldAddr 10 1), wV 71 (.fieldAddr 0 70), wV 72 (.load 1 false 71), wV 73 (.len false 72), wM 4 73] (.seq (sQ [wV 74 (.fieldAddr 0 1), wV 75 (.load 1 false 74), wV 76 (.bin .neq none 75 (vI 6)), wM 77 76, wF 78 77 (.move 4), wF 79 77 (.bin .lss none 78 (vI 1)), wV 80 (.pick 77 (.val (.bool true)) 79), wM 81 80, wF 82 81 (.move 4), wF 83 81 (.bin .gtr none 82 (vI 20)), wV 84 (.pick 81 (.val (.bool true)) 83), wM 85 84, wF 86 85 (.fieldAddr 10 1), wF 87 85 (.fieldAddr 1 86), wF 88 85 (.load 1 false 87), wF 89 85 (.len false 88), wF 90 85 (.move 4), wF 91 85 (.bin .neq none 89 90), wV 92 (.pick 85 (.val (.bool true)) 91), wM 93 92, wF 94 93 (.fieldAddr 9 1), wF 95 93 (.load 1 false 94), wF 96 93 (.bin .lss none 95 (vI 0)), wV 97 (.pick 93 (.val (.bool true)) 96), wM 98 97, wF 99 98 (.fieldAddr 9 1), wF 100 98 (.load 1 false 99), wF 101 98 (.move 4), wF 102 98 (.bin .geq none 100 101), wV 103 (.pick 98 (.val (.bool true)) 102), wM 104 103, wF 105 104 (.fieldAddr 8 1), wF 106 104 (.load 1 false 105), wF 107 104 (.len false 106), wF 108 104 (.bin .gtr none 107 (vI 40)), wV 109 (.pick 104 (.val (.bool true)) 108)] (.cond 109 (sQ [wV 2 (.move (.val (.bool false)))] .ret) .skip)) (.seq (sQ [wV 5 (.move (vI 0))] (.block 2 (.loop (.seq (sQ [wM 110 5, wV 111 (.fieldAddr 8 1), wV 112 (.load 1 false 111), wV 113 (.len false 112), wV 114 (.bin .lss none 110 113)] (.cond 114 .skip (.exit 2))) (.seq (.block 3 (sQ [wV 117 (.fieldAddr 8 1), wV 118 (.load 1 false 117), wM 119 5, wV 120 (.idxSl 12 118 119), wV 121 (.load 12 true 120), wV 122 (kF 48 [121]), wV 123 (.un .not 122)] (.cond 123 (sQ [wV 2 (.move (.val (.bool false)))] .ret) .skip))) (.ops [wM 115 5, wV 116 (.bin .add none 115 (vI 1)), wM 5 116])))))) (sQ [wV 2 (.move (.val (.bool true)))] .ret)))))))), [2], 124⟩
theorem KG48 : Au Tryz.prog 48 = some KF48 := by kernel_rfl
def KF94 : AFn := ⟨(sQ [wV 1 (.box 80 0), wV 2 (.alloc 80 [.int .i64 0, .int .i64 0, .int .i64 0, .str [], .bool false, .int .i64 0, .int .i64 0, .int .i64 0, .nilSl, .int .i64 0, .nilSl, .nilSl])] (.seq (sQ [wV 5 (.fieldAddr 0 1), wV 6 (.load 1 false 5)] (.block 0 (sQ [wV 8 (.bin .eql none 6 (vI 0)), wM 7 8] (.cond 7 (sQ [wV 9 (.build [.int .i64 0, .int .i64 0, .int .i64 0, .str [], .bool false, .int .i64 0, .int .i64 0, .int .i64 0, .nilSl, .int .i64 0, .nilSl, .nilSl] [(0, 1, (vI 2))]), wN (.store 12 2 9)] .ret) (sQ [wV 11 (.bin .eql none 6 (vI 1)), wM 10 11] (.cond 10 (sQ [wV 13 (.fieldAddr 1 1), wV 14 (.load 2 true 13), wV 15 (kF 150 [14]), wM 12 15, wV 16 (.extract 12 0), wV 17 (.extract 12 1), wM 3 16, wM 4 17] (sQ [wM 18 3, wV 19 (.build [.int .i64 0, .int .i64 0, .int .i64 0, .str [], .bool false, .int .i64 0, .int .i64 0, .int .i64 0, .nilSl, .int .i64 0, .nilSl, .nilSl] [(0, 1, (vI 2)), (3, 1, 18)]), wN (.store 12 2 19)] .ret)) (sQ [wV 21 (.bin .eql none 6 (vI 3)), wM 20 21] (.cond 20 (.seq (sQ [wV 22 (.fieldAddr 4 1), wV 23 (.load 1 false 22)] (.cond 23 (sQ [wV 24 (.build [.int .i64 0, .int .i64 0, .int .i64 0, .str [], .bool false, .int .i64 0, .int .i64 0, .int .i64 0, .nilSl, .int .i64 0, .nilSl, .nilSl] [(0, 1, (vI 2)), (3, 1, (.val (.str [84, 82, 85, 69])))]), wN (.store 12 2 24)] .ret) .skip)) (sQ [wV 25 (.build [.int .i64 0, .int .i64 0, .int .i64 0, .str [], .bool false, .int .i64 0, .int .i64 0, .int .i64 0, .nilSl, .int .i64 0, .nilSl, .nilSl] [(0, 1, (vI 2)), (3, 1, (.val (.str [70, 65, 76, 83, 69])))]), wN (.store 12 2 25)] .ret)) .skip)))))))) (sQ [wV 26 (.load 12 true 1), wN (.store 12 2 26)] .ret))), [.cell 2 12 true], 27⟩
theorem KG94 : Au Tryz.prog 94 = some KF94 := by kernel_rfl
def KF51 : AFn := ⟨(sQ [wV 1 (.box 80 0), wV 2 (.move (.val (.str [])))] (.seq (sQ [wV 3 (.fieldAddr 0 1), wV 4 (.load 1 false 3), wV 5 (.bin .eql none 4 (vI 4))] (.cond 5 (sQ [wV 6 (.fieldAddr 5 1), wV 7 (.load 1 false 6), wV 8 (kF 90 [7]), wM 2 8] .ret) .skip)) (sQ [wV 9 (.load 12 true 1), wV 10 (kF 94 [9]), wV 11 (.field 1 false 3 10), wM 2 11] .ret))), [2], 12⟩
theorem KG51 : Au Tryz.prog 51 = some KF51 := by kernel_rfl
def KF19 : AFn := ⟨(sQ [wV 1 (.box 80 0), wV 2 (.move (.val (.str []))), wV 3 (.move (vI 0))] (.seq (sQ [wV 8 (.load 12 true 1), wV 9 (kF 48 [8]), wV 10 (.un .not 9)] (.cond 10 (sQ [wV 2 (.move (.val (.str []))), wV 3 (.move (vI 30))] .ret) .skip)) (.seq (sQ [wV 11 (.fieldAddr 0 1), wV 12 (.load 1 false 11), wV 13 (.bin .eql none 12 (vI 6))] (.cond 13 (sQ [wV 2 (.move (.val (.str [76, 65, 77, 66, 68, 65]))), wV 3 (.move (vI 0))] .ret) .skip)) (.seq (sQ [wV 14 (.fieldAddr 0 1), wV 15 (.load 1 false 14), wV 16 (.bin .eql none 15 (vI 2))] (.cond 16 (sQ [wV 18 (.fieldAddr 3 1), wV 19 (.load 1 false 18), wV 20 (kF 49 [19]), wM 17 20, wV 21 (.extract 17 0), wV 22 (.extract 17 1), wV 4 (.alloc 80 [.int .i64 0, .int .i64 0, .int .i64 0, .str [], .bool false, .int .i64 0, .int .i64 0, .int .i64 0, .nilSl, .int .i64 0, .nilSl, .nilSl]), wN (.store 12 4 21), wM 5 22] (.seq (sQ [wM 23 5, wV 24 (.bin .eql none 23 (vI 0)), wM 25 24, wT 26 25 (.load 12 true 4), wT 27 25 (.load 12 true 1), wT 28 25 (kF 50 [26, 27]), wV 29 (.pick 25 28 (.val (.bool false)))] (.cond 29 (sQ [wV 30 (.fieldAddr 3 1), wV 31 (.load 1 false 30), wM 2 31, wV 3 (.move (vI 0))] .ret) .skip)) (sQ [wV 32 (.fieldAddr 3 1), wV 33 (.load 1 false 32), wV 34 (.bin .add none (.val (.str [39])) 33), wM 2 34, wV 3 (.move (vI 0))] .ret))) .skip)) (.seq (sQ [wV 35 (.fieldAddr 0 1), wV 36 (.load 1 false 35), wV 37 (.bin .neq none 36 (vI 5))] (.cond 37 (sQ [wV 38 (.load 12 true 1), wV 39 (kF 51 [38]), wM 2 39, wV 3 (.move (vI 0))] .ret) .skip)) (sQ [wV 6 (.move (.val (.str [123])))] (.seq (sQ [wV 7 (.move (vI 0))] (.block 0 (.loop (.seq (sQ [wM 40 7, wV 41 (.fieldAddr 8 1), wV 42 (.load 1 false 41), wV 43 (.len false 42), wV 44 (.bin .lss none 40 43)] (.cond 44 .skip (.exit 0))) (.seq (.block 1 (.seq (sQ [wM 47 7, wV 48 (.bin .gtr none 47 (vI 0)), wM 49 48, wT 50 49 (.move 7), wT 51 49 (.fieldAddr 7 1), wT 52 49 (.load 1 false 51), wT 53 49 (.bin .rem none 50 52), wT 54 49 (.bin .eql none 53 (vI 0)), wV 55 (.pick 49 54 (.val (.bool false)))] (.cond 55 (.ops [wM 56 6, wV 57 (.bin .add none 56 (.val (.str [59]))), wM 6 57]) (sQ [wM 58 7, wV 59 (.bin .gtr none 58 (vI 0))] (.cond 59 (.ops [wM 60 6, wV 61 (.bin .add none 60 (.val (.str [44]))), wM 6 61]) .skip)))) (sQ [wV 62 (.fieldAddr 8 1), wV 63 (.load 1 false 62), wM 64 7, wV 65 (.idxSl 12 63 64), wV 66 (.fieldAddr 0 65), wV 67 (.load 1 false 66), wV 68 (.bin .eql none 67 (vI 2))] (.cond 68 (.ops [wM 69 6, wV 70 (.fieldAddr 8 1), wV 71 (.load 1 false 70), wM 72 7, wV 73 (.idxSl 12 71 72), wV 74 (.fieldAddr 3 73), wV 75 (.load 1 false 74), wV 76 (kF 52 [75]), wV 77 (.bin .add none 69 76), wM 6 77]) (.ops [wM 78 6, wV 79 (.fieldAddr 8 1), wV 80 (.load 1 false 79), wM 81 7, wV 82 (.idxSl 12 80 81), wV 83 (.load 12 true 82), wV 84 (kF 51 [83]), wV 85 (.bin .add none 78 84), wM 6 85]))))) (.ops [wM 45 7, wV 46 (.bin .add none 45 (vI 1)), wM 7 46])))))) (sQ [wM 86 6, wV 87 (.bin .add none 86 (.val (.str [125]))), wM 2 87, wV 3 (.move (vI 0))] .ret)))))))), [2, 3], 88⟩
theorem KG19 : Au Tryz.prog 19 = some KF19 := by kernel_rfl
def KF20 : AFn := ⟨(sQ [wV 1 (.box 26 0), wV 2 (.alloc 80 [.int .i64 0, .int .i64 0, .int .i64 0, .str [], .bool false, .int .i64 0, .int .i64 0, .int .i64 0, .nilSl, .int .i64 0, .nilSl, .nilSl])] (.seq (sQ [wV 7 (.fieldAddr 0 1), wV 8 (.load 1 false 7), wV 9 (kF 53 [8, (vI 5)])] (.block 0 (sQ [wV 11 (.bin .eql none 9 (vI 1)), wM 10 11] (.cond 10 (sQ [wV 13 (.fieldAddr 1 1), wV 14 (.fieldAddr 0 13), wV 15 (.load 1 false 14), wV 16 (kF 53 [15, (vI 2000001)]), wV 17 (.bin .sub none 16 (vI 1000000)), wV 18 (kF 54 [17]), wM 12 18, wV 19 (.extract 12 0), wV 20 (.extract 12 1), wV 3 (.alloc 24 [.int .i64 0, .int .i64 0]), wN (.store 2 3 19), wM 4 20] (.seq (.draw [wV 22 (.load 2 true 3), wV 23 (.fieldAddr 1 1), wV 24 (.fieldAddr 1 23), wV 25 (.load 1 false 24), wV 26 (kF 53 [25, (vI 5)]), wV 27 (.build [.int .i64 0, .int .i64 0] [(0, 1, (vI 1)), (1, 1, 26)]), wV 28 (kF 55 [22, 27]), wM 21 28, wV 29 (.extract 21 0), wV 30 (.extract 21 1), wV 5 (.alloc 24 [.int .i64 0, .int .i64 0]), wN (.store 2 5 29), wM 6 30]) (.seq (sQ [wM 31 4, wV 32 (.bin .eql none 31 (vI 0)), wM 33 32, wT 34 33 (.move 6), wT 35 33 (.bin .eql none 34 (vI 0)), wV 36 (.pick 33 35 (.val (.bool false)))] (.cond 36 (sQ [wV 37 (.load 2 true 5), wV 38 (.build [.int .i64 0, .int .i64 0, .int .i64 0, .str [], .bool false, .int .i64 0, .int .i64 0, .int .i64 0, .nilSl, .int .i64 0, .nilSl, .nilSl] [(0, 1, (vI 1)), (1, 2, 37)]), wN (.store 12 2 38)] .ret) .skip)) (sQ [wV 39 (.build [.int .i64 0, .int .i64 0, .int .i64 0, .str [], .bool false, .int .i64 0, .int .i64 0, .int .i64 0, .nilSl, .int .i64 0, .nilSl, .nilSl] [(0, 1, (vI 1))]), wN (.store 12 2 39)] .ret)))) (sQ [wV 41 (.bin .eql none 9 (vI 2)), wM 40 41] (.cond 40 (sQ [wV 42 (.fieldAddr 3 1), wV 43 (.load 1 false 42), wV 44 (kF 56 [43]), wV 45 (.build [.int .i64 0, .int .i64 0, .int .i64 0, .str [], .bool false, .int .i64 0, .int .i64 0, .int .i64 0, .nilSl, .int .i64 0, .nilSl, .nilSl] [(0, 1, (vI 2)), (3, 1, 44)]), wN (.store 12 2 45)] .ret) (sQ [wV 47 (.bin .eql none 9 (vI 3)), wM 46 47] (.cond 46 (sQ [wV 48 (.fieldAddr 4 1), wV 49 (.load 1 false 48), wV 50 (.build [.int .i64 0, .int .i64 0, .int .i64 0, .str [], .bool false, .int .i64 0, .int .i64 0, .int .i64 0, .nilSl, .int .i64 0, .nilSl, .nilSl] [(0, 1, (vI 3)), (4, 1, 49)]), wN (.store 12 2 50)] .ret) (sQ [wV 52 (.bin .eql none 9 (vI 4)), wM 51 52] (.cond 51 (sQ [wV 53 (.fieldAddr 1 1), wV 54 (.fieldAddr 0 53), wV 55 (.load 1 false 54), wV 56 (kF 53 [55, (vI 9)]), wV 57 (.bin .add none (vI 1) 56), wV 58 (.build [.int .i64 0, .int .i64 0, .int .i64 0, .str [], .bool false, .int .i64 0, .int .i64 0, .int .i64 0, .nilSl, .int .i64 0, .nilSl, .nilSl] [(0, 1, (vI 4)), (5, 1, 57)]), wN (.store 12 2 58)] .ret) .skip)))))))))) (sQ [wV 59 (.build [.int .i64 0, .int .i64 0, .int .i64 0, .str [], .bool false, .int .i64 0, .int .i64 0, .int .i64 0, .nilSl, .int .i64 0, .nilSl, .nilSl] []), wN (.store 12 2 59)] .ret))), [.cell 2 12 true], 60⟩
theorem KG20 : Au Tryz.prog 20 = some KF20 := by kernel_rfl
def KF11 : AFn := ⟨(sQ [wV 1 (.box 26 0), wV 2 (.move (.val (.str [])))] (sQ [wV 6 (.load 5 true 1), wV 7 (kF 20 [6]), wV 8 (kF 19 [7]), wM 5 8, wV 9 (.extract 5 0), wV 10 (.extract 5 1), wM 3 9, wM 4 10] (.seq (sQ [wM 11 3, wV 12 (.bin .eql none 11 (.val (.str [])))] (.cond 12 (sQ [wV 2 (.move (.val (.str [55])))] .ret) .skip)) (sQ [wM 13 3, wM 2 13] .ret)))), [2], 14⟩
theorem KG11 : Au Tryz.prog 11 = some KF11 := by kernel_rfl
theorem readV (hg : Gr Tryz.prog W0 G) {s : Bz} (hs : s.length ≤ 10000) : Aq Tryz.prog W0 49 [.str s] (fun v => ∃ (k m e er err : Int) (t : Bz) (b : Bool), v = .tup [(Db k m e t b er), .int .i64 err] ∧ (err = 0 → Fo s) ∧ (k = 0 ∨ k = 1 ∨ k = 3 ∨ k = 4 ∨ (k = 2 ∧ m = 0 ∧ e = 0 ∧ b = false ∧ er = 0))) := by
 refine Aq.of_fnM KG49 (by simp) rfl ?_
 by_cases hem0 : s.length = 0
 · have hem : Fo s := by rw [List.length_eq_zero_iff.1 hem0]; exact Dj
   refine sO (mV (v := .ptr 0 0) rfl (mV rfl (mn (sq (sO (mV rfl (mV rfl (mT rfl (mn (cT rfl (sO (mV rfl (Ai hg gN rfl (mV rfl (mn ?_)))))))))))))))
   exact ExM.ret ⟨_, ⟨_, _, _, _, _, _, _, rfl, (fun _ => hem), .inl rfl⟩, A4 trivial rfl rfl 100 rfl rfl⟩
 · by_cases h61 : s.getD 0 0 = 61
   · skip
     refine sO (mV (v := .ptr 0 0) rfl (mV rfl (mn (sq (sO (mV rfl (mV rfl (mF rfl (mn (cF rfl (kM (sq (sO (mV rfl (mS (v := .int .u8 ((s.getD 0 0).toNat : Nat)) (Ed (n := 0) rfl rfl) (mBk hg gN (c := true) rfl rfl (by rw [h61]; decide) (mn (cT rfl (sO (mV rfl (Ai hg gN rfl (mV rfl (mn ?_)))))))))))))))))))))))
     exact ExM.ret ⟨_, ⟨_, _, _, _, _, _, _, rfl, (fun h => by cases h), .inl rfl⟩, A4 trivial rfl rfl 100 rfl rfl⟩
   · have h61' : Fo s := fun c r e => by subst e; exact h61
     refine sO (mV (v := .ptr 0 0) rfl (mV rfl (mn (sq (sO (mV rfl (mV rfl (mF rfl (mn (cF rfl (kM (sq (sO (mV rfl (mS (v := .int .u8 ((s.getD 0 0).toNat : Nat)) (Ed (n := 0) rfl rfl) (mBk hg gN (c := false) rfl rfl (by rw [bFn]; intro e; exact h61 (UInt8.toNat_inj.1 (by have e2 : (61 : UInt8).toNat = 61 := rfl; omega))) (mn (cF rfl (kM (sO (mV rfl ?_)))))))))))))))))))))
     refine Bm hg gN rfl rfl rfl (readE hg (by omega)) ?_ ?_
     · rintro _ ⟨pM, pE, pe, rfl⟩; rfl
     rintro _ ⟨pM, pE, pe, rfl⟩
     refine mV rfl (mV rfl (mV rfl (mV (v := .ptr 1 0) rfl (Ai hg gN rfl (mV rfl (mn (sq (sO (mV rfl ?_)))))))))
     refine mB hg gN rfl rfl trivial (fun h1 => ?_) (fun h1 => ?_)
     · refine mn (cT rfl (sO (mV rfl (mV rfl (Ai hg gN rfl (mV rfl (mn ?_)))))))
       exact ExM.ret ⟨_, ⟨_, _, _, _, _, _, _, rfl, (fun _ => h61'), .inr (.inl rfl)⟩, A4 trivial rfl rfl 100 rfl rfl⟩
     · refine mn (cF rfl (kM (sO (mV rfl ?_))))
       refine Bm hg gN rfl rfl rfl (foldE hg (by omega)) ?_ ?_
       · rintro _ ⟨f, rfl⟩; rfl
       rintro _ ⟨f, rfl⟩
       refine mV rfl (mn (sq (sO (mV rfl ?_))))
       refine mB hg gN rfl rfl trivial (fun h2 => ?_) (fun h2 => ?_)
       · refine mV rfl (mG (mG (mV rfl (mn (cT rfl (sO (mV rfl ?_)))))))
         refine mB hg gN rfl rfl trivial (fun h3 => ?_) (fun h3 => ?_)
         · refine mV rfl (Ai hg gN rfl (mV rfl (mn ?_)))
           exact ExM.ret ⟨_, ⟨_, _, _, _, _, _, _, rfl, (fun _ => h61'), .inr (.inr (.inl rfl))⟩, A4 trivial rfl rfl 100 rfl rfl⟩
         · refine mV rfl (Ai hg gN rfl (mV rfl (mn ?_)))
           exact ExM.ret ⟨_, ⟨_, _, _, _, _, _, _, rfl, (fun _ => h61'), .inr (.inr (.inl rfl))⟩, A4 trivial rfl rfl 100 rfl rfl⟩
       · refine mV rfl (mV rfl ?_)
         refine mB hg (gS rfl) rfl rfl trivial (fun h4 => ?_) (fun h4 => ?_)
         · refine mV rfl (mn (cT rfl (sO (mV rfl ?_))))
           refine mB hg gN rfl rfl trivial (fun h5 => ?_) (fun h5 => ?_)
           · refine mV rfl (Ai hg gN rfl (mV rfl (mn ?_)))
             exact ExM.ret ⟨_, ⟨_, _, _, _, _, _, _, rfl, (fun _ => h61'), .inr (.inr (.inl rfl))⟩, A4 trivial rfl rfl 100 rfl rfl⟩
           · refine mV rfl (Ai hg gN rfl (mV rfl (mn ?_)))
             exact ExM.ret ⟨_, ⟨_, _, _, _, _, _, _, rfl, (fun _ => h61'), .inr (.inr (.inl rfl))⟩, A4 trivial rfl rfl 100 rfl rfl⟩
         · refine mV rfl (mn (cF rfl (kM (sq (sO (mV rfl (mn (bM ?_))))))))
           refine ExM.loop (σ := Nat) (fun j => ⟨.al [(0, .str s), (2, .ptr 0 0), (6, .str f), (7, .int .i64 (j : Nat))], [.cells 80 [.int .i64 0, .int .i64 0, .int .i64 0, .str [], .bool false, .int .i64 0, .int .i64 0, .int .i64 0, .nilSl, .int .i64 0, .nilSl, .nilSl] false], 60⟩) (fun j => j ≤ 10) (fun j => 10 - j) 1 (Ap 1 rfl (Nat.zero_le _) rfl rfl (fzC rfl fvS (fzC rfl (fvP rfl) (fzC rfl fvS (fzC rfl fvI fzN))))) (by decide) ?_
           rintro j hj
           by_cases hj9 : j ≤ 9
           · refine sq (sO (mV rfl (mT rfl (mn (cT rfl (kM (sq (bM (sO (mV rfl (mV rfl ?_)))))))))))
             refine Bm hg gN rfl rfl rfl (nameE hg) ?_ ?_
             · rintro _ ⟨nm, rfl, _, hnm⟩; rfl
             rintro _ ⟨nm, rfl, _, hnm⟩
             refine Bm hg gN rfl rfl rfl (foldE hg (by omega)) ?_ ?_
             · rintro _ ⟨fm, rfl⟩; rfl
             rintro _ ⟨fm, rfl⟩
             refine mB hg gN rfl rfl trivial (fun h6 => ?_) (fun h6 => ?_)
             · refine mn (cT rfl (sO (mV rfl (mC rfl (A3.pure rfl rfl (errP hg) _) (Ai hg gN rfl (mV rfl (mn ?_)))))))
               exact ExM.ret ⟨_, ⟨_, _, _, _, _, _, _, rfl, (fun _ => h61'), .inr (.inr (.inr (.inl rfl)))⟩, A4 trivial rfl rfl 100 rfl rfl⟩
             · refine mn (cF rfl (kM (oM (mV rfl (mI ((j + 1 : Nat)) rfl (mV rfl (mn ?_)))))))
               exact ⟨j + 1, by omega, by omega, Ap 1 rfl (Nat.zero_le _) rfl rfl (fzC rfl fvS (fzC rfl (fvP rfl) (fzC rfl fvS (fzC rfl fvI fzN))))⟩
           · refine sq (sO (mV rfl (mF rfl (mn (cF rfl ?_)))))
             refine ExM.exit ?_
             refine sO (mV rfl (mV rfl (mn (sq (sO (mV rfl (mS (v := .int .u8 ((s.getD 0 0).toNat : Nat)) (Ed (n := 0) rfl rfl) ?_)))))))
             refine mB hg gN rfl rfl trivial (fun h7 => ?_) (fun h7 => ?_)
             · refine mn (cT rfl (oM (mV rfl (mS rfl (mV rfl (mn (sq (sO (mV rfl ?_)))))))))
               refine Bm hg gN rfl rfl rfl (Vm hg (by first | omega | (simp only [List.length_drop]; omega))) ?_ ?_
               · rintro _ ⟨tb, rfl⟩; rfl
               rintro _ ⟨tb, rfl⟩
               cases tb
               · refine mV rfl (mn (cT rfl (sO (mV rfl (Ai hg gN rfl (mV rfl (mn ?_)))))))
                 exact ExM.ret ⟨_, ⟨_, _, _, _, _, _, _, rfl, (fun h => by cases h), .inl rfl⟩, A4 trivial rfl rfl 100 rfl rfl⟩
               · refine mV rfl (mn (cF rfl (kM (sO (mV rfl (mV rfl (Ai hg gN rfl (mV rfl (mn ?_)))))))))
                 exact ExM.ret ⟨_, ⟨_, _, _, _, _, _, _, rfl, (fun _ => h61'), .inr (.inr (.inr (.inr ⟨rfl, rfl, rfl, rfl, rfl⟩)))⟩, A4 trivial rfl rfl 100 rfl rfl⟩
             · refine mn (cF rfl (kM (sq (sO (mV rfl ?_)))))
               refine Bm hg gN rfl rfl rfl (Vm hg (by first | omega | (simp only [List.length_drop]; omega))) ?_ ?_
               · rintro _ ⟨tb, rfl⟩; rfl
               rintro _ ⟨tb, rfl⟩
               cases tb
               · refine mV rfl (mn (cT rfl (sO (mV rfl (Ai hg gN rfl (mV rfl (mn ?_)))))))
                 exact ExM.ret ⟨_, ⟨_, _, _, _, _, _, _, rfl, (fun h => by cases h), .inl rfl⟩, A4 trivial rfl rfl 100 rfl rfl⟩
               · refine mV rfl (mn (cF rfl (kM (sO (mV rfl (mV rfl (Ai hg gN rfl (mV rfl (mn ?_)))))))))
                 exact ExM.ret ⟨_, ⟨_, _, _, _, _, _, _, rfl, (fun _ => h61'), .inr (.inr (.inr (.inr ⟨rfl, rfl, rfl, rfl, rfl⟩)))⟩, A4 trivial rfl rfl 100 rfl rfl⟩
theorem plain1 (hk : Kn W0) {m e : Int} : Aq Tryz.prog W0 86 [Db 1 m e [] false 0] (fun v => ∃ b, v = .bool b) := by
 have hg := grK hk
 refine Aq.of_fnM KG86 (by simp) rfl ?_
 refine sO (mV (v := .ptr 0 0) rfl (mV rfl (mn (sq (sO (mV rfl (mV rfl (mV rfl (Ek hg gN (c := true) rfl rfl (A3.pure (args := [Db 1 m e [] false 0, .int .i64 1]) rfl rfl (bareK1 hk) _) rfl (mV rfl (mn (cF rfl (kM (sq (sO (mV rfl (mV rfl (mn (bM (sq (sO (mF rfl (mV rfl (mn (cF rfl (oM (mF rfl (mV rfl (mn (cF rfl (sO (mT rfl (mV rfl (mn (cT rfl (sO (mV rfl (mV rfl (mC rfl (show cP W0 100 [.agg [.int .i64 m, .int .i64 e]] _ (.bool (Dk m e)) _ from Lm hg _) (mV rfl (mn ?_)))))))))))))))))))))))))))))))))))))))))
 exact ExM.ret ⟨_, ⟨_, rfl⟩, A4 trivial rfl rfl 100 rfl rfl⟩
theorem plain2 (hk : Kn W0) {s : Bz} (hs : s.length ≤ 10000) : Aq Tryz.prog W0 86 [Db 2 0 0 s false 0] (fun v => ∃ b, v = .bool b) := by
 have hg := grK hk
 refine Aq.of_fnM KG86 (by simp) rfl ?_
 refine sO (mV (v := .ptr 0 0) rfl (mV rfl (mn (sq (sO (mV rfl (mV rfl (mV rfl (Ek hg gN (c := true) rfl rfl (A3.pure (args := [Db 2 0 0 s false 0, .int .i64 2]) rfl rfl (bareK2 hk) _) rfl (mV rfl (mn (cF rfl (kM (sq (sO (mV rfl (mV rfl (mn (bM (sq (sO (mF rfl (mV rfl (mn (cF rfl (oM (mF rfl (mV rfl (mn (cF rfl (sO (mF rfl (mV rfl (mn (cF rfl (sO (mT rfl (mV rfl (mn (cT rfl (sO (mV rfl (mV rfl ?_)))))))))))))))))))))))))))))))))))))))))))
 refine Bm hg gN rfl rfl rfl (Vm hg (by omega)) ?_ ?_
 · rintro _ ⟨tb, rfl⟩; rfl
 rintro _ ⟨tb, rfl⟩
 refine mV rfl (mn ?_)
 exact ExM.ret ⟨_, ⟨_, rfl⟩, A4 trivial rfl rfl 100 rfl rfl⟩
theorem right1 (hk : Kn W0) {m e : Int} : Aq Tryz.prog W0 48 [Db 1 m e [] false 0] (fun v => ∃ b, v = .bool b) := by
 have hg := grK hk
 refine Aq.of_fnM KG48 (by simp) rfl ?_
 refine sO (mV (v := .ptr 0 0) rfl (mV rfl (mn (sq (sO (mV rfl (mV rfl (mT rfl (mn (cT rfl (sO (mV rfl ?_))))))))))))
 refine Bm hg gN rfl rfl rfl (plain1 hk) ?_ ?_
 · rintro _ ⟨tb, rfl⟩; rfl
 rintro _ ⟨tb, rfl⟩
 refine mV rfl (mn ?_)
 exact ExM.ret ⟨_, ⟨_, rfl⟩, A4 trivial rfl rfl 100 rfl rfl⟩
theorem right2 (hk : Kn W0) {s : Bz} (hs : s.length ≤ 10000) : Aq Tryz.prog W0 48 [Db 2 0 0 s false 0] (fun v => ∃ b, v = .bool b) := by
 have hg := grK hk
 refine Aq.of_fnM KG48 (by simp) rfl ?_
 refine sO (mV (v := .ptr 0 0) rfl (mV rfl (mn (sq (sO (mV rfl (mV rfl (mT rfl (mn (cT rfl (sO (mV rfl ?_))))))))))))
 refine Bm hg gN rfl rfl rfl (plain2 hk hs) ?_ ?_
 · rintro _ ⟨tb, rfl⟩; rfl
 rintro _ ⟨tb, rfl⟩
 refine mV rfl (mn ?_)
 exact ExM.ret ⟨_, ⟨_, rfl⟩, A4 trivial rfl rfl 100 rfl rfl⟩
theorem told1 (hk : Kn W0) {m e : Int} : Aq Tryz.prog W0 94 [Db 1 m e [] false 0] (fun v => ∃ t, v = Db 2 0 0 t false 0 ∧ Fo t ∧ t.length ≤ 1000) := by
 have hg := grK hk
 refine Aq.of_fnM KG94 (by simp) rfl ?_
 refine sO (mV (v := .ptr 0 0) rfl (mV (v := .ptr 1 0) rfl (mn (sq (sO (mV rfl (mV rfl (mn (bM (sO (mF rfl (mV rfl (mn (cF rfl (sO (mT rfl (mV rfl (mn (cT rfl (sO (mV rfl (mV rfl ?_))))))))))))))))))))))
 refine Bm hg gN rfl rfl rfl (textE hk) ?_ ?_
 · rintro _ ⟨t, er, rfl, ht, htl⟩; rfl
 rintro _ ⟨t, er, rfl, ht, htl⟩
 refine mV rfl (mV rfl (mV rfl (mV rfl (mV rfl (mn (sO (mV rfl (mV rfl (Ai hg gN rfl (mn ?_))))))))))
 exact ExM.ret ⟨_, ⟨t, rfl, ht, htl⟩, A4 trivial rfl rfl 100 rfl rfl⟩
theorem A3e (hk : Kn W0) {m e : Int} : Aq Tryz.prog W0 51 [Db 1 m e [] false 0] (fun v => ∃ t, v = .str t ∧ Fo t ∧ t.length ≤ 1000) := by
 have hg := grK hk
 refine Aq.of_fnM KG51 (by simp) rfl ?_
 refine sO (mV (v := .ptr 0 0) rfl (mV rfl (mn (sq (sO (mV rfl (mV rfl (mF rfl (mn (cF rfl (kM (sO (mV rfl ?_)))))))))))))
 refine Bm hg gN rfl rfl rfl (told1 hk) ?_ ?_
 · rintro _ ⟨t, rfl, ht, htl⟩; rfl
 rintro _ ⟨t, rfl, ht, htl⟩
 refine mV rfl (mV rfl (mn ?_))
 exact ExM.ret ⟨_, ⟨t, rfl, ht, htl⟩, A4 trivial rfl rfl 100 rfl rfl⟩
theorem text1 (hk : Kn W0) {m e : Int} : Aq Tryz.prog W0 19 [Db 1 m e [] false 0] (fun v => ∃ (t : Bz) (er : Int), v = .tup [.str t, .int .i64 er] ∧ Fo t ∧ t.length ≤ 1000) := by
 have hg := grK hk
 refine Aq.of_fnM KG19 (by simp) rfl ?_
 refine sO (mV (v := .ptr 0 0) rfl (mV rfl (mV rfl (mn (sq (sO (mV rfl ?_)))))))
 refine Bm hg gN rfl rfl rfl (right1 hk) ?_ ?_
 · rintro _ ⟨tb, rfl⟩; rfl
 rintro _ ⟨tb, rfl⟩
 cases tb
 · refine mV rfl (mn (cT rfl (sO (mV rfl (mV rfl (mn ?_))))))
   exact ExM.ret ⟨_, ⟨[], 30, rfl, Dj, by decide⟩, A4 trivial rfl rfl 100 rfl rfl⟩
 · refine mV rfl (mn (cF rfl (kM (sq (sO (mV rfl (mV rfl (mF rfl (mn (cF rfl (kM (sq (sO (mV rfl (mV rfl (mF rfl (mn (cF rfl (kM (sq (sO (mV rfl (mV rfl (mT rfl (mn (cT rfl (sO (mV rfl ?_))))))))))))))))))))))))))))
   refine Bm hg gN rfl rfl rfl (A3e hk) ?_ ?_
   · rintro _ ⟨t, rfl, ht, htl⟩; rfl
   rintro _ ⟨t, rfl, ht, htl⟩
   refine mV rfl (mV rfl (mn ?_))
   exact ExM.ret ⟨_, ⟨t, 0, rfl, ht, htl⟩, A4 trivial rfl rfl 100 rfl rfl⟩
theorem text2 (hk : Kn W0) {s : Bz} (hs : s.length ≤ 900) : Aq Tryz.prog W0 19 [Db 2 0 0 s false 0] (fun v => ∃ (t : Bz) (er : Int), v = .tup [.str t, .int .i64 er] ∧ Fo t ∧ t.length ≤ 1000) := by
 have hg := grK hk
 refine Aq.of_fnM KG19 (by simp) rfl ?_
 refine sO (mV (v := .ptr 0 0) rfl (mV rfl (mV rfl (mn (sq (sO (mV rfl ?_)))))))
 refine Bm hg gN rfl rfl rfl (right2 hk (by omega)) ?_ ?_
 · rintro _ ⟨tb, rfl⟩; rfl
 rintro _ ⟨tb, rfl⟩
 cases tb
 · refine mV rfl (mn (cT rfl (sO (mV rfl (mV rfl (mn ?_))))))
   refine ExM.ret ?_
   first | exact ⟨_, ⟨[], 30, rfl, Dj, by decide⟩, A4 trivial rfl rfl 100 rfl rfl⟩ | exact ⟨_, ⟨s, 0, rfl, herr (by rw [beq_iff_eq] at h1; exact h1), by omega⟩, A4 trivial rfl rfl 100 rfl rfl⟩ | exact ⟨_, ⟨39 :: s, 0, rfl, B9 (by decide), by simp only [lCo]; omega⟩, A4 trivial rfl rfl 100 rfl rfl⟩
 · refine mV rfl (mn (cF rfl (kM (sq (sO (mV rfl (mV rfl (mF rfl (mn (cF rfl (kM (sq (sO (mV rfl (mV rfl (mT rfl (mn (cT rfl (sO (mV rfl (mV rfl ?_)))))))))))))))))))))
   refine Bm hg gN rfl rfl rfl (readV hg (s := s) (by omega)) ?_ ?_
   · rintro _ ⟨k, m, e, er, err, t, b, rfl, herr, hsh⟩; rfl
   rintro _ ⟨k, m, e, er, err, t, b, rfl, herr, hsh⟩
   refine mV rfl (mV rfl (mV rfl (mV (v := .ptr 1 0) rfl (Ai hg gN rfl (mV rfl (mn (sq (sO (mV rfl ?_)))))))))
   refine mB hg gN rfl rfl trivial (fun h1 => ?_) (fun h1 => ?_)
   · refine mV rfl (mV rfl (mV rfl ?_))
     refine Bm hg (gS rfl) rfl rfl rfl (sameE hk hsh) ?_ ?_
     · rintro _ ⟨c, rfl⟩; rfl
     rintro _ ⟨c, rfl⟩
     cases c
     · refine mV rfl (mn (cF rfl (kM (sO (mV rfl (mV rfl (mS rfl (mV rfl (mV rfl (mn ?_))))))))))
       refine ExM.ret ?_
       first | exact ⟨_, ⟨[], 30, rfl, Dj, by decide⟩, A4 trivial rfl rfl 100 rfl rfl⟩ | exact ⟨_, ⟨s, 0, rfl, herr (by rw [beq_iff_eq] at h1; exact h1), by omega⟩, A4 trivial rfl rfl 100 rfl rfl⟩ | exact ⟨_, ⟨39 :: s, 0, rfl, B9 (by decide), by simp only [lCo]; omega⟩, A4 trivial rfl rfl 100 rfl rfl⟩
     · refine mV rfl (mn (cT rfl (sO (mV rfl (mV rfl (mV rfl (mV rfl (mn ?_))))))))
       refine ExM.ret ?_
       first | exact ⟨_, ⟨[], 30, rfl, Dj, by decide⟩, A4 trivial rfl rfl 100 rfl rfl⟩ | exact ⟨_, ⟨s, 0, rfl, herr (by rw [beq_iff_eq] at h1; exact h1), by omega⟩, A4 trivial rfl rfl 100 rfl rfl⟩ | exact ⟨_, ⟨39 :: s, 0, rfl, B9 (by decide), by simp only [lCo]; omega⟩, A4 trivial rfl rfl 100 rfl rfl⟩
   · refine mV rfl (mG (mG (mG (mV rfl (mn (cF rfl (kM (sO (mV rfl (mV rfl (mS rfl (mV rfl (mV rfl (mn ?_))))))))))))))
     refine ExM.ret ?_
     first | exact ⟨_, ⟨[], 30, rfl, Dj, by decide⟩, A4 trivial rfl rfl 100 rfl rfl⟩ | exact ⟨_, ⟨s, 0, rfl, herr (by rw [beq_iff_eq] at h1; exact h1), by omega⟩, A4 trivial rfl rfl 100 rfl rfl⟩ | exact ⟨_, ⟨39 :: s, 0, rfl, B9 (by decide), by simp only [lCo]; omega⟩, A4 trivial rfl rfl 100 rfl rfl⟩
def valQ (v : AVal) : Prop := v = Db 0 0 0 [] false 0 ∨ (∃ m e, v = Db 1 m e [] false 0) ∨ (∃ s : Bz, v = Db 2 0 0 s false 0 ∧ s.length ≤ 40) ∨ (∃ b, v = Db 3 0 0 [] b 0) ∨ (∃ n : Nat, v = Db 4 0 0 [] false (n : Nat) ∧ 1 ≤ n ∧ n ≤ 9)
theorem Vx {v : AVal} (h : valQ v) : blw 0 v = true := by
 rcases h with rfl | ⟨m, e, rfl⟩ | ⟨s, rfl, _⟩ | ⟨b, rfl⟩ | ⟨n, rfl, _⟩ <;> rfl
theorem valE (hk : Kn W0) {K M E : Int} {s : Bz} {b : Bool} (hK : i64 K) (hM : i64 M) (hE : i64 E) (hs : s.length ≤ 150000000000000) : Aq Tryz.prog W0 20 [A1x K M E s b] valQ := by
 have hg := grK hk
 have hk5 := Bf (c := K) (n := 5) (by decide)
 have hk9 := Bf (c := M) (n := 9) (by decide)
 have k1 := M5 hg (c := K) (n := 5) hK.1 hK.2 (by decide)
 have hc : Am K 5 = 1 ∨ Am K 5 = 0 ∨ Am K 5 = 2 ∨ Am K 5 = 3 ∨ Am K 5 = 4 := by omega
 rcases hc with h | h | h | h | h
 · obtain ⟨m, e, c⟩ := ValNum hk (s := s) (b := b) hK hM hE h
   exact (Aq.of c).mono fun v hv => .inr (.inl ⟨m, e, hv⟩)
 · rw [h] at k1
   refine Aq.of_fnM KG20 (by simp) rfl ?_
   refine sO (mV (v := .ptr 0 0) rfl (mV (v := .ptr 1 0) rfl (mn (sq (sO (mV rfl (mV rfl (mC rfl (A3.pure rfl rfl k1 _) (mn (bM (sO (mF rfl (mV rfl (mn (cF rfl (sO (mF rfl (mV rfl (mn (cF rfl (sO (mF rfl (mV rfl (mn (cF rfl (sO (mF rfl (mV rfl (mn (cF rfl (kM (sO (mV rfl (Ai hg gN rfl (mn ?_)))))))))))))))))))))))))))))))))))
   exact ExM.ret ⟨_, .inl rfl, A4 trivial rfl rfl 100 rfl rfl⟩
 · rw [h] at k1
   refine Aq.of_fnM KG20 (by simp) rfl ?_
   refine sO (mV (v := .ptr 0 0) rfl (mV (v := .ptr 1 0) rfl (mn (sq (sO (mV rfl (mV rfl (mC rfl (A3.pure rfl rfl k1 _) (mn (bM (sO (mF rfl (mV rfl (mn (cF rfl (sO (mT rfl (mV rfl (mn (cT rfl (sO (mV rfl (mV rfl ?_)))))))))))))))))))))))
   refine Bm hg gN rfl rfl rfl (textOfE hg hs) ?_ ?_
   · rintro _ ⟨t, rfl, ht⟩; rfl
   rintro _ ⟨t, rfl, ht⟩
   refine mV rfl (Ai hg gN rfl (mn ?_))
   exact ExM.ret ⟨_, .inr (.inr (.inl ⟨t, rfl, ht⟩)), A4 trivial rfl rfl 100 rfl rfl⟩
 · rw [h] at k1
   refine Aq.of_fnM KG20 (by simp) rfl ?_
   refine sO (mV (v := .ptr 0 0) rfl (mV (v := .ptr 1 0) rfl (mn (sq (sO (mV rfl (mV rfl (mC rfl (A3.pure rfl rfl k1 _) (mn (bM (sO (mF rfl (mV rfl (mn (cF rfl (sO (mF rfl (mV rfl (mn (cF rfl (sO (mT rfl (mV rfl (mn (cT rfl (sO (mV rfl (mV rfl (mV rfl (Ai hg gN rfl (mn ?_)))))))))))))))))))))))))))))))
   exact ExM.ret ⟨_, .inr (.inr (.inr (.inl ⟨b, rfl⟩))), A4 trivial rfl rfl 100 rfl rfl⟩
 · rw [h] at k1
   refine Aq.of_fnM KG20 (by simp) rfl ?_
   refine sO (mV (v := .ptr 0 0) rfl (mV (v := .ptr 1 0) rfl (mn (sq (sO (mV rfl (mV rfl (mC rfl (A3.pure rfl rfl k1 _) (mn (bM (sO (mF rfl (mV rfl (mn (cF rfl (sO (mF rfl (mV rfl (mn (cF rfl (sO (mF rfl (mV rfl (mn (cF rfl (sO (mT rfl (mV rfl (mn (cT rfl (sO (mV rfl (mV rfl (mV rfl (mC rfl (pickC53 hg (c := M) (n := 9) hM.1 hM.2 (by decide) _) (mI ((1 + Am M 9 : Nat)) rfl (mV rfl (Ai hg gN rfl (mn ?_)))))))))))))))))))))))))))))))))))))))
   exact ExM.ret ⟨_, .inr (.inr (.inr (.inr ⟨1 + Am M 9, rfl, by omega, by omega⟩))), A4 trivial rfl rfl 100 rfl rfl⟩
theorem text0 (hk : Kn W0) : cP W0 19 [Db 0 0 0 [] false 0] [] (.tup [.str [], .int .i64 0]) [] := (A8 hk Ad (d := 60) (show An [] 60 19 [Db 0 0 0 [] false 0] [] = some (.tup [.str [], .int .i64 0], []) by kernel_rfl) (by kernel_rfl) (by kernel_rfl)).2.2
theorem text3t (hk : Kn W0) : cP W0 19 [Db 3 0 0 [] true 0] [] (.tup [.str [84, 82, 85, 69], .int .i64 0]) [] := (A8 hk Ad (d := 60) (show An [] 60 19 [Db 3 0 0 [] true 0] [] = some (.tup [.str [84, 82, 85, 69], .int .i64 0], []) by kernel_rfl) (by kernel_rfl) (by kernel_rfl)).2.2
theorem text3f (hk : Kn W0) : cP W0 19 [Db 3 0 0 [] false 0] [] (N225) [] := (A8 hk Ad (d := 60) (show An [] 60 19 [Db 3 0 0 [] false 0] [] = some (N225, []) by kernel_rfl) (by kernel_rfl) (by kernel_rfl)).2.2
theorem text41 (hk : Kn W0) : cP W0 19 [Db 4 0 0 [] false 1] [] (N226) [] := (A8 hk Ad (d := 60) (show An [] 60 19 [Db 4 0 0 [] false 1] [] = some (N226, []) by kernel_rfl) (by kernel_rfl) (by kernel_rfl)).2.2
theorem text42 (hk : Kn W0) : cP W0 19 [Db 4 0 0 [] false 2] [] (N227) [] := (A8 hk Ad (d := 60) (show An [] 60 19 [Db 4 0 0 [] false 2] [] = some (N227, []) by kernel_rfl) (by kernel_rfl) (by kernel_rfl)).2.2
theorem text43 (hk : Kn W0) : cP W0 19 [Db 4 0 0 [] false 3] [] (N228) [] := (A8 hk Ad (d := 60) (show An [] 60 19 [Db 4 0 0 [] false 3] [] = some (N228, []) by kernel_rfl) (by kernel_rfl) (by kernel_rfl)).2.2
theorem text44 (hk : Kn W0) : cP W0 19 [Db 4 0 0 [] false 4] [] (N229) [] := (A8 hk Ad (d := 60) (show An [] 60 19 [Db 4 0 0 [] false 4] [] = some (N229, []) by kernel_rfl) (by kernel_rfl) (by kernel_rfl)).2.2
theorem text45 (hk : Kn W0) : cP W0 19 [Db 4 0 0 [] false 5] [] (N230) [] := (A8 hk Ad (d := 60) (show An [] 60 19 [Db 4 0 0 [] false 5] [] = some (N230, []) by kernel_rfl) (by kernel_rfl) (by kernel_rfl)).2.2
theorem text46 (hk : Kn W0) : cP W0 19 [Db 4 0 0 [] false 6] [] (N231) [] := (A8 hk Ad (d := 60) (show An [] 60 19 [Db 4 0 0 [] false 6] [] = some (N231, []) by kernel_rfl) (by kernel_rfl) (by kernel_rfl)).2.2
theorem text47 (hk : Kn W0) : cP W0 19 [Db 4 0 0 [] false 7] [] (.tup [.str [35, 78, 47, 65], .int .i64 0]) [] := (A8 hk Ad (d := 60) (show An [] 60 19 [Db 4 0 0 [] false 7] [] = some (.tup [.str [35, 78, 47, 65], .int .i64 0], []) by kernel_rfl) (by kernel_rfl) (by kernel_rfl)).2.2
theorem text48 (hk : Kn W0) : cP W0 19 [Db 4 0 0 [] false 8] [] (N232) [] := (A8 hk Ad (d := 60) (show An [] 60 19 [Db 4 0 0 [] false 8] [] = some (N232, []) by kernel_rfl) (by kernel_rfl) (by kernel_rfl)).2.2
theorem text49 (hk : Kn W0) : cP W0 19 [Db 4 0 0 [] false 9] [] (N233) [] := (A8 hk Ad (d := 60) (show An [] 60 19 [Db 4 0 0 [] false 9] [] = some (N233, []) by kernel_rfl) (by kernel_rfl) (by kernel_rfl)).2.2
theorem textV (hk : Kn W0) {v : AVal} (h : valQ v) : Aq Tryz.prog W0 19 [v] (fun v => ∃ (t : Bz) (er : Int), v = .tup [.str t, .int .i64 er] ∧ Fo t ∧ t.length ≤ 1000) := by
 rcases h with rfl | ⟨m, e, rfl⟩ | ⟨s, rfl, hs⟩ | ⟨b, rfl⟩ | ⟨n, rfl, h1, h2⟩
 · exact (Aq.of (text0 hk)).mono fun v hv => ⟨_, _, hv, Dj, by decide⟩
 · exact text1 hk
 · exact text2 hk (by omega)
 · cases b
   · exact (Aq.of (text3f hk)).mono fun v hv => ⟨_, _, hv, B9 (by decide), by decide⟩
   · exact (Aq.of (text3t hk)).mono fun v hv => ⟨_, _, hv, B9 (by decide), by decide⟩
 · have : n = 1 ∨ n = 2 ∨ n = 3 ∨ n = 4 ∨ n = 5 ∨ n = 6 ∨ n = 7 ∨ n = 8 ∨ n = 9 := by omega
   rcases this with rfl | rfl | rfl | rfl | rfl | rfl | rfl | rfl | rfl
   · exact (Aq.of (text41 hk)).mono fun v hv => ⟨_, _, hv, B9 (by decide), by decide⟩
   · exact (Aq.of (text42 hk)).mono fun v hv => ⟨_, _, hv, B9 (by decide), by decide⟩
   · exact (Aq.of (text43 hk)).mono fun v hv => ⟨_, _, hv, B9 (by decide), by decide⟩
   · exact (Aq.of (text44 hk)).mono fun v hv => ⟨_, _, hv, B9 (by decide), by decide⟩
   · exact (Aq.of (text45 hk)).mono fun v hv => ⟨_, _, hv, B9 (by decide), by decide⟩
   · exact (Aq.of (text46 hk)).mono fun v hv => ⟨_, _, hv, B9 (by decide), by decide⟩
   · exact (Aq.of (text47 hk)).mono fun v hv => ⟨_, _, hv, B9 (by decide), by decide⟩
   · exact (Aq.of (text48 hk)).mono fun v hv => ⟨_, _, hv, B9 (by decide), by decide⟩
   · exact (Aq.of (text49 hk)).mono fun v hv => ⟨_, _, hv, B9 (by decide), by decide⟩
theorem Lt (hk : Kn W0) {K M E : Int} {s : Bz} {b : Bool} (hK : i64 K) (hM : i64 M) (hE : i64 E) (hs : s.length ≤ 150000000000000) : Aq Tryz.prog W0 11 [A1x K M E s b] (fun v => ∃ t : Bz, v = .str t ∧ Fo t ∧ t.length ≤ 1000) := by
 have hg := grK hk
 refine Aq.of_fnM KG11 (by simp) rfl ?_
 refine sO (mV (v := .ptr 0 0) rfl (mV rfl (mn (sO (mV rfl ?_)))))
 refine Bm hg gN rfl rfl rfl (valE hk hK hM hE hs) ?_ ?_
 · rintro _ hv; exact Vx hv
 rintro _ hv
 refine Bm hg gN rfl rfl (by show cond (blw 0 _) true false = true; rw [Vx hv]; rfl) (textV hk hv) ?_ ?_
 · rintro _ ⟨t, er, rfl, ht, htl⟩; rfl
 rintro _ ⟨t, er, rfl, ht, htl⟩
 refine mV rfl (mV rfl (mV rfl (mV rfl (mV rfl (mn (sq (sO (mV rfl ?_))))))))
 refine mB hg gN rfl rfl trivial (fun h1 => ?_) (fun h1 => ?_)
 · refine mn (cT rfl (sO (mV rfl (mn ?_))))
   exact ExM.ret ⟨_, ⟨_, rfl, B9 (by decide), by decide⟩, A4 trivial rfl rfl 100 rfl rfl⟩
 · refine mn (cF rfl (kM (sO (mV rfl (mV rfl (mn ?_))))))
   exact ExM.ret ⟨_, ⟨t, rfl, ht, htl⟩, A4 trivial rfl rfl 100 rfl rfl⟩
theorem Vt {s : Bz} (h : Fo s) : Lib.hasPrefix s [61] = false ∧ Lib.trimPrefix s [61] = s := by
 have h1 : Lib.hasPrefix s [61] = false := by
  cases s with
  | nil => rfl
  | cons c r => have := h c r rfl; simp [Lib.hasPrefix, List.isPrefixOf]; exact fun e => this e.symm
 exact ⟨h1, by simp [Lib.trimPrefix, h1]⟩
theorem Tc {s : Bz} (h : Fo s) : cP W0 43 [.str s, .str [61]] [] (.tup [.str s, .bool false]) [] := by
 have := Bd (W0 := W0) (H := []) (s := s) (t := [61])
 rw [(Vt h).1, (Vt h).2] at this
 exact this
theorem Z8 (hk : Kn W0) {s own sh nm : Bz} {K a n : Int} (h : Fo s) (hK : 1 ≤ K ∧ K ≤ 6) (hr : cP W0 16 [N234 K sh a n nm] [] (.bool true) []) : cP W0 10 [.str s, .str own, N234 K sh a n nm] [] (.tup [.str s, .int .i64 0]) [] := by
 have hK' : K = 1 ∨ K = 2 ∨ K = 3 ∨ K = 4 ∨ K = 5 ∨ K = 6 := by omega
 rcases hK' with rfl | rfl | rfl | rfl | rfl | rfl
 · exact litI1 hk (Tc h) hr
 · exact litI2 hk (Tc h) hr
 · exact litI3 hk (Tc h) hr
 · exact litI4 hk (Tc h) hr
 · exact litI5 hk (Tc h) hr
 · exact litI6 hk (Tc h) hr
end Go.Abs
namespace Go.Abs
open Go.Proofs Go.RowKit
set_option maxRecDepth 10000000
variable {W0 : World} {G : List (Nat × AVal)}
def cB (cl : Nat) : UInt8 := UInt8.ofNat (65 + cl)
def dB (rw : Nat) : UInt8 := UInt8.ofNat (49 + rw)
theorem Cj {cl : Nat} (h : cl < 5) : (cB cl).toNat = 65 + cl := UInt8.toNat_ofNat_of_lt' (by simp only [UInt8.size]; omega)
theorem Cm {rw : Nat} (h : rw < 8) : (dB rw).toNat = 49 + rw := UInt8.toNat_ofNat_of_lt' (by simp only [UInt8.size]; omega)
theorem dg125_0 (hk : Kn W0) : cP W0 125 [jI 1] [] (.str [49]) [] := (A8 hk Ad (d := 60) (show An [] 60 125 [jI 1] [] = some (.str [49], []) by kernel_rfl) (by kernel_rfl) (by kernel_rfl)).2.2
theorem it215_0 (hk : Kn W0) : cP W0 215 [jI 1] [] (.str [49]) [] := (A8 hk Ad (d := 60) (show An [] 60 215 [jI 1] [] = some (.str [49], []) by kernel_rfl) (by kernel_rfl) (by kernel_rfl)).2.2
theorem at237_0 (hk : Kn W0) : cP W0 237 [.str [49]] [] (.tup [jI 1, .nilIf]) [] := (A8 hk Ad (d := 60) (show An [] 60 237 [.str [49]] [] = some (.tup [jI 1, .nilIf], []) by kernel_rfl) (by kernel_rfl) (by kernel_rfl)).2.2
theorem dg125_1 (hk : Kn W0) : cP W0 125 [jI 2] [] (.str [50]) [] := (A8 hk Ad (d := 60) (show An [] 60 125 [jI 2] [] = some (.str [50], []) by kernel_rfl) (by kernel_rfl) (by kernel_rfl)).2.2
theorem it215_1 (hk : Kn W0) : cP W0 215 [jI 2] [] (.str [50]) [] := (A8 hk Ad (d := 60) (show An [] 60 215 [jI 2] [] = some (.str [50], []) by kernel_rfl) (by kernel_rfl) (by kernel_rfl)).2.2
theorem at237_1 (hk : Kn W0) : cP W0 237 [.str [50]] [] (.tup [jI 2, .nilIf]) [] := (A8 hk Ad (d := 60) (show An [] 60 237 [.str [50]] [] = some (.tup [jI 2, .nilIf], []) by kernel_rfl) (by kernel_rfl) (by kernel_rfl)).2.2
theorem dg125_2 (hk : Kn W0) : cP W0 125 [jI 3] [] (.str [51]) [] := (A8 hk Ad (d := 60) (show An [] 60 125 [jI 3] [] = some (.str [51], []) by kernel_rfl) (by kernel_rfl) (by kernel_rfl)).2.2
theorem it215_2 (hk : Kn W0) : cP W0 215 [jI 3] [] (.str [51]) [] := (A8 hk Ad (d := 60) (show An [] 60 215 [jI 3] [] = some (.str [51], []) by kernel_rfl) (by kernel_rfl) (by kernel_rfl)).2.2
theorem at237_2 (hk : Kn W0) : cP W0 237 [.str [51]] [] (.tup [jI 3, .nilIf]) [] := (A8 hk Ad (d := 60) (show An [] 60 237 [.str [51]] [] = some (.tup [jI 3, .nilIf], []) by kernel_rfl) (by kernel_rfl) (by kernel_rfl)).2.2
theorem dg125_3 (hk : Kn W0) : cP W0 125 [jI 4] [] (.str [52]) [] := (A8 hk Ad (d := 60) (show An [] 60 125 [jI 4] [] = some (.str [52], []) by kernel_rfl) (by kernel_rfl) (by kernel_rfl)).2.2
theorem it215_3 (hk : Kn W0) : cP W0 215 [jI 4] [] (.str [52]) [] := (A8 hk Ad (d := 60) (show An [] 60 215 [jI 4] [] = some (.str [52], []) by kernel_rfl) (by kernel_rfl) (by kernel_rfl)).2.2
theorem at237_3 (hk : Kn W0) : cP W0 237 [.str [52]] [] (.tup [jI 4, .nilIf]) [] := (A8 hk Ad (d := 60) (show An [] 60 237 [.str [52]] [] = some (.tup [jI 4, .nilIf], []) by kernel_rfl) (by kernel_rfl) (by kernel_rfl)).2.2
theorem dg125_4 (hk : Kn W0) : cP W0 125 [jI 5] [] (.str [53]) [] := (A8 hk Ad (d := 60) (show An [] 60 125 [jI 5] [] = some (.str [53], []) by kernel_rfl) (by kernel_rfl) (by kernel_rfl)).2.2
theorem it215_4 (hk : Kn W0) : cP W0 215 [jI 5] [] (.str [53]) [] := (A8 hk Ad (d := 60) (show An [] 60 215 [jI 5] [] = some (.str [53], []) by kernel_rfl) (by kernel_rfl) (by kernel_rfl)).2.2
theorem at237_4 (hk : Kn W0) : cP W0 237 [.str [53]] [] (.tup [jI 5, .nilIf]) [] := (A8 hk Ad (d := 60) (show An [] 60 237 [.str [53]] [] = some (.tup [jI 5, .nilIf], []) by kernel_rfl) (by kernel_rfl) (by kernel_rfl)).2.2
theorem dg125_5 (hk : Kn W0) : cP W0 125 [jI 6] [] (.str [54]) [] := (A8 hk Ad (d := 60) (show An [] 60 125 [jI 6] [] = some (.str [54], []) by kernel_rfl) (by kernel_rfl) (by kernel_rfl)).2.2
theorem it215_5 (hk : Kn W0) : cP W0 215 [jI 6] [] (.str [54]) [] := (A8 hk Ad (d := 60) (show An [] 60 215 [jI 6] [] = some (.str [54], []) by kernel_rfl) (by kernel_rfl) (by kernel_rfl)).2.2
theorem at237_5 (hk : Kn W0) : cP W0 237 [.str [54]] [] (.tup [jI 6, .nilIf]) [] := (A8 hk Ad (d := 60) (show An [] 60 237 [.str [54]] [] = some (.tup [jI 6, .nilIf], []) by kernel_rfl) (by kernel_rfl) (by kernel_rfl)).2.2
theorem dg125_6 (hk : Kn W0) : cP W0 125 [jI 7] [] (.str [55]) [] := (A8 hk Ad (d := 60) (show An [] 60 125 [jI 7] [] = some (.str [55], []) by kernel_rfl) (by kernel_rfl) (by kernel_rfl)).2.2
theorem it215_6 (hk : Kn W0) : cP W0 215 [jI 7] [] (.str [55]) [] := (A8 hk Ad (d := 60) (show An [] 60 215 [jI 7] [] = some (.str [55], []) by kernel_rfl) (by kernel_rfl) (by kernel_rfl)).2.2
theorem at237_6 (hk : Kn W0) : cP W0 237 [.str [55]] [] (.tup [jI 7, .nilIf]) [] := (A8 hk Ad (d := 60) (show An [] 60 237 [.str [55]] [] = some (.tup [jI 7, .nilIf], []) by kernel_rfl) (by kernel_rfl) (by kernel_rfl)).2.2
theorem dg125_7 (hk : Kn W0) : cP W0 125 [jI 8] [] (.str [56]) [] := (A8 hk Ad (d := 60) (show An [] 60 125 [jI 8] [] = some (.str [56], []) by kernel_rfl) (by kernel_rfl) (by kernel_rfl)).2.2
theorem it215_7 (hk : Kn W0) : cP W0 215 [jI 8] [] (.str [56]) [] := (A8 hk Ad (d := 60) (show An [] 60 215 [jI 8] [] = some (.str [56], []) by kernel_rfl) (by kernel_rfl) (by kernel_rfl)).2.2
theorem at237_7 (hk : Kn W0) : cP W0 237 [.str [56]] [] (.tup [jI 8, .nilIf]) [] := (A8 hk Ad (d := 60) (show An [] 60 237 [.str [56]] [] = some (.tup [jI 8, .nilIf], []) by kernel_rfl) (by kernel_rfl) (by kernel_rfl)).2.2
theorem cl124_0 (hk : Kn W0) : cP W0 124 [zI] [] (.tup [.str [65], zI]) [] := (A8 hk Ad (d := 60) (show An [] 60 124 [zI] [] = some (.tup [.str [65], zI], []) by kernel_rfl) (by kernel_rfl) (by kernel_rfl)).2.2
theorem rc233_0 (hk : Kn W0) : cP W0 233 [.str [65]] [] (.tup [zI, zI]) [] := (A8 hk Ad (d := 60) (show An [] 60 233 [.str [65]] [] = some (.tup [zI, zI], []) by kernel_rfl) (by kernel_rfl) (by kernel_rfl)).2.2
theorem cl124_1 (hk : Kn W0) : cP W0 124 [jI 1] [] (.tup [.str [66], zI]) [] := (A8 hk Ad (d := 60) (show An [] 60 124 [jI 1] [] = some (.tup [.str [66], zI], []) by kernel_rfl) (by kernel_rfl) (by kernel_rfl)).2.2
theorem rc233_1 (hk : Kn W0) : cP W0 233 [.str [66]] [] (.tup [jI 1, zI]) [] := (A8 hk Ad (d := 60) (show An [] 60 233 [.str [66]] [] = some (.tup [jI 1, zI], []) by kernel_rfl) (by kernel_rfl) (by kernel_rfl)).2.2
theorem cl124_2 (hk : Kn W0) : cP W0 124 [jI 2] [] (.tup [.str [67], zI]) [] := (A8 hk Ad (d := 60) (show An [] 60 124 [jI 2] [] = some (.tup [.str [67], zI], []) by kernel_rfl) (by kernel_rfl) (by kernel_rfl)).2.2
theorem rc233_2 (hk : Kn W0) : cP W0 233 [.str [67]] [] (.tup [jI 2, zI]) [] := (A8 hk Ad (d := 60) (show An [] 60 233 [.str [67]] [] = some (.tup [jI 2, zI], []) by kernel_rfl) (by kernel_rfl) (by kernel_rfl)).2.2
theorem cl124_3 (hk : Kn W0) : cP W0 124 [jI 3] [] (.tup [.str [68], zI]) [] := (A8 hk Ad (d := 60) (show An [] 60 124 [jI 3] [] = some (.tup [.str [68], zI], []) by kernel_rfl) (by kernel_rfl) (by kernel_rfl)).2.2
theorem rc233_3 (hk : Kn W0) : cP W0 233 [.str [68]] [] (.tup [jI 3, zI]) [] := (A8 hk Ad (d := 60) (show An [] 60 233 [.str [68]] [] = some (.tup [jI 3, zI], []) by kernel_rfl) (by kernel_rfl) (by kernel_rfl)).2.2
theorem cl124_4 (hk : Kn W0) : cP W0 124 [jI 4] [] (.tup [.str [69], zI]) [] := (A8 hk Ad (d := 60) (show An [] 60 124 [jI 4] [] = some (.tup [.str [69], zI], []) by kernel_rfl) (by kernel_rfl) (by kernel_rfl)).2.2
theorem rc233_4 (hk : Kn W0) : cP W0 233 [.str [69]] [] (.tup [jI 4, zI]) [] := (A8 hk Ad (d := 60) (show An [] 60 233 [.str [69]] [] = some (.tup [jI 4, zI], []) by kernel_rfl) (by kernel_rfl) (by kernel_rfl)).2.2
theorem is191_1 (hk : Kn W0) : cP W0 191 [.str [83]] [] (.bool true) [] := (A8 hk Ad (d := 60) (show An [] 60 191 [.str [83]] [] = some (.bool true, []) by kernel_rfl) (by kernel_rfl) (by kernel_rfl)).2.2
theorem U1 (hk : Kn W0) : cP W0 122 [.str [83]] [] (.bool true) [] := (A8 hk Ad (d := 60) (show An [] 60 122 [.str [83]] [] = some (.bool true, []) by kernel_rfl) (by kernel_rfl) (by kernel_rfl)).2.2
theorem Q2 (hk : Kn W0) : cP W0 102 [.str [83]] [] (.bool true) [] := (A8 hk Ad (d := 60) (show An [] 60 102 [.str [83]] [] = some (.bool true, []) by kernel_rfl) (by kernel_rfl) (by kernel_rfl)).2.2
theorem Us (hk : Kn W0) : cP W0 216 [.str [83]] [] (.bool true) [] := (A8 hk Ad (d := 60) (show An [] 60 216 [.str [83]] [] = some (.bool true, []) by kernel_rfl) (by kernel_rfl) (by kernel_rfl)).2.2
theorem is191_2 (hk : Kn W0) : cP W0 191 [.str [84, 119, 111, 32, 120]] [] (.bool true) [] := (A8 hk Ad (d := 60) (show An [] 60 191 [.str [84, 119, 111, 32, 120]] [] = some (.bool true, []) by kernel_rfl) (by kernel_rfl) (by kernel_rfl)).2.2
theorem Uk (hk : Kn W0) : cP W0 122 [.str [84, 119, 111, 32, 120]] [] zB [] := (A8 hk Ad (d := 60) (show An [] 60 122 [.str [84, 119, 111, 32, 120]] [] = some (zB, []) by kernel_rfl) (by kernel_rfl) (by kernel_rfl)).2.2
theorem Py (hk : Kn W0) : cP W0 102 [.str [84, 119, 111, 32, 120]] [] (.bool true) [] := (A8 hk Ad (d := 60) (show An [] 60 102 [.str [84, 119, 111, 32, 120]] [] = some (.bool true, []) by kernel_rfl) (by kernel_rfl) (by kernel_rfl)).2.2
theorem is191_3 (hk : Kn W0) : cP W0 191 [.str [116, 104, 105, 114, 100]] [] (.bool true) [] := (A8 hk Ad (d := 60) (show An [] 60 191 [.str [116, 104, 105, 114, 100]] [] = some (.bool true, []) by kernel_rfl) (by kernel_rfl) (by kernel_rfl)).2.2
theorem U5 (hk : Kn W0) : cP W0 122 [.str [116, 104, 105, 114, 100]] [] (.bool true) [] := (A8 hk Ad (d := 60) (show An [] 60 122 [.str [116, 104, 105, 114, 100]] [] = some (.bool true, []) by kernel_rfl) (by kernel_rfl) (by kernel_rfl)).2.2
theorem Q1 (hk : Kn W0) : cP W0 102 [.str [116, 104, 105, 114, 100]] [] (.bool true) [] := (A8 hk Ad (d := 60) (show An [] 60 102 [.str [116, 104, 105, 114, 100]] [] = some (.bool true, []) by kernel_rfl) (by kernel_rfl) (by kernel_rfl)).2.2
theorem U8 (hk : Kn W0) : cP W0 216 [.str [116, 104, 105, 114, 100]] [] (.bool true) [] := (A8 hk Ad (d := 60) (show An [] 60 216 [.str [116, 104, 105, 114, 100]] [] = some (.bool true, []) by kernel_rfl) (by kernel_rfl) (by kernel_rfl)).2.2
theorem is191_0 (hk : Kn W0) : cP W0 191 [zT] [] zB [] := (A8 hk Ad (d := 60) (show An [] 60 191 [zT] [] = some (zB, []) by kernel_rfl) (by kernel_rfl) (by kernel_rfl)).2.2
theorem A22 (hk : Kn W0) : cP W0 123 [.str [84, 119, 111, 32, 120]] [] (.str [39, 84, 119, 111, 32, 120, 39]) [] := (A8 hk Ad (d := 60) (show An [] 60 123 [.str [84, 119, 111, 32, 120]] [] = some (.str [39, 84, 119, 111, 32, 120, 39], []) by kernel_rfl) (by kernel_rfl) (by kernel_rfl)).2.2
theorem U7 (hk : Kn W0) : cP W0 216 [.str [39, 84, 119, 111, 32, 120, 39]] [] zB [] := (A8 hk Ad (d := 60) (show An [] 60 216 [.str [39, 84, 119, 111, 32, 120, 39]] [] = some (zB, []) by kernel_rfl) (by kernel_rfl) (by kernel_rfl)).2.2
theorem J5 (hk : Kn W0) {rw : Nat} (h : rw < 8) : cP W0 125 [jI (IntKind.i64.wrap ((rw : Nat) + 1))] [] (.str [dB rw]) [] := by
 have : rw = 0 ∨ rw = 1 ∨ rw = 2 ∨ rw = 3 ∨ rw = 4 ∨ rw = 5 ∨ rw = 6 ∨ rw = 7 := by omega
 rcases this with rfl | rfl | rfl | rfl | rfl | rfl | rfl | rfl
 · exact dg125_0 hk
 · exact dg125_1 hk
 · exact dg125_2 hk
 · exact dg125_3 hk
 · exact dg125_4 hk
 · exact dg125_5 hk
 · exact dg125_6 hk
 · exact dg125_7 hk
theorem J6 (hk : Kn W0) {rw : Nat} (h : rw < 8) : cP W0 215 [jI ((rw + 1 : Nat))] [] (.str [dB rw]) [] := by
 have : rw = 0 ∨ rw = 1 ∨ rw = 2 ∨ rw = 3 ∨ rw = 4 ∨ rw = 5 ∨ rw = 6 ∨ rw = 7 := by omega
 rcases this with rfl | rfl | rfl | rfl | rfl | rfl | rfl | rfl
 · exact it215_0 hk
 · exact it215_1 hk
 · exact it215_2 hk
 · exact it215_3 hk
 · exact it215_4 hk
 · exact it215_5 hk
 · exact it215_6 hk
 · exact it215_7 hk
theorem Ja (hk : Kn W0) {rw : Nat} (h : rw < 8) : cP W0 237 [.str [dB rw]] [] (.tup [jI ((rw + 1 : Nat)), .nilIf]) [] := by
 have : rw = 0 ∨ rw = 1 ∨ rw = 2 ∨ rw = 3 ∨ rw = 4 ∨ rw = 5 ∨ rw = 6 ∨ rw = 7 := by omega
 rcases this with rfl | rfl | rfl | rfl | rfl | rfl | rfl | rfl
 · exact at237_0 hk
 · exact at237_1 hk
 · exact at237_2 hk
 · exact at237_3 hk
 · exact at237_4 hk
 · exact at237_5 hk
 · exact at237_6 hk
 · exact at237_7 hk
theorem J3 (hk : Kn W0) {cl : Nat} (h : cl < 5) : cP W0 124 [jI (cl : Nat)] [] (.tup [.str [cB cl], zI]) [] := by
 have : cl = 0 ∨ cl = 1 ∨ cl = 2 ∨ cl = 3 ∨ cl = 4 := by omega
 rcases this with rfl | rfl | rfl | rfl | rfl
 · exact cl124_0 hk
 · exact cl124_1 hk
 · exact cl124_2 hk
 · exact cl124_3 hk
 · exact cl124_4 hk
theorem J2 (hk : Kn W0) {cl : Nat} (h : cl < 5) : cP W0 233 [.str [cB cl]] [] (.tup [jI (cl : Nat), zI]) [] := by
 have : cl = 0 ∨ cl = 1 ∨ cl = 2 ∨ cl = 3 ∨ cl = 4 := by omega
 rcases this with rfl | rfl | rfl | rfl | rfl
 · exact rc233_0 hk
 · exact rc233_1 hk
 · exact rc233_2 hk
 · exact rc233_3 hk
 · exact rc233_4 hk
def KF58 : AFn := ⟨(sQ [wV 1 (.box 119 0), wV 2 (.move (.val zB))] (.seq (sQ [wV 3 (.fieldAddr 5 1), wV 4 (.load 1 false 3)] (.cond 4 (sQ [wV 5 (.load 6 true 1), wV 6 (.build [zT, zI, zI, zB, zB, zB] [(5, 1, (.val (.bool true)))]), wV 7 (.eqs false (.cons 0 1 false .s (.cons 1 1 false .i (.cons 2 1 false .i (.cons 3 1 false .b (.cons 4 1 false .b (.cons 5 1 false .b .nil)))))) 5 6), wM 2 7] .ret) .skip)) (sQ [wV 8 (.fieldAddr 0 1), wV 9 (.load 1 false 8), wV 10 (.bin .eql none 9 (.val zT)), wM 11 10, wF 12 11 (.fieldAddr 0 1), wF 13 11 (.load 1 false 12), wF 14 11 (kF 102 [13]), wV 15 (.pick 11 (.val (.bool true)) 14), wM 16 15, wT 17 16 (.fieldAddr 1 1), wT 18 16 (.load 1 false 17), wT 19 16 (.bin .geq none 18 (vI 0)), wV 20 (.pick 16 19 (.val zB)), wM 21 20, wT 22 21 (.fieldAddr 1 1), wT 23 21 (.load 1 false 22), wT 24 21 (.bin .lss none 23 (vI 200)), wV 25 (.pick 21 24 (.val zB)), wM 26 25, wT 27 26 (.fieldAddr 2 1), wT 28 26 (.load 1 false 27), wT 29 26 (.bin .geq none 28 (vI 0)), wV 30 (.pick 26 29 (.val zB)), wM 31 30, wT 32 31 (.fieldAddr 2 1), wT 33 31 (.load 1 false 32), wT 34 31 (.bin .lss none 33 (vI 52)), wV 35 (.pick 31 34 (.val zB)), wM 2 35] .ret))), [2], 36⟩
theorem KG58 : Au Tryz.prog 58 = some KF58 := by kernel_rfl
def KF121 : AFn := ⟨(sQ [wV 1 (.box 119 0), wV 2 (.move (.val zB))] (.seq (sQ [wV 4 (.fieldAddr 5 1), wV 5 (.load 1 false 4)] (.cond 5 (sQ [wV 6 (.fieldAddr 0 1), wV 7 (.load 1 false 6), wV 8 (.bin .eql none 7 (.val zT)), wM 9 8, wT 10 9 (.fieldAddr 1 1), wT 11 9 (.load 1 false 10), wT 12 9 (.bin .eql none 11 (vI 0)), wV 13 (.pick 9 12 (.val zB)), wM 14 13, wT 15 14 (.fieldAddr 2 1), wT 16 14 (.load 1 false 15), wT 17 14 (.bin .eql none 16 (vI 0)), wV 18 (.pick 14 17 (.val zB)), wM 19 18, wT 20 19 (.fieldAddr 3 1), wT 21 19 (.load 1 false 20), wT 22 19 (.un .not 21), wV 23 (.pick 19 22 (.val zB)), wM 24 23, wT 25 24 (.fieldAddr 4 1), wT 26 24 (.load 1 false 25), wT 27 24 (.un .not 26), wV 28 (.pick 24 27 (.val zB)), wM 2 28] .ret) .skip)) (sQ [wV 29 (.fieldAddr 0 1), wV 30 (.load 1 false 29), wV 31 (kF 191 [30]), wM 3 31] (sQ [wM 32 3, wM 33 32, wF 34 33 (.fieldAddr 0 1), wF 35 33 (.load 1 false 34), wF 36 33 (.bin .eql none 35 (.val zT)), wV 37 (.pick 33 (.val (.bool true)) 36), wM 38 37, wT 39 38 (.fieldAddr 1 1), wT 40 38 (.load 1 false 39), wT 41 38 (.bin .geq none 40 (vI 0)), wV 42 (.pick 38 41 (.val zB)), wM 43 42, wT 44 43 (.fieldAddr 1 1), wT 45 43 (.load 1 false 44), wT 46 43 (.bin .leq none 45 (vI 199)), wV 47 (.pick 43 46 (.val zB)), wM 48 47, wT 49 48 (.fieldAddr 2 1), wT 50 48 (.load 1 false 49), wT 51 48 (.bin .geq none 50 (vI 0)), wV 52 (.pick 48 51 (.val zB)), wM 53 52, wT 54 53 (.fieldAddr 2 1), wT 55 53 (.load 1 false 54), wT 56 53 (.bin .leq none 55 (vI 51)), wV 57 (.pick 53 56 (.val zB)), wM 2 57] .ret)))), [2], 58⟩
theorem Zk : Au Tryz.prog 121 = some KF121 := by kernel_rfl
theorem Gn (hk : Kn W0) {r c : Int} {fr fc : Bool} (hr : 0 ≤ r ∧ r < 8) (hc : 0 ≤ c ∧ c < 5) : cP W0 58 [Uy r c fr fc] [] (.bool true) [] := by
 have hg := grK hk
 refine A3.of_fnM KG58 (by simp) rfl ?_
 refine sO (mV (v := .ptr 0 0) rfl (mV rfl (mn (sq (sO (mV rfl (mV rfl (mn (cF rfl (kM (sO (mV rfl (mV rfl (mBk hg gN (c := true) rfl rfl rfl (mV rfl (mG (mG (mG (mV rfl (mV rfl (mV rfl (mV rfl (mT rfl (mV rfl (mV rfl (mV rfl (mV rfl (mT rfl (mV rfl (mV rfl (mV rfl (mV rfl (mT rfl (mV rfl (mV rfl (mV rfl (mV rfl (mT rfl (mV rfl (mV rfl (mn ?_)))))))))))))))))))))))))))))))))))))))))
 exact ExM.ret (A4 trivial rfl rfl 100 rfl rfl)
theorem L8 (hk : Kn W0) {r c : Int} {fr fc : Bool} (hr : 0 ≤ r ∧ r < 8) (hc : 0 ≤ c ∧ c < 5) : cP W0 121 [Uy r c fr fc] [] (.bool true) [] := by
 have hg := grK hk
 refine A3.of_fnM Zk (by simp) rfl ?_
 refine sO (mV (v := .ptr 0 0) rfl (mV rfl (mn (sq (sO (mV rfl (mV rfl (mn (cF rfl (kM (sO (mV rfl (mV rfl (Ek hg gN (c := false) rfl rfl (A3.pure rfl rfl (is191_0 hk) _) rfl (mV rfl (mn (sO (mV rfl (mV rfl (mV rfl (mV rfl (mBk hg (gS rfl) (c := true) rfl rfl rfl (mV rfl (mV rfl (mV rfl (mV rfl (mT rfl (mV rfl (mV rfl (mV rfl (mV rfl (mT rfl (mV rfl (mV rfl (mV rfl (mV rfl (mT rfl (mV rfl (mV rfl (mV rfl (mV rfl (mT rfl (mV rfl (mV rfl (mn ?_)))))))))))))))))))))))))))))))))))))))))))))
 exact ExM.ret (A4 trivial rfl rfl 100 rfl rfl)
theorem Gw (hk : Kn W0) {r c : Int} {fr fc : Bool} (hr : 0 ≤ r ∧ r < 8) (hc : 0 ≤ c ∧ c < 5) : cP W0 58 [A4d r c fr fc] [] (.bool true) [] := by
 have hg := grK hk
 refine A3.of_fnM KG58 (by simp) rfl ?_
 refine sO (mV (v := .ptr 0 0) rfl (mV rfl (mn (sq (sO (mV rfl (mV rfl (mn (cF rfl (kM (sO (mV rfl (mV rfl (mBk hg gN (c := false) rfl rfl rfl (mV rfl (mV rfl (mV rfl (Ek hg (gS rfl) (c := true) rfl rfl (A3.pure rfl rfl (Q2 hk) _) rfl (mV rfl (mV rfl (mV rfl (mV rfl (mT rfl (mV rfl (mV rfl (mV rfl (mV rfl (mT rfl (mV rfl (mV rfl (mV rfl (mV rfl (mT rfl (mV rfl (mV rfl (mV rfl (mV rfl (mT rfl (mV rfl (mV rfl (mn ?_)))))))))))))))))))))))))))))))))))))))))
 exact ExM.ret (A4 trivial rfl rfl 100 rfl rfl)
theorem Lc (hk : Kn W0) {r c : Int} {fr fc : Bool} (hr : 0 ≤ r ∧ r < 8) (hc : 0 ≤ c ∧ c < 5) : cP W0 121 [A4d r c fr fc] [] (.bool true) [] := by
 have hg := grK hk
 refine A3.of_fnM Zk (by simp) rfl ?_
 refine sO (mV (v := .ptr 0 0) rfl (mV rfl (mn (sq (sO (mV rfl (mV rfl (mn (cF rfl (kM (sO (mV rfl (mV rfl (Ek hg gN (c := true) rfl rfl (A3.pure rfl rfl (is191_1 hk) _) rfl (mV rfl (mn (sO (mV rfl (mV rfl (mG (mG (mG (mV rfl (mV rfl (mV rfl (mV rfl (mT rfl (mV rfl (mV rfl (mV rfl (mV rfl (mT rfl (mV rfl (mV rfl (mV rfl (mV rfl (mT rfl (mV rfl (mV rfl (mV rfl (mV rfl (mT rfl (mV rfl (mV rfl (mn ?_)))))))))))))))))))))))))))))))))))))))))))))
 exact ExM.ret (A4 trivial rfl rfl 100 rfl rfl)
theorem Gv (hk : Kn W0) {r c : Int} {fr fc : Bool} (hr : 0 ≤ r ∧ r < 8) (hc : 0 ≤ c ∧ c < 5) : cP W0 58 [A43 r c fr fc] [] (.bool true) [] := by
 have hg := grK hk
 refine A3.of_fnM KG58 (by simp) rfl ?_
 refine sO (mV (v := .ptr 0 0) rfl (mV rfl (mn (sq (sO (mV rfl (mV rfl (mn (cF rfl (kM (sO (mV rfl (mV rfl (mBk hg gN (c := false) rfl rfl rfl (mV rfl (mV rfl (mV rfl (Ek hg (gS rfl) (c := true) rfl rfl (A3.pure rfl rfl (Py hk) _) rfl (mV rfl (mV rfl (mV rfl (mV rfl (mT rfl (mV rfl (mV rfl (mV rfl (mV rfl (mT rfl (mV rfl (mV rfl (mV rfl (mV rfl (mT rfl (mV rfl (mV rfl (mV rfl (mV rfl (mT rfl (mV rfl (mV rfl (mn ?_)))))))))))))))))))))))))))))))))))))))))
 exact ExM.ret (A4 trivial rfl rfl 100 rfl rfl)
theorem La (hk : Kn W0) {r c : Int} {fr fc : Bool} (hr : 0 ≤ r ∧ r < 8) (hc : 0 ≤ c ∧ c < 5) : cP W0 121 [A43 r c fr fc] [] (.bool true) [] := by
 have hg := grK hk
 refine A3.of_fnM Zk (by simp) rfl ?_
 refine sO (mV (v := .ptr 0 0) rfl (mV rfl (mn (sq (sO (mV rfl (mV rfl (mn (cF rfl (kM (sO (mV rfl (mV rfl (Ek hg gN (c := true) rfl rfl (A3.pure rfl rfl (is191_2 hk) _) rfl (mV rfl (mn (sO (mV rfl (mV rfl (mG (mG (mG (mV rfl (mV rfl (mV rfl (mV rfl (mT rfl (mV rfl (mV rfl (mV rfl (mV rfl (mT rfl (mV rfl (mV rfl (mV rfl (mV rfl (mT rfl (mV rfl (mV rfl (mV rfl (mV rfl (mT rfl (mV rfl (mV rfl (mn ?_)))))))))))))))))))))))))))))))))))))))))))))
 exact ExM.ret (A4 trivial rfl rfl 100 rfl rfl)
theorem Gp (hk : Kn W0) {r c : Int} {fr fc : Bool} (hr : 0 ≤ r ∧ r < 8) (hc : 0 ≤ c ∧ c < 5) : cP W0 58 [A1z r c fr fc] [] (.bool true) [] := by
 have hg := grK hk
 refine A3.of_fnM KG58 (by simp) rfl ?_
 refine sO (mV (v := .ptr 0 0) rfl (mV rfl (mn (sq (sO (mV rfl (mV rfl (mn (cF rfl (kM (sO (mV rfl (mV rfl (mBk hg gN (c := false) rfl rfl rfl (mV rfl (mV rfl (mV rfl (Ek hg (gS rfl) (c := true) rfl rfl (A3.pure rfl rfl (Q1 hk) _) rfl (mV rfl (mV rfl (mV rfl (mV rfl (mT rfl (mV rfl (mV rfl (mV rfl (mV rfl (mT rfl (mV rfl (mV rfl (mV rfl (mV rfl (mT rfl (mV rfl (mV rfl (mV rfl (mV rfl (mT rfl (mV rfl (mV rfl (mn ?_)))))))))))))))))))))))))))))))))))))))))
 exact ExM.ret (A4 trivial rfl rfl 100 rfl rfl)
theorem Le (hk : Kn W0) {r c : Int} {fr fc : Bool} (hr : 0 ≤ r ∧ r < 8) (hc : 0 ≤ c ∧ c < 5) : cP W0 121 [A1z r c fr fc] [] (.bool true) [] := by
 have hg := grK hk
 refine A3.of_fnM Zk (by simp) rfl ?_
 refine sO (mV (v := .ptr 0 0) rfl (mV rfl (mn (sq (sO (mV rfl (mV rfl (mn (cF rfl (kM (sO (mV rfl (mV rfl (Ek hg gN (c := true) rfl rfl (A3.pure rfl rfl (is191_3 hk) _) rfl (mV rfl (mn (sO (mV rfl (mV rfl (mG (mG (mG (mV rfl (mV rfl (mV rfl (mV rfl (mT rfl (mV rfl (mV rfl (mV rfl (mV rfl (mT rfl (mV rfl (mV rfl (mV rfl (mV rfl (mT rfl (mV rfl (mV rfl (mV rfl (mV rfl (mT rfl (mV rfl (mV rfl (mn ?_)))))))))))))))))))))))))))))))))))))))))))))
 exact ExM.ret (A4 trivial rfl rfl 100 rfl rfl)
theorem E9 {s t : Bz} {b : Bool} (h1 : Lib.trimPrefix s [36] = t) (h2 : Lib.hasPrefix s [36] = b) : cP W0 43 [.str s, .str [36]] [] (.tup [.str t, .bool b]) [] := by
 subst h1; subst h2; exact Bd
theorem J4 {s : Bz} {i : Int} (h : Kz s 33 = i) (hs : s.length < 4611686018427387904) : cP W0 295 [.str s, .int .u8 33] [] (jI i) [] := by
 subst h; exact lLast 33 hs
theorem wrS {x : Int} (h : 0 ≤ x) (h2 : x < 100) : IntKind.i64.wrap (x - 1) = x - 1 := w64 (by omega) (by omega)
theorem A4n (hk : Kn W0) {cl rw : Nat} (hc : cl < 5) (hr : rw < 8) : cP W0 76 [Tv (rw : Nat) (cl : Nat)] [] (.tup [.str [cB cl, dB rw], zI]) [] := rt00 hk (by rw [Cj hc]; omega) (by rw [Cm hr]; omega) (J5 hk hr) (J3 hk hc) (L8 hk (by omega) (by omega))
theorem rd00' (hk : Kn W0) {cl rw : Nat} (hc : cl < 5) (hr : rw < 8) : cP W0 172 [.str [cB cl, dB rw]] [] (N235 (rw : Nat) (cl : Nat)) [] := by
 have h := rr00 hk (a20 := (cl : Nat)) (a30 := (rw + 1 : Nat)) (c := cB cl) (d := dB rw) (by rw [Cj hc]; omega) (by rw [Cm hr]; omega) (by rw [wrS (by omega) (by omega)]; exact Gn hk (by omega) (by omega)) (J6 hk hr) (Ja hk hr) (E9 (by revert hr; revert rw; revert hc; revert cl; decide) (by revert hr; revert rw; revert hc; revert cl; decide)) (J2 hk hc) (E9 (by revert hr; revert rw; revert hc; revert cl; decide) (by revert hr; revert rw; revert hc; revert cl; decide)) (J4 (by revert hr; revert rw; revert hc; revert cl; decide) (by simp))
 rw [wrS (by omega) (by omega), show ((rw + 1 : Nat) : Int) - 1 = (rw : Nat) by omega] at h
 exact h
theorem A4o (hk : Kn W0) {cl rw : Nat} (hc : cl < 5) (hr : rw < 8) : Af W0 [cB cl, dB rw] [] (rw : Nat) (cl : Nat) false false := ⟨Qc hk (by revert hr; revert rw; revert hc; revert cl; decide) (by revert hr; revert rw; revert hc; revert cl; decide) ⟨_, _, _, _, _, _, _, rd00' hk hc hr, rfl⟩, by simp, by revert hr; revert rw; revert hc; revert cl; decide, by revert hr; revert rw; revert hc; revert cl; decide, by simp, rd00' hk hc hr, Gn hk (by omega) (by omega)⟩
theorem tx01 (hk : Kn W0) {cl rw : Nat} (hc : cl < 5) (hr : rw < 8) : cP W0 76 [Xq (rw : Nat) (cl : Nat)] [] (.tup [.str [cB cl, 36, dB rw], zI]) [] := rt01 hk (by rw [Cj hc]; omega) (by rw [Cm hr]; omega) (J5 hk hr) (J3 hk hc) (L8 hk (by omega) (by omega))
theorem rd01' (hk : Kn W0) {cl rw : Nat} (hc : cl < 5) (hr : rw < 8) : cP W0 172 [.str [cB cl, 36, dB rw]] [] (N236 (rw : Nat) (cl : Nat)) [] := by
 have h := rr01 hk (a20 := (cl : Nat)) (a30 := (rw + 1 : Nat)) (c := cB cl) (d := dB rw) (by rw [Cj hc]; omega) (by rw [Cm hr]; omega) (by rw [wrS (by omega) (by omega)]; exact Gn hk (by omega) (by omega)) (J6 hk hr) (Ja hk hr) (E9 (by revert hr; revert rw; revert hc; revert cl; decide) (by revert hr; revert rw; revert hc; revert cl; decide)) (J2 hk hc) (E9 (by revert hr; revert rw; revert hc; revert cl; decide) (by revert hr; revert rw; revert hc; revert cl; decide)) (J4 (by revert hr; revert rw; revert hc; revert cl; decide) (by simp))
 rw [wrS (by omega) (by omega), show ((rw + 1 : Nat) : Int) - 1 = (rw : Nat) by omega] at h
 exact h
theorem rf01 (hk : Kn W0) {cl rw : Nat} (hc : cl < 5) (hr : rw < 8) : Af W0 [cB cl, 36, dB rw] [] (rw : Nat) (cl : Nat) true false := ⟨Qc hk (by revert hr; revert rw; revert hc; revert cl; decide) (by revert hr; revert rw; revert hc; revert cl; decide) ⟨_, _, _, _, _, _, _, rd01' hk hc hr, rfl⟩, by simp, by revert hr; revert rw; revert hc; revert cl; decide, by revert hr; revert rw; revert hc; revert cl; decide, by simp, rd01' hk hc hr, Gn hk (by omega) (by omega)⟩
theorem tx02 (hk : Kn W0) {cl rw : Nat} (hc : cl < 5) (hr : rw < 8) : cP W0 76 [Xh (rw : Nat) (cl : Nat)] [] (.tup [.str [36, cB cl, dB rw], zI]) [] := rt02 hk (by rw [Cj hc]; omega) (by rw [Cm hr]; omega) (J5 hk hr) (J3 hk hc) (L8 hk (by omega) (by omega))
theorem rd02' (hk : Kn W0) {cl rw : Nat} (hc : cl < 5) (hr : rw < 8) : cP W0 172 [.str [36, cB cl, dB rw]] [] (N237 (rw : Nat) (cl : Nat)) [] := by
 have h := rr02 hk (a20 := (cl : Nat)) (a30 := (rw + 1 : Nat)) (c := cB cl) (d := dB rw) (by rw [Cj hc]; omega) (by rw [Cm hr]; omega) (by rw [wrS (by omega) (by omega)]; exact Gn hk (by omega) (by omega)) (J6 hk hr) (Ja hk hr) (E9 (by revert hr; revert rw; revert hc; revert cl; decide) (by revert hr; revert rw; revert hc; revert cl; decide)) (J2 hk hc) (E9 (by revert hr; revert rw; revert hc; revert cl; decide) (by revert hr; revert rw; revert hc; revert cl; decide)) (J4 (by revert hr; revert rw; revert hc; revert cl; decide) (by simp))
 rw [wrS (by omega) (by omega), show ((rw + 1 : Nat) : Int) - 1 = (rw : Nat) by omega] at h
 exact h
theorem rf02 (hk : Kn W0) {cl rw : Nat} (hc : cl < 5) (hr : rw < 8) : Af W0 [36, cB cl, dB rw] [] (rw : Nat) (cl : Nat) false true := ⟨Qc hk (by revert hr; revert rw; revert hc; revert cl; decide) (by revert hr; revert rw; revert hc; revert cl; decide) ⟨_, _, _, _, _, _, _, rd02' hk hc hr, rfl⟩, by simp, by revert hr; revert rw; revert hc; revert cl; decide, by revert hr; revert rw; revert hc; revert cl; decide, by simp, rd02' hk hc hr, Gn hk (by omega) (by omega)⟩
theorem tx10 (hk : Kn W0) {cl rw : Nat} (hc : cl < 5) (hr : rw < 8) : cP W0 76 [A34 (rw : Nat) (cl : Nat)] [] (.tup [.str [83, 33, cB cl, dB rw], zI]) [] := rt10 hk (by rw [Cj hc]; omega) (by rw [Cm hr]; omega) (J5 hk hr) (J3 hk hc) (U1 hk) (Lc hk (by omega) (by omega))
theorem rd10' (hk : Kn W0) {cl rw : Nat} (hc : cl < 5) (hr : rw < 8) : cP W0 172 [.str [83, 33, cB cl, dB rw]] [] (N239 (rw : Nat) (cl : Nat)) [] := by
 have h := rr10 hk (a20 := (cl : Nat)) (a30 := (rw + 1 : Nat)) (c := cB cl) (d := dB rw) (by rw [Cj hc]; omega) (by rw [Cm hr]; omega) (by rw [wrS (by omega) (by omega)]; exact Gw hk (by omega) (by omega)) (J6 hk hr) (Ja hk hr) (E9 (by revert hr; revert rw; revert hc; revert cl; decide) (by revert hr; revert rw; revert hc; revert cl; decide)) (J2 hk hc) (E9 (by revert hr; revert rw; revert hc; revert cl; decide) (by revert hr; revert rw; revert hc; revert cl; decide)) (Q2 hk) (Us hk) (J4 (by revert hr; revert rw; revert hc; revert cl; decide) (by simp))
 rw [wrS (by omega) (by omega), show ((rw + 1 : Nat) : Int) - 1 = (rw : Nat) by omega] at h
 exact h
theorem rf10 (hk : Kn W0) {cl rw : Nat} (hc : cl < 5) (hr : rw < 8) : Af W0 [83, 33, cB cl, dB rw] [83] (rw : Nat) (cl : Nat) false false := ⟨On hk (b := 83) (w := []) (c := [cB cl, dB rw]) (by decide) (by decide) (by revert hr; revert rw; revert hc; revert cl; decide) ⟨_, _, _, _, _, _, _, rd10' hk hc hr, rfl⟩, by simp, by revert hr; revert rw; revert hc; revert cl; decide, by revert hr; revert rw; revert hc; revert cl; decide, by simp, rd10' hk hc hr, Gw hk (by omega) (by omega)⟩
theorem tx11 (hk : Kn W0) {cl rw : Nat} (hc : cl < 5) (hr : rw < 8) : cP W0 76 [A4h (rw : Nat) (cl : Nat)] [] (.tup [.str [83, 33, cB cl, 36, dB rw], zI]) [] := rt11 hk (by rw [Cj hc]; omega) (by rw [Cm hr]; omega) (J5 hk hr) (J3 hk hc) (U1 hk) (Lc hk (by omega) (by omega))
theorem rd11' (hk : Kn W0) {cl rw : Nat} (hc : cl < 5) (hr : rw < 8) : cP W0 172 [.str [83, 33, cB cl, 36, dB rw]] [] (N241 (rw : Nat) (cl : Nat)) [] := by
 have h := rr11 hk (a20 := (cl : Nat)) (a30 := (rw + 1 : Nat)) (c := cB cl) (d := dB rw) (by rw [Cj hc]; omega) (by rw [Cm hr]; omega) (by rw [wrS (by omega) (by omega)]; exact Gw hk (by omega) (by omega)) (J6 hk hr) (Ja hk hr) (E9 (by revert hr; revert rw; revert hc; revert cl; decide) (by revert hr; revert rw; revert hc; revert cl; decide)) (J2 hk hc) (E9 (by revert hr; revert rw; revert hc; revert cl; decide) (by revert hr; revert rw; revert hc; revert cl; decide)) (Q2 hk) (Us hk) (J4 (by revert hr; revert rw; revert hc; revert cl; decide) (by simp))
 rw [wrS (by omega) (by omega), show ((rw + 1 : Nat) : Int) - 1 = (rw : Nat) by omega] at h
 exact h
theorem rf11 (hk : Kn W0) {cl rw : Nat} (hc : cl < 5) (hr : rw < 8) : Af W0 [83, 33, cB cl, 36, dB rw] [83] (rw : Nat) (cl : Nat) true false := ⟨On hk (b := 83) (w := []) (c := [cB cl, 36, dB rw]) (by decide) (by decide) (by revert hr; revert rw; revert hc; revert cl; decide) ⟨_, _, _, _, _, _, _, rd11' hk hc hr, rfl⟩, by simp, by revert hr; revert rw; revert hc; revert cl; decide, by revert hr; revert rw; revert hc; revert cl; decide, by simp, rd11' hk hc hr, Gw hk (by omega) (by omega)⟩
theorem tx12 (hk : Kn W0) {cl rw : Nat} (hc : cl < 5) (hr : rw < 8) : cP W0 76 [A1y (rw : Nat) (cl : Nat)] [] (.tup [.str [83, 33, 36, cB cl, dB rw], zI]) [] := rt12 hk (by rw [Cj hc]; omega) (by rw [Cm hr]; omega) (J5 hk hr) (J3 hk hc) (U1 hk) (Lc hk (by omega) (by omega))
theorem rd12' (hk : Kn W0) {cl rw : Nat} (hc : cl < 5) (hr : rw < 8) : cP W0 172 [.str [83, 33, 36, cB cl, dB rw]] [] (N243 (rw : Nat) (cl : Nat)) [] := by
 have h := rr12 hk (a20 := (cl : Nat)) (a30 := (rw + 1 : Nat)) (c := cB cl) (d := dB rw) (by rw [Cj hc]; omega) (by rw [Cm hr]; omega) (by rw [wrS (by omega) (by omega)]; exact Gw hk (by omega) (by omega)) (J6 hk hr) (Ja hk hr) (E9 (by revert hr; revert rw; revert hc; revert cl; decide) (by revert hr; revert rw; revert hc; revert cl; decide)) (J2 hk hc) (E9 (by revert hr; revert rw; revert hc; revert cl; decide) (by revert hr; revert rw; revert hc; revert cl; decide)) (Q2 hk) (Us hk) (J4 (by revert hr; revert rw; revert hc; revert cl; decide) (by simp))
 rw [wrS (by omega) (by omega), show ((rw + 1 : Nat) : Int) - 1 = (rw : Nat) by omega] at h
 exact h
theorem rf12 (hk : Kn W0) {cl rw : Nat} (hc : cl < 5) (hr : rw < 8) : Af W0 [83, 33, 36, cB cl, dB rw] [83] (rw : Nat) (cl : Nat) false true := ⟨On hk (b := 83) (w := []) (c := [36, cB cl, dB rw]) (by decide) (by decide) (by revert hr; revert rw; revert hc; revert cl; decide) ⟨_, _, _, _, _, _, _, rd12' hk hc hr, rfl⟩, by simp, by revert hr; revert rw; revert hc; revert cl; decide, by revert hr; revert rw; revert hc; revert cl; decide, by simp, rd12' hk hc hr, Gw hk (by omega) (by omega)⟩
theorem tx20 (hk : Kn W0) {cl rw : Nat} (hc : cl < 5) (hr : rw < 8) : cP W0 76 [A3y (rw : Nat) (cl : Nat)] [] (.tup [.str [39, 84, 119, 111, 32, 120, 39, 33, cB cl, dB rw], zI]) [] := rt20 hk (by rw [Cj hc]; omega) (by rw [Cm hr]; omega) (J5 hk hr) (J3 hk hc) (A22 hk) (Uk hk) (La hk (by omega) (by omega))
theorem rd20' (hk : Kn W0) {cl rw : Nat} (hc : cl < 5) (hr : rw < 8) : cP W0 172 [.str [39, 84, 119, 111, 32, 120, 39, 33, cB cl, dB rw]] [] (N245 (rw : Nat) (cl : Nat)) [] := by
 have h := rr20 hk (a20 := (cl : Nat)) (a30 := (rw + 1 : Nat)) (c := cB cl) (d := dB rw) (by rw [Cj hc]; omega) (by rw [Cm hr]; omega) (by rw [wrS (by omega) (by omega)]; exact Gv hk (by omega) (by omega)) (J6 hk hr) (Ja hk hr) (E9 (by revert hr; revert rw; revert hc; revert cl; decide) (by revert hr; revert rw; revert hc; revert cl; decide)) (J2 hk hc) (E9 (by revert hr; revert rw; revert hc; revert cl; decide) (by revert hr; revert rw; revert hc; revert cl; decide)) (Py hk) (U7 hk) (J4 (by revert hr; revert rw; revert hc; revert cl; decide) (by simp))
 rw [wrS (by omega) (by omega), show ((rw + 1 : Nat) : Int) - 1 = (rw : Nat) by omega] at h
 exact h
theorem rf20 (hk : Kn W0) {cl rw : Nat} (hc : cl < 5) (hr : rw < 8) : Af W0 [39, 84, 119, 111, 32, 120, 39, 33, cB cl, dB rw] [84, 119, 111, 32, 120] (rw : Nat) (cl : Nat) false false := ⟨X9 hk (c := [cB cl, dB rw]) (by revert hr; revert rw; revert hc; revert cl; decide) ⟨_, _, _, _, _, _, _, rd20' hk hc hr, rfl⟩, by simp, by revert hr; revert rw; revert hc; revert cl; decide, by revert hr; revert rw; revert hc; revert cl; decide, by simp, rd20' hk hc hr, Gv hk (by omega) (by omega)⟩
theorem tx21 (hk : Kn W0) {cl rw : Nat} (hc : cl < 5) (hr : rw < 8) : cP W0 76 [A47 (rw : Nat) (cl : Nat)] [] (.tup [.str [39, 84, 119, 111, 32, 120, 39, 33, cB cl, 36, dB rw], zI]) [] := rt21 hk (by rw [Cj hc]; omega) (by rw [Cm hr]; omega) (J5 hk hr) (J3 hk hc) (A22 hk) (Uk hk) (La hk (by omega) (by omega))
theorem rd21' (hk : Kn W0) {cl rw : Nat} (hc : cl < 5) (hr : rw < 8) : cP W0 172 [.str [39, 84, 119, 111, 32, 120, 39, 33, cB cl, 36, dB rw]] [] (N247 (rw : Nat) (cl : Nat)) [] := by
 have h := rr21 hk (a20 := (cl : Nat)) (a30 := (rw + 1 : Nat)) (c := cB cl) (d := dB rw) (by rw [Cj hc]; omega) (by rw [Cm hr]; omega) (by rw [wrS (by omega) (by omega)]; exact Gv hk (by omega) (by omega)) (J6 hk hr) (Ja hk hr) (E9 (by revert hr; revert rw; revert hc; revert cl; decide) (by revert hr; revert rw; revert hc; revert cl; decide)) (J2 hk hc) (E9 (by revert hr; revert rw; revert hc; revert cl; decide) (by revert hr; revert rw; revert hc; revert cl; decide)) (Py hk) (U7 hk) (J4 (by revert hr; revert rw; revert hc; revert cl; decide) (by simp))
 rw [wrS (by omega) (by omega), show ((rw + 1 : Nat) : Int) - 1 = (rw : Nat) by omega] at h
 exact h
theorem rf21 (hk : Kn W0) {cl rw : Nat} (hc : cl < 5) (hr : rw < 8) : Af W0 [39, 84, 119, 111, 32, 120, 39, 33, cB cl, 36, dB rw] [84, 119, 111, 32, 120] (rw : Nat) (cl : Nat) true false := ⟨X9 hk (c := [cB cl, 36, dB rw]) (by revert hr; revert rw; revert hc; revert cl; decide) ⟨_, _, _, _, _, _, _, rd21' hk hc hr, rfl⟩, by simp, by revert hr; revert rw; revert hc; revert cl; decide, by revert hr; revert rw; revert hc; revert cl; decide, by simp, rd21' hk hc hr, Gv hk (by omega) (by omega)⟩
theorem tx22 (hk : Kn W0) {cl rw : Nat} (hc : cl < 5) (hr : rw < 8) : cP W0 76 [A29 (rw : Nat) (cl : Nat)] [] (.tup [.str [39, 84, 119, 111, 32, 120, 39, 33, 36, cB cl, dB rw], zI]) [] := rt22 hk (by rw [Cj hc]; omega) (by rw [Cm hr]; omega) (J5 hk hr) (J3 hk hc) (A22 hk) (Uk hk) (La hk (by omega) (by omega))
theorem rd22' (hk : Kn W0) {cl rw : Nat} (hc : cl < 5) (hr : rw < 8) : cP W0 172 [.str [39, 84, 119, 111, 32, 120, 39, 33, 36, cB cl, dB rw]] [] (N249 (rw : Nat) (cl : Nat)) [] := by
 have h := rr22 hk (a20 := (cl : Nat)) (a30 := (rw + 1 : Nat)) (c := cB cl) (d := dB rw) (by rw [Cj hc]; omega) (by rw [Cm hr]; omega) (by rw [wrS (by omega) (by omega)]; exact Gv hk (by omega) (by omega)) (J6 hk hr) (Ja hk hr) (E9 (by revert hr; revert rw; revert hc; revert cl; decide) (by revert hr; revert rw; revert hc; revert cl; decide)) (J2 hk hc) (E9 (by revert hr; revert rw; revert hc; revert cl; decide) (by revert hr; revert rw; revert hc; revert cl; decide)) (Py hk) (U7 hk) (J4 (by revert hr; revert rw; revert hc; revert cl; decide) (by simp))
 rw [wrS (by omega) (by omega), show ((rw + 1 : Nat) : Int) - 1 = (rw : Nat) by omega] at h
 exact h
theorem rf22 (hk : Kn W0) {cl rw : Nat} (hc : cl < 5) (hr : rw < 8) : Af W0 [39, 84, 119, 111, 32, 120, 39, 33, 36, cB cl, dB rw] [84, 119, 111, 32, 120] (rw : Nat) (cl : Nat) false true := ⟨X9 hk (c := [36, cB cl, dB rw]) (by revert hr; revert rw; revert hc; revert cl; decide) ⟨_, _, _, _, _, _, _, rd22' hk hc hr, rfl⟩, by simp, by revert hr; revert rw; revert hc; revert cl; decide, by revert hr; revert rw; revert hc; revert cl; decide, by simp, rd22' hk hc hr, Gv hk (by omega) (by omega)⟩
theorem tx30 (hk : Kn W0) {cl rw : Nat} (hc : cl < 5) (hr : rw < 8) : cP W0 76 [A3w (rw : Nat) (cl : Nat)] [] (.tup [.str [116, 104, 105, 114, 100, 33, cB cl, dB rw], zI]) [] := rt30 hk (by rw [Cj hc]; omega) (by rw [Cm hr]; omega) (J5 hk hr) (J3 hk hc) (U5 hk) (Le hk (by omega) (by omega))
theorem rd30' (hk : Kn W0) {cl rw : Nat} (hc : cl < 5) (hr : rw < 8) : cP W0 172 [.str [116, 104, 105, 114, 100, 33, cB cl, dB rw]] [] (N251 (rw : Nat) (cl : Nat)) [] := by
 have h := rr30 hk (a20 := (cl : Nat)) (a30 := (rw + 1 : Nat)) (c := cB cl) (d := dB rw) (by rw [Cj hc]; omega) (by rw [Cm hr]; omega) (by rw [wrS (by omega) (by omega)]; exact Gp hk (by omega) (by omega)) (J6 hk hr) (Ja hk hr) (E9 (by revert hr; revert rw; revert hc; revert cl; decide) (by revert hr; revert rw; revert hc; revert cl; decide)) (J2 hk hc) (E9 (by revert hr; revert rw; revert hc; revert cl; decide) (by revert hr; revert rw; revert hc; revert cl; decide)) (Q1 hk) (U8 hk) (J4 (by revert hr; revert rw; revert hc; revert cl; decide) (by simp))
 rw [wrS (by omega) (by omega), show ((rw + 1 : Nat) : Int) - 1 = (rw : Nat) by omega] at h
 exact h
theorem rf30 (hk : Kn W0) {cl rw : Nat} (hc : cl < 5) (hr : rw < 8) : Af W0 [116, 104, 105, 114, 100, 33, cB cl, dB rw] [116, 104, 105, 114, 100] (rw : Nat) (cl : Nat) false false := ⟨On hk (b := 116) (w := [104, 105, 114, 100]) (c := [cB cl, dB rw]) (by decide) (by decide) (by revert hr; revert rw; revert hc; revert cl; decide) ⟨_, _, _, _, _, _, _, rd30' hk hc hr, rfl⟩, by simp, by revert hr; revert rw; revert hc; revert cl; decide, by revert hr; revert rw; revert hc; revert cl; decide, by simp, rd30' hk hc hr, Gp hk (by omega) (by omega)⟩
theorem tx31 (hk : Kn W0) {cl rw : Nat} (hc : cl < 5) (hr : rw < 8) : cP W0 76 [A2w (rw : Nat) (cl : Nat)] [] (.tup [.str [116, 104, 105, 114, 100, 33, cB cl, 36, dB rw], zI]) [] := rt31 hk (by rw [Cj hc]; omega) (by rw [Cm hr]; omega) (J5 hk hr) (J3 hk hc) (U5 hk) (Le hk (by omega) (by omega))
theorem rd31' (hk : Kn W0) {cl rw : Nat} (hc : cl < 5) (hr : rw < 8) : cP W0 172 [.str [116, 104, 105, 114, 100, 33, cB cl, 36, dB rw]] [] (N253 (rw : Nat) (cl : Nat)) [] := by
 have h := rr31 hk (a20 := (cl : Nat)) (a30 := (rw + 1 : Nat)) (c := cB cl) (d := dB rw) (by rw [Cj hc]; omega) (by rw [Cm hr]; omega) (by rw [wrS (by omega) (by omega)]; exact Gp hk (by omega) (by omega)) (J6 hk hr) (Ja hk hr) (E9 (by revert hr; revert rw; revert hc; revert cl; decide) (by revert hr; revert rw; revert hc; revert cl; decide)) (J2 hk hc) (E9 (by revert hr; revert rw; revert hc; revert cl; decide) (by revert hr; revert rw; revert hc; revert cl; decide)) (Q1 hk) (U8 hk) (J4 (by revert hr; revert rw; revert hc; revert cl; decide) (by simp))
 rw [wrS (by omega) (by omega), show ((rw + 1 : Nat) : Int) - 1 = (rw : Nat) by omega] at h
 exact h
theorem rf31 (hk : Kn W0) {cl rw : Nat} (hc : cl < 5) (hr : rw < 8) : Af W0 [116, 104, 105, 114, 100, 33, cB cl, 36, dB rw] [116, 104, 105, 114, 100] (rw : Nat) (cl : Nat) true false := ⟨On hk (b := 116) (w := [104, 105, 114, 100]) (c := [cB cl, 36, dB rw]) (by decide) (by decide) (by revert hr; revert rw; revert hc; revert cl; decide) ⟨_, _, _, _, _, _, _, rd31' hk hc hr, rfl⟩, by simp, by revert hr; revert rw; revert hc; revert cl; decide, by revert hr; revert rw; revert hc; revert cl; decide, by simp, rd31' hk hc hr, Gp hk (by omega) (by omega)⟩
theorem tx32 (hk : Kn W0) {cl rw : Nat} (hc : cl < 5) (hr : rw < 8) : cP W0 76 [A3b (rw : Nat) (cl : Nat)] [] (.tup [.str [116, 104, 105, 114, 100, 33, 36, cB cl, dB rw], zI]) [] := rt32 hk (by rw [Cj hc]; omega) (by rw [Cm hr]; omega) (J5 hk hr) (J3 hk hc) (U5 hk) (Le hk (by omega) (by omega))
theorem rd32' (hk : Kn W0) {cl rw : Nat} (hc : cl < 5) (hr : rw < 8) : cP W0 172 [.str [116, 104, 105, 114, 100, 33, 36, cB cl, dB rw]] [] (N255 (rw : Nat) (cl : Nat)) [] := by
 have h := rr32 hk (a20 := (cl : Nat)) (a30 := (rw + 1 : Nat)) (c := cB cl) (d := dB rw) (by rw [Cj hc]; omega) (by rw [Cm hr]; omega) (by rw [wrS (by omega) (by omega)]; exact Gp hk (by omega) (by omega)) (J6 hk hr) (Ja hk hr) (E9 (by revert hr; revert rw; revert hc; revert cl; decide) (by revert hr; revert rw; revert hc; revert cl; decide)) (J2 hk hc) (E9 (by revert hr; revert rw; revert hc; revert cl; decide) (by revert hr; revert rw; revert hc; revert cl; decide)) (Q1 hk) (U8 hk) (J4 (by revert hr; revert rw; revert hc; revert cl; decide) (by simp))
 rw [wrS (by omega) (by omega), show ((rw + 1 : Nat) : Int) - 1 = (rw : Nat) by omega] at h
 exact h
theorem rf32 (hk : Kn W0) {cl rw : Nat} (hc : cl < 5) (hr : rw < 8) : Af W0 [116, 104, 105, 114, 100, 33, 36, cB cl, dB rw] [116, 104, 105, 114, 100] (rw : Nat) (cl : Nat) false true := ⟨On hk (b := 116) (w := [104, 105, 114, 100]) (c := [36, cB cl, dB rw]) (by decide) (by decide) (by revert hr; revert rw; revert hc; revert cl; decide) ⟨_, _, _, _, _, _, _, rd32' hk hc hr, rfl⟩, by simp, by revert hr; revert rw; revert hc; revert cl; decide, by revert hr; revert rw; revert hc; revert cl; decide, by simp, rd32' hk hc hr, Gp hk (by omega) (by omega)⟩
end Go.Abs
namespace Go.Abs
open Go.Proofs Go.RowKit
set_option maxRecDepth 10000000
variable {W0 : World}
theorem sgb (hk : Kn W0) {s90 s91 : Bz} {a91 a92 a93 a94 : Int} {bC bI bR : Bool}  : cP W0 81 [.ptr 0 0, Tz, .str s91] [N10 a91 a92 a93 s90 bR bC bI a94] (Tz) [N10 a91 a92 a93 s90 bR bC bI a94] :=
 Aa hk E6 (ss0 0 [] 0 [] [] []) (by kernel_rfl) gdN
theorem pk0 (hk : Kn W0) {s1 s101 : Bz} {a0 a1 a2 c1 r1 : Int} {fc1 fr1 : Bool} (h1 : oC W0 58 [Ag s1 r1 c1 fr1 fc1] (.bool true)) (h2 : oC W0 157 [.str [49]] (Rq)) (h3 : oC W0 172 [.str s101] (Dm s1 r1 c1 fr1 fc1)) : cP W0 79 [N3 s101 a0 a1 a2] [] (N8 s1 r1 c1 fr1 fc1) [] :=
 Aa hk K6 (ss0 29 [(true, 97), (true, 42)] 27 [] [(Dm s1 r1 c1 fr1 fc1, none), (.bool true, none), (Rq, none), (.bool true, none)] []) (by kernel_rfl) (gdE ((s1 == s1) && ((r1 == r1) && ((c1 == c1) && ((fr1 == fr1) && ((fc1 == fc1) && ((false == false) && true)))))) true (gdC h1 (gdC h2 (gdE ((s1 == s1) && ((r1 == r1) && ((c1 == c1) && ((fr1 == fr1) && ((fc1 == fc1) && ((false == false) && true)))))) true (gdC h1 (gdC h3 gdN))))))
theorem pa0 (hk : Kn W0) {s1 s90 s91 : Bz} {a91 a92 a93 a94 c1 r1 : Int} {bC bI bR fc1 fr1 : Bool} (h1 : cP W0 81 [.ptr 0 0, Ag s1 r1 c1 fr1 fc1, .str s91] [N10 a91 a92 a93 s90 bR bC bI a94] (Ag s1 r1 c1 fr1 fc1) [N10 a91 a92 a93 s90 bR bC bI a94]) : cP W0 45 [.ptr 0 0, N7 s1 r1 c1 fr1 fc1, .str s91] [N10 a91 a92 a93 s90 bR bC bI a94] (N7 s1 r1 c1 fr1 fc1) [N10 a91 a92 a93 s90 bR bC bI a94] :=
 Aa hk Kt (ss0 12 [] 4 [] [(Ag s1 r1 c1 fr1 fc1, some [N10 a91 a92 a93 s90 bR bC bI a94, .cells 71 [.ptr 0 0] false, N11 s1 r1 c1 fr1 fc1, .cells 9 [.str s91] false, Ab, Bv, A0e, Ab, Aw s1 r1 c1 fr1 fc1, Aw s1 r1 c1 fr1 fc1, Ab])] []) (by kernel_rfl) (gdC (o := .callH 81 [.ptr 0 0, Ag s1 r1 c1 fr1 fc1, .str s91] [N10 a91 a92 a93 s90 bR bC bI a94, .cells 71 [.ptr 0 0] false, N11 s1 r1 c1 fr1 fc1, .cells 9 [.str s91] false, Ab, Bv, A0e, Ab, Aw s1 r1 c1 fr1 fc1, Aw s1 r1 c1 fr1 fc1, Ab] (Ag s1 r1 c1 fr1 fc1) [N10 a91 a92 a93 s90 bR bC bI a94, .cells 71 [.ptr 0 0] false, N11 s1 r1 c1 fr1 fc1, .cells 9 [.str s91] false, Ab, Bv, A0e, Ab, Aw s1 r1 c1 fr1 fc1, Aw s1 r1 c1 fr1 fc1, Ab]) (obC (A3.at1 h1 rfl rfl rfl rfl rfl rfl rfl rfl)) gdN)
theorem pe0 (hk : Kn W0) {s1 : Bz} {c1 r1 : Int} {fc1 fr1 : Bool}  : cP W0 46 [N7 s1 r1 c1 fr1 fc1, N7 s1 r1 c1 fr1 fc1] [] (.bool true) [] :=
 Aa hk E6 (ss0 15 [(true, 16)] 4 [] [] []) (by kernel_rfl) (gdE ((s1 == s1) && ((r1 == r1) && ((c1 == c1) && ((fr1 == fr1) && ((fc1 == fc1) && ((false == false) && true)))))) true gdN)
theorem pt0 (hk : Kn W0) {s1 s93 s101 : Bz} {a0 a1 a2 c1 r1 : Int} {fc1 fr1 : Bool} (h1 : oC W0 79 [N3 s101 a0 a1 a2] (N8 s1 r1 c1 fr1 fc1)) (h2 : oC W0 78 [.str s93] (N9 s101 a0 a1 a2)) : cP W0 44 [.str s93] [] (N8 s1 r1 c1 fr1 fc1) [] :=
 Aa hk Kv (ss0 2 [] 0 [] [(N9 s101 a0 a1 a2, none), (N8 s1 r1 c1 fr1 fc1, none)] []) (by kernel_rfl) (gdC h1 (gdC h2 gdN))
theorem pi0 (hk : Kn W0) {s1 s90 s91 s92 s93 : Bz} {a91 a92 a93 a94 c1 r1 : Int} {bC bI bR fc1 fr1 : Bool} (h1 : oC W0 46 [N7 s1 r1 c1 fr1 fc1, N7 s1 r1 c1 fr1 fc1] (.bool true)) (h2 : cP W0 45 [.ptr 0 0, N7 s1 r1 c1 fr1 fc1, .str s91] [N10 a91 a92 a93 s90 bR bC bI a94] (N7 s1 r1 c1 fr1 fc1) [N10 a91 a92 a93 s90 bR bC bI a94]) (h3 : oC W0 44 [.str s93] (N8 s1 r1 c1 fr1 fc1)) (h4 : oC W0 43 [.str s92, .str [61]] (.tup [.str s93, .bool true])) : cP W0 18 [.ptr 0 0, .str s92, .str s91] [N10 a91 a92 a93 s90 bR bC bI a94] (.tup [.str s92, zI]) [N10 a91 a92 a93 s90 bR bC bI a94] :=
 Aa hk Kw (ss0 1 [] 0 [] [(.tup [.str s93, .bool true], none), (N8 s1 r1 c1 fr1 fc1, none), (N7 s1 r1 c1 fr1 fc1, some [N10 a91 a92 a93 s90 bR bC bI a94, N11 s1 r1 c1 fr1 fc1]), (.bool true, none)] []) (by kernel_rfl) (gdC h1 (gdC (o := .callH 45 [.ptr 0 0, N7 s1 r1 c1 fr1 fc1, .str s91] [N10 a91 a92 a93 s90 bR bC bI a94, N11 s1 r1 c1 fr1 fc1] (N7 s1 r1 c1 fr1 fc1) [N10 a91 a92 a93 s90 bR bC bI a94, N11 s1 r1 c1 fr1 fc1]) (obC (A3.at1 h2 rfl rfl rfl rfl rfl rfl rfl rfl)) (gdC h3 (gdC h4 gdN))))
theorem pk1 (hk : Kn W0) {s1 s2 s101 s102 : Bz} {a0 a1 a2 c1 c2 r1 r2 : Int} {fc1 fc2 fr1 fr2 : Bool} (h1 : oC W0 58 [Ag s2 r2 c2 fr2 fc2] (.bool true)) (h2 : oC W0 58 [Ag s1 r1 c1 fr1 fc1] (.bool true)) (h3 : oC W0 172 [.str s102] (Dm s2 r2 c2 fr2 fc2)) (h4 : oC W0 172 [.str s101] (Dm s1 r1 c1 fr1 fc1)) : cP W0 79 [N13 s101 a0 a1 s102 a2] [] (N16 s1 r1 c1 fr1 fc1 s2 r2 c2 fr2 fc2) [] :=
 Aa hk K6 (ss0 29 [(true, 52), (true, 49), (true, 22), (true, 15)] 25 [] [(Dm s1 r1 c1 fr1 fc1, none), (.bool true, none), (Dm s2 r2 c2 fr2 fc2, none), (.bool true, none), (.bool true, none), (.bool true, none)] []) (by kernel_rfl) (gdE ((s2 == s2) && ((r2 == r2) && ((c2 == c2) && ((fr2 == fr2) && ((fc2 == fc2) && ((false == false) && true)))))) true (gdC h1 (gdE ((s1 == s1) && ((r1 == r1) && ((c1 == c1) && ((fr1 == fr1) && ((fc1 == fc1) && ((false == false) && true)))))) true (gdC h2 (gdE ((s2 == s2) && ((r2 == r2) && ((c2 == c2) && ((fr2 == fr2) && ((fc2 == fc2) && ((false == false) && true)))))) true (gdC h1 (gdC h3 (gdE ((s1 == s1) && ((r1 == r1) && ((c1 == c1) && ((fr1 == fr1) && ((fc1 == fc1) && ((false == false) && true)))))) true (gdC h2 (gdC h4 gdN))))))))))
theorem pa1 (hk : Kn W0) {s1 s2 s90 s91 : Bz} {a91 a92 a93 a94 c1 c2 r1 r2 : Int} {bC bI bR fc1 fc2 fr1 fr2 : Bool} (h1 : cP W0 81 [.ptr 0 0, Ag s2 r2 c2 fr2 fc2, .str s91] [N10 a91 a92 a93 s90 bR bC bI a94] (Ag s2 r2 c2 fr2 fc2) [N10 a91 a92 a93 s90 bR bC bI a94]) (h2 : cP W0 81 [.ptr 0 0, Ag s1 r1 c1 fr1 fc1, .str s91] [N10 a91 a92 a93 s90 bR bC bI a94] (Ag s1 r1 c1 fr1 fc1) [N10 a91 a92 a93 s90 bR bC bI a94]) : cP W0 45 [.ptr 0 0, N15 s1 r1 c1 fr1 fc1 s2 r2 c2 fr2 fc2, .str s91] [N10 a91 a92 a93 s90 bR bC bI a94] (N15 s1 r1 c1 fr1 fc1 s2 r2 c2 fr2 fc2) [N10 a91 a92 a93 s90 bR bC bI a94] :=
 Aa hk Kt (ss0 10 [] 4 [] [(Ag s1 r1 c1 fr1 fc1, some [N10 a91 a92 a93 s90 bR bC bI a94, .cells 71 [.ptr 0 0] false, N18 s1 r1 c1 fr1 fc1 s2 r2 c2 fr2 fc2, .cells 9 [.str s91] false, Ab, Bv, A1g, Ab, Aw s1 r1 c1 fr1 fc1, Aw s1 r1 c1 fr1 fc1, Ab]), (Ag s2 r2 c2 fr2 fc2, some [N10 a91 a92 a93 s90 bR bC bI a94, .cells 71 [.ptr 0 0] false, N18 s1 r1 c1 fr1 fc1 s2 r2 c2 fr2 fc2, .cells 9 [.str s91] false, Ab, Bv, A06, Ab, Aw s1 r1 c1 fr1 fc1, Aw s1 r1 c1 fr1 fc1, A0z s1 r1 c1 fr1 fc1, Aw s2 r2 c2 fr2 fc2, Aw s2 r2 c2 fr2 fc2, Ab])] []) (by kernel_rfl) (gdC (o := .callH 81 [.ptr 0 0, Ag s2 r2 c2 fr2 fc2, .str s91] [N10 a91 a92 a93 s90 bR bC bI a94, .cells 71 [.ptr 0 0] false, N18 s1 r1 c1 fr1 fc1 s2 r2 c2 fr2 fc2, .cells 9 [.str s91] false, Ab, Bv, A06, Ab, Aw s1 r1 c1 fr1 fc1, Aw s1 r1 c1 fr1 fc1, A0z s1 r1 c1 fr1 fc1, Aw s2 r2 c2 fr2 fc2, Aw s2 r2 c2 fr2 fc2, Ab] (Ag s2 r2 c2 fr2 fc2) [N10 a91 a92 a93 s90 bR bC bI a94, .cells 71 [.ptr 0 0] false, N18 s1 r1 c1 fr1 fc1 s2 r2 c2 fr2 fc2, .cells 9 [.str s91] false, Ab, Bv, A06, Ab, Aw s1 r1 c1 fr1 fc1, Aw s1 r1 c1 fr1 fc1, A0z s1 r1 c1 fr1 fc1, Aw s2 r2 c2 fr2 fc2, Aw s2 r2 c2 fr2 fc2, Ab]) (obC (A3.at1 h1 rfl rfl rfl rfl rfl rfl rfl rfl)) (gdC (o := .callH 81 [.ptr 0 0, Ag s1 r1 c1 fr1 fc1, .str s91] [N10 a91 a92 a93 s90 bR bC bI a94, .cells 71 [.ptr 0 0] false, N18 s1 r1 c1 fr1 fc1 s2 r2 c2 fr2 fc2, .cells 9 [.str s91] false, Ab, Bv, A1g, Ab, Aw s1 r1 c1 fr1 fc1, Aw s1 r1 c1 fr1 fc1, Ab] (Ag s1 r1 c1 fr1 fc1) [N10 a91 a92 a93 s90 bR bC bI a94, .cells 71 [.ptr 0 0] false, N18 s1 r1 c1 fr1 fc1 s2 r2 c2 fr2 fc2, .cells 9 [.str s91] false, Ab, Bv, A1g, Ab, Aw s1 r1 c1 fr1 fc1, Aw s1 r1 c1 fr1 fc1, Ab]) (obC (A3.at1 h2 rfl rfl rfl rfl rfl rfl rfl rfl)) gdN))
theorem pe1 (hk : Kn W0) {s1 s2 : Bz} {c1 c2 r1 r2 : Int} {fc1 fc2 fr1 fr2 : Bool}  : cP W0 46 [N15 s1 r1 c1 fr1 fc1 s2 r2 c2 fr2 fc2, N15 s1 r1 c1 fr1 fc1 s2 r2 c2 fr2 fc2] [] (.bool true) [] :=
 Aa hk E6 (ss0 15 [(true, 10), (true, 5)] 4 [] [] []) (by kernel_rfl) (gdE ((s2 == s2) && ((r2 == r2) && ((c2 == c2) && ((fr2 == fr2) && ((fc2 == fc2) && ((false == false) && true)))))) true (gdE ((s1 == s1) && ((r1 == r1) && ((c1 == c1) && ((fr1 == fr1) && ((fc1 == fc1) && ((false == false) && true)))))) true gdN))
theorem pt1 (hk : Kn W0) {s1 s2 s93 s101 s102 : Bz} {a0 a1 a2 c1 c2 r1 r2 : Int} {fc1 fc2 fr1 fr2 : Bool} (h1 : oC W0 79 [N13 s101 a0 a1 s102 a2] (N16 s1 r1 c1 fr1 fc1 s2 r2 c2 fr2 fc2)) (h2 : oC W0 78 [.str s93] (N17 s101 a0 a1 s102 a2)) : cP W0 44 [.str s93] [] (N16 s1 r1 c1 fr1 fc1 s2 r2 c2 fr2 fc2) [] :=
 Aa hk Kv (ss0 2 [] 0 [] [(N17 s101 a0 a1 s102 a2, none), (N16 s1 r1 c1 fr1 fc1 s2 r2 c2 fr2 fc2, none)] []) (by kernel_rfl) (gdC h1 (gdC h2 gdN))
theorem pi1 (hk : Kn W0) {s1 s2 s90 s91 s92 s93 : Bz} {a91 a92 a93 a94 c1 c2 r1 r2 : Int} {bC bI bR fc1 fc2 fr1 fr2 : Bool} (h1 : oC W0 46 [N15 s1 r1 c1 fr1 fc1 s2 r2 c2 fr2 fc2, N15 s1 r1 c1 fr1 fc1 s2 r2 c2 fr2 fc2] (.bool true)) (h2 : cP W0 45 [.ptr 0 0, N15 s1 r1 c1 fr1 fc1 s2 r2 c2 fr2 fc2, .str s91] [N10 a91 a92 a93 s90 bR bC bI a94] (N15 s1 r1 c1 fr1 fc1 s2 r2 c2 fr2 fc2) [N10 a91 a92 a93 s90 bR bC bI a94]) (h3 : oC W0 44 [.str s93] (N16 s1 r1 c1 fr1 fc1 s2 r2 c2 fr2 fc2)) (h4 : oC W0 43 [.str s92, .str [61]] (.tup [.str s93, .bool true])) : cP W0 18 [.ptr 0 0, .str s92, .str s91] [N10 a91 a92 a93 s90 bR bC bI a94] (.tup [.str s92, zI]) [N10 a91 a92 a93 s90 bR bC bI a94] :=
 Aa hk Kw (ss0 1 [] 0 [] [(.tup [.str s93, .bool true], none), (N16 s1 r1 c1 fr1 fc1 s2 r2 c2 fr2 fc2, none), (N15 s1 r1 c1 fr1 fc1 s2 r2 c2 fr2 fc2, some [N10 a91 a92 a93 s90 bR bC bI a94, N18 s1 r1 c1 fr1 fc1 s2 r2 c2 fr2 fc2]), (.bool true, none)] []) (by kernel_rfl) (gdC h1 (gdC (o := .callH 45 [.ptr 0 0, N15 s1 r1 c1 fr1 fc1 s2 r2 c2 fr2 fc2, .str s91] [N10 a91 a92 a93 s90 bR bC bI a94, N18 s1 r1 c1 fr1 fc1 s2 r2 c2 fr2 fc2] (N15 s1 r1 c1 fr1 fc1 s2 r2 c2 fr2 fc2) [N10 a91 a92 a93 s90 bR bC bI a94, N18 s1 r1 c1 fr1 fc1 s2 r2 c2 fr2 fc2]) (obC (A3.at1 h2 rfl rfl rfl rfl rfl rfl rfl rfl)) (gdC h3 (gdC h4 gdN))))
theorem pk2 (hk : Kn W0) {s1 s101 s103 : Bz} {a0 a1 a2 a3 a4 a5 c1 c3 r1 r3 : Int} {fc1 fc3 fr1 fr3 : Bool} (h1 : oC W0 58 [Uy r3 c3 fr3 fc3] (.bool true)) (h2 : oC W0 58 [Ag s1 r1 c1 fr1 fc1] (.bool true)) (h3 : oC W0 172 [.str s103] (A03 r3 c3 fr3 fc3)) (h4 : oC W0 172 [.str s101] (Dm s1 r1 c1 fr1 fc1)) : cP W0 79 [N64 a0 a1 s101 a2 a3 s103 a4 a5] [] (N67 s1 r1 c1 fr1 fc1 r3 c3 fr3 fc3) [] :=
 Aa hk K6 (ss0 61 [(true, 20), (true, 0), (true, 78), (true, 0), (true, 14)] 39 [] [(Dm s1 r1 c1 fr1 fc1, none), (.bool true, none), (A03 r3 c3 fr3 fc3, none), (.bool true, none), (.bool true, none), (.bool true, none), (.bool true, none)] [1, 2, 0, 2, 0, 0]) (by kernel_rfl) (gdE ((([] : Bz) == ([] : Bz)) && ((r3 == r3) && ((c3 == c3) && ((fr3 == fr3) && ((fc3 == fc3) && ((false == false) && true)))))) true (gdE ((s1 == s1) && ((r1 == r1) && ((c1 == c1) && ((fr1 == fr1) && ((fc1 == fc1) && ((false == false) && true)))))) true (gdC h1 (gdC h2 (gdE ((([] : Bz) == ([] : Bz)) && ((r3 == r3) && ((c3 == c3) && ((fr3 == fr3) && ((fc3 == fc3) && ((false == false) && true)))))) true (gdE ((s1 == s1) && ((r1 == r1) && ((c1 == c1) && ((fr1 == fr1) && ((fc1 == fc1) && ((false == false) && true)))))) true (gdC h1 (gdC h2 (gdC h3 (gdE ((s1 == s1) && ((r1 == r1) && ((c1 == c1) && ((fr1 == fr1) && ((fc1 == fc1) && ((false == false) && true)))))) true (gdC h2 (gdC h4 gdN))))))))))))
theorem pa2 (hk : Kn W0) {s1 s90 s91 : Bz} {a91 a92 a93 a94 c1 c3 r1 r3 : Int} {bC bI bR fc1 fc3 fr1 fr3 : Bool} (h1 : cP W0 82 [.ptr 0 0, N39 s1 r1 c1 fr1 fc1 r3 c3 fr3 fc3, .str s91] [N10 a91 a92 a93 s90 bR bC bI a94] (N39 s1 r1 c1 fr1 fc1 r3 c3 fr3 fc3) [N10 a91 a92 a93 s90 bR bC bI a94]) : cP W0 45 [.ptr 0 0, N66 s1 r1 c1 fr1 fc1 r3 c3 fr3 fc3, .str s91] [N10 a91 a92 a93 s90 bR bC bI a94] (N66 s1 r1 c1 fr1 fc1 r3 c3 fr3 fc3) [N10 a91 a92 a93 s90 bR bC bI a94] :=
 Aa hk Kt (ss0 7 [] 2 [] [(N39 s1 r1 c1 fr1 fc1 r3 c3 fr3 fc3, some [N10 a91 a92 a93 s90 bR bC bI a94, .cells 71 [.ptr 0 0] false, N69 s1 r1 c1 fr1 fc1 r3 c3 fr3 fc3, .cells 9 [.str s91] false, Ab, Bv, N192, Ab, Eo s1 r1 c1 fr1 fc1 r3 c3 fr3 fc3, Eo s1 r1 c1 fr1 fc1 r3 c3 fr3 fc3, Ab])] []) (by kernel_rfl) (gdC (o := .callH 82 [.ptr 0 0, N39 s1 r1 c1 fr1 fc1 r3 c3 fr3 fc3, .str s91] [N10 a91 a92 a93 s90 bR bC bI a94, .cells 71 [.ptr 0 0] false, N69 s1 r1 c1 fr1 fc1 r3 c3 fr3 fc3, .cells 9 [.str s91] false, Ab, Bv, N192, Ab, Eo s1 r1 c1 fr1 fc1 r3 c3 fr3 fc3, Eo s1 r1 c1 fr1 fc1 r3 c3 fr3 fc3, Ab] (N39 s1 r1 c1 fr1 fc1 r3 c3 fr3 fc3) [N10 a91 a92 a93 s90 bR bC bI a94, .cells 71 [.ptr 0 0] false, N69 s1 r1 c1 fr1 fc1 r3 c3 fr3 fc3, .cells 9 [.str s91] false, Ab, Bv, N192, Ab, Eo s1 r1 c1 fr1 fc1 r3 c3 fr3 fc3, Eo s1 r1 c1 fr1 fc1 r3 c3 fr3 fc3, Ab]) (obC (A3.at1 h1 rfl rfl rfl rfl rfl rfl rfl rfl)) gdN)
theorem pe2 (hk : Kn W0) {s1 : Bz} {c1 c3 r1 r3 : Int} {fc1 fc3 fr1 fr3 : Bool}  : cP W0 46 [N66 s1 r1 c1 fr1 fc1 r3 c3 fr3 fc3, N66 s1 r1 c1 fr1 fc1 r3 c3 fr3 fc3] [] (.bool true) [] :=
 Aa hk E6 (ss0 15 [(true, 0), (true, 4)] 2 [] [] []) (by kernel_rfl) (gdE ((([] : Bz) == ([] : Bz)) && ((r3 == r3) && ((c3 == c3) && ((fr3 == fr3) && ((fc3 == fc3) && ((false == false) && true)))))) true (gdE ((s1 == s1) && ((r1 == r1) && ((c1 == c1) && ((fr1 == fr1) && ((fc1 == fc1) && ((false == false) && true)))))) true gdN))
theorem pt2 (hk : Kn W0) {s1 s93 s101 s103 : Bz} {a0 a1 a2 a3 a4 a5 c1 c3 r1 r3 : Int} {fc1 fc3 fr1 fr3 : Bool} (h1 : oC W0 79 [N64 a0 a1 s101 a2 a3 s103 a4 a5] (N67 s1 r1 c1 fr1 fc1 r3 c3 fr3 fc3)) (h2 : oC W0 78 [.str s93] (N68 a0 a1 s101 a2 a3 s103 a4 a5)) : cP W0 44 [.str s93] [] (N67 s1 r1 c1 fr1 fc1 r3 c3 fr3 fc3) [] :=
 Aa hk Kv (ss0 2 [] 0 [] [(N68 a0 a1 s101 a2 a3 s103 a4 a5, none), (N67 s1 r1 c1 fr1 fc1 r3 c3 fr3 fc3, none)] []) (by kernel_rfl) (gdC h1 (gdC h2 gdN))
theorem pi2 (hk : Kn W0) {s1 s90 s91 s92 s93 : Bz} {a91 a92 a93 a94 c1 c3 r1 r3 : Int} {bC bI bR fc1 fc3 fr1 fr3 : Bool} (h1 : oC W0 46 [N66 s1 r1 c1 fr1 fc1 r3 c3 fr3 fc3, N66 s1 r1 c1 fr1 fc1 r3 c3 fr3 fc3] (.bool true)) (h2 : cP W0 45 [.ptr 0 0, N66 s1 r1 c1 fr1 fc1 r3 c3 fr3 fc3, .str s91] [N10 a91 a92 a93 s90 bR bC bI a94] (N66 s1 r1 c1 fr1 fc1 r3 c3 fr3 fc3) [N10 a91 a92 a93 s90 bR bC bI a94]) (h3 : oC W0 44 [.str s93] (N67 s1 r1 c1 fr1 fc1 r3 c3 fr3 fc3)) (h4 : oC W0 43 [.str s92, .str [61]] (.tup [.str s93, .bool true])) : cP W0 18 [.ptr 0 0, .str s92, .str s91] [N10 a91 a92 a93 s90 bR bC bI a94] (.tup [.str s92, zI]) [N10 a91 a92 a93 s90 bR bC bI a94] :=
 Aa hk Kw (ss0 1 [] 0 [] [(.tup [.str s93, .bool true], none), (N67 s1 r1 c1 fr1 fc1 r3 c3 fr3 fc3, none), (N66 s1 r1 c1 fr1 fc1 r3 c3 fr3 fc3, some [N10 a91 a92 a93 s90 bR bC bI a94, N69 s1 r1 c1 fr1 fc1 r3 c3 fr3 fc3]), (.bool true, none)] []) (by kernel_rfl) (gdC h1 (gdC (o := .callH 45 [.ptr 0 0, N66 s1 r1 c1 fr1 fc1 r3 c3 fr3 fc3, .str s91] [N10 a91 a92 a93 s90 bR bC bI a94, N69 s1 r1 c1 fr1 fc1 r3 c3 fr3 fc3] (N66 s1 r1 c1 fr1 fc1 r3 c3 fr3 fc3) [N10 a91 a92 a93 s90 bR bC bI a94, N69 s1 r1 c1 fr1 fc1 r3 c3 fr3 fc3]) (obC (A3.at1 h2 rfl rfl rfl rfl rfl rfl rfl rfl)) (gdC h3 (gdC h4 gdN))))
theorem pk3 (hk : Kn W0) {s1 s2 s101 s102 : Bz} {a0 a1 a2 a3 a4 a5 a6 a7 a8 a9 c1 c2 r1 r2 : Int} {fc1 fc2 fr1 fr2 : Bool} (h1 : oC W0 58 [Ag s2 r2 c2 fr2 fc2] (.bool true)) (h2 : oC W0 58 [Ag s1 r1 c1 fr1 fc1] (.bool true)) (h3 : oC W0 157 [.str [48]] (N168)) (h4 : oC W0 172 [.str s102] (Dm s2 r2 c2 fr2 fc2)) (h5 : oC W0 157 [.str [50]] (A16)) (h6 : oC W0 172 [.str s101] (Dm s1 r1 c1 fr1 fc1)) : cP W0 79 [N71 a0 a1 s101 a2 a3 a4 a5 s102 a6 a7 a8 a9] [] (N76 s1 r1 c1 fr1 fc1 s2 r2 c2 fr2 fc2) [] :=
 Aa hk K6 (ss0 58 [(true, 119), (true, 158), (true, 50), (true, 40)] 97 [] [(Dm s1 r1 c1 fr1 fc1, none), (.bool true, none), (A16, none), (Dm s2 r2 c2 fr2 fc2, none), (.bool true, none), (N168, none), (.bool true, none), (.bool true, none)] [0, 2, 0, 0, 0, 2, 0, 0, 0, 2, 0, 0]) (by kernel_rfl) (gdE ((s2 == s2) && ((r2 == r2) && ((c2 == c2) && ((fr2 == fr2) && ((fc2 == fc2) && ((false == false) && true)))))) true (gdC h1 (gdE ((s1 == s1) && ((r1 == r1) && ((c1 == c1) && ((fr1 == fr1) && ((fc1 == fc1) && ((false == false) && true)))))) true (gdC h2 (gdC h3 (gdE ((s2 == s2) && ((r2 == r2) && ((c2 == c2) && ((fr2 == fr2) && ((fc2 == fc2) && ((false == false) && true)))))) true (gdC h1 (gdC h4 (gdC h5 (gdE ((s1 == s1) && ((r1 == r1) && ((c1 == c1) && ((fr1 == fr1) && ((fc1 == fc1) && ((false == false) && true)))))) true (gdC h2 (gdC h6 gdN))))))))))))
theorem pa3 (hk : Kn W0) {s1 s2 s90 s91 : Bz} {a91 a92 a93 a94 c1 c2 r1 r2 : Int} {bC bI bR fc1 fc2 fr1 fr2 : Bool} (h1 : cP W0 81 [.ptr 0 0, Ag s2 r2 c2 fr2 fc2, .str s91] [N10 a91 a92 a93 s90 bR bC bI a94] (Ag s2 r2 c2 fr2 fc2) [N10 a91 a92 a93 s90 bR bC bI a94]) (h2 : cP W0 81 [.ptr 0 0, Ag s1 r1 c1 fr1 fc1, .str s91] [N10 a91 a92 a93 s90 bR bC bI a94] (Ag s1 r1 c1 fr1 fc1) [N10 a91 a92 a93 s90 bR bC bI a94]) : cP W0 45 [.ptr 0 0, N75 s1 r1 c1 fr1 fc1 s2 r2 c2 fr2 fc2, .str s91] [N10 a91 a92 a93 s90 bR bC bI a94] (N75 s1 r1 c1 fr1 fc1 s2 r2 c2 fr2 fc2) [N10 a91 a92 a93 s90 bR bC bI a94] :=
 Aa hk Kt (ss0 25 [] 10 [] [(Ag s1 r1 c1 fr1 fc1, some [N10 a91 a92 a93 s90 bR bC bI a94, .cells 71 [.ptr 0 0] false, N78 s1 r1 c1 fr1 fc1 s2 r2 c2 fr2 fc2, .cells 9 [.str s91] false, Ab, Bv, N193, Ab, U3 s1 r1 c1 fr1 fc1, N195, Ab, Aw s1 r1 c1 fr1 fc1, Aw s1 r1 c1 fr1 fc1, Ab]), (Ag s2 r2 c2 fr2 fc2, some [N10 a91 a92 a93 s90 bR bC bI a94, .cells 71 [.ptr 0 0] false, N78 s1 r1 c1 fr1 fc1 s2 r2 c2 fr2 fc2, .cells 9 [.str s91] false, Ab, Bv, N196, Ab, U3 s1 r1 c1 fr1 fc1, U3 s1 r1 c1 fr1 fc1, N197 s1 r1 c1 fr1 fc1, Aw s2 r2 c2 fr2 fc2, Aw s2 r2 c2 fr2 fc2, Ab])] []) (by kernel_rfl) (gdC (o := .callH 81 [.ptr 0 0, Ag s2 r2 c2 fr2 fc2, .str s91] [N10 a91 a92 a93 s90 bR bC bI a94, .cells 71 [.ptr 0 0] false, N78 s1 r1 c1 fr1 fc1 s2 r2 c2 fr2 fc2, .cells 9 [.str s91] false, Ab, Bv, N196, Ab, U3 s1 r1 c1 fr1 fc1, U3 s1 r1 c1 fr1 fc1, N197 s1 r1 c1 fr1 fc1, Aw s2 r2 c2 fr2 fc2, Aw s2 r2 c2 fr2 fc2, Ab] (Ag s2 r2 c2 fr2 fc2) [N10 a91 a92 a93 s90 bR bC bI a94, .cells 71 [.ptr 0 0] false, N78 s1 r1 c1 fr1 fc1 s2 r2 c2 fr2 fc2, .cells 9 [.str s91] false, Ab, Bv, N196, Ab, U3 s1 r1 c1 fr1 fc1, U3 s1 r1 c1 fr1 fc1, N197 s1 r1 c1 fr1 fc1, Aw s2 r2 c2 fr2 fc2, Aw s2 r2 c2 fr2 fc2, Ab]) (obC (A3.at1 h1 rfl rfl rfl rfl rfl rfl rfl rfl)) (gdC (o := .callH 81 [.ptr 0 0, Ag s1 r1 c1 fr1 fc1, .str s91] [N10 a91 a92 a93 s90 bR bC bI a94, .cells 71 [.ptr 0 0] false, N78 s1 r1 c1 fr1 fc1 s2 r2 c2 fr2 fc2, .cells 9 [.str s91] false, Ab, Bv, N193, Ab, U3 s1 r1 c1 fr1 fc1, N195, Ab, Aw s1 r1 c1 fr1 fc1, Aw s1 r1 c1 fr1 fc1, Ab] (Ag s1 r1 c1 fr1 fc1) [N10 a91 a92 a93 s90 bR bC bI a94, .cells 71 [.ptr 0 0] false, N78 s1 r1 c1 fr1 fc1 s2 r2 c2 fr2 fc2, .cells 9 [.str s91] false, Ab, Bv, N193, Ab, U3 s1 r1 c1 fr1 fc1, N195, Ab, Aw s1 r1 c1 fr1 fc1, Aw s1 r1 c1 fr1 fc1, Ab]) (obC (A3.at1 h2 rfl rfl rfl rfl rfl rfl rfl rfl)) gdN))
theorem pe3 (hk : Kn W0) {s1 s2 : Bz} {c1 c2 r1 r2 : Int} {fc1 fc2 fr1 fr2 : Bool}  : cP W0 46 [N75 s1 r1 c1 fr1 fc1 s2 r2 c2 fr2 fc2, N75 s1 r1 c1 fr1 fc1 s2 r2 c2 fr2 fc2] [] (.bool true) [] :=
 Aa hk E6 (ss0 25 [(true, 22), (true, 16)] 10 [] [] []) (by kernel_rfl) (gdE ((s2 == s2) && ((r2 == r2) && ((c2 == c2) && ((fr2 == fr2) && ((fc2 == fc2) && ((false == false) && true)))))) true (gdE ((s1 == s1) && ((r1 == r1) && ((c1 == c1) && ((fr1 == fr1) && ((fc1 == fc1) && ((false == false) && true)))))) true gdN))
end Go.Abs
