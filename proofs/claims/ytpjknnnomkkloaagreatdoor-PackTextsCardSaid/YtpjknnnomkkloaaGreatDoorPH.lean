/- A part of the proof that tabula/tabulalaw25.PackTexts returns true for every input, each argument reading as it did (its card: the last text). No conditions of its own. -/
import Derived.Test.YtpjknnnomkkloaaGreatDoorPG
namespace Go.Abs
open Go.Proofs Go.RowKit
set_option maxRecDepth 100000
variable {W0 : World} {G : List (Nat × AVal)}
theorem A0i (l : List Bz) (q : Bz) : Ba (l ++ [q]) = Ba l ++ [.str q] := by simp [Ba]
theorem A2i {s : St} {x y : AOpd} {l : List Bz} {q : Bz} {jd vd : Nat} {c c' : Option Nat} {H' : Hz} (hx : ev G s x = some (.hsl 1 jd 0 l.length c)) (hy : ev G s y = some (.hsl 1 vd 0 1 c')) (hj : s.H[jd]? = some (.cells 9 (Ba l) true)) (hv : s.H[vd]? = some (.cells 9 [.str q] false)) (hH : s.H.set jd (.cells 9 (Ba (l ++ [q])) true) = H') :
 aop G s (.append 9 1 16 x y) = some (.val (.hsl 1 jd 0 (l ++ [q]).length none) H' [(((l.length + 1) * 16 : Nat), C9), ((l.length + 1 : Nat), C9)]) := by
 subst hH
 have h2 : (l ++ [q]).length = l.length + 1 := by simp
 have hl : (Ba l).length = l.length * 1 := by rw [Qn, Nat.mul_one]
 have hy' : Dq 1 s.H (.hsl 1 vd 0 1 c') = some ([.str q], 1) := by
  simp only [Dq, hv]; rfl
 rw [h2, A0i]
 simp only [aop, hx, hy, Qj, hy', G9, hj, hl, Nat.beq_refl, cond_true, Bool.and_self]
 rfl
def shT (s : PSh) : List Bz := s.nm :: s.cs.map (·.s)
def Bm (l : List PSh) : List Bz := l.flatMap shT
def J6 (l : List Bz) : List Bz := l.mergeSort fun x y => decide (x ≤ y)
def Ax (l : List PSh) : List Bz := Lib.compactUpTo (J6 (Bm l)).toArray (J6 (Bm l)).length
theorem Wt {α β : Type} {f : α → List β} {l : List α} {i : Nat} (d : α) (h : i < l.length) : (l.take (i + 1)).flatMap f = (l.take i).flatMap f ++ f (l.getD i d) := by
 rw [List.take_succ_eq_append_getElem h, List.getD_eq_getElem?_getD, gGe h]
 simp only [List.flatMap_append, List.flatMap_cons, List.flatMap_nil, List.append_nil, Option.getD_some]
theorem fmL_le {α β : Type} {f : α → List β} {l : List α} {i : Nat} (d : α) (h : i < l.length) : ((l.take i).flatMap f).length + (f (l.getD i d)).length ≤ (l.flatMap f).length := by
 have h1 := congrArg List.length (Wt (f := f) d h)
 rw [lAp] at h1
 rw [← h1]
 conv => rhs; rw [← List.take_append_drop (i + 1) l]
 rw [List.flatMap_append, lAp]
 omega
theorem Q9 {cs : List PCl} {j : Nat} (h : j < cs.length) : (cs.take (j + 1)).map (·.s) = (cs.take j).map (·.s) ++ [(cs.getD j pc0).s] := by
 rw [List.take_succ_eq_append_getElem h, List.getD_eq_getElem?_getD, gGe h]
 simp only [List.map_append, List.map_cons, List.map_nil, Option.getD_some]
theorem I7 (d : Array Bz) (m : Nat) : (Lib.compactUpTo d m).length ≤ m := by
 rw [Lib.compactUpTo, List.length_map]
 exact Nat.le_trans (List.length_filter_le _ _) (by simp)
theorem Px : ∀ (l : List Bz) (x : List AVal), E0 1 l.length (Ba l ++ x) = Ba l
 | [], _ => rfl
 | d :: l, x => by
   show (cond (Nat.beq 1 1) (cond (AVal.str d).one (AVal.str d) _) _) :: E0 1 l.length (Ba l ++ x) = _
   rw [Px l]
   rfl
theorem A3h {H : Hz} {id : Nat} {T : TypeId} {l p : List Bz} {c : Option Nat} (ho : H[id]? = some (.cells T (Ba (l ++ p)) false)) : ∃ m, frz H 0 m (.hsl 1 id 0 l.length c) = some (.row 1 (l.map AVal.str)) := by
 obtain ⟨k, hk⟩ := Ig (H := H) (n := 0) (Ba l) (C7 l)
 refine ⟨k + 1, ?_⟩
 have h1 : Nat.blt id 0 = false := Xx (by omega)
 have h3 := Px l (Ba p)
 rw [show Ba l ++ Ba p = Ba (l ++ p) from by simp [Ba]] at h3
 simp only [frz, h1, cond_false, ho, List.drop_zero, h3, hk k (Nat.le_refl _)]
 rfl
def txH (bk sh0 : List AVal) (q0 : Bz) : List Bz → Hz
 | [] => [.cells 42 bk false]
 | x :: r => [.cells 42 bk false, .cells 36 sh0 false, .cells 9 [.str q0] false, .cells 9 (Ba (x :: r)) true]
def txV : List Bz → AVal
 | [] => .nilSl
 | x :: r => .hsl 1 3 0 (x :: r).length none
theorem Xs {bk sh0 : List AVal} {q0 : Bz} {l : List Bz} (h : l ≠ []) : txH bk sh0 q0 l = [.cells 42 bk false, .cells 36 sh0 false, .cells 9 [.str q0] false, .cells 9 (Ba l) true] := by
 cases l with
 | nil => exact absurd rfl h
 | cons x r => rfl
theorem Xr {l : List Bz} (h : l ≠ []) : txV l = .hsl 1 3 0 l.length none := by
 cases l with
 | nil => exact absurd rfl h
 | cons x r => rfl
def QF58 : AFn := ⟨(sQ [wV 1 (.box 42 0), wV 2 (.move (.val (.nilSl)))] (sQ [wV 3 (.move (.val (.nilSl)))] (.seq (sQ [wV 14 (.fieldAddr 0 1), wV 15 (.load 1 false 14), wV 16 (.len false 15), wV 17 (.move (vI 0))] (.block 0 (.loop (sQ [wV 18 (.bin .lss none 17 16)] (.seq (.cond 18 .skip (.exit 0)) (.seq (.block 1 (sQ [wV 19 (.idxSl 2 15 17), wV 20 (.load 2 true 19), wV 5 (.alloc 36 Qf), wN (.store 2 5 20)] (sQ [wM 21 3, wV 22 (.fieldAddr 0 5), wV 23 (.load 1 false 22), wV 24 (.bslice 9 1 1 [.str []] [(0, 1, 23)]), wV 25 (.append 9 1 16 21 24), wM 3 25] (sQ [wV 26 (.fieldAddr 1 5), wV 27 (.load 1 false 26), wV 28 (.len false 27), wV 29 (.move (vI 0))] (.block 2 (.loop (sQ [wV 30 (.bin .lss none 29 28)] (.seq (.cond 30 .skip (.exit 2)) (.seq (.block 3 (sQ [wV 31 (.idxSl 3 27 29), wV 32 (.load 3 true 31), wV 7 (.alloc 33 z8L), wN (.store 3 7 32)] (.ops [wM 33 3, wV 34 (.fieldAddr 2 7), wV 35 (.load 1 false 34), wV 36 (.bslice 9 1 1 [.str []] [(0, 1, 35)]), wV 37 (.append 9 1 16 33 36), wM 3 37]))) (.ops [wV 38 (.bin .add none 29 (vI 1)), wM 29 38])))))))))) (.ops [wV 39 (.bin .add none 17 (vI 1)), wM 17 39]))))))) (.seq (sQ [wV 40 (.fieldAddr 1 1), wV 41 (.load 1 false 40), wV 42 (.len false 41), wV 43 (.move (vI 0))] (.block 4 (.loop (sQ [wV 44 (.bin .lss none 43 42)] (.seq (.cond 44 .skip (.exit 4)) (.seq (.block 5 (sQ [wV 45 (.idxSl 3 41 43), wV 46 (.load 3 true 45), wV 9 (.alloc 88 A1l), wN (.store 3 9 46)] (.ops [wM 47 3, wV 48 (.fieldAddr 0 9), wV 49 (.load 1 false 48), wV 50 (.fieldAddr 2 9), wV 51 (.load 1 false 50), wV 52 (.bslice 9 1 2 [.str []] [(0, 1, 49), (1, 1, 51)]), wV 53 (.append 9 1 16 47 52), wM 3 53]))) (.ops [wV 54 (.bin .add none 43 (vI 1)), wM 43 54]))))))) (.seq (sQ [wV 55 (.fieldAddr 2 1), wV 56 (.load 1 false 55), wV 57 (.len false 56), wV 58 (.move (vI 0))] (.block 6 (.loop (sQ [wV 59 (.bin .lss none 58 57)] (.seq (.cond 59 .skip (.exit 6)) (.seq (.block 7 (sQ [wV 60 (.idxSl 6 56 58), wV 61 (.load 6 true 60), wV 11 (.alloc 91 z10L), wN (.store 6 11 61)] (.drawC [wM 62 3, wV 63 (.fieldAddr 0 11), wV 64 (.load 1 false 63), wV 65 (.bslice 9 1 1 [.str []] [(0, 1, 64)]), wV 66 (.append 9 1 16 62 65), wV 67 (.fieldAddr 5 11), wV 68 (.load 1 false 67), wV 69 (.append 9 1 16 66 68), wM 3 69] ⟨9, [0, 1, 1, 2, 2, 1, 1, 2, 0], [0, 0, 2, 6, 15, 0, 32, 127, 255], [0, 8, 24, 152]⟩))) (.ops [wV 70 (.bin .add none 58 (vI 1)), wM 58 70]))))))) (.seq (sQ [wV 71 (.fieldAddr 3 1), wV 72 (.load 1 false 71), wV 73 (.len false 72), wV 74 (.move (vI 0))] (.block 8 (.loop (sQ [wV 75 (.bin .lss none 74 73)] (.seq (.cond 75 .skip (.exit 8)) (.seq (.block 9 (sQ [wV 76 (.idxSl 8 72 74), wV 77 (.load 8 true 76), wV 13 (.alloc 95 z7L), wN (.store 8 13 77)] (.ops [wM 78 3, wV 79 (.fieldAddr 5 13), wV 80 (.load 1 false 79), wV 81 (.bslice 9 1 1 [.str []] [(0, 1, 80)]), wV 82 (.append 9 1 16 78 81), wM 3 82]))) (.ops [wV 83 (.bin .add none 74 (vI 1)), wM 74 83]))))))) (sQ [wM 84 3, wV 85 (kF 120 [84])] (sQ [wM 86 3, wV 87 (kF 121 [86]), wM 2 87] .ret)))))))), [2], 88⟩
theorem QG58 : Ab Tryz.prog 58 = some QF58 := by kernel_rfl
theorem allT_ne {shs : List PSh} {i : Nat} (h0 : 0 < i) (h : i < shs.length) : Bm (shs.take i) ≠ [] := by
 intro e
 cases shs with
 | nil => simp at h
 | cons x r =>
   cases i with
   | zero => omega
   | succ i => simp [Bm, shT] at e
theorem Xg {shs : List PSh} (h : 0 < shs.length) : Bm shs ≠ [] := by
 intro e
 cases shs with
 | nil => simp at h
 | cons x r => simp [Bm, shT] at e
theorem Nv {shs : List PSh} {i : Nat} (h : i < shs.length) : Bm (shs.take (i + 1)) = Bm (shs.take i) ++ [(shs.getD i ps0).nm] ++ (shs.getD i ps0).cs.map (·.s) := by
 rw [Bm, Wt ps0 h, List.append_assoc]; rfl
theorem textsP (hg : hGr W0 G) {shs : List PSh} (hs0 : 0 < shs.length) (hl : (Bm shs).length ≤ 999999) : cP W0 58 [.agg (.row 2 (shs.map psV) :: z9L)] [] (.row 1 ((Ax shs).map AVal.str)) [] := by
 have hlen : shs.length ≤ (Bm shs).length := by
  have : ∀ l : List PSh, l.length ≤ (Bm l).length := fun l => by
   induction l with
   | nil => exact Nat.le_refl _
   | cons x r ih => simp only [Bm, List.flatMap_cons, lAp, shT, lCo] at ih ⊢; omega
  exact this shs
 have hnoid : Wc 3 [A2.cells 42 (.row 2 (shs.map psV) :: z9L) false, A2.cells 36 [.str (shs.getD 0 ps0).nm, .row 3 ((shs.getD 0 ps0).cs.map pcV)] false, A2.cells 9 [.str (shs.getD 0 ps0).nm] false, A2.cells 9 (Ba (Bm shs)) true] = true := by
  have h1 : Hq 3 (.row 2 (shs.map psV) :: z9L) = true := Fo _ (by show cond (A8 0 (shs.map psV)) true false = true; rw [Ai]; rfl)
  have h2 : Hq 3 [AVal.str (shs.getD 0 ps0).nm, .row 3 ((shs.getD 0 ps0).cs.map pcV)] = true := Fo _ (by show cond (A8 0 ((shs.getD 0 ps0).cs.map pcV)) true false = true; rw [B3]; rfl)
  have h3 : Hq 3 (Ba (Bm shs)) = true := Fo _ (C7 _)
  simp only [Wc, List.all_cons, List.all_nil, A2a, h1, h2, h3, Bool.and_true]
  rfl
 have hm := A3h (H := [A2.cells 42 (.row 2 (shs.map psV) :: z9L) false, A2.cells 36 [.str (shs.getD 0 ps0).nm, .row 3 ((shs.getD 0 ps0).cs.map pcV)] false, A2.cells 9 [.str (shs.getD 0 ps0).nm] false, A2.cells 9 (Ba (Lib.compactUpTo (J6 (Bm shs)).toArray (J6 (Bm shs)).length ++ List.replicate ((J6 (Bm shs)).length - (Lib.compactUpTo (J6 (Bm shs)).toArray (J6 (Bm shs)).length).length) [])) false]) (id := 3) (l := Ax shs) (c := none) rfl
 refine oF QG58 ?_
 refine sO (mV (v := .ptr 0 0) rfl (x1 rfl (sO (x1 rfl (sq (sO (m2 rfl rfl (mV (v := .int .i64 ((shs.length : Nat) : Int)) (Fe rfl) (x1 rfl (bM ?_))))))))))
 refine ExM.loopJ (σ := Nat) (τ := Unit) (fun i => ⟨.al [(1, .ptr 0 0), (3, txV (Bm (shs.take i))), (15, .row 2 (shs.map psV)), (16, .int .i64 ((shs.length : Nat) : Int)), (17, .int .i64 ((i : Nat) : Int))], txH (.row 2 (shs.map psV) :: z9L) [.str (shs.getD 0 ps0).nm, .row 3 ((shs.getD 0 ps0).cs.map pcV)] (shs.getD 0 ps0).nm (Bm (shs.take i)), 88⟩) (fun i => i ≤ shs.length) (fun i => shs.length - i) 0 0 (fun _ => ⟨.al [(1, .ptr 0 0), (3, txV (Bm shs))], txH (.row 2 (shs.map psV) :: z9L) [.str (shs.getD 0 ps0).nm, .row 3 ((shs.getD 0 ps0).cs.map pcV)] (shs.getD 0 ps0).nm (Bm shs), 88⟩) (fun _ => True) (Ac rfl rfl (sb4 rfl rfl rfl rfl (((( sbC rfl (sbN))))))) (Nat.zero_le _) ?_ ?_
 · rintro i hi
   have hi : i ≤ shs.length := hi
   by_cases hlt : i < shs.length
   · have hb : (Bm (shs.take i)).length + (1 + (shs.getD i ps0).cs.length) ≤ 1000000 := by
      have q := fmL_le (f := shT) ps0 hlt
      rw [show (shT (shs.getD i ps0)).length = 1 + (shs.getD i ps0).cs.length from by simp [shT]; omega] at q
      unfold Bm at hl ⊢
      omega
     cases i with
     | zero =>
       refine ExM.sub (s1 := ⟨.al [(1, .ptr 0 0), (3, .nilSl), (15, .row 2 (shs.map psV)), (16, .int .i64 ((shs.length : Nat) : Int)), (17, .int .i64 ((0 : Nat) : Int))], [A2.cells 42 (.row 2 (shs.map psV) :: z9L) false], 88⟩) (Ac rfl rfl (sb4 rfl rfl rfl rfl (((( sbC rfl (sbN))))))) ?_
       refine sO (mT rfl (mn (sq (cT rfl (kM (sq (bM (sO (mS (v := .eptr (psV (shs.getD 0 ps0)) 0) (He rfl rfl rfl hlt) (mV rfl (mV (v := .ptr 1 0) rfl (A6 hg gN rfl (mn (sO (m3 rfl rfl rfl (mV (v := .hsl 1 2 0 1 (some 1)) rfl (Ag hg gN (v := .hsl 1 3 0 ([(shs.getD 0 ps0).nm]).length none) rfl rfl (by simp only [Af, and_true, C9]; decide) (x1 rfl (sO (m2 rfl rfl (mV (v := .int .i64 (((shs.getD 0 ps0).cs.length : Nat) : Int)) (Fe rfl) (x1 rfl (bM ?_)))))))))))))))))))))))
       refine ExM.loopJ (σ := Nat) (τ := Unit) (fun j => ⟨.al [(1, .ptr 0 0), (3, .hsl 1 3 0 ((Bm (shs.take 0) ++ [(shs.getD 0 ps0).nm]) ++ ((shs.getD 0 ps0).cs.take j).map (·.s)).length none), (15, .row 2 (shs.map psV)), (16, .int .i64 ((shs.length : Nat) : Int)), (17, .int .i64 ((0 : Nat) : Int)), (27, .row 3 ((shs.getD 0 ps0).cs.map pcV)), (28, .int .i64 (((shs.getD 0 ps0).cs.length : Nat) : Int)), (29, .int .i64 ((j : Nat) : Int))], [A2.cells 42 (.row 2 (shs.map psV) :: z9L) false, A2.cells 36 [.str (shs.getD 0 ps0).nm, .row 3 ((shs.getD 0 ps0).cs.map pcV)] false, A2.cells 9 [.str (shs.getD 0 ps0).nm] false, A2.cells 9 (Ba ((Bm (shs.take 0) ++ [(shs.getD 0 ps0).nm]) ++ ((shs.getD 0 ps0).cs.take j).map (·.s))) true], 88⟩) (fun j => j ≤ (shs.getD 0 ps0).cs.length) (fun j => (shs.getD 0 ps0).cs.length - j) 0 2 (fun _ => ⟨.al [(1, .ptr 0 0), (3, .hsl 1 3 0 ((Bm (shs.take 0) ++ [(shs.getD 0 ps0).nm]) ++ (shs.getD 0 ps0).cs.map (·.s)).length none), (15, .row 2 (shs.map psV)), (16, .int .i64 ((shs.length : Nat) : Int)), (17, .int .i64 ((0 : Nat) : Int))], [A2.cells 42 (.row 2 (shs.map psV) :: z9L) false, A2.cells 36 [.str (shs.getD 0 ps0).nm, .row 3 ((shs.getD 0 ps0).cs.map pcV)] false, A2.cells 9 [.str (shs.getD 0 ps0).nm] false, A2.cells 9 (Ba ((Bm (shs.take 0) ++ [(shs.getD 0 ps0).nm]) ++ (shs.getD 0 ps0).cs.map (·.s))) true], 88⟩) (fun _ => True) (Ac rfl rfl (sb4 rfl rfl rfl rfl (((( sb4 rfl rfl rfl rfl (((( sbN)))))))))) (Nat.zero_le _) ?_ ?_
       · rintro j hj
         have hj : j ≤ (shs.getD 0 ps0).cs.length := hj
         by_cases hjl : j < (shs.getD 0 ps0).cs.length
         · have hal : ((Bm (shs.take 0) ++ [(shs.getD 0 ps0).nm]) ++ ((shs.getD 0 ps0).cs.take j).map (·.s)).length + 1 ≤ 1000000 := by
            simp only [lAp, List.length_map, List.length_take, List.length_singleton] at hb ⊢
            omega
           refine sO (mT rfl (mn (sq (cT rfl (kM (sq (bM (sO (mS (v := .eptr (pcV ((shs.getD 0 ps0).cs.getD j pc0)) 0) (He rfl rfl rfl hjl) (mV rfl (mV (v := .ptr 4 0) rfl (A6 hg gN rfl (mn (oM (m3 rfl rfl rfl (mV (v := .hsl 1 5 0 1 (some 1)) rfl (Ag hg gN (v := .hsl 1 3 0 ((Bm (shs.take 0) ++ [(shs.getD 0 ps0).nm]) ++ ((shs.getD 0 ps0).cs.take j).map (·.s) ++ [((shs.getD 0 ps0).cs.getD j pc0).s]).length none) (A2i (l := (Bm (shs.take 0) ++ [(shs.getD 0 ps0).nm]) ++ ((shs.getD 0 ps0).cs.take j).map (·.s)) (q := ((shs.getD 0 ps0).cs.getD j pc0).s) rfl rfl rfl rfl rfl) rfl (by simp only [Af, and_true, C9]; omega) (x1 rfl (oM ?_)))))))))))))))))))
           refine mFz (s1 := ⟨.al [(1, .ptr 0 0), (3, .hsl 1 3 0 ((Bm (shs.take 0) ++ [(shs.getD 0 ps0).nm]) ++ ((shs.getD 0 ps0).cs.take j).map (·.s) ++ [((shs.getD 0 ps0).cs.getD j pc0).s]).length none), (15, .row 2 (shs.map psV)), (16, .int .i64 ((shs.length : Nat) : Int)), (17, .int .i64 ((0 : Nat) : Int)), (27, .row 3 ((shs.getD 0 ps0).cs.map pcV)), (28, .int .i64 (((shs.getD 0 ps0).cs.length : Nat) : Int)), (29, .int .i64 ((j : Nat) : Int))], [A2.cells 42 (.row 2 (shs.map psV) :: z9L) false, A2.cells 36 [.str (shs.getD 0 ps0).nm, .row 3 ((shs.getD 0 ps0).cs.map pcV)] false, A2.cells 9 [.str (shs.getD 0 ps0).nm] false, A2.cells 9 (Ba ((Bm (shs.take 0) ++ [(shs.getD 0 ps0).nm]) ++ ((shs.getD 0 ps0).cs.take j).map (·.s) ++ [((shs.getD 0 ps0).cs.getD j pc0).s])) true], 88⟩) (Ae 4 rfl (Nat.zero_le _) rfl (by simp only [B2, A8, blw, C7, B3, Ai, cond_true]; try rfl) (fzC rfl (Gg (by decide)) (fzC rfl (A11 (by decide)) (fzC rfl (Ir (Ai _)) (fI (fI (fzC rfl (Ir (B3 _)) (fI (fI fzN))))))))) ?_
           refine mI ((j + 1 : Nat) : Int) rfl (x1 rfl ?_)
           exact ⟨(j + 1), (by omega : j + 1 ≤ (shs.getD 0 ps0).cs.length), (by show (shs.getD 0 ps0).cs.length - (j + 1) < (shs.getD 0 ps0).cs.length - j; omega), Ac rfl (by rw [Q9 hjl, ← List.append_assoc]) (sbC rfl (sbC (by rw [Q9 hjl, ← List.append_assoc]; rfl) (sb4 rfl rfl rfl rfl (((( sbC rfl (sbC rfl (sbN)))))))))⟩
         · have he : j = (shs.getD 0 ps0).cs.length := by omega
           rw [he, List.take_length]
           refine sO (mF rfl (mn (sq (cF rfl ?_))))
           exact ExM.exit (.inl ⟨rfl, (), trivial, Ac rfl rfl (sb4 rfl rfl rfl rfl (((( sbC rfl (sbN))))))⟩)
       · rintro _ s' hJ hs
         refine ExM.sub hs ?_
         refine oM ?_
         refine mFz (s1 := ⟨.al [(1, .ptr 0 0), (3, .hsl 1 3 0 (Bm (shs.take 0) ++ [(shs.getD 0 ps0).nm] ++ (shs.getD 0 ps0).cs.map (·.s)).length none), (15, .row 2 (shs.map psV)), (16, .int .i64 ((shs.length : Nat) : Int)), (17, .int .i64 ((0 : Nat) : Int))], [A2.cells 42 (.row 2 (shs.map psV) :: z9L) false, A2.cells 36 [.str (shs.getD 0 ps0).nm, .row 3 ((shs.getD 0 ps0).cs.map pcV)] false, A2.cells 9 [.str (shs.getD 0 ps0).nm] false, A2.cells 9 (Ba (Bm (shs.take 0) ++ [(shs.getD 0 ps0).nm] ++ (shs.getD 0 ps0).cs.map (·.s))) true], 88⟩) (Ae 4 rfl (Nat.zero_le _) rfl (by simp only [B2, A8, blw, C7, B3, Ai, cond_true]; try rfl) (fzC rfl (Gg (by decide)) (fzC rfl (A11 (by decide)) (fzC rfl (Ir (Ai _)) (fI (fI fzN)))))) ?_
         refine mI ((0 + 1 : Nat) : Int) rfl (x1 rfl ?_)
         exact ⟨(0 + 1), (by omega : 0 + 1 ≤ shs.length), (by show shs.length - (0 + 1) < shs.length - 0; omega), Ac rfl (by rw [Nv hlt]; rfl) (sbC rfl (sbC (by rw [Nv hlt]; rfl) (sbC rfl (sbC rfl (sbC rfl (sbN))))))⟩
     | succ n =>
       have hne : Bm (shs.take (n + 1)) ≠ [] := allT_ne (by omega) hlt
       refine ExM.sub (s1 := ⟨.al [(1, .ptr 0 0), (3, .hsl 1 3 0 (Bm (shs.take (n + 1))).length none), (15, .row 2 (shs.map psV)), (16, .int .i64 ((shs.length : Nat) : Int)), (17, .int .i64 (((n + 1) : Nat) : Int))], [A2.cells 42 (.row 2 (shs.map psV) :: z9L) false, A2.cells 36 [.str (shs.getD 0 ps0).nm, .row 3 ((shs.getD 0 ps0).cs.map pcV)] false, A2.cells 9 [.str (shs.getD 0 ps0).nm] false, A2.cells 9 (Ba (Bm (shs.take (n + 1)))) true], 88⟩) (Ac rfl (Xs hne).symm (sbC rfl (sbC (by rw [Xr hne]; rfl) (sbC rfl (sbC rfl (sbC rfl (sbN))))))) ?_
       refine sO (mT rfl (mn (sq (cT rfl (kM (sq (bM (sO (mS (v := .eptr (psV (shs.getD (n + 1) ps0)) 0) (He rfl rfl rfl hlt) (mV rfl (mV (v := .ptr 4 0) rfl (A6 hg gN rfl (mn (sO (m3 rfl rfl rfl (mV (v := .hsl 1 5 0 1 (some 1)) rfl (Ag hg gN (v := .hsl 1 3 0 (Bm (shs.take (n + 1)) ++ [(shs.getD (n + 1) ps0).nm]).length none) (A2i (l := Bm (shs.take (n + 1))) (q := (shs.getD (n + 1) ps0).nm) rfl rfl rfl rfl rfl) rfl (by simp only [Af, and_true, C9]; omega) (x1 rfl (sO (m2 rfl rfl (mV (v := .int .i64 (((shs.getD (n + 1) ps0).cs.length : Nat) : Int)) (Fe rfl) (x1 rfl (bM ?_)))))))))))))))))))))))
       refine ExM.loopJ (σ := Nat) (τ := Unit) (fun j => ⟨.al [(1, .ptr 0 0), (3, .hsl 1 3 0 ((Bm (shs.take (n + 1)) ++ [(shs.getD (n + 1) ps0).nm]) ++ ((shs.getD (n + 1) ps0).cs.take j).map (·.s)).length none), (15, .row 2 (shs.map psV)), (16, .int .i64 ((shs.length : Nat) : Int)), (17, .int .i64 (((n + 1) : Nat) : Int)), (27, .row 3 ((shs.getD (n + 1) ps0).cs.map pcV)), (28, .int .i64 (((shs.getD (n + 1) ps0).cs.length : Nat) : Int)), (29, .int .i64 ((j : Nat) : Int))], [A2.cells 42 (.row 2 (shs.map psV) :: z9L) false, A2.cells 36 [.str (shs.getD 0 ps0).nm, .row 3 ((shs.getD 0 ps0).cs.map pcV)] false, A2.cells 9 [.str (shs.getD 0 ps0).nm] false, A2.cells 9 (Ba ((Bm (shs.take (n + 1)) ++ [(shs.getD (n + 1) ps0).nm]) ++ ((shs.getD (n + 1) ps0).cs.take j).map (·.s))) true] ++ [A2.cells 36 [.str (shs.getD (n + 1) ps0).nm, .row 3 ((shs.getD (n + 1) ps0).cs.map pcV)] false, A2.cells 9 [.str (shs.getD (n + 1) ps0).nm] false], 88⟩) (fun j => j ≤ (shs.getD (n + 1) ps0).cs.length) (fun j => (shs.getD (n + 1) ps0).cs.length - j) 0 2 (fun _ => ⟨.al [(1, .ptr 0 0), (3, .hsl 1 3 0 ((Bm (shs.take (n + 1)) ++ [(shs.getD (n + 1) ps0).nm]) ++ (shs.getD (n + 1) ps0).cs.map (·.s)).length none), (15, .row 2 (shs.map psV)), (16, .int .i64 ((shs.length : Nat) : Int)), (17, .int .i64 (((n + 1) : Nat) : Int))], [A2.cells 42 (.row 2 (shs.map psV) :: z9L) false, A2.cells 36 [.str (shs.getD 0 ps0).nm, .row 3 ((shs.getD 0 ps0).cs.map pcV)] false, A2.cells 9 [.str (shs.getD 0 ps0).nm] false, A2.cells 9 (Ba ((Bm (shs.take (n + 1)) ++ [(shs.getD (n + 1) ps0).nm]) ++ (shs.getD (n + 1) ps0).cs.map (·.s))) true] ++ [A2.cells 36 [.str (shs.getD (n + 1) ps0).nm, .row 3 ((shs.getD (n + 1) ps0).cs.map pcV)] false, A2.cells 9 [.str (shs.getD (n + 1) ps0).nm] false], 88⟩) (fun _ => True) (Ac rfl (by rw [show (shs.getD (n + 1) ps0).cs.take 0 = [] from rfl, List.map_nil, List.append_nil]; rfl) (sbC rfl (sbC (by rw [show (shs.getD (n + 1) ps0).cs.take 0 = [] from rfl, List.map_nil, List.append_nil]; rfl) (sb4 rfl rfl rfl rfl (((( sbC rfl (sbC rfl (sbN)))))))))) (Nat.zero_le _) ?_ ?_
       · rintro j hj
         have hj : j ≤ (shs.getD (n + 1) ps0).cs.length := hj
         by_cases hjl : j < (shs.getD (n + 1) ps0).cs.length
         · have hal : ((Bm (shs.take (n + 1)) ++ [(shs.getD (n + 1) ps0).nm]) ++ ((shs.getD (n + 1) ps0).cs.take j).map (·.s)).length + 1 ≤ 1000000 := by
            simp only [lAp, List.length_map, List.length_take, List.length_singleton] at hb ⊢
            omega
           refine sO (mT rfl (mn (sq (cT rfl (kM (sq (bM (sO (mS (v := .eptr (pcV ((shs.getD (n + 1) ps0).cs.getD j pc0)) 0) (He rfl rfl rfl hjl) (mV rfl (mV (v := .ptr 6 0) rfl (A6 hg gN rfl (mn (oM (m3 rfl rfl rfl (mV (v := .hsl 1 7 0 1 (some 1)) rfl (Ag hg gN (v := .hsl 1 3 0 ((Bm (shs.take (n + 1)) ++ [(shs.getD (n + 1) ps0).nm]) ++ ((shs.getD (n + 1) ps0).cs.take j).map (·.s) ++ [((shs.getD (n + 1) ps0).cs.getD j pc0).s]).length none) (A2i (l := (Bm (shs.take (n + 1)) ++ [(shs.getD (n + 1) ps0).nm]) ++ ((shs.getD (n + 1) ps0).cs.take j).map (·.s)) (q := ((shs.getD (n + 1) ps0).cs.getD j pc0).s) rfl rfl rfl rfl rfl) rfl (by simp only [Af, and_true, C9]; omega) (x1 rfl (oM ?_)))))))))))))))))))
           refine mFz (s1 := ⟨.al [(1, .ptr 0 0), (3, .hsl 1 3 0 ((Bm (shs.take (n + 1)) ++ [(shs.getD (n + 1) ps0).nm]) ++ ((shs.getD (n + 1) ps0).cs.take j).map (·.s) ++ [((shs.getD (n + 1) ps0).cs.getD j pc0).s]).length none), (15, .row 2 (shs.map psV)), (16, .int .i64 ((shs.length : Nat) : Int)), (17, .int .i64 (((n + 1) : Nat) : Int)), (27, .row 3 ((shs.getD (n + 1) ps0).cs.map pcV)), (28, .int .i64 (((shs.getD (n + 1) ps0).cs.length : Nat) : Int)), (29, .int .i64 ((j : Nat) : Int))], [A2.cells 42 (.row 2 (shs.map psV) :: z9L) false, A2.cells 36 [.str (shs.getD 0 ps0).nm, .row 3 ((shs.getD 0 ps0).cs.map pcV)] false, A2.cells 9 [.str (shs.getD 0 ps0).nm] false, A2.cells 9 (Ba ((Bm (shs.take (n + 1)) ++ [(shs.getD (n + 1) ps0).nm]) ++ ((shs.getD (n + 1) ps0).cs.take j).map (·.s) ++ [((shs.getD (n + 1) ps0).cs.getD j pc0).s])) true] ++ [A2.cells 36 [.str (shs.getD (n + 1) ps0).nm, .row 3 ((shs.getD (n + 1) ps0).cs.map pcV)] false, A2.cells 9 [.str (shs.getD (n + 1) ps0).nm] false], 88⟩) (Ae 6 rfl (Nat.zero_le _) rfl (by simp only [B2, A8, blw, C7, B3, Ai, cond_true, List.cons_append, List.nil_append]; try rfl) (fzC rfl (Gg (by decide)) (fzC rfl (A11 (by decide)) (fzC rfl (Ir (Ai _)) (fI (fI (fzC rfl (Ir (B3 _)) (fI (fI fzN))))))))) ?_
           refine mI ((j + 1 : Nat) : Int) rfl (x1 rfl ?_)
           exact ⟨(j + 1), (by omega : j + 1 ≤ (shs.getD (n + 1) ps0).cs.length), (by show (shs.getD (n + 1) ps0).cs.length - (j + 1) < (shs.getD (n + 1) ps0).cs.length - j; omega), Ac rfl (by rw [Q9 hjl, ← List.append_assoc]) (sbC rfl (sbC (by rw [Q9 hjl, ← List.append_assoc]; rfl) (sb4 rfl rfl rfl rfl (((( sbC rfl (sbC rfl (sbN)))))))))⟩
         · have he : j = (shs.getD (n + 1) ps0).cs.length := by omega
           rw [he, List.take_length]
           refine sO (mF rfl (mn (sq (cF rfl ?_))))
           exact ExM.exit (.inl ⟨rfl, (), trivial, Ac rfl rfl (sb4 rfl rfl rfl rfl (((( sbC rfl (sbN))))))⟩)
       · rintro _ s' hJ hs
         refine ExM.sub hs ?_
         refine oM ?_
         refine mFz (s1 := ⟨.al [(1, .ptr 0 0), (3, .hsl 1 3 0 (Bm (shs.take (n + 1)) ++ [(shs.getD (n + 1) ps0).nm] ++ (shs.getD (n + 1) ps0).cs.map (·.s)).length none), (15, .row 2 (shs.map psV)), (16, .int .i64 ((shs.length : Nat) : Int)), (17, .int .i64 (((n + 1) : Nat) : Int))], [A2.cells 42 (.row 2 (shs.map psV) :: z9L) false, A2.cells 36 [.str (shs.getD 0 ps0).nm, .row 3 ((shs.getD 0 ps0).cs.map pcV)] false, A2.cells 9 [.str (shs.getD 0 ps0).nm] false, A2.cells 9 (Ba (Bm (shs.take (n + 1)) ++ [(shs.getD (n + 1) ps0).nm] ++ (shs.getD (n + 1) ps0).cs.map (·.s))) true], 88⟩) (Ae 4 rfl (Nat.zero_le _) rfl (by simp only [B2, A8, blw, C7, B3, Ai, cond_true]; try rfl) (fzC rfl (Gg (by decide)) (fzC rfl (A11 (by decide)) (fzC rfl (Ir (Ai _)) (fI (fI fzN)))))) ?_
         refine mI (((n + 1) + 1 : Nat) : Int) rfl (x1 rfl ?_)
         exact ⟨((n + 1) + 1), (by omega : (n + 1) + 1 ≤ shs.length), (by show shs.length - ((n + 1) + 1) < shs.length - (n + 1); omega), Ac rfl (by rw [Nv hlt]; exact Xs (by simp)) (sbC rfl (sbC (by rw [Nv hlt, Xr (by simp)]; rfl) (sbC rfl (sbC rfl (sbC rfl (sbN))))))⟩
   · have he : i = shs.length := by omega
     rw [he, List.take_length]
     refine sO (mF rfl (mn (sq (cF rfl ?_))))
     exact ExM.exit (.inl ⟨rfl, (), trivial, Ac rfl rfl (sbC rfl (sbC rfl (sbN)))⟩)
 · rintro _ s' hJ hs
   rw [Xs (Xg hs0), Xr (Xg hs0)] at hs
   refine ExM.sub hs ?_
   refine sq (sO (x4 rfl rfl rfl rfl (bM ?_)))
   refine ExM.unroll 1 ?_
   refine Ep.step ?_
   refine sO (mBk hg gN (c := false) rfl rfl rfl (mn (sq (cF rfl ?_))))
   refine ExM.exit ?_
   refine sq (sO (x4 rfl rfl rfl rfl (bM ?_)))
   refine ExM.unroll 1 ?_
   refine Ep.step ?_
   refine sO (mBk hg gN (c := false) rfl rfl rfl (mn (sq (cF rfl ?_))))
   refine ExM.exit ?_
   refine sq (sO (x4 rfl rfl rfl rfl (bM ?_)))
   refine ExM.unroll 1 ?_
   refine Ep.step ?_
   refine sO (mBk hg gN (c := false) rfl rfl rfl (mn (sq (cF rfl ?_))))
   refine ExM.exit ?_
   refine sq ?_
   refine ExM.cl (s1 := ⟨.al [(3, .hsl 1 3 0 (Bm shs).length none)], [A2.cells 42 (.row 2 (shs.map psV) :: z9L) false, A2.cells 36 [.str (shs.getD 0 ps0).nm, .row 3 ((shs.getD 0 ps0).cs.map pcV)] false, A2.cells 9 [.str (shs.getD 0 ps0).nm] false, A2.cells 9 (Ba (Bm shs)) false], 88⟩) (clMk (i := 3) (Nat.zero_le _) rfl rfl rfl hnoid rfl (clH rfl (by rw [Qn, Nat.mul_one]) clN)) ?_
   refine oM (mV rfl (mC rfl (lSort (ss := Bm shs) rfl rfl (by omega)) (mn (sO (mV rfl (mC rfl (Wm (ss := J6 (Bm shs)) rfl (by simp [J6]) (by rw [J6, List.length_mergeSort]; omega) (I7 _ _)) (x1 rfl ?_)))))))
   exact ExM.ret (A0 trivial rfl rfl hm.choose hm.choose_spec rfl)
end Go.Abs
namespace Go.Abs
open Go.Proofs Go.RowKit
set_option maxRecDepth 100000
variable {W0 : World}
structure Ent where
 f : Nat
 args : List AVal
 v : AVal
def I9 (P : Program) (W0 : World) (e : Ent) : Prop := A8 0 e.args = true ∧ blw 0 e.v = true ∧ A1 P W0 e.f e.args [] e.v []
def Wb : List Ent → CallF
 | [], _, _, _ => none
 | e :: r, f, args, H => cond (Nat.beq f e.f) (cond (Jw args e.args) (some (e.v, H)) (Wb r f args H)) (Wb r f args H)
theorem X0 {P : Program} {W0 : World} : ∀ {l : List Ent}, (∀ e ∈ l, I9 P W0 e) → Do P W0 (Wb l)
 | [], _, _, _, _, _, _, h => by cases h
 | e :: r, hl, f, args, H, v, H', h => by
   have ih := X0 (l := r) fun e he => hl e (by simp [he])
   simp only [Wb] at h
   cases h1 : Nat.beq f e.f with
   | false => rw [h1] at h; exact ih _ _ _ _ _ h
   | true =>
     rw [h1, cond_true] at h
     cases h2 : Jw args e.args with
     | false => rw [h2] at h; exact ih _ _ _ _ _ h
     | true =>
       rw [h2, cond_true] at h
       simp only [iS, iP] at h
       obtain ⟨rfl, rfl⟩ := h
       have := nBq h1
       subst this
       rw [Gl _ _ h2]
       obtain ⟨k1, k2, k3⟩ := hl e (by simp)
       exact A1.pure k1 k2 k3 H
theorem Hu {P : Program} {W0 : World} : ∀ e ∈ ([] : List Ent), I9 P W0 e := fun e h => by cases h
theorem consEnt {P : Program} {W0 : World} {e : Ent} {l : List Ent} (h : I9 P W0 e) (hl : ∀ e ∈ l, I9 P W0 e) : ∀ e' ∈ e :: l, I9 P W0 e' := fun e' h' => by
 rcases List.mem_cons.1 h' with rfl | h'
 · exact h
 · exact hl e' h'
def cc122 (H : Hz) : List AVal → Option (AVal × Hz)
 | [.ptr id 0] => match H[id]? with
   | some (.cells T (.nilPtr :: r) false) => cond (Nat.beq T 135 && Nat.beq r.length 2) (some (.tup [], H.set id (.cells T (.ptr id 0 :: r) false))) none
   | some (.cells _ (.ptr id' 0 :: _) false) => cond (Nat.beq id' id) (some (.tup [], H)) none
   | _ => none
 | _ => none
def A3x : List AVal → Option Bz
 | [] => some []
 | .int .u8 (.ofNat n) :: r => cond (Nat.blt n 256) (match A3x r with
   | some l => some (UInt8.ofNat n :: l)
   | none => none) none
 | _ => none
theorem Z4 : ∀ {cs : List AVal} {l : Bz}, A3x cs = some l → cs = u8c l
 | [], l, h => by simp only [A3x, iS] at h; subst h; rfl
 | .int k n :: r, l, h => by
   unfold A3x at h
   split at h
   · rename_i h0; cases h0
   · rename_i n' r' heq
     injection heq with h1 h2
     injection h1 with h3 h4
     subst h2; subst h3; subst h4
     cases hn : Nat.blt n' 256 with
     | false => rw [hn] at h; cases h
     | true =>
       rw [hn, cond_true] at h
       split at h
       · rename_i l' hl'
         injection h with h; subst h
         rw [Z4 hl']
         have hlt : n' < 256 := by simpa [Nat.blt_eq] using hn
         show AVal.int .u8 ((n' : Nat) : Int) :: u8c l' = AVal.int .u8 (((UInt8.ofNat n').toNat : Nat) : Int) :: u8c l'
         rw [UInt8.toNat_ofNat', Nat.mod_eq_of_lt (show n' < 2 ^ 8 from hlt)]
       · cases h
   · cases h
 | .bool _ :: _, _, h | .str _ :: _, _, h | .agg _ :: _, _, h | .tup _ :: _, _, h | .nilSl :: _, _, h | .emp :: _, _, h | .row _ _ :: _, _, h | .hsl _ _ _ _ _ :: _, _, h | .nilPtr :: _, _, h | .ptr _ _ :: _, _, h | .optr _ _ _ :: _, _, h | .eptr _ _ :: _, _, h | .fn _ _ _ :: _, _, h | .nilFn :: _, _, h | .iface _ _ :: _, _, h | .nilIf :: _, _, h | .mref _ :: _, _, h | .nilMp :: _, _, h => by cases h
def str68 (H : Hz) : List AVal → Option (AVal × Hz)
 | [.ptr id 0] => match H[id]? with
   | some (.cells _ (_ :: .hsl 1 jd 0 n _ :: _) false) => match H[jd]? with
     | some (.cells TB cs true) => match A3x cs with
       | some l => cond (Nat.beq (Vt TB) 5 && (Nat.beq n l.length && Nat.ble 1 n)) (some (.str l, H.set jd (.cells (tgT TB) cs true))) none
       | none => none
     | _ => none
   | _ => none
 | _ => none
def A38 (H : Hz) : List AVal → Option (AVal × Hz)
 | [.hsl 1 id 0 1 _] => match H[id]? with
   | some (.cells _ [.str _] false) => some (.tup [], H)
   | _ => none
 | _ => none
def A1z (H : Hz) : List AVal → Option (AVal × Hz)
 | [.hsl 1 id 0 1 _] => match H[id]? with
   | some (.cells _ [.str _] false) => some (.hsl 1 id 0 1 none, H)
   | _ => none
 | _ => none
def tabW : CallF := fun f args H => cond (Nat.beq f 122) (cc122 H args) (cond (Nat.beq f 68) (str68 H args) (cond (Nat.beq f 120) (A38 H args) (cond (Nat.beq f 121) (A1z H args) none)))
theorem Vw {H : Hz} {id : Nat} {o : A2} (h : H[id]? = some o) : H.set id o = H := by
 obtain ⟨hlt, he⟩ := List.getElem?_eq_some_iff.1 h
 rw [← he]; exact List.set_getElem_self hlt
theorem tabW_ok (_hk : Kn W0) : Do Tryz.prog W0 tabW := fun f args H v H' h => by
 unfold tabW at h
 cases h1 : Nat.beq f 122 with
 | true =>
   have := nBq h1; subst this
   rw [h1, cond_true] at h
   unfold cc122 at h
   split at h
   · rename_i id
     split at h
     · rename_i T r ho
       cases hc : (Nat.beq T 135 && Nat.beq r.length 2) with
       | false => rw [hc] at h; cases h
       | true =>
         rw [hc, cond_true] at h
         injection h with h; injection h with e1 e2; subst e1; subst e2
         simp only [bAt] at hc
         have e3 := nBq hc.1
         have e4 := nBq hc.2
         subst e3
         exact ccPT ho (by rw [e4]; kernel_rfl) (by kernel_rfl)
     · rename_i T id' r ho
       cases hc : Nat.beq id' id with
       | false => rw [hc] at h; cases h
       | true =>
         rw [hc, cond_true] at h
         injection h with h; injection h with e1 e2; subst e1; subst e2
         have e3 := nBq hc
         subst e3
         exact A3u ho
     · cases h
   · cases h
 | false =>
   rw [h1, cond_false] at h
   cases h2 : Nat.beq f 68 with
   | true =>
     have := nBq h2; subst this
     rw [h2, cond_true] at h
     unfold str68 at h
     split at h
     · rename_i id
       split at h
       · rename_i T c0 jd n cp r ho
         split at h
         · rename_i TB cs hj
           split at h
           · rename_i l hl
             have hcs := Z4 hl
             subst hcs
             cases hc : (Nat.beq (Vt TB) 5 && (Nat.beq n l.length && Nat.ble 1 n)) with
             | false => rw [hc] at h; cases h
             | true =>
               rw [hc, cond_true] at h
               injection h with h; injection h with e1 e2; subst e1; subst e2
               simp only [bAt] at hc
               have e3 := nBq hc.2.1
               have e4 := Nat.le_of_ble_eq_true hc.2.2
               exact strU ho hj e3 (fun e => by rw [e3, e] at e4; cases e4) (nBq hc.1)
           · cases h
         · cases h
       · cases h
     · cases h
   | false =>
     rw [h2, cond_false] at h
     cases h3 : Nat.beq f 120 with
     | true =>
       have := nBq h3; subst this
       rw [h3, cond_true] at h
       unfold A38 at h
       split at h
       · rename_i id cp
         split at h
         · rename_i T x ho
           injection h with h; injection h with e1 e2; subst e1; subst e2
           have q := lSort (W0 := W0) (cp := cp) (ss := [x]) (n := 1) ho rfl (show 1 < 1000000 by decide)
           have e : List.mergeSort [x] (fun x y => decide (x ≤ y)) = [x] := by simp []
           rw [e] at q
           have e2 : H.set id (.cells T (Ba [x]) false) = H := Vw ho
           rw [e2] at q
           exact q
         · cases h
       · cases h
     | false =>
       rw [h3, cond_false] at h
       cases h4 : Nat.beq f 121 with
       | false => rw [h4] at h; cases h
       | true =>
         have := nBq h4; subst this
         rw [h4, cond_true] at h
         unfold A1z at h
         split at h
         · rename_i id cp
           split at h
           · rename_i T x ho
             injection h with h; injection h with e1 e2; subst e1; subst e2
             have e : Lib.compactUpTo #[x] 1 = [x] := by rfl
             have q := Wm (W0 := W0) (cp := cp) (ss := [x]) (n := 1) ho rfl (show 1 < 1000000 by decide) (by show (Lib.compactUpTo #[x] 1).length ≤ 1; rw [e]; exact Nat.le_refl _)
             have e0 : Lib.compactUpTo ([x] : List Bz).toArray ([x] : List Bz).length = [x] := by rfl
             rw [e0] at q
             have e2 : H.set id (.cells T (Ba ([x] ++ List.replicate (([x] : List Bz).length - ([x] : List Bz).length) [])) false) = H := Vw ho
             rw [e2] at q
             exact q
           · cases h
         · cases h
def idleA (g : Nat) : Option Nat := cond (Nat.beq g 23) (some 3) (cond (Nat.beq g 71) (some 2) none)
def tabP (l : List Ent) : CallF := fun f args H => match tabW f args H with
 | some r => some r
 | none => Wb l f args H
theorem tabP_ok (hk : Kn W0) {l : List Ent} (hl : ∀ e ∈ l, I9 Tryz.prog W0 e) : Do Tryz.prog W0 (tabP l) := fun f args H v H' h => by
 unfold tabP at h
 split at h
 · rename_i r hr
   injection h with h; subst h
   exact tabW_ok hk _ _ _ _ _ hr
 · exact X0 hl _ _ _ _ _ h
noncomputable def K0 (l : List Ent) (d : Nat) : CallF := Hg Tryz.prog GL Gk idleA (tabP l) (fun call ops s => Xo Tryz.prog GL call ops s) 1000 d
theorem Fv (hk : Kn W0) {l : List Ent} (hl : ∀ e ∈ l, I9 Tryz.prog W0 e) (d : Nat) : Do Tryz.prog W0 (K0 l d) := by
 refine Qq hk.g (fun g m h => ?_) (tabP_ok hk hl) (fun call hc => A2j (by kernel_rfl) hk.g hc) 1000 d
 unfold idleA at h
 cases h1 : Nat.beq g 23 with
 | true =>
   rw [h1, cond_true] at h
   injection h with h; subst h
   have := nBq h1; subst this
   exact ⟨idle23, Gj (by kernel_rfl)⟩
 | false =>
   rw [h1, cond_false] at h
   cases h2 : Nat.beq g 71 with
   | false => rw [h2] at h; cases h
   | true =>
     rw [h2, cond_true] at h
     injection h with h; subst h
     have := nBq h2; subst this
     exact ⟨idle71, Gj (by kernel_rfl)⟩
theorem R3 (hk : Kn W0) {l : List Ent} (hl : ∀ e ∈ l, I9 Tryz.prog W0 e) {d f : Nat} {args : List AVal} {v : AVal} (h : K0 l d f args [] = some (v, [])) (h1 : A8 0 args = true) (h2 : blw 0 v = true) : I9 Tryz.prog W0 ⟨f, args, v⟩ :=
 ⟨h1, h2, Fv hk hl d _ _ _ _ _ h⟩
end Go.Abs
namespace Go.Abs
open Go.Proofs Go.RowKit
set_option maxRecDepth 10000000
variable {W0 : World}
def M5 : Bz := [84, 66, 76, 49, 1, 0, 0, 0, 5, 0, 1, 0, 1, 83, 16, 23, 24, 121, 2, 0, 0, 0, 5, 1, 0, 0, 0, 0, 19, 26, 24, 42, 3, 0, 0, 0, 1, 0, 0, 0, 1, 2, 4, 0, 0, 0, 1, 0, 0, 0, 1, 2, 5, 0, 0, 0, 1, 0, 0, 0, 1, 2]
def bkA : AVal := .agg [.row 2 [.agg [.str [83], .nilSl]], .nilSl, .nilSl, .nilSl]
def bkB : AVal := .agg [.row 2 [.agg [.str [83], .row 3 []]], .row 3 [], .nilSl, .nilSl]
def bkZ : AVal := .agg z4L
def awe0 : Ent := ⟨8, [bkA], .tup [.str M5, .int .i64 0]⟩
theorem awr0 : K0 [] 60 8 [bkA] [] = some (.tup [.str M5, .int .i64 0], []) := by kernel_rfl
theorem awk0 (hk : Kn W0) : I9 Tryz.prog W0 awe0 := R3 hk Hu awr0 (by kernel_rfl) (by kernel_rfl)
def awe1 : Ent := ⟨8, [bkB], .tup [.str M5, .int .i64 0]⟩
theorem awr1 : K0 [] 60 8 [bkB] [] = some (.tup [.str M5, .int .i64 0], []) := by kernel_rfl
theorem awk1 (hk : Kn W0) : I9 Tryz.prog W0 awe1 := R3 hk Hu awr1 (by kernel_rfl) (by kernel_rfl)
def awe2 : Ent := ⟨9, [.str M5], .tup [bkB, .int .i64 0, .int .i64 0]⟩
theorem awr2 : K0 [awe1] 60 9 [.str M5] [] = some (.tup [bkB, .int .i64 0, .int .i64 0], []) := by kernel_rfl
theorem awk2 (hk : Kn W0) : I9 Tryz.prog W0 awe2 := R3 hk (consEnt (awk1 hk) Hu) awr2 (by kernel_rfl) (by kernel_rfl)
def awe3 : Ent := ⟨8, [bkZ], .tup [.str [], .int .i64 96]⟩
theorem awr3 : K0 [] 60 8 [bkZ] [] = some (.tup [.str [], .int .i64 96], []) := by kernel_rfl
theorem awk3 (hk : Kn W0) : I9 Tryz.prog W0 awe3 := R3 hk Hu awr3 (by kernel_rfl) (by kernel_rfl)
def awe4 : Ent := ⟨10, [bkA, bkB], .bool true⟩
theorem awr4 : K0 [] 60 10 [bkA, bkB] [] = some (.bool true, []) := by kernel_rfl
theorem awk4 (hk : Kn W0) : I9 Tryz.prog W0 awe4 := R3 hk Hu awr4 (by kernel_rfl) (by kernel_rfl)
theorem name52 (hk : Kn W0) : cP W0 52 [.agg [.str [83], .int .i64 0, .int .i64 0, .bool false, .bool false, .bool false]] [] (.bool true) [] :=
 Fv hk Hu 60 _ _ _ _ _ (show K0 [] 60 52 [.agg [.str [83], .int .i64 0, .int .i64 0, .bool false, .bool false, .bool false]] [] = some (.bool true, []) by kernel_rfl)
theorem name53 (hk : Kn W0) : cP W0 53 [.row 2 [], .str [83], .fn 54 [] []] [] (.bool false) [] :=
 Fv hk Hu 60 _ _ _ _ _ (show K0 [] 60 53 [.row 2 [], .str [83], .fn 54 [] []] [] = some (.bool false, []) by kernel_rfl)
end Go.Abs
namespace Go.Abs
open Go.Proofs Go.RowKit
set_option maxRecDepth 100000
variable {W0 : World} {G : List (Nat × AVal)}
def hD (s : Bz) (n : Nat) : Hz := [.cells 42 z4L false, .cells 3 [.int .i64 0] false, .cells 43 [.int .i64 0] false, .cells 81 [.str s, .int .i64 ((n : Nat) : Int), .nilSl] false]
def pv (n e : Nat) : AVal := .iface 77 (.agg [.int .i64 ((n : Nat) : Int), .int .i64 ((e : Nat) : Int)])
def WF24 : AFn := ⟨(sQ [wM 5 1, wV 6 (.len true 5), wV 7 (.move (vI 0))] (.block 0 (.loop (sQ [wV 8 (.bin .lss none 7 6)] (.seq (.cond 8 .skip (.exit 0)) (.seq (.block 1 (sQ [wM 9 7, wM 4 9] (.seq (.draw [wM 10 0, wV 11 (kF 69 [10, (vI 1)]), wM 12 1, wM 13 4, wM 14 4, wV 15 (.bin .add none 14 (vI 1)), wV 16 (.cutStr 12 (some 13) (some 15)), wV 17 (.bin .neq none 11 16)]) (.cond 17 (.ops [wM 18 0, wV 19 (.nilCheck 18), wV 20 (.fieldAddr 1 19), wV 21 (.load 1 false 20), wV 22 (.bin .sub none 21 (vI 1)), wV 23 (.build z2L [(0, 1, 22), (1, 1, (vI 250))]), wV 24 (.iface 77 23), wN (.pan 24)]) .skip)))) (.ops [wV 25 (.bin .add none 7 (vI 1)), wM 7 25]))))))), [], 26⟩
theorem WG24 : Ab Tryz.prog 24 = some WF24 := by kernel_rfl
def WF25 : AFn := ⟨(sQ [wV 4 (.move (.val (.str [])))] (sQ [wM 7 0, wM 8 1, wV 9 (.conv (.int .i32) 8), wV 10 (.conv .i2s 9), wV 11 (kF 24 [7, 10])] (sQ [wM 12 0, wM 13 0, wV 14 (kF 70 [13, (vI 4)]), wV 15 (kF 69 [12, 14]), wM 5 15] (sQ [wM 16 0, wV 17 (.nilCheck 16), wV 18 (.fieldAddr 1 17), wV 19 (.load 1 false 18), wM 6 19] (.seq (sQ [wM 20 0, wV 21 (kF 70 [20, (vI 4)]), wM 22 5, wV 23 (kF 11 [22]), wV 24 (.bin .neq none 21 23)] (.cond 24 (.ops [wM 25 6, wV 26 (.build z2L [(0, 1, 25), (1, 1, (vI 251))]), wV 27 (.iface 77 26), wN (.pan 27)]) .skip)) (sQ [wM 28 5, wM 4 28] .ret)))))), [4], 29⟩
theorem WG25 : Ab Tryz.prog 25 = some WF25 := by kernel_rfl
def WF69 : AFn := ⟨(sQ [wV 4 (.move (.val (.str [])))] (.seq (.seq (.draw [wM 5 1, wM 6 0, wV 7 (.nilCheck 6), wV 8 (.fieldAddr 0 7), wV 9 (.load 1 false 8), wV 10 (.len true 9), wM 11 0, wV 12 (.nilCheck 11), wV 13 (.fieldAddr 1 12), wV 14 (.load 1 false 13), wV 15 (.bin .sub none 10 14), wV 16 (.bin .gtr none 5 15)]) (.cond 16 (.ops [wM 17 0, wV 18 (.nilCheck 17), wV 19 (.fieldAddr 0 18), wV 20 (.load 1 false 19), wV 21 (.len true 20), wV 22 (.build z2L [(0, 1, 21), (1, 1, (vI 252))]), wV 23 (.iface 77 22), wN (.pan 23)]) .skip)) (sQ [wM 24 0, wV 25 (.nilCheck 24), wV 26 (.fieldAddr 1 25), wV 27 (.load 1 false 26), wM 28 1, wV 29 (.bin .add none 27 28), wV 30 (.nilCheck 24), wV 31 (.fieldAddr 1 30), wN (.store 1 31 29)] (.seq (.draw [wM 32 0, wV 33 (.nilCheck 32), wV 34 (.fieldAddr 0 33), wV 35 (.load 1 false 34), wM 36 0, wV 37 (.nilCheck 36), wV 38 (.fieldAddr 1 37), wV 39 (.load 1 false 38), wM 40 1, wV 41 (.bin .sub none 39 40), wM 42 0, wV 43 (.nilCheck 42), wV 44 (.fieldAddr 1 43), wV 45 (.load 1 false 44), wV 46 (.cutStr 35 (some 41) (some 45)), wM 4 46]) .ret)))), [4], 47⟩
theorem WG69 : Ab Tryz.prog 69 = some WF69 := by kernel_rfl
def WF70 : AFn := ⟨(sQ [wV 4 (.move (vI 0))] (.seq (sQ [wM 7 0, wM 8 1, wV 9 (kF 69 [7, 8]), wV 10 (.conv (.s2b 5) 9), wV 11 (.len false 10), wV 12 (.move (vI 0))] (.block 0 (.loop (sQ [wV 13 (.bin .lss none 12 11)] (.seq (.cond 13 .skip (.exit 0)) (.seq (.block 1 (sQ [wV 14 (.idxSl 1 10 12), wV 15 (.load 1 false 14), wM 6 15] (.ops [wM 16 4, wV 17 (.bin .shl none 16 (.val (.int .u64 8))), wM 18 6, wV 19 (.conv (.int .i64) 18), wV 20 (.bin .or none 17 19), wM 4 20]))) (.ops [wV 21 (.bin .add none 12 (vI 1)), wM 12 21]))))))) (sQ [wM 22 4, wM 4 22] .ret))), [4], 23⟩
theorem WG70 : Ab Tryz.prog 70 = some WF70 := by kernel_rfl
theorem wr_1 (hk : Kn W0) : cP W0 69 [.ptr 3 0, .int .i64 1] ((hD [84, 66, 76, 88] 0)) (.str [84]) (hD [84, 66, 76, 88] 1) := Fv hk Hu 60 _ _ _ _ _ (show K0 [] 60 69 [.ptr 3 0, .int .i64 1] ((hD [84, 66, 76, 88] 0)) = some (.str [84], hD [84, 66, 76, 88] 1) by kernel_rfl)
theorem wr_2 (hk : Kn W0) : cP W0 69 [.ptr 3 0, .int .i64 1] ((hD [84, 66, 76, 88] 1)) (.str [66]) (hD [84, 66, 76, 88] 2) := Fv hk Hu 60 _ _ _ _ _ (show K0 [] 60 69 [.ptr 3 0, .int .i64 1] ((hD [84, 66, 76, 88] 1)) = some (.str [66], hD [84, 66, 76, 88] 2) by kernel_rfl)
theorem wr_3 (hk : Kn W0) : cP W0 69 [.ptr 3 0, .int .i64 1] ((hD [84, 66, 76, 88] 2)) (.str [76]) (hD [84, 66, 76, 88] 3) := Fv hk Hu 60 _ _ _ _ _ (show K0 [] 60 69 [.ptr 3 0, .int .i64 1] ((hD [84, 66, 76, 88] 2)) = some (.str [76], hD [84, 66, 76, 88] 3) by kernel_rfl)
theorem wr_4 (hk : Kn W0) : cP W0 69 [.ptr 3 0, .int .i64 1] ((hD [84, 66, 76, 88] 3)) (.str [88]) (hD [84, 66, 76, 88] 4) := Fv hk Hu 60 _ _ _ _ _ (show K0 [] 60 69 [.ptr 3 0, .int .i64 1] ((hD [84, 66, 76, 88] 3)) = some (.str [88], hD [84, 66, 76, 88] 4) by kernel_rfl)
theorem p24 (hk : Kn W0) (hg : hGr W0 G) : K5 Tryz.prog W0 24 [.ptr 3 0, .str [84, 66, 76, 49]] (hD [84, 66, 76, 88] 0) (pv 3 250) (hD [84, 66, 76, 88] 4) := by
 refine K5.of_fn WG24 (by simp) rfl ?_
 refine ExP.seqR ?_
 refine oM (x3 rfl rfl rfl ?_)
 refine ⟨rfl, ?_⟩
 refine ExP.block ?_
 refine ExP.loop 4 ?_
 refine .inr ?_
 refine sO (mBk hg gN (c := true) rfl rfl rfl (mn (sq (cT rfl (kM (sq (bM (sO (x2 rfl rfl (sq ?_))))))))))
 refine ExM.draw1 hg 1 rfl ?_
 refine If rfl rfl trivial (A08 rfl rfl rfl (wr_1 hk) (If rfl rfl trivial (If rfl rfl trivial (If rfl rfl trivial (wKv (v := .int .i64 1) rfl rfl (by first | exact trivial | (simp only [Af, and_true, lCo, lNi, lAp]; omega)) rfl (If (v := .str [84]) rfl rfl (by first | exact trivial | decide | (simp [Ar, Af])) (wBk (c := false) rfl rfl rfl (wNil (?_)))))))))
 refine cF rfl (kM (oM (mKs (v := .int .i64 1) rfl rfl (x1 rfl ?_))))
 refine ⟨rfl, ?_⟩
 refine .inr ?_
 refine sO (mBk hg gN (c := true) rfl rfl rfl (mn (sq (cT rfl (kM (sq (bM (sO (x2 rfl rfl (sq ?_))))))))))
 refine ExM.draw1 hg 1 rfl ?_
 refine If rfl rfl trivial (A08 rfl rfl rfl (wr_2 hk) (If rfl rfl trivial (If rfl rfl trivial (If rfl rfl trivial (wKv (v := .int .i64 2) rfl rfl (by first | exact trivial | (simp only [Af, and_true, lCo, lNi, lAp]; omega)) rfl (If (v := .str [66]) rfl rfl (by first | exact trivial | decide | (simp [Ar, Af])) (wBk (c := false) rfl rfl rfl (wNil (?_)))))))))
 refine cF rfl (kM (oM (mKs (v := .int .i64 2) rfl rfl (x1 rfl ?_))))
 refine ⟨rfl, ?_⟩
 refine .inr ?_
 refine sO (mBk hg gN (c := true) rfl rfl rfl (mn (sq (cT rfl (kM (sq (bM (sO (x2 rfl rfl (sq ?_))))))))))
 refine ExM.draw1 hg 1 rfl ?_
 refine If rfl rfl trivial (A08 rfl rfl rfl (wr_3 hk) (If rfl rfl trivial (If rfl rfl trivial (If rfl rfl trivial (wKv (v := .int .i64 3) rfl rfl (by first | exact trivial | (simp only [Af, and_true, lCo, lNi, lAp]; omega)) rfl (If (v := .str [76]) rfl rfl (by first | exact trivial | decide | (simp [Ar, Af])) (wBk (c := false) rfl rfl rfl (wNil (?_)))))))))
 refine cF rfl (kM (oM (mKs (v := .int .i64 3) rfl rfl (x1 rfl ?_))))
 refine ⟨rfl, ?_⟩
 refine .inl ?_
 refine ExP.seqR ?_
 refine oM (mBk hg gN (c := true) rfl rfl rfl (mn ?_))
 refine ⟨rfl, ?_⟩
 refine ExP.seqR ?_
 refine cT rfl (kM ?_)
 refine ⟨rfl, ?_⟩
 refine ExP.seqL ?_
 refine ExP.block ?_
 refine ExP.seqR ?_
 refine oM (x2 rfl rfl ?_)
 refine ⟨rfl, ?_⟩
 refine ExP.seqR ?_
 refine ExM.draw1 hg 1 rfl ?_
 refine If rfl rfl trivial (A08 rfl rfl rfl (wr_4 hk) (If rfl rfl trivial (If rfl rfl trivial (If rfl rfl trivial (wKv (v := .int .i64 4) rfl rfl (by first | exact trivial | (simp only [Af, and_true, lCo, lNi, lAp]; omega)) rfl (If (v := .str [49]) rfl rfl (by first | exact trivial | decide | (simp [Ar, Af])) (wBk (c := true) rfl rfl rfl (wNil (?_)))))))))
 refine ⟨rfl, ?_⟩
 refine ExP.condT hg rfl ?_
 refine ExP.ops hg ?_
 refine I5 hg gN rfl rfl trivial (I5 hg gN rfl rfl trivial (I5 hg gN rfl rfl trivial (I5 hg gN rfl rfl trivial (I5 hg gN rfl rfl trivial (I5 hg gN rfl rfl trivial (I5 hg gN rfl rfl trivial (pPan hg rfl rfl)))))))
theorem p69 (hg : hGr W0 G) : K5 Tryz.prog W0 69 [.ptr 3 0, .int .i64 4] (hD [84, 66, 76, 49, 1] 5) (pv 5 252) (hD [84, 66, 76, 49, 1] 5) := by
 refine K5.of_fn WG69 (by simp) rfl ?_
 refine ExP.seqR ?_
 refine oM (x1 rfl ?_)
 refine ⟨rfl, ?_⟩
 refine ExP.seqL ?_
 refine ExP.seqR ?_
 refine ExM.draw hg ?_
 refine qV rfl (qV rfl (qV rfl (qV rfl (qV rfl (qV rfl (qV rfl (qV rfl (qV rfl (qV rfl (qV rfl (qBk (c := true) rfl rfl rfl ?_)))))))))))
 refine G8 (?_)
 refine ⟨rfl, ?_⟩
 refine ExP.condT hg rfl ?_
 refine ExP.ops hg ?_
 refine I5 hg gN rfl rfl trivial (I5 hg gN rfl rfl trivial (I5 hg gN rfl rfl trivial (I5 hg gN rfl rfl trivial (I5 hg gN rfl rfl trivial (I5 hg gN rfl rfl trivial (I5 hg gN rfl rfl trivial (pPan hg rfl rfl)))))))
theorem p70 (hg : hGr W0 G) : K5 Tryz.prog W0 70 [.ptr 3 0, .int .i64 4] (hD [84, 66, 76, 49, 1] 5) (pv 5 252) (hD [84, 66, 76, 49, 1] 5) := by
 refine K5.of_fn WG70 (by simp) rfl ?_
 refine ExP.seqR ?_
 refine oM (x1 rfl ?_)
 refine ⟨rfl, ?_⟩
 refine ExP.seqL ?_
 refine ExP.seqL ?_
 refine ExP.ops hg ?_
 refine I5 hg gN rfl rfl trivial (I5 hg gN rfl rfl trivial (Zm hg rfl (p69 hg) rfl))
theorem wr_5 (hk : Kn W0) : cP W0 24 [.ptr 3 0, .str [1]] ((hD [84, 66, 76, 49, 1] 4)) (.tup []) (hD [84, 66, 76, 49, 1] 5) := Fv hk Hu 60 _ _ _ _ _ (show K0 [] 60 24 [.ptr 3 0, .str [1]] ((hD [84, 66, 76, 49, 1] 4)) = some (.tup [], hD [84, 66, 76, 49, 1] 5) by kernel_rfl)
theorem p25 (hk : Kn W0) (hg : hGr W0 G) : K5 Tryz.prog W0 25 [.ptr 3 0, .int .i64 1] (hD [84, 66, 76, 49, 1] 4) (pv 5 252) (hD [84, 66, 76, 49, 1] 5) := by
 refine K5.of_fn WG25 (by simp) rfl ?_
 refine ExP.seqR ?_
 refine oM (x1 rfl ?_)
 refine ⟨rfl, ?_⟩
 refine ExP.seqR ?_
 refine oM (m4 rfl rfl rfl rfl (mC rfl (wr_5 hk) (mn ?_)))
 refine ⟨rfl, ?_⟩
 refine ExP.seqL ?_
 refine ExP.ops hg ?_
 refine I5 hg gN rfl rfl trivial (I5 hg gN rfl rfl trivial (Zm hg rfl (p70 hg) rfl))
def wr23 : ACode := (sQ [⟨(some 7), none, (.move 3)⟩, ⟨(some 8), none, (.bin .neq (some (.interface #[])) 7 (.val (.nilIf)))⟩] (.cond 8 (sQ [⟨(some 10), none, (.move 3)⟩, ⟨(some 11), none, (.tas 77 10)⟩, ⟨(some 9), none, (.move 11)⟩, ⟨(some 12), none, (.extract 9 0)⟩, ⟨(some 13), none, (.extract 9 1)⟩, ⟨(some 4), none, (.alloc 77 [(.int .i64 0), (.int .i64 0)])⟩, wN ((.store 2 4 12)), ⟨(some 5), none, (.move 13)⟩] (.seq (sQ [⟨(some 14), none, (.move 5)⟩, ⟨(some 15), none, (.un .not 14)⟩] (.cond 15 (.ops [⟨(some 16), none, (.move 3)⟩, wN ((.pan 16))]) .skip)) (.drawC [⟨(some 17), none, (.build z4L [])⟩, ⟨(some 18), none, (.fieldAddr 0 4)⟩, ⟨(some 19), none, (.load 1 false 18)⟩, ⟨(some 20), none, (.fieldAddr 1 4)⟩, ⟨(some 21), none, (.load 1 false 20)⟩, wN ((.store 4 0 17)), wN ((.store 1 1 19)), wN ((.store 1 2 21))] ⟨8, [0, 1, 1, 1, 1, 2, 2, 2], [0, 0, 2, 0, 8, 1, 39, 127], [0, 32, 96, 224]⟩))) .skip))
theorem rec23 (hg : hGr W0 G) {s : Bz} {n a e : Nat} : A0z Tryz.prog W0 23 [.ptr 0 0, .ptr 1 0, .ptr 2 0] (pv a e) (hD s n) [.cells 42 z4L false, .cells 3 [.int .i64 ((a : Nat) : Int)] false, .cells 43 [.int .i64 ((e : Nat) : Int)] false, .cells 81 [.str s, .int .i64 ((n : Nat) : Int), .nilSl] false, .cells 77 [.int .i64 ((a : Nat) : Int), .int .i64 ((e : Nat) : Int)] false] := by
 refine A0z.of2 (ar := wr23) (t := 6) (t2 := 3) (n := 22) Tryz.func23 rfl rfl rfl rfl rfl (fun _ _ => rfl) (fun _ _ => rfl) (by kernel_rfl) rfl (by simp) rfl rfl rfl ?_
 refine sO (mV rfl (mBk hg gN (c := true) rfl rfl rfl (mn (cT rfl (sO (m2 rfl rfl (m4 rfl rfl rfl rfl (A6 hg gN rfl (x1 rfl (sq (sO (mV rfl (mBk hg gN (c := false) rfl rfl rfl (mn (cF rfl (kM ?_))))))))))))))))
 refine ExM.drawC hg ?_
 refine Dl rfl rfl trivial (by kernel_rfl) (Dl rfl rfl trivial (by kernel_rfl) (Dl rfl rfl trivial (by kernel_rfl) (Dl rfl rfl trivial (by kernel_rfl) (Dl rfl rfl trivial (by kernel_rfl) (Ls rfl rfl (pdC (cY (by show SP.mayB _ 32 4 = true; rfl) (evY rfl trivial)) (pdC (cY (by show SP.mayB _ 32 3 = true; rfl) (evY rfl trivial)) (pdC (cY (by show SP.mayB _ 32 2 = true; rfl) (evY rfl trivial)) (pdC (cY (by show SP.mayB _ 32 1 = true; rfl) (evY rfl trivial)) pdN)))) (?_))))))
 refine Ls rfl rfl (pdC (cY (by show SP.mayB _ 96 4 = true; rfl) (evY rfl trivial)) (pdC (cY (by show SP.mayB _ 96 3 = true; rfl) (evY rfl trivial)) (pdC (cN (by show SP.mayB _ 96 2 = false; rfl)) (pdC (cN (by show SP.mayB _ 96 1 = false; rfl)) pdN)))) (Ls rfl rfl (pdC (cN (by show SP.mayB _ 224 4 = false; rfl)) (pdC (cN (by show SP.mayB _ 224 3 = false; rfl)) (pdC (cN (by show SP.mayB _ 224 2 = false; rfl)) (pdC (cN (by show SP.mayB _ 224 1 = false; rfl)) pdN)))) (A1c rfl (?_)))
 exact ⟨trivial, rfl⟩
def wa0 : ACode := (.ops [⟨(some 2), none, (.alloc 42 z4L)⟩, ⟨(some 3), none, (.alloc 3 [(.int .i64 0)])⟩, ⟨(some 4), none, (.alloc 43 [(.int .i64 0)])⟩])
def wa1 : ACode := (sQ [⟨(some 12), none, (.move 0)⟩, ⟨(some 13), none, (.len true 12)⟩, ⟨(some 14), none, (.bin .gtr none 13 (vI 200000))⟩] (.cond 14 (sQ [⟨(some 15), none, (.build z4L [])⟩, wN ((.store 4 2 15)), wN ((.store 1 3 (vI 0))), wN ((.store 1 4 (vI 250)))] .ret) .skip))
def war : ACode := (sQ [⟨(some 17), none, (.move 0)⟩, ⟨(some 18), none, (.build [(.str []), (.int .i64 0), .nilSl] [(0 , 1 , 17)])⟩, ⟨(some 19), none, (.box 81 18)⟩, ⟨(some 5), none, (.move 19)⟩] (sQ [⟨(some 20), none, (.move 5)⟩, ⟨(some 21), none, (kF 24 [20, (.val (.str [84, 66, 76, 49]))])⟩] (sQ [⟨(some 6), none, (.move (.val (.nilSl)))⟩] (.seq (sQ [⟨(some 22), none, (.move (vI 0))⟩] (.block 0 (.loop (sQ [⟨(some 23), none, (.bin .lss none 22 (vI 5))⟩] (.seq (.cond 23 .skip (.exit 0)) (.seq (.block 1 (sQ [⟨(some 24), none, (.move 22)⟩, ⟨(some 7), none, (.move 24)⟩] (.ops [⟨(some 25), none, (.move 6)⟩, ⟨(some 26), none, (.move 5)⟩, ⟨(some 27), none, (.move 7)⟩, ⟨(some 28), none, (.bin .add none 27 (vI 1))⟩, ⟨(some 29), none, (kF 25 [26, 28])⟩, ⟨(some 30), none, (.bslice 9 1 1 [(.str [])] [(0 , 1 , 29)])⟩, ⟨(some 31), none, (.append 9 1 16 25 30)⟩, ⟨(some 6), none, (.move 31)⟩]))) (.ops [⟨(some 32), none, (.bin .add none 22 (vI 1))⟩, ⟨(some 22), none, (.move 32)⟩]))))))) (.seq (sQ [⟨(some 33), none, (.move 5)⟩, ⟨(some 34), none, (.nilCheck 33)⟩, ⟨(some 35), none, (.fieldAddr 1 34)⟩, ⟨(some 36), none, (.load 1 false 35)⟩, ⟨(some 37), none, (.move 0)⟩, ⟨(some 38), none, (.len true 37)⟩, ⟨(some 39), none, (.bin .lss none 36 38)⟩] (.cond 39 (.seq (.drawC [⟨(some 40), none, (.build z4L [])⟩, ⟨(some 41), none, (.move 5)⟩, ⟨(some 42), none, (.nilCheck 41)⟩, ⟨(some 43), none, (.fieldAddr 1 42)⟩, ⟨(some 44), none, (.load 1 false 43)⟩, wN ((.store 4 2 40)), wN ((.store 1 3 44)), wN ((.store 1 4 (vI 250)))] ⟨8, [0, 0, 1, 1, 1, 2, 2, 2], [0, 0, 2, 6, 14, 1, 63, 127], [0, 32, 96, 224]⟩) .ret) .skip)) (sQ [⟨(some 46), none, (.move 6)⟩, ⟨(some 47), none, (kF 26 [46])⟩, ⟨(some 45), none, (.move 47)⟩, ⟨(some 48), none, (.extract 45 0)⟩, ⟨(some 49), none, (.extract 45 1)⟩, ⟨(some 8), none, (.alloc 42 z4L)⟩, wN ((.store 4 8 48)), ⟨(some 9), none, (.move 49)⟩] (.seq (sQ [⟨(some 51), none, (.load 4 true 8)⟩, ⟨(some 52), none, (kF 8 [51])⟩, ⟨(some 50), none, (.move 52)⟩, ⟨(some 53), none, (.extract 50 0)⟩, ⟨(some 54), none, (.extract 50 1)⟩, ⟨(some 10), none, (.move 53)⟩, ⟨(some 11), none, (.move 54)⟩] (sQ [⟨(some 55), none, (.move 9)⟩, ⟨(some 56), none, (.un .not 55)⟩, ⟨(some 57), none, (.move 56)⟩, ⟨(some 58), (some (57 , false)), (.move 11)⟩, ⟨(some 59), (some (57 , false)), (.bin .neq none 58 (vI 0))⟩, ⟨(some 60), none, (.pick 57 (.val (.bool true)) 59)⟩, ⟨(some 61), none, (.move 60)⟩, ⟨(some 62), (some (61 , false)), (.move 10)⟩, ⟨(some 63), (some (61 , false)), (.move 0)⟩, ⟨(some 64), (some (61 , false)), (.bin .neq none 62 63)⟩, ⟨(some 65), none, (.pick 61 (.val (.bool true)) 64)⟩] (.cond 65 (sQ [⟨(some 66), none, (.build z4L [])⟩, wN ((.store 4 2 66)), wN ((.store 1 3 (vI 0))), wN ((.store 1 4 (vI 250)))] .ret) .skip))) (sQ [⟨(some 67), none, (.load 4 true 8)⟩, wN ((.store 4 2 67)), wN ((.store 1 3 (vI 0))), wN ((.store 1 4 (vI 0)))] .ret))))))))
theorem decX (hk : Kn W0) (hg : hGr W0 G) : cP W0 9 [.str [84, 66, 76, 88]] [] (.tup [bkZ, .int .i64 3, .int .i64 250]) [] := by
 refine A1.of_rec2 hg (v := pv 3 250) (a0 := wa0) (a1 := wa1) (ar := war) (ao := ⟨some 16, none, .mkfn 23 [] [.tmp 2, .tmp 3, .tmp 4]⟩) (t := 16) (g := 23) (n := 68) Tryz.func9 rfl (by simp [Tryz.f9]) (Gj (by kernel_rfl)) (by kernel_rfl) (by kernel_rfl) (by kernel_rfl) (by kernel_rfl) rfl rfl rfl ⟨_, rfl, rfl, rfl⟩ (by simp) rfl rfl ?_
 refine oM (x3 rfl rfl rfl ?_)
 refine ⟨rfl, ?_⟩
 refine sO (m2 rfl rfl (mBk hg gN (c := false) rfl rfl rfl (mn (cF rfl (kM ?_)))))
 refine ⟨rfl, ?_⟩
 refine ⟨trivial, rfl, ⟨_, rfl, ?_⟩⟩
 refine ExP.seqR ?_
 refine oM (x4 rfl rfl rfl rfl ?_)
 refine ⟨rfl, ?_⟩
 refine ExP.seqL ?_
 refine ExP.ops hg ?_
 refine I5 hg gN rfl rfl trivial (Zm hg rfl (p24 hk hg) ⟨_, rec23 hg, _, rfl, rfl⟩)
theorem wr_6 (hk : Kn W0) : cP W0 24 [.ptr 3 0, .str [84, 66, 76, 49]] ((hD [84, 66, 76, 49, 1] 0)) (.tup []) (hD [84, 66, 76, 49, 1] 4) := Fv hk Hu 60 _ _ _ _ _ (show K0 [] 60 24 [.ptr 3 0, .str [84, 66, 76, 49]] ((hD [84, 66, 76, 49, 1] 0)) = some (.tup [], hD [84, 66, 76, 49, 1] 4) by kernel_rfl)
theorem decY (hk : Kn W0) (hg : hGr W0 G) : cP W0 9 [.str [84, 66, 76, 49, 1]] [] (.tup [bkZ, .int .i64 5, .int .i64 252]) [] := by
 refine A1.of_rec2 hg (v := pv 5 252) (a0 := wa0) (a1 := wa1) (ar := war) (ao := ⟨some 16, none, .mkfn 23 [] [.tmp 2, .tmp 3, .tmp 4]⟩) (t := 16) (g := 23) (n := 68) Tryz.func9 rfl (by simp [Tryz.f9]) (Gj (by kernel_rfl)) (by kernel_rfl) (by kernel_rfl) (by kernel_rfl) (by kernel_rfl) rfl rfl rfl ⟨_, rfl, rfl, rfl⟩ (by simp) rfl rfl ?_
 refine oM (x3 rfl rfl rfl ?_)
 refine ⟨rfl, ?_⟩
 refine sO (m2 rfl rfl (mBk hg gN (c := false) rfl rfl rfl (mn (cF rfl (kM ?_)))))
 refine ⟨rfl, ?_⟩
 refine ⟨trivial, rfl, ⟨_, rfl, ?_⟩⟩
 refine ExP.seqR ?_
 refine oM (x4 rfl rfl rfl rfl ?_)
 refine ⟨rfl, ?_⟩
 refine ExP.seqR ?_
 refine oM (mV rfl (mC rfl (wr_6 hk) (mn ?_)))
 refine ⟨rfl, ?_⟩
 refine ExP.seqR ?_
 refine oM (x1 rfl ?_)
 refine ⟨rfl, ?_⟩
 refine ExP.seqL ?_
 refine ExP.seqR ?_
 refine oM (x1 rfl ?_)
 refine ⟨rfl, ?_⟩
 refine ExP.block ?_
 refine ExP.loop 1 ?_
 refine .inl ?_
 refine ExP.seqR ?_
 refine oM (mBk hg gN (c := true) rfl rfl rfl (mn ?_))
 refine ⟨rfl, ?_⟩
 refine ExP.seqR ?_
 refine cT rfl (kM ?_)
 refine ⟨rfl, ?_⟩
 refine ExP.seqL ?_
 refine ExP.block ?_
 refine ExP.seqR ?_
 refine oM (x2 rfl rfl ?_)
 refine ⟨rfl, ?_⟩
 refine ExP.ops hg ?_
 refine I5 hg gN rfl rfl trivial (I5 hg gN rfl rfl trivial (I5 hg gN rfl rfl trivial (I5 hg gN rfl rfl (by first | exact trivial | decide | (simp [Ar, Af])) (Zm hg rfl (p25 hk hg) ⟨_, rec23 hg, _, rfl, rfl⟩))))
theorem entP {e : Ent} (h : I9 Tryz.prog W0 e) (H : Hz) : cP W0 e.f e.args H e.v H := A1.pure h.1 h.2.1 h.2.2 H
theorem sumA0 (hk : Kn W0) (H : Hz) : cP W0 11 [.str []] H (.int .i64 1) H := A1.pure rfl rfl (Fv hk Hu 60 _ _ _ _ _ (show K0 [] 60 11 [.str []] [] = some (.int .i64 1, []) by kernel_rfl)) H
theorem sumB0 (hk : Kn W0) (H : Hz) : cP W0 11 [.str [65]] H (.int .i64 323) H := A1.pure rfl rfl (Fv hk Hu 60 _ _ _ _ _ (show K0 [] 60 11 [.str [65]] [] = some (.int .i64 323, []) by kernel_rfl)) H
def WF4 : AFn := ⟨(sQ [wV 0 (.move (.val (.bool false)))] (sQ [wV 15 (.build Qf [(0, 1, (.val (.str [83])))]), wV 16 (.bslice 36 2 1 Qf [(0, 2, 15)]), wV 17 (.build z4L [(0, 1, 16)]), wV 1 (.alloc 42 z4L), wN (.store 4 1 17)] (sQ [wV 19 (.load 4 true 1), wV 20 (kF 8 [19]), wM 18 20, wV 21 (.extract 18 0), wV 22 (.extract 18 1), wM 2 21, wM 3 22] (sQ [wM 24 2, wV 25 (kF 9 [24]), wM 23 25, wV 26 (.extract 23 0), wV 27 (.extract 23 1), wV 28 (.extract 23 2), wV 4 (.alloc 42 z4L), wN (.store 4 4 26), wM 5 27, wM 6 28] (sQ [wV 30 (.build z4L []), wV 31 (kF 8 [30]), wM 29 31, wV 32 (.extract 29 0), wV 33 (.extract 29 1), wM 7 32, wM 8 33] (sQ [wV 35 (kF 9 [(.val (.str [84, 66, 76, 88]))]), wM 34 35, wV 36 (.extract 34 0), wV 37 (.extract 34 1), wV 38 (.extract 34 2), wV 9 (.alloc 42 z4L), wN (.store 4 9 36), wM 10 37, wM 11 38] (sQ [wV 40 (kF 9 [(.val (.str [84, 66, 76, 49, 1]))]), wM 39 40, wV 41 (.extract 39 0), wV 42 (.extract 39 1), wV 43 (.extract 39 2), wV 12 (.alloc 42 z4L), wN (.store 4 12 41), wM 13 42, wM 14 43] (sQ [wM 44 3, wV 45 (.bin .eql none 44 (vI 0)), wM 46 45, wT 47 46 (.move 2), wT 48 46 (.len true 47), wT 49 46 (.bin .eql none 48 (vI 62)), wV 50 (.pick 46 49 (.val (.bool false))), wM 51 50, wT 52 51 (.move 2), wT 53 51 (.cutStr 52 none (some (vI 4))), wT 54 51 (.bin .eql none 53 (.val (.str [84, 66, 76, 49]))), wV 55 (.pick 51 54 (.val (.bool false))), wM 56 55, wT 57 56 (.move 6), wT 58 56 (.bin .eql none 57 (vI 0)), wV 59 (.pick 56 58 (.val (.bool false))), wM 60 59, wT 61 60 (.move 5), wT 62 60 (.bin .eql none 61 (vI 0)), wV 63 (.pick 60 62 (.val (.bool false))), wM 64 63, wT 65 64 (.load 4 true 1), wT 66 64 (.load 4 true 4), wT 67 64 (kF 10 [65, 66]), wV 68 (.pick 64 67 (.val (.bool false))), wM 69 68, wT 70 69 (.move 8), wT 71 69 (.bin .neq none 70 (vI 0)), wV 72 (.pick 69 71 (.val (.bool false))), wM 73 72, wT 74 73 (.move 11), wT 75 73 (.bin .eql none 74 (vI 250)), wV 76 (.pick 73 75 (.val (.bool false))), wM 77 76, wT 78 77 (.move 10), wT 79 77 (.bin .eql none 78 (vI 3)), wV 80 (.pick 77 79 (.val (.bool false))), wM 81 80, wT 82 81 (.move 14), wT 83 81 (.bin .eql none 82 (vI 252)), wV 84 (.pick 81 83 (.val (.bool false))), wM 85 84, wT 86 85 (.move 13), wT 87 85 (.bin .eql none 86 (vI 5)), wV 88 (.pick 85 87 (.val (.bool false))), wM 89 88, wT 90 89 (kF 11 [(.val (.str []))]), wT 91 89 (.bin .eql none 90 (vI 1)), wV 92 (.pick 89 91 (.val (.bool false))), wM 93 92, wT 94 93 (kF 11 [(.val (.str [65]))]), wT 95 93 (.bin .eql none 94 (vI 323)), wV 96 (.pick 93 95 (.val (.bool false))), wM 0 96] .ret)))))))), [0], 97⟩
theorem WG4 : Ab Tryz.prog 4 = some WF4 := by kernel_rfl
theorem awakeP (hk : Kn W0) (hg : hGr W0 G) : cP W0 4 [] [] (.bool true) [] := by
 refine oF WG4 ?_
 refine sO (x1 rfl (sO (mV rfl (mV (v := .hsl 2 0 0 1 (some 1)) rfl (mV rfl ?_)))))
 refine mFz (s1 := ⟨.al [(17, bkA)], [], 97⟩) (Ae 0 rfl (Nat.zero_le _) rfl rfl (fzC rfl (.inl ⟨20, rfl⟩) fzN)) ?_
 refine mV (v := .ptr 0 0) rfl (A6 hg gN rfl (mn (sO (mV (v := bkA) rfl (mC rfl (entP (awk0 hk) _) (mV rfl (x4 rfl rfl rfl rfl (sO (mV rfl (mC rfl (entP (awk2 hk) _) (m4 rfl rfl rfl rfl (mV (v := .ptr 1 0) rfl (A6 hg gN rfl (x2 rfl rfl (sO (mV (v := bkZ) rfl (mC rfl (entP (awk3 hk) _) (mV rfl (x4 rfl rfl rfl rfl (sO (mC rfl (A1.pure rfl rfl (decX hk hg) _) (m4 rfl rfl rfl rfl (mV (v := .ptr 2 0) rfl (A6 hg gN rfl (x2 rfl rfl (sO (mC rfl (A1.pure rfl rfl (decY hk hg) _) (m4 rfl rfl rfl rfl (mV (v := .ptr 3 0) rfl (A6 hg gN rfl (x2 rfl rfl (sO (mV rfl (mBk hg gN (c := true) rfl rfl rfl (mBk hg gN (c := true) rfl rfl rfl (mV rfl (mV (v := .int .i64 62) rfl (mBk hg (gS rfl) (c := true) rfl rfl rfl (mBk hg gN (c := true) rfl rfl rfl (mBk hg gN (c := true) rfl rfl rfl (mV rfl (Ag hg (gS rfl) (v := .str [84, 66, 76, 49]) rfl rfl (by simp [Ar, Af, M5]) (mBk hg (gS rfl) (c := true) rfl rfl rfl (mBk hg gN (c := true) rfl rfl rfl (mBk hg gN (c := true) rfl rfl rfl (mV rfl (mBk hg (gS rfl) (c := true) rfl rfl rfl (mBk hg gN (c := true) rfl rfl rfl (mBk hg gN (c := true) rfl rfl rfl (mV rfl (mBk hg (gS rfl) (c := true) rfl rfl rfl (mBk hg gN (c := true) rfl rfl rfl (mBk hg gN (c := true) rfl rfl rfl (mV (v := bkA) rfl (mV (v := bkB) rfl (Fg hg (gS rfl) (c := true) rfl rfl (entP (awk4 hk) _) rfl (mBk hg gN (c := true) rfl rfl rfl (mBk hg gN (c := true) rfl rfl rfl (mV rfl (mBk hg (gS rfl) (c := true) rfl rfl rfl (mBk hg gN (c := true) rfl rfl rfl (mBk hg gN (c := true) rfl rfl rfl (mV rfl (mBk hg (gS rfl) (c := true) rfl rfl rfl (mBk hg gN (c := true) rfl rfl rfl (mBk hg gN (c := true) rfl rfl rfl (mV rfl (mBk hg (gS rfl) (c := true) rfl rfl rfl (mBk hg gN (c := true) rfl rfl rfl (mBk hg gN (c := true) rfl rfl rfl (mV rfl (mBk hg (gS rfl) (c := true) rfl rfl rfl (mBk hg gN (c := true) rfl rfl rfl (mBk hg gN (c := true) rfl rfl rfl (mV rfl (mBk hg (gS rfl) (c := true) rfl rfl rfl (mBk hg gN (c := true) rfl rfl rfl (mBk hg gN (c := true) rfl rfl rfl (mC rfl (sumA0 hk _) (mBk hg (gS rfl) (c := true) rfl rfl rfl (mBk hg gN (c := true) rfl rfl rfl (mBk hg gN (c := true) rfl rfl rfl (mC rfl (sumB0 hk _) (mBk hg (gS rfl) (c := true) rfl rfl rfl (mBk hg gN (c := true) rfl rfl rfl (x1 rfl ?_))))))))))))))))))))))))))))))))))))))))))))))))))))))))))))))))))))))))))))))))))))))
 exact ExM.ret (pL)
def secB (i : Nat) (l : Bz) : Bz := A9 1 (i + 1) ++ (A9 4 l.length ++ (l ++ A9 4 (N0 l)))
def Dw (bd : Nat → Bz) : Nat → Bz
 | 0 => []
 | i + 1 => Dw bd i ++ secB i (bd i)
theorem O4 {i : Nat} {l : Bz} : (secB i l).length = 9 + l.length := by
 unfold secB
 simp only [lAp, Ao]; omega
def E6 : Bz := [84, 66, 76, 49]
def Js (bd : Nat → Bz) : Bz := E6 ++ Dw bd 5
def fnL : List AVal := [.fn 60 [] [.ptr 1 0], .fn 62 [] [], .fn 63 [] [], .fn 64 [] [], .fn 65 [] []]
def f6 (es : List (Bz × Int)) (bk hv : List AVal) (ol : Bz) : Hz := [.cells 42 bk false, .cells 58 hv false, .mp es, .cells 135 [.ptr 3 0, .hsl 1 4 0 ol.length none, .nilMp] false, .cells 5 (u8c ol) true, .cells 142 fnL false]
def f7 (es : List (Bz × Int)) (bk hv : List AVal) (ol : Bz) : Hz := f6 es bk hv ol ++ [.cells 135 [.nilPtr, .nilSl, .mref 2] false]
def f11 (es : List (Bz × Int)) (bk hv : List AVal) (ol : Bz) (n0 : Nat) (b0 : UInt8) (T : TypeId) (l : Bz) : Hz := f6 es bk hv ol ++ [.cells 135 [.ptr 6 0, .hsl 1 10 0 l.length none, .mref 2] false, .cells 42 bk false, .cells 3 (B4 [n0]) false, .cells 5 [.int .u8 (b0.toNat : Nat)] false, .cells T (u8c l) true]
theorem A2y {n : Nat} (h : 2 ≤ n) : A8 n fnL = true := by
 have h1 : Nat.blt 1 n = true := Gn (by omega)
 simp only [fnL, A8, blw, h1, cond_true]
theorem A40 {es : List (Bz × Int)} {bk hv : List AVal} {ol : Bz} {n : Nat} (hbk : ∀ n, A8 n bk = true) (hhv : ∀ n, A8 n hv = true) (h : 5 ≤ n) : B2 n (f6 es bk hv ol) = true := by
 have h3 : Nat.blt 3 n = true := Gn (by omega)
 have h4 : Nat.blt 4 n = true := Gn (by omega)
 simp only [f6, B2, A8, blw, hbk, hhv, Bo, A2y (show 2 ≤ n by omega), h3, h4, cond_true]
theorem Vi {es : List (Bz × Int)} {bk hv : List AVal} {ol : Bz} {n0 : Nat} {b0 : UInt8} {T : TypeId} {l : Bz} {n : Nat} (hbk : ∀ n, A8 n bk = true) (hhv : ∀ n, A8 n hv = true) (h : 11 ≤ n) : B2 n (f11 es bk hv ol n0 b0 T l) = true := by
 have h2 : Nat.blt 2 n = true := Gn (by omega)
 have h6 : Nat.blt 6 n = true := Gn (by omega)
 have h10 : Nat.blt 10 n = true := Gn (by omega)
 exact F3 (A40 hbk hhv (by omega)) (by simp only [B2, A8, blw, hbk, As, Bo, h2, h6, h10, cond_true])
def rhoS : Nat → Nat
 | 0 => 6
 | 1 => 2
 | j + 2 => 7 + j
def rhoD : Nat → Nat
 | 0 => 6
 | 1 => 2
 | 2 => 1
 | j + 3 => 7 + j
theorem A07 {f : Nat} {es : List (Bz × Int)} {bk hv : List AVal} {ol : Bz} {n0 : Nat} {b0 : UInt8} {l : Bz} (hbk : ∀ n, A8 n bk = true) (hc : cP W0 f [.ptr 0 0, .agg bk] [.cells 135 [.nilPtr, .nilSl, .mref 1] false, .mp es] (.tup []) (wbH es bk n0 b0 l)) :
 cP W0 f [.ptr 6 0, .agg bk] (f7 es bk hv ol) (.tup []) (f11 es bk hv ol n0 b0 5 l) := by
 have hs : Sel [6, 2] 2 [A2.cells 135 [.nilPtr, .nilSl, .mref 1] false, .mp es] (f7 es bk hv ol) rhoS := by
  refine ⟨by decide, rfl, rfl, fun j hj => ?_, fun i hi => ?_, fun j o ho => ?_⟩
  · match j, hj with
    | 0, _ => rfl
    | 1, _ => rfl
  · have : i = 6 ∨ i = 2 := by simpa using hi
    rcases this with rfl | rfl <;> (show _ < 7; decide)
  · match j, ho with
    | 0, ho => simp only [List.getElem?_cons_zero, iS] at ho; subst ho; rfl
    | 1, ho => simp only [List.getElem?_cons_succ, List.getElem?_cons_zero, iS] at ho; subst ho; rfl
    | j + 2, ho => simp at ho
 have h := A1.renG (H := f7 es bk hv ol) (H0 := [A2.cells 135 [.nilPtr, .nilSl, .mref 1] false, .mp es]) [6, 2] rhoS hs rfl (by show cond (A8 2 bk) true false = true; rw [hbk]; rfl) (by show 2 ≤ 6; decide) (fun j h1 h2 => by
  match j, h1 with
  | j + 2, _ => show 7 + j = 7 + (j + 2 - 2); omega) hc
 have e1 : Eg rhoS bk = bk := Aq bk (hbk 0)
 have e2 : Eg rhoS (u8c l) = u8c l := Aq _ (Bo l)
 have e3 : Eg rhoS (B4 [n0]) = B4 [n0] := rfl
 have e4 : Eg rhoS [.ptr 0 0, .agg bk] = [.ptr 6 0, .agg bk] := by simp only [Eg, Abs.ren, e1]; rfl
 rw [e4] at h
 have e5 : Bt ([6, 2] ++ List.range' (f7 es bk hv ol).length ((wbH es bk n0 b0 l).length - 2)) ((wbH es bk n0 b0 l).map (D6 rhoS)) (f7 es bk hv ol ++ List.replicate ((wbH es bk n0 b0 l).length - 2) .dead) = f11 es bk hv ol n0 b0 5 l := by
  simp only [wbH, List.map, D6, e1, e2, e3]
  rfl
 exact (show Bt ([6, 2] ++ List.range' (f7 es bk hv ol).length ((wbH es bk n0 b0 l).length - 2)) ((wbH es bk n0 b0 l).map (D6 rhoS)) (f7 es bk hv ol ++ List.replicate ((wbH es bk n0 b0 l).length - 2) .dead) = _ from e5) ▸ h
theorem liftD {f : Nat} {es : List (Bz × Int)} {bk hv : List AVal} {ol : Bz} {n0 : Nat} {b0 : UInt8} {l : Bz} (hbk : ∀ n, A8 n bk = true) (hhv : ∀ n, A8 n hv = true) (hc : cP W0 f [.ptr 0 0, .agg bk, .ptr 2 0] [.cells 135 [.nilPtr, .nilSl, .mref 1] false, .mp es, .cells 58 hv false] (.tup []) (Ey es hv bk n0 b0 l)) :
 cP W0 f [.ptr 6 0, .agg bk, .ptr 1 0] (f7 es bk hv ol) (.tup []) (f11 es bk hv ol n0 b0 5 l) := by
 have e6 : Eg rhoD hv = hv := Aq hv (hhv 0)
 have hs : Sel [6, 2, 1] 3 [A2.cells 135 [.nilPtr, .nilSl, .mref 1] false, .mp es, .cells 58 hv false] (f7 es bk hv ol) rhoD := by
  refine ⟨by decide, rfl, rfl, fun j hj => ?_, fun i hi => ?_, fun j o ho => ?_⟩
  · match j, hj with
    | 0, _ => rfl
    | 1, _ => rfl
    | 2, _ => rfl
  · have : i = 6 ∨ i = 2 ∨ i = 1 := by simpa using hi
    rcases this with rfl | rfl | rfl <;> (show _ < 7; decide)
  · match j, ho with
    | 0, ho => simp only [List.getElem?_cons_zero, iS] at ho; subst ho; rfl
    | 1, ho => simp only [List.getElem?_cons_succ, List.getElem?_cons_zero, iS] at ho; subst ho; rfl
    | 2, ho => simp only [List.getElem?_cons_succ, List.getElem?_cons_zero, iS] at ho; subst ho; rw [D6, e6]; rfl
    | j + 3, ho => simp at ho
 have h := A1.renG (H := f7 es bk hv ol) (H0 := [A2.cells 135 [.nilPtr, .nilSl, .mref 1] false, .mp es, .cells 58 hv false]) [6, 2, 1] rhoD hs (by show cond (A8 3 hv) true false = true; rw [hhv]; rfl) (by show cond (A8 3 bk) true false = true; rw [hbk]; rfl) (by show 3 ≤ 7; decide) (fun j h1 h2 => by
  match j, h1 with
  | j + 3, _ => show 7 + j = 7 + (j + 3 - 3); omega) hc
 have e1 : Eg rhoD bk = bk := Aq bk (hbk 0)
 have e2 : Eg rhoD (u8c l) = u8c l := Aq _ (Bo l)
 have e3 : Eg rhoD (B4 [n0]) = B4 [n0] := rfl
 have e4 : Eg rhoD [.ptr 0 0, .agg bk, .ptr 2 0] = [.ptr 6 0, .agg bk, .ptr 1 0] := by simp only [Eg, Abs.ren, e1]; rfl
 rw [e4] at h
 have e5 : Bt ([6, 2, 1] ++ List.range' (f7 es bk hv ol).length ((Ey es hv bk n0 b0 l).length - 3)) ((Ey es hv bk n0 b0 l).map (D6 rhoD)) (f7 es bk hv ol ++ List.replicate ((Ey es hv bk n0 b0 l).length - 3) .dead) = f11 es bk hv ol n0 b0 5 l := by
  simp only [Ey, List.map, D6, e1, e2, e3, e6]
  rfl
 exact (show Bt ([6, 2, 1] ++ List.range' (f7 es bk hv ol).length ((Ey es hv bk n0 b0 l).length - 3)) ((Ey es hv bk n0 b0 l).map (D6 rhoD)) (f7 es bk hv ol ++ List.replicate ((Ey es hv bk n0 b0 l).length - 3) .dead) = _ from e5) ▸ h
def QF22 : AFn := ⟨(sQ [wV 1 (.box 42 0), wV 2 (.move (.val (.str [])))] (sQ [wV 11 (.load 4 true 1), wV 12 (kF 58 [11]), wV 3 (.alloc 58 [.nilSl]), wN (.store 1 3 12)] (sQ [wV 13 (.mkMap), wM 4 13] (.seq (sQ [wV 14 (.load 1 false 3), wV 15 (.len false 14), wV 16 (.move (vI 0))] (.block 0 (.loop (sQ [wV 17 (.bin .lss none 16 15)] (.seq (.cond 17 .skip (.exit 0)) (.seq (.block 1 (sQ [wM 18 16, wV 19 (.idxSl 1 14 16), wV 20 (.load 1 false 19), wM 5 18, wM 6 20] (.ops [wM 21 4, wM 22 6, wM 23 5, wN (.mapUpd 21 22 23)]))) (.ops [wV 24 (.bin .add none 16 (vI 1)), wM 16 24]))))))) (sQ [wV 7 (.alloc 135 [.nilPtr, .nilSl, .nilMp])] (sQ [wV 25 (.fieldAddr 0 7), wV 26 (kF 59 [25, (.val (.str [84, 66, 76, 49]))])] (.seq (sQ [wV 27 (.mkfn 60 [] [3]), wV 28 (.bslice 142 1 5 [.nilFn] [(0, 1, 27), (1, 1, (.val (.fn 62 [] []))), (2, 1, (.val (.fn 63 [] []))), (3, 1, (.val (.fn 64 [] []))), (4, 1, (.val (.fn 65 [] [])))]), wV 29 (.len false 28), wV 30 (.move (vI 0))] (.block 2 (.loop (sQ [wV 31 (.bin .lss none 30 29)] (.seq (.cond 31 .skip (.exit 2)) (.seq (.block 3 (sQ [wM 32 30, wV 33 (.idxSl 1 28 30), wV 34 (.load 1 false 33), wM 8 32, wM 9 34] (sQ [wM 35 4, wV 36 (.build [.nilPtr, .nilSl, .nilMp] [(2, 1, 35)]), wV 37 (.box 135 36), wM 10 37] (sQ [wM 38 9, wM 39 10, wV 40 (.load 4 true 1), wV 41 (.call 38 [39, 40])] (sQ [wM 42 8, wV 43 (.bin .add none 42 (vI 1)), wV 44 (.bslice 3 1 1 [.int .i64 0] [(0, 1, 43)]), wV 45 (kF 66 [7, (vI 1), 44])] (sQ [wM 46 10, wV 47 (.nilCheck 46), wV 48 (.fieldAddr 0 47), wV 49 (kF 67 [48]), wV 50 (.bslice 3 1 1 [.int .i64 0] [(0, 1, 49)]), wV 51 (kF 66 [7, (vI 4), 50])] (sQ [wV 52 (.fieldAddr 0 7), wM 53 10, wV 54 (.nilCheck 53), wV 55 (.fieldAddr 0 54), wV 56 (kF 68 [55]), wV 57 (kF 59 [52, 56])] (.ops [wM 58 10, wV 59 (.nilCheck 58), wV 60 (.fieldAddr 0 59), wV 61 (kF 68 [60]), wV 62 (kF 11 [61]), wV 63 (.bslice 3 1 1 [.int .i64 0] [(0, 1, 62)]), wV 64 (kF 66 [7, (vI 4), 63])])))))))) (.ops [wV 65 (.bin .add none 30 (vI 1)), wM 30 65]))))))) (sQ [wV 66 (.fieldAddr 0 7), wV 67 (kF 68 [66]), wM 2 67] .ret)))))))), [2], 68⟩
theorem QG22 : Ab Tryz.prog 22 = some QF22 := by kernel_rfl
theorem fvM {H : Hz} {n id : Nat} (h : id < n := by decide) : FzV H n (.mref id) (.mref id) := .inl ⟨1, by simp only [frz, Gn h, cond_true]⟩
theorem fileP (hg : hGr W0 G) {shs : List PSh} {bd : Nat → Bz} (hs0 : 0 < shs.length) (hl : (Bm shs).length ≤ 999999) (hsz : ∀ i, i < 5 → (E6 ++ Dw bd (i + 1)).length ≤ 900000)
 (hB : ∀ i, i < 5 → ∃ f caps n0 b0, Bg 1 false fnL i = some (.fn f [] caps) ∧ bd i ≠ [] ∧ ∀ ol, cP W0 f ([.ptr 6 0, .agg [.row 2 (shs.map psV), .nilSl, .nilSl, .nilSl]] ++ caps) (f7 (esN (Ax shs) (Ax shs).length) [.row 2 (shs.map psV), .nilSl, .nilSl, .nilSl] [.row 1 ((Ax shs).map AVal.str)] ol) (.tup []) (f11 (esN (Ax shs) (Ax shs).length) [.row 2 (shs.map psV), .nilSl, .nilSl, .nilSl] [.row 1 ((Ax shs).map AVal.str)] ol n0 b0 5 (bd i))) :
 cP W0 22 [.agg [.row 2 (shs.map psV), .nilSl, .nilSl, .nilSl]] [] (.str (Js bd)) [] := by
 have hbk : ∀ n, A8 n [.row 2 (shs.map psV), .nilSl, .nilSl, .nilSl] = true := fun n => by
  show cond (A8 n (shs.map psV)) _ false = true
  rw [Ai]; rfl
 have hhv : ∀ n, A8 n [.row 1 ((Ax shs).map AVal.str)] = true := fun n => by
  show cond (A8 n (Ba (Ax shs))) true false = true
  rw [C7]; rfl
 have hA : A8 0 [.agg [.row 2 (shs.map psV), .nilSl, .nilSl, .nilSl]] = true := by show cond (A8 0 [.row 2 (shs.map psV), .nilSl, .nilSl, .nilSl]) true false = true; rw [hbk]; rfl
 have hBv : blw 0 (.row 1 ((Ax shs).map AVal.str)) = true := C7 _
 have htl : (Ax shs).length ≤ 999999 := Nat.le_trans (I7 _ _) (by rw [J6, List.length_mergeSort]; exact hl)
 refine oF QG22 ?_
 refine sO (mV (v := .ptr 0 0) rfl (x1 rfl (sO (mV (v := .agg [.row 2 (shs.map psV), .nilSl, .nilSl, .nilSl]) rfl (mC rfl (A1.pure hA hBv (textsP hg hs0 hl) _) (mV (v := .ptr 1 0) rfl (A6 hg gN rfl (mn (sO (mV (v := .mref 2) rfl (x1 rfl (sq (sO (mV (v := .row 1 ((Ax shs).map AVal.str)) rfl (mV (v := .int .i64 (((Ax shs).length : Nat) : Int)) (Fe rfl) (x1 rfl (bM ?_)))))))))))))))))
 refine ExM.loopJ (σ := Nat) (τ := Unit) (fun i => ⟨.al [(1, .ptr 0 0), (3, .ptr 1 0), (4, .mref 2), (14, .row 1 ((Ax shs).map AVal.str)), (15, .int .i64 (((Ax shs).length : Nat) : Int)), (16, .int .i64 ((i : Nat) : Int))], [A2.cells 42 [.row 2 (shs.map psV), .nilSl, .nilSl, .nilSl] false, A2.cells 58 [.row 1 ((Ax shs).map AVal.str)] false, A2.mp (esN (Ax shs) i)], 68⟩) (fun i => i ≤ (Ax shs).length) (fun i => (Ax shs).length - i) 0 0 (fun _ => ⟨.al [(1, .ptr 0 0), (3, .ptr 1 0), (4, .mref 2)], [A2.cells 42 [.row 2 (shs.map psV), .nilSl, .nilSl, .nilSl] false, A2.cells 58 [.row 1 ((Ax shs).map AVal.str)] false, A2.mp (esN (Ax shs) (Ax shs).length)], 68⟩) (fun _ => True) (Ac rfl rfl (sb4 rfl rfl rfl rfl (((( sbC rfl (sbC rfl (sbN)))))))) (Nat.zero_le _) ?_ ?_
 · rintro i hi
   have hi : i ≤ (Ax shs).length := hi
   by_cases hlt : i < (Ax shs).length
   · refine sO (mT rfl (mn (sq (cT rfl (kM (sq (bM (sO (mV rfl (mS (v := .eptr (.str ((Ax shs).getD i [])) 0) (He rfl rfl rfl hlt) (mV (v := .str ((Ax shs).getD i [])) rfl (x2 rfl rfl (oM (m3 rfl rfl rfl (A6 hg gN rfl (mn (oM (mI ((i + 1 : Nat) : Int) rfl (x1 rfl ?_)))))))))))))))))))
     exact ⟨(i + 1), (by omega : i + 1 ≤ (Ax shs).length), (by show (Ax shs).length - (i + 1) < (Ax shs).length - i; omega), Ac rfl rfl (sb4 rfl rfl rfl rfl (((( sbC rfl (sbC rfl (sbN)))))))⟩
   · have he : i = (Ax shs).length := by omega
     rw [he]
     refine sO (mF rfl (mn (sq (cF rfl ?_))))
     exact ExM.exit (.inl ⟨rfl, (), trivial, Ac rfl rfl (sbC rfl (sbC rfl (sbC rfl (sbN))))⟩)
 · rintro _ s' hJ hs
   refine ExM.sub hs ?_
   refine sO (mV (v := .ptr 3 0) rfl (mn (sO (mV rfl (mC rfl (wsF (id := 3) (k := E6) (at_ := .nilMp) (H := [A2.cells 42 [.row 2 (shs.map psV), .nilSl, .nilSl, .nilSl] false, A2.cells 58 [.row 1 ((Ax shs).map AVal.str)] false, A2.mp (esN (Ax shs) (Ax shs).length)] ++ [A2.cells 135 [.nilPtr, .nilSl, .nilMp] false]) hg (by decide) rfl (by decide)) (mn (sq (sO (mV rfl (mV (v := .hsl 1 5 0 5 (some 5)) rfl (x2 rfl rfl (bM ?_))))))))))))
   refine ExM.loopJ (σ := Nat) (τ := Unit) (fun i => ⟨.al [(1, .ptr 0 0), (4, .mref 2), (7, .ptr 3 0), (28, .hsl 1 5 0 5 (some 5)), (29, .int .i64 5), (30, .int .i64 ((i : Nat) : Int))], f6 (esN (Ax shs) (Ax shs).length) [.row 2 (shs.map psV), .nilSl, .nilSl, .nilSl] [.row 1 ((Ax shs).map AVal.str)] (E6 ++ Dw bd i), 68⟩) (fun i => i ≤ 5) (fun i => 5 - i) 0 2 (fun _ => ⟨.al [(7, .ptr 3 0)], f6 (esN (Ax shs) (Ax shs).length) [.row 2 (shs.map psV), .nilSl, .nilSl, .nilSl] [.row 1 ((Ax shs).map AVal.str)] (E6 ++ Dw bd 5), 68⟩) (fun _ => True) (Ac rfl rfl (sb4 rfl rfl rfl rfl (((( sbC rfl (sbC rfl (sbN)))))))) (Nat.zero_le _) ?_ ?_
   · rintro i hi
     have hi : i ≤ 5 := hi
     by_cases hlt : i < 5
     · obtain ⟨f, caps, n0, b0, hrd, hne, hcall⟩ := hB i hlt
       have hb : (E6 ++ Dw bd i).length + (9 + (bd i).length) ≤ 900000 := by
        have q := hsz i hlt
        rw [Dw, ← List.append_assoc, lAp, O4] at q
        exact q
       have hb2 : (E6 ++ Dw bd i ++ A9 1 (i + 1)).length + 4 ≤ 1000000 := by rw [lAp, Ao]; omega
       have hb3 : (E6 ++ Dw bd i ++ A9 1 (i + 1) ++ A9 4 (bd i).length).length + (bd i).length ≤ 1000000 := by rw [lAp, lAp, Ao, Ao]; omega
       have hb4 : (E6 ++ Dw bd i ++ A9 1 (i + 1) ++ A9 4 (bd i).length ++ bd i).length + 4 ≤ 1000000 := by rw [lAp, lAp, lAp, Ao, Ao]; omega
       have hsm := Z5 (bd i)
       refine sO (mT rfl (mn (sq (cT rfl (kM (sq (bM (sO (mV rfl (mS (v := .ptr 5 i) (A3i rfl rfl rfl) (mV (v := .fn f [] caps) (Nw rfl rfl hrd) (x2 rfl rfl (sO (m2 rfl rfl (mV (v := .ptr 6 0) rfl (x1 rfl (sq ?_)))))))))))))))))
       refine ExM.sub (s1 := ⟨.al [(1, .ptr 0 0), (4, .mref 2), (7, .ptr 3 0), (28, .hsl 1 5 0 5 (some 5)), (29, .int .i64 5), (30, .int .i64 ((i : Nat) : Int)), (8, .int .i64 ((i : Nat) : Int)), (9, .fn f [] caps), (10, .ptr 6 0)], f7 (esN (Ax shs) (Ax shs).length) [.row 2 (shs.map psV), .nilSl, .nilSl, .nilSl] [.row 1 ((Ax shs).map AVal.str)] (E6 ++ Dw bd i), 68⟩) (Ac rfl rfl (sb4 rfl rfl rfl rfl (((( sb4 rfl rfl rfl rfl (((( sbC rfl (sbN))))))))))) ?_
       refine oM (m2 rfl rfl (mV (v := .agg [.row 2 (shs.map psV), .nilSl, .nilSl, .nilSl]) rfl (mC rfl (hcall _) (mn (sq ?_)))))
       refine ExM.sub (s1 := ⟨.al [(1, .ptr 0 0), (4, .mref 2), (7, .ptr 3 0), (28, .hsl 1 5 0 5 (some 5)), (29, .int .i64 5), (30, .int .i64 ((i : Nat) : Int)), (8, .int .i64 ((i : Nat) : Int)), (9, .fn f [] caps), (10, .ptr 6 0)], f11 (esN (Ax shs) (Ax shs).length) [.row 2 (shs.map psV), .nilSl, .nilSl, .nilSl] [.row 1 ((Ax shs).map AVal.str)] (E6 ++ Dw bd i) n0 b0 5 (bd i), 68⟩) (Ac rfl rfl (sb4 rfl rfl rfl rfl (((( sb4 rfl rfl rfl rfl (((( sbC rfl (sbN))))))))))) ?_
       refine oM (mV rfl (mI ((i + 1 : Nat) : Int) rfl (mV (v := .hsl 1 11 0 1 (some 1)) rfl (mC rfl (Qo (id := 3) (jd := 4) (w := 1) (n := i + 1) (H := f11 (esN (Ax shs) (Ax shs).length) [.row 2 (shs.map psV), .nilSl, .nilSl, .nilSl] [.row 1 ((Ax shs).map AVal.str)] (E6 ++ Dw bd i) n0 b0 5 (bd i) ++ [A2.cells 3 [.int .i64 ((i + 1 : Nat) : Int)] false]) hg (F3 (Vi hbk hhv (Nat.le_of_ble_eq_true rfl)) rfl) rfl rfl rfl (by decide) (by omega) (by omega)) (mn (sq ?_))))))
       refine ExM.sub (s1 := ⟨.al [(1, .ptr 0 0), (4, .mref 2), (7, .ptr 3 0), (28, .hsl 1 5 0 5 (some 5)), (29, .int .i64 5), (30, .int .i64 ((i : Nat) : Int)), (8, .int .i64 ((i : Nat) : Int)), (9, .fn f [] caps), (10, .ptr 6 0)], f11 (esN (Ax shs) (Ax shs).length) [.row 2 (shs.map psV), .nilSl, .nilSl, .nilSl] [.row 1 ((Ax shs).map AVal.str)] (E6 ++ Dw bd i ++ A9 1 (i + 1)) n0 b0 5 (bd i) ++ [A2.cells 3 [.int .i64 ((i + 1 : Nat) : Int)] false], 68⟩) (Ac rfl rfl (sb4 rfl rfl rfl rfl (((( sb4 rfl rfl rfl rfl (((( sbC rfl (sbN))))))))))) ?_
       refine oM (m3 rfl rfl rfl (mC rfl (lenU (id := 6) (jd := 10) (l := bd i) hg rfl) (mV (v := .hsl 1 12 0 1 (some 1)) rfl (mC rfl (Qo (id := 3) (jd := 4) (w := 4) (n := (bd i).length) (H := f11 (esN (Ax shs) (Ax shs).length) [.row 2 (shs.map psV), .nilSl, .nilSl, .nilSl] [.row 1 ((Ax shs).map AVal.str)] (E6 ++ Dw bd i ++ A9 1 (i + 1)) n0 b0 5 (bd i) ++ [A2.cells 3 [.int .i64 ((i + 1 : Nat) : Int)] false, A2.cells 3 [.int .i64 (((bd i).length : Nat) : Int)] false]) hg (F3 (Vi hbk hhv (Nat.le_of_ble_eq_true rfl)) rfl) rfl rfl rfl (by decide) hb2 (by omega)) (mn (sq ?_))))))
       refine ExM.sub (s1 := ⟨.al [(1, .ptr 0 0), (4, .mref 2), (7, .ptr 3 0), (28, .hsl 1 5 0 5 (some 5)), (29, .int .i64 5), (30, .int .i64 ((i : Nat) : Int)), (8, .int .i64 ((i : Nat) : Int)), (9, .fn f [] caps), (10, .ptr 6 0)], f11 (esN (Ax shs) (Ax shs).length) [.row 2 (shs.map psV), .nilSl, .nilSl, .nilSl] [.row 1 ((Ax shs).map AVal.str)] (E6 ++ Dw bd i ++ A9 1 (i + 1) ++ A9 4 (bd i).length) n0 b0 5 (bd i) ++ [A2.cells 3 [.int .i64 ((i + 1 : Nat) : Int)] false, A2.cells 3 [.int .i64 (((bd i).length : Nat) : Int)] false], 68⟩) (Ac rfl rfl (sb4 rfl rfl rfl rfl (((( sb4 rfl rfl rfl rfl (((( sbC rfl (sbN))))))))))) ?_
       refine oM (m4 rfl rfl rfl rfl (mC rfl (strU (id := 6) (jd := 10) (TB := 5) (l := bd i) (H := f11 (esN (Ax shs) (Ax shs).length) [.row 2 (shs.map psV), .nilSl, .nilSl, .nilSl] [.row 1 ((Ax shs).map AVal.str)] (E6 ++ Dw bd i ++ A9 1 (i + 1) ++ A9 4 (bd i).length) n0 b0 5 (bd i) ++ [A2.cells 3 [.int .i64 ((i + 1 : Nat) : Int)] false, A2.cells 3 [.int .i64 (((bd i).length : Nat) : Int)] false]) rfl rfl rfl hne rfl) (mC rfl (wsU (id := 3) (jd := 4) (k := bd i) (H := f11 (esN (Ax shs) (Ax shs).length) [.row 2 (shs.map psV), .nilSl, .nilSl, .nilSl] [.row 1 ((Ax shs).map AVal.str)] (E6 ++ Dw bd i ++ A9 1 (i + 1) ++ A9 4 (bd i).length) n0 b0 (tgT 5) (bd i) ++ [A2.cells 3 [.int .i64 ((i + 1 : Nat) : Int)] false, A2.cells 3 [.int .i64 (((bd i).length : Nat) : Int)] false]) hg hne rfl rfl hb3) (mn ?_))))
       refine ExM.sub (s1 := ⟨.al [(1, .ptr 0 0), (4, .mref 2), (7, .ptr 3 0), (28, .hsl 1 5 0 5 (some 5)), (29, .int .i64 5), (30, .int .i64 ((i : Nat) : Int)), (8, .int .i64 ((i : Nat) : Int)), (9, .fn f [] caps), (10, .ptr 6 0)], f11 (esN (Ax shs) (Ax shs).length) [.row 2 (shs.map psV), .nilSl, .nilSl, .nilSl] [.row 1 ((Ax shs).map AVal.str)] (E6 ++ Dw bd i ++ A9 1 (i + 1) ++ A9 4 (bd i).length ++ bd i) n0 b0 (tgT 5) (bd i) ++ [A2.cells 3 [.int .i64 ((i + 1 : Nat) : Int)] false, A2.cells 3 [.int .i64 (((bd i).length : Nat) : Int)] false], 68⟩) (Ac rfl rfl (sb4 rfl rfl rfl rfl (((( sb4 rfl rfl rfl rfl (((( sbC rfl (sbN))))))))))) ?_
       refine oM (m3 rfl rfl rfl (mC rfl (strU (id := 6) (jd := 10) (TB := tgT 5) (l := bd i) (H := f11 (esN (Ax shs) (Ax shs).length) [.row 2 (shs.map psV), .nilSl, .nilSl, .nilSl] [.row 1 ((Ax shs).map AVal.str)] (E6 ++ Dw bd i ++ A9 1 (i + 1) ++ A9 4 (bd i).length ++ bd i) n0 b0 (tgT 5) (bd i) ++ [A2.cells 3 [.int .i64 ((i + 1 : Nat) : Int)] false, A2.cells 3 [.int .i64 (((bd i).length : Nat) : Int)] false]) rfl rfl rfl hne rfl) (mC rfl (A1.pure rfl rfl (sumP hg (by omega)) _) (mV (v := .hsl 1 13 0 1 (some 1)) rfl (mC rfl (Qo (id := 3) (jd := 4) (w := 4) (n := N0 (bd i)) (H := f11 (esN (Ax shs) (Ax shs).length) [.row 2 (shs.map psV), .nilSl, .nilSl, .nilSl] [.row 1 ((Ax shs).map AVal.str)] (E6 ++ Dw bd i ++ A9 1 (i + 1) ++ A9 4 (bd i).length ++ bd i) n0 b0 (tgT (tgT 5)) (bd i) ++ [A2.cells 3 [.int .i64 ((i + 1 : Nat) : Int)] false, A2.cells 3 [.int .i64 (((bd i).length : Nat) : Int)] false, A2.cells 3 [.int .i64 ((N0 (bd i) : Nat) : Int)] false]) hg (F3 (Vi hbk hhv (Nat.le_of_ble_eq_true rfl)) rfl) rfl rfl rfl (by decide) hb4 (by omega)) (mn (oM ?_)))))))
       refine mFz (s1 := ⟨.al [(1, .ptr 0 0), (4, .mref 2), (7, .ptr 3 0), (28, .hsl 1 5 0 5 (some 5)), (29, .int .i64 5), (30, .int .i64 ((i : Nat) : Int))], f6 (esN (Ax shs) (Ax shs).length) [.row 2 (shs.map psV), .nilSl, .nilSl, .nilSl] [.row 1 ((Ax shs).map AVal.str)] (E6 ++ Dw bd i ++ A9 1 (i + 1) ++ A9 4 (bd i).length ++ bd i ++ A9 4 (N0 (bd i))), 68⟩) (Ae 6 rfl (Nat.zero_le _) rfl (A40 hbk hhv (by decide)) (fzC rfl (Gg (by decide)) (fzC rfl fvM (fzC rfl (Gg (by decide)) (fzC rfl (A11 (by decide)) (fI (fI fzN))))))) ?_
       refine mI ((i + 1 : Nat) : Int) rfl (x1 rfl ?_)
       exact ⟨(i + 1), (by omega : i + 1 ≤ 5), (by show 5 - (i + 1) < 5 - i; omega), Ac rfl (by simp only [Dw, secB, List.append_assoc]) (sb4 rfl rfl rfl rfl (((( sbC rfl (sbC rfl (sbN)))))))⟩
     · have he : i = 5 := by omega
       rw [he]
       refine sO (mF rfl (mn (sq (cF rfl ?_))))
       exact ExM.exit (.inl ⟨rfl, (), trivial, Ac rfl rfl (sbC rfl (sbN))⟩)
   · rintro _ s' hJ hs
     refine ExM.sub hs ?_
     refine sO (mV rfl (mC rfl (strU (id := 3) (jd := 4) (TB := 5) (l := E6 ++ Dw bd 5) rfl rfl rfl (by simp [E6]) rfl) (x1 rfl ?_)))
     exact ExM.ret (pL)
def QF8 : AFn := ⟨(sQ [wV 1 (.box 42 0), wV 2 (.move (.val (.str []))), wV 3 (.move (vI 0))] (.seq (sQ [wV 7 (.load 4 true 1), wV 8 (kF 21 [7]), wM 6 8, wV 9 (.extract 6 0), wV 10 (.extract 6 1), wV 4 (.alloc 47 z3L), wN (.store 3 4 9), wM 5 10] (sQ [wM 11 5, wV 12 (.bin .neq none 11 (vI 0))] (.cond 12 (sQ [wM 13 5, wV 2 (.move (.val (.str []))), wM 3 13] .ret) .skip))) (sQ [wV 14 (.load 4 true 1), wV 15 (kF 22 [14]), wM 2 15, wV 3 (.move (vI 0))] .ret))), [2, 3], 16⟩
theorem QG8 : Ab Tryz.prog 8 = some QF8 := by kernel_rfl
def bkV (shs : List PSh) : AVal := .agg [.row 2 (shs.map psV), .nilSl, .nilSl, .nilSl]
theorem Jj {shs : List PSh} {n : Nat} : blw n (bkV shs) = true := by
 show cond (A8 n (shs.map psV)) _ false = true
 rw [Ai]; rfl
theorem encP (hg : hGr W0 G) {shs : List PSh} {s : Bz} {a b c : Int} (hck : cP W0 21 [bkV shs] [] (.tup [.agg [.int .i64 a, .int .i64 b, .int .i64 c], .int .i64 0]) []) (hf : cP W0 22 [bkV shs] [] (.str s) []) : cP W0 8 [bkV shs] [] (.tup [.str s, .int .i64 0]) [] := by
 have hA : A8 0 [bkV shs] = true := by show cond (blw 0 (bkV shs)) true false = true; rw [Jj]; rfl
 have hV : blw 0 (.tup [.agg [.int .i64 a, .int .i64 b, .int .i64 c], .int .i64 0]) = true := rfl
 refine oF QG8 ?_
 refine sO (mV (v := .ptr 0 0) rfl (x2 rfl rfl (sq (sO (mV (v := .agg [.row 2 (shs.map psV), .nilSl, .nilSl, .nilSl]) rfl (mC rfl (A1.pure hA hV hck _) (m3 rfl rfl rfl (mV (v := .ptr 1 0) rfl (A6 hg gN rfl (x1 rfl (sO (mV rfl (mBk hg gN (c := false) rfl rfl rfl (mn (cF rfl (kM (sO (mV (v := .agg [.row 2 (shs.map psV), .nilSl, .nilSl, .nilSl]) rfl (mC rfl (A1.pure hA rfl hf _) (x2 rfl rfl ?_))))))))))))))))))))
 exact ExM.ret (pL)
def Ej (shs : List PSh) : Nat → Bz
 | 0 => Ha (Ax shs)
 | 1 => Ft (ixN (Ax shs)) shs
 | _ => A9 1 0
theorem numB_ne {k n : Nat} : A9 (k + 1) n ≠ [] := by simp [A9]
theorem Ny {shs : List PSh} : ∀ i, Ej shs i ≠ []
 | 0 => by simp [Ej, Ha, A9]
 | 1 => by simp [Ej, Ft, A9]
 | _ + 2 => numB_ne
theorem Kt {bd : Nat → Bz} : ∀ i, (Dw bd (i + 1)).length = (Dw bd i).length + (9 + (bd i).length) := fun i => by rw [Dw, lAp, O4]
theorem fileE (hg : hGr W0 G) {shs : List PSh} (hs0 : 0 < shs.length) (hl : (Bm shs).length ≤ 400) (hd : (Ha (Ax shs)).length ≤ 400000) (hs : (Ft (ixN (Ax shs)) shs).length ≤ 400000) (hne : ∀ i, i < (Ax shs).length → (Ax shs).getD i [] ≠ [])
 (hrc : ∀ i, i < shs.length → ∀ j, j < (shs.getD i ps0).cs.length → ((shs.getD i ps0).cs.getD j pc0).r < 9223372036854775808 ∧ ((shs.getD i ps0).cs.getD j pc0).c < 9223372036854775808) : cP W0 22 [bkV shs] [] (.str (Js (Ej shs))) [] := by
 have htl : (Ax shs).length ≤ 400 := Nat.le_trans (I7 _ _) (by rw [J6, List.length_mergeSort]; exact hl)
 have hbk : ∀ n, A8 n [.row 2 (shs.map psV), .nilSl, .nilSl, .nilSl] = true := fun n => by
  show cond (A8 n (shs.map psV)) _ false = true
  rw [Ai]; rfl
 have hix : ∀ q, ixN (Ax shs) q < 9223372036854775808 := fun q => by
  rcases (Yx (ss := Ax shs) q).2 with h | h <;> omega
 have hhv : ∀ n, A8 n [.row 1 ((Ax shs).map AVal.str)] = true := fun n => by
  show cond (A8 n (Ba (Ax shs))) true false = true
  rw [C7]; rfl
 refine fileP hg hs0 (by omega) (fun i hi => ?_) (fun i hi => ?_)
 · have l0 : (Ej shs 0).length ≤ 400000 := hd
   have l1 : (Ej shs 1).length ≤ 400000 := hs
   have l2 : (Ej shs 2).length = 1 := rfl
   have l3 : (Ej shs 3).length = 1 := rfl
   have l4 : (Ej shs 4).length = 1 := rfl
   have z : (Dw (Ej shs) 0).length = 0 := rfl
   have s0 : (Dw (Ej shs) 1).length = (Dw (Ej shs) 0).length + (9 + (Ej shs 0).length) := Kt 0
   have s1 : (Dw (Ej shs) 2).length = (Dw (Ej shs) 1).length + (9 + (Ej shs 1).length) := Kt 1
   have s2 : (Dw (Ej shs) 3).length = (Dw (Ej shs) 2).length + (9 + (Ej shs 2).length) := Kt 2
   have s3 : (Dw (Ej shs) 4).length = (Dw (Ej shs) 3).length + (9 + (Ej shs 3).length) := Kt 3
   have s4 : (Dw (Ej shs) 5).length = (Dw (Ej shs) 4).length + (9 + (Ej shs 4).length) := Kt 4
   have hm : E6.length = 4 := rfl
   rw [lAp]
   have : i = 0 ∨ i = 1 ∨ i = 2 ∨ i = 3 ∨ i = 4 := by omega
   rcases this with rfl | rfl | rfl | rfl | rfl <;> simp only [Nat.reduceAdd] <;> omega
 · have : i = 0 ∨ i = 1 ∨ i = 2 ∨ i = 3 ∨ i = 4 := by omega
   rcases this with rfl | rfl | rfl | rfl | rfl
   · exact ⟨60, [.ptr 1 0], _, _, rfl, Ny 0, fun ol => liftD hbk hhv (dictF hg hbk hne (Nat.le_trans hd (by decide)))⟩
   · exact ⟨62, [], _, _, rfl, Ny 1, fun ol => A07 hbk (sheetsP hg (fun n => rfl) (fun i hi => (Yx _).1) (fun i hi j hj => ⟨(Yx _).1, hrc i hi j hj⟩) hix (Nat.le_trans hs (by decide)))⟩
   · exact ⟨63, [], _, _, rfl, Ny 2, fun ol => A07 hbk (none63 hg (fun n => Ai shs))⟩
   · exact ⟨64, [], _, _, rfl, Ny 3, fun ol => A07 hbk (none64 hg (fun n => Ai shs))⟩
   · exact ⟨65, [], _, _, rfl, Ny 4, fun ol => A07 hbk (none65 hg (fun n => Ai shs))⟩
theorem mm0 {j : Nat} : AVal.int .i64 (cond (cond true (decide (((j : Nat) : Int) < 0)) (decide ((0 : Int) < ((j : Nat) : Int)))) 0 ((j : Nat) : Int)) = .int .i64 ((j : Nat) : Int) := by
 have : decide (((j : Nat) : Int) < 0) = false := dF (by omega)
 rw [cond_true, this, cond_false]
def KF179 : AFn := ⟨(sQ [wV 4 (.move (vI 0))] (sQ [wM 8 0, wV 9 (.nilCheck 8), wV 10 (.fieldAddr 97 9), wV 11 (.load 1 false 10), wM 5 11] (.seq (sQ [wM 12 1, wV 13 (.bin .sub none 12 (vI 1)), wV 14 (.mm true 13 (vI 0)), wV 15 (.move (vI 0))] (.block 0 (.loop (sQ [wV 16 (.bin .lss none 15 14)] (.seq (.cond 16 .skip (.exit 0)) (.seq (.block 1 (sQ [wM 17 15, wM 6 17] (.ops [wM 18 5, wM 19 18, wF 20 19 (.move 0), wF 21 19 (.move 6), wF 22 19 (.nilCheck 20), wF 23 19 (.fieldAddr 1 22), wF 24 19 (.idxArr 96 1 23 21), wF 25 19 (.load 1 false 24), wF 26 19 (.bin .neq none 25 (.val (.int .i8 0))), wV 27 (.pick 19 (.val (.bool true)) 26), wM 5 27]))) (.ops [wV 28 (.bin .add none 15 (vI 1)), wM 15 28]))))))) (.seq (sQ [wM 29 0, wM 30 1, wV 31 (.bin .sub none 30 (vI 1)), wV 32 (.nilCheck 29), wV 33 (.fieldAddr 1 32), wV 34 (.idxArr 96 1 33 31), wV 35 (.load 1 false 34), wM 7 35] (.block 2 (sQ [wM 37 7, wV 38 (.bin .eql none 37 (.val (.int .i8 0))), wM 39 38, wT 40 39 (.move 5), wT 41 39 (.un .not 40), wV 42 (.pick 39 41 (.val (.bool false))), wM 36 42] (.cond 36 (sQ [wV 4 (.move (.val (.int .i64 (-2))))] .ret) (sQ [wM 44 7, wV 45 (.bin .lss none 44 (.val (.int .i8 5))), wM 43 45] (.cond 43 (sQ [wV 4 (.move (.val (.int .i64 (-1))))] .ret) (sQ [wM 47 7, wV 48 (.bin .eql none 47 (.val (.int .i8 5))), wM 49 48, wT 50 49 (.move 5), wT 51 49 (.un .not 50), wV 52 (.pick 49 51 (.val (.bool false))), wM 46 52] (.cond 46 (sQ [wV 4 (.move (vI 0))] .ret) .skip)))))))) (sQ [wV 4 (.move (vI 1))] .ret))))), [4], 53⟩
theorem KG179 : Ab Tryz.prog 179 = some KF179 := by kernel_rfl
def KF181 : AFn := ⟨(sQ [wV 2 (.move (vI 0))] (.seq (sQ [wV 3 (.move (vI 95))] (.block 0 (.loop (.seq (sQ [wM 4 3, wV 5 (.bin .geq none 4 (vI 0))] (.cond 5 .skip (.exit 0))) (.seq (.block 1 (sQ [wM 8 0, wM 9 3, wV 10 (.nilCheck 8), wV 11 (.fieldAddr 1 10), wV 12 (.idxArr 96 1 11 9), wV 13 (.load 1 false 12), wV 14 (.bin .neq none 13 (.val (.int .i8 0)))] (.cond 14 (sQ [wM 15 3, wM 2 15] .ret) .skip))) (.ops [wM 6 3, wV 7 (.bin .sub none 6 (vI 1)), wM 3 7])))))) (sQ [wV 2 (.move (.val (.int .i64 (-1))))] .ret))), [2], 16⟩
theorem KG181 : Ab Tryz.prog 181 = some KF181 := by kernel_rfl
def KF180 : AFn := ⟨(sQ [wM 7 0, wV 8 (.nilCheck 7), wV 9 (.fieldAddr 1 8), wM 10 1, wV 11 (.cutArr 96 1 9 (some 10)), wN (.clear 1 [.int .i8 0] 11)] (sQ [wM 12 0, wV 13 (.nilCheck 12), wV 14 (.fieldAddr 97 13), wN (.store 1 14 (.val (.bool false)))] (sQ [wM 15 1, wM 6 15] (.block 0 (.loop (.seq (sQ [wM 16 2] (.cond 16 .skip (.exit 0))) (.seq (.block 1 (.seq (.seq (.draw [wM 19 0, wM 20 6, wV 21 (.nilCheck 19), wV 22 (.fieldAddr 1 21), wV 23 (.idxArr 96 1 22 20), wV 24 (.load 1 false 23), wV 25 (.bin .add none 24 (.val (.int .i8 1))), wV 26 (.nilCheck 19), wV 27 (.fieldAddr 1 26), wV 28 (.idxArr 96 1 27 20), wN (.store 1 28 25)] true) (sQ [wM 29 0, wM 30 6, wV 31 (.nilCheck 29), wV 32 (.fieldAddr 1 31), wV 33 (.idxArr 96 1 32 30), wV 34 (.load 1 false 33), wV 35 (.bin .lss none 34 (.val (.int .i8 10)))] (.cond 35 .ret .skip))) (.ops [wM 36 0, wM 37 6, wV 38 (.nilCheck 36), wV 39 (.fieldAddr 1 38), wV 40 (.idxArr 96 1 39 37), wN (.store 1 40 (.val (.int .i8 0)))]))) (.ops [wM 17 6, wV 18 (.bin .add none 17 (vI 1)), wM 6 18])))))))), [], 41⟩
theorem KG180 : Ab Tryz.prog 180 = some KF180 := by kernel_rfl
def KF182 : AFn := ⟨(sQ [wV 6 (.alloc 24 z2L)] (sQ [wV 9 (.build z2L []), wV 7 (.alloc 24 z2L), wN (.store 2 7 9)] (.seq (sQ [wM 10 1, wM 8 10] (.block 0 (.loop (.seq (sQ [wM 11 8, wM 12 2, wV 13 (.bin .geq none 11 12)] (.cond 13 .skip (.exit 0))) (.seq (.block 1 (.draw [wV 16 (.fieldAddr 0 7), wV 17 (.load 1 false 16), wV 18 (.bin .mul none (vI 10) 17), wM 19 0, wM 20 8, wV 21 (.nilCheck 19), wV 22 (.fieldAddr 1 21), wV 23 (.idxArr 96 1 22 20), wV 24 (.load 1 false 23), wV 25 (.conv (.int .i64) 24), wV 26 (.bin .add none 18 25), wV 27 (.fieldAddr 0 7), wN (.store 1 27 26)] true)) (.ops [wM 14 8, wV 15 (.bin .sub none 14 (vI 1)), wM 8 15])))))) (.seq (sQ [wV 28 (.fieldAddr 0 7), wV 29 (.load 1 false 28), wV 30 (.bin .eql none 29 (vI 0))] (.cond 30 (sQ [wV 31 (.build z2L []), wN (.store 2 6 31)] .ret) .skip)) (.seq (sQ [wM 32 2, wV 33 (.bin .sub none 32 (vI 48)), wV 34 (.fieldAddr 1 7), wN (.store 1 34 33)] (.block 2 (.loop (.seq (sQ [wV 35 (.fieldAddr 0 7), wV 36 (.load 1 false 35), wV 37 (.bin .rem none 36 (vI 10)), wV 38 (.bin .eql none 37 (vI 0)), wM 39 38, wT 40 39 (.fieldAddr 1 7), wT 41 39 (.load 1 false 40), wT 42 39 (.bin .lss none 41 (vI 9)), wV 43 (.pick 39 42 (.val (.bool false)))] (.cond 43 .skip (.exit 2))) (.seq (.block 3 (.ops [wV 48 (.fieldAddr 0 7), wV 49 (.load 1 false 48), wV 50 (.bin .quo none 49 (vI 10)), wV 51 (.fieldAddr 0 7), wN (.store 1 51 50)])) (.ops [wV 44 (.fieldAddr 1 7), wV 45 (.load 1 false 44), wV 46 (.bin .add none 45 (vI 1)), wV 47 (.fieldAddr 1 7), wN (.store 1 47 46)])))))) (.seq (sQ [wM 52 0, wV 53 (.nilCheck 52), wV 54 (.fieldAddr 0 53), wV 55 (.load 1 false 54)] (.cond 55 (.ops [wV 56 (.fieldAddr 0 7), wV 57 (.load 1 false 56), wV 58 (.un .neg 57), wV 59 (.fieldAddr 0 7), wN (.store 1 59 58)]) .skip)) (sQ [wV 60 (.load 2 true 7), wN (.store 2 6 60)] .ret))))))), [.cell 6 2 true], 61⟩
theorem KG182 : Ab Tryz.prog 182 = some KF182 := by kernel_rfl
theorem restQ (hg : hGr W0 G) {H : Hz} {id T : Nat} {b m : Bool} {l : List Int} (ho : H[id]? = some (.cells T (nb b l m) false)) (hl : l.length = 96) {j : Nat} (hj : j < 96) : Gy Tryz.prog W0 179 [.ptr id 0, .int .i64 ((j + 1 : Nat) : Int)] H (fun v X => X = H ∧ ∃ r : Int, v = .int .i64 r) := by
 refine Gy.of_fnM KG179 (by simp) rfl ?_
 refine sO (x1 rfl (sO (mV rfl (mV (v := .ptr id 0) (Gt rfl ho) (mV (v := .ptr id 97) (F5 rfl ho) (mV (v := .bool m) (loadNm rfl ho hl) (x1 rfl (sq (sO (mV rfl (mI ((j : Nat) : Int) rfl (mK (v := .int .i64 ((j : Nat) : Int)) rfl mm0 (x1 rfl (bM ?_))))))))))))))
 refine ExM.loopJ (σ := Nat × Bool) (τ := Bool) (fun ⟨i, mo⟩ => ⟨.al [(0, .ptr id 0), (1, .int .i64 ((j + 1 : Nat) : Int)), (5, .bool mo), (14, .int .i64 ((j : Nat) : Int)), (15, .int .i64 ((i : Nat) : Int))], H, 53⟩) (fun ⟨i, mo⟩ => i ≤ j) (fun ⟨i, mo⟩ => j - i) ⟨0, m⟩ 0 (fun mo => ⟨.al [(0, .ptr id 0), (1, .int .i64 ((j + 1 : Nat) : Int)), (5, .bool mo)], H, 53⟩) (fun mo => True) (Ac rfl rfl (sb4 rfl rfl rfl rfl (((( sbC rfl (sbN))))))) (Nat.zero_le _) ?_ ?_
 · rintro ⟨i, mo⟩ hi
   have hi : i ≤ j := hi
   cases mo
   · refine sO ?_
     refine mB hg gN rfl rfl trivial (fun h1 => ?_) (fun h1 => ?_)
     · have hlt : i < j := by have := of_decide_eq_true h1; omega
       refine mn (sq (cT rfl (kM (sq (bM (sO (x2 rfl rfl (oM (m4 rfl rfl rfl rfl (mV (v := .ptr id 0) (Gt rfl ho) (mV (v := .ptr id 1) (F5 rfl ho) (Ag hg (gS rfl) (v := .ptr id (1 + i)) (Q3 rfl rfl ho) rfl (by first | exact trivial | decide | (simp only [Af, and_true]; omega)) (mV (v := .int .i8 (l.getD i 0)) (Qi rfl ho (by omega)) (x3 rfl rfl rfl (oM (mI ((i + 1 : Nat) : Int) rfl (x1 rfl ?_)))))))))))))))))
       exact ⟨⟨i + 1, _⟩, (by omega : i + 1 ≤ j), (by show j - (i + 1) < j - i; omega), Ac rfl rfl (sb4 rfl rfl rfl rfl (((( sbC rfl (sbN))))))⟩
     · refine mn (sq (cF rfl ?_))
       exact ExM.exit (.inl ⟨rfl, false, trivial, Ac rfl rfl (sbC rfl (sbC rfl (sbC rfl (sbN))))⟩)
   · refine sO ?_
     refine mB hg gN rfl rfl trivial (fun h2 => ?_) (fun h2 => ?_)
     · have hlt : i < j := by have := of_decide_eq_true h2; omega
       refine mn (sq (cT rfl (kM (sq (bM (sO (x2 rfl rfl (oM (m2 rfl rfl (mG (mG (mG (mG (mG (mG (mG (x2 rfl rfl (oM (mI ((i + 1 : Nat) : Int) rfl (x1 rfl ?_))))))))))))))))))))
       exact ⟨⟨i + 1, _⟩, (by omega : i + 1 ≤ j), (by show j - (i + 1) < j - i; omega), Ac rfl rfl (sb4 rfl rfl rfl rfl (((( sbC rfl (sbN))))))⟩
     · refine mn (sq (cF rfl ?_))
       exact ExM.exit (.inl ⟨rfl, true, trivial, Ac rfl rfl (sbC rfl (sbC rfl (sbC rfl (sbN))))⟩)
 · rintro mo s' hJ hs
   refine ExM.sub hs ?_
   refine sq (sO (m2 rfl rfl (mI ((j : Nat) : Int) rfl (mV (v := .ptr id 0) (Gt rfl ho) (mV (v := .ptr id 1) (F5 rfl ho) (Ag hg gN (v := .ptr id (1 + j)) (Q3 rfl rfl ho) rfl (by first | exact trivial | decide | (simp only [Af, and_true]; omega)) (mV (v := .int .i8 (l.getD j 0)) (Qi rfl ho (by omega)) (x1 rfl (bM (sO (mV rfl ?_)))))))))))
   refine mB hg gN rfl rfl trivial (fun h3 => ?_) (fun h3 => ?_)
   · refine m2 rfl rfl ?_
     refine mB hg (gS rfl) rfl rfl trivial (fun h4 => ?_) (fun h4 => ?_)
     · refine x2 rfl rfl (cT rfl (sO (x1 rfl ?_)))
       exact ExM.ret ⟨_, _, ⟨rfl, _, rfl⟩, A4 trivial rfl rfl rfl⟩
     · refine x2 rfl rfl (cF rfl (sO (mV rfl ?_)))
       refine mB hg gN rfl rfl trivial (fun h5 => ?_) (fun h5 => ?_)
       · refine x1 rfl (cT rfl (sO (x1 rfl ?_)))
         exact ExM.ret ⟨_, _, ⟨rfl, _, rfl⟩, A4 trivial rfl rfl rfl⟩
       · refine x1 rfl (cF rfl (sO (mV rfl ?_)))
         refine mB hg gN rfl rfl trivial (fun h6 => ?_) (fun h6 => ?_)
         · refine m2 rfl rfl ?_
           refine mB hg (gS rfl) rfl rfl trivial (fun h7 => ?_) (fun h7 => ?_)
           · refine x2 rfl rfl (cT rfl (sO (x1 rfl ?_)))
             exact ExM.ret ⟨_, _, ⟨rfl, _, rfl⟩, A4 trivial rfl rfl rfl⟩
           · refine x2 rfl rfl (cF rfl (kM (sO (x1 rfl ?_))))
             exact ExM.ret ⟨_, _, ⟨rfl, _, rfl⟩, A4 trivial rfl rfl rfl⟩
         · refine mV rfl (mG (mG (x2 rfl rfl (cF rfl (kM (sO (x1 rfl ?_)))))))
           exact ExM.ret ⟨_, _, ⟨rfl, _, rfl⟩, A4 trivial rfl rfl rfl⟩
   · refine mV rfl (mG (mG (x2 rfl rfl (cF rfl (sO (mV rfl ?_))))))
     refine mB hg gN rfl rfl trivial (fun h8 => ?_) (fun h8 => ?_)
     · refine x1 rfl (cT rfl (sO (x1 rfl ?_)))
       exact ExM.ret ⟨_, _, ⟨rfl, _, rfl⟩, A4 trivial rfl rfl rfl⟩
     · refine x1 rfl (cF rfl (sO (mV rfl ?_)))
       refine mB hg gN rfl rfl trivial (fun h9 => ?_) (fun h9 => ?_)
       · refine m2 rfl rfl ?_
         refine mB hg (gS rfl) rfl rfl trivial (fun h10 => ?_) (fun h10 => ?_)
         · refine x2 rfl rfl (cT rfl (sO (x1 rfl ?_)))
           exact ExM.ret ⟨_, _, ⟨rfl, _, rfl⟩, A4 trivial rfl rfl rfl⟩
         · refine x2 rfl rfl (cF rfl (kM (sO (x1 rfl ?_))))
           exact ExM.ret ⟨_, _, ⟨rfl, _, rfl⟩, A4 trivial rfl rfl rfl⟩
       · refine mV rfl (mG (mG (x2 rfl rfl (cF rfl (kM (sO (x1 rfl ?_)))))))
         exact ExM.ret ⟨_, _, ⟨rfl, _, rfl⟩, A4 trivial rfl rfl rfl⟩
theorem topQ (hg : hGr W0 G) {H : Hz} {id T : Nat} {b m : Bool} {l : List Int} (ho : H[id]? = some (.cells T (nb b l m) false)) (hl : l.length = 96) : Gy Tryz.prog W0 181 [.ptr id 0] H (fun v X => X = H ∧ ∃ r : Int, v = .int .i64 r ∧ -1 ≤ r ∧ r ≤ 95) := by
 refine Gy.of_fnM KG181 (by simp) rfl ?_
 refine sO (x1 rfl (sq (sO (x1 rfl (bM ?_)))))
 refine ExM.loopJ (σ := Nat) (τ := Unit) (fun n => ⟨.al [(0, .ptr id 0), (3, .int .i64 (((n : Nat) : Int) - 1))], H, 16⟩) (fun n => n ≤ 96) (fun n => n) 96 0 (fun _ => ⟨.al [(0, .ptr id 0)], H, 16⟩) (fun _ => True) (Ac rfl rfl (sbC rfl (sbC rfl (sbN)))) (Nat.le_refl _) ?_ ?_
 · rintro n hn
   have hn : n ≤ 96 := hn
   cases n with
   | zero =>
     refine sq (sO (mV rfl (mF rfl (mn (cF rfl ?_)))))
     exact ExM.exit (.inl ⟨rfl, (), trivial, Ac rfl rfl (sbC rfl (sbN))⟩)
   | succ i =>
     refine sq (sO (mK (v := .int .i64 ((i : Nat) : Int)) rfl (iE (by omega)) (mT rfl (mn (cT rfl (kM (sq (bM (sO (mV (v := .ptr id 0) rfl (mK (v := .int .i64 ((i : Nat) : Int)) rfl (iE (by omega)) (mV (v := .ptr id 0) (Gt rfl ho) (mV (v := .ptr id 1) (F5 rfl ho) (Ag hg gN (v := .ptr id (1 + i)) (Q3 rfl rfl ho) rfl (by first | exact trivial | decide | (simp only [Af, and_true]; omega)) (mV (v := .int .i8 (l.getD i 0)) (Qi rfl ho (by omega)) ?_)))))))))))))))
     refine mB hg gN rfl rfl trivial (fun h1 => ?_) (fun h1 => ?_)
     · refine mn (cT rfl (sO (mK (v := .int .i64 ((i : Nat) : Int)) rfl (iE (by omega)) (x1 rfl ?_))))
       refine ExM.ret ?_
       refine .inr ?_
       exact ⟨_, _, ⟨rfl, _, rfl, by omega, by omega⟩, A4 trivial rfl rfl rfl⟩
     · refine mn (cF rfl (kM (oM (mV rfl (mI (((i : Nat) : Int) - 1) rfl (x1 rfl ?_))))))
       exact ⟨i, (by omega : i ≤ 96), (Nat.lt_succ_self i), Ac rfl rfl (sbC rfl (sbC rfl (sbN)))⟩
 · rintro _ s' hJ hs
   refine ExM.sub hs ?_
   refine sO (x1 rfl ?_)
   exact ExM.ret ⟨_, _, ⟨rfl, _, rfl, by omega, by omega⟩, A4 trivial rfl rfl rfl⟩
theorem Dc : Af [((1 : Int), 10 * 10)] := ⟨by decide, trivial⟩
theorem A2e {x : Int} (h : 0 ≤ x) : x.tmod 10 = ((x.natAbs % 10 : Nat) : Int) := by
 obtain ⟨m, rfl⟩ := Int.eq_ofNat_of_zero_le h
 rw [Int.natAbs_natCast]; exact (Int.ofNat_tmod m 10).symm
theorem Uo {x : Int} (h : x ≤ 0) : x.tmod 10 = -((x.natAbs % 10 : Nat) : Int) := by
 obtain ⟨m, hm⟩ := Int.eq_ofNat_of_zero_le (show 0 ≤ -x by omega)
 have : x = -(m : Int) := by omega
 subst this
 rw [Int.neg_tmod, Int.natAbs_neg, Int.natAbs_natCast]; congr 1
theorem tdivA (x : Int) : (x.tdiv 10).natAbs = x.natAbs / 10 := by rw [Int.natAbs_tdiv]; rfl
theorem Dz {k : Nat} (l : List Nat) : B2 k (oh l) = true := by
 cases l with
 | nil => rfl
 | cons d r =>
   show cond (A8 k (B4 [d])) (cond (A8 k (B4 (d :: r))) true false) false = true
   rw [As, As]; rfl
theorem fvH {H : Hz} {k id off n : Nat} {c : Option Nat} (h : Nat.blt id k = true) : FzV H k (.hsl 1 id off n c) (.hsl 1 id off n c) := .inl ⟨1, by simp only [frz, h, cond_true]⟩
theorem fvP {H : Hz} {k id off : Nat} (h : Nat.blt id k = true) : FzV H k (.ptr id off) (.ptr id off) := .inl ⟨1, by simp only [frz, h, cond_true]⟩
def KF152 : AFn := ⟨(sQ [wV 4 (.move (.val (.nilSl)))] (sQ [wV 5 (.move (.val (.nilSl)))] (sQ [wV 6 (.move (vI 0))] (.seq (sQ [wV 7 (.move (vI 0))] (.block 0 (.loop (.seq (sQ [wM 9 7, wM 10 0, wV 11 (.len false 10), wV 12 (.bin .lss none 9 11), wM 13 12, wF 14 13 (.move 7), wF 15 13 (.move 1), wF 16 13 (.len false 15), wF 17 13 (.bin .lss none 14 16), wV 18 (.pick 13 (.val (.bool true)) 17), wM 19 18, wF 20 19 (.move 6), wF 21 19 (.bin .gtr none 20 (vI 0)), wV 22 (.pick 19 (.val (.bool true)) 21)] (.cond 22 .skip (.exit 0))) (.seq (.block 1 (sQ [wM 25 0, wM 26 7, wV 27 (kF 134 [25, 26]), wM 28 1, wM 29 7, wV 30 (kF 134 [28, 29]), wV 31 (.bin .add none 27 30), wM 32 6, wV 33 (.bin .add none 31 32), wM 8 33] (sQ [wM 34 5, wM 35 8, wV 36 (.bin .rem none 35 (vI 10)), wV 37 (.bslice 3 1 1 [.int .i64 0] [(0, 1, 36)]), wV 38 (.append 3 1 8 34 37), wM 5 38] (.ops [wM 39 8, wV 40 (.bin .quo none 39 (vI 10)), wM 6 40])))) (.ops [wM 23 7, wV 24 (.bin .add none 23 (vI 1)), wM 7 24])))))) (sQ [wM 41 5, wV 42 (kF 127 [41]), wM 4 42] .ret))))), [4], 43⟩
theorem KG152 : Ab Tryz.prog 133 = some KF152 := by kernel_rfl
def KF220 : AFn := ⟨(sQ [wV 4 (.move (.val (.nilSl)))] (sQ [wV 5 (.move (.val (.nilSl)))] (sQ [wV 6 (.move (vI 0))] (.seq (sQ [wV 7 (.move (vI 0))] (.block 0 (.loop (.seq (sQ [wM 9 7, wM 10 0, wV 11 (.len false 10), wV 12 (.bin .lss none 9 11)] (.cond 12 .skip (.exit 0))) (.seq (.block 1 (.seq (.draw [wM 15 0, wM 16 7, wV 17 (.idxSl 1 15 16), wV 18 (.load 1 false 17), wM 19 1, wM 20 7, wV 21 (kF 134 [19, 20]), wV 22 (.bin .sub none 18 21), wM 23 6, wV 24 (.bin .sub none 22 23), wM 8 24]) (sQ [wV 6 (.move (vI 0))] (.seq (sQ [wM 25 8, wV 26 (.bin .lss none 25 (vI 0))] (.cond 26 (sQ [wM 27 8, wV 28 (.bin .add none 27 (vI 10)), wM 8 28] (.ops [wV 6 (.move (vI 1))])) .skip)) (.ops [wM 29 5, wM 30 8, wV 31 (.bslice 3 1 1 [.int .i64 0] [(0, 1, 30)]), wV 32 (.append 3 1 8 29 31), wM 5 32]))))) (.ops [wM 13 7, wV 14 (.bin .add none 13 (vI 1)), wM 7 14])))))) (sQ [wM 33 5, wV 34 (kF 127 [33]), wM 4 34] .ret))))), [4], 35⟩
theorem KG220 : Ab Tryz.prog 171 = some KF220 := by kernel_rfl
theorem Bl (hg : hGr W0 G) {n : Int} (hn1 : -1000000000000000 < n) (hn2 : n < 1000000000000000) (H : Hz) : cP W0 87 [.int .i64 n] H (dN n.natAbs) H := by
 refine A1.pure rfl (A3n 0 _) ?_ H
 refine oF KG96 ?_
 refine sO (x1 rfl (sO (x1 rfl (sq (bM ?_)))))
 refine ExM.loop (σ := Int × List Nat) (fun σ => ⟨.al [(0, .int .i64 σ.1), (3, ov 0 σ.2)], oh σ.2, 20⟩) (fun σ => -1000000000000000 < σ.1 ∧ σ.1 < 1000000000000000 ∧ σ.2 ++ D1 σ.1.natAbs = D1 n.natAbs) (fun σ => σ.1.natAbs) (n, []) (Ae 0 rfl (Nat.le_refl _) rfl rfl (fI (fzC rfl Ji fzN))) ⟨hn1, hn2, rfl⟩ ?_
 rintro ⟨x, l⟩ ⟨hx1, hx2, hx⟩
 simp only at hx1 hx2 hx ⊢
 have hlen : l.length ≤ 15 := by
  have h1 := congrArg List.length hx
  rw [lAp] at h1
  have h2 := E7 (n := n.natAbs) (k := 15) (by omega)
  omega
 by_cases h0 : x = 0
 · subst h0
   refine sq (sO (mV rfl (mF rfl (mn (cF rfl ?_)))))
   refine ExM.exit ?_
   refine sO ?_
   refine mFz (Ae (l := [(3, dg l)]) 0 rfl (Nat.le_refl _) rfl rfl (fzC rfl fvOv fzN)) ?_
   refine x2 rfl rfl ?_
   exact ExM.ret (A4 trivial rfl (by show dg l = dg (D1 n.natAbs); rw [← hx, show D1 (Int.natAbs 0) = [] from E8, List.append_nil]) rfl)
 · have hdv := tdivA x
   have hm0 : x.natAbs ≠ 0 := by omega
   rw [I1 hm0] at hx
   by_cases hp : 0 ≤ x
   · rcases l with _ | ⟨d, r⟩
     · refine sq (sO (mV rfl (mBk hg gN (c := true) rfl rfl (by rw [bne_iff_ne]; exact h0) (mn (cT rfl (kM (bM (sO (mV rfl (mKv hg gN (v := .int .i64 ((x.natAbs % 10 : Nat))) rfl rfl Dc (iE (A2e (by omega))) (x1 rfl (sq (sO (mV rfl (mF rfl (mn (cF rfl (kM (sO (m2 rfl rfl (mV (v := .hsl 1 0 0 1 (some 1)) rfl (Ag hg gN (v := .hsl 1 1 0 ([] ++ [x.natAbs % 10]).length none) rfl rfl (E4 (n := 1) (by decide)) (x1 rfl (oM (mV rfl (mKv hg gN (v := .int .i64 (x.tdiv 10)) rfl rfl Dc (B8 (by omega) (by omega) rfl) (x1 rfl ?_)))))))))))))))))))))))))))
       exact ⟨(x.tdiv 10, [] ++ [x.natAbs % 10]), ⟨by simp only; omega, by simp only; omega, by simp only; rw [hdv, List.append_assoc]; exact hx⟩, by simp only; omega, Ae 2 rfl (Nat.zero_le _) rfl (Dz _) (fI (fzC rfl (fvH rfl) fzN))⟩
     · refine sq (sO (mV rfl (mBk hg gN (c := true) rfl rfl (by rw [bne_iff_ne]; exact h0) (mn (cT rfl (kM (bM (sO (mV rfl (mKv hg gN (v := .int .i64 ((x.natAbs % 10 : Nat))) rfl rfl Dc (iE (A2e (by omega))) (x1 rfl (sq (sO (mV rfl (mF rfl (mn (cF rfl (kM (sO (m2 rfl rfl (mV (v := .hsl 1 2 0 1 (some 1)) rfl (Ag hg gN (v := .hsl 1 1 0 ((d :: r) ++ [x.natAbs % 10]).length none) (appS rfl rfl rfl rfl rfl) rfl (E4 (by simp only [lCo] at *; omega)) (x1 rfl (oM (mV rfl (mKv hg gN (v := .int .i64 (x.tdiv 10)) rfl rfl Dc (B8 (by omega) (by omega) rfl) (x1 rfl ?_)))))))))))))))))))))))))))
       exact ⟨(x.tdiv 10, (d :: r) ++ [x.natAbs % 10]), ⟨by simp only; omega, by simp only; omega, by simp only; rw [hdv, List.append_assoc]; exact hx⟩, by simp only; omega, Ae 2 rfl (Nat.zero_le _) rfl (Dz _) (fI (fzC rfl (fvH rfl) fzN))⟩
   · by_cases hz : x.natAbs % 10 = 0
     · rcases l with _ | ⟨d, r⟩
       · refine sq (sO (mV rfl (mBk hg gN (c := true) rfl rfl (by rw [bne_iff_ne]; exact h0) (mn (cT rfl (kM (bM (sO (mV rfl (mKv hg gN (v := .int .i64 ((x.natAbs % 10 : Nat))) rfl rfl Dc (iE (by rw [Uo (by omega)]; omega)) (x1 rfl (sq (sO (mV rfl (mF rfl (mn (cF rfl (kM (sO (m2 rfl rfl (mV (v := .hsl 1 0 0 1 (some 1)) rfl (Ag hg gN (v := .hsl 1 1 0 ([] ++ [x.natAbs % 10]).length none) rfl rfl (E4 (n := 1) (by decide)) (x1 rfl (oM (mV rfl (mKv hg gN (v := .int .i64 (x.tdiv 10)) rfl rfl Dc (B8 (by omega) (by omega) rfl) (x1 rfl ?_)))))))))))))))))))))))))))
         exact ⟨(x.tdiv 10, [] ++ [x.natAbs % 10]), ⟨by simp only; omega, by simp only; omega, by simp only; rw [hdv, List.append_assoc]; exact hx⟩, by simp only; omega, Ae 2 rfl (Nat.zero_le _) rfl (Dz _) (fI (fzC rfl (fvH rfl) fzN))⟩
       · refine sq (sO (mV rfl (mBk hg gN (c := true) rfl rfl (by rw [bne_iff_ne]; exact h0) (mn (cT rfl (kM (bM (sO (mV rfl (mKv hg gN (v := .int .i64 ((x.natAbs % 10 : Nat))) rfl rfl Dc (iE (by rw [Uo (by omega)]; omega)) (x1 rfl (sq (sO (mV rfl (mF rfl (mn (cF rfl (kM (sO (m2 rfl rfl (mV (v := .hsl 1 2 0 1 (some 1)) rfl (Ag hg gN (v := .hsl 1 1 0 ((d :: r) ++ [x.natAbs % 10]).length none) (appS rfl rfl rfl rfl rfl) rfl (E4 (by simp only [lCo] at *; omega)) (x1 rfl (oM (mV rfl (mKv hg gN (v := .int .i64 (x.tdiv 10)) rfl rfl Dc (B8 (by omega) (by omega) rfl) (x1 rfl ?_)))))))))))))))))))))))))))
         exact ⟨(x.tdiv 10, (d :: r) ++ [x.natAbs % 10]), ⟨by simp only; omega, by simp only; omega, by simp only; rw [hdv, List.append_assoc]; exact hx⟩, by simp only; omega, Ae 2 rfl (Nat.zero_le _) rfl (Dz _) (fI (fzC rfl (fvH rfl) fzN))⟩
     · rcases l with _ | ⟨d, r⟩
       · refine sq (sO (mV rfl (mBk hg gN (c := true) rfl rfl (by rw [bne_iff_ne]; exact h0) (mn (cT rfl (kM (bM (sO (mV rfl (mKv hg gN (v := .int .i64 (-((x.natAbs % 10 : Nat) : Int))) rfl rfl Dc (iE (Uo (by omega))) (x1 rfl (sq (sO (mV rfl (mT rfl (mn (cT rfl (oM (mV rfl (mI ((x.natAbs % 10 : Nat)) rfl (x1 rfl (sO (m2 rfl rfl (mV (v := .hsl 1 0 0 1 (some 1)) rfl (Ag hg gN (v := .hsl 1 1 0 ([] ++ [x.natAbs % 10]).length none) rfl rfl (E4 (n := 1) (by decide)) (x1 rfl (oM (mV rfl (mKv hg gN (v := .int .i64 (x.tdiv 10)) rfl rfl Dc (B8 (by omega) (by omega) rfl) (x1 rfl ?_))))))))))))))))))))))))))))))
         exact ⟨(x.tdiv 10, [] ++ [x.natAbs % 10]), ⟨by simp only; omega, by simp only; omega, by simp only; rw [hdv, List.append_assoc]; exact hx⟩, by simp only; omega, Ae 2 rfl (Nat.zero_le _) rfl (Dz _) (fI (fzC rfl (fvH rfl) fzN))⟩
       · refine sq (sO (mV rfl (mBk hg gN (c := true) rfl rfl (by rw [bne_iff_ne]; exact h0) (mn (cT rfl (kM (bM (sO (mV rfl (mKv hg gN (v := .int .i64 (-((x.natAbs % 10 : Nat) : Int))) rfl rfl Dc (iE (Uo (by omega))) (x1 rfl (sq (sO (mV rfl (mT rfl (mn (cT rfl (oM (mV rfl (mI ((x.natAbs % 10 : Nat)) rfl (x1 rfl (sO (m2 rfl rfl (mV (v := .hsl 1 2 0 1 (some 1)) rfl (Ag hg gN (v := .hsl 1 1 0 ((d :: r) ++ [x.natAbs % 10]).length none) (appS rfl rfl rfl rfl rfl) rfl (E4 (by simp only [lCo] at *; omega)) (x1 rfl (oM (mV rfl (mKv hg gN (v := .int .i64 (x.tdiv 10)) rfl rfl Dc (B8 (by omega) (by omega) rfl) (x1 rfl ?_))))))))))))))))))))))))))))))
         exact ⟨(x.tdiv 10, (d :: r) ++ [x.natAbs % 10]), ⟨by simp only; omega, by simp only; omega, by simp only; rw [hdv, List.append_assoc]; exact hx⟩, by simp only; omega, Ae 2 rfl (Nat.zero_le _) rfl (Dz _) (fI (fzC rfl (fvH rfl) fzN))⟩
theorem Int.ofNat_tdiv_ten {x : Nat} : ((x : Nat) : Int).tdiv 10 = ((x / 10 : Nat) : Int) := (Int.ofNat_tdiv x 10).symm
theorem plusP (hg : hGr W0 G) {a b : List Nat} (ha : Dig a) (hb : Dig b) (hla : a.length ≤ 100000) (hlb : b.length ≤ 100000) (H : Hz) : cP W0 133 [dg a, dg b] H (dN (val a + val b)) H := by
 refine A1.pure (by simp [A8, blw, dg, As]) (A3n 0 _) ?_ H
 refine oF KG152 ?_
 refine sO (x1 rfl (sO (x1 rfl (sO (x1 rfl (sq (sO (x1 rfl (bM ?_)))))))))
 refine ExM.loop (σ := Nat × Nat × List Nat) (fun σ => ⟨.al [(0, dg a), (1, dg b), (5, ov 0 σ.2.2), (6, .int .i64 (σ.2.1 : Nat)), (7, .int .i64 (σ.1 : Nat))], oh σ.2.2, 43⟩) (fun σ => Oe a b σ.2.2 σ.1 σ.2.1) (fun σ => max a.length b.length + 1 - σ.1) (0, 0, []) (Ae 0 rfl (Nat.le_refl _) rfl rfl (fzC rfl fvD (fzC rfl fvD (fzC rfl Ji (fI (fI fzN)))))) (Oe.zero a b) ?_
 rintro ⟨i, c, l⟩ hI
 simp only at hI ⊢
 have hll := hI.len
 have hc := hI.hc
 have hib : i ≤ 100001 := by have := hI.e; omega
 have hka := ha.get i
 have hkb := hb.get i
 by_cases h1 : i < a.length
 · rcases l with _ | ⟨d, r⟩
   · refine sq (sO (m2 rfl rfl (mV (v := .int .i64 (a.length : Nat)) (E5 rfl) (mT rfl (mV rfl (mG (mG (mG (mG (m2 rfl rfl (mG (mG (x1 rfl (cT rfl (kM (sq (bM (sO (m2 rfl rfl (mC rfl (atP hg _) (m2 rfl rfl (mC rfl (atP hg _) (mI ((a.getD i 0 + b.getD i 0 : Nat)) rfl (mV rfl (mI ((a.getD i 0 + b.getD i 0 + c : Nat)) rfl (x1 rfl (sO (m2 rfl rfl (mKv hg gN (v := .int .i64 (((a.getD i 0 + b.getD i 0 + c) % 10 : Nat))) rfl rfl Dc (iE (Int.ofNat_tmod _ 10).symm) (mV (v := .hsl 1 0 0 1 (some 1)) rfl (Ag hg gN (v := .hsl 1 1 0 ([] ++ [(a.getD i 0 + b.getD i 0 + c) % 10]).length none) rfl rfl (E4 (n := 1) (by decide)) (x1 rfl (oM (mV rfl (mKv hg gN (v := .int .i64 (((a.getD i 0 + b.getD i 0 + c) / 10 : Nat))) rfl rfl Dc (B8 (by rw [Int.ofNat_tdiv_ten]; omega) (by rw [Int.ofNat_tdiv_ten]; omega) Int.ofNat_tdiv_ten) (x1 rfl (oM (mV rfl (mI ((i + 1 : Nat)) rfl (x1 rfl ?_))))))))))))))))))))))))))))))))))))))))
     exact ⟨(i + 1, (a.getD i 0 + b.getD i 0 + c) / 10, [] ++ [(a.getD i 0 + b.getD i 0 + c) % 10]), hI.step ha hb (by omega), by simp only; have := hI.e; omega, Ae 2 rfl (Nat.zero_le _) rfl (Dz _) (fzC rfl fvD (fzC rfl fvD (fzC rfl (fvH rfl) (fI (fI fzN)))))⟩
   · refine sq (sO (m2 rfl rfl (mV (v := .int .i64 (a.length : Nat)) (E5 rfl) (mT rfl (mV rfl (mG (mG (mG (mG (m2 rfl rfl (mG (mG (x1 rfl (cT rfl (kM (sq (bM (sO (m2 rfl rfl (mC rfl (atP hg _) (m2 rfl rfl (mC rfl (atP hg _) (mI ((a.getD i 0 + b.getD i 0 : Nat)) rfl (mV rfl (mI ((a.getD i 0 + b.getD i 0 + c : Nat)) rfl (x1 rfl (sO (m2 rfl rfl (mKv hg gN (v := .int .i64 (((a.getD i 0 + b.getD i 0 + c) % 10 : Nat))) rfl rfl Dc (iE (Int.ofNat_tmod _ 10).symm) (mV (v := .hsl 1 2 0 1 (some 1)) rfl (Ag hg gN (v := .hsl 1 1 0 ((d :: r) ++ [(a.getD i 0 + b.getD i 0 + c) % 10]).length none) (appS rfl rfl rfl rfl rfl) rfl (E4 (by simp only [lCo] at *; omega)) (x1 rfl (oM (mV rfl (mKv hg gN (v := .int .i64 (((a.getD i 0 + b.getD i 0 + c) / 10 : Nat))) rfl rfl Dc (B8 (by rw [Int.ofNat_tdiv_ten]; omega) (by rw [Int.ofNat_tdiv_ten]; omega) Int.ofNat_tdiv_ten) (x1 rfl (oM (mV rfl (mI ((i + 1 : Nat)) rfl (x1 rfl ?_))))))))))))))))))))))))))))))))))))))))
     exact ⟨(i + 1, (a.getD i 0 + b.getD i 0 + c) / 10, (d :: r) ++ [(a.getD i 0 + b.getD i 0 + c) % 10]), hI.step ha hb (by omega), by simp only; have := hI.e; omega, Ae 2 rfl (Nat.zero_le _) rfl (Dz _) (fzC rfl fvD (fzC rfl fvD (fzC rfl (fvH rfl) (fI (fI fzN)))))⟩
 · by_cases h2 : i < b.length
   · rcases l with _ | ⟨d, r⟩
     · refine sq (sO (m2 rfl rfl (mV (v := .int .i64 (a.length : Nat)) (E5 rfl) (mF rfl (m3 rfl rfl rfl (mV (v := .int .i64 (b.length : Nat)) (E5 rfl) (mT rfl (m2 rfl rfl (mG (mG (x1 rfl (cT rfl (kM (sq (bM (sO (m2 rfl rfl (mC rfl (atP hg _) (m2 rfl rfl (mC rfl (atP hg _) (mI ((a.getD i 0 + b.getD i 0 : Nat)) rfl (mV rfl (mI ((a.getD i 0 + b.getD i 0 + c : Nat)) rfl (x1 rfl (sO (m2 rfl rfl (mKv hg gN (v := .int .i64 (((a.getD i 0 + b.getD i 0 + c) % 10 : Nat))) rfl rfl Dc (iE (Int.ofNat_tmod _ 10).symm) (mV (v := .hsl 1 0 0 1 (some 1)) rfl (Ag hg gN (v := .hsl 1 1 0 ([] ++ [(a.getD i 0 + b.getD i 0 + c) % 10]).length none) rfl rfl (E4 (n := 1) (by decide)) (x1 rfl (oM (mV rfl (mKv hg gN (v := .int .i64 (((a.getD i 0 + b.getD i 0 + c) / 10 : Nat))) rfl rfl Dc (B8 (by rw [Int.ofNat_tdiv_ten]; omega) (by rw [Int.ofNat_tdiv_ten]; omega) Int.ofNat_tdiv_ten) (x1 rfl (oM (mV rfl (mI ((i + 1 : Nat)) rfl (x1 rfl ?_))))))))))))))))))))))))))))))))))))))
       exact ⟨(i + 1, (a.getD i 0 + b.getD i 0 + c) / 10, [] ++ [(a.getD i 0 + b.getD i 0 + c) % 10]), hI.step ha hb (by omega), by simp only; have := hI.e; omega, Ae 2 rfl (Nat.zero_le _) rfl (Dz _) (fzC rfl fvD (fzC rfl fvD (fzC rfl (fvH rfl) (fI (fI fzN)))))⟩
     · refine sq (sO (m2 rfl rfl (mV (v := .int .i64 (a.length : Nat)) (E5 rfl) (mF rfl (m3 rfl rfl rfl (mV (v := .int .i64 (b.length : Nat)) (E5 rfl) (mT rfl (m2 rfl rfl (mG (mG (x1 rfl (cT rfl (kM (sq (bM (sO (m2 rfl rfl (mC rfl (atP hg _) (m2 rfl rfl (mC rfl (atP hg _) (mI ((a.getD i 0 + b.getD i 0 : Nat)) rfl (mV rfl (mI ((a.getD i 0 + b.getD i 0 + c : Nat)) rfl (x1 rfl (sO (m2 rfl rfl (mKv hg gN (v := .int .i64 (((a.getD i 0 + b.getD i 0 + c) % 10 : Nat))) rfl rfl Dc (iE (Int.ofNat_tmod _ 10).symm) (mV (v := .hsl 1 2 0 1 (some 1)) rfl (Ag hg gN (v := .hsl 1 1 0 ((d :: r) ++ [(a.getD i 0 + b.getD i 0 + c) % 10]).length none) (appS rfl rfl rfl rfl rfl) rfl (E4 (by simp only [lCo] at *; omega)) (x1 rfl (oM (mV rfl (mKv hg gN (v := .int .i64 (((a.getD i 0 + b.getD i 0 + c) / 10 : Nat))) rfl rfl Dc (B8 (by rw [Int.ofNat_tdiv_ten]; omega) (by rw [Int.ofNat_tdiv_ten]; omega) Int.ofNat_tdiv_ten) (x1 rfl (oM (mV rfl (mI ((i + 1 : Nat)) rfl (x1 rfl ?_))))))))))))))))))))))))))))))))))))))
       exact ⟨(i + 1, (a.getD i 0 + b.getD i 0 + c) / 10, (d :: r) ++ [(a.getD i 0 + b.getD i 0 + c) % 10]), hI.step ha hb (by omega), by simp only; have := hI.e; omega, Ae 2 rfl (Nat.zero_le _) rfl (Dz _) (fzC rfl fvD (fzC rfl fvD (fzC rfl (fvH rfl) (fI (fI fzN)))))⟩
   · by_cases h3 : 0 < c
     · rcases l with _ | ⟨d, r⟩
       · refine sq (sO (m2 rfl rfl (mV (v := .int .i64 (a.length : Nat)) (E5 rfl) (mF rfl (m3 rfl rfl rfl (mV (v := .int .i64 (b.length : Nat)) (E5 rfl) (mF rfl (m3 rfl rfl rfl (mT rfl (x1 rfl (cT rfl (kM (sq (bM (sO (m2 rfl rfl (mC rfl (atP hg _) (m2 rfl rfl (mC rfl (atP hg _) (mI ((a.getD i 0 + b.getD i 0 : Nat)) rfl (mV rfl (mI ((a.getD i 0 + b.getD i 0 + c : Nat)) rfl (x1 rfl (sO (m2 rfl rfl (mKv hg gN (v := .int .i64 (((a.getD i 0 + b.getD i 0 + c) % 10 : Nat))) rfl rfl Dc (iE (Int.ofNat_tmod _ 10).symm) (mV (v := .hsl 1 0 0 1 (some 1)) rfl (Ag hg gN (v := .hsl 1 1 0 ([] ++ [(a.getD i 0 + b.getD i 0 + c) % 10]).length none) rfl rfl (E4 (n := 1) (by decide)) (x1 rfl (oM (mV rfl (mKv hg gN (v := .int .i64 (((a.getD i 0 + b.getD i 0 + c) / 10 : Nat))) rfl rfl Dc (B8 (by rw [Int.ofNat_tdiv_ten]; omega) (by rw [Int.ofNat_tdiv_ten]; omega) Int.ofNat_tdiv_ten) (x1 rfl (oM (mV rfl (mI ((i + 1 : Nat)) rfl (x1 rfl ?_)))))))))))))))))))))))))))))))))))))
         exact ⟨(i + 1, (a.getD i 0 + b.getD i 0 + c) / 10, [] ++ [(a.getD i 0 + b.getD i 0 + c) % 10]), hI.step ha hb (by omega), by simp only; have := hI.e; omega, Ae 2 rfl (Nat.zero_le _) rfl (Dz _) (fzC rfl fvD (fzC rfl fvD (fzC rfl (fvH rfl) (fI (fI fzN)))))⟩
       · refine sq (sO (m2 rfl rfl (mV (v := .int .i64 (a.length : Nat)) (E5 rfl) (mF rfl (m3 rfl rfl rfl (mV (v := .int .i64 (b.length : Nat)) (E5 rfl) (mF rfl (m3 rfl rfl rfl (mT rfl (x1 rfl (cT rfl (kM (sq (bM (sO (m2 rfl rfl (mC rfl (atP hg _) (m2 rfl rfl (mC rfl (atP hg _) (mI ((a.getD i 0 + b.getD i 0 : Nat)) rfl (mV rfl (mI ((a.getD i 0 + b.getD i 0 + c : Nat)) rfl (x1 rfl (sO (m2 rfl rfl (mKv hg gN (v := .int .i64 (((a.getD i 0 + b.getD i 0 + c) % 10 : Nat))) rfl rfl Dc (iE (Int.ofNat_tmod _ 10).symm) (mV (v := .hsl 1 2 0 1 (some 1)) rfl (Ag hg gN (v := .hsl 1 1 0 ((d :: r) ++ [(a.getD i 0 + b.getD i 0 + c) % 10]).length none) (appS rfl rfl rfl rfl rfl) rfl (E4 (by simp only [lCo] at *; omega)) (x1 rfl (oM (mV rfl (mKv hg gN (v := .int .i64 (((a.getD i 0 + b.getD i 0 + c) / 10 : Nat))) rfl rfl Dc (B8 (by rw [Int.ofNat_tdiv_ten]; omega) (by rw [Int.ofNat_tdiv_ten]; omega) Int.ofNat_tdiv_ten) (x1 rfl (oM (mV rfl (mI ((i + 1 : Nat)) rfl (x1 rfl ?_)))))))))))))))))))))))))))))))))))))
         exact ⟨(i + 1, (a.getD i 0 + b.getD i 0 + c) / 10, (d :: r) ++ [(a.getD i 0 + b.getD i 0 + c) % 10]), hI.step ha hb (by omega), by simp only; have := hI.e; omega, Ae 2 rfl (Nat.zero_le _) rfl (Dz _) (fzC rfl fvD (fzC rfl fvD (fzC rfl (fvH rfl) (fI (fI fzN)))))⟩
     · refine sq (sO (m2 rfl rfl (mV (v := .int .i64 (a.length : Nat)) (E5 rfl) (mF rfl (m3 rfl rfl rfl (mV (v := .int .i64 (b.length : Nat)) (E5 rfl) (mF rfl (m3 rfl rfl rfl (mF rfl (x1 rfl (cF rfl ?_)))))))))))
       refine ExM.exit ?_
       refine sO (mV rfl ?_)
       refine mFz (Ae (l := [(41, dg l)]) 0 rfl (Nat.le_refl _) rfl rfl (fzC rfl fvOv fzN)) ?_
       refine mC rfl (show cP W0 127 [dg l] [] (dN (val a + val b)) [] from by rw [dN, ← hI.fin h1 h2 h3, ← Ky hI.dig]; exact U3 hg (by have := hI.e; omega)) (x1 rfl ?_)
       exact ExM.ret (pS)
theorem minusP (hg : hGr W0 G) {a b : List Nat} (ha : Dig a) (hb : Dig b) (tb : Trd b) (hv : val b ≤ val a) (hla : a.length ≤ 100000) (H : Hz) : cP W0 171 [dg a, dg b] H (dN (val a - val b)) H := by
 refine A1.pure (by simp [A8, blw, dg, As]) (A3n 0 _) ?_ H
 refine oF KG220 ?_
 refine sO (x1 rfl (sO (x1 rfl (sO (x1 rfl (sq (sO (x1 rfl (bM ?_)))))))))
 refine ExM.loop (σ := Nat × Nat × List Nat) (fun σ => ⟨.al [(0, dg a), (1, dg b), (5, ov 0 σ.2.2), (6, .int .i64 (σ.2.1 : Nat)), (7, .int .i64 (σ.1 : Nat))], oh σ.2.2, 35⟩) (fun σ => σ.1 ≤ a.length ∧ H5 a b σ.2.2 σ.1 σ.2.1) (fun σ => a.length - σ.1) (0, 0, []) (Ae 0 rfl (Nat.le_refl _) rfl rfl (fzC rfl fvD (fzC rfl fvD (fzC rfl Ji (fI (fI fzN)))))) ⟨Nat.zero_le _, H5.zero a b⟩ ?_
 rintro ⟨i, c, l⟩ ⟨hi, hI⟩
 simp only at hi hI ⊢
 have hll := hI.len
 have hc := hI.hc
 have hka := ha.get i
 have hkb := hb.get i
 by_cases h1 : i < a.length
 · by_cases hb1 : a.getD i 0 < b.getD i 0 + c
   · rcases l with _ | ⟨d, r⟩
     · refine sq (sO (m2 rfl rfl (mV (v := .int .i64 (a.length : Nat)) (E5 rfl) (mT rfl (mn (cT rfl (kM (sq (bM (sq ?_))))))))))
       refine ExM.draw hg ?_
       refine qV rfl (qV rfl (B1 (v := .eptr (.int .i64 (a.getD i 0 : Nat)) 0) (Ew rfl rfl (by omega)) rfl (by first | exact trivial | decide | (simp only [Af, and_true]; omega)) (qV rfl (qV rfl (qV rfl (Cc rfl rfl (atP hg _) (qKv (v := .int .i64 ((a.getD i 0 : Nat) - (b.getD i 0 : Nat))) rfl rfl trivial (B8 (by omega) (by omega) rfl) (qV rfl (qKv (v := .int .i64 ((a.getD i 0 : Nat) - (b.getD i 0 : Nat) - (c : Nat))) rfl rfl trivial (B8 (by omega) (by omega) (by omega)) (qV rfl (G8 (ExM.seq (ExM.ops hg (Ag hg gN rfl rfl trivial (Eu (ExM.seq (ExM.seq (ExM.ops hg (Ag hg gN rfl rfl trivial (mBk hg gN (c := true) rfl rfl (decide_eq_true (by omega)) (Eu (ExM.condT hg rfl (ExM.seq (ExM.ops hg (Ag hg gN rfl rfl trivial (mKv hg gN (v := .int .i64 ((a.getD i 0 + 10 - b.getD i 0 - c : Nat))) rfl rfl (by first | exact trivial | (simp only [Af, and_true, lCo, lNi, lAp]; omega)) (B8 (by omega) (by omega) (by omega)) (Ag hg gN rfl rfl trivial (Eu (ExM.ops hg (Ag hg gN rfl rfl trivial (Eu (ExM.ops hg (Ag hg gN rfl rfl trivial (Ag hg gN rfl rfl trivial (Ag hg gN (v := .hsl 1 0 0 1 (some 1)) rfl rfl trivial (Ag hg gN (v := .hsl 1 1 0 ([] ++ [a.getD i 0 + 10 - b.getD i 0 - c]).length none) rfl rfl (E4 (n := 1) (by decide)) (Ag hg gN rfl rfl trivial (Eu (ExM.ops hg (Ag hg gN rfl rfl trivial (mKv hg gN (v := .int .i64 ((i + 1 : Nat))) rfl rfl (by first | exact trivial | (simp only [Af, and_true, lCo, lNi, lAp]; omega)) (B8 (by omega) (by omega) (by omega)) (Ag hg gN rfl rfl trivial (Eu (?_))))))))))))))))))))))))))))))))))))))))))))
       exact ⟨(i + 1, 1, [] ++ [a.getD i 0 + 10 - b.getD i 0 - c]), ⟨by simp only; omega, hI.step1 (by omega) (by omega)⟩, by simp only; omega, Ae 2 rfl (Nat.zero_le _) rfl (Dz _) (fzC rfl fvD (fzC rfl fvD (fzC rfl (fvH rfl) (fI (fI fzN)))))⟩
     · refine sq (sO (m2 rfl rfl (mV (v := .int .i64 (a.length : Nat)) (E5 rfl) (mT rfl (mn (cT rfl (kM (sq (bM (sq ?_))))))))))
       refine ExM.draw hg ?_
       refine qV rfl (qV rfl (B1 (v := .eptr (.int .i64 (a.getD i 0 : Nat)) 0) (Ew rfl rfl (by omega)) rfl (by first | exact trivial | decide | (simp only [Af, and_true]; omega)) (qV rfl (qV rfl (qV rfl (Cc rfl rfl (atP hg _) (qKv (v := .int .i64 ((a.getD i 0 : Nat) - (b.getD i 0 : Nat))) rfl rfl trivial (B8 (by omega) (by omega) rfl) (qV rfl (qKv (v := .int .i64 ((a.getD i 0 : Nat) - (b.getD i 0 : Nat) - (c : Nat))) rfl rfl trivial (B8 (by omega) (by omega) (by omega)) (qV rfl (G8 (ExM.seq (ExM.ops hg (Ag hg gN rfl rfl trivial (Eu (ExM.seq (ExM.seq (ExM.ops hg (Ag hg gN rfl rfl trivial (mBk hg gN (c := true) rfl rfl (decide_eq_true (by omega)) (Eu (ExM.condT hg rfl (ExM.seq (ExM.ops hg (Ag hg gN rfl rfl trivial (mKv hg gN (v := .int .i64 ((a.getD i 0 + 10 - b.getD i 0 - c : Nat))) rfl rfl (by first | exact trivial | (simp only [Af, and_true, lCo, lNi, lAp]; omega)) (B8 (by omega) (by omega) (by omega)) (Ag hg gN rfl rfl trivial (Eu (ExM.ops hg (Ag hg gN rfl rfl trivial (Eu (ExM.ops hg (Ag hg gN rfl rfl trivial (Ag hg gN rfl rfl trivial (Ag hg gN (v := .hsl 1 2 0 1 (some 1)) rfl rfl trivial (Ag hg gN (v := .hsl 1 1 0 ((d :: r) ++ [a.getD i 0 + 10 - b.getD i 0 - c]).length none) (appS rfl rfl rfl rfl rfl) rfl (E4 (by simp only [lCo] at *; omega)) (Ag hg gN rfl rfl trivial (Eu (ExM.ops hg (Ag hg gN rfl rfl trivial (mKv hg gN (v := .int .i64 ((i + 1 : Nat))) rfl rfl (by first | exact trivial | (simp only [Af, and_true, lCo, lNi, lAp]; omega)) (B8 (by omega) (by omega) (by omega)) (Ag hg gN rfl rfl trivial (Eu (?_))))))))))))))))))))))))))))))))))))))))))))
       exact ⟨(i + 1, 1, (d :: r) ++ [a.getD i 0 + 10 - b.getD i 0 - c]), ⟨by simp only; omega, hI.step1 (by omega) (by omega)⟩, by simp only; omega, Ae 2 rfl (Nat.zero_le _) rfl (Dz _) (fzC rfl fvD (fzC rfl fvD (fzC rfl (fvH rfl) (fI (fI fzN)))))⟩
   · rcases l with _ | ⟨d, r⟩
     · refine sq (sO (m2 rfl rfl (mV (v := .int .i64 (a.length : Nat)) (E5 rfl) (mT rfl (mn (cT rfl (kM (sq (bM (sq ?_))))))))))
       refine ExM.draw hg ?_
       refine qV rfl (qV rfl (B1 (v := .eptr (.int .i64 (a.getD i 0 : Nat)) 0) (Ew rfl rfl (by omega)) rfl (by first | exact trivial | decide | (simp only [Af, and_true]; omega)) (qV rfl (qV rfl (qV rfl (Cc rfl rfl (atP hg _) (qKv (v := .int .i64 ((a.getD i 0 : Nat) - (b.getD i 0 : Nat))) rfl rfl trivial (B8 (by omega) (by omega) rfl) (qV rfl (qKv (v := .int .i64 ((a.getD i 0 - b.getD i 0 - c : Nat))) rfl rfl trivial (B8 (by omega) (by omega) (by omega)) (qV rfl (G8 (ExM.seq (ExM.ops hg (Ag hg gN rfl rfl trivial (Eu (ExM.seq (ExM.seq (ExM.ops hg (Ag hg gN rfl rfl trivial (mBk hg gN (c := false) rfl rfl (dF (by omega)) (Eu (ExM.condF hg rfl (ExM.skip (ExM.ops hg (Ag hg gN rfl rfl trivial (Ag hg gN rfl rfl trivial (Ag hg gN (v := .hsl 1 0 0 1 (some 1)) rfl rfl trivial (Ag hg gN (v := .hsl 1 1 0 ([] ++ [a.getD i 0 - b.getD i 0 - c]).length none) rfl rfl (E4 (n := 1) (by decide)) (Ag hg gN rfl rfl trivial (Eu (ExM.ops hg (Ag hg gN rfl rfl trivial (mKv hg gN (v := .int .i64 ((i + 1 : Nat))) rfl rfl (by first | exact trivial | (simp only [Af, and_true, lCo, lNi, lAp]; omega)) (B8 (by omega) (by omega) (by omega)) (Ag hg gN rfl rfl trivial (Eu (?_))))))))))))))))))))))))))))))))))))
       exact ⟨(i + 1, 0, [] ++ [a.getD i 0 - b.getD i 0 - c]), ⟨by simp only; omega, hI.step0 (by omega) (by omega)⟩, by simp only; omega, Ae 2 rfl (Nat.zero_le _) rfl (Dz _) (fzC rfl fvD (fzC rfl fvD (fzC rfl (fvH rfl) (fI (fI fzN)))))⟩
     · refine sq (sO (m2 rfl rfl (mV (v := .int .i64 (a.length : Nat)) (E5 rfl) (mT rfl (mn (cT rfl (kM (sq (bM (sq ?_))))))))))
       refine ExM.draw hg ?_
       refine qV rfl (qV rfl (B1 (v := .eptr (.int .i64 (a.getD i 0 : Nat)) 0) (Ew rfl rfl (by omega)) rfl (by first | exact trivial | decide | (simp only [Af, and_true]; omega)) (qV rfl (qV rfl (qV rfl (Cc rfl rfl (atP hg _) (qKv (v := .int .i64 ((a.getD i 0 : Nat) - (b.getD i 0 : Nat))) rfl rfl trivial (B8 (by omega) (by omega) rfl) (qV rfl (qKv (v := .int .i64 ((a.getD i 0 - b.getD i 0 - c : Nat))) rfl rfl trivial (B8 (by omega) (by omega) (by omega)) (qV rfl (G8 (ExM.seq (ExM.ops hg (Ag hg gN rfl rfl trivial (Eu (ExM.seq (ExM.seq (ExM.ops hg (Ag hg gN rfl rfl trivial (mBk hg gN (c := false) rfl rfl (dF (by omega)) (Eu (ExM.condF hg rfl (ExM.skip (ExM.ops hg (Ag hg gN rfl rfl trivial (Ag hg gN rfl rfl trivial (Ag hg gN (v := .hsl 1 2 0 1 (some 1)) rfl rfl trivial (Ag hg gN (v := .hsl 1 1 0 ((d :: r) ++ [a.getD i 0 - b.getD i 0 - c]).length none) (appS rfl rfl rfl rfl rfl) rfl (E4 (by simp only [lCo] at *; omega)) (Ag hg gN rfl rfl trivial (Eu (ExM.ops hg (Ag hg gN rfl rfl trivial (mKv hg gN (v := .int .i64 ((i + 1 : Nat))) rfl rfl (by first | exact trivial | (simp only [Af, and_true, lCo, lNi, lAp]; omega)) (B8 (by omega) (by omega) (by omega)) (Ag hg gN rfl rfl trivial (Eu (?_))))))))))))))))))))))))))))))))))))
       exact ⟨(i + 1, 0, (d :: r) ++ [a.getD i 0 - b.getD i 0 - c]), ⟨by simp only; omega, hI.step0 (by omega) (by omega)⟩, by simp only; omega, Ae 2 rfl (Nat.zero_le _) rfl (Dz _) (fzC rfl fvD (fzC rfl fvD (fzC rfl (fvH rfl) (fI (fI fzN)))))⟩
 · have : i = a.length := by omega
   subst this
   have hf := hI.fin ha hb tb hv
   refine sq (sO (m2 rfl rfl (mV (v := .int .i64 (a.length : Nat)) (E5 rfl) (mF rfl (mn (cF rfl ?_))))))
   refine ExM.exit ?_
   refine sO (mV rfl ?_)
   refine mFz (Ae (l := [(33, dg l)]) 0 rfl (Nat.le_refl _) rfl rfl (fzC rfl fvOv fzN)) ?_
   refine mC rfl (show cP W0 127 [dg l] [] (dN (val a - val b)) [] from by rw [dN, show val a - val b = val l by omega, ← Ky hI.dig]; exact U3 hg (by omega)) (x1 rfl ?_)
   exact ExM.ret (pS)
theorem C5 {H : Hz} {n v : Nat} : FzV H n (dN v) (dN v) := fvD
theorem A3t (n v : Nat) : blw n (dN v) = true := A3n n _
theorem dN0 : dN 0 = dg [] := by rw [dN, E8]
theorem dN1 : dN 1 = dg [1] := by rw [dN, I1 (by decide), show (1 : Nat) / 10 = 0 from rfl, E8]
theorem Bf (hg : hGr W0 G) {x y : Nat} (hx : x < 10 ^ 250) (hy : y < 10 ^ 250) (H : Hz) : cP W0 88 [dN x, dN y] H (.bool (decide (x < y))) H := by
 rw [← less_dN]
 have h1 := E7 hx
 have h2 := E7 hy
 exact lessP hg (by omega) (by omega) H
theorem A26 (hg : hGr W0 G) {x y : Nat} (hx : x < 10 ^ 250) (hxy : y ≤ x) (H : Hz) : cP W0 171 [dN x, dN y] H (dN (x - y)) H := by
 have h1 := E7 hx
 have := minusP hg (F4 x) (F4 y) (L3 y) (by rw [D2, D2]; exact hxy) (by omega) H
 rw [D2, D2] at this
 exact this
theorem G5 (hg : hGr W0 G) {x y : Nat} (hx : x < 10 ^ 250) (hy : y < 10 ^ 250) (H : Hz) : cP W0 133 [dN x, dN y] H (dN (x + y)) H := by
 have h1 := E7 hx
 have h2 := E7 hy
 have := plusP hg (F4 x) (F4 y) (by omega) (by omega) H
 rw [D2, D2] at this
 exact this
theorem bnd1 {y r s d x : Nat} (hyl : y < 10 ^ 249) (hry : r < y) (hx : x < 10) (hs : d * y + s = x + 10 * r) : s < 10 ^ 250 := by
 have h1 : 10 ^ 250 = 10 * 10 ^ 249 := by rw [← Nat.pow_succ']
 rw [h1]
 generalize 10 ^ 249 = P at *
 omega
theorem bnd2 {y r s d x : Nat} (hry : r < y) (hx : x < 10) (hs : d * y + s = x + 10 * r) : d ≤ 20 := by
 apply Classical.byContradiction
 intro hc
 have : 21 * y ≤ d * y := Nat.mul_le_mul_right _ (by omega)
 omega
theorem An {k : Nat} (h : k ≤ 250) : 10 ^ k ≤ 10 ^ 250 := Nat.pow_le_pow_right (by decide) h
theorem Tj {x v : Nat} (hx : x < 10) : Iz (x :: D1 v) = D1 (x + 10 * v) := by
 rw [Ky ((F4 v).cons hx), Gw, D2]
def KF151 : AFn := ⟨(sQ [wV 4 (.move (.val (.nilSl))), wV 5 (.move (.val (.nilSl)))] (sQ [wV 6 (.move (.val (.nilSl)))] (sQ [wV 7 (.move (.val (.nilSl)))] (.seq (sQ [wM 10 0, wV 11 (.len false 10), wV 12 (.bin .sub none 11 (vI 1)), wM 8 12] (.block 0 (.loop (.seq (sQ [wM 13 8, wV 14 (.bin .geq none 13 (vI 0))] (.cond 14 .skip (.exit 0))) (.seq (.block 1 (sQ [wM 17 0, wM 18 8, wV 19 (.idxSl 1 17 18), wV 20 (.load 1 false 19), wV 21 (.bslice 3 1 1 [.int .i64 0] [(0, 1, 20)]), wM 22 7, wV 23 (.append 3 1 8 21 22), wV 24 (kF 127 [23]), wM 7 24] (sQ [wV 9 (.move (vI 0))] (.seq (.block 2 (.loop (.seq (sQ [wM 25 7, wM 26 1, wV 27 (kF 88 [25, 26]), wV 28 (.un .not 27)] (.cond 28 .skip (.exit 2))) (.block 3 (sQ [wM 29 7, wM 30 1, wV 31 (kF 171 [29, 30]), wM 7 31] (.ops [wM 32 9, wV 33 (.bin .add none 32 (vI 1)), wM 9 33])))))) (.ops [wM 34 9, wV 35 (.bslice 3 1 1 [.int .i64 0] [(0, 1, 34)]), wM 36 6, wV 37 (.append 3 1 8 35 36), wM 6 37]))))) (.ops [wM 15 8, wV 16 (.bin .sub none 15 (vI 1)), wM 8 16])))))) (sQ [wM 38 6, wV 39 (kF 127 [38]), wM 40 7, wM 4 39, wM 5 40] .ret))))), [4, 5], 41⟩
theorem KG151 : Ab Tryz.prog 132 = some KF151 := by kernel_rfl
theorem byP (hg : hGr W0 G) {a : List Nat} {y : Nat} (ha : Dig a) (hy : 0 < y) (hyl : y < 10 ^ 249) (hla : a.length ≤ 1000) (H : Hz) : cP W0 132 [dg a, dN y] H (.tup [dN (val a / y), dN (val a % y)]) H := by
 refine A1.pure (by simp [A8, blw, dg, As, A3t]) (by simp [blw, A8, A3t]) ?_ H
 refine oF KG151 ?_
 refine sO (x2 rfl rfl (sO (x1 rfl (sO (x1 rfl (sq (sO (mV rfl (mV (v := .int .i64 (a.length : Nat)) (E5 rfl) (mK (v := .int .i64 ((a.length : Nat) - 1)) rfl (B8 (by omega) (by omega) rfl) (x1 rfl (bM ?_))))))))))))
 refine ExM.loop (σ := Nat × List Nat × Nat) (fun σ => ⟨.al [(0, dg a), (1, dN y), (6, dg σ.2.1), (7, dN σ.2.2), (8, .int .i64 (((σ.1 : Nat) : Int) - 1))], [], 41⟩) (fun σ => ByI a y σ.2.1 σ.2.2 σ.1) (fun σ => σ.1) (a.length, [], 0) (Ae 0 rfl (Nat.le_refl _) rfl rfl (fzC rfl fvD (fzC rfl C5 (fzC rfl A02 (fzC rfl (by rw [dN0]; exact A02) (fI fzN)))))) (ByI.zero a hy) ?_
 rintro ⟨k, q, r⟩ hI
 simp only at hI ⊢
 cases k with
 | zero =>
   have hf := hI.fin
   have hql : q.length ≤ 1000 := by have := hI.len; omega
   refine sq (sO (mV rfl (mF rfl (mn (cF rfl ?_)))))
   refine ExM.exit ?_
   refine sO (mV rfl (mC rfl (show cP W0 127 [dg q] [] (dN (val a / y)) [] from by rw [dN, ← hf.1, ← Ky hI.dig]; exact U3 hg (by omega)) (x3 rfl rfl rfl ?_)))
   exact ExM.ret (A4 trivial rfl (by rw [← hf.2]; rfl) rfl)
 | succ k =>
   have hkl := hI.hk
   have hkd := ha.get k
   have hry := hI.hr
   have hrl := E7 (n := r) (k := 249) (by omega)
   have hkn : ((k : Nat) : Int) + 1 - 1 = k := by omega
   by_cases hz : (D1 r).length = 0
   · have hd0 : D1 r = [] := List.length_eq_zero_iff.1 hz
     refine sq (sO (mV rfl (mT rfl (mn (cT rfl (kM (sq (bM (sO (mV rfl (mK (v := .int .i64 (k : Nat)) rfl (iE (by omega)) (mS (v := .eptr (.int .i64 (a.getD k 0 : Nat)) 0) (Ew rfl rfl (by omega)) (mV rfl (mV (v := .hsl 1 0 0 1 (some 1)) rfl (mV rfl (mS (v := .hsl 1 0 0 1 (some 1)) (A2q rfl rfl hz) ?_))))))))))))))))
     refine mFz (Ae (l := [(0, dg a), (1, dN y), (6, dg q), (8, .int .i64 ((((k + 1 : Nat)) : Int) - 1)), (23, dg [a.getD k 0])]) 0 rfl (Nat.le_refl _) rfl rfl (fzC rfl fvD (fzC rfl C5 (fzC rfl fvD (fI (fzC rfl (Dh (l := [a.getD k 0]) (by decide) rfl) fzN)))))) ?_
     refine mC rfl (show cP W0 127 [dg [a.getD k 0]] [] (dN (a.getD k 0 + 10 * r)) [] from by have h := Tj (v := r) hkd; rw [hd0] at h; rw [dN, ← h]; exact U3 hg (by simp)) (x1 rfl (sO (x1 rfl (sq (bM ?_)))))
     refine ExM.loop (σ := Nat × Nat) (fun σ => ⟨.al [(0, dg a), (1, dN y), (6, dg q), (8, .int .i64 ((((k + 1 : Nat)) : Int) - 1)), (7, dN σ.2), (9, .int .i64 (σ.1 : Nat))], [], 41⟩) (fun σ => σ.1 * y + σ.2 = a.getD k 0 + 10 * r) (fun σ => σ.2) (0, a.getD k 0 + 10 * r) (Ae 0 rfl (Nat.le_refl _) rfl rfl (fzC rfl fvD (fzC rfl C5 (fzC rfl fvD (fI (fzC rfl C5 (fI fzN))))))) (by simp) ?_
     rintro ⟨d, s⟩ hs
     simp only at hs ⊢
     have hsb := bnd1 hyl hry hkd hs
     have hyb : y < 10 ^ 250 := nLl hyl (An (by decide))
     have hdb := bnd2 hry hkd hs
     by_cases hsy : s < y
     · obtain ⟨hI', hd10⟩ := hI.step ha hsy hs
       by_cases hq : q.length = 0
       · have hq0 : q = [] := List.length_eq_zero_iff.1 hq
         subst hq0
         refine sq (sO (m2 rfl rfl (mC rfl (Bf hg hsb hyb []) (mBk hg gN (c := false) rfl rfl (by rw [decide_eq_true hsy]; rfl) (mn (cF rfl ?_))))))
         refine ExM.exit ?_
         refine oM (mV rfl (mV (v := .hsl 1 0 0 1 (some 1)) rfl (mV rfl (mS (v := .hsl 1 0 0 1 (some 1)) (A2q rfl rfl rfl) (x1 rfl (oM (mV rfl (mI ((k : Nat) - 1) rfl (x1 rfl ?_)))))))))
         exact ⟨(k, d :: [], s), hI', by simp only; omega, Ae 0 rfl (Nat.le_refl _) rfl rfl (fzC rfl fvD (fzC rfl C5 (fzC rfl (Dh (l := [d]) (by decide) rfl) (fzC rfl C5 (fI fzN)))))⟩
       · refine sq (sO (m2 rfl rfl (mC rfl (Bf hg hsb hyb []) (mBk hg gN (c := false) rfl rfl (by rw [decide_eq_true hsy]; rfl) (mn (cF rfl ?_))))))
         refine ExM.exit ?_
         refine oM (mV rfl (mV (v := .hsl 1 0 0 1 (some 1)) rfl (mV rfl (Ag hg gN (v := .hsl 1 1 0 ([d] ++ q).length none) (A3p rfl rfl hq rfl rfl rfl) rfl (E4 (by have := hI.len; simp only [lAp, lCo, lNi]; omega)) (x1 rfl (oM (mV rfl (mI ((k : Nat) - 1) rfl (x1 rfl ?_)))))))))
         exact ⟨(k, d :: q, s), hI', by simp only; omega, Ae 0 rfl (Nat.le_refl _) rfl rfl (fzC rfl fvD (fzC rfl C5 (fzC rfl (N2 (l := [d] ++ q) (by decide) rfl) (fzC rfl C5 (fI fzN)))))⟩
     · refine sq (sO (m2 rfl rfl (mC rfl (Bf hg hsb hyb []) (mBk hg gN (c := true) rfl rfl (by rw [dF hsy]; rfl) (mn (cT rfl (kM (bM (sO (m2 rfl rfl (mC rfl (A26 hg hsb (by omega) []) (x1 rfl (oM (mV rfl (mI ((d + 1 : Nat)) rfl (x1 rfl ?_))))))))))))))))
       exact ⟨(d + 1, s - y), by simp only; rw [Nat.add_mul]; omega, by simp only; omega, Ae 0 rfl (Nat.le_refl _) rfl rfl (fzC rfl fvD (fzC rfl C5 (fzC rfl fvD (fI (fzC rfl C5 (fI fzN))))))⟩
   · refine sq (sO (mV rfl (mT rfl (mn (cT rfl (kM (sq (bM (sO (mV rfl (mK (v := .int .i64 (k : Nat)) rfl (iE (by omega)) (mS (v := .eptr (.int .i64 (a.getD k 0 : Nat)) 0) (Ew rfl rfl (by omega)) (mV rfl (mV (v := .hsl 1 0 0 1 (some 1)) rfl (mV rfl (Ag hg gN (v := .hsl 1 1 0 ([a.getD k 0] ++ D1 r).length none) (A3p rfl rfl hz rfl rfl rfl) rfl (E4 (by simp only [lAp, lCo, lNi]; omega)) ?_))))))))))))))))
     refine mFz (Ae (l := [(0, dg a), (1, dN y), (6, dg q), (8, .int .i64 ((((k + 1 : Nat)) : Int) - 1)), (23, dg ([a.getD k 0] ++ D1 r))]) 0 rfl (Nat.le_refl _) rfl rfl (fzC rfl fvD (fzC rfl C5 (fzC rfl fvD (fI (fzC rfl (N2 (l := [a.getD k 0] ++ D1 r) (by decide) rfl) fzN)))))) ?_
     refine mC rfl (show cP W0 127 [dg ([a.getD k 0] ++ D1 r)] [] (dN (a.getD k 0 + 10 * r)) [] from by rw [dN, ← Tj hkd]; exact U3 hg (by simp only [lAp, lCo, lNi]; omega)) (x1 rfl (sO (x1 rfl (sq (bM ?_)))))
     refine ExM.loop (σ := Nat × Nat) (fun σ => ⟨.al [(0, dg a), (1, dN y), (6, dg q), (8, .int .i64 ((((k + 1 : Nat)) : Int) - 1)), (7, dN σ.2), (9, .int .i64 (σ.1 : Nat))], [], 41⟩) (fun σ => σ.1 * y + σ.2 = a.getD k 0 + 10 * r) (fun σ => σ.2) (0, a.getD k 0 + 10 * r) (Ae 0 rfl (Nat.le_refl _) rfl rfl (fzC rfl fvD (fzC rfl C5 (fzC rfl fvD (fI (fzC rfl C5 (fI fzN))))))) (by simp) ?_
     rintro ⟨d, s⟩ hs
     simp only at hs ⊢
     have hsb := bnd1 hyl hry hkd hs
     have hyb : y < 10 ^ 250 := nLl hyl (An (by decide))
     have hdb := bnd2 hry hkd hs
     by_cases hsy : s < y
     · obtain ⟨hI', hd10⟩ := hI.step ha hsy hs
       by_cases hq : q.length = 0
       · have hq0 : q = [] := List.length_eq_zero_iff.1 hq
         subst hq0
         refine sq (sO (m2 rfl rfl (mC rfl (Bf hg hsb hyb []) (mBk hg gN (c := false) rfl rfl (by rw [decide_eq_true hsy]; rfl) (mn (cF rfl ?_))))))
         refine ExM.exit ?_
         refine oM (mV rfl (mV (v := .hsl 1 0 0 1 (some 1)) rfl (mV rfl (mS (v := .hsl 1 0 0 1 (some 1)) (A2q rfl rfl rfl) (x1 rfl (oM (mV rfl (mI ((k : Nat) - 1) rfl (x1 rfl ?_)))))))))
         exact ⟨(k, d :: [], s), hI', by simp only; omega, Ae 0 rfl (Nat.le_refl _) rfl rfl (fzC rfl fvD (fzC rfl C5 (fzC rfl (Dh (l := [d]) (by decide) rfl) (fzC rfl C5 (fI fzN)))))⟩
       · refine sq (sO (m2 rfl rfl (mC rfl (Bf hg hsb hyb []) (mBk hg gN (c := false) rfl rfl (by rw [decide_eq_true hsy]; rfl) (mn (cF rfl ?_))))))
         refine ExM.exit ?_
         refine oM (mV rfl (mV (v := .hsl 1 0 0 1 (some 1)) rfl (mV rfl (Ag hg gN (v := .hsl 1 1 0 ([d] ++ q).length none) (A3p rfl rfl hq rfl rfl rfl) rfl (E4 (by have := hI.len; simp only [lAp, lCo, lNi]; omega)) (x1 rfl (oM (mV rfl (mI ((k : Nat) - 1) rfl (x1 rfl ?_)))))))))
         exact ⟨(k, d :: q, s), hI', by simp only; omega, Ae 0 rfl (Nat.le_refl _) rfl rfl (fzC rfl fvD (fzC rfl C5 (fzC rfl (N2 (l := [d] ++ q) (by decide) rfl) (fzC rfl C5 (fI fzN)))))⟩
     · refine sq (sO (m2 rfl rfl (mC rfl (Bf hg hsb hyb []) (mBk hg gN (c := true) rfl rfl (by rw [dF hsy]; rfl) (mn (cT rfl (kM (bM (sO (m2 rfl rfl (mC rfl (A26 hg hsb (by omega) []) (x1 rfl (oM (mV rfl (mI ((d + 1 : Nat)) rfl (x1 rfl ?_))))))))))))))))
       exact ⟨(d + 1, s - y), by simp only; rw [Nat.add_mul]; omega, by simp only; omega, Ae 0 rfl (Nat.le_refl _) rfl rfl (fzC rfl fvD (fzC rfl C5 (fzC rfl fvD (fI (fzC rfl C5 (fI fzN))))))⟩
end Go.Abs
