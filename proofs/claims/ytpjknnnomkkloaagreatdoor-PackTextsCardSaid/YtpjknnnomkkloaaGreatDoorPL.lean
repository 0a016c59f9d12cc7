/- A part of the proof that tabula/tabulalaw25.PackTexts returns true for every input, each argument reading as it did (its card: the last text). No conditions of its own. -/
import Derived.Test.YtpjknnnomkkloaaGreatDoorPK
namespace Go.Abs
open Go.Proofs Go.RowKit
set_option maxRecDepth 100000
variable {W0 : World} {G : List (Nat × AVal)}
theorem R6 {α : Type} {d : α} : ∀ (os H : List α), Bt (List.range' H.length os.length) os (H ++ List.replicate os.length d) = H ++ os
 | [], H => by simp [Bt]
 | o :: os, H => by
   have ih := R6 (d := d) os (H ++ [o])
   simp only [lAp, lCo, lNi, Nat.zero_add] at ih
   show Bt (List.range' (H.length + 1) os.length) os ((H ++ List.replicate (os.length + 1) d).set H.length o) = _
   have e : (H ++ List.replicate (os.length + 1) d).set H.length o = (H ++ [o]) ++ List.replicate os.length d := by
    rw [List.replicate_succ, List.set_append_right _ _ (Nat.le_refl _), Nat.sub_self, List.append_assoc]
    rfl
   rw [e, ih, List.append_assoc]; rfl
theorem liftN {f : FuncId} {args : List AVal} {v : AVal} {H0' : Hz} (H : Hz) (ha : A8 0 args = true) (hc : cP W0 f args [] v H0') : cP W0 f args H (Abs.ren (fun j => H.length + j) v) (H ++ H0'.map (D6 fun j => H.length + j)) := by
 have h := A1.renG (H := H) (H0 := []) [] (fun j => H.length + j) ⟨List.nodup_nil, rfl, rfl, fun j hj => by simp at hj, fun i hi => by simp at hi, fun j o ho => by simp at ho⟩ rfl ha (Nat.zero_le _) (fun j _ _ => rfl) hc
 rw [Aq args ha] at h
 have e := R6 (d := A2.dead) (H0'.map (D6 fun j => H.length + j)) H
 rw [List.length_map] at e
 exact (show Bt ([] ++ List.range' H.length (H0'.length - 0)) _ _ = _ from e) ▸ h
theorem lift2 {f : FuncId} {args : List AVal} {v : AVal} {o1 o2 o1' o2' : A2} {H : Hz} {i j : Nat} (hij : i ≠ j) (hi : H[i]? = some (D6 (fun k => bif Nat.beq k 0 then i else j) o1)) (hj : H[j]? = some (D6 (fun k => bif Nat.beq k 0 then i else j) o2)) (hb : B2 2 [o1, o2] = true) (ha : A8 2 args = true) (hc : cP W0 f args [o1, o2] v [o1', o2']) :
 cP W0 f (Eg (fun k => bif Nat.beq k 0 then i else j) args) H (Abs.ren (fun k => bif Nat.beq k 0 then i else j) v) ((H.set i (D6 (fun k => bif Nat.beq k 0 then i else j) o1')).set j (D6 (fun k => bif Nat.beq k 0 then i else j) o2')) := by
 have hlt : i < H.length := (List.getElem?_eq_some_iff.1 hi).1
 have hlt2 : j < H.length := (List.getElem?_eq_some_iff.1 hj).1
 have hs : Sel [i, j] 2 [o1, o2] H (fun k => bif Nat.beq k 0 then i else j) := by
  refine ⟨by simp [hij], rfl, rfl, fun q hq => ?_, fun k hk => ?_, fun q o ho => ?_⟩
  · match q, hq with
    | 0, _ => rfl
    | 1, _ => rfl
  · have : k = i ∨ k = j := by simpa using hk
    rcases this with rfl | rfl <;> assumption
  · match q, ho with
    | 0, ho => simp only [List.getElem?_cons_zero, iS] at ho; subst ho; exact hi
    | 1, ho => simp only [List.getElem?_cons_succ, List.getElem?_cons_zero, iS] at ho; subst ho; exact hj
    | q + 2, ho => simp at ho
 exact A1.ren (H := H) (H0 := [o1, o2]) (H0' := [o1', o2']) [i, j] _ hs hb ha rfl hc
theorem Qw : ∀ (cs : List PCl), E0 3 cs.length (clF cs) = cs.map pcV
 | [] => rfl
 | c :: cs => by
   show (AVal.agg [_, _, _]) :: E0 3 cs.length (clF cs) = _
   rw [Qw cs]; rfl
theorem frz_bk {H : Hz} {a b : Nat} {T T' : TypeId} {nm : Bz} {cs : List PCl} (ho : H[a]? = some (.cells T [.str nm, .hsl 3 b 0 cs.length none] true)) (hb : H[b]? = some (.cells T' (clF cs) true)) {x : Int} : ∃ k, frz H 0 k (.tup [.agg [.hsl 2 a 0 1 none, .nilSl, .nilSl, .nilSl], .int .i64 x]) = some (.tup [bkV [⟨nm, cs⟩], .int .i64 x]) := by
 obtain ⟨k, hk⟩ := Ig (H := H) (n := 0) (cs.map pcV) (B3 cs)
 refine ⟨k + 1 + 1 + 1 + 1 + 1 + 1 + 1 + 1 + 1 + 1, ?_⟩
 have h1 : Nat.blt a 0 = false := Xx (by omega)
 have h2 : Nat.blt b 0 = false := Xx (by omega)
 have h3 : ∀ x y : AVal, E0 2 1 [x, y] = [.agg [x, y]] := fun _ _ => rfl
 have h4 : Nat.ble 1 2 = true := rfl
 have h5 : Nat.ble 1 3 = true := rfl
 have h6 : Nat.beq (1 * 2) [AVal.str nm, .hsl 3 b 0 cs.length none].length = true := rfl
 simp only [frz, H6, h1, h2, h4, h5, h6, cond_false, ho, h3, hb, L6, Qw, Nat.beq_refl, Bool.and_self, cond_true]
 rw [hk]
 · rfl
 · omega
def NF7 : AFn := ⟨(sQ [wV 3 (.box 42 0), wV 4 (.box 47 1), wV 6 (.alloc 42 z4L), wV 7 (.move (vI 0))] (.seq (sQ [wV 13 (.load 4 true 3), wV 14 (.load 3 true 4), wV 15 (kF 14 [13, 14]), wM 8 15] (sQ [wM 16 8, wV 17 (.bin .neq none 16 (vI 0))] (.cond 17 (sQ [wV 18 (.build z4L []), wM 19 8, wN (.store 4 6 18), wM 7 19] .ret) .skip))) (.seq (sQ [wM 20 2, wV 21 (.bin .neq none 20 (.val (.str []))), wM 22 21, wT 23 22 (.move 2), wT 24 22 (kF 15 [23]), wT 25 22 (.un .not 24), wV 26 (.pick 22 25 (.val (.bool false)))] (.cond 26 (sQ [wV 27 (.build z4L []), wN (.store 4 6 27), wV 7 (.move (vI 92))] .ret) .skip)) (sQ [wV 28 (.load 4 true 3), wV 29 (kF 16 [28]), wV 9 (.alloc 42 z4L), wN (.store 4 9 29)] (sQ [wV 30 (.fieldAddr 0 9), wV 31 (.load 1 false 30), wV 32 (.fieldAddr 0 4), wV 33 (.load 1 false 32), wV 34 (.idxSl 2 31 33), wV 35 (.fieldAddr 1 34), wM 10 35] (.seq (.seq (.draw [wM 37 10, wV 38 (.nilCheck 37), wV 39 (.load 1 false 38), wV 40 (.load 3 true 4), wV 41 (kF 17 [39, 40]), wM 36 41, wV 42 (.extract 36 0), wV 43 (.extract 36 1), wM 11 42, wM 12 43]) (.block 0 (sQ [wM 45 12, wM 46 45, wT 47 46 (.move 2), wT 48 46 (.bin .eql none 47 (.val (.str []))), wV 49 (.pick 46 48 (.val (.bool false))), wM 44 49] (.cond 44 (.ops [wM 50 10, wM 51 10, wV 52 (.nilCheck 51), wV 53 (.load 1 false 52), wM 54 11, wM 55 11, wV 56 (.bin .add none 55 (vI 1)), wV 57 (kF 18 [53, 54, 56]), wV 58 (.nilCheck 50), wN (.store 1 58 57)]) (sQ [wM 60 12, wM 59 60] (.cond 59 (.ops [wM 61 10, wV 62 (.nilCheck 61), wV 63 (.load 1 false 62), wM 64 11, wM 65 2, wV 66 (.idxSl 3 63 64), wV 67 (.fieldAddr 2 66), wN (.store 1 67 65)]) (sQ [wM 69 2, wV 70 (.bin .neq none 69 (.val (.str []))), wM 68 70] (.cond 68 (.drawC [wM 71 10, wM 72 10, wV 73 (.nilCheck 72), wV 74 (.load 1 false 73), wM 75 11, wV 76 (.fieldAddr 1 4), wV 77 (.load 1 false 76), wV 78 (.fieldAddr 2 4), wV 79 (.load 1 false 78), wM 80 2, wV 81 (.build z8L [(0, 1, 77), (1, 1, 79), (2, 1, 80)]), wV 82 (.bslice 33 3 1 z8L [(0, 3, 81)]), wV 83 (kF 19 [74, 75, 82]), wV 84 (.nilCheck 71), wN (.store 1 84 83)] ⟨15, [0, 0, 1, 1, 0, 1, 1, 1, 1, 0, 0, 2, 3, 1, 2], [0, 0, 2, 6, 0, 0, 32, 0, 128, 0, 992, 2016, 4094, 8191, 16383], [0, 2048, 6144, 22528]⟩) .skip)))))))) (.seq (sQ [wV 85 (.load 4 true 9), wV 86 (kF 20 [85]), wV 87 (.bin .gtr none 86 (vI 400))] (.cond 87 (sQ [wV 88 (.build z4L []), wN (.store 4 6 88), wV 7 (.move (vI 96))] .ret) .skip)) (sQ [wV 89 (.load 4 true 9), wN (.store 4 6 89), wV 7 (.move (vI 0))] .ret)))))))), [.cell 6 4 true, 7], 90⟩
theorem NG7 : Ab Tryz.prog 7 = some NF7 := by kernel_rfl
theorem copiedL (hg : hGr W0 G) {nm : Bz} {c0 : PCl} {cs : List PCl} {a b c : A2} (hn : (c0 :: cs).length ≤ 1000000) : cP W0 16 [bkV [⟨nm, c0 :: cs⟩]] [a, b, c] (.agg [.hsl 2 6 0 1 none, .nilSl, .nilSl, .nilSl]) [a, b, c, A2.cells 42 [.hsl 2 6 0 1 none, .nilSl, .nilSl, .nilSl] false, A2.cells 42 [.hsl 2 6 0 1 none, .nilSl, .nilSl, .nilSl] false, A2.cells 36 [] false, A2.cells 36 [.str nm, .hsl 3 8 0 (c0 :: cs).length none] true, A2.cells 33 [] false, A2.cells 33 (clF (c0 :: cs)) true] := by
 have h := liftN [a, b, c] (by show cond (blw 0 (bkV _)) true false = true; rw [Jj]; rfl) (copiedP hg (nm := nm) hn)
 simp only [List.map, D6, Aq _ (Cb (n := 0) (c0 :: cs))] at h
 exact h
theorem findL (hg : hGr W0 G) {H : Hz} {cs : List PCl} {r c : Nat} (hi : H[8]? = some (.cells 33 (clF cs) true)) (hs : H.set 8 (.cells 33 (clF cs) true) = H) (hn : cs.length ≤ 1000000) (hord : ∀ h, h < cs.length → Vp (cs.getD h pc0) ⟨r, c, []⟩ = -1) : cP W0 17 [.hsl 3 8 0 cs.length none, .agg [.int .i64 0, .int .i64 ((r : Nat) : Int), .int .i64 ((c : Nat) : Int)]] H (.tup [.int .i64 ((cs.length : Nat) : Int), .bool false]) H := by
 have h := lift1 (i := 8) hi (fun _ => Cb cs) (fun _ => Cb cs) rfl (findP hg (r := r) (c := c) hn hord)
 rw [hs] at h
 exact h
theorem insL (hg : hGr W0 G) {H H' : Hz} {cs : List PCl} {t : PCl} (hi : H[8]? = some (.cells 33 (clF cs) true)) (hj : H[10]? = some (.cells 33 [.int .i64 ((t.r : Nat) : Int), .int .i64 ((t.c : Nat) : Int), .str t.s] false)) (hs : (H.set 8 (.cells 33 (clF (cs ++ [t])) true)).set 10 (.cells 33 [.int .i64 ((t.r : Nat) : Int), .int .i64 ((t.c : Nat) : Int), .str t.s] false) = H') (hn : cs.length ≤ 1000000) (h1 : 1 ≤ cs.length) :
 cP W0 19 [.hsl 3 8 0 cs.length none, .int .i64 ((cs.length : Nat) : Int), .hsl 3 10 0 1 (some 1)] H (.hsl 3 8 0 (cs ++ [t]).length none) H' := by
 have h := lift2 (i := 8) (j := 10) (by decide) (by simp only [D6, Aq _ (Cb (n := 0) cs)]; exact hi) (by simp only [D6, Eg, Abs.ren]; exact hj) (by show cond (A8 2 (clF cs)) true false = true; rw [Cb]; rfl) rfl (insP hg (t := t) hn h1)
 simp only [D6, Aq _ (Cb (n := 0) (cs ++ [t]))] at h
 rw [← hs]
 exact h
theorem manyL (hg : hGr W0 G) {H : Hz} {nm : Bz} {cs : List PCl} (hi : H[6]? = some (.cells 36 [.str nm, .hsl 3 8 0 cs.length none] true)) (hj : H[8]? = some (.cells 33 (clF cs) true)) (hs : (H.set 6 (.cells 36 [.str nm, .hsl 3 8 0 cs.length none] true)).set 8 (.cells 33 (clF cs) true) = H) (hn : cs.length ≤ 1000000) :
 cP W0 20 [.agg [.hsl 2 6 0 1 none, .nilSl, .nilSl, .nilSl]] H (.int .i64 ((cs.length : Nat) : Int)) H := by
 have h := lift2 (i := 6) (j := 8) (by decide) hi (by simp only [D6, Aq _ (Cb (n := 0) cs)]; exact hj) (by show cond (cond true (cond true true false) false) (cond (A8 2 (clF cs)) true false) false = true; rw [Cb]; rfl) rfl (many2 hg (nm := nm) hn)
 simp only [D6, Aq _ (Cb (n := 0) cs)] at h
 exact Eq.mp (congrArg (cP W0 20 [.agg [.hsl 2 6 0 1 none, .nilSl, .nilSl, .nilSl]] H (.int .i64 ((cs.length : Nat) : Int))) hs) h
theorem setP (hk : Kn W0) (hg : hGr W0 G) {nm s : Bz} {c0 : PCl} {cs : List PCl} {r c : Nat} (hr : r < 200) (hc : c < 52) (hl : lit s) (hne : s ≠ []) (hn : (c0 :: cs).length < 400) (hord : ∀ h, h < (c0 :: cs).length → Vp ((c0 :: cs).getD h pc0) ⟨r, c, []⟩ = -1)
 (hck : cP W0 21 [bkV [⟨nm, c0 :: cs⟩]] [] (.tup [.agg z3L, .int .i64 0]) []) :
 cP W0 7 [bkV [⟨nm, c0 :: cs⟩], .agg [.int .i64 0, .int .i64 ((r : Nat) : Int), .int .i64 ((c : Nat) : Int)], .str s] [] (.tup [bkV [⟨nm, c0 :: cs ++ [(⟨r, c, s⟩ : PCl)]⟩], .int .i64 0]) [] := by
 have hn1 : (c0 :: cs).length ≤ 1000000 := by omega
 refine oF NG7 ?_
 refine sO (mV (v := .ptr 0 0) rfl (mV (v := .ptr 1 0) rfl (mV (v := .ptr 2 0) rfl (x1 rfl (sq (sO (mV (v := bkV [⟨nm, c0 :: cs⟩]) rfl (mV (v := .agg [.int .i64 0, .int .i64 ((r : Nat) : Int), .int .i64 ((c : Nat) : Int)]) rfl (mC rfl (A1.pure (by show cond (blw 0 (bkV _)) true false = true; rw [Jj]; rfl) rfl (thereP hg hr hc (shs := [⟨nm, c0 :: cs⟩]) (Nat.le_refl 1) hck) _) (x1 rfl (sO (mV rfl (mBk hg gN (c := false) rfl rfl rfl (mn (cF rfl (kM (sq (sO (mV rfl (mBk hg gN (c := true) rfl rfl (by cases s with | nil => exact absurd rfl hne | cons _ _ => rfl) (m2 rfl rfl (Fg hg (gS rfl) (c := true) rfl rfl (A1.pure rfl rfl (A31 hk hg hl hne) _) rfl (mBk hg (gS rfl) (c := false) rfl rfl rfl (mBk hg gN (c := false) rfl rfl rfl (mn (cF rfl (kM (sO (mV (v := bkV [⟨nm, c0 :: cs⟩]) rfl (mC rfl (copiedL hg hn1) (mV (v := .ptr 9 0) rfl (A6 hg gN rfl (mn (sO (mV (v := .ptr 9 0) rfl (mV (v := .hsl 2 6 0 1 none) rfl (mV (v := .ptr 1 0) rfl (mV (v := .int .i64 0) rfl (mS (v := .optr 6 0 2) rfl (mV (v := .optr 6 1 2) rfl (x1 rfl (sq (sq ?_)))))))))))))))))))))))))))))))))))))))))))
 refine ExM.draw hg ?_
 refine qV rfl (qV rfl (B1 (v := .hsl 3 8 0 (c0 :: cs).length none) rfl rfl trivial (B1 (v := .agg [.int .i64 0, .int .i64 ((r : Nat) : Int), .int .i64 ((c : Nat) : Int)]) rfl rfl trivial (Cc rfl rfl (findL hg (cs := c0 :: cs) rfl rfl hn1 hord) (qV rfl (qV rfl (qV rfl (qV rfl (qV rfl (G8 (ExM.block (ExM.seq (ExM.ops hg (Ag hg gN rfl rfl trivial (mBk hg gN (c := false) rfl rfl rfl (mGN hg rfl rfl (mGN hg rfl rfl (mBk hg gN (c := false) rfl rfl rfl (Ag hg gN rfl rfl trivial (Eu (ExM.condF hg rfl (ExM.seq (ExM.ops hg (Ag hg gN rfl rfl trivial (mBk hg gN (c := false) rfl rfl rfl (Eu (ExM.condF hg rfl (ExM.seq (ExM.ops hg (Ag hg gN rfl rfl trivial (mBk hg gN (c := true) rfl rfl (by cases s with | nil => exact absurd rfl hne | cons _ _ => rfl) (mBk hg gN (c := true) rfl rfl rfl (Eu (ExM.condT hg rfl ?_))))))))))))))))))))))))))))))))))
 refine ExM.drawC hg ?_
 refine Dl rfl rfl trivial (by kernel_rfl) (Dl rfl rfl trivial (by kernel_rfl) (Dl rfl rfl trivial (by kernel_rfl) (Dl (v := .hsl 3 8 0 (c0 :: cs).length none) rfl rfl trivial (by kernel_rfl) (Dl rfl rfl trivial (by kernel_rfl) (Dl (v := .ptr 1 1) rfl rfl trivial (by kernel_rfl) (?_))))))
 refine Dl (v := .int .i64 ((r : Nat) : Int)) rfl rfl trivial (by kernel_rfl) (Dl (v := .ptr 1 2) rfl rfl trivial (by kernel_rfl) (Dl (v := .int .i64 ((c : Nat) : Int)) rfl rfl trivial (by kernel_rfl) (Dl rfl rfl trivial (by kernel_rfl) (Dl rfl rfl trivial (by kernel_rfl) (cEVal (v := .hsl 3 10 0 1 (some 1)) rfl rfl trivial rfl (pdC (cY (by show SP.mayB _ 2048 3 = true; rfl) (evY rfl trivial)) (pdC (cY (by show SP.mayB _ 2048 2 = true; rfl) (evY rfl trivial)) pdN)) (?_))))))
 refine L0 (v := .hsl 3 8 0 (c0 :: cs ++ [(⟨r, c, s⟩ : PCl)]).length none) rfl rfl (insL hg (cs := c0 :: cs) (t := ⟨r, c, s⟩) rfl rfl rfl hn1 (by simp)) rfl (pdC (cN (by show SP.mayB _ 6144 3 = false; rfl)) (pdC (cN (by show SP.mayB _ 6144 2 = false; rfl)) pdN)) (Dl rfl rfl trivial (by kernel_rfl) (Ls rfl rfl (pdC (cN (by show SP.mayB _ 22528 3 = false; rfl)) (pdC (cN (by show SP.mayB _ 22528 2 = false; rfl)) pdN)) (A1c rfl (?_))))
 refine sq (sO (mV (v := .agg [.hsl 2 6 0 1 none, .nilSl, .nilSl, .nilSl]) rfl (mC rfl (manyL hg (cs := c0 :: cs ++ [(⟨r, c, s⟩ : PCl)]) rfl rfl rfl (by simp only [lAp, lCo, lNi] at hn ⊢; omega)) (mBk hg gN (c := false) rfl rfl (dF (by simp only [lAp, lCo, lNi] at hn ⊢; omega)) (mn (cF rfl (kM (sO (mV (v := .agg [.hsl 2 6 0 1 none, .nilSl, .nilSl, .nilSl]) rfl (A6 hg gN rfl (x1 rfl ?_)))))))))))
 exact ExM.ret ((frz_bk (a := 6) (b := 8) (nm := nm) (cs := c0 :: cs ++ [(⟨r, c, s⟩ : PCl)]) rfl rfl (x := 0)).elim fun q hq => A0 trivial rfl rfl q hq rfl)
def Ei (t : Bz) (k : Nat) : List PCl := (List.range k).map fun j => ⟨j / 7, j % 7, t⟩
theorem F9 {t : Bz} {k : Nat} : (Ei t k).length = k := by simp [Ei]
theorem W5 {t : Bz} {k : Nat} : Ei t (k + 1) = Ei t k ++ [⟨k / 7, k % 7, t⟩] := by
 simp [Ei, List.range_succ]
theorem L8 {t : Bz} {k h : Nat} (hh : h < k) : (Ei t k).getD h pc0 = ⟨h / 7, h % 7, t⟩ := by
 rw [List.getD_eq_getElem?_getD, gGe (by rw [F9]; exact hh)]
 simp [Ei]
theorem A0l {t : Bz} {k : Nat} : Ei t (k + 1) ≠ [] := by
 intro e
 have := congrArg List.length e
 rw [F9] at this
 simp at this
theorem ahead {a b : Nat} (h : a < b) : a / 7 < b / 7 ∨ a / 7 = b / 7 ∧ a % 7 < b % 7 := by omega
def bk1 (t : Bz) (k : Nat) : List PSh := [⟨[83], Ei t k⟩]
theorem Zs {t : Bz} {k : Nat} : Bm (bk1 t k) = [83] :: List.replicate k t := by
 simp only [Bm, bk1, List.flatMap_cons, List.flatMap_nil, List.append_nil, shT, Ei, List.map_map]
 congr 1
 rw [List.eq_replicate_iff]
 refine ⟨by simp, fun b hb => ?_⟩
 obtain ⟨j, _, rfl⟩ := List.mem_map.1 hb
 rfl
theorem leT {a b c : Bz} (h1 : decide (a ≤ b) = true) (h2 : decide (b ≤ c) = true) : decide (a ≤ c) = true :=
 decide_eq_true (List.le_trans (of_decide_eq_true h1) (of_decide_eq_true h2))
theorem leTot (a b : Bz) : (decide (a ≤ b) || decide (b ≤ a)) = true := by
 rcases List.le_total a b with h | h <;> simp [h]
theorem Wx {l l' : List Bz} (hp : List.Perm l' l) (hs : l'.Pairwise fun a b => decide (a ≤ b) = true) : J6 l = l' := by
 refine List.Perm.eq_of_pairwise (le := fun a b => decide (a ≤ b) = true) (fun a b _ _ h1 h2 => List.le_antisymm (of_decide_eq_true h1) (of_decide_eq_true h2)) ?_ hs ((List.mergeSort_perm l _).trans hp.symm)
 exact List.pairwise_mergeSort (le := fun x y => decide (x ≤ y)) (fun a b c h1 h2 => leT h1 h2) (fun a b => leTot a b) l
theorem A2c {x : Bz} (n : Nat) : (List.replicate n x).Pairwise fun a b => decide (a ≤ b) = true :=
 List.pairwise_replicate.2 (.inr (decide_eq_true (List.le_refl x)))
theorem Je {d : Array Bz} {a : Nat} : ∀ {m : Nat}, a ≤ m → (∀ j, a ≤ j → j < m → Lib.keeps d j = false) → Lib.compactUpTo d m = Lib.compactUpTo d a
 | 0, h, _ => by have : a = 0 := by omega
                 subst this; rfl
 | m + 1, h, hk => by
   by_cases he : a = m + 1
   · subst he; rfl
   · rw [Lib.compactUpTo_succ, hk m (by omega) (by omega)]
     simp only [bFt, if_false, List.append_nil]
     exact Je (by omega) fun j h1 h2 => hk j h1 (by omega)
theorem Q6 {l : List Bz} {j : Nat} : l.toArray[j]! = l.getD j [] := by
 rw [List.getElem!_toArray, List.getElem!_eq_getElem?_getD, List.getD_eq_getElem?_getD]
 rfl
theorem A1h {l : List Bz} {j : Nat} (h0 : j ≠ 0) (h : l.getD j [] = l.getD (j - 1) []) : Lib.keeps l.toArray j = false := by
 unfold Lib.keeps
 rw [Q6, Q6, h]
 simp [h0]
theorem cmpA {x t : Bz} (n : Nat) : Lib.compactUpTo (x :: List.replicate (n + 1) t).toArray (n + 2) = Lib.compactUpTo [x, t].toArray 2 := by
 rw [Je (a := 2) (by omega) fun j h1 h2 => A1h (by omega) (by
  obtain ⟨i, rfl⟩ : ∃ i, j = i + 2 := ⟨j - 2, by omega⟩
  show (List.replicate (n + 1) t).getD (i + 1) [] = (List.replicate (n + 1) t).getD i []
  rw [List.getD_eq_getElem?_getD, List.getD_eq_getElem?_getD, List.getElem?_replicate, List.getElem?_replicate, if_pos (by omega), if_pos (by omega)])]
 unfold Lib.compactUpTo
 have e : ∀ j, j < 2 → (x :: List.replicate (n + 1) t).toArray[j]! = [x, t].toArray[j]! := fun j hj => by
  rw [Q6, Q6]
  match j, hj with
  | 0, _ => rfl
  | 1, _ => rfl
 have ek : ∀ j, j < 2 → Lib.keeps (x :: List.replicate (n + 1) t).toArray j = Lib.keeps [x, t].toArray j := fun j hj => by
  unfold Lib.keeps
  rw [e j hj, e (j - 1) (by omega)]
 rw [List.filter_congr fun j hj => ek j (List.mem_range.1 hj)]
 refine List.map_congr_left fun j hj => e j (List.mem_range.1 (List.mem_filter.1 hj).1)
theorem cmpB {x t : Bz} (n : Nat) : Lib.compactUpTo (List.replicate (n + 1) t ++ [x]).toArray (n + 2) = Lib.compactUpTo [t, x].toArray 2 := by
 have hg : ∀ j, j < n + 1 → (List.replicate (n + 1) t ++ [x]).getD j [] = t := fun j hj => by
  rw [List.getD_eq_getElem?_getD, List.getElem?_append_left (by simpa using hj), List.getElem?_replicate, if_pos hj]; rfl
 have hl : (List.replicate (n + 1) t ++ [x]).getD (n + 1) [] = x := by
  rw [List.getD_eq_getElem?_getD, List.getElem?_append_right (by simp)]; simp
 rw [Lib.compactUpTo_succ, Je (a := 1) (by omega) fun j h1 h2 => A1h (by omega) (by rw [hg j h2, hg (j - 1) (by omega)]), Lib.compactUpTo_succ _ 1]
 have k1 : Lib.keeps (List.replicate (n + 1) t ++ [x]).toArray (n + 1) = Lib.keeps [t, x].toArray 1 := by
  unfold Lib.keeps
  rw [Q6, Q6, Q6, Q6, hl, show n + 1 - 1 = n from rfl, hg n (by omega)]
  show decide (n + 1 = 0 ∨ x ≠ t) = decide (1 = 0 ∨ x ≠ t)
  simp
 have c1 : ∀ l : List Bz, Lib.compactUpTo l.toArray 1 = [l.getD 0 []] := fun l => by
  rw [Lib.compactUpTo_succ, Lib.keeps_lt_one _ 0 (by omega)]
  show Lib.compactUpTo _ 0 ++ [_] = _
  rw [Q6]; rfl
 rw [k1, c1, c1, Q6, Q6, hl, hg 0 (by omega)]
 rfl
theorem S3 {t : Bz} : ∀ n, Ax (bk1 t (n + 1)) = if ([83] : Bz) ≤ t then Lib.compactUpTo [[83], t].toArray 2 else Lib.compactUpTo [t, [83]].toArray 2 := fun n => by
 unfold Ax
 rw [Zs]
 by_cases h : ([83] : Bz) ≤ t
 · rw [if_pos h, Wx (l' := [83] :: List.replicate (n + 1) t) (List.Perm.refl _) (List.pairwise_cons.2 ⟨fun a ha => by rw [List.eq_of_mem_replicate ha]; exact decide_eq_true h, A2c _⟩)]
   have : ([83] :: List.replicate (n + 1) t : List Bz).length = n + 2 := by simp
   rw [this]
   exact cmpA n
 · rw [if_neg h, Wx (l := [83] :: List.replicate (n + 1) t) (l' := List.replicate (n + 1) t ++ [[83]]) (List.perm_append_comm (l₁ := List.replicate (n + 1) t) (l₂ := [[83]])) (List.pairwise_append.2 ⟨A2c _, List.pairwise_singleton _ _, fun a ha b hb => by
    rw [List.eq_of_mem_replicate ha, List.mem_singleton.1 hb]
    refine decide_eq_true ?_
    rcases List.le_total ([83] : Bz) t with h' | h'
    · exact absurd h' h
    · exact h'⟩)]
   have : (List.replicate (n + 1) t ++ [[83]] : List Bz).length = n + 2 := by simp
   rw [this]
   exact cmpB n
theorem txtL_bk {t : Bz} (n : Nat) : Ax (bk1 t (n + 1)) = Ax (bk1 t 1) := by rw [S3 n, S3 0]
theorem P6 {l : List Bz} {x : Bz} (h : x ∈ Lib.compactUpTo l.toArray l.length) : x ∈ l := by
 unfold Lib.compactUpTo at h
 obtain ⟨j, hj, rfl⟩ := List.mem_map.1 h
 have hj := List.mem_range.1 (List.mem_filter.1 hj).1
 rw [Q6, List.getD_eq_getElem?_getD, gGe hj]
 exact List.getElem_mem hj
theorem Xf {t : Bz} (n : Nat) : (Ax (bk1 t (n + 1))).length ≤ 2 ∧ ∀ x ∈ Ax (bk1 t (n + 1)), x = [83] ∨ x = t := by
 rw [S3 n]
 split
 · exact ⟨I7 _ _, fun x hx => by have := P6 (l := [[83], t]) hx; simpa using this⟩
 · exact ⟨I7 _ _, fun x hx => by have := P6 (l := [t, [83]]) hx; simpa [or_comm] using this⟩
theorem Q1 {l : List Bz} (h : l.length ≤ 2) (hx : ∀ x ∈ l, x.length ≤ 200) : (Ha l).length ≤ 1000 := by
 match l, h, hx with
 | [], _, _ => simp [Ha, Ao]
 | [a], _, hx => have := hx a (by simp); simp [Ha, dcB, Ao]; omega
 | [a, b], _, hx => have := hx a (by simp); have := hx b (by simp); simp [Ha, dcB, Ao]; omega
theorem K3 {ix : Bz → Nat} {t : Bz} {k : Nat} : (Ft ix (bk1 t k)).length = 5 + k * 4 := by
 simp only [Ft, bk1, List.flatMap_cons, List.flatMap_nil, List.append_nil, lAp, Ao, V3, F9]; omega
theorem A3k {t : Bz} (n : Nat) : (Js (Ej (bk1 t (n + 1)))).length = (Js (Ej (bk1 t 1))).length + 4 * n := by
 simp only [Js, lAp, Dw, O4, Ej, K3, txtL_bk n, lNi]; omega
theorem A2v (hk : Kn W0) (hg : hGr W0 G) {t : Bz} (ht : lit t) (h0 : t ≠ []) {n : Nat} (hn : n < 400) : cP W0 21 [bkV (bk1 t (n + 1))] [] (.tup [.agg z3L, .int .i64 0]) [] := by
 refine checkP hg (Nat.le_refl 1) (show 1 ≤ 8 by decide) ?_ (fun i hi => ?_) (fun i hi j hj => ?_)
 · show (Ei t (n + 1)).length + 0 ≤ 400
   rw [F9]; omega
 · obtain rfl : i = 0 := by have : i < 1 := hi; omega
   exact ⟨by show ([83] : Bz) ≠ []; simp, name52 hk, name53 hk⟩
 · obtain rfl : i = 0 := by have : i < 1 := hi; omega
   have hj : j < (Ei t (n + 1)).length := hj
   rw [F9] at hj
   have e : (((bk1 t (n + 1)).getD 0 ps0).cs.getD j pc0) = ⟨j / 7, j % 7, t⟩ := L8 hj
   refine ⟨by rw [e]; show j / 7 < 200; omega, by rw [e]; show j % 7 < 52; omega, by rw [e]; exact A31 hk hg ht h0, fun m hm => ?_⟩
   subst hm
   have e' : (((bk1 t (n + 1)).getD 0 ps0).cs.getD m pc0) = ⟨m / 7, m % 7, t⟩ := L8 (by omega)
   rw [e, e']
   exact ahead (Nat.lt_succ_self m)
theorem encE (hk : Kn W0) (hg : hGr W0 G) {t : Bz} (ht : lit t) (h0 : t ≠ []) {n : Nat} (hn : n < 60) : cP W0 8 [bkV (bk1 t (n + 1))] [] (.tup [.str (Js (Ej (bk1 t (n + 1)))), .int .i64 0]) [] := by
 obtain ⟨a1, a2⟩ := Xf (t := t) n
 have hlen : ∀ x ∈ Ax (bk1 t (n + 1)), x.length ≤ 200 ∧ x ≠ [] := fun x hx => by
  rcases a2 x hx with rfl | rfl
  · exact ⟨by decide, by simp⟩
  · exact ⟨ht.2.1, h0⟩
 refine encP hg (A2v hk hg ht h0 (by omega)) (fileE hg (show 0 < 1 by decide) ?_ ?_ ?_ (fun i hi => ?_) (fun i hi j hj => ?_))
 · rw [Zs]; simp; omega
 · have := Q1 a1 (fun x hx => (hlen x hx).1); omega
 · rw [K3]; omega
 · rw [List.getD_eq_getElem?_getD, gGe hi]
   exact (hlen _ (List.getElem_mem hi)).2
 · obtain rfl : i = 0 := by have : i < 1 := hi; omega
   have hj : j < (Ei t (n + 1)).length := hj
   rw [F9] at hj
   have e : (((bk1 t (n + 1)).getD 0 ps0).cs.getD j pc0) = ⟨j / 7, j % 7, t⟩ := L8 hj
   rw [e]
   exact ⟨by show j / 7 < _; omega, by show j % 7 < _; omega⟩
theorem setQ (hk : Kn W0) (hg : hGr W0 G) {t : Bz} {i : Nat} (ht : lit t) (h0 : t ≠ []) (h1 : 1 ≤ i) (hi : i < 60) : cP W0 7 [bkV (bk1 t i), .agg [.int .i64 0, .int .i64 ((i / 7 : Nat) : Int), .int .i64 ((i % 7 : Nat) : Int)], .str t] [] (.tup [bkV (bk1 t (i + 1)), .int .i64 0]) [] := by
 obtain ⟨n, rfl⟩ : ∃ n, i = n + 1 := ⟨i - 1, by omega⟩
 have hck := A2v hk hg ht h0 (n := n) (by omega)
 have hlen : (Ei t (n + 1)).length = n + 1 := F9
 have hat : ∀ h, h < n + 1 → Vp ((Ei t (n + 1)).getD h pc0) ⟨(n + 1) / 7, (n + 1) % 7, []⟩ = -1 := fun h hh => by
  rw [L8 hh]
  exact Zh (ahead hh)
 have e : bk1 t (n + 1 + 1) = [⟨[83], Ei t (n + 1) ++ [⟨(n + 1) / 7, (n + 1) % 7, t⟩]⟩] := by rw [bk1, W5]
 rw [e]
 unfold bk1 at hck ⊢
 cases hc : Ei t (n + 1) with
 | nil => exact absurd hc A0l
 | cons c0 cs =>
   rw [hc] at hck hlen hat
   exact setP hk hg (nm := [83]) (by omega) (by omega) ht h0 (by omega) (fun h hh => hat h (by omega)) hck
def VF3 : AFn := ⟨(sQ [wV 3 (.box 28 1), wV 4 (.move (.val (.bool false)))] (sQ [wV 17 (kF 4 []), wM 5 17] (sQ [wM 18 0, wV 19 (kF 5 [18, (vI 50)]), wV 20 (.bin .add none (vI 1) 19), wM 6 20] (sQ [wV 21 (.fieldAddr 10 3), wV 22 (.load 5 true 21), wV 23 (kF 6 [22]), wM 7 23] (sQ [wM 24 7, wV 25 (.build z8L [(2, 1, 24)]), wV 26 (.bslice 33 3 1 z8L [(0, 3, 25)]), wV 27 (.build Qf [(0, 1, (.val (.str [83]))), (1, 1, 26)]), wV 28 (.bslice 36 2 1 Qf [(0, 2, 27)]), wV 29 (.build z4L [(0, 1, 28)]), wV 8 (.alloc 42 z4L), wN (.store 4 8 29)] (sQ [wV 30 (.load 4 true 8), wV 9 (.alloc 42 z4L), wN (.store 4 9 30)] (.seq (sQ [wV 10 (.move (vI 1))] (.block 0 (.loop (.seq (sQ [wM 31 10, wM 32 6, wV 33 (.bin .lss none 31 32)] (.cond 33 .skip (.exit 0))) (.seq (.block 1 (sQ [wV 37 (.load 4 true 9), wM 38 10, wV 39 (.bin .quo none 38 (vI 7)), wM 40 10, wV 41 (.bin .rem none 40 (vI 7)), wV 42 (.build z3L [(1, 1, 39), (2, 1, 41)]), wM 43 7, wV 44 (kF 7 [37, 42, 43]), wM 36 44, wV 45 (.extract 36 0), wV 46 (.extract 36 1), wV 11 (.alloc 42 z4L), wN (.store 4 11 45), wM 12 46] (.seq (sQ [wM 47 12, wV 48 (.bin .neq none 47 (vI 0))] (.cond 48 (sQ [wV 4 (.move (.val (.bool false)))] .ret) .skip)) (.ops [wV 49 (.load 4 true 11), wN (.store 4 9 49)])))) (.ops [wM 34 10, wV 35 (.bin .add none 34 (vI 1)), wM 10 35])))))) (sQ [wV 51 (.load 4 true 8), wV 52 (kF 8 [51]), wM 50 52, wV 53 (.extract 50 0), wV 54 (.extract 50 1), wM 13 53, wM 14 54] (sQ [wV 56 (.load 4 true 9), wV 57 (kF 8 [56]), wM 55 57, wV 58 (.extract 55 0), wV 59 (.extract 55 1), wM 15 58, wM 16 59] (sQ [wM 60 5, wM 61 60, wT 62 61 (.move 14), wT 63 61 (.bin .eql none 62 (vI 0)), wV 64 (.pick 61 63 (.val (.bool false))), wM 65 64, wT 66 65 (.move 16), wT 67 65 (.bin .eql none 66 (vI 0)), wV 68 (.pick 65 67 (.val (.bool false))), wM 69 68, wT 70 69 (.move 15), wT 71 69 (.len true 70), wT 72 69 (.move 13), wT 73 69 (.len true 72), wT 74 69 (.move 6), wT 75 69 (.bin .sub none 74 (vI 1)), wT 76 69 (.bin .mul none (vI 4) 75), wT 77 69 (.bin .add none 73 76), wT 78 69 (.bin .eql none 71 77), wV 79 (.pick 69 78 (.val (.bool false))), wM 4 79] .ret)))))))))), [4], 80⟩
theorem VG3 : Ab Tryz.prog 3 = some VF3 := by kernel_rfl
theorem q7 {i : Nat} (h : i < 1000) : AVal.int .i64 (IntKind.i64.wrap (((i : Nat) : Int).tdiv 7)) = .int .i64 ((i / 7 : Nat) : Int) := by
 have : ((i : Nat) : Int).tdiv 7 = ((i / 7 : Nat) : Int) := by
  rw [Int.tdiv_eq_ediv_of_nonneg (by omega)]; omega
 rw [this]; exact B8 (by omega) (by omega) rfl
theorem r7 {i : Nat} (h : i < 1000) : AVal.int .i64 (((i : Nat) : Int).tmod 7) = .int .i64 ((i % 7 : Nat) : Int) := by
 have : ((i : Nat) : Int).tmod 7 = ((i % 7 : Nat) : Int) := by
  rw [Int.tmod_eq_emod_of_nonneg (by omega)]; omega
 rw [this]
theorem Rk {t : Bz} (ht : lit t) (h0 : t ≠ []) : (Js (Ej (bk1 t 1))).length ≤ 1000000 := by
 have a1 := (Xf (t := t) 0)
 have hd : (Ha (Ax (bk1 t 1))).length ≤ 1000 := Q1 a1.1 (fun x hx => by
  rcases a1.2 x hx with rfl | rfl
  · show 1 ≤ 200; decide
  · exact ht.2.1)
 simp only [Js, lAp, Dw, O4, Ej, K3, lNi, Ao, E6, lCo]
 omega
theorem encE1 (hk : Kn W0) (hg : hGr W0 G) {t : Bz} (ht : lit t) (h0 : t ≠ []) : cP W0 8 [bkV (bk1 t 1)] [] (.tup [.str (Js (Ej (bk1 t 1))), .int .i64 0]) [] := encE hk hg ht h0 (n := 0) (by omega)
theorem hB2 {t : Bz} (k : Nat) : B2 2 [A2.cells 42 [.row 2 ((bk1 t 1).map psV), .nilSl, .nilSl, .nilSl] false, A2.cells 42 [.row 2 ((bk1 t k).map psV), .nilSl, .nilSl, .nilSl] false] = true := by
 show cond (cond (A8 2 ((bk1 t 1).map psV)) true false) (cond (cond (A8 2 ((bk1 t k).map psV)) true false) true false) false = true
 rw [Ai, Ai]; rfl
theorem packTexts (hk : Kn W0) (hg : hGr W0 G) {a0 a1 a2 a3 a4 a5 a6 a7 a8 a9 m K M E : Int} {s : Bz} {b : Bool} (hm1 : -9223372036854775808 ≤ m) (hm2 : m ≤ 9223372036854775807) (hK : i64 K) (hM : i64 M) (hE : i64 E) (hs : s.length ≤ 150000000000000) :
 cP W0 3 [.int .i64 m, .agg [.int .i64 a0, .int .i64 a1, .int .i64 a2, .int .i64 a3, .int .i64 a4, .int .i64 a5, .int .i64 a6, .int .i64 a7, .int .i64 a8, .int .i64 a9, .int .i64 K, .int .i64 M, .int .i64 E, .str s, .bool b]] [] (.bool true) [] := by
 have hpk : ∀ {H : Hz}, cP W0 5 [.int .i64 m, .int .i64 50] H (.int .i64 (Ds m 50 : Nat)) H := fun {H} => pickC5 hg (n := 50) hm1 hm2 (by decide) H
 have hn50 : Ds m 50 < 50 := Kx (by decide)
 generalize Ds m 50 = n at hpk hn50
 refine oF VG3 ?_
 refine sO (mV (v := .ptr 0 0) rfl (x1 rfl (sO (Fg hg gN (c := true) rfl rfl (A1.pure rfl rfl (awakeP hk hg) _) rfl (x1 rfl (sO (mV rfl (mC rfl hpk (mI ((n + 1 : Nat) : Int) rfl (x1 rfl (sO (mV (v := .ptr 0 10) rfl (mV (v := .agg [.int .i64 K, .int .i64 M, .int .i64 E, .str s, .bool b]) rfl ?_)))))))))))))
 refine Bd hg gN rfl rfl rfl (A1n hk hK hM hE hs) ?_ ?_
 · rintro _ ⟨t, rfl, ht, h0⟩; rfl
 rintro _ ⟨t, rfl, ht, h0⟩
 refine x1 rfl (sO (m2 rfl rfl (mV (v := .hsl 3 1 0 1 (some 1)) rfl (mV rfl (mV (v := .hsl 2 2 0 1 (some 1)) rfl (mV rfl ?_))))))
 refine mFz (s1 := ⟨.al [(5, .bool true), (6, .int .i64 ((n + 1 : Nat) : Int)), (7, .str t), (29, bkV (bk1 t 1))], [], 80⟩) (Ae 0 rfl (Nat.zero_le _) rfl rfl (fB (fI (fS (fzC rfl (.inl ⟨30, rfl⟩) fzN))))) ?_
 refine mV (v := .ptr 0 0) rfl (A6 hg gN rfl (mn (sO (mV (v := bkV (bk1 t 1)) rfl (mV (v := .ptr 1 0) rfl (A6 hg gN rfl (mn (sq (sO (x1 rfl (bM ?_)))))))))))
 refine ExM.loopJ (σ := Nat) (τ := Unit) (fun i => ⟨.al [(5, .bool true), (6, .int .i64 ((n + 1 : Nat) : Int)), (7, .str t), (8, .ptr 0 0), (9, .ptr 1 0), (10, .int .i64 ((i : Nat) : Int))], [A2.cells 42 [.row 2 ((bk1 t 1).map psV), .nilSl, .nilSl, .nilSl] false, A2.cells 42 [.row 2 ((bk1 t i).map psV), .nilSl, .nilSl, .nilSl] false], 80⟩) (fun i => 1 ≤ i ∧ i ≤ n + 1) (fun i => n + 1 - i) 1 0 (fun _ => ⟨.al [(5, .bool true), (6, .int .i64 ((n + 1 : Nat) : Int)), (7, .str t), (8, .ptr 0 0), (9, .ptr 1 0), (10, .int .i64 (((n + 1) : Nat) : Int))], [A2.cells 42 [.row 2 ((bk1 t 1).map psV), .nilSl, .nilSl, .nilSl] false, A2.cells 42 [.row 2 ((bk1 t (n + 1)).map psV), .nilSl, .nilSl, .nilSl] false], 80⟩) (fun _ => True) (Ac rfl rfl (sb4 rfl rfl rfl rfl (((( sbC rfl (sbC rfl (sbN)))))))) ⟨Nat.le_refl 1, by omega⟩ ?_ ?_
 · rintro i ⟨hi1, hi⟩
   by_cases hlt : i < n + 1
   · refine sq (sO (m2 rfl rfl (mT rfl (mn (cT rfl (kM (sq (bM (sO (mV (v := bkV (bk1 t i)) rfl (mV rfl (mKs (v := .int .i64 ((i / 7 : Nat) : Int)) rfl (q7 (by omega)) (mV rfl (mKs (v := .int .i64 ((i % 7 : Nat) : Int)) rfl (r7 (by omega)) (m2 rfl rfl (mC rfl (A1.pure (by show cond (blw 0 (bkV _)) true false = true; rw [Jj]; rfl) (by show cond (blw 0 (bkV _)) true false = true; rw [Jj]; rfl) (setQ hk hg ht h0 hi1 (by omega)) _) (m3 rfl rfl rfl (mV (v := .ptr 2 0) rfl (A6 hg gN rfl (x1 rfl (sq (sO (mV rfl (mBk hg gN (c := false) rfl rfl rfl (mn (cF rfl (kM (oM (mV (v := bkV (bk1 t (i + 1))) rfl (A6 hg gN rfl (mn (oM (mV rfl ?_)))))))))))))))))))))))))))))))))
     refine mFz (s1 := ⟨.al [(5, .bool true), (6, .int .i64 ((n + 1 : Nat) : Int)), (7, .str t), (8, .ptr 0 0), (9, .ptr 1 0), (10, .int .i64 ((i : Nat) : Int)), (34, .int .i64 ((i : Nat) : Int))], [A2.cells 42 [.row 2 ((bk1 t 1).map psV), .nilSl, .nilSl, .nilSl] false, A2.cells 42 [.row 2 ((bk1 t (i + 1)).map psV), .nilSl, .nilSl, .nilSl] false], 80⟩) (Ae 2 rfl (Nat.zero_le _) rfl (hB2 _) (fB (fI (fS (fzC rfl (Gg (by decide)) (fzC rfl (Gg (by decide)) (fI (fI fzN)))))))) ?_
     refine mI ((i + 1 : Nat) : Int) rfl (x1 rfl ?_)
     exact ⟨(i + 1), ⟨by omega, by omega⟩, (by show n + 1 - (i + 1) < n + 1 - i; omega), Ac rfl rfl (sb4 rfl rfl rfl rfl (((( sbC rfl (sbC rfl (sbN)))))))⟩
   · obtain rfl : i = n + 1 := by omega
     refine sq (sO (m2 rfl rfl (mF rfl (mn (cF rfl ?_)))))
     exact ExM.exit (.inl ⟨rfl, (), trivial, Ac rfl rfl (sb4 rfl rfl rfl rfl (((( sbC rfl (sbC rfl (sbN)))))))⟩)
 · rintro _ s' hJ hs
   refine ExM.sub hs ?_
   refine sO (mV (v := bkV (bk1 t 1)) rfl (mC rfl (A1.pure (by show cond (blw 0 (bkV _)) true false = true; rw [Jj]; rfl) rfl (encE1 hk hg ht h0) _) (mV rfl (x4 rfl rfl rfl rfl (sO (mV (v := bkV (bk1 t (n + 1))) rfl (mC rfl (A1.pure (by show cond (blw 0 (bkV _)) true false = true; rw [Jj]; rfl) rfl (encE hk hg ht h0 (n := n) (by omega)) _) (mV rfl (x4 rfl rfl rfl rfl (sO (mV rfl (mBk hg gN (c := true) rfl rfl rfl (mV rfl (mBk hg (gS rfl) (c := true) rfl rfl rfl (mBk hg gN (c := true) rfl rfl rfl (mBk hg gN (c := true) rfl rfl rfl (mV rfl (mBk hg (gS rfl) (c := true) rfl rfl rfl (mBk hg gN (c := true) rfl rfl rfl (mBk hg gN (c := true) rfl rfl rfl (mV rfl (m4 rfl rfl rfl rfl (mI ((n : Nat) : Int) rfl (mI ((4 * n : Nat) : Int) rfl (mKs (v := .int .i64 (((Js (Ej (bk1 t 1))).length + 4 * n : Nat) : Int)) rfl (B8 (by have := Rk ht h0; omega) (by have := Rk ht h0; omega) (by omega)) (mBk hg (gS rfl) (c := true) rfl rfl (by show ((((Js (Ej (bk1 t (n + 1)))).length : Nat) : Int) == (((Js (Ej (bk1 t 1))).length + 4 * n : Nat) : Int)) = true; rw [A3k n]; exact beq_self_eq_true _) (mBk hg gN (c := true) rfl rfl rfl (x1 rfl ?_))))))))))))))))))))))))))))
   exact ExM.ret (pL)
end Go.Abs
