/- A part of the proof that tabula/tabulalaw17.ShiftElse returns true for every input, each argument reading as it did (its card: the last text). No conditions of its own. -/
import Derived.Test.YtanjcjdiabfggaaGreatDoorPC
import Derived.Shelf.Strings.MapGrows
import Derived.Shelf.Unicode.DecodeSlow
import Derived.Lib.Join
import Derived.Sort.Grow
import Derived.Test.YtanjcjdiabfggaaGreatDoorProg
namespace Go.Abs
def Dig (a : List Nat) : Prop := ∀ d ∈ a, d < 10
def Trd (a : List Nat) : Prop := ∀ n, a.length = n + 1 → a.getD n 0 ≠ 0
def Dc (a : List Nat) : Nat → Nat
 | 0 => 0
 | n + 1 => Dc a n + a.getD n 0 * 10 ^ n
def val (a : List Nat) : Nat := Dc a a.length
theorem Dig.get {a : List Nat} (h : Dig a) (i : Nat) : a.getD i 0 < 10 := by
 by_cases hi : i < a.length
 · rw [List.getD_eq_getElem?_getD, gGe hi]
   exact h _ (List.getElem_mem hi)
 · rw [List.getD_eq_getElem?_getD, List.getElem?_eq_none (by omega)]
   decide
theorem Dig.nil : Dig [] := fun _ h => by cases h
theorem Dig.cons {a : List Nat} {d : Nat} (hd : d < 10) (h : Dig a) : Dig (d :: a) := fun x hx => by
 rcases List.mem_cons.1 hx with rfl | hx
 · exact hd
 · exact h x hx
theorem Dig.snoc {a : List Nat} {d : Nat} (hd : d < 10) (h : Dig a) : Dig (a ++ [d]) := fun x hx => by
 rcases List.mem_append.1 hx with hx | hx
 · exact h x hx
 · rw [List.mem_singleton.1 hx]; exact hd
theorem Dig.app {a b : List Nat} (ha : Dig a) (hb : Dig b) : Dig (a ++ b) := fun x hx => by
 rcases List.mem_append.1 hx with hx | hx
 · exact ha x hx
 · exact hb x hx
theorem Dig.take {a : List Nat} (h : Dig a) (n : Nat) : Dig (a.take n) := fun x hx => h x (List.mem_of_mem_take hx)
theorem Dig.zeros (n : Nat) : Dig (List.replicate n 0) := fun x hx => by rw [(List.mem_replicate.1 hx).2]; decide
theorem Iz {a : List Nat} (h : Dig a) : ∀ n, Dc a n < 10 ^ n
 | 0 => by simp [Dc]
 | n + 1 => by
   have h1 := Iz h n
   have h2 := h.get n
   have h3 : a.getD n 0 * 10 ^ n ≤ 9 * 10 ^ n := Nat.mul_le_mul_right _ (by omega)
   simp only [Dc]
   rw [Nat.pow_succ]
   omega
theorem Lr {a : List Nat} {n : Nat} (h : a.length ≤ n) : a.getD n 0 = 0 := by
 rw [List.getD_eq_getElem?_getD, List.getElem?_eq_none h]; rfl
theorem Qy {a : List Nat} : ∀ {n : Nat}, a.length ≤ n → Dc a n = val a
 | n, h => by
   induction n with
   | zero => have : a.length = 0 := by omega
             simp [val, this]
   | succ n ih =>
     by_cases hl : a.length = n + 1
     · rw [val, hl]
     · simp only [Dc]
       rw [ih (by omega), Lr (by omega)]
       simp
theorem L7 {a b : List Nat} : ∀ {n : Nat}, (∀ i, i < n → a.getD i 0 = b.getD i 0) → Dc a n = Dc b n
 | 0, _ => rfl
 | n + 1, h => by
   simp only [Dc]
   rw [L7 (n := n) (fun i hi => h i (by omega)), h n (by omega)]
theorem Rw (x : Nat) (a : List Nat) : ∀ n, Dc (x :: a) (n + 1) = x + 10 * Dc a n
 | 0 => by simp [Dc]
 | n + 1 => by
   have ih := Rw x a n
   have h1 : Dc (x :: a) (n + 1 + 1) = Dc (x :: a) (n + 1) + (x :: a).getD (n + 1) 0 * 10 ^ (n + 1) := rfl
   have h2 : (x :: a).getD (n + 1) 0 = a.getD n 0 := rfl
   have h3 : Dc a (n + 1) = Dc a n + a.getD n 0 * 10 ^ n := rfl
   have h4 : a.getD n 0 * 10 ^ (n + 1) = 10 * (a.getD n 0 * 10 ^ n) := by rw [Nat.pow_succ, Nat.mul_comm (10 ^ n) 10, ← Nat.mul_assoc, Nat.mul_comm _ 10, Nat.mul_assoc]
   rw [h1, ih, h2, h3, h4, Nat.mul_add, Nat.add_assoc]
theorem G5 (x : Nat) (a : List Nat) : val (x :: a) = x + 10 * val a := by
 rw [val, lCo, Rw]; rfl
theorem Ul {a : List Nat} {n : Nat} (h : Trd a) (hn : a.length = n + 1) : 10 ^ n ≤ val a := by
 have h1 := h n hn
 rw [val, hn]
 simp only [Dc]
 have : 1 * 10 ^ n ≤ a.getD n 0 * 10 ^ n := Nat.mul_le_mul_right _ (by omega)
 omega
theorem val_pos {a : List Nat} (h : Trd a) (hn : 0 < a.length) : 0 < val a := by
 obtain ⟨n, hn⟩ : ∃ n, a.length = n + 1 := ⟨a.length - 1, by omega⟩
 have := Ul h hn
 have h2 : 0 < 10 ^ n := Nat.pow_pos (by decide)
 omega
def Gy (a : List Nat) : Nat → Nat
 | 0 => 0
 | n + 1 => if a.getD n 0 = 0 then Gy a n else n + 1
def If (a : List Nat) : List Nat := a.take (Gy a a.length)
theorem X2 (a : List Nat) : ∀ n, Gy a n ≤ n
 | 0 => Nat.le_refl _
 | n + 1 => by
   simp only [Gy]
   split
   · exact Nat.le_succ_of_le (X2 a n)
   · exact Nat.le_refl _
theorem S3 (a : List Nat) : ∀ n, Dc a (Gy a n) = Dc a n
 | 0 => rfl
 | n + 1 => by
   simp only [Gy]
   split
   · rename_i h; rw [S3 a n]; simp only [Dc, h]; simp
   · rfl
theorem Wm (a : List Nat) : ∀ n k, Gy a n = k + 1 → a.getD k 0 ≠ 0
 | 0, k, h => by cases h
 | n + 1, k, h => by
   simp only [Gy] at h
   split at h
   · exact Wm a n k h
   · rename_i h0
     have : n = k := by omega
     subst this; exact h0
theorem Sz {a : List Nat} {n i : Nat} (h : i < n) : (a.take n).getD i 0 = a.getD i 0 := by
 rw [List.getD_eq_getElem?_getD, List.getD_eq_getElem?_getD, List.getElem?_take_of_lt h]
theorem M8 (a : List Nat) : (If a).length = Gy a a.length := by
 have := X2 a a.length
 rw [If, List.length_take]; omega
theorem A12 (a : List Nat) : val (If a) = val a := by
 have h1 := S3 a a.length
 have h2 : val (If a) = Dc (If a) (Gy a a.length) := by rw [val, M8]
 rw [h2, val, ← h1]
 exact L7 fun i hi => Sz hi
theorem A2c (a : List Nat) : Trd (If a) := fun n hn => by
 rw [M8] at hn
 have h := Wm a _ _ hn
 rw [If, hn, Sz (by omega)]
 exact h
theorem Zx {a : List Nat} (h : Dig a) : Dig (If a) := h.take _
def Nk (a b : List Nat) : Nat → Bool
 | 0 => false
 | n + 1 => if a.getD n 0 = b.getD n 0 then Nk a b n else decide (a.getD n 0 < b.getD n 0)
def Q8 (a b : List Nat) : Bool := if a.length = b.length then Nk a b a.length else decide (a.length < b.length)
theorem S9 {a b : List Nat} (ha : Dig a) (hb : Dig b) : ∀ n, Nk a b n = decide (Dc a n < Dc b n)
 | 0 => by simp [Nk, Dc]
 | n + 1 => by
   have ih := S9 ha hb n
   have h1 := Iz ha n
   have h2 := Iz hb n
   simp only [Nk, Dc]
   split
   · rename_i h
     rw [ih]
     refine decide_eq_decide.2 ?_
     rw [h]; omega
   · rename_i h
     refine decide_eq_decide.2 ?_
     constructor
     · intro hlt
       have : (a.getD n 0 + 1) * 10 ^ n ≤ b.getD n 0 * 10 ^ n := Nat.mul_le_mul_right _ hlt
       rw [Nat.add_mul] at this
       omega
     · intro hlt
       by_cases hc : a.getD n 0 < b.getD n 0
       · exact hc
       · have : (b.getD n 0 + 1) * 10 ^ n ≤ a.getD n 0 * 10 ^ n := Nat.mul_le_mul_right _ (by omega)
         rw [Nat.add_mul] at this
         omega
theorem A0o {a b : List Nat} (ha : Dig a) (hb : Dig b) (ta : Trd a) (tb : Trd b) : Q8 a b = decide (val a < val b) := by
 unfold Q8
 split
 · rename_i h
   rw [S9 ha hb]
   refine decide_eq_decide.2 ?_
   rw [val, val, ← h]
 · rename_i h
   refine decide_eq_decide.2 ?_
   have key : ∀ {a b : List Nat}, Dig a → Trd b → a.length < b.length → val a < val b := by
    intro a b ha tb hlt
    obtain ⟨n, hn⟩ : ∃ n, b.length = n + 1 := ⟨b.length - 1, by omega⟩
    have h1 := Ul tb hn
    have h2 := Iz ha a.length
    have h3 : 10 ^ a.length ≤ 10 ^ n := Nat.pow_le_pow_right (by decide) (by omega)
    have h4 : val a = Dc a a.length := rfl
    omega
   constructor
   · exact key ha tb
   · intro hv
     by_cases hc : a.length < b.length
     · exact hc
     · have := key hb ta (by omega)
       omega
structure G8 (a b out : List Nat) (i c : Nat) : Prop where
 len : out.length = i
 dig : Dig out
 hc : c ≤ 1
 v : Dc a i + c * 10 ^ i = val out + Dc b i
theorem R4 (out : List Nat) (d : Nat) : val (out ++ [d]) = val out + d * 10 ^ out.length := by
 rw [val, lAp, List.length_singleton]
 have h1 : Dc (out ++ [d]) (out.length + 1) = Dc (out ++ [d]) out.length + (out ++ [d]).getD out.length 0 * 10 ^ out.length := rfl
 rw [h1]
 have h2 : (out ++ [d]).getD out.length 0 = d := by
  rw [List.getD_eq_getElem?_getD, List.getElem?_append_right (Nat.le_refl _)]; simp
 have h3 : Dc (out ++ [d]) out.length = Dc out out.length := L7 fun i hi => by
  rw [List.getD_eq_getElem?_getD, List.getD_eq_getElem?_getD, List.getElem?_append_left hi]
 rw [h2, h3]; rfl
theorem G8.zero (a b : List Nat) : G8 a b [] 0 0 := ⟨rfl, Dig.nil, by decide, by simp [Dc, val]⟩
theorem G8.step0 {a b out : List Nat} {i c d : Nat} (h : G8 a b out i c) (hd : d < 10) (he : a.getD i 0 = d + b.getD i 0 + c) : G8 a b (out ++ [d]) (i + 1) 0 := by
 obtain ⟨h1, h2, h3, h4⟩ := h
 refine ⟨by simp [h1], h2.snoc hd, by decide, ?_⟩
 rw [R4, h1]
 simp only [Dc]
 rw [he, Nat.add_mul, Nat.add_mul]
 omega
theorem G8.step1 {a b out : List Nat} {i c d : Nat} (h : G8 a b out i c) (hd : d < 10) (he : a.getD i 0 + 10 = d + b.getD i 0 + c) : G8 a b (out ++ [d]) (i + 1) 1 := by
 obtain ⟨h1, h2, h3, h4⟩ := h
 refine ⟨by simp [h1], h2.snoc hd, by decide, ?_⟩
 rw [R4, h1]
 simp only [Dc]
 have : a.getD i 0 * 10 ^ i + 10 * 10 ^ i = (d + b.getD i 0 + c) * 10 ^ i := by rw [← Nat.add_mul, he]
 rw [Nat.add_mul, Nat.add_mul] at this
 rw [Nat.pow_succ]
 omega
theorem G8.fin {a b out : List Nat} {c : Nat} (h : G8 a b out a.length c) (ha : Dig a) (_ : Dig b) (tb : Trd b) (hv : val b ≤ val a) : val out + val b = val a := by
 obtain ⟨h1, h2, h3, h4⟩ := h
 have hl : b.length ≤ a.length := by
  apply Classical.byContradiction
  intro hc
  obtain ⟨n, hn⟩ : ∃ n, b.length = n + 1 := ⟨b.length - 1, by omega⟩
  have k1 := Ul tb hn
  have k2 := Iz ha a.length
  have k3 : 10 ^ a.length ≤ 10 ^ n := Nat.pow_le_pow_right (by decide) (by omega)
  have k4 : val a = Dc a a.length := rfl
  omega
 rw [Qy hl] at h4
 have k1 : Dc a a.length = val a := rfl
 have k2 := Iz h2 out.length
 have k3 : val out = Dc out out.length := rfl
 rw [h1] at k2 k3
 rw [k1] at h4
 have hc : c = 0 := by
  apply Classical.byContradiction
  intro hc
  have : c = 1 := by omega
  subst this
  omega
 subst hc
 omega
def D6 (n : Nat) : List Nat := if n = 0 then [] else n % 10 :: D6 (n / 10)
 decreasing_by omega
theorem E4 : D6 0 = [] := by rw [D6]; rfl
theorem H7 {n : Nat} (h : n ≠ 0) : D6 n = n % 10 :: D6 (n / 10) := by rw [D6, if_neg h]
theorem D5 (n : Nat) : val (D6 n) = n := by
 induction n using Nat.strongRecOn with
 | _ n ih =>
   by_cases h : n = 0
   · subst h; rw [E4]; rfl
   · rw [H7 h, G5, ih (n / 10) (by omega)]; omega
theorem Eu (n : Nat) : Dig (D6 n) := by
 induction n using Nat.strongRecOn with
 | _ n ih =>
   by_cases h : n = 0
   · subst h; rw [E4]; exact Dig.nil
   · rw [H7 h]; exact Dig.cons (Nat.mod_lt _ (by decide)) (ih (n / 10) (by omega))
theorem Ws {n : Nat} (h : D6 n = []) : n = 0 := by
 have := D5 n
 rw [h] at this
 exact this.symm
theorem Pz {n : Nat} (h : n ≠ 0) : (D6 n).length ≠ 0 := fun e => h (Ws (List.length_eq_zero_iff.1 e))
theorem Jp (n : Nat) : Trd (D6 n) := by
 induction n using Nat.strongRecOn with
 | _ n ih =>
   intro k hk
   by_cases h : n = 0
   · subst h; rw [E4] at hk; cases hk
   · rw [H7 h] at hk ⊢
     by_cases h1 : n / 10 = 0
     · rw [h1, E4] at hk ⊢
       have : k = 0 := by simpa using hk.symm
       subst this
       show n % 10 ≠ 0
       omega
     · have hne := Pz h1
       rw [lCo] at hk
       obtain ⟨j, hj⟩ : ∃ j, k = j + 1 := ⟨k - 1, by omega⟩
       subst hj
       exact ih (n / 10) (by omega) j (by omega)
theorem Trd.tail {d : Nat} {l : List Nat} (h : Trd (d :: l)) : Trd l := fun n hn => by
 have := h (n + 1) (by rw [lCo, hn])
 exact this
theorem Nw : ∀ {l : List Nat}, Dig l → Trd l → D6 (val l) = l
 | [], _, _ => E4
 | d :: l, hd, ht => by
   have ih := Nw (l := l) (fun x hx => hd x (List.mem_cons_of_mem _ hx)) ht.tail
   have hd0 : d < 10 := hd d (by simp)
   rw [G5]
   have hne : d + 10 * val l ≠ 0 := by
    intro h0
    have h1 : d = 0 := by omega
    have h2 : val l = 0 := by omega
    by_cases hl : l.length = 0
    · have := List.length_eq_zero_iff.1 hl
      subst this
      exact ht 0 rfl h1
    · have := val_pos ht.tail (by omega)
      omega
   rw [H7 hne, show (d + 10 * val l) % 10 = d by omega, show (d + 10 * val l) / 10 = val l by omega, ih]
theorem Jf {l : List Nat} (h : Dig l) : If l = D6 (val l) := by
 rw [← A12 l, Nw (Zx h) (A2c l)]
theorem E1 {n k : Nat} (h : n < 10 ^ k) : (D6 n).length ≤ k := by
 apply Classical.byContradiction
 intro hc
 obtain ⟨j, hj⟩ : ∃ j, (D6 n).length = j + 1 := ⟨(D6 n).length - 1, by omega⟩
 have h1 := Ul (Jp n) hj
 rw [D5] at h1
 have h2 : 10 ^ k ≤ 10 ^ j := Nat.pow_le_pow_right (by decide) (by omega)
 omega
theorem A02 (n : Nat) : (D6 n).getD 0 0 = n % 10 := by
 by_cases h : n = 0
 · subst h; rw [E4]; rfl
 · rw [H7 h]; rfl
theorem less_dN (x y : Nat) : Q8 (D6 x) (D6 y) = decide (x < y) := by
 rw [A0o (Eu x) (Eu y) (Jp x) (Jp y)]
 refine decide_eq_decide.2 ?_
 rw [D5, D5]
theorem A19 (n : Nat) (l : List Nat) : val (List.replicate n 0 ++ l) = val l * 10 ^ n := by
 induction n with
 | zero => simp
 | succ n ih =>
   rw [List.replicate_succ, List.cons_append, G5, ih, Nat.pow_succ, Nat.zero_add, Nat.mul_comm 10, Nat.mul_assoc]
theorem Trd.zeros {l : List Nat} (h : Trd l) (hl : l.length ≠ 0) (n : Nat) : Trd (List.replicate n 0 ++ l) := fun k hk => by
 rw [lAp, List.length_replicate] at hk
 rw [List.getD_eq_getElem?_getD, List.getElem?_append_right (by simp; omega), List.length_replicate, ← List.getD_eq_getElem?_getD]
 exact h (k - n) (by omega)
theorem ten_dN {x : Nat} (hx : x ≠ 0) (n : Nat) : List.replicate n 0 ++ D6 x = D6 (x * 10 ^ n) := by
 rw [← Nw ((Dig.zeros n).app (Eu x)) ((Jp x).zeros (Pz hx) n), A19, D5]
structure Np (a b out : List Nat) (i c : Nat) : Prop where
 len : out.length = i
 dig : Dig out
 hc : c ≤ 1
 v : val out + c * 10 ^ i = Dc a i + Dc b i
 e : i ≤ max a.length b.length ∨ (i = max a.length b.length + 1 ∧ c = 0)
theorem Np.zero (a b : List Nat) : Np a b [] 0 0 := ⟨rfl, Dig.nil, by decide, by simp [Dc, val], .inl (Nat.zero_le _)⟩
theorem Np.step {a b out : List Nat} {i c : Nat} (h : Np a b out i c) (ha : Dig a) (hb : Dig b) (hi : i < a.length ∨ i < b.length ∨ 0 < c) : Np a b (out ++ [(a.getD i 0 + b.getD i 0 + c) % 10]) (i + 1) ((a.getD i 0 + b.getD i 0 + c) / 10) := by
 obtain ⟨h1, h2, h3, h4, h5⟩ := h
 have k1 := ha.get i
 have k2 := hb.get i
 refine ⟨by simp [h1], h2.snoc (Nat.mod_lt _ (by decide)), by omega, ?_, ?_⟩
 · rw [R4, h1]
   simp only [Dc]
   have hm := Nat.div_add_mod (a.getD i 0 + b.getD i 0 + c) 10
   generalize (a.getD i 0 + b.getD i 0 + c) / 10 = q at *
   generalize (a.getD i 0 + b.getD i 0 + c) % 10 = m at *
   have : (10 * q + m) * 10 ^ i = (a.getD i 0 + b.getD i 0 + c) * 10 ^ i := by rw [hm]
   rw [Nat.add_mul, Nat.add_mul, Nat.add_mul] at this
   rw [Nat.pow_succ, Nat.mul_comm (10 ^ i) 10, ← Nat.mul_assoc, Nat.mul_comm q 10]
   omega
 · by_cases hlt : i < max a.length b.length
   · left; omega
   · right
     have hmx : i = max a.length b.length := by omega
     refine ⟨by omega, ?_⟩
     rw [Lr (by omega), Lr (by omega)]
     omega
theorem Np.fin {a b out : List Nat} {i c : Nat} (h : Np a b out i c) (h1 : ¬ i < a.length) (h2 : ¬ i < b.length) (h3 : ¬ 0 < c) : val out = val a + val b := by
 have := h.v
 have hc : c = 0 := by omega
 rw [hc, Qy (by omega), Qy (by omega)] at this
 omega
structure ByI (a : List Nat) (y : Nat) (q : List Nat) (r k : Nat) : Prop where
 hk : k ≤ a.length
 len : q.length + k = a.length
 dig : Dig q
 hr : r < y
 v : val q * y + r = val (a.drop k)
theorem ByI.zero (a : List Nat) {y : Nat} (hy : 0 < y) : ByI a y [] 0 a.length := ⟨Nat.le_refl _, by simp, Dig.nil, hy, by simp [val, Dc]⟩
theorem Qb {a : List Nat} {k : Nat} (h : k < a.length) : a.drop k = a.getD k 0 :: a.drop (k + 1) := by
 rw [List.getD_eq_getElem?_getD, gGe h]
 exact List.drop_eq_getElem_cons h
theorem ByI.step {a : List Nat} {y : Nat} {q : List Nat} {r k d r' : Nat} (h : ByI a y q r (k + 1)) (ha : Dig a) (hr : r' < y) (hd : d * y + r' = a.getD k 0 + 10 * r) : ByI a y (d :: q) r' k ∧ d < 10 := by
 obtain ⟨h1, h2, h3, h4, h5⟩ := h
 have k1 := ha.get k
 have hd10 : d < 10 := by
  apply Classical.byContradiction
  intro hc
  have : 10 * y ≤ d * y := Nat.mul_le_mul_right _ (by omega)
  omega
 refine ⟨⟨by omega, by simp; omega, h3.cons hd10, hr, ?_⟩, hd10⟩
 rw [Qb (by omega), G5, G5, ← h5, Nat.add_mul]
 rw [Nat.mul_add, ← Nat.mul_assoc]
 omega
theorem ByI.fin {a : List Nat} {y : Nat} {q : List Nat} {r : Nat} (h : ByI a y q r 0) : val q = val a / y ∧ r = val a % y := by
 obtain ⟨h1, h2, h3, h4, h5⟩ := h
 rw [List.drop_zero] at h5
 have hy : 0 < y := by omega
 refine ⟨?_, ?_⟩
 · rw [← h5, Nat.mul_comm, Nat.mul_add_div hy, Nat.div_eq_of_lt h4, Nat.add_zero]
 · rw [← h5, Nat.mul_comm, Nat.mul_add_mod, Nat.mod_eq_of_lt h4]
end Go.Abs
namespace Go.Abs
open Go.RowKit
def Aq (P : Program) (W0 : World) (f : FuncId) (args : List AVal) (Q : AVal → Prop) : Prop :=
 Ix P f ∧ ∀ (F : Nat → Prop) (w : World) (cargs : List Value), Ac W0 F [] [] w → A9 F [] [] w args cargs →
  Calls P f cargs.toArray w fun e w' => ∃ v cv, Q v ∧ e = .returned cv ∧ Rep F [] [] w' v cv ∧ Ac W0 F [] [] w' ∧ Ext [] [] w [] [] w'
section
variable {P : Program} {W0 : World} {G : List (Nat × AVal)}
theorem Aq.of {f : FuncId} {args : List AVal} {v : AVal} (h : A3 P W0 f args [] v []) : Aq P W0 f args (fun x => x = v) := by
 refine ⟨h.1, fun F w cargs hh hr => Calls.mono (h.2 F [] w cargs hh hr) fun e w' he => ?_⟩
 obtain ⟨cv, bs', rfl, h1, h2, h3⟩ := he
 have hb : bs' = [] := List.length_eq_zero_iff.1 (by simpa using h2.len)
 subst hb
 exact ⟨v, cv, rfl, rfl, h1, h2, h3⟩
theorem Aq.mono {f : FuncId} {args : List AVal} {Q Q' : AVal → Prop} (h : Aq P W0 f args Q) (hq : ∀ v, Q v → Q' v) : Aq P W0 f args Q' :=
 ⟨h.1, fun F w cargs hh hr => Calls.mono (h.2 F w cargs hh hr) fun _ _ ⟨v, cv, k1, k2⟩ => ⟨v, cv, hq v k1, k2⟩⟩
theorem Aq.at {f : FuncId} {args : List AVal} {Q : AVal → Prop} (h : Aq P W0 f args Q) (ha : C0 0 args = true) (hq : ∀ v, Q v → blw 0 v = true) {F : Nat → Prop} {bs : List Nat} {H : Hz} {w : World} {cargs : List Value} (hh : Ac W0 F bs H w) (hr : A9 F bs H w args cargs) :
 Calls P f cargs.toArray w fun e w' => ∃ v cv, Q v ∧ e = .returned cv ∧ Rep F bs H w' v cv ∧ Ac W0 F bs H w' ∧ Ext bs H w bs H w' := by
 let F' : Nat → Prop := fun b => F b ∨ b ∈ bs
 have hh0 : Ac W0 F' [] [] w := by
  refine ⟨rfl, hh.base, fun b hb => (List.not_mem_nil hb).elim, List.nodup_nil, fun b hb => ?_, fun i o b hi => by simp at hi⟩
  rcases hb with hb | hb
  · obtain ⟨q1, q2, _⟩ := hh.forb b hb
    exact ⟨q1, q2, List.not_mem_nil⟩
  · exact ⟨(hh.low b hb).1, (hh.low b hb).2, List.not_mem_nil⟩
 have hdown : A3t F F' bs [] H [] id 0 := ⟨fun j hj => by omega, fun j hj => by omega, fun b hb => (List.not_mem_nil hb).elim, fun b hb => hb⟩
 have hr0 : A9 F' [] [] w args cargs := A9.down hdown args cargs ha (by rw [Du args ha]; exact hr)
 refine Calls.mono (h.2 F' w cargs hh0 hr0) fun e w' he => ?_
 obtain ⟨v, cv, k1, rfl, k3, k4, k5⟩ := he
 have hup : Up F F' bs [] H [] id := ⟨fun j o ho => by simp at ho, fun j b hb => by simp at hb, fun b _ hf => ⟨fun hm => hf (.inr hm), fun hF => hf (.inl hF)⟩⟩
 have hz : ∀ b, b < w.heap.size → Dp w' b = Dp w b := fun b hb' => by
  unfold Dp; rw [k5.block b hb' (by simp)]
 have hext : Ext bs H w bs H w' := by
  refine ⟨k5.size, fun k hk _ => k5.block k hk (by simp), fun k hk => .inl hk, fun i o ho => ⟨o, ho, ?_⟩⟩
  cases o with
  | dead => rfl
  | iter s p => exact .inr ⟨s, p, rfl, rfl⟩
  | cells T cs op =>
    cases op with
    | false => exact .inr ⟨T, cs, rfl, rfl, rfl⟩
    | true => exact .inr ⟨T, cs, rfl, .inr ⟨rfl, rfl, fun b hb => hz b (hh.low b (mGe hb)).2⟩⟩
 refine ⟨v, cv, k1, rfl, ?_, ?_, hext⟩
 · have := Rep.up hup v cv k3
   rw [H6 v (hq v k1)] at this
   exact this
 · exact ⟨hh.len, k4.base, fun b hb => ⟨(hh.low b hb).1, nLl (hh.low b hb).2 k5.size⟩, hh.nodup, fun b hb => by
    obtain ⟨q1, q2, q3⟩ := hh.forb b hb
    exact ⟨q1, nLl q2 k5.size, q3⟩, fun i o b hi hb => (hh.obj i o b hi hb).ext hext (k5.block b (hh.low b (mGe hb)).2 (by simp))⟩
theorem Aq.of_fnM {f : Nat} {x : AFn} (hf : Au P f = some x) {args : List AVal} {Q : AVal → Prop} (hl : args.length ≤ 4094) {n : Nat} (hn : args.length + (x.n - args.length) = n)
 (h : ExM P W0 0 x.code ⟨.al (O3 0 args), [], n⟩ fun e s => ∃ v, Q v ∧ Ye x.res 0 v [] e s) : Aq P W0 f args Q := by
 obtain ⟨fn, c, h1, h2, h3, h4, h5, h6⟩ := L4 hf
 refine ⟨⟨fn, c, h1, h2, h5⟩, fun F w cargs hh hr => ?_⟩
 have hrs := Je hh hr hl fn.ntmps
 have hrs' : RS W0 F [] ⟨.al (O3 0 args), [], n⟩ { tmps := cargs.toArray ++ Array.replicate (fn.ntmps - cargs.toArray.size) undef, defers := [] } w :=
  ⟨hrs.heap, by rw [hrs.size, ← hn, h6], fun t u hu => hrs.env t u (by
   rw [G4 args 0 .leaf t (by omega)]
   have hu : lk t (O3 0 args) = some u := hu
   rw [Q3] at hu
   by_cases hc : 0 ≤ t ∧ t < 0 + args.length
   · rw [if_pos hc] at hu ⊢; exact hu
   · rw [if_neg hc] at hu; cases hu)⟩
 refine calls_of_wp h1 h2 (h c h3 F [] _ w hrs' [] [] w rfl (Ext.refl _ _ _) _ fun e s' bs' a' w' hk hrs hext hd => ?_)
 obtain ⟨v, hQ, hne, vs, hvs, hlv⟩ := hk
 obtain ⟨cv, r1, r2⟩ := Hi hrs (K0 h4 hvs)
 obtain ⟨bs'', r3, r4, r5⟩ := Nz (H0 := []) hrs.heap hext r2 hlv
 have hb : bs'' = [] := List.length_eq_zero_iff.1 (by simpa using r4.len)
 subst hb
 have fin : bodyPost P fn (fun e w' => ∃ v cv, Q v ∧ e = .returned cv ∧ Rep F [] [] w' v cv ∧ Ac W0 F [] [] w' ∧ Ext [] [] w [] [] w') .ret a' w' := ⟨hd, cv, r1, v, cv, hQ, rfl, r3, r4, r5⟩
 cases e with
 | normal => exact fin
 | ret => exact fin
 | exit id => exact hne.elim
variable {m : Nat} {l : List (Nat × AVal)} {H H' : Hz} {n : Nat} {K : St → Prop} {r : List AOper}
theorem Bm (hg : Gr P W0 G) {g : Option (Nat × Bool)} (hgd : Gok g l) {d : Nat} {op : AOp} {f : Nat} {args : List AVal} {Q : AVal → Prop} (h : aop G ⟨.al l, H, n⟩ op = some (.call f args)) (hd : (Nat.blt d n && Nat.blt d 4094) = true) (ha : C0 0 args = true) (hc : Aq P W0 f args Q) (hq : ∀ v, Q v → blw 0 v = true)
 (k : ∀ v, Q v → B4 P W0 G m r ⟨.al ((d, v) :: l), H, n⟩ K) : B4 P W0 G m (⟨some d, g, op⟩ :: r) ⟨.al l, H, n⟩ K := fun ops i hco F bs a w hs bs0 H0 w0 hm he Q0 hq0 => by
 obtain ⟨x, xs, hdr, hx, hxs⟩ := Js hco
 have hi : ops[i]? = some x := by
  have h0 := congrArg (fun l => l[0]?) hdr
  simp only [List.getElem?_drop, Nat.add_zero, List.getElem?_cons_zero, Array.getElem?_toList] at h0
  exact h0
 have hr : ops.toList.drop (i + 1) = xs := by
  have := congrArg (List.drop 1) hdr
  simpa [List.drop_drop] using this
 simp only [lCo, List.range'_succ, wpOps, hi]
 have hdst : x.dst = some d := (Iw hx).symm
 have hop : ∃ o', B3 P x.op = some o' ∧ o' = op := by
  unfold Cd at hx
  cases hgx : E5 ops x.guard with
  | none => rw [hgx] at hx; cases hx
  | some gx =>
    rw [hgx] at hx
    simp only at hx
    cases hop : B3 P x.op with
    | none => rw [hop] at hx; cases hx
    | some o' =>
      rw [hop] at hx
      injection hx with hx
      injection hx with _ _ hx
      exact ⟨o', rfl, hx⟩
 obtain ⟨o', ho', rfl⟩ := hop
 have hg' : C9 ops ⟨.al l, H, n⟩ x.guard = some true := by
  unfold Cd at hx
  cases hgx : E5 ops x.guard with
  | none => rw [hgx] at hx; cases hx
  | some gx =>
    rw [hgx] at hx
    simp only [ho'] at hx
    injection hx with hx
    injection hx with _ hx _
    subst hx
    cases hxg : x.guard with
    | none => rfl
    | some gw =>
      obtain ⟨j, want⟩ := gw
      rw [hxg] at hgx
      simp only [E5] at hgx
      cases hd' : (ops[j]?).bind (·.dst) with
      | none => rw [hd'] at hgx; cases hgx
      | some d' =>
        rw [hd'] at hgx
        simp only [iS] at hgx
        subst hgx
        have hl : (Env.al l).get d' = some (.bool want) := hgd
        simp only [C9, hd', hl]
        cases want <;> rfl
 rw [R3 hs hg']
 simp only [if_true]
 refine .inl ?_
 have hok := A4l (P := P) hg.g hs ho' h
 obtain ⟨cargs, h1, h2⟩ := hok hc.1
 unfold Oper.wp
 rw [h1, Oper.upon_enter]
 refine Calls.mono (hc.at ha hq hs.heap h2) fun e w' he' => ?_
 obtain ⟨v, cv, k1, rfl, k3, k4, k5⟩ := he'
 obtain ⟨s', hK, hrs, hH⟩ := hs.put (dst := x.dst) (K := fun s' => s' = ⟨.al ((d, v) :: l), H, n⟩) k3 k4 k5 (by rw [hdst]; exact ⟨hd, rfl⟩)
 subst hK
 have hput : ∀ (dst : Option Tmp) (v : Value), (a.put dst v).defers = a.defers := fun dst v => by cases dst <;> rfl
 exact k v k1 ops (i + 1) (by rw [hr]; exact hxs) F bs _ w' hrs bs0 H0 w0 hm (he.trans k5) Q0 fun s2 bs2 a2 w2 e1 e2 e3 e4 => hq0 s2 bs2 a2 w2 e1 e2 e3 (e4.trans (hput _ _))
end
theorem Br {x y : Int} (h1 : -9223372036854775808 ≤ x) (h2 : x ≤ 9223372036854775807) (h : x = y) : AVal.int .i64 (IntKind.i64.wrap x) = .int .i64 y := by rw [w64 h1 h2, h]
theorem iE {k : IntKind} {x y : Int} (h : x = y) : AVal.int k x = .int k y := by rw [h]
section
variable {P : Program} {W0 : World} {G : List (Nat × AVal)} {m : Nat} {l : List (Nat × AVal)} {H H' : Hz} {n : Nat} {K : St → Prop} {r : List AOper} {g : Option (Nat × Bool)} {d : Nat} {op : AOp} {side : List (Int × Int)}
theorem mV {v : AVal} (h : aop G ⟨.al l, H, n⟩ op = some (.val v H' [])) (k : B4 P W0 G m r ⟨.al ((d, v) :: l), H', n⟩ K) (hg : Gr P W0 G := by assumption) (hgd : Gok g l := by first | exact gN | exact gS rfl) (hd : (Nat.blt d n && Nat.blt d 4094) = true := by rfl) : B4 P W0 G m (⟨some d, g, op⟩ :: r) ⟨.al l, H, n⟩ K := Ba hg hgd h hd trivial k
theorem mS {v : AVal} (h : aop G ⟨.al l, H, n⟩ op = some (.val v H' side)) (k : B4 P W0 G m r ⟨.al ((d, v) :: l), H', n⟩ K) (hg : Gr P W0 G := by assumption) (hgd : Gok g l := by first | exact gN | exact gS rfl) (hd : (Nat.blt d n && Nat.blt d 4094) = true := by rfl) (hs : Ae side := by first | exact trivial | decide | (simp only [Ar, B6, Ae, and_true, B7, lCo, lNi, lAp]; omega)) : B4 P W0 G m (⟨some d, g, op⟩ :: r) ⟨.al l, H, n⟩ K := Ba hg hgd h hd hs k
theorem mG {t : Nat} {want : Bool} (k : B4 P W0 G m r ⟨.al ((d, .tup []) :: l), H, n⟩ K) (hg : Gr P W0 G := by assumption) (h : lk t l = some (.bool (!want)) := by rfl) (hd : (Nat.blt d n && Nat.blt d 4094) = true := by rfl) : B4 P W0 G m (⟨some d, some (t, want), op⟩ :: r) ⟨.al l, H, n⟩ K := mGN hg h hd k
theorem mK {v v0 : AVal} (h : aop G ⟨.al l, H, n⟩ op = some (.val v0 H' [])) (hv : v0 = v) (k : B4 P W0 G m r ⟨.al ((d, v) :: l), H', n⟩ K) (hg : Gr P W0 G := by assumption) (hgd : Gok g l := by first | exact gN | exact gS rfl) (hd : (Nat.blt d n && Nat.blt d 4094) = true := by rfl) : B4 P W0 G m (⟨some d, g, op⟩ :: r) ⟨.al l, H, n⟩ K := mKv hg hgd h hd trivial hv k
theorem mKs {v v0 : AVal} (h : aop G ⟨.al l, H, n⟩ op = some (.val v0 H' side)) (hv : v0 = v) (k : B4 P W0 G m r ⟨.al ((d, v) :: l), H', n⟩ K) (hg : Gr P W0 G := by assumption) (hgd : Gok g l := by first | exact gN | exact gS rfl) (hd : (Nat.blt d n && Nat.blt d 4094) = true := by rfl) (hs : Ae side := by first | exact trivial | decide | (simp only [Ar, B6, Ae, and_true, B7, lCo, lNi, lAp]; omega)) : B4 P W0 G m (⟨some d, g, op⟩ :: r) ⟨.al l, H, n⟩ K := mKv hg hgd h hd hs hv k
theorem mI (x : Int) {y : Int} (h : aop G ⟨.al l, H, n⟩ op = some (.val (.int .i64 (IntKind.i64.wrap y)) H' side)) (k : B4 P W0 G m r ⟨.al ((d, .int .i64 x) :: l), H', n⟩ K) (hg : Gr P W0 G := by assumption) (hgd : Gok g l := by first | exact gN | exact gS rfl) (hd : (Nat.blt d n && Nat.blt d 4094) = true := by rfl) (hs : Ae side := by first | exact trivial | decide | (simp only [Ar, B6, Ae, and_true, B7, lCo, lNi, lAp]; omega))
 (h1 : -9223372036854775808 ≤ y := by omega) (h2 : y ≤ 9223372036854775807 := by omega) (h3 : y = x := by omega) : B4 P W0 G m (⟨some d, g, op⟩ :: r) ⟨.al l, H, n⟩ K := mKv hg hgd h hd hs (Br h1 h2 h3) k
theorem mT {b : Bool} (h : aop G ⟨.al l, H, n⟩ op = some (.val (.bool b) H [])) (k : B4 P W0 G m r ⟨.al ((d, .bool true) :: l), H, n⟩ K) (hg : Gr P W0 G := by assumption) (hgd : Gok g l := by first | exact gN | exact gS rfl) (hd : (Nat.blt d n && Nat.blt d 4094) = true := by rfl) (hb : b = true := by first | exact decide_eq_true (by omega) | (rw [beq_iff_eq]; omega) | (rw [bne_iff_ne]; omega) | decide) : B4 P W0 G m (⟨some d, g, op⟩ :: r) ⟨.al l, H, n⟩ K := mBk hg hgd h hd hb k
theorem mF {b : Bool} (h : aop G ⟨.al l, H, n⟩ op = some (.val (.bool b) H [])) (k : B4 P W0 G m r ⟨.al ((d, .bool false) :: l), H, n⟩ K) (hg : Gr P W0 G := by assumption) (hgd : Gok g l := by first | exact gN | exact gS rfl) (hd : (Nat.blt d n && Nat.blt d 4094) = true := by rfl) (hb : b = false := by first | exact dF (by omega) | (rw [bFn]; omega) | (rw [bNf]; omega) | decide) : B4 P W0 G m (⟨some d, g, op⟩ :: r) ⟨.al l, H, n⟩ K := mBk hg hgd h hd hb k
theorem mC {f : Nat} {args : List AVal} {v : AVal} (h : aop G ⟨.al l, H, n⟩ op = some (.call f args)) (hc : A3 P W0 f args H v H') (k : B4 P W0 G m r ⟨.al ((d, v) :: l), H', n⟩ K) (hg : Gr P W0 G := by assumption) (hgd : Gok g l := by first | exact gN | exact gS rfl) (hd : (Nat.blt d n && Nat.blt d 4094) = true := by rfl) : B4 P W0 G m (⟨some d, g, op⟩ :: r) ⟨.al l, H, n⟩ K := Zr hg hgd h hd hc k
theorem mn {s : St} (h : K s) : B4 P W0 G m [] s K := Hl h
end
section
variable {P : Program} {W0 : World} {G : List (Nat × AVal)} {m : Nat} {s : St} {K : Av → St → Prop}
theorem sq {x y : ACode} (h : ExM P W0 m x s fun e s' => e.then s' (fun s' => ExM P W0 m y s' K) K) : ExM P W0 m (.seq x y) s K := ExM.seq h
theorem oM {x : List AOper} (h : B4 P W0 G m x s (K .normal)) (hg : Gr P W0 G := by assumption) : ExM P W0 m (.ops x) s K := ExM.ops hg h
theorem sO {x : List AOper} {y : ACode} (h : B4 P W0 G m x s fun s' => Av.then .normal s' (fun s' => ExM P W0 m y s' K) K) (hg : Gr P W0 G := by assumption) : ExM P W0 m (.seq (.ops x) y) s K := ExM.seq (ExM.ops hg h)
theorem bM {id : Nat} {x : ACode} (h : ExM P W0 m x s (Av.inBlock id K)) : ExM P W0 m (.block id x) s K := ExM.block h
theorem kM (h : K .normal s) : ExM P W0 m .skip s K := ExM.skip h
theorem cT {c : AOpd} {x y : ACode} (hv : ev G s c = some (.bool true)) (h : ExM P W0 m x s K) (hg : Gr P W0 G := by assumption) : ExM P W0 m (.cond c x y) s K := ExM.condT hg hv h
theorem cF {c : AOpd} {x y : ACode} (hv : ev G s c = some (.bool false)) (h : ExM P W0 m y s K) (hg : Gr P W0 G := by assumption) : ExM P W0 m (.cond c x y) s K := ExM.condF hg hv h
end
end Go.Abs
namespace Go.Abs
abbrev zI : AVal := .int .i64 0
abbrev zB : AVal := .bool false
abbrev zT : AVal := .str []
abbrev jI (n : Int) : AVal := .int .i64 n
def N0 (a : Bz) (b : Int) : AVal := .agg [jI 5, .str a, jI b]
def N1 (a : Int) : AVal := .agg [jI 8, .str [43], jI a]
def N2 (a : Int) : AVal := .agg [jI 1, .str [49], jI a]
def N3 (a : Bz) (b c d : Int) : AVal := .row 3 [N0 a b, N1 c, N2 d]
def N4 (a : Bz) (b c : Int) (d e : Bool) : AVal := .agg [jI 5, zT, zI, zI, zB, zI, .str a, jI b, jI c, .bool d, .bool e, zB, zT, zI, zI, zB, zB, zB, zI, .nilSl]
def N5 : AVal := .agg [jI 1, zT, jI 1, zI, zB, zI, zT, zI, zI, zB, zB, zB, zT, zI, zI, zB, zB, zB, zI, .nilSl]
def N6 (a : Bz) (b c : Int) (d e : Bool) : AVal := .row 20 [N4 a b c d e, N5]
def N7 (a : Bz) (b c : Int) (d e : Bool) : AVal := .agg [jI 9, .str [43], zI, zI, zB, zI, zT, zI, zI, zB, zB, zB, zT, zI, zI, zB, zB, zB, zI, N6 a b c d e]
def N8 (a : Bz) (b c : Int) (d e : Bool) : AVal := .tup [N7 a b c d e, zI, zI]
def N9 (a : Bz) (b c d : Int) : AVal := .tup [N3 a b c d, zI, zI]
def N10 (a b c : Int) (d : Bz) (e f g : Bool) (h : Int) : HObj := .cells 92 [jI a, .str [101, 108, 115, 101, 119, 104, 101, 114, 101], jI b, jI c, .str d, .bool e, .bool f, .bool g, jI h, .nilSl] false
def N11 (a : Bz) (b c : Int) (d e : Bool) : HObj := .cells 122 [jI 9, .str [43], zI, zI, zB, zI, zT, zI, zI, zB, zB, zB, zT, zI, zI, zB, zB, zB, zI, N6 a b c d e] false
def N12 (a : Int) : AVal := .agg [jI 8, .str [42], jI a]
def N13 (a : Bz) (b c : Int) (d : Bz) (e : Int) : AVal := .row 3 [N0 a b, N12 c, N0 d e]
def N14 (a : Bz) (b c : Int) (d e : Bool) (f : Bz) (g h : Int) (i j : Bool) : AVal := .row 20 [N4 a b c d e, N4 f g h i j]
def N15 (a : Bz) (b c : Int) (d e : Bool) (f : Bz) (g h : Int) (i j : Bool) : AVal := .agg [jI 9, .str [42], zI, zI, zB, zI, zT, zI, zI, zB, zB, zB, zT, zI, zI, zB, zB, zB, zI, N14 a b c d e f g h i j]
def N16 (a : Bz) (b c : Int) (d e : Bool) (f : Bz) (g h : Int) (i j : Bool) : AVal := .tup [N15 a b c d e f g h i j, zI, zI]
def N17 (a : Bz) (b c : Int) (d : Bz) (e : Int) : AVal := .tup [N13 a b c d e, zI, zI]
def N18 (a : Bz) (b c : Int) (d e : Bool) (f : Bz) (g h : Int) (i j : Bool) : HObj := .cells 122 [jI 9, .str [42], zI, zI, zB, zI, zT, zI, zI, zB, zB, zB, zT, zI, zI, zB, zB, zB, zI, N14 a b c d e f g h i j] false
def N19 (a b : Int) (c : Bz) (d : Int) : AVal := .row 3 [.agg [jI 5, .str [35, 82, 69, 70, 33], jI a], N1 b, N0 c d]
def N20 : AVal := .agg [jI 5, zT, zI, zI, zB, zI, zT, zI, zI, zB, zB, .bool true, zT, zI, zI, zB, zB, zB, zI, .nilSl]
def N21 (a : Bz) (b c : Int) (d e : Bool) : AVal := .row 20 [N20, N4 a b c d e]
def N22 (a : Bz) (b c : Int) (d e : Bool) : AVal := .agg [jI 9, .str [43], zI, zI, zB, zI, zT, zI, zI, zB, zB, zB, zT, zI, zI, zB, zB, zB, zI, N21 a b c d e]
def N23 (a : Bz) (b c : Int) (d e : Bool) : AVal := .tup [N22 a b c d e, zI, zI]
def N24 (a b : Int) (c : Bz) (d : Int) : AVal := .tup [N19 a b c d, zI, zI]
def N25 (a : Bz) (b c : Int) (d e : Bool) : HObj := .cells 122 [jI 9, .str [43], zI, zI, zB, zI, zT, zI, zI, zB, zB, zB, zT, zI, zI, zB, zB, zB, zI, N21 a b c d e] false
def N26 (a : Int) : AVal := .agg [jI 8, .str [45], jI a]
def N27 (a : Int) (b : Bz) (c d : Int) : AVal := .row 3 [N26 a, N0 b c, .agg [jI 8, .str [37], jI d]]
def N28 (a : Bz) (b c : Int) (d e : Bool) : AVal := .row 20 [N4 a b c d e]
def N29 (a : Bz) (b c : Int) (d e : Bool) : AVal := .row 20 [.agg [jI 10, .str [45], zI, zI, zB, zI, zT, zI, zI, zB, zB, zB, zT, zI, zI, zB, zB, zB, zI, N28 a b c d e]]
def N30 (a : Bz) (b c : Int) (d e : Bool) : AVal := .agg [jI 11, .str [37], zI, zI, zB, zI, zT, zI, zI, zB, zB, zB, zT, zI, zI, zB, zB, zB, zI, N29 a b c d e]
def N31 (a : Bz) (b c : Int) (d e : Bool) : AVal := .tup [N30 a b c d e, zI, zI]
def N32 (a : Int) (b : Bz) (c d : Int) : AVal := .tup [N27 a b c d, zI, zI]
def N33 (a : Bz) (b c : Int) (d e : Bool) : HObj := .cells 122 [jI 11, .str [37], zI, zI, zB, zI, zT, zI, zI, zB, zB, zB, zT, zI, zI, zB, zB, zB, zI, N29 a b c d e] false
def N34 (a : Int) : AVal := .agg [jI 8, .str [40], jI a]
def N35 (a : Int) : AVal := .agg [jI 8, .str [58], jI a]
def N36 (a : Int) : AVal := .agg [jI 8, .str [44], jI a]
def N37 (a : Int) : AVal := .agg [jI 8, .str [41], jI a]
def N38 (a b : Int) (c : Bz) (d e : Int) (f : Bz) (g h : Int) (i : Bz) (j k : Int) : AVal := .row 3 [.agg [jI 7, .str [67, 79, 85, 78, 84], jI a], N34 b, N0 c d, N35 e, N0 f g, N36 h, N0 i j, N37 k]
def N39 (a : Bz) (b c : Int) (d e : Bool) (f g : Int) (h i : Bool) : AVal := .agg [jI 6, zT, zI, zI, zB, zI, .str a, jI b, jI c, .bool d, .bool e, zB, zT, jI f, jI g, .bool h, .bool i, zB, zI, .nilSl]
def N40 (a : Bz) (b c : Int) (d e : Bool) (f g : Int) (h i : Bool) (j : Bz) (k l : Int) (m n : Bool) : AVal := .row 20 [N39 a b c d e f g h i, N4 j k l m n]
def N41 (a : Bz) (b c : Int) (d e : Bool) (f g : Int) (h i : Bool) (j : Bz) (k l : Int) (m n : Bool) : AVal := .agg [jI 12, .str [67, 79, 85, 78, 84], zI, zI, zB, zI, zT, zI, zI, zB, zB, zB, zT, zI, zI, zB, zB, zB, zI, N40 a b c d e f g h i j k l m n]
def N42 (a : Bz) (b c : Int) (d e : Bool) (f g : Int) (h i : Bool) (j : Bz) (k l : Int) (m n : Bool) : AVal := .tup [N41 a b c d e f g h i j k l m n, zI, zI]
def N43 (a b : Int) (c : Bz) (d e : Int) (f : Bz) (g h : Int) (i : Bz) (j k : Int) : AVal := .tup [N38 a b c d e f g h i j k, zI, zI]
def N44 (a : Bz) (b c : Int) (d e : Bool) (f g : Int) (h i : Bool) (j : Bz) (k l : Int) (m n : Bool) : HObj := .cells 122 [jI 12, .str [67, 79, 85, 78, 84], zI, zI, zB, zI, zT, zI, zI, zB, zB, zB, zT, zI, zI, zB, zB, zB, zI, N40 a b c d e f g h i j k l m n] false
def N45 (a b : Int) (c : Bz) (d : Int) : AVal := .row 3 [.agg [jI 6, .str [114, 97, 116, 101], jI a], N12 b, N0 c d]
def N46 (a : Bz) (b c : Int) (d e : Bool) : AVal := .row 20 [.agg [jI 7, .str [114, 97, 116, 101], zI, zI, zB, zI, zT, zI, zI, zB, zB, zB, zT, zI, zI, zB, zB, zB, zI, .nilSl], N4 a b c d e]
def N47 (a : Bz) (b c : Int) (d e : Bool) : AVal := .agg [jI 9, .str [42], zI, zI, zB, zI, zT, zI, zI, zB, zB, zB, zT, zI, zI, zB, zB, zB, zI, N46 a b c d e]
def N48 (a : Bz) (b c : Int) (d e : Bool) : AVal := .tup [N47 a b c d e, zI, zI]
def N49 (a b : Int) (c : Bz) (d : Int) : AVal := .tup [N45 a b c d, zI, zI]
def N50 (a : Bz) (b c : Int) (d e : Bool) : HObj := .cells 122 [jI 9, .str [42], zI, zI, zB, zI, zT, zI, zI, zB, zB, zB, zT, zI, zI, zB, zB, zB, zI, N46 a b c d e] false
def N51 (a b : Int) (c : Bz) (d : Int) : AVal := .row 3 [.agg [jI 6, .str [79, 119, 110], jI a], N1 b, N0 c d]
def N52 (a : Bz) (b c : Int) (d e : Bool) : AVal := .row 20 [.agg [jI 7, .str [79, 119, 110], zI, zI, zB, zI, zT, zI, zI, zB, zB, zB, zT, zI, zI, zB, zB, zB, zI, .nilSl], N4 a b c d e]
def N53 (a : Bz) (b c : Int) (d e : Bool) : AVal := .agg [jI 9, .str [43], zI, zI, zB, zI, zT, zI, zI, zB, zB, zB, zT, zI, zI, zB, zB, zB, zI, N52 a b c d e]
def N54 (a : Bz) (b c : Int) (d e : Bool) : AVal := .tup [N53 a b c d e, zI, zI]
def N55 (a b : Int) (c : Bz) (d : Int) : AVal := .tup [N51 a b c d, zI, zI]
def N56 (a : Bz) (b c : Int) (d e : Bool) : HObj := .cells 122 [jI 9, .str [43], zI, zI, zB, zI, zT, zI, zI, zB, zB, zB, zT, zI, zI, zB, zB, zB, zI, N52 a b c d e] false
def N57 (a b c d e : Int) (f : Bz) (g : Int) : AVal := .row 3 [.agg [jI 7, .str [83, 85, 77], jI a], N34 b, .agg [jI 9, .str [84, 97, 98, 91, 120, 93], jI c], N37 d, N1 e, N0 f g]
def N58 : AVal := .row 20 [.agg [jI 8, .str [84, 97, 98, 91, 120, 93], zI, zI, zB, zI, zT, zI, zI, zB, zB, zB, zT, zI, zI, zB, zB, zB, zI, .nilSl]]
def N59 (a : Bz) (b c : Int) (d e : Bool) : AVal := .row 20 [.agg [jI 12, .str [83, 85, 77], zI, zI, zB, zI, zT, zI, zI, zB, zB, zB, zT, zI, zI, zB, zB, zB, zI, N58], N4 a b c d e]
def N60 (a : Bz) (b c : Int) (d e : Bool) : AVal := .agg [jI 9, .str [43], zI, zI, zB, zI, zT, zI, zI, zB, zB, zB, zT, zI, zI, zB, zB, zB, zI, N59 a b c d e]
def N61 (a : Bz) (b c : Int) (d e : Bool) : AVal := .tup [N60 a b c d e, zI, zI]
def N62 (a b c d e : Int) (f : Bz) (g : Int) : AVal := .tup [N57 a b c d e f g, zI, zI]
def N63 (a : Bz) (b c : Int) (d e : Bool) : HObj := .cells 122 [jI 9, .str [43], zI, zI, zB, zI, zT, zI, zI, zB, zB, zB, zT, zI, zI, zB, zB, zB, zI, N59 a b c d e] false
def N64 (a b : Int) (c : Bz) (d e : Int) (f : Bz) (g h : Int) : AVal := .row 3 [.agg [jI 7, .str [83, 85, 77], jI a], N34 b, N0 c d, N35 e, N0 f g, N37 h]
def N65 (a : Bz) (b c : Int) (d e : Bool) (f g : Int) (h i : Bool) : AVal := .row 20 [N39 a b c d e f g h i]
def N66 (a : Bz) (b c : Int) (d e : Bool) (f g : Int) (h i : Bool) : AVal := .agg [jI 12, .str [83, 85, 77], zI, zI, zB, zI, zT, zI, zI, zB, zB, zB, zT, zI, zI, zB, zB, zB, zI, N65 a b c d e f g h i]
def N67 (a : Bz) (b c : Int) (d e : Bool) (f g : Int) (h i : Bool) : AVal := .tup [N66 a b c d e f g h i, zI, zI]
def N68 (a b : Int) (c : Bz) (d e : Int) (f : Bz) (g h : Int) : AVal := .tup [N64 a b c d e f g h, zI, zI]
def N69 (a : Bz) (b c : Int) (d e : Bool) (f g : Int) (h i : Bool) : HObj := .cells 122 [jI 12, .str [83, 85, 77], zI, zI, zB, zI, zT, zI, zI, zB, zB, zB, zT, zI, zI, zB, zB, zB, zI, N65 a b c d e f g h i] false
def N70 (a : Int) : AVal := .agg [jI 1, .str [50], jI a]
def N71 (a b : Int) (c : Bz) (d e f g : Int) (h : Bz) (i j k l : Int) : AVal := .row 3 [.agg [jI 7, .str [73, 70], jI a], N34 b, N0 c d, .agg [jI 8, .str [62], jI e], N70 f, N36 g, N0 h i, N36 j, .agg [jI 1, .str [48], jI k], N37 l]
def N72 : AVal := .agg [jI 1, zT, jI 2, zI, zB, zI, zT, zI, zI, zB, zB, zB, zT, zI, zI, zB, zB, zB, zI, .nilSl]
def N73 (a : Bz) (b c : Int) (d e : Bool) : AVal := .row 20 [N4 a b c d e, N72]
def N74 (a : Bz) (b c : Int) (d e : Bool) (f : Bz) (g h : Int) (i j : Bool) : AVal := .row 20 [.agg [jI 9, .str [62], zI, zI, zB, zI, zT, zI, zI, zB, zB, zB, zT, zI, zI, zB, zB, zB, zI, N73 a b c d e], N4 f g h i j, .agg [jI 1, zT, zI, zI, zB, zI, zT, zI, zI, zB, zB, zB, zT, zI, zI, zB, zB, zB, zI, .nilSl]]
def N75 (a : Bz) (b c : Int) (d e : Bool) (f : Bz) (g h : Int) (i j : Bool) : AVal := .agg [jI 12, .str [73, 70], zI, zI, zB, zI, zT, zI, zI, zB, zB, zB, zT, zI, zI, zB, zB, zB, zI, N74 a b c d e f g h i j]
def N76 (a : Bz) (b c : Int) (d e : Bool) (f : Bz) (g h : Int) (i j : Bool) : AVal := .tup [N75 a b c d e f g h i j, zI, zI]
def N77 (a b : Int) (c : Bz) (d e f g : Int) (h : Bz) (i j k l : Int) : AVal := .tup [N71 a b c d e f g h i j k l, zI, zI]
def N78 (a : Bz) (b c : Int) (d e : Bool) (f : Bz) (g h : Int) (i j : Bool) : HObj := .cells 122 [jI 12, .str [73, 70], zI, zI, zB, zI, zT, zI, zI, zB, zB, zB, zT, zI, zI, zB, zB, zB, zI, N74 a b c d e f g h i j] false
def N79 (a b c d e f g h i j : Int) (k : Bz) (l : Int) : AVal := .row 3 [.agg [jI 8, .str [123], jI a], N2 b, N36 c, N70 d, .agg [jI 8, .str [59], jI e], .agg [jI 1, .str [51], jI f], N36 g, .agg [jI 1, .str [52], jI h], .agg [jI 8, .str [125], jI i], N1 j, N0 k l]
def N80 : AVal := .row 20 [N5, N72, .agg [jI 1, zT, jI 3, zI, zB, zI, zT, zI, zI, zB, zB, zB, zT, zI, zI, zB, zB, zB, zI, .nilSl], .agg [jI 1, zT, jI 4, zI, zB, zI, zT, zI, zI, zB, zB, zB, zT, zI, zI, zB, zB, zB, zI, .nilSl]]
def N81 (a : Bz) (b c : Int) (d e : Bool) : AVal := .row 20 [.agg [jI 13, zT, zI, zI, zB, zI, zT, zI, zI, zB, zB, zB, zT, zI, zI, zB, zB, zB, jI 2, N80], N4 a b c d e]
def N82 (a : Bz) (b c : Int) (d e : Bool) : AVal := .agg [jI 9, .str [43], zI, zI, zB, zI, zT, zI, zI, zB, zB, zB, zT, zI, zI, zB, zB, zB, zI, N81 a b c d e]
def N83 (a : Bz) (b c : Int) (d e : Bool) : AVal := .tup [N82 a b c d e, zI, zI]
def N84 (a b c d e f g h i j : Int) (k : Bz) (l : Int) : AVal := .tup [N79 a b c d e f g h i j k l, zI, zI]
def N85 (a : Bz) (b c : Int) (d e : Bool) : HObj := .cells 122 [jI 9, .str [43], zI, zI, zB, zI, zT, zI, zI, zB, zB, zB, zT, zI, zI, zB, zB, zB, zI, N81 a b c d e] false
def N86 (a : Bz) (b c : Int) (d : Bz) (e f g : Int) : AVal := .row 3 [N0 a b, N35 c, N0 d e, N12 f, N70 g]
def N87 (a : Bz) (b c : Int) (d e : Bool) (f g : Int) (h i : Bool) : AVal := .row 20 [N39 a b c d e f g h i, N72]
def N88 (a : Bz) (b c : Int) (d e : Bool) (f g : Int) (h i : Bool) : AVal := .agg [jI 9, .str [42], zI, zI, zB, zI, zT, zI, zI, zB, zB, zB, zT, zI, zI, zB, zB, zB, zI, N87 a b c d e f g h i]
def N89 (a : Bz) (b c : Int) (d e : Bool) (f g : Int) (h i : Bool) : AVal := .tup [N88 a b c d e f g h i, zI, zI]
def N90 (a : Bz) (b c : Int) (d : Bz) (e f g : Int) : AVal := .tup [N86 a b c d e f g, zI, zI]
def N91 (a : Bz) (b c : Int) (d e : Bool) (f g : Int) (h i : Bool) : HObj := .cells 122 [jI 9, .str [42], zI, zI, zB, zI, zT, zI, zI, zB, zB, zB, zT, zI, zI, zB, zB, zB, zI, N87 a b c d e f g h i] false
def N92 (a : Int) : AVal := .agg [jI 6, .str [120], jI a]
def N93 (a b c d : Int) (e : Bz) (f g h i j k : Int) (l : Bz) (m n : Int) : AVal := .row 3 [.agg [jI 7, .str [76, 69, 84], jI a], N34 b, N92 c, N36 d, N0 e f, N36 g, N92 h, N12 i, N92 j, N26 k, N0 l m, N37 n]
def N94 : AVal := .agg [jI 7, .str [120], zI, zI, zB, zI, zT, zI, zI, zB, zB, zB, zT, zI, zI, zB, zB, zB, zI, .nilSl]
def N95 : AVal := .row 20 [N94, N94]
def N96 (a : Bz) (b c : Int) (d e : Bool) : AVal := .row 20 [.agg [jI 9, .str [42], zI, zI, zB, zI, zT, zI, zI, zB, zB, zB, zT, zI, zI, zB, zB, zB, zI, N95], N4 a b c d e]
def N97 (a : Bz) (b c : Int) (d e : Bool) (f : Bz) (g h : Int) (i j : Bool) : AVal := .row 20 [N4 a b c d e, .agg [jI 9, .str [45], zI, zI, zB, zI, zT, zI, zI, zB, zB, zB, zT, zI, zI, zB, zB, zB, zI, N96 f g h i j]]
def N98 (a : Bz) (b c : Int) (d e : Bool) (f : Bz) (g h : Int) (i j : Bool) : AVal := .agg [jI 16, .str [120], zI, zI, zB, zI, zT, zI, zI, zB, zB, zB, zT, zI, zI, zB, zB, zB, zI, N97 a b c d e f g h i j]
def N99 (a : Bz) (b c : Int) (d e : Bool) (f : Bz) (g h : Int) (i j : Bool) : AVal := .tup [N98 a b c d e f g h i j, zI, zI]
def N100 (a b c d : Int) (e : Bz) (f g h i j k : Int) (l : Bz) (m n : Int) : AVal := .tup [N93 a b c d e f g h i j k l m n, zI, zI]
def V8 (a : Bz) (b c : Int) (d e : Bool) (f : Bz) (g h : Int) (i j : Bool) : HObj := .cells 122 [jI 16, .str [120], zI, zI, zB, zI, zT, zI, zI, zB, zB, zB, zT, zI, zI, zB, zB, zB, zI, N97 a b c d e f g h i j] false
def N102 (a : Int) : AVal := .agg [jI 6, .str [110], jI a]
def N103 (a b c d e f g h i j k l m n o p q r s t u v w x y z a26 a27 a28 : Int) (a29 : Bz) (a30 a31 a32 : Int) : AVal := .row 3 [.agg [jI 7, .str [76, 69, 84], jI a], N34 b, .agg [jI 6, .str [102], jI c], N36 d, .agg [jI 7, .str [76, 65, 77, 66, 68, 65], jI e], N34 f, N102 g, N36 h, .agg [jI 7, .str [73, 70], jI i], N34 j, N102 k, .agg [jI 8, .str [60], jI l], N2 m, N36 n, N2 o, N36 p, N102 q, N12 r, .agg [jI 7, .str [102], jI s], N34 t, N102 u, N26 v, N2 w, N37 x, N37 y, N37 z, N36 a26, .agg [jI 7, .str [102], jI a27], N34 a28, N0 a29 a30, N37 a31, N37 a32]
def N104 : AVal := .agg [jI 7, .str [110], zI, zI, zB, zI, zT, zI, zI, zB, zB, zB, zT, zI, zI, zB, zB, zB, zI, .nilSl]
def N105 : AVal := .row 20 [N104, N5]
def N106 : AVal := .row 20 [.agg [jI 12, .str [73, 70], zI, zI, zB, zI, zT, zI, zI, zB, zB, zB, zT, zI, zI, zB, zB, zB, zI, .row 20 [.agg [jI 9, .str [60], zI, zI, zB, zI, zT, zI, zI, zB, zB, zB, zT, zI, zI, zB, zB, zB, zI, N105], N5, .agg [jI 9, .str [42], zI, zI, zB, zI, zT, zI, zI, zB, zB, zB, zT, zI, zI, zB, zB, zB, zI, .row 20 [N104, .agg [jI 12, .str [70], zI, zI, zB, zI, zT, zI, zI, zB, zB, zB, zT, zI, zI, zB, zB, zB, zI, .row 20 [.agg [jI 9, .str [45], zI, zI, zB, zI, zT, zI, zI, zB, zB, zB, zT, zI, zI, zB, zB, zB, zI, N105]]]]]]]]
def N107 (a : Bz) (b c : Int) (d e : Bool) : AVal := .row 20 [.agg [jI 14, .str [110], zI, zI, zB, zI, zT, zI, zI, zB, zB, zB, zT, zI, zI, zB, zB, zB, zI, N106], .agg [jI 12, .str [70], zI, zI, zB, zI, zT, zI, zI, zB, zB, zB, zT, zI, zI, zB, zB, zB, zI, N28 a b c d e]]
def Pm (a : Bz) (b c : Int) (d e : Bool) : AVal := .agg [jI 16, .str [102], zI, zI, zB, zI, zT, zI, zI, zB, zB, zB, zT, zI, zI, zB, zB, zB, zI, N107 a b c d e]
def Xp (a : Bz) (b c : Int) (d e : Bool) : AVal := .tup [Pm a b c d e, zI, zI]
def N110 (a b c d e f g h i j k l m n o p q r s t u v w x y z a26 a27 a28 : Int) (a29 : Bz) (a30 a31 a32 : Int) : AVal := .tup [N103 a b c d e f g h i j k l m n o p q r s t u v w x y z a26 a27 a28 a29 a30 a31 a32, zI, zI]
def A17 (a : Bz) (b c : Int) (d e : Bool) : HObj := .cells 122 [jI 16, .str [102], zI, zI, zB, zI, zT, zI, zI, zB, zB, zB, zT, zI, zI, zB, zB, zB, zI, N107 a b c d e] false
def N112 (a : Bz) (b c d : Int) : AVal := .row 3 [N0 a b, .agg [jI 8, .str [38], jI c], .agg [jI 2, .str [97], jI d]]
def N113 (a : Bz) (b c : Int) (d e : Bool) : AVal := .row 20 [N4 a b c d e, .agg [jI 2, .str [97], zI, zI, zB, zI, zT, zI, zI, zB, zB, zB, zT, zI, zI, zB, zB, zB, zI, .nilSl]]
def Pv (a : Bz) (b c : Int) (d e : Bool) : AVal := .agg [jI 9, .str [38], zI, zI, zB, zI, zT, zI, zI, zB, zB, zB, zT, zI, zI, zB, zB, zB, zI, N113 a b c d e]
def Xe (a : Bz) (b c : Int) (d e : Bool) : AVal := .tup [Pv a b c d e, zI, zI]
def N116 (a : Bz) (b c d : Int) : AVal := .tup [N112 a b c d, zI, zI]
def A15 (a : Bz) (b c : Int) (d e : Bool) : HObj := .cells 122 [jI 9, .str [38], zI, zI, zB, zI, zT, zI, zI, zB, zB, zB, zT, zI, zI, zB, zB, zB, zI, N113 a b c d e] false
def N118 (a b : Int) (c : Bz) (d : Int) : AVal := .row 3 [N2 a, .agg [jI 8, .str [47], jI b], N0 c d]
def N119 (a : Bz) (b c : Int) (d e : Bool) : AVal := .row 20 [N5, N4 a b c d e]
def Pi (a : Bz) (b c : Int) (d e : Bool) : AVal := .agg [jI 9, .str [47], zI, zI, zB, zI, zT, zI, zI, zB, zB, zB, zT, zI, zI, zB, zB, zB, zI, N119 a b c d e]
def Yx (a : Bz) (b c : Int) (d e : Bool) : AVal := .tup [Pi a b c d e, zI, zI]
def N122 (a b : Int) (c : Bz) (d : Int) : AVal := .tup [N118 a b c d, zI, zI]
def A1h (a : Bz) (b c : Int) (d e : Bool) : HObj := .cells 122 [jI 9, .str [47], zI, zI, zB, zI, zT, zI, zI, zB, zB, zB, zT, zI, zI, zB, zB, zB, zI, N119 a b c d e] false
def A4q (a b : Int) (c : Bz) : HObj := .cells 92 [jI 1, .str [101, 108, 115, 101, 119, 104, 101, 114, 101], jI a, jI b, .str c, .bool true, zB, .bool true, jI 199, .nilSl] false
def N125 (a b : Int) (c : Bz) : AVal := .agg [jI 1, .str [101, 108, 115, 101, 119, 104, 101, 114, 101], jI a, jI b, .str c]
def A0s (a b : Int) (c : Bz) : HObj := .cells 46 [jI 1, .str [101, 108, 115, 101, 119, 104, 101, 114, 101], jI a, jI b, .str c] false
def A2k (a b : Int) (c : Bz) : HObj := .cells 92 [jI 2, .str [101, 108, 115, 101, 119, 104, 101, 114, 101], jI a, jI b, .str c, .bool true, zB, zB, jI 199, .nilSl] false
def N128 (a b : Int) (c : Bz) : AVal := .agg [jI 2, .str [101, 108, 115, 101, 119, 104, 101, 114, 101], jI a, jI b, .str c]
def Zy (a b : Int) (c : Bz) : HObj := .cells 46 [jI 2, .str [101, 108, 115, 101, 119, 104, 101, 114, 101], jI a, jI b, .str c] false
def A3j (a b : Int) (c : Bz) : HObj := .cells 92 [jI 3, .str [101, 108, 115, 101, 119, 104, 101, 114, 101], jI a, jI b, .str c, zB, .bool true, .bool true, jI 51, .nilSl] false
def N131 (a b : Int) (c : Bz) : AVal := .agg [jI 3, .str [101, 108, 115, 101, 119, 104, 101, 114, 101], jI a, jI b, .str c]
def A00 (a b : Int) (c : Bz) : HObj := .cells 46 [jI 3, .str [101, 108, 115, 101, 119, 104, 101, 114, 101], jI a, jI b, .str c] false
def A4s (a b : Int) (c : Bz) : HObj := .cells 92 [jI 4, .str [101, 108, 115, 101, 119, 104, 101, 114, 101], jI a, jI b, .str c, zB, .bool true, zB, jI 51, .nilSl] false
def N134 (a b : Int) (c : Bz) : AVal := .agg [jI 4, .str [101, 108, 115, 101, 119, 104, 101, 114, 101], jI a, jI b, .str c]
def A1f (a b : Int) (c : Bz) : HObj := .cells 46 [jI 4, .str [101, 108, 115, 101, 119, 104, 101, 114, 101], jI a, jI b, .str c] false
def A3d (a b : Int) (c : Bz) : HObj := .cells 92 [jI 5, .str [101, 108, 115, 101, 119, 104, 101, 114, 101], jI a, jI b, .str c, zB, zB, zB, jI 199, .nilSl] false
def N137 (a b : Int) (c : Bz) : AVal := .agg [jI 5, .str [101, 108, 115, 101, 119, 104, 101, 114, 101], jI a, jI b, .str c]
def A0i (a b : Int) (c : Bz) : HObj := .cells 46 [jI 5, .str [101, 108, 115, 101, 119, 104, 101, 114, 101], jI a, jI b, .str c] false
def A2a (a b : Int) (c : Bz) : HObj := .cells 92 [jI 6, .str [101, 108, 115, 101, 119, 104, 101, 114, 101], jI a, jI b, .str c, zB, zB, zB, jI 199, .nilSl] false
def N140 (a b : Int) (c : Bz) : AVal := .agg [jI 6, .str [101, 108, 115, 101, 119, 104, 101, 114, 101], jI a, jI b, .str c]
def A1r (a b : Int) (c : Bz) : HObj := .cells 46 [jI 6, .str [101, 108, 115, 101, 119, 104, 101, 114, 101], jI a, jI b, .str c] false
def Ag (a : Bz) (b c : Int) (d e : Bool) : AVal := .agg [.str a, jI b, jI c, .bool d, .bool e, zB]
def N143 (a : Bz) (b c : Int) (d e : Bool) : HObj := .cells 119 [.str a, jI b, jI c, .bool d, .bool e, zB] false
def N144 : HObj := .cells 119 [zT, zI, zI, zB, zB, zB] false
def N145 : HObj := .cells 119 [zT, zI, zI, zB, zB, .bool true] false
def Ya (a b c : Int) (d : Bz) (e : Bool) (f : Int) : HObj := .cells 92 [jI a, .str [101, 108, 115, 101, 119, 104, 101, 114, 101], jI b, jI c, .str d, zB, zB, .bool e, jI f, .nilSl] false
def Eo (a : Bz) (b c : Int) (d e : Bool) (f g : Int) (h i : Bool) : HObj := .cells 122 [jI 6, zT, zI, zI, zB, zI, .str a, jI b, jI c, .bool d, .bool e, zB, zT, jI f, jI g, .bool h, .bool i, zB, zI, .nilSl] false
def Ab : HObj := .cells 122 [zI, zT, zI, zI, zB, zI, zT, zI, zI, zB, zB, zB, zT, zI, zI, zB, zB, zB, zI, .nilSl] false
def I2 : HObj := .cells 122 [jI 5, zT, zI, zI, zB, zI, zT, zI, zI, zB, zB, .bool true, zT, zI, zI, zB, zB, zB, zI, .nilSl] false
def Yi (a b c : Int) (d : Bz) (e : Bool) (f : Int) : HObj := .cells 92 [jI a, .str [101, 108, 115, 101, 119, 104, 101, 114, 101], jI b, jI c, .str d, .bool true, zB, .bool e, jI f, .nilSl] false
def Yq (a b c : Int) (d : Bz) (e : Bool) (f : Int) : HObj := .cells 92 [jI a, .str [101, 108, 115, 101, 119, 104, 101, 114, 101], jI b, jI c, .str d, zB, .bool true, .bool e, jI f, .nilSl] false
def Uy (a b : Int) (c d : Bool) : AVal := .agg [zT, jI a, jI b, .bool c, .bool d, zB]
def A4d (a b : Int) (c d : Bool) : AVal := .agg [.str [83], jI a, jI b, .bool c, .bool d, zB]
def A43 (a b : Int) (c d : Bool) : AVal := .agg [.str [84, 119, 111, 32, 120], jI a, jI b, .bool c, .bool d, zB]
def A1z (a b : Int) (c d : Bool) : AVal := .agg [.str [116, 104, 105, 114, 100], jI a, jI b, .bool c, .bool d, zB]
def Tz : AVal := .agg [zT, zI, zI, zB, zB, .bool true]
def Tv (a b : Int) : AVal := .agg [zT, jI a, jI b, zB, zB, zB]
def Pg (a b c : Int) : AVal := .agg [jI a, jI b, jI c]
def N159 (a : Bz) (b c : Int) : AVal := .agg [.str a, jI b, jI c, zB, zB, zB]
def Xq (a b : Int) : AVal := .agg [zT, jI a, jI b, .bool true, zB, zB]
def Xh (a b : Int) : AVal := .agg [zT, jI a, jI b, zB, .bool true, zB]
def Rq : AVal := .tup [.agg [jI 1, zI], zI]
def Dm (a : Bz) (b c : Int) (d e : Bool) : AVal := .tup [Ag a b c d e, zI]
def N164 : AVal := .tup [Tz, zI]
def A03 (a b : Int) (c d : Bool) : AVal := .tup [Uy a b c d, zI]
def N166 : AVal := .agg [zT, zI, zI, zB, zB, zB]
def Fe : AVal := .tup [N166, jI 20]
def N168 : AVal := .tup [.agg [zI, zI], zI]
def A16 : AVal := .tup [.agg [jI 2, zI], zI]
def N170 : AVal := .tup [.agg [jI 4, zI], zI]
def N171 : AVal := .tup [.agg [jI 3, zI], zI]
def Bv : HObj := .cells 161 [.fn 80 [] [.ptr 1 0, .ptr 3 0, .ptr 5 0]] false
def A0e : HObj := .cells 122 [jI 9, .str [43], zI, zI, zB, zI, zT, zI, zI, zB, zB, zB, zT, zI, zI, zB, zB, zB, zI, .nilSl] false
def Aw (a : Bz) (b c : Int) (d e : Bool) : HObj := .cells 122 [jI 5, zT, zI, zI, zB, zI, .str a, jI b, jI c, .bool d, .bool e, zB, zT, zI, zI, zB, zB, zB, zI, .nilSl] false
def A1g : HObj := .cells 122 [jI 9, .str [42], zI, zI, zB, zI, zT, zI, zI, zB, zB, zB, zT, zI, zI, zB, zB, zB, zI, .nilSl] false
def A06 : HObj := .cells 122 [jI 9, .str [42], zI, zI, zB, zI, zT, zI, zI, zB, zB, zB, zT, zI, zI, zB, zB, zB, zI, .hsl 20 10 0 1 none] false
def A0z (a : Bz) (b c : Int) (d e : Bool) : HObj := .cells 122 [jI 5, zT, zI, zI, zB, zI, .str a, jI b, jI c, .bool d, .bool e, zB, zT, zI, zI, zB, zB, zB, zI, .nilSl] true
def Po : HObj := .cells 122 [jI 9, .str [43], zI, zI, zB, zI, zT, zI, zI, zB, zB, zB, zT, zI, zI, zB, zB, zB, zI, .hsl 20 10 0 1 none] false
def N179 : HObj := .cells 122 [jI 5, zT, zI, zI, zB, zI, zT, zI, zI, zB, zB, .bool true, zT, zI, zI, zB, zB, zB, zI, .nilSl] true
def N180 : HObj := .cells 122 [jI 11, .str [37], zI, zI, zB, zI, zT, zI, zI, zB, zB, zB, zT, zI, zI, zB, zB, zB, zI, .nilSl] false
def N181 (a : Bz) (b c : Int) (d e : Bool) : HObj := .cells 122 [jI 10, .str [45], zI, zI, zB, zI, zT, zI, zI, zB, zB, zB, zT, zI, zI, zB, zB, zB, zI, N28 a b c d e] false
def N182 : HObj := .cells 122 [jI 10, .str [45], zI, zI, zB, zI, zT, zI, zI, zB, zB, zB, zT, zI, zI, zB, zB, zB, zI, .nilSl] false
def N183 : HObj := .cells 122 [jI 12, .str [67, 79, 85, 78, 84], zI, zI, zB, zI, zT, zI, zI, zB, zB, zB, zT, zI, zI, zB, zB, zB, zI, .nilSl] false
def N184 : HObj := .cells 122 [jI 12, .str [67, 79, 85, 78, 84], zI, zI, zB, zI, zT, zI, zI, zB, zB, zB, zT, zI, zI, zB, zB, zB, zI, .hsl 20 10 0 1 none] false
def N185 (a : Bz) (b c : Int) (d e : Bool) (f g : Int) (h i : Bool) : HObj := .cells 122 [jI 6, zT, zI, zI, zB, zI, .str a, jI b, jI c, .bool d, .bool e, zB, zT, jI f, jI g, .bool h, .bool i, zB, zI, .nilSl] true
def A0h : HObj := .cells 122 [jI 7, .str [114, 97, 116, 101], zI, zI, zB, zI, zT, zI, zI, zB, zB, zB, zT, zI, zI, zB, zB, zB, zI, .nilSl] false
def N187 : HObj := .cells 122 [jI 7, .str [114, 97, 116, 101], zI, zI, zB, zI, zT, zI, zI, zB, zB, zB, zT, zI, zI, zB, zB, zB, zI, .nilSl] true
def A0c : HObj := .cells 122 [jI 7, .str [79, 119, 110], zI, zI, zB, zI, zT, zI, zI, zB, zB, zB, zT, zI, zI, zB, zB, zB, zI, .nilSl] false
def N189 : HObj := .cells 122 [jI 7, .str [79, 119, 110], zI, zI, zB, zI, zT, zI, zI, zB, zB, zB, zT, zI, zI, zB, zB, zB, zI, .nilSl] true
def A1j : HObj := .cells 122 [jI 12, .str [83, 85, 77], zI, zI, zB, zI, zT, zI, zI, zB, zB, zB, zT, zI, zI, zB, zB, zB, zI, N58] false
def N191 : HObj := .cells 122 [jI 12, .str [83, 85, 77], zI, zI, zB, zI, zT, zI, zI, zB, zB, zB, zT, zI, zI, zB, zB, zB, zI, N58] true
def N192 : HObj := .cells 122 [jI 12, .str [83, 85, 77], zI, zI, zB, zI, zT, zI, zI, zB, zB, zB, zT, zI, zI, zB, zB, zB, zI, .nilSl] false
def N193 : HObj := .cells 122 [jI 12, .str [73, 70], zI, zI, zB, zI, zT, zI, zI, zB, zB, zB, zT, zI, zI, zB, zB, zB, zI, .nilSl] false
def U3 (a : Bz) (b c : Int) (d e : Bool) : HObj := .cells 122 [jI 9, .str [62], zI, zI, zB, zI, zT, zI, zI, zB, zB, zB, zT, zI, zI, zB, zB, zB, zI, N73 a b c d e] false
def N195 : HObj := .cells 122 [jI 9, .str [62], zI, zI, zB, zI, zT, zI, zI, zB, zB, zB, zT, zI, zI, zB, zB, zB, zI, .nilSl] false
def N196 : HObj := .cells 122 [jI 12, .str [73, 70], zI, zI, zB, zI, zT, zI, zI, zB, zB, zB, zT, zI, zI, zB, zB, zB, zI, .hsl 20 10 0 1 none] false
def N197 (a : Bz) (b c : Int) (d e : Bool) : HObj := .cells 122 [jI 9, .str [62], zI, zI, zB, zI, zT, zI, zI, zB, zB, zB, zT, zI, zI, zB, zB, zB, zI, N73 a b c d e] true
def A1d : HObj := .cells 122 [jI 13, zT, zI, zI, zB, zI, zT, zI, zI, zB, zB, zB, zT, zI, zI, zB, zB, zB, jI 2, N80] false
def N199 : HObj := .cells 122 [jI 13, zT, zI, zI, zB, zI, zT, zI, zI, zB, zB, zB, zT, zI, zI, zB, zB, zB, jI 2, N80] true
def N200 : HObj := .cells 122 [jI 16, .str [120], zI, zI, zB, zI, zT, zI, zI, zB, zB, zB, zT, zI, zI, zB, zB, zB, zI, .nilSl] false
def N201 : HObj := .cells 122 [jI 16, .str [120], zI, zI, zB, zI, zT, zI, zI, zB, zB, zB, zT, zI, zI, zB, zB, zB, zI, .hsl 20 10 0 1 none] false
def N202 (a : Bz) (b c : Int) (d e : Bool) : HObj := .cells 122 [jI 9, .str [45], zI, zI, zB, zI, zT, zI, zI, zB, zB, zB, zT, zI, zI, zB, zB, zB, zI, N96 a b c d e] false
def N203 : HObj := .cells 122 [jI 9, .str [45], zI, zI, zB, zI, zT, zI, zI, zB, zB, zB, zT, zI, zI, zB, zB, zB, zI, .hsl 20 16 0 1 none] false
def A0r : HObj := .cells 122 [jI 9, .str [42], zI, zI, zB, zI, zT, zI, zI, zB, zB, zB, zT, zI, zI, zB, zB, zB, zI, N95] false
def N205 : HObj := .cells 122 [jI 9, .str [42], zI, zI, zB, zI, zT, zI, zI, zB, zB, zB, zT, zI, zI, zB, zB, zB, zI, N95] true
def N206 : HObj := .cells 122 [jI 16, .str [102], zI, zI, zB, zI, zT, zI, zI, zB, zB, zB, zT, zI, zI, zB, zB, zB, zI, .hsl 20 10 0 1 none] false
def A0f : HObj := .cells 122 [jI 14, .str [110], zI, zI, zB, zI, zT, zI, zI, zB, zB, zB, zT, zI, zI, zB, zB, zB, zI, N106] false
def N208 : HObj := .cells 122 [jI 14, .str [110], zI, zI, zB, zI, zT, zI, zI, zB, zB, zB, zT, zI, zI, zB, zB, zB, zI, N106] true
def N209 (a : Bz) (b c : Int) (d e : Bool) : HObj := .cells 122 [jI 12, .str [70], zI, zI, zB, zI, zT, zI, zI, zB, zB, zB, zT, zI, zI, zB, zB, zB, zI, N28 a b c d e] false
def N210 : HObj := .cells 122 [jI 12, .str [70], zI, zI, zB, zI, zT, zI, zI, zB, zB, zB, zT, zI, zI, zB, zB, zB, zI, .nilSl] false
def N211 : HObj := .cells 122 [jI 9, .str [38], zI, zI, zB, zI, zT, zI, zI, zB, zB, zB, zT, zI, zI, zB, zB, zB, zI, .nilSl] false
def N212 : HObj := .cells 122 [jI 9, .str [47], zI, zI, zB, zI, zT, zI, zI, zB, zB, zB, zT, zI, zI, zB, zB, zB, zI, .hsl 20 10 0 1 none] false
def A1o : HObj := .cells 122 [jI 1, zT, jI 1, zI, zB, zI, zT, zI, zI, zB, zB, zB, zT, zI, zI, zB, zB, zB, zI, .nilSl] false
def N214 : HObj := .cells 122 [jI 1, zT, jI 1, zI, zB, zI, zT, zI, zI, zB, zB, zB, zT, zI, zI, zB, zB, zB, zI, .nilSl] true
def Be (a b : Int) : HObj := .cells 24 [jI a, jI b] false
def F9 (a : Int) : HObj := .cells 24 [jI 1, jI a] false
def F8 : HObj := .cells 24 [zI, zI] false
def Rt (a b c : Int) : AVal := .tup [.agg [jI a, jI b], jI c]
def A0m (a b : Int) : AVal := .tup [.agg [jI a, jI b], zI]
def A1x (a b c : Int) (d : Bz) (e : Bool) : AVal := .agg [jI a, jI b, jI c, .str d, .bool e]
def N221 (a b : Int) : AVal := .agg [jI 1, jI a, jI b, zT, zB, zI, zI, zI, .nilSl, zI, .nilSl, .nilSl]
def N222 (a b : Int) : AVal := .tup [.agg [jI a, jI b], jI 10]
def N223 : AVal := .agg [jI 1, zI, zI, zT, zB, zI, zI, zI, .nilSl, zI, .nilSl, .nilSl]
def U4 (a : Bz) : AVal := .agg [jI 2, zI, zI, .str a, zB, zI, zI, zI, .nilSl, zI, .nilSl, .nilSl]
def N225 : AVal := .tup [.str [70, 65, 76, 83, 69], zI]
def N226 : AVal := .tup [.str [35, 78, 85, 76, 76, 33], zI]
def N227 : AVal := .tup [.str [35, 68, 73, 86, 47, 48, 33], zI]
def N228 : AVal := .tup [.str [35, 86, 65, 76, 85, 69, 33], zI]
def N229 : AVal := .tup [.str [35, 82, 69, 70, 33], zI]
def N230 : AVal := .tup [.str [35, 78, 65, 77, 69, 63], zI]
def N231 : AVal := .tup [.str [35, 78, 85, 77, 33], zI]
def N232 : AVal := .tup [.str [35, 83, 80, 73, 76, 76, 33], zI]
def N233 : AVal := .tup [.str [35, 67, 73, 82, 67, 33], zI]
def N234 (a : Int) (b : Bz) (c d : Int) (e : Bz) : AVal := .agg [jI a, .str b, jI c, jI d, .str e]
def N235 (a b : Int) : AVal := .tup [Tv a b, zI]
def N236 (a b : Int) : AVal := .tup [Xq a b, zI]
def N237 (a b : Int) : AVal := .tup [Xh a b, zI]
def A34 (a b : Int) : AVal := .agg [.str [83], jI a, jI b, zB, zB, zB]
def N239 (a b : Int) : AVal := .tup [A34 a b, zI]
def A4h (a b : Int) : AVal := .agg [.str [83], jI a, jI b, .bool true, zB, zB]
def N241 (a b : Int) : AVal := .tup [A4h a b, zI]
def A1y (a b : Int) : AVal := .agg [.str [83], jI a, jI b, zB, .bool true, zB]
def N243 (a b : Int) : AVal := .tup [A1y a b, zI]
def A3y (a b : Int) : AVal := .agg [.str [84, 119, 111, 32, 120], jI a, jI b, zB, zB, zB]
def N245 (a b : Int) : AVal := .tup [A3y a b, zI]
def A47 (a b : Int) : AVal := .agg [.str [84, 119, 111, 32, 120], jI a, jI b, .bool true, zB, zB]
def N247 (a b : Int) : AVal := .tup [A47 a b, zI]
def A29 (a b : Int) : AVal := .agg [.str [84, 119, 111, 32, 120], jI a, jI b, zB, .bool true, zB]
def N249 (a b : Int) : AVal := .tup [A29 a b, zI]
def A3w (a b : Int) : AVal := .agg [.str [116, 104, 105, 114, 100], jI a, jI b, zB, zB, zB]
def N251 (a b : Int) : AVal := .tup [A3w a b, zI]
def A2w (a b : Int) : AVal := .agg [.str [116, 104, 105, 114, 100], jI a, jI b, .bool true, zB, zB]
def N253 (a b : Int) : AVal := .tup [A2w a b, zI]
def A3b (a b : Int) : AVal := .agg [.str [116, 104, 105, 114, 100], jI a, jI b, zB, .bool true, zB]
def N255 (a b : Int) : AVal := .tup [A3b a b, zI]
def Rm : AVal := .agg [.row 2 [.agg [.str [83], .nilSl]], .nilSl, .nilSl, .nilSl]
def N257 : AVal := .agg [.str [84, 119, 111, 32, 120], .nilSl]
def Io : AVal := .agg [.row 2 [.agg [.str [83], .nilSl], N257], .nilSl, .nilSl, .nilSl]
def Fj : AVal := .agg [.row 2 [.agg [.str [83], .nilSl], N257, .agg [.str [116, 104, 105, 114, 100], .nilSl]], .nilSl, .nilSl, .nilSl]
def N260 : AVal := .agg [zI, .nilSl, zB, zB, .nilSl]
def N261 : AVal := .agg [jI 1, .nilSl, zB, zB, .nilSl]
def N262 : AVal := .agg [jI 2, .nilSl, zB, zB, .nilSl]
def C3 (a b c d e : Int) : AVal := .agg [jI a, jI b, jI c, jI d, jI e]
def N264 (a b : Int) : AVal := .agg [jI 1, .str [83], jI a, jI b, zT]
def N265 (a b : Int) : AVal := .agg [jI 2, .str [83], jI a, jI b, zT]
def N266 (a b : Int) : AVal := .agg [jI 3, .str [83], jI a, jI b, zT]
def N267 (a b : Int) : AVal := .agg [jI 4, .str [83], jI a, jI b, zT]
def N268 : AVal := .agg [jI 6, .str [83], zI, zI, zT]
def N269 : AVal := .agg [jI 5, .str [83], zI, zI, .str [78, 101, 119]]
def N270 : AVal := .agg [jI 5, .str [83], zI, zI, .str [105, 116, 39, 115]]
def N271 : AVal := .agg [jI 5, .str [83], zI, zI, .str [115]]
def N272 : AVal := .agg [jI 5, .str [83], zI, zI, .str [116, 119, 111, 32, 88]]
def N273 (a b : Int) : AVal := .agg [jI 1, .str [84, 119, 111, 32, 120], jI a, jI b, zT]
def N274 (a b : Int) : AVal := .agg [jI 2, .str [84, 119, 111, 32, 120], jI a, jI b, zT]
def N275 (a b : Int) : AVal := .agg [jI 3, .str [84, 119, 111, 32, 120], jI a, jI b, zT]
def N276 (a b : Int) : AVal := .agg [jI 4, .str [84, 119, 111, 32, 120], jI a, jI b, zT]
def N277 : AVal := .agg [jI 6, .str [84, 119, 111, 32, 120], zI, zI, zT]
def N278 : AVal := .agg [jI 5, .str [84, 119, 111, 32, 120], zI, zI, .str [78, 101, 119]]
def N279 : AVal := .agg [jI 5, .str [84, 119, 111, 32, 120], zI, zI, .str [105, 116, 39, 115]]
def N280 : AVal := .agg [jI 5, .str [84, 119, 111, 32, 120], zI, zI, .str [115]]
def N281 : AVal := .agg [jI 5, .str [84, 119, 111, 32, 120], zI, zI, .str [116, 119, 111, 32, 88]]
def N282 : AVal := .tup [.agg [zT, jI 1, zI, zB, zB, zB], zI]
def N283 : AVal := .tup [.agg [zT, jI 2, zI, zB, zB, zB], zI]
def N284 : AVal := .tup [N166, zI]
def N285 : AVal := .tup [.agg [zT, jI 3, zI, zB, zB, zB], zI]
def N286 : AVal := .agg [jI 5, .str [65, 50], zI]
def N287 : AVal := .row 3 [N286, .agg [jI 8, .str [43], jI 2], .agg [jI 5, .str [65, 51], jI 3], .agg [jI 8, .str [43], jI 5], .agg [jI 7, .str [83, 85, 77], jI 6], .agg [jI 8, .str [40], jI 9], .agg [jI 5, .str [65, 49], jI 10], .agg [jI 8, .str [58], jI 12], .agg [jI 5, .str [65, 52], jI 13], .agg [jI 8, .str [41], jI 15]]
def N288 : AVal := .tup [N287, zI, zI]
def N289 : AVal := .agg [jI 5, zT, zI, zI, zB, zI, zT, jI 1, zI, zB, zB, zB, zT, zI, zI, zB, zB, zB, zI, .nilSl]
def N290 : AVal := .agg [jI 5, zT, zI, zI, zB, zI, zT, jI 2, zI, zB, zB, zB, zT, zI, zI, zB, zB, zB, zI, .nilSl]
def A3x : AVal := .agg [jI 9, .str [43], zI, zI, zB, zI, zT, zI, zI, zB, zB, zB, zT, zI, zI, zB, zB, zB, zI, .row 20 [N289, N290]]
def N292 : AVal := .tup [jI 2, jI 3, .bool true]
def N293 : AVal := .agg [jI 12, .str [83, 85, 77], zI, zI, zB, zI, zT, zI, zI, zB, zB, zB, zT, zI, zI, zB, zB, zB, zI, .row 20 [.agg [jI 6, zT, zI, zI, zB, zI, zT, zI, zI, zB, zB, zB, zT, jI 3, zI, zB, zB, zB, zI, .nilSl]]]
def We : AVal := .tup [jI 2, jI 2, .bool true]
def N295 : AVal := .tup [.agg [jI 9, .str [43], zI, zI, zB, zI, zT, zI, zI, zB, zB, zB, zT, zI, zI, zB, zB, zB, zI, .row 20 [A3x, N293]], zI, zI]
def Yw : AVal := .agg [jI 9, .str [43], zI, zI, zB, zI, zT, zI, zI, zB, zB, zB, zT, zI, zI, zB, zB, zB, zI, .row 20 [N289, .agg [jI 5, zT, zI, zI, zB, zI, zT, jI 5, zI, zB, zB, zB, zT, zI, zI, zB, zB, zB, zI, .nilSl]]]
def N297 : AVal := .row 20 [.agg [jI 6, zT, zI, zI, zB, zI, zT, zI, zI, zB, zB, zB, zT, jI 6, zI, zB, zB, zB, zI, .nilSl]]
def N298 : AVal := .agg [jI 12, .str [83, 85, 77], zI, zI, zB, zI, zT, zI, zI, zB, zB, zB, zT, zI, zI, zB, zB, zB, zI, N297]
def N299 : AVal := .agg [jI 9, .str [43], zI, zI, zB, zI, zT, zI, zI, zB, zB, zB, zT, zI, zI, zB, zB, zB, zI, .row 20 [Yw, N298]]
def N300 : AVal := .tup [.str [65, 50, 43, 65, 54, 43, 83, 85, 77, 40, 65, 49, 58, 65, 55, 41], zI]
def N301 : AVal := .agg [jI 1, .str [115], jI 2, jI 3, zT]
def N302 : AVal := .tup [.str [61, 65, 50, 43, 65, 54, 43, 83, 85, 77, 40, 65, 49, 58, 65, 55, 41], zI]
def N303 : AVal := .tup [.agg [zT, jI 4, zI, zB, zB, zB], zI]
def N304 : AVal := .row 3 [N286, .agg [jI 8, .str [43], jI 2], .agg [jI 7, .str [83, 85, 77], jI 3], .agg [jI 8, .str [40], jI 6], .agg [jI 5, .str [65, 50], jI 7], .agg [jI 8, .str [58], jI 9], .agg [jI 5, .str [65, 53], jI 10], .agg [jI 8, .str [41], jI 12]]
def N305 : AVal := .tup [N304, zI, zI]
def N306 : AVal := .agg [jI 12, .str [83, 85, 77], zI, zI, zB, zI, zT, zI, zI, zB, zB, zB, zT, zI, zI, zB, zB, zB, zI, .row 20 [.agg [jI 6, zT, zI, zI, zB, zI, zT, jI 1, zI, zB, zB, zB, zT, jI 4, zI, zB, zB, zB, zI, .nilSl]]]
def N307 : AVal := .agg [jI 9, .str [43], zI, zI, zB, zI, zT, zI, zI, zB, zB, zB, zT, zI, zI, zB, zB, zB, zI, .row 20 [N289, N306]]
def N308 : AVal := .tup [jI 3, jI 4, .bool true]
def N309 : AVal := .tup [N307, zI, zI]
def N310 : AVal := .row 20 [.agg [jI 6, zT, zI, zI, zB, zI, zT, jI 1, zI, zB, zB, zB, zT, jI 2, zI, zB, zB, zB, zI, .nilSl]]
def N311 : AVal := .agg [jI 12, .str [83, 85, 77], zI, zI, zB, zI, zT, zI, zI, zB, zB, zB, zT, zI, zI, zB, zB, zB, zI, N310]
def N312 : AVal := .agg [jI 9, .str [43], zI, zI, zB, zI, zT, zI, zI, zB, zB, zB, zT, zI, zI, zB, zB, zB, zI, .row 20 [N20, N311]]
def N313 : AVal := .agg [jI 2, .str [83], jI 1, jI 2, zT]
def N314 : AVal := .tup [.str [61, 35, 82, 69, 70, 33, 43, 83, 85, 77, 40, 65, 50, 58, 65, 51, 41], zI]
def N315 : AVal := .row 3 [N286]
def N316 : AVal := .tup [N315, zI, zI]
def N317 : AVal := .tup [N289, zI, zI]
def N318 : AVal := .row 3 [.agg [jI 5, .str [65, 49], zI]]
def N319 : AVal := .tup [N318, zI, zI]
def N320 : AVal := .tup [.agg [jI 5, zT, zI, zI, zB, zI, zT, zI, zI, zB, zB, zB, zT, zI, zI, zB, zB, zB, zI, .nilSl], zI, zI]
def N321 : AVal := .row 3 [.agg [jI 5, .str [65, 51], zI]]
def N322 : AVal := .tup [N321, zI, zI]
def N323 : AVal := .tup [N290, zI, zI]
end Go.Abs
namespace Go.Abs
open Go.RowKit Go.Proofs
variable {P : Program} {W0 : World} {F : Nat → Prop} {bs : List Nat} {H : Hz} {w : World}
def A0a (P : Program) (f : Nat) : Bool :=
 match P.funcs[f]? with
 | some fn => fn.body.isSome && !(fn.name == "runtime.NumGoroutine")
 | none => false
theorem Na {f : Nat} (h : A0a P f = true) : Ix P f := by
 unfold A0a at h
 split at h
 · rename_i fn hf
   simp only [bAt, Bool.not_eq_true', bFn] at h
   obtain ⟨c, hc⟩ := Option.isSome_iff_exists.1 h.1
   exact ⟨fn, c, hf, hc, h.2⟩
 · cases h
theorem A07 {w' : World} (hb : Below w.heap.size w w') (hl : ∀ (i : Nat) (o : HObj), H[i]? = some o → ∀ b, bs[i]? = some b → b < w.heap.size) : Ext bs H w bs H w' := by
 refine ⟨hb.size, fun k hk _ => hb.block k hk, fun k hk => .inl hk, fun i o ho => ⟨o, ho, ?_⟩⟩
 cases o with
 | dead => simp [Bi]
 | iter s p => exact .inr ⟨s, p, rfl, rfl⟩
 | cells T cs op =>
   cases op with
   | false => exact .inr ⟨T, cs, rfl, rfl, rfl⟩
   | true =>
     refine .inr ⟨T, cs, rfl, .inr ⟨rfl, rfl, fun b hbb => ?_⟩⟩
     have := hb.block b (hl i _ ho b hbb)
     unfold Dp
     rw [this]
theorem Ac.below {w' : World} (hh : Ac W0 F bs H w) (hb : Below w.heap.size w w') : Ac W0 F bs H w' ∧ Ext bs H w bs H w' := by
 have he : Ext bs H w bs H w' := A07 hb (fun i o ho b hbb => (hh.low b (mGe hbb)).2)
 have h0 : W0.heap.size ≤ w.heap.size := hh.base.size
 refine ⟨⟨hh.len, hh.base.trans ⟨hb.os, hb.tape, hb.output, hb.size, fun k hk => hb.block k (by omega)⟩, fun b hbm => ⟨(hh.low b hbm).1, nLl (hh.low b hbm).2 hb.size⟩, hh.nodup, fun b hF => ⟨(hh.forb b hF).1, nLl (hh.forb b hF).2.1 hb.size, (hh.forb b hF).2.2⟩, fun i o b ho hbb => ?_⟩, he⟩
 have hlt := (hh.low b (mGe hbb)).2
 have hblk := hb.block b hlt
 have h1 := hh.obj i o b ho hbb
 cases o with
 | dead => trivial
 | iter s p => simp only [J9] at h1 ⊢; rw [hblk]; exact h1
 | cells T cs op =>
   cases op with
   | false => simp only [J9] at h1 ⊢; obtain ⟨vs, rest, fr, q1, q2, q3⟩ := h1; exact ⟨vs, rest, fr, by rw [hblk]; exact q1, A9.ext he _ _ q2, q3⟩
   | true => simp only [J9] at h1 ⊢; obtain ⟨vs, rest, q1, q2⟩ := h1; exact ⟨vs, rest, by rw [hblk]; exact q1, A9.ext he _ _ q2⟩
theorem A3.of_below {f : Nat} {args : List AVal} {v : AVal} (hb : A0a P f = true)
 (h : ∀ (F : Nat → Prop) (bs : List Nat) (w : World) (cargs : List Value), Ac W0 F bs H w → A9 F bs H w args cargs → Calls P f cargs.toArray w fun e w' => ∃ cv, e = .returned cv ∧ Rep F bs H w' v cv ∧ Below w.heap.size w w') : A3 P W0 f args H v H := by
 refine ⟨Na hb, fun F bs w cargs hh hr => (h F bs w cargs hh hr).mono ?_⟩
 rintro e w' ⟨cv, rfl, h1, h2⟩
 obtain ⟨k1, k2⟩ := hh.below h2
 exact ⟨cv, bs, rfl, h1, k1, k2⟩
theorem P6 (w : World) : ∀ n, Below w.heap.size w (w.drewN n)
 | 0 => Below.refl _ _
 | n + 1 => (P6 w n).drew
theorem Z9 (hh : Ac W0 F bs H w) {g3 g4 : Nat} (hT : Lib.Utf8Tabs g3 g4 W0) : Lib.Utf8Tabs g3 g4 w := Utf8Tabs_below hT hh.base
theorem Q4 (hh : Ac W0 F bs H w) {g : Nat} {v : Value} (h : W0.cell? ⟨g, 0, none⟩ = some v) : w.cell? ⟨g, 0, none⟩ = some v := by
 rw [← h]
 exact World.cell?_of_block (a := ⟨g, 0, none⟩) (hh.base.block g (World.block_lt_of_cell? W0 ⟨g, 0, none⟩ h))
def Nl : AVal → Bool
 | .bool _ | .int _ _ | .str _ => true
 | _ => false
def expo (H : Hz) : AVal → Option AVal
 | .ptr id off => match H[id]? with
   | some (.cells _ cs false) => match cs[off]? with
     | some c => cond (Nl c) (some (.eptr c 0)) none
     | none => none
   | _ => none
 | v => cond (Nl v) (some v) none
def Qp (H : Hz) : List AVal → Option (List AVal)
 | [] => some []
 | v :: r => match expo H v with
   | some x => match Qp H r with
     | some l => some (x :: l)
     | none => none
   | none => none
theorem expo_ok (hh : Ac W0 F bs H w) {v v' : AVal} {cv : Value} (hv : Rep F bs H w v cv) (he : expo H v = some v') : Rep (fun _ => False) [] [] w v' cv := by
 have flat : ∀ {x : AVal}, Nl x = true → Rep F bs H w x cv → Rep (fun _ => False) [] [] w x cv := by
  intro x hx hr
  cases x <;> simp only [Nl, bFt] at hx <;> simpa only [Rep] using hr
 by_cases hp : ∃ id off, v = .ptr id off
 · obtain ⟨id, off, rfl⟩ := hp
   simp only [expo] at he
   split at he
   · rename_i T cs ho
     split at he
     · rename_i c hc
       cases hf : Nl c with
       | false => rw [hf] at he; cases he
       | true =>
         rw [hf] at he
         simp only [cond_true, iS] at he
         subst he
         simp only [Rep, Ey, ho] at hv
         obtain ⟨_, b, hb, rfl⟩ := hv
         have hlow := hh.low b (mGe hb)
         obtain ⟨vs, rest, fr, hcell, hl, _⟩ := hh.obj id _ b ho hb
         obtain ⟨u, hu, hru⟩ := A9.get hl hc
         simp only [Rep]
         refine ⟨b, off, u, rfl, ?_, ⟨by simp, by simp⟩, hlow.2, fun j x hx => ?_⟩
         · cases c <;> simp only [Nl, bFt] at hf <;> simpa only [Rep] using hru
         · have hone : u.cells.toList = [u] := by
            cases c <;> simp only [Nl, bFt] at hf <;> simp only [Rep] at hru <;> subst hru <;> rfl
           rw [hone] at hx
           cases j with
           | zero =>
             simp only [List.getElem?_cons_zero, iS] at hx
             subst hx
             exact P7 hcell hu
           | succ j => simp at hx
     · cases he
   · cases he
 · have : expo H v = cond (Nl v) (some v) none := by
    cases v <;> first | rfl | exact absurd ⟨_, _, rfl⟩ hp
   rw [this] at he
   cases hf : Nl v with
   | false => rw [hf] at he; cases he
   | true =>
     rw [hf] at he
     simp only [cond_true, iS] at he
     subst he
     exact flat hf hv
theorem Vo (hh : Ac W0 F bs H w) : ∀ {vs vs' : List AVal} {cvs : List Value}, A9 F bs H w vs cvs → Qp H vs = some vs' → A9 (fun _ => False) [] [] w vs' cvs
 | [], vs', cvs, hv, he => by
   simp only [Qp, iS] at he
   subst he
   simpa only [A9] using hv
 | v :: r, vs', cvs, hv, he => by
   simp only [Qp] at he
   split at he
   · rename_i x hx
     split at he
     · rename_i l hl
       injection he with he
       subst he
       simp only [A9] at hv ⊢
       obtain ⟨u, us, rfl, h1, h2⟩ := hv
       exact ⟨u, us, rfl, expo_ok hh h1 hx, Vo hh h2 hl⟩
     · cases he
   · cases he
theorem Ac.none (W : World) : Ac W (fun _ => False) [] [] W :=
 ⟨rfl, Below.refl _ _, fun b h => by simp at h, List.nodup_nil, fun b h => h.elim, fun i o b h => by simp at h⟩
theorem W6 {g : Nat} (h : A0a P g = true) : ∀ args w, (callFunc g args).run P w = .ok (.enter g args) w := by
 obtain ⟨fn, c, h1, h2, h3⟩ := Na h
 intro args w
 simp [callFunc, h1, h2, h3, mark]
theorem Vn (hh : Ac W0 F bs H w) {g : Nat} {caps caps' : List AVal} {lb : List Value} {f : Int → Int} (hl : A9 F bs H w caps lb) (he : Qp H caps = some caps')
 (hf : ∀ (W : World) (x : Nat), x ≤ 1114111 → A3 P W g (.int .i32 x :: caps') [] (.int .i32 (f x)) []) : MapGrows P g lb.toArray f w := by
 intro W x hx hb
 have hl' := Vo hh hl he
 have hW : Ext ([] : List Nat) ([] : Hz) w [] [] W := ⟨hb.size, fun k hk _ => hb.block k hk, fun k h => .inl h, fun i o h => by simp at h⟩
 have hl2 := A9.extF (F' := fun _ => False) hW (fun _ _ _ h => h) caps' lb hl'
 have h1 := (hf W x hx).2 (fun _ => False) [] W (.int .i32 x :: lb) (Ac.none W) (by simp only [A9]; exact ⟨_, _, rfl, by simp [Rep], hl2⟩)
 have harr : (Value.int .i32 (x : Int) :: lb).toArray = #[encR x] ++ lb.toArray := by
  apply Array.ext'; simp [encR]
 rw [harr] at h1
 refine h1.mono ?_
 rintro e w' ⟨cv, bs', rfl, k1, k2, k3⟩
 simp only [Rep] at k1
 subst k1
 exact ⟨rfl, k2.base⟩
def asc (l : Bz) : Bool := l.all fun b => Nat.blt b.toNat 128
def Uz (f : Int → Int) (l : Bz) : Bz := l.map fun b => (f (b.toNat : Nat)).toNat.toUInt8
theorem A2o {f : Int → Int} : ∀ (l : Bz), asc l = true → (∀ b ∈ l, 0 ≤ f (b.toNat : Nat) ∧ f (b.toNat : Nat) < 128) → Lib.mapD f l = Uz f l := by
 have go : ∀ (n : Nat) (l : Bz), l.length ≤ n → asc l = true → (∀ b ∈ l, 0 ≤ f (b.toNat : Nat) ∧ f (b.toNat : Nat) < 128) → Lib.mapGoD f n l = Uz f l := by
  intro n
  induction n with
  | zero =>
    intro l hl _ _
    have : l = [] := List.eq_nil_of_length_eq_zero (by omega)
    subst this; rfl
  | succ n ih =>
    intro l hl ha hf
    cases l with
    | nil => rfl
    | cons b r =>
      simp only [asc, List.all_cons, bAt, Nat.blt_eq] at ha
      have h1 := hf b (by simp)
      unfold Lib.mapGoD
      rw [if_neg (by simp), Lib.decodeL_ascii b r ha.1, if_pos h1.1]
      show Lib.encodeRune (f (b.toNat : Nat)) ++ Lib.mapGoD f n r = _
      rw [ih r (by simpa using hl) ha.2 (fun b hb => hf b (by simp [hb]))]
      simp only [Uz, List.map_cons, Lib.encodeRune, Lib.encodeRuneZ_one h1.1 (by omega), List.map_cons, List.map_nil, List.cons_append, List.nil_append]
 intro l
 exact go _ l (Nat.le_refl _)
def H8 : List AVal → Option (List Bz)
 | [] => some []
 | .str s :: r => match H8 r with
   | some l => some (s :: l)
   | none => none
 | _ => none
theorem Sr : ∀ {ys : List AVal} {l : List Bz} {us : List Value}, H8 ys = some l → A9 F bs H w ys us → us = l.map fun s => Value.string ⟨s.toArray⟩
 | [], l, us, h, hr => by
   simp only [H8, iS] at h
   subst h
   simp only [A9] at hr
   subst hr; rfl
 | y :: r, l, us, h, hr => by
   cases y <;> simp only [H8, reduceCtorEq] at h
   rename_i s
   split at h
   · rename_i l' hl
     injection h with h
     subst h
     simp only [A9, Rep] at hr
     obtain ⟨u, us', rfl, rfl, h2⟩ := hr
     rw [Sr hl h2]
     rfl
   · cases h
theorem Xv (_ : Ac W0 F bs H w) {k : Nat} {y : AVal} {ys : List AVal} {m c : Nat} {a : Addr} (hy : Rep F bs H w y (.slice (some a) m c)) (h : F5 k H y = some (ys, m)) (hm : m ≠ 0) : a.spot = none ∧ m ≤ c := by
 cases y <;> simp only [F5] at h <;> try (cases h; done)
 case nilSl => simp only [iS, iP] at h; omega
 case emp => simp only [iS, iP] at h; omega
 case row k' es =>
  cases hk : Nat.beq k k' with
  | false => rw [hk] at h; cases h
  | true =>
    simp only [Rep] at hy
    obtain ⟨a', cap, vs, he, hl, hk, hrow⟩ := hy
    injection he with e1 e2 e3
    subst e1; subst e3
    have := hl.length
    exact ⟨hrow.1, by have := hrow.2.1; omega⟩
 case hsl k' id off len cap =>
  cases hk : Nat.beq k k' with
  | false => rw [hk] at h; cases h
  | true =>
    rw [hk] at h
    have := nBq hk; subst this
    simp only [cond_true] at h
    simp only [Rep] at hy
    obtain ⟨_, hy⟩ := hy
    unfold D8 at hy
    split at h
    · rename_i T cs ho
      simp only [iS, iP] at h; obtain ⟨rfl, rfl⟩ := h
      rw [ho] at hy
      obtain ⟨b, c', hb, he, hlc, _⟩ := hy.2 (by simp)
      injection he with e1 e2 e3
      injection e1 with e1
      subst e1; subst e3
      exact ⟨rfl, hlc⟩
    · rename_i T cs ho
      cases hc : (Nat.beq (len * k) cs.length && Nat.beq off 0) with
      | false => rw [hc] at h; cases h
      | true =>
        rw [hc] at h
        simp only [bAt] at hc
        have h1 := nBq hc.1
        have h2 := nBq hc.2
        subst h2
        simp only [cond_true, iS, iP] at h; obtain ⟨rfl, rfl⟩ := h
        rw [ho] at hy
        obtain ⟨b, c', hb, he, hlc, _⟩ := hy.2 (fun _ => ⟨rfl, h1⟩)
        injection he with e1 e2 e3
        injection e1 with e1
        subst e1; subst e3
        exact ⟨rfl, hlc⟩
    · cases h
def Kz : Bz → UInt8 → Int
 | [], _ => -1
 | b :: r, c => cond (decide (0 ≤ Kz r c)) (Kz r c + 1) (cond (Nat.beq b.toNat c.toNat) 0 (-1))
theorem Rb (c : UInt8) : ∀ l : Bz, (Kz l c = -1 ∧ c ∉ l) ∨ ∃ i : Nat, Kz l c = i ∧ l[i]? = some c ∧ ∀ j, i < j → l[j]? ≠ some c
 | [] => .inl ⟨rfl, by simp⟩
 | b :: r => by
   rcases Rb c r with ⟨h1, h2⟩ | ⟨i, h1, h2, h3⟩
   · simp only [Kz, h1]
     have : decide ((0 : Int) ≤ -1) = false := by decide
     rw [this, cond_false]
     cases hb : Nat.beq b.toNat c.toNat with
     | true =>
       have hbc : b = c := UInt8.toNat_inj.1 (nBq hb)
       subst hbc
       refine .inr ⟨0, rfl, by simp, fun j hj => ?_⟩
       cases j with
       | zero => omega
       | succ j => simp only [List.getElem?_cons_succ]; intro e; exact h2 (mGe e)
     | false =>
       refine .inl ⟨rfl, ?_⟩
       simp only [List.mem_cons, not_or]
       refine ⟨fun e => ?_, h2⟩
       subst e
       simp at hb
   · refine .inr ⟨i + 1, ?_, by simpa using h2, fun j hj => ?_⟩
     · simp only [Kz, h1]
       have : decide ((0 : Int) ≤ (i : Int)) = true := by simp
       rw [this, cond_true]; push_cast; rfl
     · cases j with
       | zero => omega
       | succ j => simp only [List.getElem?_cons_succ]; exact h3 j (by omega)
end Go.Abs
namespace Go.Abs
open Go.Proofs Go.RowKit
abbrev cP (W : World) (f : FuncId) (x : List AVal) (H : Hz) (v : AVal) (H2 : Hz) : Prop := A3 Tryz.prog W f x H v H2
end Go.Abs
