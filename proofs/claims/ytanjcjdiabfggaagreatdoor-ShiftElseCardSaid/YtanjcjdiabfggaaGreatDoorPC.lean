/- A part of the proof that tabula/tabulalaw17.ShiftElse returns true for every input, each argument reading as it did (its card: the last text). No conditions of its own. -/
import Derived.Test.YtanjcjdiabfggaaGreatDoorPB
import Derived.Lib.TrimAscii
namespace Go.Abs
open Go.RowKit
def AOp.kind : AOp → Nat
 | .move _ | .pick _ _ _ | .build _ _ | .bin _ _ _ _ | .un _ _ | .idxStr _ _ | .cutStr _ _ _ | .extract _ _ | .mkfn _ _ _ | .len _ _ | .iface _ _ | .mm _ _ _ | .eqs _ _ _ _ | .field _ _ _ _ | .idxVal _ _ _ _ _ => 0
 | .conv (.int _) _ | .conv .same _ | .conv .i2s _ => 0
 | .load _ _ _ | .nilCheck _ | .fieldAddr _ _ | .idxSl _ _ _ | .idxArr _ _ _ _ | .cutSl _ _ _ _ | .cutArr _ _ _ _ | .conv .b2s _ => 1
 | .call _ _ => 3
 | _ => 2
theorem H5 {G : List (Nat × AVal)} {s : St} {o : AOp} (hk : o.kind = 0 ∨ o.kind = 1) {r : ARes} (h : aop G s o = some r) : ∃ v side, r = .val v s.H side := by
 have hV : ∀ {x : Option AVal}, Jw s.H x = some r → ∃ v side, r = .val v s.H side := fun hx => by
  obtain ⟨v, _, rfl⟩ := Do hx; exact ⟨v, [], rfl⟩
 have hS : ∀ {x : Option AV}, Rl s.H x = some r → ∃ v side, r = .val v s.H side := fun hx => by
  obtain ⟨v, side, _, rfl⟩ := Jx hx; exact ⟨v, side, rfl⟩
 cases o <;> (try (exfalso; revert hk; simp [AOp.kind]; done)) <;> simp only [aop] at h
 case conv c x =>
  split at h
  · rename_i a ha
    cases c <;> (try (exfalso; revert hk; simp [AOp.kind]; done)) <;> simp only [L2] at h
    case int k => cases a <;> simp only [Y7, iS, reduceCtorEq] at h <;> exact ⟨_, _, h.symm⟩
    case same => cases a <;> simp only [Y3, iS, reduceCtorEq] at h <;> exact ⟨_, _, h.symm⟩
    case b2s => exact hV h
    case i2s => cases a <;> simp only [Yr, iS, reduceCtorEq] at h <;> exact ⟨_, _, h.symm⟩
  · cases h
 case idxSl k x i =>
  have hc : ∀ {b : Bool} {y z : Option ARes}, cond b y z = some r → y = some r ∨ z = some r := fun {b} {y} {z} h => by cases b <;> simp_all
  repeat' (split at h)
  all_goals first
   | (cases h; done)
   | (rcases hc h with h' | h'
      · injection h' with h'; exact ⟨_, _, h'.symm⟩
      · first
        | (cases h'; done)
        | (rcases hc h' with h' | h'
           · injection h' with h'; exact ⟨_, _, h'.symm⟩
           · cases h'))
 case len st x =>
  cases st
  · repeat' (split at h)
    all_goals first
     | (cases h; done)
     | (revert h; simp only [cond_false]; intro h; (repeat' (split at h)) <;> first | (cases h; done) | (injection h with h; exact ⟨_, _, h.symm⟩))
  · repeat' (split at h)
    all_goals first
     | (cases h; done)
     | (injection h with h; exact ⟨_, _, h.symm⟩)
 all_goals first
  | exact hV h
  | (repeat' (split at h)) <;> first
    | exact hV h
    | exact hS h
    | (cases h; done)
    | (injection h with h; exact ⟨_, _, h.symm⟩)
    | (revert h; cases (Nat.beq _ _ && _) <;> intro h <;> first | (cases h; done) | (injection h with h; exact ⟨_, _, h.symm⟩))
    | (revert h; cases (Nat.beq _ _) <;> intro h <;> first | (cases h; done) | exact hS h | (injection h with h; exact ⟨_, _, h.symm⟩))
theorem G9 {G : List (Nat × AVal)} {e : Env} {H H' : Hz} {n : Nat} (x : AOpd) : ev G ⟨e, H, n⟩ x = ev G ⟨e, H', n⟩ x := by cases x <;> rfl
theorem oev_H {G : List (Nat × AVal)} {e : Env} {H H' : Hz} {n : Nat} (x : Option AOpd) : oev G ⟨e, H, n⟩ x = oev G ⟨e, H', n⟩ x := by
 cases x with
 | none => rfl
 | some x => simp only [oev]; rw [G9 x]
theorem Zd {G : List (Nat × AVal)} {e : Env} {H H' : Hz} {n : Nat} : ∀ (l : List AOpd), evs G ⟨e, H, n⟩ l = evs G ⟨e, H', n⟩ l
 | [] => rfl
 | x :: l => by simp only [evs]; rw [G9 x, Zd l]
theorem A2t {G : List (Nat × AVal)} {e : Env} {H H' : Hz} {n : Nat} : ∀ (l : List (Nat × Nat × AOpd)), Px G ⟨e, H, n⟩ l = Px G ⟨e, H', n⟩ l
 | [] => rfl
 | (a, b, x) :: l => by simp only [Px]; rw [G9 x, A2t l]
def P2 : Option ARes → Option (AVal × List (Int × Int))
 | some (.val v _ side) => some (v, side)
 | _ => none
theorem Ls {H H' : Hz} (x : Option AVal) : P2 (Jw H x) = P2 (Jw H' x) := by cases x <;> rfl
theorem ares0_S {H H' : Hz} (x : Option AV) : P2 (Rl H x) = P2 (Rl H' x) := by cases x <;> rfl
theorem R6 {G : List (Nat × AVal)} {e : Env} {H H' : Hz} {n : Nat} {o : AOp} (hk : o.kind = 0) : P2 (aop G ⟨e, H, n⟩ o) = P2 (aop G ⟨e, H', n⟩ o) := by
 cases o <;> (try (exfalso; revert hk; simp [AOp.kind]; done)) <;> simp only [aop]
 case move x => rw [G9 x]; exact Ls _
 case pick c a b =>
  rw [G9 (H := H) (H' := H') c, G9 (H := H) (H' := H') a, G9 (H := H) (H' := H') b]
  split
  · exact Ls _
  · rfl
 case build zs ps =>
  rw [A2t (H := H) (H' := H') ps]
  split
  · split <;> rfl
  · rfl
 case bin op d x y =>
  rw [G9 (H := H) (H' := H') x, G9 (H := H) (H' := H') y]
  split
  · split
    · exact ares0_S _
    · rfl
  · rfl
 case un op x =>
  rw [G9 (H := H) (H' := H') x]
  split
  · exact Ls _
  · rfl
 case conv c x =>
  rw [G9 (H := H) (H' := H') x]
  split
  · rename_i a ha
    cases c <;> (try (exfalso; revert hk; simp [AOp.kind]; done)) <;> simp only [L2] <;> cases a <;> rfl
  · rfl
 case idxStr x i =>
  rw [G9 (H := H) (H' := H') x, G9 (H := H) (H' := H') i]
  split
  · split <;> rfl
  · rfl
 case cutStr x lo hi =>
  rw [G9 (H := H) (H' := H') x, oev_H (H := H) (H' := H') lo, oev_H (H := H) (H' := H') hi]
  split
  · split
    · split <;> rfl
    · rfl
  · rfl
 case extract x i =>
  rw [G9 (H := H) (H' := H') x]
  split
  · exact Ls _
  · rfl
 case mkfn f a b =>
  rw [Zd (H := H) (H' := H') a, Zd (H := H) (H' := H') b]
  split
  · split <;> rfl
  · rfl
 case len st x =>
  rw [G9 (H := H) (H' := H') x]
  split
  · cases st <;> rfl
  · cases st
    · simp only [cond_false]; split <;> rfl
    · rfl
  · rfl
 case mm b x y =>
  rw [G9 (H := H) (H' := H') x, G9 (H := H) (H' := H') y]
  split
  · split <;> rfl
  · rfl
 case eqs b e0 x y =>
  rw [G9 (H := H) (H' := H') x, G9 (H := H) (H' := H') y]
  split
  · split
    · split <;> rfl
    · rfl
  · rfl
 case idxVal a b c x y =>
  rw [G9 (H := H) (H' := H') x, G9 (H := H) (H' := H') y]
  split
  · split
    · split <;> rfl
    · rfl
  · rfl
 case field a b c x =>
  rw [G9 (H := H) (H' := H') x]
  split
  · exact Ls _
  · rfl
 case iface T x =>
  rw [G9 (H := H) (H' := H') x]
  split <;> rfl
def bEq (a b : Bool) : Bool := cond a b (not b)
theorem A37 {a b : Bool} (h : bEq a b = true) : a = b := by cases a <;> cases b <;> first | rfl | cases h
def onEq : Option Nat → Option Nat → Bool
 | none, none => true
 | some a, some b => Nat.beq a b
 | _, _ => false
theorem onEq_eq {a b : Option Nat} (h : onEq a b = true) : a = b := by
 cases a <;> cases b <;> simp only [onEq, bFt] at h
 · rfl
 · rw [nBq h]
mutual
def Gh : AVal → AVal → Bool
 | .bool a, .bool b => bEq a b
 | .int k a, .int j b => Pq k j && decide (a = b)
 | .str a, .str b => decide (a = b)
 | .agg a, .agg b => J1 a b
 | .tup a, .tup b => J1 a b
 | .nilSl, .nilSl => true
 | .emp, .emp => true
 | .row k a, .row j b => Nat.beq k j && J1 a b
 | .hsl k i o l c, .hsl k' i' o' l' c' => Nat.beq k k' && Nat.beq i i' && Nat.beq o o' && Nat.beq l l' && onEq c c'
 | .nilPtr, .nilPtr => true
 | .ptr i o, .ptr i' o' => Nat.beq i i' && Nat.beq o o'
 | .optr i o l, .optr i' o' l' => Nat.beq i i' && Nat.beq o o' && Nat.beq l l'
 | .eptr e o, .eptr e' o' => Gh e e' && Nat.beq o o'
 | .fn f a c, .fn f' a' c' => Nat.beq f f' && J1 a a' && J1 c c'
 | .nilFn, .nilFn => true
 | .iface t x, .iface t' x' => Nat.beq t t' && Gh x x'
 | .nilIf, .nilIf => true
 | _, _ => false
def J1 : List AVal → List AVal → Bool
 | [], [] => true
 | a :: as, b :: bs => Gh a b && J1 as bs
 | _, _ => false
end
mutual
theorem M7 : ∀ (a b : AVal), Gh a b = true → a = b
 | .bool a, b, h => by cases b <;> simp only [Gh, bFt] at h; rw [A37 h]
 | .int k a, b, h => by
   cases b <;> simp only [Gh, bFt, bAt, dTe] at h
   rw [Ui h.1, h.2]
 | .str a, b, h => by
   cases b <;> simp only [Gh, bFt, dTe] at h
   rw [h]
 | .agg a, b, h => by
   cases b <;> simp only [Gh, bFt] at h
   rw [G6 _ _ h]
 | .tup a, b, h => by
   cases b <;> simp only [Gh, bFt] at h
   rw [G6 _ _ h]
 | .nilSl, b, h => by cases b <;> simp only [Gh, bFt] at h; rfl
 | .emp, b, h => by cases b <;> simp only [Gh, bFt] at h; rfl
 | .row k a, b, h => by
   cases b <;> simp only [Gh, bFt, bAt] at h
   rw [nBq h.1, G6 _ _ h.2]
 | .hsl k i o l c, b, h => by
   cases b <;> simp only [Gh, bFt, bAt] at h
   rw [nBq h.1.1.1.1, nBq h.1.1.1.2, nBq h.1.1.2, nBq h.1.2, onEq_eq h.2]
 | .nilPtr, b, h => by cases b <;> simp only [Gh, bFt] at h; rfl
 | .ptr i o, b, h => by
   cases b <;> simp only [Gh, bFt, bAt] at h
   rw [nBq h.1, nBq h.2]
 | .optr i o l, b, h => by
   cases b <;> simp only [Gh, bFt, bAt] at h
   rw [nBq h.1.1, nBq h.1.2, nBq h.2]
 | .eptr e o, b, h => by
   cases b <;> simp only [Gh, bFt, bAt] at h
   rw [M7 _ _ h.1, nBq h.2]
 | .fn f x c, b, h => by
   cases b <;> simp only [Gh, bFt, bAt] at h
   rw [nBq h.1.1, G6 _ _ h.1.2, G6 _ _ h.2]
 | .nilFn, b, h => by cases b <;> simp only [Gh, bFt] at h; rfl
 | .iface t x, b, h => by
   cases b <;> simp only [Gh, bFt, bAt] at h
   rw [nBq h.1, M7 _ _ h.2]
 | .nilIf, b, h => by cases b <;> simp only [Gh, bFt] at h; rfl
theorem G6 : ∀ (a b : List AVal), J1 a b = true → a = b
 | [], b, h => by cases b <;> simp only [J1, bFt] at h; rfl
 | x :: a, b, h => by
   cases b <;> simp only [J1, bFt, bAt] at h
   rw [M7 _ _ h.1, G6 _ _ h.2]
end
def hoEq : HObj → HObj → Bool
 | .cells T a o, .cells T' a' o' => Nat.beq T T' && J1 a a' && bEq o o'
 | .iter s p, .iter s' p' => decide (s = s') && Nat.beq p p'
 | .dead, .dead => true
 | _, _ => false
def A1l : Hz → Hz → Bool
 | [], [] => true
 | a :: as, b :: bs => hoEq a b && A1l as bs
 | _, _ => false
theorem hoEq_eq {a b : HObj} (h : hoEq a b = true) : a = b := by
 cases a <;> cases b <;> simp only [hoEq, bFt, bAt, dTe] at h
 · rw [nBq h.1.1, G6 _ _ h.1.2, A37 h.2]
 · rw [h.1, nBq h.2]
 · rfl
theorem Za : ∀ {a b : Hz}, A1l a b = true → a = b
 | [], b, h => by cases b <;> simp only [A1l, bFt] at h; rfl
 | x :: a, b, h => by
   cases b <;> simp only [A1l, bFt, bAt] at h
   rw [hoEq_eq h.1, Za h.2]
structure SP where
 n : Nat
 kind : List Nat
 mask : List Nat
 states : List Nat
def Ny (masks : List Nat) (o : Oper) : Nat := o.after.toList.foldl (fun m e => cond (Region.binds .any e) (Nat.lor (Nat.lor m (Nat.shiftLeft 1 e.on)) (masks.getD e.on 0)) m) 0
def tb (m i : Nat) : Bool := Nat.testBit m i
def Zc : List Oper → List Nat → List Nat
 | [], acc => acc
 | o :: r, acc => Zc r (acc ++ [Ny acc o])
def D2 (P : Program) (o : Oper) : Nat :=
 match B3 P o.op with
 | some op => op.kind
 | none => 2
def SP.eff (p : SP) (j : Nat) : Bool := Nat.ble 2 (p.kind.getD j 0)
def SP.msk (p : SP) (j i : Nat) : Bool := tb (p.mask.getD j 0) i
def SP.mayB (p : SP) (σ j : Nat) : Bool := (List.range p.n).all fun i => cond (p.eff i) (cond (p.msk j i) (tb σ i) true && cond (p.msk i j) (not (tb σ i)) true) true
def SP.nxt (σ j : Nat) : Nat := Nat.lor σ (Nat.shiftLeft 1 j)
def SP.steps (p : SP) (σ : Nat) : List Nat := (List.range p.n).filter fun j => p.eff j && not (tb σ j) && p.mayB σ j
def A1p (x : Nat) : List Nat → Bool
 | [] => false
 | y :: r => cond (Nat.beq x y) true (A1p x r)
def Y6 : List Nat → List Nat → List Nat → List Nat × List Nat
 | [], acc, new => (acc, new)
 | x :: r, acc, new => cond (A1p x acc) (Y6 r acc new) (Y6 r (acc ++ [x]) (new ++ [x]))
def Wh (p : SP) : Nat → List Nat → List Nat → List Nat
 | 0, _, acc => acc
 | _ + 1, [], acc => acc
 | f + 1, σ :: todo, acc => match Y6 ((p.steps σ).map (SP.nxt σ)) acc [] with
   | (acc', new) => Wh p f (todo ++ new) acc'
def K8 (P : Program) (ops : List Oper) : SP :=
 let p : SP := { n := ops.length, kind := ops.map (D2 P), mask := Zc ops [], states := [] }
 { p with states := Wh p 200 [0] [0] }
def Z7 (o : Oper) (t : Nat) : Bool :=
 match o.dst with
 | some d => Nat.beq d t
 | none => false
def Wn (P : Program) (ops : Array Oper) (p : SP) (j : Nat) (o : Oper) : Bool :=
 (o.after.toList.all fun e => cond (Region.binds .any e) (Nat.blt e.on j) true) &&
 Nat.beq (p.mask.getD j 0) (Ny p.mask o) &&
 Nat.beq (p.kind.getD j 0) (D2 P o) &&
 (List.range p.n).all fun i =>
  match (ops[i]?).bind (·.dst) with
  | none => true
  | some d => (Nat.beq i j || not (Z7 o d)) && ((reads P ops o).all fun t => cond (Nat.beq t d) (p.msk j i || p.msk i j) true)
def SP.allIn (p : SP) (σ : Nat) : Bool := (List.range p.n).all fun i => cond (p.eff i) (tb σ i) true
def SP.fin (p : SP) : Nat := (List.range p.n).foldl (fun σ i => cond (p.eff i) (SP.nxt σ i) σ) 0
def Ld (P : Program) (ops : Array Oper) (p : SP) : Bool :=
 Nat.beq p.n ops.size && A1p 0 p.states &&
 (p.states.all fun σ => (p.steps σ).all fun j => A1p (SP.nxt σ j) p.states) &&
 (p.states.all fun σ => cond (p.allIn σ) (Nat.beq σ p.fin) true) &&
 (List.range ops.size).all fun j =>
  match ops[j]? with
  | some o => Wn P ops p j o
  | none => true
def Kq (P : Program) (G : List (Nat × AVal)) (call : CallF) (ops : Array Oper) (o : Oper) (s : St) : Option (AVal × Hz) :=
 match C9 ops s o.guard with
 | some true => match B3 P o.op with
   | some op => Wc call s.H (aop G s op)
   | none => none
 | some false => some (.tup [], s.H)
 | none => none
abbrev HMap := List (Nat × Hz)
def lkH (σ : Nat) : HMap → Option Hz
 | [] => none
 | p :: r => cond (Nat.beq σ p.1) (some p.2) (lkH σ r)
structure Tr where
 env : Env
 v : AVal
 σ : Nat
def O0 (P : Program) (G : List (Nat × AVal)) (call : CallF) (ops : Array Oper) (p : SP) (n : Nat) : List Oper → Nat → Env → Nat → Hz → HMap → Option (List Tr × HMap × Env × Hz)
 | [], _, e, _, H, M => some ([], M, e, H)
 | o :: r, j, e, σ, H, M => match Hq o.dst n with
   | true => match Kq P G call ops o ⟨e, H, n⟩ with
     | some (v, H') => match p.eff j with
       | true => match lkH (SP.nxt σ j) M with
         | none => match O0 P G call ops p n r (j + 1) (I1 o.dst v e) (SP.nxt σ j) H' ((SP.nxt σ j, H') :: M) with
           | some (l, rest) => some (⟨e, v, σ⟩ :: l, rest)
           | none => none
         | some _ => none
       | false => match O0 P G call ops p n r (j + 1) (I1 o.dst v e) σ H M with
         | some (l, rest) => some (⟨e, v, σ⟩ :: l, rest)
         | none => none
     | none => none
   | false => none
def Y4 (P : Program) (G : List (Nat × AVal)) (call : CallF) (ops : Array Oper) (n : Nat) (o : Oper) (t : Tr) (σ j : Nat) (M : HMap) : Option HMap :=
 cond (Nat.beq σ t.σ) (some M) (match lkH σ M with
  | some H => match Kq P G call ops o ⟨t.env, H, n⟩ with
    | some (v, H') => cond (Gh v t.v) (match lkH (SP.nxt σ j) M with
      | some H'' => cond (A1l H' H'') (some M) none
      | none => some ((SP.nxt σ j, H') :: M)) none
    | none => none
  | none => none)
def W7 (P : Program) (G : List (Nat × AVal)) (call : CallF) (ops : Array Oper) (n : Nat) (l : List Tr) (σ : Nat) : List Nat → HMap → Option HMap
 | [], M => some M
 | j :: r, M => match ops[j]? with
   | some o => match l[j]? with
     | some t => match Y4 P G call ops n o t σ j M with
       | some M' => W7 P G call ops n l σ r M'
       | none => none
     | none => none
   | none => none
def M3 (P : Program) (G : List (Nat × AVal)) (call : CallF) (ops : Array Oper) (p : SP) (n : Nat) (l : List Tr) : List Nat → HMap → Option HMap
 | [], M => some M
 | σ :: r, M => match W7 P G call ops n l σ (p.steps σ) M with
   | some M' => M3 P G call ops p n l r M'
   | none => none
def Vh (P : Program) (G : List (Nat × AVal)) (call : CallF) (ops : Array Oper) (p : SP) (n : Nat) (M : HMap) (o : Oper) (t : Tr) (j σ : Nat) : Bool :=
 cond (Nat.beq σ t.σ) true (cond (p.mayB σ j) (match lkH σ M with
  | some H => match Kq P G call ops o ⟨t.env, H, n⟩ with
    | some (v, _) => Gh v t.v
    | none => false
  | none => false) true)
def Jl (P : Program) (G : List (Nat × AVal)) (call : CallF) (ops : Array Oper) (p : SP) (n : Nat) (M : HMap) : List Oper → List Tr → Nat → Bool
 | o :: r, t :: l, j => cond (cond (Nat.beq (p.kind.getD j 0) 1) (p.states.all fun σ => Vh P G call ops p n M o t j σ) true) (Jl P G call ops p n M r l (j + 1)) false
 | _, _, _ => true
def Vu (P : Program) (G : List (Nat × AVal)) (call : CallF) (ops : Array Oper) (s : St) : Option St :=
 cond (Ld P ops (K8 P ops.toList)) (match O0 P G call ops (K8 P ops.toList) s.n ops.toList 0 s.env 0 s.H [(0, s.H)] with
  | some (l, M, e, _) => match M3 P G call ops (K8 P ops.toList) s.n l (K8 P ops.toList).states M with
    | some M' => cond (Jl P G call ops (K8 P ops.toList) s.n M' ops.toList l 0) (match lkH (K8 P ops.toList).fin M' with
      | some H => some ⟨e, H, s.n⟩
      | none => none) none
    | none => none
  | none => none) none
theorem Yd (a b i : Nat) : tb (Nat.lor a b) i = (tb a i || tb b i) := Nat.testBit_or a b i
theorem A46 (e i : Nat) : tb (Nat.shiftLeft 1 e) i = decide (e = i) := by
 show ((1 : Nat) <<< e).testBit i = _
 rw [Nat.shiftLeft_eq, Nat.one_mul, Nat.testBit_two_pow]
theorem O8 {masks : List Nat} {o : Oper} {i : Nat} (h : tb (Ny masks o) i = true) : ∃ e ∈ o.after, Region.binds .any e = true ∧ (e.on = i ∨ tb (masks.getD e.on 0) i = true) := by
 have key : ∀ (l : List Edge) (m : Nat), tb (l.foldl (fun m e => cond (Region.binds .any e) (Nat.lor (Nat.lor m (Nat.shiftLeft 1 e.on)) (masks.getD e.on 0)) m) m) i = true →
  tb m i = true ∨ ∃ e ∈ l, Region.binds .any e = true ∧ (e.on = i ∨ tb (masks.getD e.on 0) i = true) := by
  intro l
  induction l with
  | nil => intro m h; exact .inl h
  | cons e l ih =>
    intro m h
    simp only [List.foldl_cons] at h
    rcases ih _ h with h' | ⟨e', he', h'⟩
    · cases hb : Region.binds .any e with
      | false => rw [hb, cond_false] at h'; exact .inl h'
      | true =>
        rw [hb, cond_true, Yd, Yd, A46, Bool.or_eq_true, Bool.or_eq_true, dTe] at h'
        rcases h' with (h' | h') | h'
        · exact .inl h'
        · exact .inr ⟨e, by simp, hb, .inl h'⟩
        · exact .inr ⟨e, by simp, hb, .inr h'⟩
    · exact .inr ⟨e', by simp [he'], h'⟩
 rcases key o.after.toList 0 h with h' | ⟨e, he, h'⟩
 · simp [tb] at h'
 · exact ⟨e, by simpa using he, h'⟩
theorem Hg {x : Nat} : ∀ {l : List Nat}, A1p x l = true → x ∈ l
 | [], h => by cases h
 | y :: r, h => by
   simp only [A1p] at h
   cases hx : Nat.beq x y with
   | true => rw [nBq hx]; simp
   | false => rw [hx] at h; exact List.mem_cons_of_mem _ (Hg h)
section
variable {P : Program} {W0 : World} {G : List (Nat × AVal)} {call : CallF} {ops : Array Oper}
theorem Ie (hc : Eg P W0 call) {o : Oper} {s : St} {v : AVal} {H' : Hz} (h : Kq P G call ops o s = some (v, H')) : Eb P W0 G ops o s fun v' H'' => v' = v ∧ H'' = H' := by
 unfold Kq at h
 unfold Eb
 cases hg : C9 ops s o.guard with
 | none => rw [hg] at h; cases h
 | some b =>
   rw [hg] at h
   cases b with
   | false => simp only [iS, iP] at h; exact ⟨h.1, h.2⟩
   | true =>
     simp only at h ⊢
     cases hop : B3 P o.op with
     | none => rw [hop] at h; cases h
     | some op =>
       rw [hop] at h
       simp only at h ⊢
       cases hr : aop G s op with
       | none => rw [hr] at h; cases h
       | some r =>
         rw [hr] at h
         cases r with
         | val v1 H1 side =>
           simp only [Wc] at h
           cases hsd : Ky side with
           | false => rw [hsd] at h; cases h
           | true =>
             rw [hsd, cond_true] at h
             simp only [iS, iP] at h
             exact ⟨Nr hsd, h.1, h.2⟩
         | skip H1 =>
           simp only [Wc, iS, iP] at h
           exact ⟨h.1, h.2⟩
         | call f args => exact ⟨v, H', hc _ _ _ _ _ h, rfl, rfl⟩
theorem O9 {o : Oper} (hk : D2 P o ≤ 1) {e : Env} {H : Hz} {n : Nat} {v : AVal} {H' : Hz} (h : Kq P G call ops o ⟨e, H, n⟩ = some (v, H')) : H' = H := by
 unfold Kq at h
 cases hg : C9 ops ⟨e, H, n⟩ o.guard with
 | none => rw [hg] at h; cases h
 | some b =>
   rw [hg] at h
   cases b with
   | false => simp only [iS, iP] at h; exact h.2.symm
   | true =>
     simp only at h
     unfold D2 at hk
     cases hop : B3 P o.op with
     | none => rw [hop] at h; cases h
     | some op =>
       rw [hop] at h hk
       simp only at h hk
       cases hr : aop G ⟨e, H, n⟩ op with
       | none => rw [hr] at h; cases h
       | some r =>
         obtain ⟨v1, side, rfl⟩ := H5 (by omega) hr
         rw [hr] at h
         simp only [Wc] at h
         cases hsd : Ky side with
         | false => rw [hsd] at h; cases h
         | true =>
           rw [hsd, cond_true] at h
           simp only [iS, iP] at h
           exact h.2.symm
theorem Yn {o : Oper} (hk : D2 P o = 0) {e : Env} {H : Hz} {n : Nat} {v : AVal} {H' : Hz} (h : Kq P G call ops o ⟨e, H, n⟩ = some (v, H')) (H2 : Hz) : Kq P G call ops o ⟨e, H2, n⟩ = some (v, H2) := by
 have hH := O9 (by omega) h
 subst hH
 unfold Kq at h ⊢
 rw [← Oz (ops := ops) (e := e) (e' := e) (H := H') (H' := H2) (fun _ _ => rfl)]
 cases hg : C9 ops ⟨e, H', n⟩ o.guard with
 | none => rw [hg] at h; cases h
 | some b =>
   rw [hg] at h
   cases b with
   | false => simp only [iS, iP] at h ⊢; exact ⟨h.1, trivial⟩
   | true =>
     simp only at h ⊢
     unfold D2 at hk
     cases hop : B3 P o.op with
     | none => rw [hop] at h; cases h
     | some op =>
       rw [hop] at h hk
       simp only at h hk ⊢
       cases hr : aop G ⟨e, H', n⟩ op with
       | none => rw [hr] at h; cases h
       | some r =>
         obtain ⟨v1, side, rfl⟩ := H5 (by omega) hr
         have h0 := R6 (G := G) (e := e) (H := H') (H' := H2) (n := n) hk
         rw [hr] at h0 h
         cases hr2 : aop G ⟨e, H2, n⟩ op with
         | none => rw [hr2] at h0; cases h0
         | some r2 =>
           obtain ⟨v2, Oq, rfl⟩ := H5 (by omega) hr2
           rw [hr2] at h0
           simp only [P2, iS, iP] at h0
           obtain ⟨h1, h2⟩ := h0
           subst h1; subst h2
           simp only [Wc] at h ⊢
           cases hsd : Ky side with
           | false => rw [hsd] at h; cases h
           | true =>
             rw [hsd, cond_true] at h
             simp only [cond_true, iS, iP] at h ⊢
             exact ⟨h.1, trivial⟩
def Ee (M M' : HMap) : Prop := ∀ σ H, lkH σ M = some H → lkH σ M' = some H
theorem Ee.cons {M : HMap} {σ : Nat} {H : Hz} (h : lkH σ M = none) : Ee M ((σ, H) :: M) := by
 intro σ' H' h'
 simp only [lkH]
 cases hb : Nat.beq σ' σ with
 | true => rw [nBq hb, h] at h'; cases h'
 | false => exact h'
theorem Dy (σ : Nat) (H : Hz) (M : HMap) : lkH σ ((σ, H) :: M) = some H := by
 simp only [lkH]
 rw [show Nat.beq σ σ = true from Nat.beq_refl σ, cond_true]
def C4 (tr : List Tr) (ef : Env) (k : Nat) : Env := (tr[k]?.map Tr.env).getD ef
theorem O7 {p : SP} {n : Nat} : ∀ (l : List Oper) (j : Nat) (e : Env) (σ : Nat) (H : Hz) (M : HMap) {tr : List Tr} {Mf : HMap} {ef : Env} {Hf : Hz}, O0 P G call ops p n l j e σ H M = some (tr, Mf, ef, Hf) → lkH σ M = some H →
 Ee M Mf ∧ tr.length = l.length ∧ C4 tr ef 0 = e ∧
 ∀ k o, l[k]? = some o → ∃ t Hk H', tr[k]? = some t ∧ Hq o.dst n = true ∧ lkH t.σ Mf = some Hk ∧ Kq P G call ops o ⟨t.env, Hk, n⟩ = some (t.v, H') ∧
  (p.eff (j + k) = true → lkH (SP.nxt t.σ (j + k)) Mf = some H') ∧ C4 tr ef (k + 1) = I1 o.dst t.v t.env
 | [], j, e, σ, H, M, tr, Mf, ef, Hf, h, hl => by
   simp only [O0, iS, iP] at h
   obtain ⟨rfl, rfl, rfl, rfl⟩ := h
   exact ⟨fun _ _ h => h, rfl, rfl, fun k o hk => by simp at hk⟩
 | o :: r, j, e, σ, H, M, tr, Mf, ef, Hf, h, hl => by
   simp only [O0] at h
   split at h
   · rename_i hd
     split at h
     · rename_i v H' hv
       split at h
       · rename_i heff
         split at h
         · rename_i hnone
           split at h
           · rename_i l' rest hrest
             simp only [iS, iP] at h
             obtain ⟨rfl, h⟩ := h
             subst h
             obtain ⟨h1, h2, h3, h4⟩ := O7 r (j + 1) _ _ H' _ hrest (Dy _ _ _)
             have hext : Ee M Mf := fun σ' H'' h' => h1 _ _ (Ee.cons hnone _ _ h')
             refine ⟨hext, by simp [h2], rfl, fun k o' hk => ?_⟩
             cases k with
             | zero =>
               simp at hk; subst hk
               exact ⟨_, H, H', rfl, hd, hext _ _ hl, hv, fun _ => h1 _ _ (Dy _ _ _), by simpa [C4] using h3⟩
             | succ k =>
               obtain ⟨t, Hk, Hk', a1, a2, a3, a4, a5, a6⟩ := h4 k o' (by simpa using hk)
               exact ⟨t, Hk, Hk', by simpa using a1, a2, a3, a4, by rw [show j + (k + 1) = j + 1 + k by omega]; exact a5, by simpa [C4] using a6⟩
           · cases h
         · cases h
       · rename_i heff
         split at h
         · rename_i l' rest hrest
           simp only [iS, iP] at h
           obtain ⟨rfl, h⟩ := h
           subst h
           obtain ⟨h1, h2, h3, h4⟩ := O7 r (j + 1) _ _ H _ hrest hl
           refine ⟨h1, by simp [h2], rfl, fun k o' hk => ?_⟩
           cases k with
           | zero =>
             simp at hk; subst hk
             exact ⟨_, H, H', rfl, hd, h1 _ _ hl, hv, fun he => absurd he (by rw [Nat.add_zero, heff]; simp), by simpa [C4] using h3⟩
           | succ k =>
             obtain ⟨t, Hk, Hk', a1, a2, a3, a4, a5, a6⟩ := h4 k o' (by simpa using hk)
             exact ⟨t, Hk, Hk', by simpa using a1, a2, a3, a4, by rw [show j + (k + 1) = j + 1 + k by omega]; exact a5, by simpa [C4] using a6⟩
         · cases h
     · cases h
   · cases h
theorem A0v {n : Nat} {o : Oper} {t : Tr} {σ j : Nat} {M M' : HMap} (h : Y4 P G call ops n o t σ j M = some M') :
 Ee M M' ∧ (σ = t.σ ∨ ∃ H H', lkH σ M' = some H ∧ Kq P G call ops o ⟨t.env, H, n⟩ = some (t.v, H') ∧ lkH (SP.nxt σ j) M' = some H') := by
 unfold Y4 at h
 cases hb : Nat.beq σ t.σ with
 | true => rw [hb, cond_true] at h; injection h with h; subst h; exact ⟨fun _ _ h => h, .inl (nBq hb)⟩
 | false =>
   rw [hb, cond_false] at h
   split at h
   · rename_i H hH
     split at h
     · rename_i v H' hv
       cases hav : Gh v t.v with
       | false => rw [hav] at h; cases h
       | true =>
         have := M7 _ _ hav; subst this
         rw [hav, cond_true] at h
         split at h
         · rename_i H'' hH''
           cases hhe : A1l H' H'' with
           | false => rw [hhe] at h; cases h
           | true =>
             have := Za hhe; subst this
             rw [hhe, cond_true] at h
             injection h with h; subst h
             exact ⟨fun _ _ h => h, .inr ⟨H, H', hH, hv, hH''⟩⟩
         · rename_i hnone
           injection h with h; subst h
           exact ⟨Ee.cons hnone, .inr ⟨H, H', Ee.cons hnone _ _ hH, hv, Dy _ _ _⟩⟩
     · cases h
   · cases h
theorem Vq {n : Nat} {l : List Tr} {σ : Nat} : ∀ {js : List Nat} {M M' : HMap}, W7 P G call ops n l σ js M = some M' →
 Ee M M' ∧ ∀ j ∈ js, ∃ o t, ops[j]? = some o ∧ l[j]? = some t ∧ (σ = t.σ ∨ ∃ H H', lkH σ M' = some H ∧ Kq P G call ops o ⟨t.env, H, n⟩ = some (t.v, H') ∧ lkH (SP.nxt σ j) M' = some H')
 | [], M, M', h => by simp only [W7, iS] at h; subst h; exact ⟨fun _ _ h => h, fun j hj => by cases hj⟩
 | j :: r, M, M', h => by
   simp only [W7] at h
   split at h
   · rename_i o ho
     split at h
     · rename_i t ht
       split at h
       · rename_i M1 h1
         obtain ⟨a1, a2⟩ := A0v h1
         obtain ⟨b1, b2⟩ := Vq h
         refine ⟨fun σ H hh => b1 _ _ (a1 _ _ hh), fun k hk => ?_⟩
         rcases List.mem_cons.1 hk with rfl | hk
         · refine ⟨o, t, ho, ht, a2.imp id ?_⟩
           rintro ⟨H, H', c1, c2, c3⟩
           exact ⟨H, H', b1 _ _ c1, c2, b1 _ _ c3⟩
         · exact b2 k hk
       · cases h
     · cases h
   · cases h
theorem R0 {p : SP} {n : Nat} {l : List Tr} : ∀ {ss : List Nat} {M M' : HMap}, M3 P G call ops p n l ss M = some M' →
 Ee M M' ∧ ∀ σ ∈ ss, ∀ j ∈ p.steps σ, ∃ o t, ops[j]? = some o ∧ l[j]? = some t ∧ (σ = t.σ ∨ ∃ H H', lkH σ M' = some H ∧ Kq P G call ops o ⟨t.env, H, n⟩ = some (t.v, H') ∧ lkH (SP.nxt σ j) M' = some H')
 | [], M, M', h => by simp only [M3, iS] at h; subst h; exact ⟨fun _ _ h => h, fun j hj => by cases hj⟩
 | σ :: r, M, M', h => by
   simp only [M3] at h
   split at h
   · rename_i M1 h1
     obtain ⟨a1, a2⟩ := Vq h1
     obtain ⟨b1, b2⟩ := R0 h
     refine ⟨fun σ H hh => b1 _ _ (a1 _ _ hh), fun τ hτ j hj => ?_⟩
     rcases List.mem_cons.1 hτ with rfl | hτ
     · obtain ⟨o, t, c1, c2, c3⟩ := a2 j hj
       refine ⟨o, t, c1, c2, c3.imp id ?_⟩
       rintro ⟨H, H', c1, c2, c3⟩
       exact ⟨H, H', b1 _ _ c1, c2, b1 _ _ c3⟩
     · exact b2 τ hτ j hj
   · cases h
theorem P3 {p : SP} {n : Nat} {M : HMap} : ∀ {l : List Oper} {tr : List Tr} {j : Nat}, Jl P G call ops p n M l tr j = true → ∀ k o t, l[k]? = some o → tr[k]? = some t → p.kind.getD (j + k) 0 = 1 →
 ∀ σ ∈ p.states, p.mayB σ (j + k) = true → σ = t.σ ∨ ∃ H H', lkH σ M = some H ∧ Kq P G call ops o ⟨t.env, H, n⟩ = some (t.v, H')
 | [], tr, j, _, k, o, t, h1, _, _ => by simp at h1
 | _ :: _, [], j, _, k, o, t, _, h2, _ => by simp at h2
 | o :: r, t :: l, j, h, k, o', t', h1, h2, hk => by
   simp only [Jl] at h
   cases hc : (cond (Nat.beq (p.kind.getD j 0) 1) (p.states.all fun σ => Vh P G call ops p n M o t j σ) true) with
   | false => rw [hc] at h; cases h
   | true =>
     rw [hc, cond_true] at h
     cases k with
     | zero =>
       simp at h1 h2; subst h1; subst h2
       rw [Nat.add_zero] at hk ⊢
       rw [hk] at hc
       simp only [Nat.beq_refl, cond_true] at hc
       intro σ hσ hm
       have := List.all_eq_true.1 hc σ hσ
       unfold Vh at this
       cases hb : Nat.beq σ t.σ with
       | true => exact .inl (nBq hb)
       | false =>
         rw [hb, cond_false, hm, cond_true] at this
         split at this
         · rename_i H hH
           split at this
           · rename_i v H' hv
             have := M7 _ _ this; subst this
             exact .inr ⟨H, H', hH, hv⟩
           · cases this
         · cases this
     | succ k =>
       have := P3 h k o' t' (by simpa using h1) (by simpa using h2) (by rw [show j + 1 + k = j + (k + 1) by omega]; exact hk)
       rw [show j + (k + 1) = j + 1 + k by omega]
       exact this
theorem Xc {p : SP} {N σ j : Nat} (hN : p.n = N) : p.mayB σ j = true ↔ (∀ i, i < N → p.eff i = true → p.msk j i = true → tb σ i = true) ∧ ∀ i, i < N → p.eff i = true → p.msk i j = true → tb σ i = false := by
 unfold SP.mayB
 rw [lAt]
 constructor
 · intro h
   refine ⟨fun i i1 i2 i3 => ?_, fun i i1 i2 i3 => ?_⟩
   · have := h i (List.mem_range.2 (by omega))
     rw [i2, cond_true, i3, cond_true, bAt] at this
     exact this.1
   · have := h i (List.mem_range.2 (by omega))
     rw [i2, cond_true, i3, cond_true, bAt] at this
     simpa using this.2
 · rintro ⟨h1, h2⟩ i hi
   have hi' := List.mem_range.1 hi
   cases he : p.eff i with
   | false => rfl
   | true =>
     rw [cond_true, bAt]
     refine ⟨?_, ?_⟩
     · cases hm : p.msk j i with
       | false => rfl
       | true => exact h1 i (by omega) he hm
     · cases hm : p.msk i j with
       | false => rfl
       | true => rw [cond_true, h2 i (by omega) he hm]; rfl
theorem Yh (σ j i : Nat) : tb (SP.nxt σ j) i = true ↔ tb σ i = true ∨ i = j := by
 unfold SP.nxt
 rw [Yd, A46, Bool.or_eq_true, dTe]
 exact ⟨fun h => h.imp id Eq.symm, fun h => h.imp id Eq.symm⟩
theorem A42 (hc : Eg P W0 call) {s s' : St} (h : Vu P G call ops s = some s') : ∃ p : Plan, I5 P W0 G ops s p ∧ s' = ⟨p.env ops.size, p.Hs p.fin, s.n⟩ := by
 unfold Vu at h
 generalize hsp : K8 P ops.toList = sp at h
 cases hok : Ld P ops sp with
 | false => rw [hok] at h; cases h
 | true =>
   rw [hok, cond_true] at h
   split at h
   · rename_i l M ef Hf hseq
     split at h
     · rename_i M' hloud
       cases hq : Jl P G call ops sp s.n M' ops.toList l 0 with
       | false => rw [hq] at h; cases h
       | true =>
         rw [hq, cond_true] at h
         split at h
         · rename_i Hfin hfin
           injection h with h
           subst h
           simp only [Ld, bAt] at hok
           obtain ⟨⟨⟨⟨k1, k2⟩, k3⟩, k4⟩, k5⟩ := hok
           have hN : sp.n = ops.size := nBq k1
           have hat : ∀ (j : Nat) (o : Oper), ops[j]? = some o → Wn P ops sp j o = true := by
            intro j o ho
            have := List.all_eq_true.1 k5 j (List.mem_range.2 (Array.getElem?_eq_some_iff.1 ho).1)
            rw [ho] at this
            exact this
           have hat1 : ∀ (j : Nat) (o : Oper), ops[j]? = some o → (∀ e ∈ o.after, Region.binds .any e = true → e.on < j) ∧ sp.mask.getD j 0 = Ny sp.mask o ∧ sp.kind.getD j 0 = D2 P o ∧
            ∀ (i : Nat) (oi : Oper) (d : Nat), ops[i]? = some oi → oi.dst = some d → (i = j ∨ o.dst ≠ some d) ∧ (d ∈ reads P ops o → sp.msk j i = true ∨ sp.msk i j = true) := by
            intro j o ho
            have := hat j o ho
            simp only [Wn, bAt] at this
            obtain ⟨⟨⟨a1, a2⟩, a3⟩, a4⟩ := this
            refine ⟨fun e he hb => ?_, nBq a2, nBq a3, fun i oi d hi hd => ?_⟩
            · have := List.all_eq_true.1 a1 e (by simpa using he)
              rw [hb, cond_true, Nat.blt_eq] at this
              exact this
            · have := List.all_eq_true.1 a4 i (List.mem_range.2 (by rw [hN]; exact (Array.getElem?_eq_some_iff.1 hi).1))
              rw [hi] at this
              simp only [Option.bind_some, hd, bAt, Bool.or_eq_true] at this
              obtain ⟨b1, b2⟩ := this
              refine ⟨?_, fun hr => ?_⟩
              · rcases b1 with b1 | b1
                · exact .inl (nBq b1)
                · refine .inr fun hod => ?_
                  unfold Z7 at b1
                  rw [hod] at b1
                  simp at b1
              · have := List.all_eq_true.1 b2 d hr
                rw [show Nat.beq d d = true from Nat.beq_refl d, cond_true, Bool.or_eq_true] at this
                exact this
           obtain ⟨s1, s2, s3, s4⟩ := O7 ops.toList 0 s.env 0 s.H [(0, s.H)] hseq (Dy _ _ _)
           obtain ⟨l1, l2⟩ := R0 hloud
           have q1 := P3 hq
           have hclosed : ∀ σ ∈ sp.states, ∀ j ∈ sp.steps σ, SP.nxt σ j ∈ sp.states := fun σ hσ j hj => Hg (List.all_eq_true.1 (List.all_eq_true.1 k3 σ hσ) j hj)
           have hget : ∀ (j : Nat) (o : Oper), ops[j]? = some o → ∃ t Hk H', l[j]? = some t ∧ Hq o.dst s.n = true ∧ lkH t.σ M' = some Hk ∧ Kq P G call ops o ⟨t.env, Hk, s.n⟩ = some (t.v, H') ∧ (sp.eff j = true → lkH (SP.nxt t.σ j) M' = some H') ∧ C4 l ef (j + 1) = I1 o.dst t.v t.env := by
            intro j o ho
            obtain ⟨t, Hk, H', a1, a2, a3, a4, a5, a6⟩ := s4 j o (by simpa using ho)
            refine ⟨t, Hk, H', a1, a2, l1 _ _ a3, a4, fun he => ?_, a6⟩
            have := a5 (by rw [Nat.zero_add]; exact he)
            rw [Nat.zero_add] at this
            exact l1 _ _ this
           have hsteps : ∀ σ j, j < ops.size → sp.eff j = true → tb σ j = false → sp.mayB σ j = true → j ∈ sp.steps σ := by
            intro σ j h1 h2 h3 h4
            unfold SP.steps
            rw [List.mem_filter, List.mem_range, h2, h3, h4]
            exact ⟨by omega, rfl⟩
           refine ⟨{ v := fun j => (l[j]?.map Tr.v).getD .nilIf, eff := sp.eff, ok := fun σ => σ ∈ sp.states, dn := tb, nxt := SP.nxt, fin := sp.fin, Hs := fun σ => (lkH σ M').getD [], mask := sp.msk, env := C4 l ef }, ?_, ?_⟩
           · have hmay : ∀ σ j, Plan.may { v := fun j => (l[j]?.map Tr.v).getD .nilIf, eff := sp.eff, ok := fun σ => σ ∈ sp.states, dn := tb, nxt := SP.nxt, fin := sp.fin, Hs := fun σ => (lkH σ M').getD [], mask := sp.msk, env := C4 l ef } ops.size σ j → sp.mayB σ j = true := fun σ j hm => (Xc hN).2 hm
             refine ⟨fun j o ho => (hat1 j o ho).1, fun j o i ho hm => ?_, fun i j oi oj t hi hj h1 h2 => ?_, fun j oj t hj ht i oi hi hti => ((hat1 j oj hj).2.2.2 i oi t hi hti).2 ht, s3, fun i o ho => ?_, Hg k2, fun i _ _ => Nat.zero_testBit i, ?_, fun j o ho hef σ hσ hm => ?_, fun j o ho hef σ hσ hdn hm => ?_, fun σ hσ hall => ?_, fun j o ho => ?_⟩
             · have h2 := (hat1 j o ho).2.1
               have hm' : tb (sp.mask.getD j 0) i = true := hm
               rw [h2] at hm'
               exact O8 hm'
             · rcases ((hat1 j oj hj).2.2.2 i oi t hi h1).1 with h' | h'
               · exact h'
               · exact absurd h2 h'
             · obtain ⟨t, Hk, H', a1, a2, a3, a4, a5, a6⟩ := hget i o ho
               simp only [a1, Option.map_some, Option.getD_some]
               rw [a6]
               simp [C4, a1]
             · simp only
               rw [l1 _ _ (s1 _ _ (Dy _ _ _))]
               rfl
             ·
              obtain ⟨t, Hk, H', a1, a2, a3, a4, a5, a6⟩ := hget j o ho
              have hkk := (hat1 j o ho).2.2.1
              have hle : D2 P o ≤ 1 := by
               have : ¬ (2 ≤ D2 P o) := fun h2 => by
                have h3 : sp.eff j = true := by unfold SP.eff; rw [hkk]; rw [Nat.ble_eq]; exact h2
                have h4 : sp.eff j = false := hef
                rw [h4] at h3; cases h3
               omega
              have henv : C4 l ef j = t.env := by simp [C4, a1]
              have hv : ((l[j]?.map Tr.v).getD .nilIf) = t.v := by simp [a1]
              show Eb P W0 G ops o ⟨C4 l ef j, (lkH σ M').getD [], s.n⟩ fun v' H' => v' = (l[j]?.map Tr.v).getD .nilIf ∧ H' = (lkH σ M').getD []
              rw [henv, hv]
              have hk0 : D2 P o = 0 ∨ D2 P o = 1 := by omega
              rcases hk0 with hk0 | hk1
              · exact Ie hc (Yn hk0 a4 _)
              · rcases q1 j o t (by simpa using ho) a1 (by rw [Nat.zero_add, hkk]; exact hk1) σ hσ (by rw [Nat.zero_add]; exact hmay σ j hm) with rfl | ⟨H2, H2', c1, c2⟩
                · rw [a3]
                  have hH := O9 (by omega) a4
                  subst hH
                  exact Ie hc a4
                · rw [c1]
                  have hH := O9 (by omega) c2
                  subst hH
                  exact Ie hc c2
             ·
              have hjs := (Array.getElem?_eq_some_iff.1 ho).1
              have hst := hsteps σ j hjs hef hdn (hmay σ j hm)
              refine ⟨?_, hclosed σ hσ j hst, fun i _ _ => Yh σ j i⟩
              obtain ⟨t, Hk, H', a1, a2, a3, a4, a5, a6⟩ := hget j o ho
              have henv : C4 l ef j = t.env := by simp [C4, a1]
              have hv : ((l[j]?.map Tr.v).getD .nilIf) = t.v := by simp [a1]
              show Eb P W0 G ops o ⟨C4 l ef j, (lkH σ M').getD [], s.n⟩ fun v' H' => v' = (l[j]?.map Tr.v).getD .nilIf ∧ H' = (lkH (SP.nxt σ j) M').getD []
              rw [henv, hv]
              obtain ⟨o2, t2, b1, b2, b3⟩ := l2 σ hσ j hst
              rw [ho] at b1; injection b1 with b1; subst b1
              rw [a1] at b2; injection b2 with b2; subst b2
              rcases b3 with rfl | ⟨H2, H2', c1, c2, c3⟩
              · rw [a3, a5 hef]
                exact Ie hc a4
              · rw [c1, c3]
                exact Ie hc c2
             · have : sp.allIn σ = true := by
                unfold SP.allIn
                rw [lAt]
                intro i hi
                have hi' := List.mem_range.1 hi
                cases he : sp.eff i with
                | false => rfl
                | true => exact hall i (by omega) he
               have h4 := List.all_eq_true.1 k4 σ hσ
               rw [this, cond_true] at h4
               rw [nBq h4]
             · obtain ⟨t, Hk, H', a1, a2, _⟩ := hget j o ho
               exact a2
           · simp only
             rw [hfin]
             have hlen : l[ops.size]? = none := by
              rw [List.getElem?_eq_none_iff, s2]
              simp
             simp [C4, hlen]
         · cases h
     · cases h
   · cases h
theorem drawOK (hm : P.follows .mixedOrders = true) (hg : GOK W0 G) (hc : Eg P W0 call) : X8 P W0 (fun ops s => Vu P G call ops s) := by
 intro id ops s s' h K hk
 obtain ⟨p, hp, rfl⟩ := A42 hc h
 exact Ex.draw hm hg hp hk
end
structure AOper where
 dst : Option Nat
 guard : Option (Nat × Bool)
 op : AOp
inductive ACode where
 | skip
 | ops (l : List AOper)
 | draw (l : List AOper)
 | seq (a b : ACode)
 | cond (c : AOpd) (x y : ACode)
 | block (id : Nat) (c : ACode)
 | loop (c : ACode)
 | exit (id : Nat)
 | ret
 | stuck
def E5 (ops : Array Oper) : Option (Nat × Bool) → Option (Option (Nat × Bool))
 | none => some none
 | some (j, b) => match (ops[j]?).bind (·.dst) with
   | some d => some (some (d, b))
   | none => none
def Cd (P : Program) (ops : Array Oper) (o : Oper) : Option AOper :=
 match E5 ops o.guard with
 | some g => match B3 P o.op with
   | some op => some ⟨o.dst, g, op⟩
   | none => none
 | none => none
def Bh (P : Program) (ops : Array Oper) : List Oper → Option (List AOper)
 | [] => some []
 | o :: r => match Cd P ops o with
   | some a => match Bh P ops r with
     | some l => some (a :: l)
     | none => none
   | none => none
def By (P : Program) : Code → Option ACode
 | .skip => some .skip
 | .region _ ops d => match Bh P ops ops.toList with
   | some l => cond d (cond (Ld P ops (K8 P ops.toList)) (some (.draw l)) (some .stuck)) (some (.ops l))
   | none => some .stuck
 | .seq x y => match By P x with
   | some a => match By P y with
     | some b => some (.seq a b)
     | none => none
   | none => none
 | .cond c x y => match Ah c with
   | some c' => match By P x with
     | some a => match By P y with
       | some b => some (.cond c' a b)
       | none => none
     | none => none
   | none => some .stuck
 | .block id c => match By P c with
   | some a => some (.block id a)
   | none => none
 | .loop c => match By P c with
   | some a => some (.loop a)
   | none => none
 | .exit id => some (.exit id)
 | .ret => some .ret
 | _ => some .stuck
section
variable (P : Program) (W0 : World) (G : List (Nat × AVal))
def Gf (o : AOper) (s : St) (K : St → Prop) : Prop :=
 match o.guard with
 | none => Gx P W0 s.H (aop G s o.op) fun v H' => Og s o.dst v H' K
 | some (d, want) => match s.env.get d with
   | some (.bool b) => cond (cond b want (not want)) (Gx P W0 s.H (aop G s o.op) fun v H' => Og s o.dst v H' K) (Og s o.dst (.tup []) s.H K)
   | some (.tup []) => Og s o.dst (.tup []) s.H K
   | _ => False
def As : List AOper → St → (St → Prop) → Prop
 | [], s, K => K s
 | o :: r, s, K => Gf P W0 G o s fun s' => As r s' K
end
section
variable {P : Program} {W0 : World} {G : List (Nat × AVal)}
theorem T8 {H : Hz} {r : Option ARes} {K K' : AVal → Hz → Prop} (hk : ∀ v H', K v H' → K' v H') (h : Gx P W0 H r K) : Gx P W0 H r K' := by
 unfold Gx at h ⊢
 split at h
 · exact ⟨h.1, hk _ _ h.2⟩
 · exact hk _ _ h
 · obtain ⟨v, H', h1, h2⟩ := h; exact ⟨v, H', h1, hk _ _ h2⟩
 · exact h
theorem S8 {s : St} {dst : Option Nat} {v : AVal} {H : Hz} {K K' : St → Prop} (hk : ∀ s, K s → K' s) (h : Og s dst v H K) : Og s dst v H K' := by
 unfold Og at h ⊢
 split at h
 · exact hk _ h
 · exact ⟨h.1, hk _ h.2⟩
theorem Yy {ops : Array Oper} {o : Oper} {s : St} {K K' : St → Prop} (hk : ∀ s, K s → K' s) (h : Gg P W0 G ops o s K) : Gg P W0 G ops o s K' := by
 unfold Gg at h ⊢
 split at h
 · split at h
   · exact T8 (fun v H' => S8 hk) h
   · exact h
 · exact S8 hk h
 · exact h
theorem Z3 {ops : Array Oper} {o : Oper} {a : AOper} (hc : Cd P ops o = some a) {s : St} {K : St → Prop} (h : Gf P W0 G a s K) : Gg P W0 G ops o s K := by
 unfold Cd at hc
 cases hg : E5 ops o.guard with
 | none => rw [hg] at hc; cases hc
 | some g =>
   rw [hg] at hc
   simp only at hc
   cases hop : B3 P o.op with
   | none => rw [hop] at hc; cases hc
   | some op =>
     rw [hop] at hc
     injection hc with hc
     subst hc
     unfold Gg
     cases hgd : o.guard with
     | none =>
       rw [hgd] at hg
       simp only [E5, iS] at hg
       subst hg
       simp only [C9, hop]
       exact h
     | some gw =>
       obtain ⟨j, want⟩ := gw
       rw [hgd] at hg
       simp only [E5] at hg
       cases hd : (ops[j]?).bind (·.dst) with
       | none => rw [hd] at hg; cases hg
       | some d =>
         rw [hd] at hg
         simp only [iS] at hg
         subst hg
         simp only [C9, hd]
         simp only [Gf] at h
         split at h
         · rename_i b hb
           rw [hb]
           simp only
           cases hw : cond b want (not want) with
           | true => rw [hw] at h; simp only [hop]; exact h
           | false => rw [hw] at h; exact h
         · rename_i hb
           rw [hb]
           exact h
         · exact h.elim
theorem Vw {ops : Array Oper} : ∀ {l : List Oper} {as : List AOper}, Bh P ops l = some as → ∀ {s : St} {K : St → Prop}, As P W0 G as s K → Jj P W0 G ops l s K
 | [], as, hc, s, K, h => by
   simp only [Bh, iS] at hc
   subst hc
   exact h
 | o :: r, as, hc, s, K, h => by
   simp only [Bh] at hc
   cases ho : Cd P ops o with
   | none => rw [ho] at hc; cases hc
   | some a =>
     rw [ho] at hc
     simp only at hc
     cases hr : Bh P ops r with
     | none => rw [hr] at hc; cases hc
     | some l =>
       rw [hr] at hc
       injection hc with hc
       subst hc
       simp only [As] at h
       simp only [Jj]
       exact Yy (fun s' h' => Vw hr h') (Z3 ho h)
end
def ExA (P : Program) (W0 : World) (a : ACode) (s : St) (K : Av → St → Prop) : Prop := ∀ c, By P c = some a → Ex P W0 c s K
structure Gr (P : Program) (W0 : World) (G : List (Nat × AVal)) : Prop where
 g : GOK W0 G
 mixed : P.follows .mixedOrders = true
section
variable {P : Program} {W0 : World} {G : List (Nat × AVal)} {s : St} {K : Av → St → Prop}
theorem ExA.mono {a : ACode} {K' : Av → St → Prop} (h : ExA P W0 a s K) (hk : ∀ e s', K e s' → K' e s') : ExA P W0 a s K' := fun c hc => (h c hc).mono hk
theorem D3 {id : Nat} {ops : Array Oper} {d : Bool} {a : ACode} (h : By P (.region id ops d) = some a) : a = .stuck ∨ ∃ l, Bh P ops ops.toList = some l ∧ ((d = false ∧ a = .ops l) ∨ (d = true ∧ Ld P ops (K8 P ops.toList) = true ∧ a = .draw l)) := by
 simp only [By] at h
 split at h
 · rename_i l hl
   cases d with
   | false => simp only [cond_false, iS] at h; exact .inr ⟨l, hl, .inl ⟨rfl, h.symm⟩⟩
   | true =>
     rw [cond_true] at h
     cases hs : Ld P ops (K8 P ops.toList) with
     | false => rw [hs] at h; simp only [cond_false, iS] at h; exact .inl h.symm
     | true => rw [hs] at h; simp only [cond_true, iS] at h; exact .inr ⟨l, hl, .inr ⟨rfl, rfl, h.symm⟩⟩
 · injection h with h; exact .inl h.symm
theorem ExA.skip (h : K .normal s) : ExA P W0 .skip s K := fun c hc => by
 cases c with
 | skip => exact Ex.skip h
 | region id ops d => rcases D3 hc with h2 | ⟨l, _, ⟨_, h2⟩ | ⟨_, _, h2⟩⟩ <;> cases h2
 | _ => simp only [By] at hc <;> (repeat' (split at hc)) <;> cases hc
theorem S0 {c : Code} {l : List AOper} (h : By P c = some (.ops l)) : ∃ id ops, c = .region id ops false ∧ Bh P ops ops.toList = some l := by
 cases c with
 | region id ops d =>
   rcases D3 h with h2 | ⟨l', h1, ⟨rfl, h2⟩ | ⟨_, _, h2⟩⟩
   · cases h2
   · injection h2 with h2; subst h2; exact ⟨id, ops, rfl, h1⟩
   · cases h2
 | _ => simp only [By] at h <;> (repeat' (split at h)) <;> cases h
theorem Y1 {c : Code} {l : List AOper} (h : By P c = some (.draw l)) : ∃ id ops, c = .region id ops true ∧ Bh P ops ops.toList = some l ∧ Ld P ops (K8 P ops.toList) = true := by
 cases c with
 | region id ops d =>
   rcases D3 h with h2 | ⟨l', h1, ⟨rfl, h2⟩ | ⟨rfl, h3, h2⟩⟩
   · cases h2
   · cases h2
   · injection h2 with h2; subst h2; exact ⟨id, ops, rfl, h1, h3⟩
 | _ => simp only [By] at h <;> (repeat' (split at h)) <;> cases h
theorem Sj {c : Code} {x y : ACode} (h : By P c = some (.seq x y)) : ∃ a b, c = .seq a b ∧ By P a = some x ∧ By P b = some y := by
 cases c with
 | region id ops d => rcases D3 h with h2 | ⟨l, _, ⟨_, h2⟩ | ⟨_, _, h2⟩⟩ <;> cases h2
 | seq a b =>
   simp only [By] at h
   split at h
   · rename_i a' ha
     split at h
     · rename_i b' hb
       injection h with h; injection h with h1 h2; subst h1; subst h2
       exact ⟨a, b, rfl, ha, hb⟩
     · cases h
   · cases h
 | _ => simp only [By] at h <;> (repeat' (split at h)) <;> cases h
theorem Qu {c : Code} {o : AOpd} {x y : ACode} (h : By P c = some (.cond o x y)) : ∃ p a b, c = .cond p a b ∧ Ah p = some o ∧ By P a = some x ∧ By P b = some y := by
 cases c with
 | region id ops d => rcases D3 h with h2 | ⟨l, _, ⟨_, h2⟩ | ⟨_, _, h2⟩⟩ <;> cases h2
 | cond p a b =>
   simp only [By] at h
   split at h
   · rename_i p' hp
     split at h
     · rename_i a' ha
       split at h
       · rename_i b' hb
         injection h with h; injection h with h1 h2 h3; subst h1; subst h2; subst h3
         exact ⟨p, a, b, rfl, hp, ha, hb⟩
       · cases h
     · cases h
   · cases h
 | _ => simp only [By] at h <;> (repeat' (split at h)) <;> cases h
theorem Ou {c : Code} {id : Nat} {x : ACode} (h : By P c = some (.block id x)) : ∃ a, c = .block id a ∧ By P a = some x := by
 cases c with
 | region id ops d => rcases D3 h with h2 | ⟨l, _, ⟨_, h2⟩ | ⟨_, _, h2⟩⟩ <;> cases h2
 | block id a =>
   simp only [By] at h
   split at h
   · rename_i a' ha
     injection h with h; injection h with h1 h2; subst h1; subst h2
     exact ⟨a, rfl, ha⟩
   · cases h
 | _ => simp only [By] at h <;> (repeat' (split at h)) <;> cases h
theorem L9 {c : Code} {x : ACode} (h : By P c = some (.loop x)) : ∃ a, c = .loop a ∧ By P a = some x := by
 cases c with
 | region id ops d => rcases D3 h with h2 | ⟨l, _, ⟨_, h2⟩ | ⟨_, _, h2⟩⟩ <;> cases h2
 | loop a =>
   simp only [By] at h
   split at h
   · rename_i a' ha
     injection h with h; injection h with h1; subst h1
     exact ⟨a, rfl, ha⟩
   · cases h
 | _ => simp only [By] at h <;> (repeat' (split at h)) <;> cases h
theorem Yo {c : Code} {id : Nat} (h : By P c = some (.exit id)) : c = .exit id := by
 cases c with
 | region id ops d => rcases D3 h with h2 | ⟨l, _, ⟨_, h2⟩ | ⟨_, _, h2⟩⟩ <;> cases h2
 | exit id => simp only [By] at h; injection h with h; injection h with h; subst h; rfl
 | _ => simp only [By] at h <;> (repeat' (split at h)) <;> cases h
theorem A1w {c : Code} (h : By P c = some .ret) : c = .ret := by
 cases c with
 | region id ops d => rcases D3 h with h2 | ⟨l, _, ⟨_, h2⟩ | ⟨_, _, h2⟩⟩ <;> cases h2
 | ret => rfl
 | _ => simp only [By] at h <;> (repeat' (split at h)) <;> cases h
theorem ExA.ops (hg : Gr P W0 G) {l : List AOper} (h : As P W0 G l s (K .normal)) : ExA P W0 (.ops l) s K := fun c hc => by
 obtain ⟨id, ops, rfl, h1⟩ := S0 hc
 exact Ex.region hg.g (Vw h1 h)
theorem ExA.seq {x y : ACode} (h : ExA P W0 x s fun e s' => e.then s' (fun s' => ExA P W0 y s' K) K) : ExA P W0 (.seq x y) s K := fun c hc => by
 obtain ⟨a, b, rfl, ha, hb⟩ := Sj hc
 refine Ex.seq ((h a ha).mono fun e s' hk => ?_)
 cases e with
 | normal => exact hk b hb
 | exit id => exact hk
 | ret => exact hk
theorem ExA.cond (hg : Gr P W0 G) {c : AOpd} {x y : ACode} {b : Bool} (hv : ev G s c = some (.bool b)) (ht : b = true → ExA P W0 x s K) (hf : b = false → ExA P W0 y s K) : ExA P W0 (.cond c x y) s K := fun k hk => by
 obtain ⟨p, a, d, rfl, hp, ha, hd⟩ := Qu hk
 exact Ex.cond hg.g hp hv (fun h => ht h a ha) (fun h => hf h d hd)
theorem ExA.block {id : Nat} {x : ACode} (h : ExA P W0 x s (Av.inBlock id K)) : ExA P W0 (.block id x) s K := fun c hc => by
 obtain ⟨a, rfl, ha⟩ := Ou hc
 exact Ex.block (h a ha)
theorem ExA.exit {id : Nat} (h : K (.exit id) s) : ExA P W0 (.exit id) s K := fun c hc => by rw [Yo hc]; exact Ex.exit h
theorem ExA.ret (h : K .ret s) : ExA P W0 .ret s K := fun c hc => by rw [A1w hc]; exact Ex.ret h
end
abbrev wV (d : Nat) (x : AOp) : AOper := ⟨some d, none, x⟩
abbrev wM (d t : Nat) : AOper := ⟨some d, none, .move (.tmp t)⟩
abbrev wT (d g : Nat) (x : AOp) : AOper := ⟨some d, some (g, true), x⟩
abbrev wF (d g : Nat) (x : AOp) : AOper := ⟨some d, some (g, false), x⟩
abbrev wN (x : AOp) : AOper := ⟨none, none, x⟩
instance (n : Nat) : OfNat AOpd n := ⟨.tmp n⟩
abbrev kF (f : Nat) (x : List AOpd) : AOp := .call (.val (.fn f [] [])) x
abbrev vI (n : Int) : AOpd := .val (.int .i64 n)
abbrev sQ (x : List AOper) (y : ACode) : ACode := .seq (.ops x) y
inductive RV where
 | tmp (t : Nat)
 | cell (t n : Nat) (agg : Bool)
def Xo (P : Program) : ResultVar → Option RV
 | .tmp t => some (.tmp t)
 | .cell a t => match Jk P t with
   | some (n, agg) => some (.cell a n agg)
   | none => none
def K3 (P : Program) : List ResultVar → Option (List RV)
 | [] => some []
 | r :: rs => match Xo P r with
   | some x => match K3 P rs with
     | some l => some (x :: l)
     | none => none
   | none => none
def rvGet (s : St) : RV → Option AVal
 | .tmp t => s.env.get t
 | .cell a n agg => match s.env.get a with
   | some p => Qi n agg s.H p
   | none => none
def Oj (s : St) : List RV → Option (List AVal)
 | [] => some []
 | r :: rs => match rvGet s r with
   | some v => match Oj s rs with
     | some vs => some (v :: vs)
     | none => none
   | none => none
theorem K0 {P : Program} {s : St} : ∀ {rs : List ResultVar} {l : List RV} {vs : List AVal}, K3 P rs = some l → Oj s l = some vs → Dz P s rs = some vs
 | [], l, vs, hc, h => by simp only [K3, iS] at hc; subst hc; exact h
 | r :: rs, l, vs, hc, h => by
   simp only [K3] at hc
   split at hc
   · rename_i x hx
     split at hc
     · rename_i l' hl
       injection hc with hc; subst hc
       simp only [Oj] at h
       split at h
       · rename_i v hv
         split at h
         · rename_i vs' hvs
           injection h with h; subst h
           have hr : Ns P s r = some v := by
            cases r with
            | tmp t => simp only [Xo, iS] at hx; subst hx; exact hv
            | cell a t =>
              simp only [Xo] at hx
              split at hx
              · rename_i n agg ht
                injection hx with hx; subst hx
                simp only [rvGet] at hv
                simp only [Ns]
                split at hv
                · rename_i p hp
                  rw [hp]
                  simp only [ht]
                  exact hv
                · cases hv
              · cases hx
           simp only [Dz, hr, K0 hl hvs]
         · cases h
       · cases h
     · cases hc
   · cases hc
structure AFn where
 code : ACode
 res : List RV
 n : Nat
def Au (P : Program) (f : Nat) : Option AFn :=
 match P.funcs[f]? with
 | some fn => match fn.body with
   | some c => match By P c with
     | some a => match K3 P fn.results.toList with
       | some l => cond (fn.name == "runtime.NumGoroutine") none (some ⟨a, l, fn.ntmps⟩)
       | none => none
     | none => none
   | none => none
 | none => none
theorem L4 {P : Program} {f : Nat} {x : AFn} (h : Au P f = some x) : ∃ fn c, P.funcs[f]? = some fn ∧ fn.body = some c ∧ By P c = some x.code ∧ K3 P fn.results.toList = some x.res ∧ fn.name ≠ "runtime.NumGoroutine" ∧ fn.ntmps = x.n := by
 unfold Au at h
 split at h
 · rename_i fn hf
   split at h
   · rename_i c hc
     split at h
     · rename_i a ha
       split at h
       · rename_i l hl
         cases hn : fn.name == "runtime.NumGoroutine" with
         | true => rw [hn] at h; cases h
         | false =>
           rw [hn] at h
           simp only [cond_false, iS] at h
           subst h
           refine ⟨fn, c, hf, hc, ha, hl, ?_, rfl⟩
           intro e
           rw [e] at hn
           simp at hn
       · cases h
     · cases h
   · cases h
 · cases h
def O3 : Nat → List AVal → List (Nat × AVal)
 | _, [] => []
 | i, v :: r => (i, v) :: O3 (i + 1) r
theorem Q3 : ∀ (as : List AVal) (i t : Nat), lk t (O3 i as) = if i ≤ t ∧ t < i + as.length then as[t - i]? else none
 | [], i, t => by simp only [O3, lk, lNi, Nat.add_zero]; rw [if_neg (by omega)]
 | v :: r, i, t => by
   simp only [O3, lk, lCo]
   cases h : Nat.beq t i with
   | true =>
     have := nBq h
     subst this
     rw [cond_true, if_pos (by omega)]
     simp
   | false =>
     have := Nat.ne_of_beq_eq_false h
     rw [cond_false, Q3 r (i + 1) t]
     by_cases h2 : i + 1 ≤ t ∧ t < i + 1 + r.length
     · rw [if_pos h2, if_pos (by omega), show t - i = (t - (i + 1)) + 1 by omega, List.getElem?_cons_succ]
     · rw [if_neg h2, if_neg (by omega)]
def A3q (n : Nat) (x : AVal) (Hx : Hz) (v : AVal) (H' : Hz) : Prop :=
 (x = v ∧ Hx = H') ∨ (Fg n (Hx.take n) = true ∧ (∃ m, frz Hx n m x = some v) ∧ Hx.take n = H')
theorem Nz {W0 : World} {F : Nat → Prop} {bs : List Nat} {H : Hz} {w : World} (hh : Ac W0 F bs H w) {bs0 : List Nat} {H0 : Hz} {w0 : World} (he : Ext bs0 H0 w0 bs H w) {x v : AVal} {H' : Hz} {cv : Value} (hv : Rep F bs H w x cv)
 (hl : A3q H0.length x H v H') : ∃ bs', Rep F bs' H' w v cv ∧ Ac W0 F bs' H' w ∧ Ext bs0 H0 w0 bs' H' w := by
 rcases hl with ⟨rfl, rfl⟩ | ⟨h1, ⟨m, h2⟩, rfl⟩
 · exact ⟨bs, hv, hh, he⟩
 · exact ⟨bs.take H0.length, Ol hh m x cv v hv h2, hh.take h1, he.take⟩
def Ye (rs : List RV) (n : Nat) (v : AVal) (H' : Hz) (e : Av) (s : St) : Prop :=
 (match e with | .exit _ => False | _ => True) ∧ ∃ vs, Oj s rs = some vs ∧ A3q n (Bq vs) s.H v H'
theorem A3.of_fn {P : Program} {W0 : World} {f : Nat} {x : AFn} (hf : Au P f = some x) {args : List AVal} {H : Hz} {v : AVal} {H' : Hz} (hl : args.length ≤ 4094) {n : Nat} (hn : args.length + (x.n - args.length) = n)
 (h : ExA P W0 x.code ⟨.al (O3 0 args), H, n⟩ (Ye x.res H.length v H')) : A3 P W0 f args H v H' := by
 obtain ⟨fn, c, h1, h2, h3, h4, h5, h6⟩ := L4 hf
 refine ⟨⟨fn, c, h1, h2, h5⟩, fun F bs w cargs hh hr => ?_⟩
 have hrs := Je hh hr hl fn.ntmps
 have hrs' : RS W0 F bs ⟨.al (O3 0 args), H, n⟩ { tmps := cargs.toArray ++ Array.replicate (fn.ntmps - cargs.toArray.size) undef, defers := [] } w :=
  ⟨hrs.heap, by rw [hrs.size, ← hn, h6], fun t u hu => hrs.env t u (by
   rw [G4 args 0 .leaf t (by omega)]
   have hu : lk t (O3 0 args) = some u := hu
   rw [Q3] at hu
   by_cases hc : 0 ≤ t ∧ t < 0 + args.length
   · rw [if_pos hc] at hu ⊢; exact hu
   · rw [if_neg hc] at hu; cases hu)⟩
 refine calls_of_wp h1 h2 (h c h3 F bs _ w hrs' _ fun e s' bs' a' w' hk hrs hext hd => ?_)
 obtain ⟨hne, vs, hvs, hlv⟩ := hk
 obtain ⟨cv, r1, r2⟩ := Hi hrs (K0 h4 hvs)
 obtain ⟨bs'', r3, r4, r5⟩ := Nz hrs.heap hext r2 hlv
 have fin : bodyPost P fn (fun e w' => ∃ cv bs', e = .returned cv ∧ Rep F bs' H' w' v cv ∧ Ac W0 F bs' H' w' ∧ Ext bs H w bs' H' w') .ret a' w' := ⟨hd, cv, r1, cv, bs'', rfl, r3, r4, r5⟩
 cases e with
 | normal => exact fin
 | ret => exact fin
 | exit id => exact hne.elim
section
variable {P : Program} {W0 : World} {G : List (Nat × AVal)} {s : St} {K : St → Prop} {r : List AOper}
theorem sGuard {dst : Option Nat} {op : AOp} {t : Nat} {want b : Bool} (h : s.env.get t = some (.bool b)) (k1 : b = want → As P W0 G (⟨dst, none, op⟩ :: r) s K) (k2 : b = (!want) → As P W0 G (⟨dst, none, .move (.val (.tup []))⟩ :: r) s K) :
 As P W0 G (⟨dst, some (t, want), op⟩ :: r) s K := by
 simp only [As, Gf, h]
 by_cases hb : b = want
 · subst hb
   have := k1 rfl
   simp only [As, Gf] at this
   cases b <;> exact this
 · have hb' : b = (!want) := by cases b <;> cases want <;> simp_all
   have := k2 hb'
   simp only [As, Gf, aop, ev, Jw, Gx] at this
   subst hb'
   cases want <;> exact this.2
theorem A2b {dst : Option Nat} {op : AOp} {t : Nat} {want : Bool} (h : s.env.get t = some (.tup [])) (k2 : As P W0 G (⟨dst, none, .move (.val (.tup []))⟩ :: r) s K) :
 As P W0 G (⟨dst, some (t, want), op⟩ :: r) s K := by
 simp only [As, Gf, h]
 simp only [As, Gf, aop, ev, Jw, Gx] at k2
 exact k2.2
end
section
variable {P : Program} {W0 : World} {G : List (Nat × AVal)}
structure Wk (m : Nat) (s1 s2 : St) : Prop where
 n : s1.n = s2.n
 lo : m ≤ s1.H.length
 hi : s2.H.take s1.H.length = s1.H
 env : ∀ t v, s1.env.get t = some v → s2.env.get t = some v
 clo : s1.H.length = s2.H.length ∨ (Fg s1.H.length s1.H = true ∧ ∀ t v, s1.env.get t = some v → blw s1.H.length v = true)
theorem Ext.takeN {bs0 : List Nat} {H0 : Hz} {w0 : World} {bs : List Nat} {H : Hz} {w : World} (h : Ext bs0 H0 w0 bs H w) {n : Nat} (hn : H0.length ≤ n) : Ext bs0 H0 w0 (bs.take n) (H.take n) w := by
 refine ⟨h.size, h.block, fun k hk => h.new k (List.mem_of_mem_take hk), fun i o ho => ?_⟩
 have hi := (List.getElem?_eq_some_iff.1 ho).1
 obtain ⟨o', h1, h2⟩ := h.obj i o ho
 refine ⟨o', by rw [List.getElem?_take_of_lt (by omega)]; exact h1, ?_⟩
 have hbs : (bs.take n)[i]? = bs[i]? := List.getElem?_take_of_lt (by omega)
 cases o with
 | dead => exact h2
 | iter s p => simpa only [Bi, hbs] using h2
 | cells T cs op => cases op <;> simpa only [Bi, hbs] using h2
theorem RS.wk {F : Nat → Prop} {bs : List Nat} {s1 s2 : St} {a : Act} {w : World} (hs : RS W0 F bs s2 a w) {m : Nat} (hw : Wk m s1 s2) {bs0 : List Nat} {H0 : Hz} {w0 : World} (he : Ext bs0 H0 w0 bs s2.H w) (hm : H0.length ≤ m) :
 ∃ bs', RS W0 F bs' s1 a w ∧ Ext bs0 H0 w0 bs' s1.H w := by
 rcases hw.clo with hl | ⟨hb1, hb2⟩
 · have hH : s1.H = s2.H := by rw [← hw.hi, hl, List.take_length]
   refine ⟨bs, ⟨hH ▸ hs.heap, by rw [hs.size, hw.n], fun t v hv => ?_⟩, hH ▸ he⟩
   rw [hH]; exact hs.env t v (hw.env t v hv)
 · have hh : Ac W0 F (bs.take s1.H.length) (s2.H.take s1.H.length) w := hs.heap.take (by rw [hw.hi]; exact hb1)
   have he' := he.takeN (n := s1.H.length) (Nat.le_trans hm hw.lo)
   refine ⟨bs.take s1.H.length, ⟨by rw [hw.hi] at hh; exact hh, by rw [hs.size, hw.n], fun t v hv => ?_⟩, by rw [hw.hi] at he'; exact he'⟩
   have := Uc (n := s1.H.length) v _ (hs.env t v (hw.env t v hv)) (hb2 t v hv)
   rw [hw.hi] at this
   exact this
theorem ExA.wk {a : ACode} {s1 s2 : St} {K : Av → St → Prop} (hn : s1.n = s2.n) (hH : s1.H = s2.H) (he : ∀ t v, s1.env.get t = some v → s2.env.get t = some v) (h : ExA P W0 a s1 K) : ExA P W0 a s2 K := fun c hc F bs x w hs Q hq =>
 h c hc F bs x w ⟨hH ▸ hs.heap, by rw [hs.size, hn], fun t v hv => by rw [hH]; exact hs.env t v (he t v hv)⟩ Q fun e s' bs' a' w' h1 h2 h3 h4 => hq e s' bs' a' w' h1 h2 (by rw [hH] at h3; exact h3) h4
theorem ExA.loop {c : ACode} {σ : Type} (st : σ → St) (I : σ → Prop) (μ : σ → Nat) (i : σ) {s : St} {K : Av → St → Prop} (h0 : Wk s.H.length (st i) s) (hI : I i)
 (round : ∀ i, I i → s.H.length ≤ (st i).H.length → ExA P W0 c (st i) fun e s' => e.then s' (fun s' => ∃ j, I j ∧ μ j < μ i ∧ Wk s.H.length (st j) s') K) : ExA P W0 (.loop c) s K := fun k hk => by
 obtain ⟨k', rfl, hk'⟩ := L9 hk
 intro F bs a w hs Q hq
 refine Jh (σ := σ) (fun i a' w' => ∃ bs', I i ∧ s.H.length ≤ (st i).H.length ∧ RS W0 F bs' (st i) a' w' ∧ Ext bs s.H w bs' (st i).H w' ∧ a'.defers = a.defers) μ (s := i) ?_ ?_
 · obtain ⟨bs', h1, h2⟩ := hs.wk h0 (Ext.refl bs s.H w) (Nat.le_refl _)
   exact ⟨bs', hI, h0.lo, h1, h2, rfl⟩
 · rintro i a1 w1 ⟨bs1, hi, hlen, hrs1, hext1, hd1⟩
   refine round i hi hlen k' hk' F bs1 a1 w1 hrs1 _ fun e s' bs' a' w' hkk hrs hext hd => ?_
   cases e with
   | normal =>
     obtain ⟨j, hj, hlt, hw⟩ := hkk
     obtain ⟨bs2, h1, h2⟩ := hrs.wk hw (hext1.trans hext) (Nat.le_refl _)
     exact ⟨j, ⟨bs2, hj, hw.lo, h1, h2, hd.trans hd1⟩, hlt⟩
   | exit id => exact hq (.exit id) s' bs' a' w' hkk hrs (hext1.trans hext) (hd.trans hd1)
   | ret => exact hq .ret s' bs' a' w' hkk hrs (hext1.trans hext) (hd.trans hd1)
theorem Yj {l : List (Nat × AVal)} {e : Env} (h : ∀ p ∈ l, e.get p.1 = some p.2) : ∀ t v, (Env.al l).get t = some v → e.get t = some v := by
 intro t v hv
 induction l with
 | nil => cases hv
 | cons p l ih =>
   have hw : lk t (p :: l) = some v := hv
   obtain ⟨u, x⟩ := p
   simp only [lk] at hw
   cases hb : Nat.beq t u with
   | true =>
     rw [hb] at hw
     simp only [cond_true, iS] at hw
     have := nBq hb
     subst this; subst hw
     exact h (t, x) (by simp)
   | false =>
     rw [hb] at hw
     exact ih (fun p hp => h p (by simp [hp])) hw
theorem al_blw {l : List (Nat × AVal)} {m : Nat} (h : C0 m (l.map (·.2)) = true) : ∀ t v, (Env.al l).get t = some v → blw m v = true := by
 intro t v hv
 induction l with
 | nil => cases hv
 | cons p l ih =>
   have hw : lk t (p :: l) = some v := hv
   obtain ⟨u, x⟩ := p
   simp only [List.map_cons, C0] at h
   have h1 : blw m x = true := by revert h; cases blw m x <;> simp
   have h2 : C0 m (l.map (·.2)) = true := by revert h; rw [h1]; simp
   simp only [lk] at hw
   cases hb : Nat.beq t u with
   | true => rw [hb] at hw; simp only [cond_true, iS] at hw; subst hw; exact h1
   | false => rw [hb] at hw; exact ih h2 hw
theorem Wk.same {l : List (Nat × AVal)} {H : Hz} {n : Nat} {s : St} (hn : n = s.n) (hH : H = s.H) (h : ∀ p ∈ l, s.env.get p.1 = some p.2) : Wk s.H.length ⟨.al l, H, n⟩ s :=
 ⟨hn, by rw [hH]; exact Nat.le_refl _, by rw [hH]; exact List.take_length, Yj h, .inl (by rw [hH])⟩
theorem Wk.cut {m : Nat} {l : List (Nat × AVal)} {H : Hz} {n : Nat} {s : St} (hn : n = s.n) (hm : m ≤ H.length) (hH : s.H.take H.length = H) (h : ∀ p ∈ l, s.env.get p.1 = some p.2) (hb : Fg H.length H = true) (hl : C0 H.length (l.map (·.2)) = true) : Wk m ⟨.al l, H, n⟩ s :=
 ⟨hn, hm, hH, Yj h, .inr ⟨hb, al_blw hl⟩⟩
end
instance (n : Nat) : OfNat RV n := ⟨.tmp n⟩
section
variable {P : Program} {W0 : World} {G : List (Nat × AVal)} {l : List (Nat × AVal)} {H H' : Hz} {n : Nat} {K : St → Prop} {r : List AOper}
theorem Bo (h : K ⟨.al l, H, n⟩) : As P W0 G [] ⟨.al l, H, n⟩ K := h
theorem A6 {d : Nat} {op : AOp} {v : AVal} {side : List (Int × Int)} (h : aop G ⟨.al l, H, n⟩ op = some (.val v H' side)) (hd : (Nat.blt d n && Nat.blt d 4094) = true) (hs : Ae side) (k : As P W0 G r ⟨.al ((d, v) :: l), H', n⟩ K) : As P W0 G (⟨some d, none, op⟩ :: r) ⟨.al l, H, n⟩ K := by
 simp only [As, Gf, h]
 exact ⟨hs, hd, k⟩
theorem Dn {op : AOp} (h : aop G ⟨.al l, H, n⟩ op = some (.skip H')) (k : As P W0 G r ⟨.al l, H', n⟩ K) : As P W0 G (⟨none, none, op⟩ :: r) ⟨.al l, H, n⟩ K := by
 simp only [As, Gf, h]
 exact k
theorem Dt {d : Nat} {op : AOp} {f : Nat} {args : List AVal} {v : AVal} (h : aop G ⟨.al l, H, n⟩ op = some (.call f args)) (hd : (Nat.blt d n && Nat.blt d 4094) = true) (hc : A3 P W0 f args H v H') (k : As P W0 G r ⟨.al ((d, v) :: l), H', n⟩ K) : As P W0 G (⟨some d, none, op⟩ :: r) ⟨.al l, H, n⟩ K := by
 simp only [As, Gf, h]
 exact ⟨v, H', hc, hd, k⟩
theorem A4c {dst : Option Nat} {op : AOp} {t : Nat} {want b : Bool} (h : lk t l = some (.bool b)) (k1 : b = want → As P W0 G (⟨dst, none, op⟩ :: r) ⟨.al l, H, n⟩ K) (k2 : b = (!want) → As P W0 G (⟨dst, none, .move (.val (.tup []))⟩ :: r) ⟨.al l, H, n⟩ K) :
 As P W0 G (⟨dst, some (t, want), op⟩ :: r) ⟨.al l, H, n⟩ K := sGuard h k1 k2
theorem A3k {dst : Option Nat} {op : AOp} {t : Nat} {want : Bool} (h : lk t l = some (.tup [])) (k2 : As P W0 G (⟨dst, none, .move (.val (.tup []))⟩ :: r) ⟨.al l, H, n⟩ K) :
 As P W0 G (⟨dst, some (t, want), op⟩ :: r) ⟨.al l, H, n⟩ K := A2b h k2
theorem A4b {d : Nat} {x : AOpd} {id pos : Nat} {s : Bz} (hx : ev G ⟨.al l, H, n⟩ x = some (.ptr id 0)) (hi : H[id]? = some (.iter s pos)) (hp : Nat.blt pos s.length = true) (hd : (Nat.blt d n && Nat.blt d 4094) = true)
 (k : As P W0 G r ⟨.al ((d, .tup [.bool true, .int .i64 (pos : Nat), .int .i32 ((Jg s pos).1 : Nat)]) :: l), H.set id (.iter s (pos + (Jg s pos).2)), n⟩ K) : As P W0 G (⟨some d, none, .next x⟩ :: r) ⟨.al l, H, n⟩ K := by
 refine A6 (side := []) ?_ hd trivial k
 simp only [aop, hx, X0, hi, hp, cond_true, Nat.beq_refl]
theorem lNextNo {d : Nat} {x : AOpd} {id pos : Nat} {s : Bz} (hx : ev G ⟨.al l, H, n⟩ x = some (.ptr id 0)) (hi : H[id]? = some (.iter s pos)) (hp : Nat.blt pos s.length = false) (hd : (Nat.blt d n && Nat.blt d 4094) = true)
 (k : As P W0 G r ⟨.al ((d, .tup [.bool false]) :: l), H, n⟩ K) : As P W0 G (⟨some d, none, .next x⟩ :: r) ⟨.al l, H, n⟩ K := by
 refine A6 (side := []) ?_ hd trivial k
 simp only [aop, hx, X0, hi, hp, cond_false, cond_true, Nat.beq_refl]
end
theorem A5 {rs : List RV} {n : Nat} {v : AVal} {H' : Hz} {e : Av} {s : St} {vs : List AVal} (he : (match e with | .exit _ => False | _ => True)) (h1 : Oj s rs = some vs) (h2 : Bq vs = v) (h3 : s.H = H') : Ye rs n v H' e s :=
 ⟨he, vs, h1, .inl ⟨h2, h3⟩⟩
theorem A4 {rs : List RV} {n : Nat} {v : AVal} {H' : Hz} {e : Av} {s : St} {vs : List AVal} (he : (match e with | .exit _ => False | _ => True)) (h1 : Oj s rs = some vs) (h2 : Fg n (s.H.take n) = true) (m : Nat) (h3 : frz s.H n m (Bq vs) = some v) (h4 : s.H.take n = H') : Ye rs n v H' e s :=
 ⟨he, vs, h1, .inr ⟨h2, ⟨m, h3⟩, h4⟩⟩
section
variable (P : Program) (W0 : World) (G : List (Nat × AVal))
def Ci (o : AOper) (s : St) (K : AVal → Hz → Prop) : Prop :=
 match o.guard with
 | none => Gx P W0 s.H (aop G s o.op) K
 | some (d, want) => match s.env.get d with
   | some (.bool b) => cond (cond b want (not want)) (Gx P W0 s.H (aop G s o.op) K) (K (.tup []) s.H)
   | some (.tup []) => K (.tup []) s.H
   | _ => False
def Bn : List AOper → St → (St → Prop) → Prop
 | [], s, K => K s
 | o :: r, s, K => Ci P W0 G o s fun v H' => H' = s.H ∧ Hq o.dst s.n = true ∧ Bn r ⟨I1 o.dst v s.env, s.H, s.n⟩ K
end
section
variable {P : Program} {W0 : World} {G : List (Nat × AVal)}
theorem Zq {H : Hz} {r : Option ARes} {K : AVal → Hz → Prop} (h : Gx P W0 H r K) : ∃ v H', Gx P W0 H r (fun v' H'' => v' = v ∧ H'' = H') ∧ K v H' := by
 unfold Gx at h ⊢
 split at h
 · exact ⟨_, _, ⟨h.1, rfl, rfl⟩, h.2⟩
 · exact ⟨_, _, ⟨rfl, rfl⟩, h⟩
 · obtain ⟨v, H', h1, h2⟩ := h; exact ⟨v, H', ⟨v, H', h1, rfl, rfl⟩, h2⟩
 · exact h.elim
theorem A39 {o : AOper} {s : St} {K : AVal → Hz → Prop} (h : Ci P W0 G o s K) : ∃ v H', Ci P W0 G o s (fun v' H'' => v' = v ∧ H'' = H') ∧ K v H' := by
 unfold Ci at h ⊢
 split at h
 · exact Zq h
 · split at h
   · rename_i b _
     revert h
     cases (cond b _ _ : Bool) with
     | true => exact Zq
     | false => exact fun h => ⟨_, _, ⟨rfl, rfl⟩, h⟩
   · exact ⟨_, _, ⟨rfl, rfl⟩, h⟩
   · exact h.elim
theorem Jz {ops : Array Oper} {o : Oper} {a : AOper} (hc : Cd P ops o = some a) {s : St} {K : AVal → Hz → Prop} (h : Ci P W0 G a s K) : Eb P W0 G ops o s K := by
 unfold Cd at hc
 cases hg : E5 ops o.guard with
 | none => rw [hg] at hc; cases hc
 | some g =>
   rw [hg] at hc
   simp only at hc
   cases hop : B3 P o.op with
   | none => rw [hop] at hc; cases hc
   | some op =>
     rw [hop] at hc
     injection hc with hc
     subst hc
     unfold Eb
     cases hgd : o.guard with
     | none =>
       rw [hgd] at hg
       simp only [E5, iS] at hg
       subst hg
       simp only [C9, hop]
       exact h
     | some gw =>
       obtain ⟨j, want⟩ := gw
       rw [hgd] at hg
       simp only [E5] at hg
       cases hd : (ops[j]?).bind (·.dst) with
       | none => rw [hd] at hg; cases hg
       | some d =>
         rw [hd] at hg
         simp only [iS] at hg
         subst hg
         simp only [C9, hd]
         simp only [Ci] at h
         split at h
         · rename_i b hb
           rw [hb]
           simp only
           cases hw : cond b want (not want) with
           | true => rw [hw] at h; simp only [hop]; exact h
           | false => rw [hw] at h; exact h
         · rename_i hb
           rw [hb]
           exact h
         · exact h.elim
theorem Iw {ops : Array Oper} {o : Oper} {a : AOper} (hc : Cd P ops o = some a) : a.dst = o.dst := by
 unfold Cd at hc
 split at hc
 · split at hc
   · injection hc with hc; subst hc; rfl
   · cases hc
 · cases hc
theorem G2 {ops : Array Oper} : ∀ {l : List Oper} {as : List AOper}, Bh P ops l = some as → as.length = l.length ∧ ∀ (j : Nat) (o : Oper), l[j]? = some o → ∃ a, as[j]? = some a ∧ Cd P ops o = some a
 | [], as, hc => by
   simp only [Bh, iS] at hc
   subst hc
   exact ⟨rfl, fun j o h => by simp at h⟩
 | o :: r, as, hc => by
   simp only [Bh] at hc
   cases ho : Cd P ops o with
   | none => rw [ho] at hc; cases hc
   | some a =>
     rw [ho] at hc
     simp only at hc
     cases hr : Bh P ops r with
     | none => rw [hr] at hc; cases hc
     | some l =>
       rw [hr] at hc
       injection hc with hc
       subst hc
       obtain ⟨h1, h2⟩ := G2 hr
       refine ⟨by simp [h1], fun j o' h => ?_⟩
       cases j with
       | zero => simp only [List.getElem?_cons_zero, iS] at h; subst h; exact ⟨a, rfl, ho⟩
       | succ j => simp only [List.getElem?_cons_succ] at h ⊢; exact h2 j o' h
def Ks : List AOper → List AVal → Env → Nat → Env
 | o :: r, v :: vs, e, j + 1 => Ks r vs (I1 o.dst v e) j
 | _, _, e, _ => e
theorem Qs : ∀ {l : List AOper} {s : St} {K : St → Prop}, Bn P W0 G l s K → ∃ vs : List AVal, vs.length = l.length ∧ K ⟨Ks l vs s.env l.length, s.H, s.n⟩ ∧
 ∀ (j : Nat) (a : AOper), l[j]? = some a → ∃ v, vs[j]? = some v ∧ Ci P W0 G a ⟨Ks l vs s.env j, s.H, s.n⟩ (fun v' H' => v' = v ∧ H' = s.H) ∧ Hq a.dst s.n = true ∧ Ks l vs s.env (j + 1) = I1 a.dst v (Ks l vs s.env j)
 | [], s, K, h => ⟨[], rfl, h, fun j a h => by simp at h⟩
 | o :: r, s, K, h => by
   simp only [Bn] at h
   obtain ⟨v, H', h1, h2, h3, h4⟩ := A39 h
   subst h2
   obtain ⟨vs, k1, k2, k3⟩ := Qs h4
   refine ⟨v :: vs, by simp [k1], k2, fun j a hj => ?_⟩
   cases j with
   | zero =>
     simp only [List.getElem?_cons_zero, iS] at hj
     subst hj
     refine ⟨v, rfl, h1, h3, ?_⟩
     show Ks r vs _ 0 = _
     cases r <;> cases vs <;> rfl
   | succ j =>
     simp only [List.getElem?_cons_succ] at hj ⊢
     exact k3 j a hj
theorem drawQ (hm : P.follows .mixedOrders = true) (hg : GOK W0 G) {id : Nat} {ops : Array Oper} {l : List AOper} (hc : Bh P ops ops.toList = some l) (hsp : Ld P ops (K8 P ops.toList) = true) {s : St} {K : Av → St → Prop}
 (h : Bn P W0 G l s (K .normal)) : Ex P W0 (.region id ops true) s K := by
 generalize K8 P ops.toList = sp at hsp
 obtain ⟨hcl, hcg⟩ := G2 hc
 obtain ⟨vs, r1, r2, r3⟩ := Qs h
 have hsz : l.length = ops.size := by rw [hcl]; simp
 simp only [Ld, bAt] at hsp
 obtain ⟨⟨⟨⟨k1, k2⟩, k3⟩, k4⟩, k5⟩ := hsp
 have hN : sp.n = ops.size := nBq k1
 have hat : ∀ (j : Nat) (o : Oper), ops[j]? = some o → Wn P ops sp j o = true := by
  intro j o ho
  have := List.all_eq_true.1 k5 j (List.mem_range.2 (Array.getElem?_eq_some_iff.1 ho).1)
  rw [ho] at this
  exact this
 have hat1 : ∀ (j : Nat) (o : Oper), ops[j]? = some o → (∀ e ∈ o.after, Region.binds .any e = true → e.on < j) ∧ sp.mask.getD j 0 = Ny sp.mask o ∧ sp.kind.getD j 0 = D2 P o ∧
  ∀ (i : Nat) (oi : Oper) (d : Nat), ops[i]? = some oi → oi.dst = some d → (i = j ∨ o.dst ≠ some d) ∧ (d ∈ reads P ops o → sp.msk j i = true ∨ sp.msk i j = true) := by
  intro j o ho
  have := hat j o ho
  simp only [Wn, bAt] at this
  obtain ⟨⟨⟨a1, a2⟩, a3⟩, a4⟩ := this
  refine ⟨fun e he hb => ?_, nBq a2, nBq a3, fun i oi d hi hd => ?_⟩
  · have := List.all_eq_true.1 a1 e (by simpa using he)
    rw [hb, cond_true, Nat.blt_eq] at this
    exact this
  · have := List.all_eq_true.1 a4 i (List.mem_range.2 (by rw [hN]; exact (Array.getElem?_eq_some_iff.1 hi).1))
    rw [hi] at this
    simp only [Option.bind_some, hd, bAt, Bool.or_eq_true] at this
    obtain ⟨b1, b2⟩ := this
    refine ⟨?_, fun hr => ?_⟩
    · rcases b1 with b1 | b1
      · exact .inl (nBq b1)
      · refine .inr fun hod => ?_
        unfold Z7 at b1
        rw [hod] at b1
        simp at b1
    · have := List.all_eq_true.1 b2 d hr
      rw [show Nat.beq d d = true from Nat.beq_refl d, cond_true, Bool.or_eq_true] at this
      exact this
 have hclosed : ∀ σ ∈ sp.states, ∀ j ∈ sp.steps σ, SP.nxt σ j ∈ sp.states := fun σ hσ j hj => Hg (List.all_eq_true.1 (List.all_eq_true.1 k3 σ hσ) j hj)
 have hget : ∀ (j : Nat) (o : Oper), ops[j]? = some o → ∃ v, vs[j]? = some v ∧ Eb P W0 G ops o ⟨Ks l vs s.env j, s.H, s.n⟩ (fun v' H' => v' = v ∧ H' = s.H) ∧ Hq o.dst s.n = true ∧ Ks l vs s.env (j + 1) = I1 o.dst v (Ks l vs s.env j) := by
  intro j o ho
  obtain ⟨a, ha, hca⟩ := hcg j o (by simpa using ho)
  obtain ⟨v, b1, b2, b3, b4⟩ := r3 j a ha
  rw [Iw hca] at b3 b4
  exact ⟨v, b1, Jz hca b2, b3, b4⟩
 let p : Plan := { v := fun j => (vs[j]?).getD .nilIf, eff := sp.eff, ok := fun σ => σ ∈ sp.states, dn := tb, nxt := SP.nxt, fin := sp.fin, Hs := fun _ => s.H, mask := sp.msk, env := Ks l vs s.env }
 have hp : I5 P W0 G ops s p := by
  refine ⟨fun j o ho => (hat1 j o ho).1, fun j o i ho hm => ?_, fun i j oi oj t hi hj h1 h2 => ?_, fun j oj t hj ht i oi hi hti => ((hat1 j oj hj).2.2.2 i oi t hi hti).2 ht, ?_, fun i o ho => ?_, Hg k2, fun i _ _ => Nat.zero_testBit i, rfl, fun j o ho hef σ hσ hm => ?_, fun j o ho hef σ hσ hdn hm => ?_, fun σ hσ hall => rfl, fun j o ho => ?_⟩
  · have h2 := (hat1 j o ho).2.1
    have hm' : tb (sp.mask.getD j 0) i = true := hm
    rw [h2] at hm'
    exact O8 hm'
  · rcases ((hat1 j oj hj).2.2.2 i oi t hi h1).1 with h' | h'
    · exact h'
    · exact absurd h2 h'
  · show Ks l vs s.env 0 = s.env
    cases l <;> cases vs <;> rfl
  · obtain ⟨v, b1, b2, b3, b4⟩ := hget i o ho
    show Ks l vs s.env (i + 1) = I1 o.dst ((vs[i]?).getD .nilIf) (Ks l vs s.env i)
    rw [b4, b1]; rfl
  · obtain ⟨v, b1, b2, b3, b4⟩ := hget j o ho
    show Eb P W0 G ops o ⟨Ks l vs s.env j, s.H, s.n⟩ fun v' H' => v' = (vs[j]?).getD .nilIf ∧ H' = s.H
    rw [b1]; exact b2
  · obtain ⟨v, b1, b2, b3, b4⟩ := hget j o ho
    have hmay : sp.mayB σ j = true := (Xc (p := sp) hN).2 hm
    have hst : j ∈ sp.steps σ := by
     unfold SP.steps
     rw [List.mem_filter, List.mem_range]
     refine ⟨by rw [hN]; exact (Array.getElem?_eq_some_iff.1 ho).1, ?_⟩
     have h1 : sp.eff j = true := hef
     have h2 : tb σ j = false := hdn
     rw [h1, h2, hmay]; rfl
    refine ⟨?_, hclosed σ hσ j hst, fun i _ _ => Yh σ j i⟩
    show Eb P W0 G ops o ⟨Ks l vs s.env j, s.H, s.n⟩ fun v' H' => v' = (vs[j]?).getD .nilIf ∧ H' = s.H
    rw [b1]; exact b2
  · obtain ⟨v, b1, b2, b3, b4⟩ := hget j o ho
    exact b3
 refine Ex.draw hm hg hp ?_
 show K .normal ⟨Ks l vs s.env ops.size, s.H, s.n⟩
 rw [← hsz]
 exact r2
theorem ExA.draw (hg : Gr P W0 G) {l : List AOper} {s : St} {K : Av → St → Prop} (h : Bn P W0 G l s (K .normal)) : ExA P W0 (.draw l) s K := fun c hc => by
 obtain ⟨id, ops, rfl, h1, h2⟩ := Y1 hc
 exact drawQ hg.mixed hg.g h1 h2 h
end
section
variable {P : Program} {W0 : World} {G : List (Nat × AVal)} {l : List (Nat × AVal)} {H : Hz} {n : Nat} {K : St → Prop} {r : List AOper}
theorem Et (h : K ⟨.al l, H, n⟩) : Bn P W0 G [] ⟨.al l, H, n⟩ K := h
theorem C5 {d : Nat} {op : AOp} {v : AVal} {side : List (Int × Int)} (h : aop G ⟨.al l, H, n⟩ op = some (.val v H side)) (hd : (Nat.blt d n && Nat.blt d 4094) = true) (hs : Ae side) (k : Bn P W0 G r ⟨.al ((d, v) :: l), H, n⟩ K) : Bn P W0 G (⟨some d, none, op⟩ :: r) ⟨.al l, H, n⟩ K := by
 simp only [Bn, Ci, h]
 exact ⟨hs, rfl, hd, k⟩
theorem Da {d : Nat} {op : AOp} {f : Nat} {args : List AVal} {v : AVal} (h : aop G ⟨.al l, H, n⟩ op = some (.call f args)) (hd : (Nat.blt d n && Nat.blt d 4094) = true) (hc : A3 P W0 f args H v H) (k : Bn P W0 G r ⟨.al ((d, v) :: l), H, n⟩ K) : Bn P W0 G (⟨some d, none, op⟩ :: r) ⟨.al l, H, n⟩ K := by
 simp only [Bn, Ci, h]
 exact ⟨v, H, hc, rfl, hd, k⟩
theorem A2h {dst : Option Nat} {op : AOp} {t : Nat} {want b : Bool} (h : lk t l = some (.bool b)) (k1 : b = want → Bn P W0 G (⟨dst, none, op⟩ :: r) ⟨.al l, H, n⟩ K) (k2 : b = (!want) → Bn P W0 G (⟨dst, none, .move (.val (.tup []))⟩ :: r) ⟨.al l, H, n⟩ K) :
 Bn P W0 G (⟨dst, some (t, want), op⟩ :: r) ⟨.al l, H, n⟩ K := by
 have h' : (Env.al l).get t = some (.bool b) := h
 simp only [Bn, Ci, h']
 by_cases hb : b = want
 · subst hb
   have := k1 rfl
   simp only [Bn, Ci] at this
   cases b <;> exact this
 · have hb' : b = (!want) := by cases b <;> cases want <;> simp_all
   have := k2 hb'
   simp only [Bn, Ci, aop, ev, Jw, Gx] at this
   subst hb'
   cases want <;> exact this.2
end
def G7 {α : Type} : List Nat → List α → List α → List α
 | i :: is, o :: os, l => G7 is os (l.set i o)
 | _, _, l => l
theorem I6 {α : Type} : ∀ (is : List Nat) (os l : List α), (G7 is os l).length = l.length
 | [], _, _ => rfl
 | _ :: _, [], _ => rfl
 | i :: is, o :: os, l => by simp only [G7]; rw [I6]; simp
theorem Ig {α : Type} : ∀ (is : List Nat) (os l : List α) (i : Nat), i ∉ is → (G7 is os l)[i]? = l[i]?
 | [], _, _, _, _ => rfl
 | _ :: _, [], _, _, _ => rfl
 | k :: is, o :: os, l, i, h => by
   simp only [List.mem_cons, not_or] at h
   simp only [G7]
   rw [Ig is os _ i h.2, List.getElem?_set_ne (fun e => h.1 e.symm)]
theorem Im {α : Type} : ∀ (is : List Nat) (os l : List α) (j i : Nat) (o : α), is.Nodup → is[j]? = some i → os[j]? = some o → i < l.length → (G7 is os l)[i]? = some o
 | [], _, _, _, _, _, _, h, _, _ => by simp at h
 | _ :: _, [], _, _, _, _, _, _, h, _ => by simp at h
 | k :: is, p :: os, l, 0, i, o, hn, h1, h2, hl => by
   simp only [List.getElem?_cons_zero, iS] at h1 h2
   subst h1; subst h2
   simp only [G7]
   rw [Ig is os _ k (List.nodup_cons.1 hn).1, List.getElem?_set_self hl]
 | k :: is, p :: os, l, j + 1, i, o, hn, h1, h2, hl => by
   simp only [List.getElem?_cons_succ] at h1 h2
   simp only [G7]
   exact Im is os _ j i o (List.nodup_cons.1 hn).2 h1 h2 (by simpa using hl)
mutual
def ren (ρ : Nat → Nat) : AVal → AVal
 | .agg cs => .agg (Hy ρ cs)
 | .tup cs => .tup (Hy ρ cs)
 | .row k es => .row k (Hy ρ es)
 | .hsl k id off len cap => .hsl k (ρ id) off len cap
 | .ptr id off => .ptr (ρ id) off
 | .optr id off len => .optr (ρ id) off len
 | .eptr e off => .eptr (ren ρ e) off
 | .fn f a c => .fn f (Hy ρ a) (Hy ρ c)
 | .iface t x => .iface t (ren ρ x)
 | .bool b => .bool b
 | .int k n => .int k n
 | .str s => .str s
 | .nilSl => .nilSl
 | .emp => .emp
 | .nilPtr => .nilPtr
 | .nilFn => .nilFn
 | .nilIf => .nilIf
def Hy (ρ : Nat → Nat) : List AVal → List AVal
 | [] => []
 | v :: r => ren ρ v :: Hy ρ r
end
theorem Ce (ρ : Nat → Nat) : ∀ l, (Hy ρ l).length = l.length
 | [] => rfl
 | _ :: r => by simp [Hy, Ce ρ r]
def Jd (ρ : Nat → Nat) : HObj → HObj
 | .cells T cs op => .cells T (Hy ρ cs) op
 | .iter s p => .iter s p
 | .dead => .dead
theorem Jm {a b : Bool} (h : cond a b false = true) : a = true ∧ b = true := by cases a <;> simp_all
mutual
theorem H6 {ρ : Nat → Nat} : ∀ (a : AVal), blw 0 a = true → ren ρ a = a
 | .agg cs, h => by simp only [ren]; rw [Du cs h]
 | .tup cs, h => by simp only [ren]; rw [Du cs h]
 | .row k es, h => by simp only [ren]; rw [Du es h]
 | .hsl _ _ _ _ _, h => by simp [blw, Nat.blt_eq] at h
 | .ptr _ _, h => by simp [blw, Nat.blt_eq] at h
 | .optr _ _ _, h => by simp [blw, Nat.blt_eq] at h
 | .eptr e off, h => by simp only [ren]; rw [H6 e h]
 | .fn f a c, h => by
   obtain ⟨h1, h2⟩ := Jm h
   simp only [ren]; rw [Du a h1, Du c h2]
 | .iface t x, h => by simp only [ren]; rw [H6 x h]
 | .bool _, _ => rfl
 | .int _ _, _ => rfl
 | .str _, _ => rfl
 | .nilSl, _ => rfl
 | .emp, _ => rfl
 | .nilPtr, _ => rfl
 | .nilFn, _ => rfl
 | .nilIf, _ => rfl
theorem Du {ρ : Nat → Nat} : ∀ (l : List AVal), C0 0 l = true → Hy ρ l = l
 | [], _ => rfl
 | v :: r, h => by
   obtain ⟨h1, h2⟩ := Jm h
   simp only [Hy]; rw [H6 v h1, Du r h2]
end
structure Sel (sel : List Nat) (m : Nat) (H0 H : Hz) (ρ : Nat → Nat) : Prop where
 nd : sel.Nodup
 len : sel.length = m
 len0 : H0.length = m
 rho : ∀ j, j < m → sel[j]? = some (ρ j)
 lt : ∀ i ∈ sel, i < H.length
 get : ∀ j o, H0[j]? = some o → H[ρ j]? = some (Jd ρ o)
section
variable {F F' : Nat → Prop} {bs bs0 : List Nat} {H H0 : Hz} {w : World} {ρ : Nat → Nat} {m : Nat}
theorem Xf {a b : Nat} (h : Nat.blt a b = true) : a < b := by simpa [Nat.blt_eq] using h
structure A3t (F F' : Nat → Prop) (bs bs0 : List Nat) (H H0 : Hz) (ρ : Nat → Nat) (m : Nat) : Prop where
 get : ∀ j, j < m → ∃ o, H0[j]? = some o ∧ H[ρ j]? = some (Jd ρ o)
 blk : ∀ j, j < m → bs0[j]? = bs[ρ j]?
 sub : ∀ b, b ∈ bs0 → b ∈ bs
 forb : ∀ b, F' b → F b ∨ b ∈ bs
theorem Fp.down (h : A3t F F' bs bs0 H H0 ρ m) {a : Option Addr} {vs : List Value} {cap : Nat} (hr : Fp F bs w a vs cap) : Fp F' bs0 w a vs cap := by
 cases a with
 | none => exact hr
 | some a =>
   obtain ⟨h1, h2, h3⟩ := hr
   refine ⟨h1, h2, fun j u hj => ?_⟩
   obtain ⟨⟨hn, hnF⟩, hc⟩ := h3 j u hj
   refine ⟨⟨fun hm => hn (h.sub _ hm), fun hf => ?_⟩, hc⟩
   rcases h.forb _ hf with h' | h'
   · exact hnF h'
   · exact hn h'
mutual
theorem Rep.down (h : A3t F F' bs bs0 H H0 ρ m) : ∀ (a : AVal) (v : Value), blw m a = true → Rep F bs H w (ren ρ a) v → Rep F' bs0 H0 w a v
 | .agg cs, v, hb, hr => by simp only [ren, Rep] at hr ⊢; obtain ⟨vs, rfl, h2⟩ := hr; exact ⟨vs, rfl, A9.down h cs vs hb h2⟩
 | .tup cs, v, hb, hr => by simp only [ren, Rep] at hr ⊢; obtain ⟨vs, rfl, h2⟩ := hr; exact ⟨vs, rfl, A9.down h cs vs hb h2⟩
 | .row k es, v, hb, hr => by
   simp only [ren, Rep] at hr ⊢
   obtain ⟨a, cap, vs, h1, h2, h3, h4⟩ := hr
   exact ⟨a, cap, vs, by rw [h1, Ce], A9.down h es vs hb h2, h3, h4.down h⟩
 | .hsl k id off len cap, v, hb, hr => by
   simp only [ren, Rep] at hr ⊢
   refine ⟨hr.1, ?_⟩
   have hid := Xf hb
   obtain ⟨o, ho, ho'⟩ := h.get id hid
   have h2 := hr.2
   unfold D8 at h2 ⊢
   rw [ho'] at h2
   rw [ho]
   cases o with
   | dead => trivial
   | iter s p => exact h2
   | cells T cs op =>
     simp only [Jd, Ce] at h2
     obtain ⟨q1, q2⟩ := h2
     refine ⟨q1, fun hop => ?_⟩
     obtain ⟨b, c, r1, r2⟩ := q2 hop
     exact ⟨b, c, by rw [h.blk id hid]; exact r1, r2⟩
 | .ptr id off, v, hb, hr => by
   simp only [ren, Rep] at hr ⊢
   refine ⟨hr.1, ?_⟩
   have hid := Xf hb
   obtain ⟨o, ho, ho'⟩ := h.get id hid
   have h2 := hr.2
   unfold Ey at h2 ⊢
   rw [ho'] at h2
   rw [ho]
   cases o with
   | dead => trivial
   | iter s p => obtain ⟨b, r1, r2⟩ := h2; exact ⟨b, by rw [h.blk id hid]; exact r1, r2⟩
   | cells T cs op =>
     cases op with
     | false => obtain ⟨b, r1, r2⟩ := h2; exact ⟨b, by rw [h.blk id hid]; exact r1, r2⟩
     | true => exact h2
 | .optr id off len, v, hb, hr => by
   simp only [ren, Rep] at hr ⊢
   refine ⟨hr.1, ?_⟩
   have hid := Xf hb
   obtain ⟨o, ho, ho'⟩ := h.get id hid
   have h2 := hr.2
   unfold E8 at h2 ⊢
   rw [ho'] at h2
   rw [ho]
   cases o with
   | dead => trivial
   | iter s p => exact h2
   | cells T cs op =>
     cases op with
     | true =>
       simp only [Jd, Ce] at h2
       refine ⟨h2.1, fun hl => ?_⟩
       obtain ⟨b, r1, r2⟩ := h2.2 hl
       exact ⟨b, by rw [h.blk id hid]; exact r1, r2⟩
     | false => exact h2
 | .eptr e off, v, hb, hr => by
   simp only [ren, Rep] at hr ⊢
   obtain ⟨b, base, u, h1, h2, h3, h4, h5⟩ := hr
   refine ⟨b, base, u, h1, Rep.down h e u hb h2, ⟨fun hm => h3.1 (h.sub _ hm), fun hf => ?_⟩, h4, h5⟩
   rcases h.forb _ hf with h' | h'
   · exact h3.2 h'
   · exact h3.1 h'
 | .fn f a c, v, hb, hr => by
   simp only [ren, Rep] at hr ⊢
   obtain ⟨h1, h2⟩ := Jm hb
   obtain ⟨fs, cs, r1, r2, r3⟩ := hr
   exact ⟨fs, cs, r1, A9.down h a fs h1 r2, A9.down h c cs h2 r3⟩
 | .iface t x, v, hb, hr => by
   simp only [ren, Rep] at hr ⊢
   obtain ⟨u, h1, h2⟩ := hr
   exact ⟨u, h1, Rep.down h x u hb h2⟩
 | .bool _, v, _, hr => by simpa only [ren, Rep] using hr
 | .int _ _, v, _, hr => by simpa only [ren, Rep] using hr
 | .str _, v, _, hr => by simpa only [ren, Rep] using hr
 | .nilSl, v, _, hr => by simpa only [ren, Rep] using hr
 | .emp, v, _, hr => by simpa only [ren, Rep] using hr
 | .nilPtr, v, _, hr => by simpa only [ren, Rep] using hr
 | .nilFn, v, _, hr => by simpa only [ren, Rep] using hr
 | .nilIf, v, _, hr => by simpa only [ren, Rep] using hr
theorem A9.down (h : A3t F F' bs bs0 H H0 ρ m) : ∀ (as : List AVal) (vs : List Value), C0 m as = true → A9 F bs H w (Hy ρ as) vs → A9 F' bs0 H0 w as vs
 | [], vs, _, hr => by simpa only [Hy, A9] using hr
 | a :: as, vs, hb, hr => by
   simp only [Hy, A9] at hr ⊢
   obtain ⟨h1, h2⟩ := Jm hb
   obtain ⟨u, us, rfl, r1, r2⟩ := hr
   exact ⟨u, us, rfl, Rep.down h a u h1 r1, A9.down h as us h2 r2⟩
end
structure Up (F F' : Nat → Prop) (bs bs0 : List Nat) (H H0 : Hz) (ρ : Nat → Nat) : Prop where
 get : ∀ j o, H0[j]? = some o → H[ρ j]? = some (Jd ρ o)
 blk : ∀ j b, bs0[j]? = some b → bs[ρ j]? = some b
 out : ∀ b, b ∉ bs0 → ¬ F' b → b ∉ bs ∧ ¬ F b
mutual
theorem Rep.up (h : Up F F' bs bs0 H H0 ρ) : ∀ (a : AVal) (v : Value), Rep F' bs0 H0 w a v → Rep F bs H w (ren ρ a) v
 | .agg cs, v, hr => by simp only [ren, Rep] at hr ⊢; obtain ⟨vs, rfl, h2⟩ := hr; exact ⟨vs, rfl, A9.up h cs vs h2⟩
 | .tup cs, v, hr => by simp only [ren, Rep] at hr ⊢; obtain ⟨vs, rfl, h2⟩ := hr; exact ⟨vs, rfl, A9.up h cs vs h2⟩
 | .row k es, v, hr => by
   simp only [ren, Rep] at hr ⊢
   obtain ⟨a, cap, vs, h1, h2, h3, h4⟩ := hr
   refine ⟨a, cap, vs, by rw [h1, Ce], A9.up h es vs h2, h3, ?_⟩
   cases a with
   | none => exact h4
   | some a =>
     obtain ⟨q1, q2, q3⟩ := h4
     refine ⟨q1, q2, fun j u hj => ?_⟩
     obtain ⟨⟨hn, hnF⟩, hc⟩ := q3 j u hj
     exact ⟨h.out _ hn hnF, hc⟩
 | .hsl k id off len cap, v, hr => by
   simp only [ren, Rep] at hr ⊢
   refine ⟨hr.1, ?_⟩
   have h2 := hr.2
   unfold D8 at h2 ⊢
   cases ho : H0[id]? with
   | none => rw [ho] at h2; exact h2.elim
   | some o =>
     rw [ho] at h2
     rw [h.get id o ho]
     cases o with
     | dead => trivial
     | iter s p => exact h2
     | cells T cs op =>
       simp only [Jd, Ce]
       obtain ⟨q1, q2⟩ := h2
       refine ⟨q1, fun hop => ?_⟩
       obtain ⟨b, c, r1, r2⟩ := q2 hop
       exact ⟨b, c, h.blk id b r1, r2⟩
 | .ptr id off, v, hr => by
   simp only [ren, Rep] at hr ⊢
   refine ⟨hr.1, ?_⟩
   have h2 := hr.2
   unfold Ey at h2 ⊢
   cases ho : H0[id]? with
   | none => rw [ho] at h2; exact h2.elim
   | some o =>
     rw [ho] at h2
     rw [h.get id o ho]
     cases o with
     | dead => trivial
     | iter s p => obtain ⟨b, r1, r2⟩ := h2; exact ⟨b, h.blk id b r1, r2⟩
     | cells T cs op =>
       cases op with
       | false => obtain ⟨b, r1, r2⟩ := h2; exact ⟨b, h.blk id b r1, r2⟩
       | true => exact h2
 | .optr id off len, v, hr => by
   simp only [ren, Rep] at hr ⊢
   refine ⟨hr.1, ?_⟩
   have h2 := hr.2
   unfold E8 at h2 ⊢
   cases ho : H0[id]? with
   | none => rw [ho] at h2; exact h2.elim
   | some o =>
     rw [ho] at h2
     rw [h.get id o ho]
     cases o with
     | dead => trivial
     | iter s p => exact h2
     | cells T cs op =>
       cases op with
       | true =>
         simp only [Jd, Ce]
         refine ⟨h2.1, fun hl => ?_⟩
         obtain ⟨b, r1, r2⟩ := h2.2 hl
         exact ⟨b, h.blk id b r1, r2⟩
       | false => exact h2
 | .eptr e off, v, hr => by
   simp only [ren, Rep] at hr ⊢
   obtain ⟨b, base, u, h1, h2, h3, h4, h5⟩ := hr
   exact ⟨b, base, u, h1, Rep.up h e u h2, h.out _ h3.1 h3.2, h4, h5⟩
 | .fn f a c, v, hr => by
   simp only [ren, Rep] at hr ⊢
   obtain ⟨fs, cs, r1, r2, r3⟩ := hr
   exact ⟨fs, cs, r1, A9.up h a fs r2, A9.up h c cs r3⟩
 | .iface t x, v, hr => by
   simp only [ren, Rep] at hr ⊢
   obtain ⟨u, h1, h2⟩ := hr
   exact ⟨u, h1, Rep.up h x u h2⟩
 | .bool _, v, hr => by simpa only [ren, Rep] using hr
 | .int _ _, v, hr => by simpa only [ren, Rep] using hr
 | .str _, v, hr => by simpa only [ren, Rep] using hr
 | .nilSl, v, hr => by simpa only [ren, Rep] using hr
 | .emp, v, hr => by simpa only [ren, Rep] using hr
 | .nilPtr, v, hr => by simpa only [ren, Rep] using hr
 | .nilFn, v, hr => by simpa only [ren, Rep] using hr
 | .nilIf, v, hr => by simpa only [ren, Rep] using hr
theorem A9.up (h : Up F F' bs bs0 H H0 ρ) : ∀ (as : List AVal) (vs : List Value), A9 F' bs0 H0 w as vs → A9 F bs H w (Hy ρ as) vs
 | [], vs, hr => by simpa only [Hy, A9] using hr
 | a :: as, vs, hr => by
   simp only [Hy, A9] at hr ⊢
   obtain ⟨u, us, rfl, r1, r2⟩ := hr
   exact ⟨u, us, rfl, Rep.up h a u r1, A9.up h as us r2⟩
end
theorem W5 {l : List Nat} (h : ∀ (i j b : Nat), i < j → l[i]? = some b → l[j]? = some b → False) : l.Nodup :=
 List.pairwise_iff_getElem.2 fun i j hi hj hij e => h i j l[j] hij (by rw [gGe hi, e]) (gGe hj)
theorem A3.ren {P : Program} {W0 : World} {f : FuncId} {args : List AVal} {H H0 H0' : Hz} {v : AVal} (sel : List Nat) (ρ : Nat → Nat) (hs : Sel sel H0.length H0 H ρ) (hbH : Fg H0.length H0 = true) (hba : C0 H0.length args = true)
 (hl : H0'.length = H0.length) (hc : A3 P W0 f args H0 v H0') : A3 P W0 f (Hy ρ args) H (ren ρ v) (G7 sel (H0'.map (Jd ρ)) H) := by
 refine ⟨hc.1, fun F bs w cargs hh hr => ?_⟩
 have hbl : bs.length = H.length := hh.len
 let bs0 : List Nat := sel.map fun i => bs.getD i 0
 have hbs0 : ∀ j i, sel[j]? = some i → bs0[j]? = bs[i]? := fun j i hj => by
  have hi : i < bs.length := by rw [hbl]; exact hs.lt i (mGe hj)
  show (sel.map fun i => bs.getD i 0)[j]? = bs[i]?
  rw [List.getElem?_map, hj]
  simp [List.getD_eq_getElem?_getD, gGe hi]
 have hbsl : bs0.length = H0.length := by show (sel.map _).length = _; rw [List.length_map, hs.len]
 have hsub : ∀ b, b ∈ bs0 → b ∈ bs := fun b hb => by
  obtain ⟨j, hj⟩ := List.getElem?_of_mem hb
  have hjl : j < sel.length := by rw [hs.len, ← hbsl]; exact (List.getElem?_eq_some_iff.1 hj).1
  rw [hbs0 j sel[j] (gGe hjl)] at hj
  exact mGe hj
 let F' : Nat → Prop := fun b => F b ∨ (b ∈ bs ∧ b ∉ bs0)
 have hdown : A3t F F' bs bs0 H H0 ρ H0.length := by
  refine ⟨fun j hj => ?_, fun j hj => hbs0 j (ρ j) (hs.rho j hj), hsub, fun b hb => hb.imp id And.left⟩
  exact ⟨H0[j], gGe hj, hs.get j _ (gGe hj)⟩
 have hnd0 : bs0.Nodup := by
  refine W5 fun i j b hij h1 h2 => ?_
  have hi' : i < sel.length := by rw [hs.len, ← hbsl]; exact (List.getElem?_eq_some_iff.1 h1).1
  have hj' : j < sel.length := by rw [hs.len, ← hbsl]; exact (List.getElem?_eq_some_iff.1 h2).1
  rw [hbs0 i _ (gGe hi')] at h1
  rw [hbs0 j _ (gGe hj')] at h2
  have := F7 hh.nodup h1 h2
  have h2 := F7 hs.nd (i := i) (j := j) (gGe hi') (by rw [gGe hj', this])
  omega
 have hh0 : Ac W0 F' bs0 H0 w := by
  refine ⟨hbsl, hh.base, fun b hb => hh.low b (hsub b hb), hnd0, fun b hb => ?_, fun i o b hi hb => ?_⟩
  · rcases hb with hb | ⟨hb, hn⟩
    · obtain ⟨q1, q2, q3⟩ := hh.forb b hb
      exact ⟨q1, q2, fun hm => q3 (hsub b hm)⟩
    · exact ⟨(hh.low b hb).1, (hh.low b hb).2, hn⟩
  · have hil : i < H0.length := (List.getElem?_eq_some_iff.1 hi).1
    have hb' : bs[ρ i]? = some b := by rw [← hdown.blk i hil]; exact hb
    have ho := hh.obj (ρ i) (Jd ρ o) b (hs.get i o hi) hb'
    cases o with
    | dead => trivial
    | iter s p => exact ho
    | cells T cs op =>
      have hcs := Qf hbH hi
      cases op with
      | false => obtain ⟨vs, rest, fr, q1, q2, q3⟩ := ho; exact ⟨vs, rest, fr, q1, A9.down hdown cs vs hcs q2, q3⟩
      | true => obtain ⟨vs, rest, q1, q2⟩ := ho; exact ⟨vs, rest, q1, A9.down hdown cs vs hcs q2⟩
 refine Calls.mono (hc.2 F' bs0 w cargs hh0 (A9.down hdown args cargs hba hr)) fun e w' he => ?_
 obtain ⟨cv, bs0', rfl, hv, hh', he'⟩ := he
 have hl0' : bs0'.length = sel.length := by rw [hh'.len, hl, hs.len]
 have hsl : sel.length = H0'.length := by rw [hs.len, hl]
 let H' := G7 sel (H0'.map (Jd ρ)) H
 let bs' := G7 sel bs0' bs
 have hH'l : H'.length = H.length := I6 _ _ _
 have hbs'l : bs'.length = bs.length := I6 _ _ _
 have inj : ∀ (j : Nat), j < H0.length → sel[j]? = some (ρ j) := hs.rho
 have getO : ∀ j o, H0'[j]? = some o → H'[ρ j]? = some (Jd ρ o) := fun j o ho => by
  have hj : j < H0.length := by rw [← hl]; exact (List.getElem?_eq_some_iff.1 ho).1
  exact Im sel _ H j (ρ j) _ hs.nd (inj j hj) (by rw [List.getElem?_map, ho]; rfl) (hs.lt _ (mGe (inj j hj)))
 have getB : ∀ j b, bs0'[j]? = some b → bs'[ρ j]? = some b := fun j b hb => by
  have hj : j < H0.length := by rw [← hs.len, ← hl0']; exact (List.getElem?_eq_some_iff.1 hb).1
  exact Im sel _ bs j (ρ j) _ hs.nd (inj j hj) hb (by rw [hbl]; exact hs.lt _ (mGe (inj j hj)))
 have noO : ∀ i, i ∉ sel → H'[i]? = H[i]? := fun i hi => Ig sel _ H i hi
 have noB : ∀ i, i ∉ sel → bs'[i]? = bs[i]? := fun i hi => Ig sel _ bs i hi
 have selj : ∀ i, i ∈ sel → ∃ j, j < H0.length ∧ ρ j = i ∧ sel[j]? = some i := fun i hi => by
  obtain ⟨j, hj⟩ := List.getElem?_of_mem hi
  have hjl : j < H0.length := by rw [← hs.len]; exact (List.getElem?_eq_some_iff.1 hj).1
  have := inj j hjl
  rw [this] at hj
  injection hj with hj
  exact ⟨j, hjl, hj, by rw [this, hj]⟩
 have getB' : ∀ i b, bs'[i]? = some b → (i ∉ sel ∧ bs[i]? = some b) ∨ ∃ j, ρ j = i ∧ sel[j]? = some i ∧ bs0'[j]? = some b := fun i b hb => by
  by_cases hi : i ∈ sel
  · obtain ⟨j, hj, he, hsj⟩ := selj i hi
    right
    have hjl : j < bs0'.length := by rw [hl0', hs.len]; exact hj
    have := getB j _ (gGe hjl)
    rw [he, hb] at this
    injection this with this
    exact ⟨j, he, hsj, by rw [gGe hjl, this]⟩
  · exact .inl ⟨hi, by rw [← noB i hi]; exact hb⟩
 have notin : ∀ i b, i ∉ sel → bs[i]? = some b → b ∉ bs0 := fun i b hi hb hm => by
  obtain ⟨j, hj⟩ := List.getElem?_of_mem hm
  have hjl : j < sel.length := by rw [hs.len, ← hbsl]; exact (List.getElem?_eq_some_iff.1 hj).1
  rw [hbs0 j sel[j] (gGe hjl)] at hj
  have := F7 hh.nodup hb hj
  exact hi (this ▸ List.getElem_mem hjl)
 have memB' : ∀ b, b ∈ bs' → (b ∈ bs ∧ b ∉ bs0) ∨ b ∈ bs0' := fun b hb => by
  obtain ⟨i, hi⟩ := List.getElem?_of_mem hb
  rcases getB' i b hi with ⟨h1, h2⟩ | ⟨j, _, _, h3⟩
  · exact .inl ⟨mGe h2, notin i b h1 h2⟩
  · exact .inr (mGe h3)
 have hup : Up F F' bs' bs0' H' H0' ρ := by
  refine ⟨getO, getB, fun b hb hf => ⟨fun hm => ?_, fun hF => hf (.inl hF)⟩⟩
  rcases memB' b hm with h1 | h1
  · exact hf (.inr h1)
  · exact hb h1
 have hext : Ext bs H w bs' H' w' := by
  refine ⟨he'.size, fun k hk hn => he'.block k hk fun hm => hn (hsub k hm), fun k hk => ?_, fun i o ho => ?_⟩
  · rcases memB' k hk with h1 | h1
    · exact .inl h1.1
    · rcases he'.new k h1 with h2 | h2
      · exact .inl (hsub k h2)
      · exact .inr h2
  · by_cases hi : i ∈ sel
    · obtain ⟨j, hj, rfl, hsj⟩ := selj i hi
      have ho0 := gGe hj
      have hoo := hs.get j _ ho0
      rw [ho] at hoo
      injection hoo with hoo
      obtain ⟨o', hj', hx⟩ := he'.obj j _ ho0
      refine ⟨Jd ρ o', getO j o' hj', ?_⟩
      have hbj : bs0[j]? = bs[ρ j]? := hbs0 j _ hsj
      have hbj' : bs0'[j]? = bs'[ρ j]? := by
       have hjl : j < bs0'.length := by rw [hl0', hs.len]; exact hj
       rw [gGe hjl, getB j _ (gGe hjl)]
      rw [hoo]
      cases hc0 : H0[j] with
      | dead => rw [hc0] at hx; simp only [Bi] at hx; subst hx; rfl
      | iter s p =>
        rw [hc0] at hx
        rcases hx with rfl | ⟨s', p', rfl, hb⟩
        · exact .inl rfl
        · exact .inr ⟨s', p', rfl, by rw [← hbj', ← hbj]; exact hb⟩
      | cells T cs op =>
        rw [hc0] at hx
        cases op with
        | false =>
          rcases hx with rfl | ⟨T', cs', rfl, h1, hb⟩
          · exact .inl rfl
          · exact .inr ⟨T', _, rfl, by rw [Ce, Ce, h1], by rw [← hbj', ← hbj]; exact hb⟩
        | true =>
          rcases hx with rfl | ⟨T', cs', rfl, h1⟩
          · exact .inl rfl
          · refine .inr ⟨T', _, rfl, ?_⟩
            rw [Ce, Ce, ← hbj', ← hbj]
            exact h1
    · refine ⟨o, by rw [noO i hi]; exact ho, ?_⟩
      have hb := noB i hi
      have hz : ∀ b, bs[i]? = some b → Dp w' b = Dp w b := fun b hb' => by
       unfold Dp
       rw [he'.block b (hh.low b (mGe hb')).2 (notin i b hi hb')]
      cases o with
      | dead => rfl
      | iter s p => exact .inr ⟨s, p, rfl, hb⟩
      | cells T cs op =>
        cases op with
        | false => exact .inr ⟨T, cs, rfl, rfl, hb⟩
        | true => exact .inr ⟨T, cs, rfl, .inr ⟨rfl, hb, hz⟩⟩
 refine ⟨cv, bs', rfl, Rep.up hup v cv hv, ?_, hext⟩
 refine ⟨by rw [hbs'l, hbl, hH'l], hh'.base, fun b hb => ?_, ?_, fun b hb => ?_, fun i o b hi hb => ?_⟩
 · rcases memB' b hb with h1 | h1
   · exact ⟨(hh.low b h1.1).1, nLl (hh.low b h1.1).2 he'.size⟩
   · exact hh'.low b h1
 · refine W5 fun i j b hij e hb => ?_
   rcases getB' i b e with ⟨h1, h2⟩ | ⟨i', h1, h2, h3⟩ <;> rcases getB' j b hb with ⟨k1, k2⟩ | ⟨j', k1, k2, k3⟩
   · have := F7 hh.nodup h2 k2; omega
   · exact (hh'.forb b (.inr ⟨mGe h2, notin i b h1 h2⟩)).2.2 (mGe k3)
   · exact (hh'.forb b (.inr ⟨mGe k2, notin j b k1 k2⟩)).2.2 (mGe h3)
   · have := F7 hh'.nodup h3 k3
     subst this
     omega
 · obtain ⟨q1, q2, q3⟩ := hh'.forb b (.inl hb)
   refine ⟨q1, q2, fun hm => ?_⟩
   rcases memB' b hm with h1 | h1
   · exact (hh.forb b hb).2.2 h1.1
   · exact q3 h1
 · rcases getB' i b hb with ⟨h1, h2⟩ | ⟨j, rfl, h2, h3⟩
   · rw [noO i h1] at hi
     exact (hh.obj i o b hi h2).ext hext (he'.block b (hh.low b (mGe h2)).2 (notin i b h1 h2))
   · have hjl : j < H0'.length := by rw [← hsl]; exact (List.getElem?_eq_some_iff.1 h2).1
     have h4 := getO j _ (gGe hjl)
     rw [hi] at h4
     injection h4 with h4
     have h5 := hh'.obj j _ b (gGe hjl) h3
     rw [h4]
     cases hc0 : H0'[j] with
     | dead => trivial
     | iter s p => rw [hc0] at h5; exact h5
     | cells T cs op =>
       rw [hc0] at h5
       cases op with
       | false => obtain ⟨vs, rest, fr, q1, q2, q3⟩ := h5; exact ⟨vs, rest, fr, q1, A9.up hup cs vs q2, q3⟩
       | true => obtain ⟨vs, rest, q1, q2⟩ := h5; exact ⟨vs, rest, q1, A9.up hup cs vs q2⟩
theorem A3.pure {P : Program} {W0 : World} {f : FuncId} {args : List AVal} {v : AVal} (ha : C0 0 args = true) (hv : blw 0 v = true) (hc : A3 P W0 f args [] v []) (H : Hz) : A3 P W0 f args H v H := by
 have h := A3.ren (H := H) [] id ⟨List.nodup_nil, rfl, rfl, fun j hj => by simp at hj, fun i hi => by simp at hi, fun j o ho => by simp at ho⟩ (H0 := []) rfl ha rfl hc
 rw [Du args ha, H6 v hv] at h
 exact h
end
section
variable {P : Program} {W0 : World} {G : List (Nat × AVal)} {l : List (Nat × AVal)} {H H' : Hz} {n : Nat} {K : St → Prop} {r : List AOper}
theorem lB {d : Nat} {op : AOp} {b : Bool} {side : List (Int × Int)} (h : aop G ⟨.al l, H, n⟩ op = some (.val (.bool b) H' side)) (hd : (Nat.blt d n && Nat.blt d 4094) = true) (hs : Ae side)
 (k1 : b = true → As P W0 G r ⟨.al ((d, .bool true) :: l), H', n⟩ K) (k2 : b = false → As P W0 G r ⟨.al ((d, .bool false) :: l), H', n⟩ K) : As P W0 G (⟨some d, none, op⟩ :: r) ⟨.al l, H, n⟩ K := by
 cases b
 · exact A6 h hd hs (k2 rfl)
 · exact A6 h hd hs (k1 rfl)
theorem lCB {d : Nat} {op : AOp} {f : Nat} {args : List AVal} {b : Bool} (h : aop G ⟨.al l, H, n⟩ op = some (.call f args)) (hd : (Nat.blt d n && Nat.blt d 4094) = true) (hc : A3 P W0 f args H (.bool b) H')
 (k1 : b = true → As P W0 G r ⟨.al ((d, .bool true) :: l), H', n⟩ K) (k2 : b = false → As P W0 G r ⟨.al ((d, .bool false) :: l), H', n⟩ K) : As P W0 G (⟨some d, none, op⟩ :: r) ⟨.al l, H, n⟩ K := by
 cases b
 · exact Dt h hd hc (k2 rfl)
 · exact Dt h hd hc (k1 rfl)
theorem lGY {dst : Option Nat} {op : AOp} {t : Nat} {want : Bool} (h : lk t l = some (.bool want)) (k : As P W0 G (⟨dst, none, op⟩ :: r) ⟨.al l, H, n⟩ K) : As P W0 G (⟨dst, some (t, want), op⟩ :: r) ⟨.al l, H, n⟩ K :=
 A4c h (fun _ => k) (fun e => by cases want <;> cases e)
theorem lGN {d : Nat} {op : AOp} {t : Nat} {want : Bool} (h : lk t l = some (.bool (!want))) (hd : (Nat.blt d n && Nat.blt d 4094) = true) (k : As P W0 G r ⟨.al ((d, .tup []) :: l), H, n⟩ K) : As P W0 G (⟨some d, some (t, want), op⟩ :: r) ⟨.al l, H, n⟩ K :=
 A4c h (fun e => by cases want <;> cases e) (fun _ => A6 rfl hd trivial k)
theorem lGT {d : Nat} {op : AOp} {t : Nat} {want : Bool} (h : lk t l = some (.tup [])) (hd : (Nat.blt d n && Nat.blt d 4094) = true) (k : As P W0 G r ⟨.al ((d, .tup []) :: l), H, n⟩ K) : As P W0 G (⟨some d, some (t, want), op⟩ :: r) ⟨.al l, H, n⟩ K :=
 A3k h (A6 rfl hd trivial k)
theorem qB {d : Nat} {op : AOp} {b : Bool} {side : List (Int × Int)} (h : aop G ⟨.al l, H, n⟩ op = some (.val (.bool b) H side)) (hd : (Nat.blt d n && Nat.blt d 4094) = true) (hs : Ae side)
 (k1 : b = true → Bn P W0 G r ⟨.al ((d, .bool true) :: l), H, n⟩ K) (k2 : b = false → Bn P W0 G r ⟨.al ((d, .bool false) :: l), H, n⟩ K) : Bn P W0 G (⟨some d, none, op⟩ :: r) ⟨.al l, H, n⟩ K := by
 cases b
 · exact C5 h hd hs (k2 rfl)
 · exact C5 h hd hs (k1 rfl)
theorem qGY {dst : Option Nat} {op : AOp} {t : Nat} {want : Bool} (h : lk t l = some (.bool want)) (k : Bn P W0 G (⟨dst, none, op⟩ :: r) ⟨.al l, H, n⟩ K) : Bn P W0 G (⟨dst, some (t, want), op⟩ :: r) ⟨.al l, H, n⟩ K :=
 A2h h (fun _ => k) (fun e => by cases want <;> cases e)
theorem qGN {d : Nat} {op : AOp} {t : Nat} {want : Bool} (h : lk t l = some (.bool (!want))) (hd : (Nat.blt d n && Nat.blt d 4094) = true) (k : Bn P W0 G r ⟨.al ((d, .tup []) :: l), H, n⟩ K) : Bn P W0 G (⟨some d, some (t, want), op⟩ :: r) ⟨.al l, H, n⟩ K :=
 A2h h (fun e => by cases want <;> cases e) (fun _ => C5 rfl hd trivial k)
end
section
variable {P : Program} {W0 : World} {G : List (Nat × AVal)} {s : St} {K : Av → St → Prop}
theorem ExA.condT (hg : Gr P W0 G) {c : AOpd} {x y : ACode} (hv : ev G s c = some (.bool true)) (h : ExA P W0 x s K) : ExA P W0 (.cond c x y) s K := ExA.cond hg hv (fun _ => h) (fun e => by cases e)
theorem ExA.condF (hg : Gr P W0 G) {c : AOpd} {x y : ACode} (hv : ev G s c = some (.bool false)) (h : ExA P W0 y s K) : ExA P W0 (.cond c x y) s K := ExA.cond hg hv (fun e => by cases e) (fun _ => h)
end
theorem A3.at1 {P : Program} {W0 : World} {f : FuncId} {args args' : List AVal} {o o' q q' : HObj} {v v' : AVal} (hc : A3 P W0 f args [o] v [o']) {H H' : Hz} {id : Nat} (hi : H[id]? = some q)
 (hb : Fg 1 [o] = true) (ha : C0 1 args = true) (h1 : Hy (fun _ => id) args = args') (h2 : Abs.ren (fun _ => id) v = v') (h3 : Jd (fun _ => id) o = q) (h4 : Jd (fun _ => id) o' = q') (h5 : H.set id q' = H') : A3 P W0 f args' H v' H' := by
 subst h1; subst h2; subst h4; subst h5
 have hs : Sel [id] [o].length [o] H (fun _ => id) := ⟨by simp, rfl, rfl, fun j hj => by
  have hj : j = 0 := Nat.lt_one_iff.1 hj
  subst hj; rfl, fun i h => by
  simp only [List.mem_singleton] at h
  subst h
  exact (List.getElem?_eq_some_iff.1 hi).1, fun j p h => by
  cases j with
  | zero => simp only [List.getElem?_cons_zero, iS] at h; subst h; rw [h3]; exact hi
  | succ j => simp at h⟩
 have := A3.ren (H0 := [o]) (H0' := [o']) [id] (fun _ => id) hs hb ha rfl hc
 exact this
theorem Wg {α : Type} {l : List α} {i : Nat} {x : α} (h : l[i]? = some x) : l.set i x = l := by
 apply List.ext_getElem?
 intro k
 by_cases hk : i = k
 · subst hk; rw [List.getElem?_set_self (List.getElem?_eq_some_iff.1 h).1, h]
 · rw [List.getElem?_set_ne hk]
theorem w64 {x : Int} (h1 : -9223372036854775808 ≤ x) (h2 : x ≤ 9223372036854775807) : IntKind.i64.wrap x = x := by
 rw [IntKind.wrap_i64]; omega
section
variable {P : Program} {W0 : World} {G : List (Nat × AVal)} {l : List (Nat × AVal)} {H : Hz} {n : Nat} {K : St → Prop} {r : List AOper}
theorem lAddN {d : Nat} {x y : AOpd} {a b : Nat} (hx : ev G ⟨.al l, H, n⟩ x = some (.int .i64 a)) (hy : ev G ⟨.al l, H, n⟩ y = some (.int .i64 b)) (hd : (Nat.blt d n && Nat.blt d 4094) = true) (hb : a + b ≤ 9223372036854775807)
 (k : As P W0 G r ⟨.al ((d, .int .i64 (a + b : Nat)) :: l), H, n⟩ K) : As P W0 G (⟨some d, none, .bin .add none x y⟩ :: r) ⟨.al l, H, n⟩ K := by
 refine A6 (side := []) ?_ hd trivial k
 simp only [aop, hx, hy]
 show Rl H (some (.int .i64 (IntKind.i64.wrap (a + b)), [])) = _
 rw [w64 (by omega) (by omega)]
 rfl
theorem qAddN {d : Nat} {x y : AOpd} {a b : Nat} (hx : ev G ⟨.al l, H, n⟩ x = some (.int .i64 a)) (hy : ev G ⟨.al l, H, n⟩ y = some (.int .i64 b)) (hd : (Nat.blt d n && Nat.blt d 4094) = true) (hb : a + b ≤ 9223372036854775807)
 (k : Bn P W0 G r ⟨.al ((d, .int .i64 (a + b : Nat)) :: l), H, n⟩ K) : Bn P W0 G (⟨some d, none, .bin .add none x y⟩ :: r) ⟨.al l, H, n⟩ K := by
 refine C5 (side := []) ?_ hd trivial k
 simp only [aop, hx, hy]
 show Rl H (some (.int .i64 (IntKind.i64.wrap (a + b)), [])) = _
 rw [w64 (by omega) (by omega)]
 rfl
end
section
variable {P : Program} {W0 : World} {G : List (Nat × AVal)} {l : List (Nat × AVal)} {H H' : Hz} {n : Nat} {K : St → Prop} {r : List AOper}
theorem lV {d : Nat} {op : AOp} {v : AVal} (h : aop G ⟨.al l, H, n⟩ op = some (.val v H' [])) (k : As P W0 G r ⟨.al ((d, v) :: l), H', n⟩ K) (hd : (Nat.blt d n && Nat.blt d 4094) = true := by rfl) : As P W0 G (⟨some d, none, op⟩ :: r) ⟨.al l, H, n⟩ K := A6 h hd trivial k
theorem lS {d : Nat} {op : AOp} {v : AVal} {side : List (Int × Int)} (h : aop G ⟨.al l, H, n⟩ op = some (.val v H' side)) (k : As P W0 G r ⟨.al ((d, v) :: l), H', n⟩ K) (hd : (Nat.blt d n && Nat.blt d 4094) = true := by rfl) (hs : Ae side := by first | exact trivial | decide | (simp only [Ar, B6, Ae, and_true, lCo, lNi, lAp]; omega)) : As P W0 G (⟨some d, none, op⟩ :: r) ⟨.al l, H, n⟩ K := A6 h hd hs k
theorem lC {d : Nat} {op : AOp} {f : Nat} {args : List AVal} {v : AVal} (h : aop G ⟨.al l, H, n⟩ op = some (.call f args)) (hc : A3 P W0 f args H v H') (k : As P W0 G r ⟨.al ((d, v) :: l), H', n⟩ K) (hd : (Nat.blt d n && Nat.blt d 4094) = true := by rfl) : As P W0 G (⟨some d, none, op⟩ :: r) ⟨.al l, H, n⟩ K := Dt h hd hc k
theorem ln (h : K ⟨.al l, H, n⟩) : As P W0 G [] ⟨.al l, H, n⟩ K := h
theorem qV {d : Nat} {op : AOp} {v : AVal} (h : aop G ⟨.al l, H, n⟩ op = some (.val v H [])) (k : Bn P W0 G r ⟨.al ((d, v) :: l), H, n⟩ K) (hd : (Nat.blt d n && Nat.blt d 4094) = true := by rfl) : Bn P W0 G (⟨some d, none, op⟩ :: r) ⟨.al l, H, n⟩ K := C5 h hd trivial k
end
section
variable {P : Program} {W0 : World} {G : List (Nat × AVal)} {s : St} {K : Av → St → Prop}
theorem sa {x y : ACode} (h : ExA P W0 x s fun e s' => e.then s' (fun s' => ExA P W0 y s' K) K) : ExA P W0 (.seq x y) s K := ExA.seq h
theorem oA {x : List AOper} (h : As P W0 G x s (K .normal)) (hg : Gr P W0 G := by assumption) : ExA P W0 (.ops x) s K := ExA.ops hg h
theorem sA {x : List AOper} {y : ACode} (h : As P W0 G x s fun s' => Av.then .normal s' (fun s' => ExA P W0 y s' K) K) (hg : Gr P W0 G := by assumption) : ExA P W0 (.seq (.ops x) y) s K := ExA.seq (ExA.ops hg h)
theorem bA {id : Nat} {x : ACode} (h : ExA P W0 x s (Av.inBlock id K)) : ExA P W0 (.block id x) s K := ExA.block h
theorem kA (h : K .normal s) : ExA P W0 .skip s K := ExA.skip h
theorem aT {c : AOpd} {x y : ACode} (hv : ev G s c = some (.bool true)) (h : ExA P W0 x s K) (hg : Gr P W0 G := by assumption) : ExA P W0 (.cond c x y) s K := ExA.condT hg hv h
theorem aF {c : AOpd} {x y : ACode} (hv : ev G s c = some (.bool false)) (h : ExA P W0 y s K) (hg : Gr P W0 G := by assumption) : ExA P W0 (.cond c x y) s K := ExA.condF hg hv h
end
def Jo : List (Nat × AVal) → Env → Prop
 | [], _ => True
 | p :: r, e => e.get p.1 = some p.2 ∧ Jo r e
theorem agC {t : Nat} {v : AVal} {r : List (Nat × AVal)} {e : Env} (h : e.get t = some v) (k : Jo r e) : Jo ((t, v) :: r) e := ⟨h, k⟩
theorem agN {e : Env} : Jo [] e := trivial
theorem Jy : ∀ {l : List (Nat × AVal)} {e : Env}, Jo l e → ∀ p ∈ l, e.get p.1 = some p.2
 | [], _, _, _, h => by cases h
 | q :: r, e, ha, p, h => by
   rcases List.mem_cons.1 h with rfl | h
   · exact ha.1
   · exact Jy ha.2 p h
theorem Q6 {l : List (Nat × AVal)} {H : Hz} {n : Nat} {s : St} (hn : n = s.n) (hH : H = s.H) (h : Jo l s.env) {m : Nat} (hm : m = s.H.length) : Wk m ⟨.al l, H, n⟩ s := by
 subst hm
 exact Wk.same hn hH (Jy h)
theorem wkCut {m : Nat} {l : List (Nat × AVal)} {H : Hz} {n : Nat} {s : St} (hn : n = s.n) (hm : m ≤ H.length) (hH : s.H.take H.length = H) (h : Jo l s.env) (hb : Fg H.length H = true) (hl : C0 H.length (l.map (·.2)) = true) : Wk m ⟨.al l, H, n⟩ s :=
 Wk.cut hn hm hH (Jy h) hb hl
theorem wkLen {l : List (Nat × AVal)} {H : Hz} {n : Nat} {s : St} (hn : n = s.n) (hH : H = s.H) (h : Jo l s.env) {m : Nat} (hm : m ≤ s.H.length) : Wk m ⟨.al l, H, n⟩ s :=
 ⟨hn, by rw [hH]; exact hm, by rw [hH]; exact List.take_length, Yj (Jy h), .inl (by rw [hH])⟩
theorem bltY {a b : Nat} (h : a < b) : Nat.blt a b = true := by simpa [Nat.blt_eq] using h
theorem A2j {a b : Nat} (h : ¬ a < b) : Nat.blt a b = false := by
 cases hq : Nat.blt a b with
 | false => rfl
 | true => exact absurd (by simpa [Nat.blt_eq] using hq) h
theorem A3c {s : Bz} {pos : Nat} {b : UInt8} {r : Bz} (h : s.drop pos = b :: r) (hb : b.toNat < 128) : Jg s pos = (b.toNat, 1) := by
 have h1 := Lib.decodeL_drop ⟨s.toArray⟩ pos
 unfold Jg
 rw [← h1]
 simp only [h]
 exact Lib.decodeL_ascii b r hb
section
variable {P : Program} {W0 : World} {G : List (Nat × AVal)}
def ExR (P : Program) (W0 : World) (c : ACode) (K : Av → St → Prop) : Nat → St → Prop
 | 0, _ => False
 | n + 1, s => ExA P W0 c s fun e s' => e.then s' (ExR P W0 c K n) K
theorem ExR.step {c : ACode} {K : Av → St → Prop} {n : Nat} {s : St} (h : ExA P W0 c s fun e s' => e.then s' (ExR P W0 c K n) K) : ExR P W0 c K (n + 1) s := h
theorem ExA.unroll {c : ACode} {K : Av → St → Prop} (n : Nat) {s : St} (h : ExR P W0 c K n s) : ExA P W0 (.loop c) s K := fun k hk => by
 obtain ⟨k', rfl, hk'⟩ := L9 hk
 refine Ex.loop (σ := Nat) (fun n s => ExR P W0 c K n s) id (i := n) h ?_
 intro i s hi
 cases i with
 | zero => exact hi.elim
 | succ i =>
   refine (hi k' hk').mono fun e s' h => ?_
   cases e with
   | normal => exact ⟨i, h, Nat.lt_succ_self i⟩
   | exit id => exact h
   | ret => exact h
variable {l : List (Nat × AVal)} {H : Hz} {n : Nat} {K : St → Prop} {r : List AOper}
theorem lBk {d : Nat} {op : AOp} {b c : Bool} (h : aop G ⟨.al l, H, n⟩ op = some (.val (.bool b) H [])) (hd : (Nat.blt d n && Nat.blt d 4094) = true) (hb : b = c) (k : As P W0 G r ⟨.al ((d, .bool c) :: l), H, n⟩ K) : As P W0 G (⟨some d, none, op⟩ :: r) ⟨.al l, H, n⟩ K := by
 subst hb; exact A6 h hd trivial k
theorem qBk {d : Nat} {op : AOp} {b c : Bool} (h : aop G ⟨.al l, H, n⟩ op = some (.val (.bool b) H [])) (hd : (Nat.blt d n && Nat.blt d 4094) = true) (hb : b = c) (k : Bn P W0 G r ⟨.al ((d, .bool c) :: l), H, n⟩ K) : Bn P W0 G (⟨some d, none, op⟩ :: r) ⟨.al l, H, n⟩ K := by
 subst hb; exact C5 h hd trivial k
theorem lKv {d : Nat} {op : AOp} {v v0 : AVal} {H' : Hz} {side : List (Int × Int)} (h : aop G ⟨.al l, H, n⟩ op = some (.val v0 H' side)) (hd : (Nat.blt d n && Nat.blt d 4094) = true) (hs : Ae side) (hv : v0 = v) (k : As P W0 G r ⟨.al ((d, v) :: l), H', n⟩ K) : As P W0 G (⟨some d, none, op⟩ :: r) ⟨.al l, H, n⟩ K := by
 subst hv; exact A6 h hd hs k
theorem qKv {d : Nat} {op : AOp} {v v0 : AVal} {side : List (Int × Int)} (h : aop G ⟨.al l, H, n⟩ op = some (.val v0 H side)) (hd : (Nat.blt d n && Nat.blt d 4094) = true) (hs : Ae side) (hv : v0 = v) (k : Bn P W0 G r ⟨.al ((d, v) :: l), H, n⟩ K) : Bn P W0 G (⟨some d, none, op⟩ :: r) ⟨.al l, H, n⟩ K := by
 subst hv; exact C5 h hd hs k
end
def FzV (H : Hz) (n : Nat) (v2 v : AVal) : Prop := (∃ k, frz H n k v2 = some v) ∨ (v2 = .nilSl ∧ ∃ k, v = .row k [])
theorem fzv_ok {W0 : World} {F : Nat → Prop} {bs : List Nat} {H : Hz} {w : World} (hh : Ac W0 F bs H w) {n : Nat} {v2 v : AVal} {x : Value} (hr : Rep F bs H w v2 x) (h : FzV H n v2 v) : Rep F (bs.take n) (H.take n) w v x := by
 rcases h with ⟨k, h⟩ | ⟨rfl, k, rfl⟩
 · exact Ol hh k v2 x v hr h
 · simp only [Rep] at hr
   subst hr
   simp only [Rep, A9]
   exact ⟨none, 0, [], rfl, rfl, by simp, rfl, rfl⟩
structure Fz (m : Nat) (s1 s2 : St) : Prop where
 n : s1.n = s2.n
 H : ∃ k, m ≤ k ∧ s1.H = s2.H.take k ∧ Fg k (s2.H.take k) = true ∧ ∀ t v, s1.env.get t = some v → ∃ v2, s2.env.get t = some v2 ∧ FzV s2.H k v2 v
section
variable {P : Program} {W0 : World} {G : List (Nat × AVal)}
theorem RS.fz {F : Nat → Prop} {bs : List Nat} {s1 s2 : St} {a : Act} {w : World} (hs : RS W0 F bs s2 a w) {m : Nat} (hf : Fz m s1 s2) {bs0 : List Nat} {H0 : Hz} {w0 : World} (he : Ext bs0 H0 w0 bs s2.H w) (hm : H0.length = m) :
 ∃ bs', RS W0 F bs' s1 a w ∧ Ext bs0 H0 w0 bs' s1.H w := by
 obtain ⟨hn, k, hmk, hH, hb, henv⟩ := hf
 refine ⟨bs.take k, ⟨by rw [hH]; exact hs.heap.take hb, by rw [hs.size, hn], fun t v hv => ?_⟩, ?_⟩
 · obtain ⟨v2, h1, h2⟩ := henv t v hv
   rw [hH]
   exact fzv_ok hs.heap (hs.env t v2 h1) h2
 · rw [hH]; exact he.takeN (by omega)
def ExM (P : Program) (W0 : World) (m : Nat) (a : ACode) (s : St) (K : Av → St → Prop) : Prop :=
 ∀ c, By P c = some a → ∀ (F : Nat → Prop) (bs : List Nat) (x : Act) (w : World), RS W0 F bs s x w → ∀ (bs0 : List Nat) (H0 : Hz) (w0 : World), H0.length = m → Ext bs0 H0 w0 bs s.H w → ∀ Q : Exit → Act → World → Prop,
  (∀ e s' bs' a' w', K e s' → RS W0 F bs' s' a' w' → Ext bs0 H0 w0 bs' s'.H w' → a'.defers = x.defers → Q (convE e) a' w') → c.wp P Q x w
theorem ExM.of {m : Nat} {a : ACode} {s : St} {K : Av → St → Prop} (h : ExA P W0 a s K) : ExM P W0 m a s K := fun c hc F bs x w hs _ _ _ _ he Q hq =>
 h c hc F bs x w hs Q fun e s' bs' a' w' h1 h2 h3 h4 => hq e s' bs' a' w' h1 h2 (he.trans h3) h4
theorem ExM.mono {m : Nat} {a : ACode} {s : St} {K K' : Av → St → Prop} (h : ExM P W0 m a s K) (hk : ∀ e s', K e s' → K' e s') : ExM P W0 m a s K' := fun c hc F bs x w hs bs0 H0 w0 hm he Q hq =>
 h c hc F bs x w hs bs0 H0 w0 hm he Q fun e s' bs' a' w' h1 => hq e s' bs' a' w' (hk e s' h1)
theorem ExM.fz {m : Nat} {a : ACode} {s1 s2 : St} {K : Av → St → Prop} (hf : Fz m s1 s2) (h : ExM P W0 m a s1 K) : ExM P W0 m a s2 K := fun c hc F bs x w hs bs0 H0 w0 hm he Q hq => by
 obtain ⟨bs', h1, h2⟩ := hs.fz hf he hm
 exact h c hc F bs' x w h1 bs0 H0 w0 hm h2 Q hq
theorem ExM.seq {m : Nat} {x y : ACode} {s : St} {K : Av → St → Prop} (h : ExM P W0 m x s fun e s' => e.then s' (fun s' => ExM P W0 m y s' K) K) : ExM P W0 m (.seq x y) s K := fun c hc => by
 obtain ⟨a, b, rfl, ha, hb⟩ := Sj hc
 intro F bs x w hs bs0 H0 w0 hm he Q hq
 refine wp_seq (h a ha F bs x w hs bs0 H0 w0 hm he _ fun e s' bs' a' w' hk hrs hext hd => ?_)
 cases e with
 | normal => exact hk b hb F bs' a' w' hrs bs0 H0 w0 hm hext Q fun e2 s2 bs2 a2 w2 h1 h2 h3 h4 => hq e2 s2 bs2 a2 w2 h1 h2 h3 (h4.trans hd)
 | exit id => exact hq (.exit id) s' bs' a' w' hk hrs hext hd
 | ret => exact hq .ret s' bs' a' w' hk hrs hext hd
theorem ExM.cond (hg : Gr P W0 G) {m : Nat} {s : St} {K : Av → St → Prop} {c : AOpd} {x y : ACode} {b : Bool} (hv : ev G s c = some (.bool b)) (ht : b = true → ExM P W0 m x s K) (hf : b = false → ExM P W0 m y s K) : ExM P W0 m (.cond c x y) s K := fun k hk => by
 obtain ⟨p, a, d, rfl, hp, ha, hd⟩ := Qu hk
 intro F bs x w hs bs0 H0 w0 hm he Q hq
 exact wp_cond_split (t := b) (by have := Bg hg.g hs hp hv; simpa only [Rep] using this) (fun h => ht h a ha F bs x w hs bs0 H0 w0 hm he Q hq) (fun h => hf h d hd F bs x w hs bs0 H0 w0 hm he Q hq)
theorem ExM.condT (hg : Gr P W0 G) {m : Nat} {s : St} {K : Av → St → Prop} {c : AOpd} {x y : ACode} (hv : ev G s c = some (.bool true)) (h : ExM P W0 m x s K) : ExM P W0 m (.cond c x y) s K := ExM.cond hg hv (fun _ => h) (fun e => by cases e)
theorem ExM.condF (hg : Gr P W0 G) {m : Nat} {s : St} {K : Av → St → Prop} {c : AOpd} {x y : ACode} (hv : ev G s c = some (.bool false)) (h : ExM P W0 m y s K) : ExM P W0 m (.cond c x y) s K := ExM.cond hg hv (fun e => by cases e) (fun _ => h)
theorem ExM.block {m : Nat} {s : St} {K : Av → St → Prop} {id : Nat} {x : ACode} (h : ExM P W0 m x s (Av.inBlock id K)) : ExM P W0 m (.block id x) s K := fun c hc => by
 obtain ⟨a, rfl, ha⟩ := Ou hc
 intro F bs x w hs bs0 H0 w0 hm he Q hq
 refine wp_block (h a ha F bs x w hs bs0 H0 w0 hm he _ fun e s' bs' a' w' hk hrs hext hd => ?_)
 cases e with
 | normal => exact hq .normal s' bs' a' w' hk hrs hext hd
 | ret => exact hq .ret s' bs' a' w' hk hrs hext hd
 | exit j =>
   simp only [Av.inBlock] at hk
   show if j = id then Q .normal a' w' else Q (.exit j) a' w'
   cases hj : Nat.beq j id with
   | true =>
     rw [hj] at hk
     rw [if_pos (nBq hj)]
     exact hq .normal s' bs' a' w' hk hrs hext hd
   | false =>
     rw [hj] at hk
     rw [if_neg (Nat.ne_of_beq_eq_false hj)]
     exact hq (.exit j) s' bs' a' w' hk hrs hext hd
theorem ExM.skip {m : Nat} {s : St} {K : Av → St → Prop} (h : K .normal s) : ExM P W0 m .skip s K := ExM.of (ExA.skip h)
theorem ExM.exit {m : Nat} {s : St} {K : Av → St → Prop} {id : Nat} (h : K (.exit id) s) : ExM P W0 m (.exit id) s K := ExM.of (ExA.exit h)
theorem ExM.ret {m : Nat} {s : St} {K : Av → St → Prop} (h : K .ret s) : ExM P W0 m .ret s K := ExM.of (ExA.ret h)
theorem ExM.draw (hg : Gr P W0 G) {m : Nat} {l : List AOper} {s : St} {K : Av → St → Prop} (h : Bn P W0 G l s (K .normal)) : ExM P W0 m (.draw l) s K := ExM.of (ExA.draw hg h)
theorem ExM.loop {m : Nat} {c : ACode} {σ : Type} (st : σ → St) (I : σ → Prop) (μ : σ → Nat) (i : σ) {s : St} {K : Av → St → Prop} (h0 : Fz m (st i) s) (hI : I i)
 (round : ∀ i, I i → ExM P W0 m c (st i) fun e s' => e.then s' (fun s' => ∃ j, I j ∧ μ j < μ i ∧ Fz m (st j) s') K) : ExM P W0 m (.loop c) s K := fun k hk => by
 obtain ⟨k', rfl, hk'⟩ := L9 hk
 intro F bs a w hs bs0 H0 w0 hm he Q hq
 refine Jh (σ := σ) (fun i a' w' => ∃ bs', I i ∧ RS W0 F bs' (st i) a' w' ∧ Ext bs0 H0 w0 bs' (st i).H w' ∧ a'.defers = a.defers) μ (s := i) ?_ ?_
 · obtain ⟨bs', h1, h2⟩ := hs.fz h0 he hm
   exact ⟨bs', hI, h1, h2, rfl⟩
 · rintro i a1 w1 ⟨bs1, hi, hrs1, hext1, hd1⟩
   refine round i hi k' hk' F bs1 a1 w1 hrs1 bs0 H0 w0 hm hext1 _ fun e s' bs' a' w' hkk hrs hext hd => ?_
   cases e with
   | normal =>
     obtain ⟨j, hj, hlt, hw⟩ := hkk
     obtain ⟨bs2, h1, h2⟩ := hrs.fz hw hext hm
     exact ⟨j, ⟨bs2, hj, h1, h2, hd.trans hd1⟩, hlt⟩
   | exit id => exact hq (.exit id) s' bs' a' w' hkk hrs hext (hd.trans hd1)
   | ret => exact hq .ret s' bs' a' w' hkk hrs hext (hd.trans hd1)
def B4 (P : Program) (W0 : World) (_ : List (Nat × AVal)) (m : Nat) (l : List AOper) (s : St) (K : St → Prop) : Prop :=
 ∀ (ops : Array Oper) (i : Nat), Bh P ops (ops.toList.drop i) = some l → ∀ (F : Nat → Prop) (bs : List Nat) (a : Act) (w : World), RS W0 F bs s a w → ∀ (bs0 : List Nat) (H0 : Hz) (w0 : World), H0.length = m → Ext bs0 H0 w0 bs s.H w → ∀ Q : Exit → Act → World → Prop,
  (∀ s' bs' a' w', K s' → RS W0 F bs' s' a' w' → Ext bs0 H0 w0 bs' s'.H w' → a'.defers = a.defers → Q .normal a' w') → wpOps P ops Q (List.range' i l.length) a w
theorem Js {ops : Array Oper} {l : List Oper} {o : AOper} {r : List AOper} (h : Bh P ops l = some (o :: r)) : ∃ x xs, l = x :: xs ∧ Cd P ops x = some o ∧ Bh P ops xs = some r := by
 cases l with
 | nil => simp [Bh] at h
 | cons x xs =>
   simp only [Bh] at h
   split at h
   · rename_i y hy
     split at h
     · rename_i ys hys
       injection h with h; injection h with h1 h2; subst h1; subst h2
       exact ⟨x, xs, rfl, hy, hys⟩
     · cases h
   · cases h
theorem Hl {m : Nat} {s : St} {K : St → Prop} (h : K s) : B4 P W0 G m [] s K := fun ops i hc F bs a w hs bs0 H0 w0 hm he Q hq => by
 simp only [lNi, List.range'_zero, wpOps]
 exact hq s bs a w h hs he rfl
theorem Vz (hg : Gr P W0 G) {m : Nat} {s : St} {K : St → Prop} {o : AOper} {r : List AOper} (h : Gf P W0 G o s fun s' => B4 P W0 G m r s' K) : B4 P W0 G m (o :: r) s K := fun ops i hc F bs a w hs bs0 H0 w0 hm he Q hq => by
 obtain ⟨x, xs, hd, hx, hxs⟩ := Js hc
 have hi : ops[i]? = some x := by
  have h0 := congrArg (fun l => l[0]?) hd
  simp only [List.getElem?_drop, Nat.add_zero, List.getElem?_cons_zero, Array.getElem?_toList] at h0
  exact h0
 have hr : ops.toList.drop (i + 1) = xs := by
  have := congrArg (List.drop 1) hd
  simpa [List.drop_drop] using this
 have hP := Z3 hx h
 simp only [lCo, List.range'_succ, wpOps, hi]
 refine Nq hg.g hs hP fun s' bs' a' w' hk hrs hext hdf => ?_
 exact hk ops (i + 1) (by rw [hr]; exact hxs) F bs' a' w' hrs bs0 H0 w0 hm (he.trans hext) Q fun s2 bs2 a2 w2 h1 h2 h3 h4 => hq s2 bs2 a2 w2 h1 h2 h3 (h4.trans hdf)
theorem mFz {m : Nat} {s1 s2 : St} {K : St → Prop} {r : List AOper} (hf : Fz m s1 s2) (h : B4 P W0 G m r s1 K) : B4 P W0 G m r s2 K := fun ops i hc F bs a w hs bs0 H0 w0 hm he Q hq => by
 obtain ⟨bs', h1, h2⟩ := hs.fz hf he hm
 exact h ops i hc F bs' a w h1 bs0 H0 w0 hm h2 Q hq
theorem ExM.ops (_hg : Gr P W0 G) {m : Nat} {l : List AOper} {s : St} {K : Av → St → Prop} (h : B4 P W0 G m l s (K .normal)) : ExM P W0 m (.ops l) s K := fun c hc => by
 obtain ⟨id, ops, rfl, h1⟩ := S0 hc
 intro F bs a w hs bs0 H0 w0 hm he Q hq
 have hlen := (G2 h1).1
 refine wp_region ?_
 have := h ops 0 (by simpa using h1) F bs a w hs bs0 H0 w0 hm he Q fun s' bs' a' w' hk => hq .normal s' bs' a' w' hk
 rw [List.range_eq_range', ← Array.length_toList, ← hlen]
 exact this
theorem A3.of_fnM {f : Nat} {x : AFn} (hf : Au P f = some x) {args : List AVal} {H : Hz} {v : AVal} {H' : Hz} (hl : args.length ≤ 4094) {n : Nat} (hn : args.length + (x.n - args.length) = n)
 (h : ExM P W0 H.length x.code ⟨.al (O3 0 args), H, n⟩ (Ye x.res H.length v H')) : A3 P W0 f args H v H' := by
 obtain ⟨fn, c, h1, h2, h3, h4, h5, h6⟩ := L4 hf
 refine ⟨⟨fn, c, h1, h2, h5⟩, fun F bs w cargs hh hr => ?_⟩
 have hrs := Je hh hr hl fn.ntmps
 have hrs' : RS W0 F bs ⟨.al (O3 0 args), H, n⟩ { tmps := cargs.toArray ++ Array.replicate (fn.ntmps - cargs.toArray.size) undef, defers := [] } w :=
  ⟨hrs.heap, by rw [hrs.size, ← hn, h6], fun t u hu => hrs.env t u (by
   rw [G4 args 0 .leaf t (by omega)]
   have hu : lk t (O3 0 args) = some u := hu
   rw [Q3] at hu
   by_cases hc : 0 ≤ t ∧ t < 0 + args.length
   · rw [if_pos hc] at hu ⊢; exact hu
   · rw [if_neg hc] at hu; cases hu)⟩
 refine calls_of_wp h1 h2 (h c h3 F bs _ w hrs' bs H w rfl (Ext.refl _ _ _) _ fun e s' bs' a' w' hk hrs hext hd => ?_)
 obtain ⟨hne, vs, hvs, hlv⟩ := hk
 obtain ⟨cv, r1, r2⟩ := Hi hrs (K0 h4 hvs)
 obtain ⟨bs'', r3, r4, r5⟩ := Nz hrs.heap hext r2 hlv
 have fin : bodyPost P fn (fun e w' => ∃ cv bs', e = .returned cv ∧ Rep F bs' H' w' v cv ∧ Ac W0 F bs' H' w' ∧ Ext bs H w bs' H' w') .ret a' w' := ⟨hd, cv, r1, cv, bs'', rfl, r3, r4, r5⟩
 cases e with
 | normal => exact fin
 | ret => exact fin
 | exit id => exact hne.elim
variable {m : Nat} {l : List (Nat × AVal)} {H H' : Hz} {n : Nat} {K : St → Prop} {r : List AOper}
def Gok (g : Option (Nat × Bool)) (l : List (Nat × AVal)) : Prop := match g with
 | none => True
 | some (t, w) => lk t l = some (.bool w)
theorem gN : Gok none l := trivial
theorem gS {t : Nat} {w : Bool} (h : lk t l = some (.bool w)) : Gok (some (t, w)) l := h
theorem Om {dst : Option Nat} {g : Option (Nat × Bool)} {op : AOp} (hgd : Gok g l) (h : Gx P W0 H (aop G ⟨.al l, H, n⟩ op) fun v H' => Og ⟨.al l, H, n⟩ dst v H' K) : Gf P W0 G ⟨dst, g, op⟩ ⟨.al l, H, n⟩ K := by
 cases g with
 | none => exact h
 | some p =>
   obtain ⟨t, w⟩ := p
   have h' : (Env.al l).get t = some (.bool w) := hgd
   simp only [Gf, h']
   cases w <;> exact h
theorem Ba (hg : Gr P W0 G) {g : Option (Nat × Bool)} (hgd : Gok g l) {d : Nat} {op : AOp} {v : AVal} {side : List (Int × Int)} (h : aop G ⟨.al l, H, n⟩ op = some (.val v H' side)) (hd : (Nat.blt d n && Nat.blt d 4094) = true) (hs : Ae side) (k : B4 P W0 G m r ⟨.al ((d, v) :: l), H', n⟩ K) : B4 P W0 G m (⟨some d, g, op⟩ :: r) ⟨.al l, H, n⟩ K := by
 refine Vz hg (Om hgd ?_)
 rw [h]
 exact ⟨hs, hd, k⟩
theorem Ai (hg : Gr P W0 G) {g : Option (Nat × Bool)} (hgd : Gok g l) {op : AOp} (h : aop G ⟨.al l, H, n⟩ op = some (.skip H')) (k : B4 P W0 G m r ⟨.al l, H', n⟩ K) : B4 P W0 G m (⟨none, g, op⟩ :: r) ⟨.al l, H, n⟩ K := by
 refine Vz hg (Om hgd ?_)
 rw [h]
 exact k
theorem Zr (hg : Gr P W0 G) {g : Option (Nat × Bool)} (hgd : Gok g l) {d : Nat} {op : AOp} {f : Nat} {args : List AVal} {v : AVal} (h : aop G ⟨.al l, H, n⟩ op = some (.call f args)) (hd : (Nat.blt d n && Nat.blt d 4094) = true) (hc : A3 P W0 f args H v H') (k : B4 P W0 G m r ⟨.al ((d, v) :: l), H', n⟩ K) : B4 P W0 G m (⟨some d, g, op⟩ :: r) ⟨.al l, H, n⟩ K := by
 refine Vz hg (Om hgd ?_)
 rw [h]
 exact ⟨v, H', hc, hd, k⟩
theorem mB (hg : Gr P W0 G) {g : Option (Nat × Bool)} (hgd : Gok g l) {d : Nat} {op : AOp} {b : Bool} {side : List (Int × Int)} (h : aop G ⟨.al l, H, n⟩ op = some (.val (.bool b) H' side)) (hd : (Nat.blt d n && Nat.blt d 4094) = true) (hs : Ae side)
 (k1 : b = true → B4 P W0 G m r ⟨.al ((d, .bool true) :: l), H', n⟩ K) (k2 : b = false → B4 P W0 G m r ⟨.al ((d, .bool false) :: l), H', n⟩ K) : B4 P W0 G m (⟨some d, g, op⟩ :: r) ⟨.al l, H, n⟩ K := by
 cases b
 · exact Ba hg hgd h hd hs (k2 rfl)
 · exact Ba hg hgd h hd hs (k1 rfl)
theorem mCB (hg : Gr P W0 G) {g : Option (Nat × Bool)} (hgd : Gok g l) {d : Nat} {op : AOp} {f : Nat} {args : List AVal} {b : Bool} (h : aop G ⟨.al l, H, n⟩ op = some (.call f args)) (hd : (Nat.blt d n && Nat.blt d 4094) = true) (hc : A3 P W0 f args H (.bool b) H')
 (k1 : b = true → B4 P W0 G m r ⟨.al ((d, .bool true) :: l), H', n⟩ K) (k2 : b = false → B4 P W0 G m r ⟨.al ((d, .bool false) :: l), H', n⟩ K) : B4 P W0 G m (⟨some d, g, op⟩ :: r) ⟨.al l, H, n⟩ K := by
 cases b
 · exact Zr hg hgd h hd hc (k2 rfl)
 · exact Zr hg hgd h hd hc (k1 rfl)
theorem Ek (hg : Gr P W0 G) {g : Option (Nat × Bool)} (hgd : Gok g l) {d : Nat} {op : AOp} {f : Nat} {args : List AVal} {b c : Bool} (h : aop G ⟨.al l, H, n⟩ op = some (.call f args)) (hd : (Nat.blt d n && Nat.blt d 4094) = true) (hc : A3 P W0 f args H (.bool b) H') (hb : b = c)
 (k : B4 P W0 G m r ⟨.al ((d, .bool c) :: l), H', n⟩ K) : B4 P W0 G m (⟨some d, g, op⟩ :: r) ⟨.al l, H, n⟩ K := by
 subst hb; exact Zr hg hgd h hd hc k
theorem mGN (hg : Gr P W0 G) {d : Nat} {op : AOp} {t : Nat} {want : Bool} (h : lk t l = some (.bool (!want))) (hd : (Nat.blt d n && Nat.blt d 4094) = true) (k : B4 P W0 G m r ⟨.al ((d, .tup []) :: l), H, n⟩ K) : B4 P W0 G m (⟨some d, some (t, want), op⟩ :: r) ⟨.al l, H, n⟩ K := by
 refine Vz hg ?_
 have h' : (Env.al l).get t = some (.bool (!want)) := h
 simp only [Gf, h']
 cases want <;> exact ⟨hd, k⟩
theorem mGT (hg : Gr P W0 G) {d : Nat} {op : AOp} {t : Nat} {want : Bool} (h : lk t l = some (.tup [])) (hd : (Nat.blt d n && Nat.blt d 4094) = true) (k : B4 P W0 G m r ⟨.al ((d, .tup []) :: l), H, n⟩ K) : B4 P W0 G m (⟨some d, some (t, want), op⟩ :: r) ⟨.al l, H, n⟩ K := by
 refine Vz hg ?_
 have h' : (Env.al l).get t = some (.tup []) := h
 simp only [Gf, h']
 exact ⟨hd, k⟩
theorem mKv (hg : Gr P W0 G) {g : Option (Nat × Bool)} (hgd : Gok g l) {d : Nat} {op : AOp} {v v0 : AVal} {side : List (Int × Int)} (h : aop G ⟨.al l, H, n⟩ op = some (.val v0 H' side)) (hd : (Nat.blt d n && Nat.blt d 4094) = true) (hs : Ae side) (hv : v0 = v) (k : B4 P W0 G m r ⟨.al ((d, v) :: l), H', n⟩ K) : B4 P W0 G m (⟨some d, g, op⟩ :: r) ⟨.al l, H, n⟩ K := by
 subst hv; exact Ba hg hgd h hd hs k
theorem mBk (hg : Gr P W0 G) {g : Option (Nat × Bool)} (hgd : Gok g l) {d : Nat} {op : AOp} {b c : Bool} (h : aop G ⟨.al l, H, n⟩ op = some (.val (.bool b) H [])) (hd : (Nat.blt d n && Nat.blt d 4094) = true) (hb : b = c) (k : B4 P W0 G m r ⟨.al ((d, .bool c) :: l), H, n⟩ K) : B4 P W0 G m (⟨some d, g, op⟩ :: r) ⟨.al l, H, n⟩ K := by
 subst hb; exact Ba hg hgd h hd trivial k
end
def Sm (H : Hz) (n : Nat) (e : Env) : List (Nat × AVal) → Prop
 | [] => True
 | p :: r => (∃ v2, e.get p.1 = some v2 ∧ FzV H n v2 p.2) ∧ Sm H n e r
theorem X3 {H : Hz} {n : Nat} {e : Env} : ∀ {l : List (Nat × AVal)}, Sm H n e l → ∀ p ∈ l, ∃ v2, e.get p.1 = some v2 ∧ FzV H n v2 p.2
 | [], _, _, h => by cases h
 | q :: r, ha, p, h => by
   rcases List.mem_cons.1 h with rfl | h
   · exact ha.1
   · exact X3 ha.2 p h
theorem Ap {m : Nat} {l : List (Nat × AVal)} {H : Hz} {n : Nat} {s : St} (k : Nat) (hn : n = s.n) (hm : m ≤ k) (hH : s.H.take k = H) (hb : Fg k H = true) (h : Sm s.H k s.env l) : Fz m ⟨.al l, H, n⟩ s := by
 refine ⟨hn, k, hm, hH.symm, by rw [hH]; exact hb, fun t v hv => ?_⟩
 have key : ∀ l : List (Nat × AVal), lk t l = some v → (t, v) ∈ l := by
  intro l
  induction l with
  | nil => intro h; cases h
  | cons p l ih =>
    intro hw
    obtain ⟨u, x⟩ := p
    simp only [lk] at hw
    cases hb : Nat.beq t u with
    | true =>
      rw [hb] at hw
      simp only [cond_true, iS] at hw
      have := nBq hb
      subst this; subst hw
      simp
    | false => rw [hb] at hw; exact List.mem_cons_of_mem _ (ih hw)
 exact X3 h (t, v) (key l hv)
theorem fzC {H : Hz} {n t : Nat} {e : Env} {v2 v : AVal} {r : List (Nat × AVal)} (h : e.get t = some v2) (hf : FzV H n v2 v) (k : Sm H n e r) : Sm H n e ((t, v) :: r) := ⟨⟨v2, h, hf⟩, k⟩
theorem fzN {H : Hz} {n : Nat} {e : Env} : Sm H n e [] := trivial
theorem fvI {H : Hz} {n : Nat} {k : IntKind} {i : Int} : FzV H n (.int k i) (.int k i) := .inl ⟨1, rfl⟩
theorem fvB {H : Hz} {n : Nat} {b : Bool} : FzV H n (.bool b) (.bool b) := .inl ⟨1, rfl⟩
theorem fvS {H : Hz} {n : Nat} {s : Bz} : FzV H n (.str s) (.str s) := .inl ⟨1, rfl⟩
theorem Zn {H : Hz} {n k : Nat} : FzV H n .nilSl (.row k []) := .inr ⟨rfl, k, rfl⟩
theorem J0 {H : Hz} {n : Nat} : FzV H n .nilSl .nilSl := .inl ⟨1, rfl⟩
def Cb (l : List Nat) : List AVal := l.map fun (d : Nat) => .int .i64 d
def dg (l : List Nat) : AVal := .row 1 (Cb l)
theorem B7 (l : List Nat) : (Cb l).length = l.length := by simp [Cb]
theorem Il {H : Hz} {n : Nat} : ∀ (l : List Nat), Ge H n (l.length + 2) (Cb l) = some (Cb l)
 | [] => rfl
 | d :: l => by
   have ih := Il (H := H) (n := n) l
   show (match frz H n (l.length + 2) (.int .i64 (d : Nat)) with
    | some v' => match Ge H n (l.length + 2) (Cb l) with
      | some r' => some (v' :: r')
      | none => none
    | none => none) = _
   rw [ih]
   rfl
theorem Hm : ∀ (l : List Nat) (x : List AVal), En 1 l.length (Cb l ++ x) = Cb l
 | [], _ => rfl
 | d :: l, x => by
   show (cond (Nat.beq 1 1) (cond (AVal.int .i64 (d : Nat)).one (AVal.int .i64 (d : Nat)) _) _) :: En 1 l.length (Cb l ++ x) = _
   rw [Hm l]
   rfl
theorem C7 {n : Nat} : ∀ (l : List Nat), C0 n (Cb l) = true
 | [] => rfl
 | _ :: l => C7 l
theorem fvD {H : Hz} {n : Nat} {l : List Nat} : FzV H n (dg l) (dg l) := .inl ⟨l.length + 3, by
 show (match Ge H n (l.length + 2) (Cb l) with
  | some es' => some (AVal.row 1 es')
  | none => none) = _
 rw [Il]; rfl⟩
theorem L5 {H : Hz} {n id T : Nat} {l : List Nat} {cap : Option Nat} (hn : n ≤ id) (ho : H[id]? = some (.cells T (Cb l) true)) : FzV H n (.hsl 1 id 0 l.length cap) (dg l) := .inl ⟨l.length + 3, by
 have h1 : Nat.blt id n = false := A2j (by omega)
 have h2 : (Nat.beq 0 0 && Nat.beq (l.length * 1) (Cb l).length) = true := by simp [B7]
 have h3 := Hm l []
 rw [List.append_nil] at h3
 simp only [frz, h1, cond_false, ho, h2, cond_true, h3, Il]
 rfl⟩
theorem Di {H : Hz} {n id T : Nat} {l : List Nat} {cap : Option Nat} (hn : n ≤ id) (ho : H[id]? = some (.cells T (Cb l) false)) : FzV H n (.hsl 1 id 0 l.length cap) (dg l) := .inl ⟨l.length + 3, by
 have h1 : Nat.blt id n = false := A2j (by omega)
 have h3 := Hm l []
 rw [List.append_nil] at h3
 simp only [frz, h1, cond_false, ho, List.drop_zero, h3, Il]
 rfl⟩
end Go.Abs
