/- A part of the proof that tabula/tabulalaw17.ShiftElse returns true for every input, each argument reading as it did (its card: the last text). No conditions of its own. -/
import Derived.Test.YtanjcjdiabfggaaGreatDoorPA
import Derived.Laws.StructEq
import Derived.ChangeKeysEq
import Derived.Orders
namespace Go.Abs
open Go.RowKit
variable {F : Nat → Prop}
inductive EP where
 | b | i | s | nil
 | cons (off n : Nat) (agg : Bool) (f r : EP)
def aeq : EP → AVal → AVal → Option Bool
 | .b, .bool a, .bool c => some (a == c)
 | .i, .int k a, .int j c => cond (Pq k j) (some (a == c)) none
 | .s, .str a, .str c => some (a == c)
 | .nil, .agg _, .agg _ => some true
 | .cons off n g f r, x, y => match I7 n g off x with
   | some a => match I7 n g off y with
     | some c => match aeq f a c with
       | some b => match aeq r x y with
         | some c => some (b && c)
         | none => none
       | none => none
     | none => none
   | none => none
 | _, _, _ => none
def Sl (k : Nat) (g : Bool) (f : EP) : Nat → Nat → EP
 | _, 0 => .nil
 | i, m + 1 => .cons (i * k) k g f (Sl k g f (i + 1) m)
mutual
def Qe (P : Program) : Nat → TypeId → Option EP
 | 0, _ => none
 | d + 1, t => match P.underlying t with
   | some .bool => some .b
   | some (.int _) => some .i
   | some .string => some .s
   | some (.struct fields) => cond (P.stoodInHeld t) none (Ez P d fields.toList)
   | some (.array n e) => match Jk P e with
     | some (k, g) => match Qe P d e with
       | some f => some (Sl k g f 0 n)
       | none => none
     | none => none
   | _ => none
def Ez (P : Program) : Nat → List Field → Option EP
 | 0, _ => none
 | _ + 1, [] => some .nil
 | d + 1, f :: fs => if f.name = "_" then none else match Jk P f.type with
   | some (n, g) => match Qe P d f.type with
     | some e => match Ez P d fs with
       | some r => some (.cons f.offset n g e r)
       | none => none
     | none => none
   | none => none
end
section
variable {P : Program} {w : World} {bs : List Nat} {H : Hz}
theorem Lp {t : TypeId} {n off : Nat} {g : Bool} (ht : Jk P t = some (n, g)) {xs : List AVal} {us : List Value} (hx : A9 F bs H w xs us) {a : AVal} (h : I7 n g off (.agg xs) = some a) :
 ∃ ca, (part t us.toArray off).run P w = .ok ca w ∧ Rep F bs H w a ca := by
 obtain ⟨h1, h2⟩ := M9 w ht
 cases g with
 | true =>
   simp only [I7, iS] at h
   subst h
   refine ⟨.agg (us.toArray.extract off (off + n)), ?_, ?_⟩
   · simp [part, h1, h2]
   · simp only [Rep]
     refine ⟨(us.drop off).take n, ?_, (hx.drop off).take n⟩
     congr 1
     apply Array.ext'
     simp [List.extract]
 | false =>
   simp only [I7] at h
   split at h
   · rename_i c rest hc
     injection h with h; subst h
     have hget : xs[off]? = some c := by
      have := congrArg (fun l => l[0]?) hc
      simpa using this
     obtain ⟨u, hu, hr⟩ := hx.get hget
     exact ⟨u, by simp [part, h1, hu], hr⟩
   · cases h
def EP.chain : EP → Bool
 | .nil => true
 | .cons _ _ _ _ _ => true
 | _ => false
theorem Ji {d : Nat} {fs : List Field} {e : EP} (h : Ez P d fs = some e) : e.chain = true := by
 cases d with
 | zero => simp only [Ez] at h; cases h
 | succ d =>
   cases fs with
   | nil => simp only [Ez] at h; injection h with h; subst h; rfl
   | cons f fs =>
     simp only [Ez] at h
     repeat' (split at h)
     all_goals first
      | (cases h; done)
      | (injection h with h; subst h; rfl)
theorem Ln {n off : Nat} {g : Bool} {x a : AVal} (h : I7 n g off x = some a) : ∃ xs, x = .agg xs := by
 cases x <;> simp only [I7, reduceCtorEq] at h
 exact ⟨_, rfl⟩
theorem Ut {e : EP} (he : e.chain = true) {x y : AVal} {r : Bool} (h : aeq e x y = some r) : ∃ xs ys, x = .agg xs ∧ y = .agg ys := by
 cases e with
 | nil =>
   cases x <;> cases y <;> simp only [aeq, reduceCtorEq] at h
   exact ⟨_, _, rfl, rfl⟩
 | cons off n g f r1 =>
   simp only [aeq] at h
   split at h
   · rename_i a ha
     split at h
     · rename_i c hc
       obtain ⟨xs, rfl⟩ := Ln ha
       obtain ⟨ys, rfl⟩ := Ln hc
       exact ⟨_, _, rfl, rfl⟩
     · cases h
   · cases h
 | _ => cases he
theorem Or {k : Nat} {g : Bool} {f : EP} : ∀ {i m : Nat}, (Sl k g f i m).chain = true
 | _, 0 => rfl
 | _, _ + 1 => rfl
theorem R5 {d : Nat} {e : TypeId} {n : Nat} {g : Bool} {f : EP} (ht : Jk P e = some (n, g)) (hrec : ∀ (x y : AVal) (cx cy : Value) (r : Bool), Rep F bs H w x cx → Rep F bs H w y cy → aeq f x y = some r → (Op.equalIn d e cx cy).run P w = .ok r w)
 {xs ys : List AVal} {us vs : List Value} (hx : A9 F bs H w xs us) (hy : A9 F bs H w ys vs) : ∀ (m i : Nat) (r : Bool), aeq (Sl n g f i m) (.agg xs) (.agg ys) = some r → (Op.eqItems d e n us.toArray vs.toArray (List.range' i m)).run P w = .ok r w
 | 0, i, r, h => by
   simp only [Sl, aeq, iS] at h
   subst h
   simp [Op.eqItems]
 | m + 1, i, r, he => by
   simp only [Sl, aeq] at he
   split at he
   · rename_i a ha
     split at he
     · rename_i c hc
       obtain ⟨ca, p1, p2⟩ := Lp ht hx ha
       obtain ⟨cc, q1, q2⟩ := Lp ht hy hc
       split at he
       · rename_i b hb
         split at he
         · rename_i b2 hb2
           injection he with he; subst he
           simp only [List.range'_succ, Op.eqItems, sRb, p1, q1, rAo, hrec a c ca cc b p2 q2 hb]
           cases b with
           | true =>
             simp only [Bool.not_true, bFt, if_false]
             exact R5 ht hrec hx hy m (i + 1) _ hb2
           | false => simp
         · cases he
       · cases he
     · cases he
   · cases he
mutual
theorem A35 : ∀ (d : Nat) (t : TypeId) (e : EP), Qe P d t = some e → ∀ (k : Nat) (x y : AVal) (cx cy : Value) (r : Bool), Rep F bs H w x cx → Rep F bs H w y cy → aeq e x y = some r → (Op.equalIn (d + k) t cx cy).run P w = .ok r w
 | 0, _, _, h, _, _, _, _, _, _, _, _, _ => by simp only [Qe] at h; cases h
 | d + 1, t, e, h, k, x, y, cx, cy, r, hx, hy, he => by
   simp only [Qe] at h
   rw [show d + 1 + k = (d + k) + 1 by omega]
   split at h
   · rename_i hu
     injection h with h; subst h
     cases x <;> cases y <;> simp only [aeq, iS, reduceCtorEq] at he
     simp only [Rep] at hx hy
     subst hx; subst hy; subst he
     exact run_equalIn_bool' w (d + k) t _ _ hu
   · rename_i k0 hu
     injection h with h; subst h
     cases x <;> cases y <;> simp only [aeq, reduceCtorEq] at he
     rename_i k1 a k2 c
     cases hk : Pq k1 k2 with
     | false => rw [hk] at he; cases he
     | true =>
       rw [hk, cond_true] at he
       injection he with he; subst he
       have := Ui hk; subst this
       simp only [Rep] at hx hy
       subst hx; subst hy
       exact run_equalIn_int w (d + k) t _ _ _ _ hu
   · rename_i hu
     injection h with h; subst h
     cases x <;> cases y <;> simp only [aeq, iS, reduceCtorEq] at he
     simp only [Rep] at hx hy
     subst hx; subst hy; subst he
     rw [run_equalIn_string w (d + k) t _ _ hu]
     simp [ByteArray.toList_mk]
   · rename_i fields hu
     cases hst : P.stoodInHeld t with
     | true => rw [hst] at h; cases h
     | false =>
       rw [hst, cond_false] at h
       have hfl : P.fieldsOf t = fields := by simp [Program.fieldsOf, hu]
       obtain ⟨xs, ys, rfl, rfl⟩ := Ut (Ji h) he
       simp only [Rep] at hx hy
       obtain ⟨us, rfl, hx⟩ := hx
       obtain ⟨vs, rfl, hy⟩ := hy
       rw [run_equalIn_agg w (d + k) t us.toArray vs.toArray (by rw [hfl]; exact hu) hst, hfl]
       exact A2m d fields.toList e h k xs ys us vs r hx hy he
   · rename_i n e' hu
     split at h
     · rename_i k' g ht
       split at h
       · rename_i f hf
         injection h with h; subst h
         obtain ⟨xs, ys, rfl, rfl⟩ := Ut Or he
         simp only [Rep] at hx hy
         obtain ⟨us, rfl, hx⟩ := hx
         obtain ⟨vs, rfl, hy⟩ := hy
         obtain ⟨ie, hie, hsz⟩ : ∃ i, P.info? e' = some i ∧ i.size = k' := by
          unfold Jk at ht
          split at ht
          · cases ht
          · rename_i i hi
            refine ⟨i, hi, ?_⟩
            split at ht <;> simp only [iS, iP, reduceCtorEq] at ht <;> exact ht.1
         have hco : P.cellsOf e' = k' := by simp [Program.cellsOf, hie, hsz]
         rw [run_equalIn_array w (d + k) us.toArray vs.toArray hu hie, hco, List.range_eq_range']
         exact R5 ht (fun x y cx cy r h1 h2 h3 => A35 d e' f hf k x y cx cy r h1 h2 h3) hx hy n 0 r he
       · cases h
     · cases h
   · cases h
theorem A2m : ∀ (d : Nat) (fs : List Field) (e : EP), Ez P d fs = some e → ∀ (k : Nat) (xs ys : List AVal) (us vs : List Value) (r : Bool), A9 F bs H w xs us → A9 F bs H w ys vs → aeq e (.agg xs) (.agg ys) = some r → (Op.eqFields (d + k) us.toArray vs.toArray fs).run P w = .ok r w
 | 0, _, _, h, _, _, _, _, _, _, _, _, _ => by simp only [Ez] at h; cases h
 | d + 1, [], e, h, k, xs, ys, us, vs, r, hx, hy, he => by
   simp only [Ez] at h
   injection h with h; subst h
   simp only [aeq, iS] at he
   subst he
   rfl
 | d + 1, f :: fs, e, h, k, xs, ys, us, vs, r, hx, hy, he => by
   simp only [Ez] at h
   split at h
   · cases h
   · rename_i hn
     split at h
     · rename_i n g ht
       split at h
       · rename_i e1 h1
         split at h
         · rename_i r1 h2
           injection h with h; subst h
           simp only [aeq] at he
           split at he
           · rename_i a ha
             split at he
             · rename_i c hc
               obtain ⟨ca, p1, p2⟩ := Lp ht hx ha
               obtain ⟨cc, q1, q2⟩ := Lp ht hy hc
               have hrec : ∀ b, aeq e1 a c = some b → (Op.equalIn (d + 1 + k) f.type ca cc).run P w = .ok b w := fun b hb => by
                rw [show d + 1 + k = d + (1 + k) by omega]
                exact A35 d f.type e1 h1 (1 + k) a c ca cc b p2 q2 hb
               have hf : f.name ≠ "_" := hn
               simp only [Op.eqFields, if_pos hf, sRb, p1, q1, rAo]
               split at he
               · rename_i b hb
                 split at he
                 · rename_i b2 hb2
                   injection he with he; subst he
                   cases b with
                   | true =>
                     rw [hrec _ hb]
                     simp only [rAo, Bool.not_true, bFt, if_false]
                     rw [show d + 1 + k = d + (1 + k) by omega]
                     exact A2m d fs r1 h2 (1 + k) xs ys us vs _ hx hy hb2
                   | false =>
                     rw [hrec _ hb]
                     simp
                 · cases he
               · cases he
             · cases he
           · cases he
         · cases h
       · cases h
     · cases h
end
def isSA (P : Program) (t : TypeId) : Bool :=
 match P.underlying t with
 | some (.struct _) => true
 | some (.array _ _) => true
 | _ => false
theorem Xn {d : Nat} {t : TypeId} {e : EP} (hu : isSA P t = true) (h : Qe P d t = some e) : e.chain = true := by
 cases d with
 | zero => simp only [Qe] at h; cases h
 | succ d =>
   unfold isSA at hu
   split at hu
   · rename_i fs hu'
     simp only [Qe, hu'] at h
     cases hst : P.stoodInHeld t with
     | true => rw [hst] at h; cases h
     | false => rw [hst, cond_false] at h; exact Ji h
   · rename_i n e' hu'
     simp only [Qe, hu'] at h
     repeat' (split at h)
     all_goals first
      | (cases h; done)
      | (injection h with h; subst h; exact Or)
   · cases hu
theorem eqs_ok {op : BinOp} {t : TypeId} {e : EP} (hu : isSA P t = true) (hgd : P.eqGuardType P.depth t = false) (h : Qe P 100 t = some e) {neg : Bool} (hop : (op = .eql ∧ neg = false) ∨ (op = .neq ∧ neg = true))
 {x y : AVal} {cx cy : Value} {ox oy : Operand} {r : Bool} (hx : Rep F bs H w x cx) (hy : Rep F bs H w y cy) (he : aeq e x y = some r) :
 (do eqGuard op t ox oy cx cy; binOp op t cx cy : Sem Value).run P w = .ok (.bool (cond neg (not r) r)) w := by
 obtain ⟨xs, ys, rfl, rfl⟩ := Ut (Xn hu h) he
 have hx' := hx
 have hy' := hy
 simp only [Rep] at hx' hy'
 obtain ⟨us, rfl, _⟩ := hx'
 obtain ⟨vs, rfl, _⟩ := hy'
 have h1 := A35 100 t e h 9900 _ _ _ _ r hx hy he
 rw [sRb, run_eqGuard_agg w op t ox oy _ _ hgd, rAo]
 rcases hop with ⟨rfl, rfl⟩ | ⟨rfl, rfl⟩
 · rw [run_eql_struct, h1]; rfl
 · rw [run_neq_struct, h1]; rfl
theorem Si {t : TypeId} {n off : Nat} {g : Bool} (ht : Jk P t = some (n, g)) {x a : AVal} {cx : Value} (hx : Rep F bs H w x cx) (h : I7 n g off x = some a) :
 ∃ us ca, cx = .agg us ∧ (part t us off).run P w = .ok ca w ∧ Rep F bs H w a ca := by
 obtain ⟨xs, rfl⟩ := Ln h
 simp only [Rep] at hx
 obtain ⟨us, rfl, hx⟩ := hx
 obtain ⟨ca, h1, h2⟩ := Lp ht hx h
 exact ⟨_, ca, rfl, h1, h2⟩
end
def Uw (H : Hz) (k id off len : Nat) (cap : Option Nat) (lo hi : Option Int) : Option AV :=
 cond (Nb H id) (match lo with
  | none => some (.hsl k id off (hi.getD (len : Nat)).toNat cap, [(0, hi.getD (len : Nat)), (hi.getD (len : Nat), (len : Nat))])
  | some l => match cap with
    | some c => some (.hsl k id (cond (Nat.beq c l.toNat) off (off + l.toNat * k)) ((hi.getD (len : Nat)).toNat - l.toNat) (some (c - l.toNat)), [(0, l), (l, hi.getD (len : Nat)), (hi.getD (len : Nat), (len : Nat))])
    | none => none) (match lo with
  | none => cond (O4 H id (len * k) && Nat.beq off 0) (some (.hsl k id 0 (hi.getD (len : Nat)).toNat none, [(0, hi.getD (len : Nat)), (hi.getD (len : Nat), (len : Nat))])) none
  | some _ => none)
theorem Xt {P : Program} {w : World} {bs : List Nat} {H : Hz} {k id off len : Nat} {cap : Option Nat} {clo chi : Option Value} {lo hi : Option Int} {t e : TypeId} {v : AVal} {cx : Value} {side : List (Int × Int)}
 (ht : Ei P t = some (e, k)) (hx : Rep F bs H w (.hsl k id off len cap) cx)
 (hlo : (lo = none ∧ clo = none) ∨ ∃ k n, lo = some n ∧ clo = some (.int k n)) (hhi : (hi = none ∧ chi = none) ∨ ∃ k n, hi = some n ∧ chi = some (.int k n))
 (h : Uw H k id off len cap lo hi = some (v, side)) (hs : Ae side) :
 ∃ cv, (Instr.sliceAt t cx clo chi none).run P w = .ok cv w ∧ Rep F bs H w v cv := by
 obtain ⟨hu, hsz⟩ := Fb ht
 simp only [Rep] at hx
 obtain ⟨_, hx⟩ := hx
 unfold Uw at h
 cases hlv : Nb H id with
 | false =>
   rw [hlv, cond_false] at h
   cases lo with
   | some l => cases h
   | none =>
     simp only at h
     cases hgd : (O4 H id (len * k) && Nat.beq off 0) with
     | false => rw [hgd] at h; cases h
     | true =>
       rw [hgd, cond_true] at h
       simp only [iS, iP] at h
       obtain ⟨rfl, rfl⟩ := h
       obtain ⟨h1, h2, _⟩ := hs
       simp only [bAt] at hgd
       have hoff := nBq hgd.2
       subst hoff
       have hgg := hgd.1
       unfold O4 at hgg
       split at hgg
       · rename_i T cs ho
         have hcl := nBq hgg
         unfold D8 at hx
         rw [ho] at hx
         obtain ⟨hle, hx⟩ := hx
         obtain ⟨b, c, hb, rfl, hlc, hcap, hop⟩ := hx (fun _ => ⟨rfl, hcl.symm⟩)
         have hr := D7 (P := P) (w := w) true len c hlc hlo hhi (Int.le_refl 0) h1 h2
         refine ⟨.slice (if c = ((none : Option Int).getD 0).toNat then some ⟨b, 0, none⟩ else (some (⟨b, 0, none⟩ : Addr)).map (·.add (((none : Option Int).getD 0).toNat * k))) ((hi.getD (len : Nat)).toNat - ((none : Option Int).getD 0).toNat) (c - ((none : Option Int).getD 0).toNat), ?_, ?_⟩
         · simp only [Instr.sliceAt, Instr.slice, sRb, A7 w hu, rAo, hr, hsz]
           rfl
         · have hhl : (hi.getD (len : Nat)).toNat ≤ len := by omega
           have hmul : (hi.getD (len : Nat)).toNat * k ≤ len * k := Nat.mul_le_mul_right k hhl
           simp only [Option.getD_none, Int.toNat_zero, Nat.zero_mul, Nat.sub_zero, Option.map_some, Addr.add_at, Nat.add_zero, ite_self]
           simp only [Rep, D8, ho]
           refine ⟨⟨_, _, by omega, rfl⟩, by omega, fun _ => ⟨b, c, hb, rfl, by omega, by simp, fun _ => hop rfl⟩⟩
       · cases hgg
 | true =>
   rw [hlv, cond_true] at h
   unfold Nb at hlv
   split at hlv
   · rename_i T cs ho
     unfold D8 at hx
     rw [ho] at hx
     obtain ⟨hle, hx⟩ := hx
     obtain ⟨b, c, hb, rfl, hlc, hcap, _⟩ := hx (by simp)
     have hbd : 0 ≤ lo.getD 0 ∧ lo.getD 0 ≤ hi.getD (len : Nat) ∧ hi.getD (len : Nat) ≤ (len : Nat) := by
      cases lo with
      | none =>
        simp only [iS, iP] at h
        obtain ⟨_, rfl⟩ := h
        obtain ⟨h1, h2, _⟩ := hs
        exact ⟨Int.le_refl 0, h1, h2⟩
      | some l =>
        cases cap with
        | none => cases h
        | some c' =>
          simp only [iS, iP] at h
          obtain ⟨_, rfl⟩ := h
          obtain ⟨h1, h2, h3, _⟩ := hs
          exact ⟨h1, h2, h3⟩
     have hr := D7 (P := P) (w := w) true len c hlc hlo hhi hbd.1 hbd.2.1 hbd.2.2
     refine ⟨.slice (if c = (lo.getD 0).toNat then some ⟨b, off, none⟩ else (some (⟨b, off, none⟩ : Addr)).map (·.add ((lo.getD 0).toNat * k))) ((hi.getD (len : Nat)).toNat - (lo.getD 0).toNat) (c - (lo.getD 0).toNat), ?_, ?_⟩
     · simp only [Instr.sliceAt, Instr.slice, sRb, A7 w hu, rAo, hr, hsz]
       rfl
     · have hhl : (hi.getD (len : Nat)).toNat ≤ len := by omega
       cases lo with
       | none =>
         simp only [iS, iP] at h
         obtain ⟨rfl, _⟩ := h
         simp only [Option.getD_none, Int.toNat_zero, Nat.zero_mul, Nat.sub_zero, Option.map_some, Addr.add_at, Nat.add_zero, ite_self]
         simp only [Rep, D8, ho]
         have hmul : (hi.getD (len : Nat)).toNat * k ≤ len * k := Nat.mul_le_mul_right k hhl
         exact ⟨⟨_, _, by omega, rfl⟩, by omega, fun _ => ⟨b, c, hb, rfl, by omega, hcap, by simp⟩⟩
       | some l =>
         cases cap with
         | none => cases h
         | some c' =>
           have hcc := hcap c' rfl
           subst hcc
           simp only [iS, iP] at h
           obtain ⟨rfl, _⟩ := h
           simp only [Option.getD_some, Option.map_some, Addr.add_at] at hbd ⊢
           have hll : l.toNat ≤ (hi.getD (len : Nat)).toNat := Int.toNat_le_toNat hbd.2.1
           have hmul : (hi.getD (len : Nat)).toNat * k ≤ len * k := Nat.mul_le_mul_right k hhl
           have hsplit : ((hi.getD (len : Nat)).toNat - l.toNat) * k + l.toNat * k = (hi.getD (len : Nat)).toNat * k := by
            rw [← Nat.add_mul, Nat.sub_add_cancel hll]
           have hlc2 : (hi.getD (len : Nat)).toNat - l.toNat ≤ c - l.toNat := Nat.sub_le_sub_right (Nat.le_trans hhl hlc) _
           have hA : off + ((hi.getD (len : Nat)).toNat - l.toNat) * k ≤ cs.length := Nat.le_trans (Nat.add_le_add_left (Nat.le_trans (Nat.le.intro hsplit) hmul) off) hle
           have hB : off + l.toNat * k + ((hi.getD (len : Nat)).toNat - l.toNat) * k ≤ cs.length := by
            rw [Nat.add_assoc, Nat.add_comm (l.toNat * k), hsplit]
            exact Nat.le_trans (Nat.add_le_add_left hmul off) hle
           simp only [Rep, D8, ho]
           cases hc : Nat.beq c l.toNat with
           | true =>
             have hcl := nBq hc
             rw [if_pos hcl, cond_true]
             exact ⟨⟨_, _, hlc2, rfl⟩, hA, fun _ => ⟨b, c - l.toNat, hb, rfl, hlc2, fun c'' h => by injection h, by simp⟩⟩
           | false =>
             have hcl := Nat.ne_of_beq_eq_false hc
             rw [if_neg hcl, cond_false]
             exact ⟨⟨_, _, hlc2, rfl⟩, hB, fun _ => ⟨b, c - l.toNat, hb, rfl, hlc2, fun c'' h => by injection h, by simp⟩⟩
   · cases hlv
def Ud (H : Hz) (n k : Nat) (hi : Option Int) (p : AVal) : Option AV :=
 match p with
 | .ptr id off => match H[id]? with
   | some (.cells _ cs false) => cond (Nat.ble (off + n * k) cs.length) (some (.hsl k id off (hi.getD (n : Nat)).toNat (some n), [(0, hi.getD (n : Nat)), (hi.getD (n : Nat), (n : Nat))])) none
   | _ => none
 | _ => none
theorem Xr {P : Program} {w : World} {bs : List Nat} {H : Hz} {n k : Nat} {chi : Option Value} {hi : Option Int} {t : TypeId} {p v : AVal} {cx : Value} {side : List (Int × Int)}
 (ht : K5 P t = some (n, k)) (hx : Rep F bs H w p cx) (hhi : (hi = none ∧ chi = none) ∨ ∃ k n, hi = some n ∧ chi = some (.int k n))
 (h : Ud H n k hi p = some (v, side)) (hs : Ae side) :
 ∃ cv, (Instr.sliceAt t cx none chi none).run P w = .ok cv w ∧ Rep F bs H w v cv := by
 obtain ⟨e, hu, hsz⟩ := Ri ht
 cases p <;> simp only [Ud] at h <;> try (cases h; done)
 case ptr id off =>
 simp only [Rep] at hx
 obtain ⟨_, hx⟩ := hx
 unfold Ey at hx
 split at h
 · rename_i T cs ho
   rw [ho] at hx
   obtain ⟨b, hb, rfl⟩ := hx
   cases hl : Nat.ble (off + n * k) cs.length with
   | false => rw [hl] at h; cases h
   | true =>
     rw [hl, cond_true] at h
     simp only [iS, iP] at h
     obtain ⟨rfl, rfl⟩ := h
     obtain ⟨h1, h2, _⟩ := hs
     have hl := Nat.le_of_ble_eq_true hl
     have hr := D7 (P := P) (w := w) (clo := none) (lo := none) false n n (Nat.le_refl n) (.inl ⟨rfl, rfl⟩) hhi (Int.le_refl 0) h1 h2
     have hhl : (hi.getD (n : Nat)).toNat ≤ n := by
      have h2' : hi.getD (n : Nat) ≤ (n : Int) := h2
      omega
     have hmul : (hi.getD (n : Nat)).toNat * k ≤ n * k := Nat.mul_le_mul_right k hhl
     refine ⟨.slice (some ⟨b, off, none⟩) (hi.getD (n : Nat)).toNat n, ?_, ?_⟩
     · simp only [Instr.sliceAt, Instr.sureAddr, sRb, Sem.run_pure, A7 w hu, rAo, hr, hsz, Option.getD_none, Int.toNat_zero, Nat.zero_mul, Nat.sub_zero, Addr.add_at, Nat.add_zero, ite_self]
     · simp only [Rep, D8, ho]
       exact ⟨⟨_, _, hhl, rfl⟩, by omega, fun _ => ⟨b, n, hb, rfl, hhl, fun c' h => by injection h, by simp⟩⟩
 · cases h
theorem Um {P : Program} {W0 w : World} {bs : List Nat} {H : Hz} (hh : Ac W0 F bs H w) {id b off : Nat} {T : TypeId} {cs xs : List AVal} {us : List Value} (ho : H[id]? = some (.cells T cs false)) (hb : bs[id]? = some b)
 (hx : A9 F bs H w xs us) (h2 : off + xs.length ≤ cs.length) (h3 : xs.all AVal.one = true) :
 ∃ w', (storeCells ⟨b, off, none⟩ us).run P w = .ok () w' ∧ Ac W0 F bs (H.set id (.cells T (spl cs off xs) false)) w' ∧ Ext bs H w bs (H.set id (.cells T (spl cs off xs) false)) w' := by
 obtain ⟨vs, rest, fr, hcell, hl, hfr⟩ := hh.obj id _ b ho hb
 have hxl := hx.length
 have hvl := hl.length
 have hst := Ea (P := P) b off T fr us 0 (vs ++ rest).toArray w hcell vs.length hfr (by omega) (by simp) (hx.one h3)
 simp only [Nat.add_zero] at hst
 have hsp : (vs ++ rest).toArray.toList.take off ++ us ++ (vs ++ rest).toArray.toList.drop (off + us.length) = (vs.take off ++ us ++ vs.drop (off + us.length)) ++ rest := by
  rw [List.take_append_of_le_length (by omega), List.drop_append_of_le_length (by omega)]
  simp
 rw [hsp] at hst
 have hrow : A9 F bs H w (spl cs off xs) (vs.take off ++ us ++ vs.drop (off + us.length)) := by
  rw [spl, List.append_assoc, hxl]
  exact (hl.take off).append (hx.append (hl.drop _))
 have hlen : (spl cs off xs).length = cs.length := by simp [spl]; omega
 have hoe : Bi bs bs w (w.setRow b ((vs.take off ++ us ++ vs.drop (off + us.length)) ++ rest).toArray) id (.cells T cs false) (.cells T (spl cs off xs) false) := .inr ⟨T, _, rfl, hlen, rfl⟩
 have hlow := hh.low b (mGe hb)
 have hext := Ext.upd (w' := w.setRow b ((vs.take off ++ us ++ vs.drop (off + us.length)) ++ rest).toArray) hh.nodup ho hb (by simp) (fun k hk => setRow_other w b k _ hk) hoe
 refine ⟨_, hst, Ac.upd hh ho hb (Gi w _ hlow.1) (by simp) (fun k hk => setRow_other w b k _ hk) hoe ?_, hext⟩
 refine ⟨_, rest, fr, setRow_heap w b _ _ T fr hcell, A9.ext hext _ _ hrow, fun j hj => hfr j ?_⟩
 have := hrow.length; omega
def Xj (H : Hz) (k : Nat) (zs : List AVal) (p : AVal) : Option Hz :=
 match p with
 | .hsl k' id off len _ => match H[id]? with
   | some (.cells T cs false) => cond (Nat.beq k k') (cond (Nat.beq len 0) (some H) (cond ((Hw zs (len * k)).all AVal.one) (some (H.set id (.cells T (spl cs off (Hw zs (len * k))) false))) none)) none
   | _ => none
 | _ => none
theorem A1t {P : Program} {W0 w : World} {bs : List Nat} {H H' : Hz} (hh : Ac W0 F bs H w) {t e ty : TypeId} {k by' : Nat} (ht : G1 P t = some (e, k, by')) {zs : List AVal} (hz : Dl P e = some zs) {p : AVal} {cx : Value}
 (hx : Rep F bs H w p cx) (h : Xj H k zs p = some H') :
 ∃ w', (Builtin.clear_ #[t] ty #[cx]).run P w = .ok (.tuple #[]) w' ∧ Ac W0 F bs H' w' ∧ Ext bs H w bs H' w' := by
 obtain ⟨hu, hk1, i, z, hi, hzz, hisz, hiby, hzsz⟩ := Iq ht
 subst hisz
 have hl : A9 F bs H w zs z.cells.toList := by
  unfold Dl at hz
  rw [hi] at hz; simp only [hzz] at hz
  exact Ha (fun v _ a ha => Rep.const 3 v a ha) hz
 have hzr : (zeroValue e).run P w = .ok z w := by simp [zeroValue, Bj w hi, hzz]
 cases p <;> simp only [Xj] at h <;> try (cases h; done)
 case hsl k' id off len cap =>
 simp only [Rep] at hx
 obtain ⟨_, hx⟩ := hx
 unfold D8 at hx
 split at h
 · rename_i T cs ho
   rw [ho] at hx
   obtain ⟨hle, hx⟩ := hx
   obtain ⟨b, c, hb, rfl, hlc, hcap, _⟩ := hx (by simp)
   cases hk : Nat.beq i.size k' with
   | false => rw [hk] at h; cases h
   | true =>
     have hk := nBq hk
     subst hk
     simp only [Nat.beq_refl, cond_true] at h
     cases hln : Nat.beq len 0 with
     | true =>
       have := nBq hln
       subst this
       simp only [hln, cond_true, iS] at h
       subst h
       refine ⟨w, ?_, hh, Ext.refl _ _ _⟩
       simp [Builtin.clear_, A7 w hu]
     | false =>
       have hln' := Nat.ne_of_beq_eq_false hln
       rw [hln, cond_false] at h
       cases h3 : (Hw zs (len * i.size)).all AVal.one with
       | false => rw [h3] at h; cases h
       | true =>
         rw [h3, cond_true] at h
         injection h with h; subst h
         have hrow := Ue hl (by omega) (len * i.size)
         have hzl : (Hw zs (len * i.size)).length = len * i.size := by simp [Hw]
         obtain ⟨w', hr, h4, h5⟩ := Um (P := P) hh ho hb hrow (by rw [hzl]; exact hle) h3
         refine ⟨w', ?_, h4, h5⟩
         obtain ⟨m, rfl⟩ : ∃ m, len = m + 1 := ⟨len - 1, by omega⟩
         have hzc : Builtin.zeroCells z.cells (m + 1) = (Array.range ((m + 1) * i.size)).map (z.cells[· % z.cells.size]!) := by
          simp only [Builtin.zeroCells, hzsz]
         simp only [Builtin.clear_]
         simp only [Array.toList_map, Array.toList_range] at hr
         simp [A7 w hu, hzr, hzc, hr]
 · cases h
theorem A3g {P : Program} {W0 w : World} {bs : List Nat} {H : Hz} (hh : Ac W0 F bs H w) {t e : TypeId} {k by' : Nat} (ht : G1 P t = some (e, k, by')) {zs : List AVal} (hz : Dl P e = some zs) {j j' : IntKind} {n : Int} (h0 : 0 ≤ n) (hn : n ≤ 1000000) (hby : by' ≤ 1000) :
 ∃ cv w' bs', (Instr.makeSlice t (.int j n) (.int j' n)).run P w = .ok cv w' ∧ Rep F bs' (H ++ [.cells e (Hw zs (n.toNat * k)) false]) w' (.hsl k H.length 0 n.toNat (some n.toNat)) cv ∧ Ac W0 F bs' (H ++ [.cells e (Hw zs (n.toNat * k)) false]) w' ∧ Ext bs H w bs' (H ++ [.cells e (Hw zs (n.toNat * k)) false]) w' := by
 obtain ⟨hu, hk1, i, z, hi, hzz, hisz, hiby, hzsz⟩ := Iq ht
 subst hisz; subst hiby
 have hsz : (sizeOf e).run P w = .ok i.size w := by simp [sizeOf, Bj w hi]
 have hl : A9 F bs H w zs z.cells.toList := by
  unfold Dl at hz
  rw [hi] at hz; simp only [hzz] at hz
  exact Ha (fun v _ a ha => Rep.const 3 v a ha) hz
 have hzr : (zeroValue e).run P w = .ok z w := by simp [zeroValue, Bj w hi, hzz]
 have start : ∃ z0 : Array Value, ((if n.toNat * i.size = 0 then pure #[] else do pure (← zeroValue e).cells : Sem (Array Value)).run P w = .ok z0 w) ∧ A9 F bs H w (Hw zs (n.toNat * i.size)) ((Array.range (n.toNat * i.size)).map (z0[· % z0.size]!)).toList := by
  by_cases h0 : n.toNat * i.size = 0
  · refine ⟨#[], by simp [h0], ?_⟩
    rw [h0]; simp [Hw, A9]
  · exact ⟨z.cells, by simp [h0, hzr], Ue hl (by omega) _⟩
 obtain ⟨z0, hz0, hrow⟩ := start
 obtain ⟨h1, h2, h3⟩ := K1 hh e hrow
 rw [Array.toArray_toList] at h1 h2 h3
 have hw : IntKind.i64.wrap n = n := by rw [IntKind.wrap_i64]; omega
 have hbn : ¬ ((i.bytes : Int) * n > 2 ^ 48) := by
  have : (i.bytes : Int) * n ≤ 1000 * 1000000 := Int.mul_le_mul (by omega) hn h0 (by omega)
  omega
 refine ⟨.slice (some ⟨w.heap.size, 0, none⟩) n.toNat n.toNat, w.alloc (.cells ((Array.range (n.toNat * i.size)).map (z0[· % z0.size]!)) e), _, ?_, ?_, h2, h3⟩
 · have hroom : ∀ m, (askRoom m).run P w = .ok () w := fun m => by unfold askRoom; split <;> rfl
   simp only [Instr.makeSlice, asInt, asIntOf, sRb, Sem.run_pure, A7 w hu, Bj w hi, rAo, hw]
   rw [if_neg (by
    simp only [Bool.or_eq_true, dTe]
    omega)]
   simp only [hroom, sRb, hsz, rAo]
   by_cases h00 : n.toNat * i.size = 0
   · rw [if_pos h00] at hz0 ⊢
     simp only [Sem.run_pure, Result.ok.injEq, and_true] at hz0
     subst hz0
     simp only [Sem.run_pure, rAo, newRow, run_newObj, sRb]
     rfl
   · rw [if_neg h00] at hz0 ⊢
     simp only [sRb, Sem.run_pure, rAo, hzr, Result.ok.injEq, and_true] at hz0
     subst hz0
     simp only [sRb, Sem.run_pure, rAo, hzr, newRow, run_newObj]
     rfl
 · simp only [Rep, D8, List.getElem?_concat_length]
   refine ⟨⟨_, n.toNat, Nat.le_refl _, rfl⟩, by simp [Hw], fun _ => ⟨w.heap.size, n.toNat, by rw [← hh.len]; simp, rfl, Nat.le_refl _, fun c' h => by injection h, by simp⟩⟩
inductive AConv where
 | int (k : IntKind)
 | same
 | b2s
 | s2b (e : TypeId)
 | i2s
inductive AOp where
 | move (x : AOpd)
 | pick (c a b : AOpd)
 | alloc (T : TypeId) (zs : List AVal)
 | box (T : TypeId) (x : AOpd)
 | build (zs : List AVal) (ps : List (Nat × Nat × AOpd))
 | bslice (e k len : Nat) (zs : List AVal) (ps : List (Nat × Nat × AOpd))
 | load (n : Nat) (agg : Bool) (a : AOpd)
 | store (n : Nat) (a x : AOpd)
 | nilCheck (x : AOpd)
 | bin (op : BinOp) (d : Option TypeDesc) (x y : AOpd)
 | un (op : UnOp) (x : AOpd)
 | conv (c : AConv) (x : AOpd)
 | fieldAddr (off : Nat) (x : AOpd)
 | idxSl (k : Nat) (x i : AOpd)
 | idxArr (n k : Nat) (x i : AOpd)
 | idxStr (x i : AOpd)
 | cutStr (x : AOpd) (lo hi : Option AOpd)
 | cutSl (k : Nat) (x : AOpd) (lo hi : Option AOpd)
 | range (x : AOpd)
 | next (x : AOpd)
 | extract (x : AOpd) (i : Nat)
 | mkfn (f : FuncId) (first cap : List AOpd)
 | call (f : AOpd) (args : List AOpd)
 | append (e k b : Nat) (x y : AOpd)
 | len (str : Bool) (x : AOpd)
 | iface (T : TypeId) (x : AOpd)
 | mm (big : Bool) (x y : AOpd)
 | eqs (neg : Bool) (e : EP) (x y : AOpd)
 | field (n : Nat) (agg : Bool) (off : Nat) (x : AOpd)
 | idxVal (m n : Nat) (agg : Bool) (x i : AOpd)
 | cutArr (n k : Nat) (x : AOpd) (hi : Option AOpd)
 | clear (k : Nat) (zs : List AVal) (x : AOpd)
 | mkSl (e k : Nat) (zs : List AVal) (x y : AOpd)
def oev (G : List (Nat × AVal)) (s : St) : Option AOpd → Option (Option Int)
 | none => some none
 | some x => match ev G s x with
   | some (.int _ n) => some (some n)
   | _ => none
def Px (G : List (Nat × AVal)) (s : St) : List (Nat × Nat × AOpd) → Option (List (Nat × Nat × AVal))
 | [] => some []
 | (o, n, x) :: r => match ev G s x with
   | some v => match Px G s r with
     | some l => some ((o, n, v) :: l)
     | none => none
   | none => none
def Jw (H : Hz) : Option AVal → Option ARes
 | some v => some (.val v H [])
 | none => none
def Rl (H : Hz) : Option AV → Option ARes
 | some (v, side) => some (.val v H side)
 | none => none
def Y7 (H : Hz) (k : IntKind) : AVal → Option ARes
 | .int _ n => some (.val (.int k (k.wrap n)) H [])
 | _ => none
def Y3 (H : Hz) : AVal → Option ARes
 | .str l => some (.val (.str l) H [])
 | _ => none
def A4a (H : Hz) (e : TypeId) : AVal → Option ARes
 | .str l => some (.val (.hsl 1 H.length 0 l.length none) (H ++ [.cells e (l.map fun b => .int .u8 (b.toNat : Nat)) false]) [])
 | _ => none
def Yr (H : Hz) : AVal → Option ARes
 | .int _ n => some (.val (.str (Utf8.encode n).data.toList) H [])
 | _ => none
def L2 (H : Hz) (c : AConv) (x : AVal) : Option ARes :=
 match c with
 | .int k => Y7 H k x
 | .same => Y3 H x
 | .b2s => Jw H (ab2s H x)
 | .s2b e => A4a H e x
 | .i2s => Yr H x
def aop (G : List (Nat × AVal)) (s : St) : AOp → Option ARes
 | .move x => Jw s.H (ev G s x)
 | .pick c a b => match ev G s c with
   | some (.bool t) => Jw s.H (cond t (ev G s a) (ev G s b))
   | _ => none
 | .alloc T zs => some (.val (.ptr s.H.length 0) (s.H ++ [.cells T zs false]) [])
 | .box T x => match ev G s x with
   | some v => some (.val (.ptr s.H.length 0) (s.H ++ [.cells T v.cells false]) [])
   | none => none
 | .build zs ps => match Px G s ps with
   | some qs => match P8 zs qs with
     | some r => some (.val (.agg r) s.H [])
     | none => none
   | none => none
 | .bslice e k len zs ps => match Px G s ps with
   | some qs => match P8 (Hw zs (len * k)) qs with
     | some r => some (.val (.hsl k s.H.length 0 len (some len)) (s.H ++ [.cells e r false]) [])
     | none => none
   | none => none
 | .load n agg a => match ev G s a with
   | some p => Jw s.H (Qi n agg s.H p)
   | none => none
 | .store n a x => match ev G s a with
   | some p => match ev G s x with
     | some v => match Ub n s.H p v with
       | some H' => some (.skip H')
       | none => none
     | none => none
   | none => none
 | .nilCheck x => match ev G s x with
   | some p => Jw s.H (anil s.H p)
   | none => none
 | .bin op d x y => match ev G s x with
   | some a => match ev G s y with
     | some b => Rl s.H (Un op d a b)
     | none => none
   | none => none
 | .un op x => match ev G s x with
   | some a => Jw s.H (aun op a)
   | none => none
 | .conv c x => match ev G s x with
   | some a => L2 s.H c a
   | none => none
 | .fieldAddr off x => match ev G s x with
   | some p => Jw s.H (Xw s.H off p)
   | none => none
 | .idxSl k x i => match ev G s x with
   | some a => match ev G s i with
     | some (.int _ n) => match a with
       | .row k' es => cond (Nat.beq k k' && Nat.ble 1 k) (some (.val (.eptr (es.getD n.toNat .nilIf) 0) s.H [(0, n), (n + 1, (es.length : Nat))])) none
       | .hsl k' id off len _ => cond (Nat.beq k k' && Nb s.H id) (some (.val (.ptr id (off + n.toNat * k)) s.H [(0, n), (n + 1, (len : Nat))])) (cond (Nat.beq k k' && (Nat.beq off 0 && O4 s.H id (len * k))) (some (.val (.optr id (n.toNat * k) (len * k)) s.H [(0, n), (n + 1, (len : Nat))])) none)
       | _ => none
     | _ => none
   | none => none
 | .idxArr m k x i => match ev G s x with
   | some a => match ev G s i with
     | some (.int _ n) => match Xw s.H (n.toNat * k) a with
       | some q => some (.val q s.H [(0, n), (n + 1, (m : Nat))])
       | none => none
     | _ => none
   | none => none
 | .idxStr x i => match ev G s x with
   | some (.str l) => match ev G s i with
     | some (.int _ n) => some (.val (.int .u8 (l.getD n.toNat 0).toNat) s.H [(0, n), (n + 1, (l.length : Nat))])
     | _ => none
   | _ => none
 | .cutStr x lo hi => match ev G s x with
   | some (.str l) => match oev G s lo with
     | some a => match oev G s hi with
       | some b => some (.val (Ar l a b).1 s.H (Ar l a b).2)
       | none => none
     | none => none
   | _ => none
 | .cutSl k x lo hi => match ev G s x with
   | some (.row k' es) => match oev G s lo with
     | some a => match oev G s hi with
       | some b => cond (Nat.beq k k') (some (.val (B6 k es a b).1 s.H (B6 k es a b).2)) none
       | none => none
     | none => none
   | some (.hsl k' id off len cap) => match oev G s lo with
     | some a => match oev G s hi with
       | some b => cond (Nat.beq k k') (Rl s.H (Uw s.H k id off len cap a b)) none
       | none => none
     | none => none
   | _ => none
 | .range x => match ev G s x with
   | some (.str l) => some (.val (.ptr s.H.length 0) (s.H ++ [.iter l 0]) [])
   | _ => none
 | .next x => match ev G s x with
   | some p => match X0 s.H p with
     | some (v, H') => some (.val v H' [])
     | none => none
   | none => none
 | .extract x i => match ev G s x with
   | some t => Jw s.H (Qk i t)
   | none => none
 | .mkfn f first cap => match evs G s first with
   | some a => match evs G s cap with
     | some c => some (.val (.fn f a c) s.H [])
     | none => none
   | none => none
 | .call f args => match ev G s f with
   | some (.fn g first cap) => match evs G s args with
     | some l => some (.call g (first ++ l ++ cap))
     | none => none
   | _ => none
 | .append e k b x y => match ev G s x with
   | some a => match ev G s y with
     | some c => match Yu e k b s.H a c with
       | some (v, H', side) => some (.val v H' side)
       | none => none
     | none => none
   | none => none
 | .len st x => match ev G s x with
   | some (.str l) => cond st (some (.val (.int .i64 l.length) s.H [])) none
   | some a => cond st none (match A2y a with
     | some n => some (.val (.int .i64 n) s.H [])
     | none => none)
   | none => none
 | .iface T x => match ev G s x with
   | some a => some (.val (.iface T a) s.H [])
   | none => none
 | .mm big x y => match ev G s x with
   | some (.int k a) => match ev G s y with
     | some (.int _ b) => some (.val (.int k (cond (cond big (decide (a < b)) (decide (b < a))) b a)) s.H [])
     | _ => none
   | _ => none
 | .eqs neg e x y => match ev G s x with
   | some a => match ev G s y with
     | some b => match aeq e a b with
       | some r => some (.val (.bool (cond neg (not r) r)) s.H [])
       | none => none
     | none => none
   | none => none
 | .field n agg off x => match ev G s x with
   | some a => Jw s.H (I7 n agg off a)
   | none => none
 | .idxVal m n agg x i => match ev G s x with
   | some a => match ev G s i with
     | some (.int _ j) => match I7 n agg (j.toNat * n) a with
       | some v => some (.val v s.H [(0, j), (j + 1, (m : Nat))])
       | none => none
     | _ => none
   | none => none
 | .cutArr n k x hi => match ev G s x with
   | some p => match oev G s hi with
     | some b => Rl s.H (Ud s.H n k b p)
     | none => none
   | none => none
 | .clear k zs x => match ev G s x with
   | some p => match Xj s.H k zs p with
     | some H' => some (.val (.tup []) H' [])
     | none => none
   | none => none
 | .mkSl e k zs x y => match ev G s x with
   | some (.int _ n) => match ev G s y with
     | some (.int _ m) => some (.val (.hsl k s.H.length 0 n.toNat (some n.toNat)) (s.H ++ [.cells e (Hw zs (n.toNat * k)) false]) [(0, n), (n, 1000000), (n, m), (m, n)])
     | _ => none
   | _ => none
def Ho : Option Operand → Option (Option AOpd)
 | none => some none
 | some x => (Ah x).map some
def Gm (place : Nat → Option (Nat × Nat)) : List (Nat × Operand) → Option (List (Nat × Nat × AOpd))
 | [] => some []
 | (i, x) :: r => match place i with
   | some (o, n) => match Ah x with
     | some y => match Gm place r with
       | some l => some ((o, n, y) :: l)
       | none => none
     | none => none
   | none => none
def A4e (P : Program) (t : TypeId) : Bool :=
 match P.underlying t with
 | some (.struct fs) => (fs.toList.mapM fun f => (P.info? f.type).map fun i => (f.offset, i.size)).isSome
 | some (.array _ e) => (P.info? e).isSome
 | _ => false
def Vd : Operand → Bool
 | .const _ => true
 | _ => false
def eqK (P : Program) (t : TypeId) (y : Operand) : Option TypeDesc :=
 match P.underlying t with
 | some .bool => some .bool
 | some (.pointer e) => some (.pointer e)
 | some (.slice e) => some (.slice e)
 | some (.func a b c) => some (.func a b c)
 | some (.interface m) => cond (Vd y) (some (.interface m)) none
 | _ => none
def Q7 (P : Program) (src dst : TypeId) : Option AConv :=
 match P.underlying src, P.underlying dst with
 | some (.int _), some (.int k) => some (.int k)
 | some (.int _), some .string => some .i2s
 | some .string, some .string => some .same
 | some .string, some (.slice e) => match P.underlying e with
   | some (.int .u8) => some (.s2b e)
   | _ => none
 | some (.slice e), some .string => match P.underlying e with
   | some (.int .u8) => some .b2s
   | _ => none
 | _, _ => none
def eqsOf (P : Program) (op : BinOp) (t : TypeId) : Option (Bool × EP) :=
 match isSA P t with
 | true => cond (P.eqGuardType P.depth t) none (match Qe P 100 t with
   | some e => match op with
     | .eql => some (false, e)
     | .neq => some (true, e)
     | _ => none
   | none => none)
 | false => none
def B3 (P : Program) (o : Op) : Option AOp :=
 match o with
 | .move x | .assign x => (Ah x).map .move
 | .pick c a b => do some (.pick (← Ah c) (← Ah a) (← Ah b))
 | .alloc T => do some (.alloc T (← Dl P T))
 | .box T x => do some (.box T (← Ah x))
 | .build t ps => do
   if A4e P t then some (.build (← Dl P t) (← Gm (Lu P t) ps.toList)) else none
 | .buildSlice t len ps => do
   let (e, k, _) ← G1 P t
   if len * k ≤ 16777216 then some (.bslice e k len (← Dl P e) (← Gm (fun i => some (i * k, k)) ps.toList)) else none
 | .load t a => do
   let (n, agg) ← Jk P t
   some (.load n agg (← Ah a))
 | .store t a x => do
   let (n, _) ← Jk P t
   some (.store n (← Ah a) (← Ah x))
 | .nilCheck x => do some (.nilCheck (← Ah x))
 | .binOp op t x y _ =>
   match eqsOf P op t with
   | some (neg, e) => do some (.eqs neg e (← Ah x) (← Ah y))
   | none => do some (.bin op (eqK P t y) (← Ah x) (← Ah y))
 | .unOp op _ x => do some (.un op (← Ah x))
 | .convert src dst x => do some (.conv (← Q7 P src dst) (← Ah x))
 | .fieldAddr s x f => do some (.fieldAddr (← Vj P s f) (← Ah x))
 | .indexAddr t x i =>
   match Ei P t with
   | some (_, k) => do some (.idxSl k (← Ah x) (← Ah i))
   | none => match K5 P t with
     | some (n, k) => do some (.idxArr n k (← Ah x) (← Ah i))
     | none => none
 | .index t x i =>
   match P.underlying t with
   | some .string => do some (.idxStr (← Ah x) (← Ah i))
   | some (.array m e) => match Jk P e with
     | some (n, g) => do some (.idxVal m n g (← Ah x) (← Ah i))
     | none => none
   | _ => none
 | .field t x f =>
   match P.underlying t with
   | some (.struct fields) => match fields[f]? with
     | some fd => match Jk P fd.type with
       | some (n, g) => do some (.field n g fd.offset (← Ah x))
       | none => none
     | none => none
   | _ => none
 | .slice t x lo hi none =>
   match P.underlying t with
   | some .string => do some (.cutStr (← Ah x) (← Ho lo) (← Ho hi))
   | _ => match Ei P t with
     | some (_, k) => do some (.cutSl k (← Ah x) (← Ho lo) (← Ho hi))
     | none => match lo with
       | none => match K5 P t with
         | some (n, k) => do some (.cutArr n k (← Ah x) (← Ho hi))
         | none => none
       | some _ => none
 | .makeSlice t x y => do
   let (e, k, b) ← G1 P t
   if b ≤ 1000 then some (.mkSl e k (← Dl P e) (← Ah x) (← Ah y)) else none
 | .call { callee := .builtin .clear, args, argTypes } =>
   match args.toList, argTypes.toList with
   | [x], [t] => do
     let (e, k, _) ← G1 P t
     some (.clear k (← Dl P e) (← Ah x))
   | _, _ => none
 | .range t x =>
   match P.underlying t with
   | some .string => do some (.range (← Ah x))
   | _ => none
 | .next x true => do some (.next (← Ah x))
 | .extract x i => do some (.extract (← Ah x) i)
 | .makeInterface t x => match P.underlying t with
   | some (.interface _) => none
   | some _ => do some (.iface t (← Ah x))
   | none => none
 | .call { callee := .builtin .max, args, .. } =>
   match args.toList with
   | [x, y] => do some (.mm true (← Ah x) (← Ah y))
   | _ => none
 | .call { callee := .builtin .min, args, .. } =>
   match args.toList with
   | [x, y] => do some (.mm false (← Ah x) (← Ah y))
   | _ => none
 | .makeFunc (.func f) first cap => do some (.mkfn f (← H4 first.toList) (← H4 cap.toList))
 | .call { callee := .value f, args, .. } => do some (.call (← Ah f) (← H4 args.toList))
 | .call { callee := .builtin .append, args, argTypes } =>
   match args.toList, argTypes.toList with
   | [x, y], [t, u] => if t == u then do
    let (e, k, b) ← G1 P t
    some (.append e k b (← Ah x) (← Ah y)) else none
   | _, _ => none
 | .call { callee := .builtin .len, args, argTypes } =>
   match args.toList, argTypes.toList with
   | [x], [t] => match P.underlying t with
     | some .string => do some (.len true (← Ah x))
     | some (.slice _) => do some (.len false (← Ah x))
     | _ => none
   | _, _ => none
 | _ => none
theorem Do {H : Hz} {x : Option AVal} {r : ARes} (h : Jw H x = some r) : ∃ v, x = some v ∧ r = .val v H [] := by
 cases x with
 | none => cases h
 | some v => exact ⟨v, rfl, by simp [Jw] at h; exact h.symm⟩
theorem Jx {H : Hz} {x : Option AV} {r : ARes} (h : Rl H x = some r) : ∃ v side, x = some (v, side) ∧ r = .val v H side := by
 cases x with
 | none => cases h
 | some p => obtain ⟨v, side⟩ := p; exact ⟨v, side, rfl, by simp [Rl] at h; exact h.symm⟩
section
variable {P : Program} {W0 : World} {G : List (Nat × AVal)} {bs : List Nat} {s : St} {a : Act} {w : World}
theorem D9 {o : Sem Value} {cv : Value} {w' : World} (h : o.run P w = .ok cv w') : (do pure (.value (← o)) : Sem Next).run P w = .ok (.value cv) w' := by simp [h]
theorem run_u {o : Sem Unit} {w' : World} (h : o.run P w = .ok () w') : (do o; pure .skip : Sem Next).run P w = .ok .skip w' := by simp [h]
theorem Vb (hg : GOK W0 G) (hs : RS W0 F bs s a w) {place : Nat → Option (Nat × Nat)} : ∀ {ps : List (Nat × Operand)} {qs : List (Nat × Nat × AOpd)} {vs : List (Nat × Nat × AVal)}, Gm place ps = some qs → Px G s qs = some vs →
 vs.length = (ps.map fun p => (p.1, a.eval p.2)).length ∧ ∀ (j : Nat) (p : Nat × Value), (ps.map fun p => (p.1, a.eval p.2))[j]? = some p → ∃ q : Nat × Nat × AVal, vs[j]? = some q ∧ place p.1 = some (q.1, q.2.1) ∧ Rep F bs s.H w q.2.2 p.2
 | [], qs, vs, hc, he => by
   simp [Gm] at hc; subst hc
   simp [Px] at he; subst he
   exact ⟨rfl, fun j p h => by simp at h⟩
 | (i, x) :: ps, qs, vs, hc, he => by
   simp only [Gm] at hc
   split at hc
   · rename_i o n hp
     split at hc
     · rename_i y hy
       split at hc
       · rename_i l hl
         injection hc with hc; subst hc
         simp only [Px] at he
         split at he
         · rename_i v hv
           split at he
           · rename_i l' hl'
             injection he with he; subst he
             obtain ⟨h1, h2⟩ := Vb hg hs hl hl'
             refine ⟨by simpa using h1, fun j p hj => ?_⟩
             cases j with
             | zero =>
               simp at hj; subst hj
               exact ⟨(o, n, v), rfl, hp, Bg hg hs hy hv⟩
             | succ j => exact h2 j p (by simpa using hj)
           · cases he
         · cases he
       · cases hc
     · cases hc
   · cases hc
theorem L6 (hg : GOK W0 G) (hs : RS W0 F bs s a w) {x : Option Operand} {y : Option AOpd} (hc : Ho x = some y) {b : Option Int} (hv : oev G s y = some b) :
 (b = none ∧ x.map a.eval = none) ∨ ∃ k n, b = some n ∧ x.map a.eval = some (.int k n) := by
 cases x with
 | none => simp [Ho] at hc; subst hc; simp [oev] at hv; exact .inl ⟨hv.symm, rfl⟩
 | some x =>
   simp only [Ho, Option.map_eq_some_iff] at hc
   obtain ⟨y', hy, rfl⟩ := hc
   simp only [oev] at hv
   split at hv
   · rename_i k n he
     injection hv with hv; subst hv
     have := Bg hg hs hy he
     simp only [Rep] at this
     exact .inr ⟨k, n, rfl, by simp [this]⟩
   · cases hv
theorem A2d {t : TypeId} {y : Operand} {d : TypeDesc} (h : eqK P t y = some d) : P.underlying t = some d ∧ ∀ ms, d = .interface ms → ∃ c, y = .const c := by
 unfold eqK at h
 split at h <;> first
  | (rename_i hu; injection h with h; subst h; exact ⟨hu, fun ms e => by cases e⟩)
  | (cases h; done)
  | skip
 rename_i m hu
 cases hc : Vd y with
 | false => rw [hc] at h; cases h
 | true =>
   rw [hc] at h; injection h with h; subst h
   refine ⟨hu, fun ms _ => ?_⟩
   cases y <;> simp [Vd] at hc
   exact ⟨_, rfl⟩
theorem conv_ok (hh : Ac W0 F bs s.H w) {src dst : TypeId} {c : AConv} (hc : Q7 P src dst = some c) {x : AVal} {cx : Value} (hx : Rep F bs s.H w x cx) {r : ARes}
 (h : L2 s.H c x = some r) : Dv P W0 F bs s.H w ((do pure (.value (← convert src dst cx)) : Sem Next).run P w) r := by
 unfold Q7 at hc
 cases hs : P.underlying src with
 | none => rw [hs] at hc; cases hc
 | some ds =>
   cases hd : P.underlying dst with
   | none => rw [hs, hd] at hc; cases ds <;> cases hc
   | some dd =>
     rw [hs, hd] at hc
     cases ds <;> try (cases hc; done)
     case int k0 =>
      cases dd <;> try (cases hc; done)
      case int k =>
       injection hc with hc; subst hc
       cases x <;> simp only [L2, Y7] at h <;> try (cases h; done)
       injection h with h; subst h
       rename_i _ n
       simp only [Rep] at hx; subst hx
       refine Dv.same hh (cv := .int k (k.wrap n)) (D9 ?_) (by simp [Rep])
       simp [convert, A7 w hs, A7 w hd, Conv.intToInt]
      case string =>
       injection hc with hc; subst hc
       cases x <;> simp only [L2, Yr] at h <;> try (cases h; done)
       injection h with h; subst h
       rename_i _ n
       simp only [Rep] at hx; subst hx
       refine Dv.same hh (cv := .string (Utf8.encode n)) (D9 ?_) (by simp [Rep])
       simp [convert, A7 w hs, A7 w hd, Conv.intToString]
     case string =>
      cases dd <;> try (cases hc; done)
      case string =>
       injection hc with hc; subst hc
       cases x <;> simp only [L2, Y3] at h <;> try (cases h; done)
       injection h with h; subst h
       simp only [Rep] at hx; subst hx
       refine Dv.same hh (D9 (cv := .string _) ?_) (by simp only [Rep]; rfl)
       simp [convert, A7 w hs, A7 w hd]
      case slice e =>
       simp only at hc
       split at hc
       · rename_i he
         injection hc with hc; subst hc
         cases x <;> simp only [L2, A4a] at h <;> try (cases h; done)
         injection h with h; subst h
         simp only [Rep] at hx; subst hx
         intro _
         obtain ⟨cv, w', bs', h1, h2, h3, h4⟩ := as2b_ok hh hs hd he _
         exact ⟨cv, w', bs', D9 h1, h2, h3, h4⟩
       · cases hc
     case slice e =>
      cases dd <;> try (cases hc; done)
      case string =>
       simp only at hc
       split at hc
       · rename_i he
         injection hc with hc; subst hc
         simp only [L2] at h
         obtain ⟨v, hv, rfl⟩ := Do h
         obtain ⟨cv, h1, h2⟩ := ab2s_ok (P := P) hh hs hd he hx hv
         exact Dv.same hh (D9 h1) h2
       · cases hc
theorem A4l (hg : GOK W0 G) (hs : RS W0 F bs s a w) {o : Oper} {ao : AOp} (hc : B3 P o.op = some ao) {r : ARes} (h : aop G s ao = some r) :
 Dv P W0 F bs s.H w ((execOp a.eval o).run P w) r := by
 have hh := hs.heap
 obtain ⟨dst, op, ty, pos, after, guard⟩ := o
 simp only at hc
 cases op <;> try (cases hc; done)
 case move x =>
  simp only [B3, Option.map_eq_some_iff] at hc
  obtain ⟨y, hy, rfl⟩ := hc
  obtain ⟨v, hv, rfl⟩ := Do h
  exact Dv.same hh (cv := a.eval x) rfl (Bg hg hs hy hv)
 case assign x =>
  simp only [B3, Option.map_eq_some_iff] at hc
  obtain ⟨y, hy, rfl⟩ := hc
  obtain ⟨v, hv, rfl⟩ := Do h
  exact Dv.same hh (cv := a.eval x) rfl (Bg hg hs hy hv)
 case pick c x y =>
  simp only [B3, oBb, oBi, iS] at hc
  obtain ⟨c', hc', x', hx', y', hy', rfl⟩ := hc
  simp only [aop] at h
  split at h
  · rename_i t ht
    obtain ⟨v, hv, rfl⟩ := Do h
    have hcv := Bg hg hs hc' ht
    simp only [Rep] at hcv
    cases t with
    | true => exact Dv.same hh (cv := a.eval x) (by simp [execOp, hcv, asBool]) (Bg hg hs hx' hv)
    | false => exact Dv.same hh (cv := a.eval y) (by simp [execOp, hcv, asBool]) (Bg hg hs hy' hv)
  · cases h
 case alloc T =>
  simp only [B3, oBb, oBi, iS] at hc
  obtain ⟨zs, hz, rfl⟩ := hc
  simp only [aop, iS] at h; subst h
  intro _
  obtain ⟨cv, w', bs', h1, h2⟩ := A40 (P := P) hh hz
  exact ⟨cv, w', bs', D9 h1, h2⟩
 case box T x =>
  simp only [B3, oBb, oBi, iS] at hc
  obtain ⟨x', hx', rfl⟩ := hc
  simp only [aop] at h
  split at h
  · rename_i v hv
    injection h with h; subst h
    intro _
    obtain ⟨cv, w', bs', h1, h2⟩ := box_ok (P := P) hh T (Bg hg hs hx' hv)
    exact ⟨cv, w', bs', D9 h1, h2⟩
  · cases h
 case load t x =>
  simp only [B3, oBb, oBi, iS] at hc
  obtain ⟨⟨n, agg⟩, ht, x', hx', rfl⟩ := hc
  simp only [aop] at h
  split at h
  · rename_i p hp
    obtain ⟨v, hv, rfl⟩ := Do h
    obtain ⟨cv, h1, h2⟩ := X6 hh ht (Bg hg hs hx' hp) hv
    exact Dv.same hh (D9 h1) h2
  · cases h
 case store t x y =>
  simp only [B3, oBb, oBi, iS] at hc
  obtain ⟨⟨n, agg⟩, ht, x', hx', y', hy', rfl⟩ := hc
  simp only [aop] at h
  split at h
  · rename_i p hp
    split at h
    · rename_i v hv
      split at h
      · rename_i H' hH
        injection h with h; subst h
        obtain ⟨w', h1, h2, h3⟩ := A0k (P := P) hh ht (Bg hg hs hx' hp) (Bg hg hs hy' hv) hH
        exact ⟨w', bs, run_u h1, h2, h3⟩
      · cases h
    · cases h
  · cases h
 case nilCheck x =>
  simp only [B3, oBb, oBi, iS] at hc
  obtain ⟨x', hx', rfl⟩ := hc
  simp only [aop] at h
  split at h
  · rename_i p hp
    obtain ⟨v, hv, rfl⟩ := Do h
    obtain ⟨h1, h2⟩ := anil_ok (P := P) (o := ⟨dst, .nilCheck x, ty, pos, after, guard⟩) rfl (Bg hg hs hx' hp) hv
    exact Dv.same hh h1 h2
  · cases h
 case binOp op t x y yt =>
  simp only [B3] at hc
  split at hc
  · rename_i neg e hpl
    simp only [oBb, oBi, iS] at hc
    obtain ⟨x', hx', y', hy', rfl⟩ := hc
    simp only [aop] at h
    split at h
    · rename_i p hp
      split at h
      · rename_i q hq
        split at h
        · rename_i r' hr'
          injection h with h; subst h
          unfold eqsOf at hpl
          split at hpl
          · rename_i hu
            cases hgd : P.eqGuardType P.depth t with
            | true => rw [hgd] at hpl; cases hpl
            | false =>
              rw [hgd, cond_false] at hpl
              split at hpl
              · rename_i e1 he1
                have hop : e1 = e ∧ ((op = .eql ∧ neg = false) ∨ (op = .neq ∧ neg = true)) := by
                 cases op <;> simp only [iS, iP, reduceCtorEq] at hpl <;> simp [hpl.1, hpl.2]
                obtain ⟨rfl, hop⟩ := hop
                have := eqs_ok (P := P) (ox := x) (oy := y) hu hgd he1 hop (Bg hg hs hx' hp) (Bg hg hs hy' hq) hr'
                exact Dv.same hh (D9 this) (by simp only [Rep])
              · cases hpl
          · cases hpl
        · cases h
      · cases h
    · cases h
  · simp only [oBb, oBi, iS] at hc
    obtain ⟨x', hx', y', hy', rfl⟩ := hc
    simp only [aop] at h
    split at h
    · rename_i p hp
      split at h
      · rename_i q hq
        obtain ⟨v, side, hv, rfl⟩ := Jx h
        intro hsd
        obtain ⟨cv, h1, h2⟩ := abin_ok (P := P) (t := t) (ox := x) (oy := y) (Bg hg hs hx' hp) (Bg hg hs hy' hq) hv hsd (fun d' hd => (A2d hd).1) (fun ms hm => (A2d hm).2 ms rfl)
        exact ⟨cv, w, bs, D9 h1, h2, hh, Ext.refl _ _ _⟩
      · cases h
    · cases h
 case field t x f =>
  simp only [B3] at hc
  split at hc
  · rename_i fields hu
    split at hc
    · rename_i fd hfd
      split at hc
      · rename_i n g ht
        simp only [oBb, oBi, iS] at hc
        obtain ⟨x', hx', rfl⟩ := hc
        simp only [aop] at h
        split at h
        · rename_i p hp
          obtain ⟨v, hv, rfl⟩ := Do h
          obtain ⟨us, ca, h0, h1, h2⟩ := Si (P := P) ht (Bg hg hs hx' hp) hv
          refine Dv.same hh (D9 ?_) h2
          simp only [Instr.field, sRb, A7 w hu, rAo, hfd, h0, asAgg, Sem.run_pure]
          exact h1
        · cases h
      · cases hc
    · cases hc
  · cases hc
 case unOp op t x =>
  simp only [B3, oBb, oBi, iS] at hc
  obtain ⟨x', hx', rfl⟩ := hc
  simp only [aop] at h
  split at h
  · rename_i p hp
    obtain ⟨v, hv, rfl⟩ := Do h
    obtain ⟨cv, h1, h2⟩ := aun_ok (P := P) (Bg hg hs hx' hp) hv
    exact Dv.same hh (D9 h1) h2
  · cases h
 case convert src dst' x =>
  simp only [B3, oBb, oBi, iS] at hc
  obtain ⟨c, hc', x', hx', rfl⟩ := hc
  simp only [aop] at h
  split at h
  · rename_i p hp
    exact conv_ok hh hc' (Bg hg hs hx' hp) h
  · cases h
 case fieldAddr t x f =>
  simp only [B3, oBb, oBi, iS] at hc
  obtain ⟨off, hf, x', hx', rfl⟩ := hc
  simp only [aop] at h
  split at h
  · rename_i p hp
    obtain ⟨v, hv, rfl⟩ := Do h
    obtain ⟨cv, h1, h2⟩ := V5 (P := P) hf (Bg hg hs hx' hp) hv
    exact Dv.same hh (D9 h1) h2
  · cases h
 case extract x i =>
  simp only [B3, oBb, oBi, iS] at hc
  obtain ⟨x', hx', rfl⟩ := hc
  simp only [aop] at h
  split at h
  · rename_i p hp
    obtain ⟨v, hv, rfl⟩ := Do h
    obtain ⟨cv, h1, h2⟩ := Vs (P := P) (Bg hg hs hx' hp) hv
    exact Dv.same hh (D9 h1) h2
  · cases h
 case build t ps =>
  simp only [B3] at hc
  split at hc
  · rename_i hk
    simp only [oBb, oBi, iS] at hc
    obtain ⟨zs, hz, ps', hps, rfl⟩ := hc
    simp only [aop] at h
    split at h
    · rename_i qs hqs
      split at h
      · rename_i r' hr'
        injection h with h; subst h
        obtain ⟨hl, hp⟩ := Vb hg hs hps hqs
        have hlist : (ps.map fun (i, x) => (i, a.eval x)).toList = ps.toList.map fun p => (p.1, a.eval p.2) := by simp
        have hkind : (∃ fs, P.underlying t = some (.struct fs) ∧ (fs.toList.mapM (fun f => (P.info? f.type).map fun i => (f.offset, i.size))).isSome = true) ∨ (∃ n e, P.underlying t = some (.array n e) ∧ (P.info? e).isSome = true) := by
         unfold A4e at hk
         split at hk
         · rename_i fs hu; exact .inl ⟨fs, hu, hk⟩
         · rename_i n e hu; exact .inr ⟨n, e, hu, hk⟩
         · cases hk
        obtain ⟨cv, h1, h2⟩ := A0l (P := P) (ps := ps.map fun (i, x) => (i, a.eval x)) hz (fun j p hj => hp j p (by rw [← hlist]; exact hj)) (by rw [hlist]; exact hl) hkind hr'
        exact Dv.same hh (D9 h1) h2
      · cases h
    · cases h
  · cases hc
 case buildSlice t len ps =>
  simp only [B3, oBb, oBi] at hc
  obtain ⟨⟨e, k, b⟩, ht, hc⟩ := hc
  simp only at hc
  split at hc
  · rename_i hlen
    simp only [oBi, iS] at hc
    obtain ⟨zs, hz, ps', hps, rfl⟩ := hc
    simp only [aop] at h
    split at h
    · rename_i qs hqs
      split at h
      · rename_i r' hr'
        injection h with h; subst h
        obtain ⟨hl, hp⟩ := Vb hg hs hps hqs
        have hlist : (ps.map fun (i, x) => (i, a.eval x)).toList = ps.toList.map fun p => (p.1, a.eval p.2) := by simp
        intro _
        obtain ⟨cv, w', bs', h1, h2⟩ := Xy (P := P) hh ht hz hlen (ps := ps.map fun (i, x) => (i, a.eval x)) (fun j p hj => by
         obtain ⟨q, hq1, hq2, hq3⟩ := hp j p (by rw [← hlist]; exact hj)
         exact ⟨q, hq1, by simpa using hq2, hq3⟩) (by rw [hlist]; exact hl) hr'
        exact ⟨cv, w', bs', D9 h1, h2⟩
      · cases h
    · cases h
  · cases hc
 case makeFunc fn first cap =>
  cases fn <;> try (cases hc; done)
  case func f =>
   simp only [B3, oBb, oBi, iS] at hc
   obtain ⟨x', hx', y', hy', rfl⟩ := hc
   simp only [aop] at h
   split at h
   · rename_i p hp
     split at h
     · rename_i q hq
       injection h with h; subst h
       have h1 := U6 hg hs hx' hp
       have h2 := U6 hg hs hy' hq
       refine Dv.same hh (cv := .func (.func f) (first.map a.eval) (cap.map a.eval)) rfl ?_
       simp only [Rep]
       exact ⟨_, _, by rw [← Array.toList_map, ← Array.toList_map, Array.toArray_toList, Array.toArray_toList], h1, h2⟩
     · cases h
   · cases h
 case range t x =>
  simp only [B3] at hc
  split at hc
  · rename_i hu
    simp only [oBb, oBi, iS] at hc
    obtain ⟨x', hx', rfl⟩ := hc
    simp only [aop] at h
    split at h
    · rename_i l hl
      injection h with h; subst h
      have := Bg hg hs hx' hl
      simp only [Rep] at this
      intro _
      obtain ⟨cv, w', bs', h1, h2⟩ := Zz (P := P) hh hu (s := l)
      exact ⟨cv, w', bs', D9 (by rw [this]; exact h1), h2⟩
    · cases h
  · cases hc
 case next x st =>
  cases st <;> try (cases hc; done)
  simp only [B3, oBb, oBi, iS] at hc
  obtain ⟨x', hx', rfl⟩ := hc
  simp only [aop] at h
  split at h
  · rename_i p hp
    split at h
    · rename_i v H' hn
      injection h with h; subst h
      intro _
      obtain ⟨cv, w', h1, h2⟩ := A4u (P := P) (T := ty) hh (Bg hg hs hx' hp) hn
      exact ⟨cv, w', bs, D9 h1, h2⟩
    · cases h
  · cases h
 case index t x i =>
  simp only [B3] at hc
  split at hc
  · rename_i hu
    simp only [oBb, oBi, iS] at hc
    obtain ⟨x', hx', i', hi', rfl⟩ := hc
    simp only [aop] at h
    split at h
    · rename_i l hl
      split at h
      · rename_i k n hn
        injection h with h; subst h
        have h1 := Bg hg hs hx' hl
        have h2 := Bg hg hs hi' hn
        simp only [Rep] at h1 h2
        intro hsd
        obtain ⟨cv, hr1, hr2⟩ := Xs (P := P) (F := F) (w := w) (bs := bs) (H := s.H) (k := k) hu hsd.1 hsd.2.1
        exact ⟨cv, w, bs, D9 (by rw [h1, h2]; exact hr1), hr2, hh, Ext.refl _ _ _⟩
      · cases h
    · cases h
  · rename_i m e hu
    split at hc
    · rename_i n g ht
      simp only [oBb, oBi, iS] at hc
      obtain ⟨x', hx', i', hi', rfl⟩ := hc
      simp only [aop] at h
      split at h
      · rename_i p hp
        split at h
        · rename_i k0 j0 hj
          split at h
          · rename_i v hv
            injection h with h; subst h
            intro hsd
            have h2 := Bg hg hs hi' hj
            simp only [Rep] at h2
            obtain ⟨us, ca, h0, h1, h3⟩ := Si (P := P) ht (Bg hg hs hx' hp) hv
            refine ⟨ca, w, bs, D9 ?_, h3, hh, Ext.refl _ _ _⟩
            have hii : 0 ≤ j0 ∧ j0 < (m : Int) := by
             have a1 := hsd.1
             have a2 := hsd.2.1
             simp only at a1 a2
             omega
            simp only [Instr.index, asIntOf, h2, h0, sRb, Sem.run_pure, rAo, A7 w hu, hii, and_self, if_true, (M9 w ht).2]
            exact h1
          · cases h
        · cases h
      · cases h
    · cases hc
  · cases hc
 case slice t x lo hi mx =>
  cases mx <;> try (cases hc; done)
  simp only [B3] at hc
  split at hc
  · rename_i hu
    simp only [oBb, oBi, iS] at hc
    obtain ⟨x', hx', lo', hlo', hi', hhi', rfl⟩ := hc
    simp only [aop] at h
    split at h
    · rename_i l hl
      split at h
      · rename_i la hla
        split at h
        · rename_i ha hha
          injection h with h; subst h
          have h1 := Bg hg hs hx' hl
          simp only [Rep] at h1
          intro hsd
          obtain ⟨cv, hr1, hr2⟩ := Yt (P := P) (F := F) (w := w) (bs := bs) (H := s.H) hu (L6 hg hs hlo' hla) (L6 hg hs hhi' hha) rfl hsd
          exact ⟨cv, w, bs, D9 (by rw [h1]; exact hr1), hr2, hh, Ext.refl _ _ _⟩
        · cases h
      · cases h
    · cases h
  · split at hc
    · rename_i e k ht
      simp only [oBb, oBi, iS] at hc
      obtain ⟨x', hx', lo', hlo', hi', hhi', rfl⟩ := hc
      simp only [aop] at h
      split at h
      · rename_i k' es hl
        split at h
        · rename_i la hla
          split at h
          · rename_i ha hha
            cases hk : Nat.beq k k' with
            | false => rw [hk] at h; cases h
            | true =>
              rw [hk, cond_true] at h
              have := nBq hk; subst this
              injection h with h; subst h
              intro hsd
              obtain ⟨cv, hr1, hr2⟩ := Yf (P := P) ht (Bg hg hs hx' hl) (L6 hg hs hlo' hla) (L6 hg hs hhi' hha) rfl hsd
              exact ⟨cv, w, bs, D9 hr1, hr2, hh, Ext.refl _ _ _⟩
          · cases h
        · cases h
      · rename_i k' id off len cap hl
        split at h
        · rename_i la hla
          split at h
          · rename_i ha hha
            cases hk : Nat.beq k k' with
            | false => rw [hk] at h; cases h
            | true =>
              rw [hk, cond_true] at h
              have := nBq hk; subst this
              obtain ⟨v, side, hv, rfl⟩ := Jx h
              intro hsd
              obtain ⟨cv, hr1, hr2⟩ := Xt (P := P) ht (Bg hg hs hx' hl) (L6 hg hs hlo' hla) (L6 hg hs hhi' hha) hv hsd
              exact ⟨cv, w, bs, D9 hr1, hr2, hh, Ext.refl _ _ _⟩
          · cases h
        · cases h
      · cases h
    · cases lo with
      | some lo => cases hc
      | none =>
        simp only at hc
        split at hc
        · rename_i n k ht
          simp only [oBb, oBi, iS] at hc
          obtain ⟨x', hx', hi', hhi', rfl⟩ := hc
          simp only [aop] at h
          split at h
          · rename_i p hp
            split at h
            · rename_i b hb
              obtain ⟨v, side, hv, rfl⟩ := Jx h
              intro hsd
              obtain ⟨cv, hr1, hr2⟩ := Xr (P := P) ht (Bg hg hs hx' hp) (L6 hg hs hhi' hb) hv hsd
              exact ⟨cv, w, bs, D9 hr1, hr2, hh, Ext.refl _ _ _⟩
            · cases h
          · cases h
        · cases hc
 case makeSlice t x y =>
  simp only [B3, oBb, oBi] at hc
  obtain ⟨⟨e, k, b⟩, ht, hc⟩ := hc
  simp only at hc
  split at hc
  · rename_i hb
    simp only [oBi, iS] at hc
    obtain ⟨zs, hz, x', hx', y', hy', rfl⟩ := hc
    simp only [aop] at h
    split at h
    · rename_i k1 n hn
      split at h
      · rename_i k2 m hm
        injection h with h; subst h
        have h1 := Bg hg hs hx' hn
        have h2 := Bg hg hs hy' hm
        simp only [Rep] at h1 h2
        intro hsd
        obtain ⟨s1, s2, s3, s4, _⟩ := hsd
        have hnm : m = n := Int.le_antisymm s4 s3
        subst hnm
        obtain ⟨cv, w', bs', hr1, hr2⟩ := A3g (P := P) hh ht hz (j := k1) (j' := k2) s1 s2 hb
        exact ⟨cv, w', bs', D9 (by rw [h1, h2]; exact hr1), hr2⟩
      · cases h
    · cases h
  · cases hc
 case indexAddr t x i =>
  simp only [B3] at hc
  split at hc
  · rename_i e k ht
    simp only [oBb, oBi, iS] at hc
    obtain ⟨x', hx', i', hi', rfl⟩ := hc
    simp only [aop] at h
    split at h
    · rename_i p hp
      split at h
      · rename_i k2 n hn
        have h1 := Bg hg hs hx' hp
        have h2 := Bg hg hs hi' hn
        simp only [Rep] at h2
        split at h
        · rename_i k' es
          cases hk : (Nat.beq k k' && Nat.ble 1 k) with
          | false => rw [hk] at h; cases h
          | true =>
            rw [hk, cond_true] at h
            simp only [bAt] at hk
            have := nBq hk.1; subst this
            injection h with h; subst h
            intro hsd
            obtain ⟨cv, hr1, hr2⟩ := Ys (P := P) (k := k2) ht (Nat.le_of_ble_eq_true hk.2) h1 hsd.1 hsd.2.1 .nilIf
            exact ⟨cv, w, bs, D9 (by rw [h2]; exact hr1), hr2, hh, Ext.refl _ _ _⟩
        · rename_i k' id off len cap
          cases hk : (Nat.beq k k' && Nb s.H id) with
          | false =>
            rw [hk, cond_false] at h
            cases hk2 : (Nat.beq k k' && (Nat.beq off 0 && O4 s.H id (len * k))) with
            | false => rw [hk2] at h; cases h
            | true =>
              rw [hk2, cond_true] at h
              simp only [bAt] at hk2
              have := nBq hk2.1; subst this
              have := nBq hk2.2.1; subst this
              injection h with h; subst h
              intro hsd
              obtain ⟨cv, hr1, hr2⟩ := Wu (P := P) (k := k2) ht hk2.2.2 h1 hsd.1 hsd.2.1
              exact ⟨cv, w, bs, D9 (by rw [h2]; exact hr1), hr2, hh, Ext.refl _ _ _⟩
          | true =>
            rw [hk, cond_true] at h
            simp only [bAt] at hk
            have := nBq hk.1; subst this
            injection h with h; subst h
            intro hsd
            obtain ⟨cv, hr1, hr2⟩ := Ym (P := P) (k := k2) ht hk.2 h1 hsd.1 hsd.2.1
            exact ⟨cv, w, bs, D9 (by rw [h2]; exact hr1), hr2, hh, Ext.refl _ _ _⟩
        · cases h
      · cases h
    · cases h
  · split at hc
    · rename_i m k ht
      simp only [oBb, oBi, iS] at hc
      obtain ⟨x', hx', i', hi', rfl⟩ := hc
      simp only [aop] at h
      split at h
      · rename_i p hp
        split at h
        · rename_i k2 n hn
          have h1 := Bg hg hs hx' hp
          have h2 := Bg hg hs hi' hn
          simp only [Rep] at h2
          split at h
          · rename_i q hq
            injection h with h; subst h
            intro hsd
            obtain ⟨cv, hr1, hr2⟩ := Xz (P := P) (k := k2) ht h1 hsd.1 hsd.2.1 hq
            exact ⟨cv, w, bs, D9 (by rw [h2]; exact hr1), hr2, hh, Ext.refl _ _ _⟩
          · cases h
        · cases h
      · cases h
    · cases hc
 case makeInterface t x =>
  simp only [B3] at hc
  split at hc
  · cases hc
  · rename_i d hni hu
    simp only [oBb, oBi, iS] at hc
    obtain ⟨x', hx', rfl⟩ := hc
    simp only [aop] at h
    split at h
    · rename_i p hp
      injection h with h; subst h
      have h1 := Bg hg hs hx' hp
      refine Dv.same hh (cv := .iface t (a.eval x)) (D9 ?_) (by simp only [Rep]; exact ⟨_, rfl, h1⟩)
      simp only [Instr.makeInterface, sRb, A7 w hu, rAo]
      cases d <;> first | rfl | (exact absurd rfl (hni _))
    · cases h
  · cases hc
 case call c =>
  obtain ⟨callee, args, ats⟩ := c
  cases callee <;> try (cases hc; done)
  case value f =>
   simp only [B3, oBb, oBi, iS] at hc
   obtain ⟨f', hf', args', hargs', rfl⟩ := hc
   simp only [aop] at h
   split at h
   · rename_i g first cap hfv
     split at h
     · rename_i l hl
       injection h with h; subst h
       intro hb
       have h1 := Bg hg hs hf' hfv
       have h2 := U6 hg hs hargs' hl
       obtain ⟨us, hr1, hr2⟩ := A27 (P := P) h1 h2 hb
       refine ⟨us, ?_, hr2⟩
       simp only [execOp, Rk]
       rw [show args.map a.eval = (args.toList.map a.eval).toArray by rw [← Array.toList_map, Array.toArray_toList]]
       exact hr1
     · cases h
   · cases h
  case builtin b =>
   cases b <;> try (cases hc; done)
   case append =>
    simp only [B3] at hc
    split at hc
    · rename_i x y t u hx hy
      split at hc
      · rename_i htu
        have htu' : t = u := by simpa using htu
        subst htu'
        simp only [oBb, oBi, iS] at hc
        obtain ⟨⟨e, k, b⟩, ht, x', hx', y', hy', rfl⟩ := hc
        simp only [aop] at h
        split at h
        · rename_i p hp
          split at h
          · rename_i q hq
            split at h
            · rename_i v H' side hv
              injection h with h; subst h
              intro hsd
              obtain ⟨cv, w', bs', h1, h2⟩ := aapp_ok (P := P) (ty := ty) hh ht (Bg hg hs hx' hp) (Bg hg hs hy' hq) hv hsd
              refine ⟨cv, w', bs', ?_, h2⟩
              have ha : args = #[x, y] := by apply Array.ext'; rw [hx]
              have hat : ats = #[t, t] := by apply Array.ext'; rw [hy]
              subst ha; subst hat
              simp only [execOp, resolve, sRb, Sem.run_pure, rAo, invoke, builtin]
              simp only [List.map_toArray, List.map_cons, List.map_nil, h1, rAo]
            · cases h
          · cases h
        · cases h
      · cases hc
    · cases hc
   case clear =>
    simp only [B3] at hc
    split at hc
    · rename_i x t hx hy
      simp only [oBb, oBi, iS] at hc
      obtain ⟨⟨e, k, b⟩, ht, zs, hz, x', hx', rfl⟩ := hc
      simp only [aop] at h
      split at h
      · rename_i p hp
        split at h
        · rename_i H' hv
          injection h with h; subst h
          intro _
          obtain ⟨w', h1, h2⟩ := A1t (P := P) (ty := ty) hh ht hz (Bg hg hs hx' hp) hv
          have ha : args = #[x] := by apply Array.ext'; rw [hx]
          have hat : ats = #[t] := by apply Array.ext'; rw [hy]
          subst ha; subst hat
          refine ⟨.tuple #[], w', bs, ?_, by simp [Rep, A9], h2⟩
          simp only [execOp, resolve, sRb, Sem.run_pure, rAo, invoke, builtin]
          simp only [List.map_toArray, List.map_cons, List.map_nil, h1, rAo]
        · cases h
      · cases h
    · cases hc
   case max =>
    simp only [B3] at hc
    split at hc
    · rename_i x y hx
      have ha : args = #[x, y] := by apply Array.ext'; rw [hx]
      subst ha
      simp only [oBb, oBi, iS] at hc
      obtain ⟨x', hx', y', hy', rfl⟩ := hc
      simp only [aop] at h
      split at h
      · rename_i k m hm
        split at h
        · rename_i k2 n hn
          injection h with h; subst h
          have h1 := Bg hg hs hx' hm
          have h2 := Bg hg hs hy' hn
          simp only [Rep] at h1 h2
          refine Dv.same hh (cv := .int k (if m < n then n else m)) ?_ ?_
          · simp only [execOp, resolve, sRb, Sem.run_pure, rAo, invoke, builtin]
            simp only [List.map_toArray, List.map_cons, List.map_nil, h1, h2, Builtin.max_]
            rfl
          · simp only [Rep, cond_true]
            by_cases hlt : m < n <;> simp [hlt]
        · cases h
      · cases h
    · cases hc
   case min =>
    simp only [B3] at hc
    split at hc
    · rename_i x y hx
      have ha : args = #[x, y] := by apply Array.ext'; rw [hx]
      subst ha
      simp only [oBb, oBi, iS] at hc
      obtain ⟨x', hx', y', hy', rfl⟩ := hc
      simp only [aop] at h
      split at h
      · rename_i k m hm
        split at h
        · rename_i k2 n hn
          injection h with h; subst h
          have h1 := Bg hg hs hx' hm
          have h2 := Bg hg hs hy' hn
          simp only [Rep] at h1 h2
          refine Dv.same hh (cv := .int k (if n < m then n else m)) ?_ ?_
          · simp only [execOp, resolve, sRb, Sem.run_pure, rAo, invoke, builtin]
            simp only [List.map_toArray, List.map_cons, List.map_nil, h1, h2, Builtin.min_]
            rfl
          · simp only [Rep, cond_false]
            by_cases hlt : n < m <;> simp [hlt]
        · cases h
      · cases h
    · cases hc
   case len =>
    simp only [B3] at hc
    split at hc
    · rename_i x t hx hy
      have ha : args = #[x] := by apply Array.ext'; rw [hx]
      have hat : ats = #[t] := by apply Array.ext'; rw [hy]
      subst ha; subst hat
      have fin : ∀ (v : AVal) (n : Int), Rep F bs s.H w v (a.eval x) → A2y v = some n → (∃ d, P.underlying t = some d ∧ ((d = .string ∧ ∃ s, v = .str s) ∨ ((∃ e, d = .slice e) ∧ ∀ s, v ≠ .str s))) →
       Dv P W0 F bs s.H w ((execOp a.eval ⟨dst, .call { callee := .builtin .len, args := #[x], argTypes := #[t] }, ty, pos, after, guard⟩).run P w) (.val (.int .i64 n) s.H []) := by
       intro v n hv hn hd
       refine Dv.same hh (cv := .int .i64 n) ?_ (by simp [Rep])
       have := alen_ok (P := P) (T := ty) (xs := #[a.eval x]) (ts := #[t]) hv hn rfl rfl hd
       simp only [execOp, resolve, sRb, Sem.run_pure, rAo, invoke, builtin]
       simp only [List.map_toArray, List.map_cons, List.map_nil, this, rAo]
      split at hc
      · rename_i hu
        simp only [oBb, oBi, iS] at hc
        obtain ⟨x', hx', rfl⟩ := hc
        simp only [aop] at h
        split at h
        · rename_i l hl
          simp only [cond_true, iS] at h
          subst h
          exact fin _ _ (Bg hg hs hx' hl) rfl ⟨_, hu, .inl ⟨rfl, _, rfl⟩⟩
        · cases h
        · cases h
      · rename_i e hu
        simp only [oBb, oBi, iS] at hc
        obtain ⟨x', hx', rfl⟩ := hc
        simp only [aop] at h
        split at h
        · cases h
        · rename_i p hns hp
          simp only [cond_false] at h
          split at h
          · rename_i n hn
            injection h with h; subst h
            refine fin _ _ (Bg hg hs hx' hp) hn ⟨_, hu, .inr ⟨⟨e, rfl⟩, ?_⟩⟩
            intro s hs; exact hns s hs
          · cases h
        · cases h
      · cases hc
    · cases hc
end
end Go.Abs
namespace Go.Abs
open Go.RowKit
inductive Av where
 | normal
 | exit (id : Nat)
 | ret
abbrev CallF := FuncId → List AVal → Hz → Option (AVal × Hz)
def St.put (s : St) (dst : Option Nat) (v : AVal) (H : Hz) : Option St :=
 match dst with
 | none => some ⟨s.env, H, s.n⟩
 | some d => cond (Nat.blt d s.n && Nat.blt d 4094) (some ⟨Env.put 12 d v s.env, H, s.n⟩) none
def leB (p : Int × Int) : Bool := decide (p.1 ≤ p.2)
def Ky : List (Int × Int) → Bool
 | [] => true
 | p :: r => cond (leB p) (Ky r) false
def Wc (call : CallF) (H : Hz) : Option ARes → Option (AVal × Hz)
 | some (.val v H' side) => cond (Ky side) (some (v, H')) none
 | some (.skip H') => some (.tup [], H')
 | some (.call f args) => call f args H
 | none => none
def C9 (ops : Array Oper) (s : St) : Option (Nat × Bool) → Option Bool
 | none => some true
 | some (j, want) => match (ops[j]?).bind (·.dst) with
   | some d => match s.env.get d with
     | some (.bool b) => some (cond b want (not want))
     | some (.tup []) => some false
     | _ => none
   | none => none
def Z6 (P : Program) (G : List (Nat × AVal)) (call : CallF) (ops : Array Oper) (o : Oper) (s : St) : Option St :=
 match C9 ops s o.guard with
 | some true => match B3 P o.op with
   | some op => match Wc call s.H (aop G s op) with
     | some (v, H') => s.put o.dst v H'
     | none => none
   | none => none
 | some false => s.put o.dst (.tup []) s.H
 | none => none
def R1 (P : Program) (G : List (Nat × AVal)) (call : CallF) (ops : Array Oper) : List Oper → St → Option St
 | [], s => some s
 | o :: r, s => match Z6 P G call ops o s with
   | some s' => R1 P G call ops r s'
   | none => none
def Wj (body : St → Option (Av × St)) : Nat → St → Option (Av × St)
 | 0, _ => none
 | n + 1, s => match body s with
   | some (.normal, s') => Wj body n s'
   | r => r
def Wv (P : Program) (G : List (Nat × AVal)) (call : CallF) (draw : Array Oper → St → Option St) (ih : Code → St → Option (Av × St)) : Code → St → Option (Av × St)
 | .skip, s => some (.normal, s)
 | .region _ ops d, s => match cond d (draw ops s) (R1 P G call ops ops.toList s) with
   | some s' => some (.normal, s')
   | none => none
 | .seq x y, s => match ih x s with
   | some (.normal, s') => ih y s'
   | r => r
 | .cond c x y, s => match Ah c with
   | some c' => match ev G s c' with
     | some (.bool b) => cond b (ih x s) (ih y s)
     | _ => none
   | none => none
 | .block id c, s => match ih c s with
   | some (.exit j, s') => cond (Nat.beq j id) (some (.normal, s')) (some (.exit j, s'))
   | r => r
 | .loop c, s => Wj (ih c) 1000000 s
 | .exit id, s => some (.exit id, s)
 | .ret, s => some (.ret, s)
 | _, _ => none
def Ve (P : Program) (G : List (Nat × AVal)) (call : CallF) (draw : Array Oper → St → Option St) : Nat → Code → St → Option (Av × St)
 | 0, _, _ => none
 | n + 1, c, s => Wv P G call draw (Ve P G call draw n) c s
def Ns (P : Program) (s : St) : ResultVar → Option AVal
 | .tmp t => s.env.get t
 | .cell a t => match s.env.get a with
   | some p => match Jk P t with
     | some (n, agg) => Qi n agg s.H p
     | none => none
   | none => none
def Dz (P : Program) (s : St) : List ResultVar → Option (List AVal)
 | [] => some []
 | r :: rs => match Ns P s r with
   | some v => match Dz P s rs with
     | some vs => some (v :: vs)
     | none => none
   | none => none
def Bq : List AVal → AVal
 | [v] => v
 | vs => .tup vs
def F2 : Nat → List AVal → Env → Env
 | _, [], e => e
 | i, v :: r, e => F2 (i + 1) r (Env.put 12 i v e)
def En (k : Nat) : Nat → List AVal → List AVal
 | 0, _ => []
 | m + 1, cs => (cond (Nat.beq k 1) (cond (cs.headD .nilIf).one (cs.headD .nilIf) (.agg (cs.take k))) (.agg (cs.take k))) :: En k m (cs.drop k)
mutual
def frz (H : Hz) (n : Nat) : Nat → AVal → Option AVal
 | 0, _ => none
 | m + 1, v => match v with
   | .agg cs => match Ge H n m cs with
     | some cs' => some (.agg cs')
     | none => none
   | .tup cs => match Ge H n m cs with
     | some cs' => some (.tup cs')
     | none => none
   | .row k es => match Ge H n m es with
     | some es' => some (.row k es')
     | none => none
   | .hsl k id off len cap => cond (Nat.blt id n) (some (.hsl k id off len cap)) (cond (Nat.ble 1 k) (match H[id]? with
     | some (.cells _ cs false) => match Ge H n m (En k len (cs.drop off)) with
       | some es => some (.row k es)
       | none => none
     | some (.cells _ cs true) => cond (Nat.beq off 0 && Nat.beq (len * k) cs.length) (match Ge H n m (En k len cs) with
       | some es => some (.row k es)
       | none => none) none
     | _ => none) none)
   | .ptr id off => cond (Nat.blt id n) (some (.ptr id off)) none
   | .optr id off len => cond (Nat.blt id n) (some (.optr id off len)) none
   | .eptr e off => match frz H n m e with
     | some e' => some (.eptr e' off)
     | none => none
   | .fn f a c => match Ge H n m a with
     | some a' => match Ge H n m c with
       | some c' => some (.fn f a' c')
       | none => none
     | none => none
   | .iface t x => match frz H n m x with
     | some x' => some (.iface t x')
     | none => none
   | v => some v
def Ge (H : Hz) (n : Nat) : Nat → List AVal → Option (List AVal)
 | 0, _ => none
 | _ + 1, [] => some []
 | m + 1, v :: r => match frz H n m v with
   | some v' => match Ge H n m r with
     | some r' => some (v' :: r')
     | none => none
   | none => none
end
mutual
def blw (n : Nat) : AVal → Bool
 | .agg cs => C0 n cs
 | .tup cs => C0 n cs
 | .row _ es => C0 n es
 | .hsl _ id _ _ _ => Nat.blt id n
 | .ptr id _ => Nat.blt id n
 | .optr id _ _ => Nat.blt id n
 | .eptr e _ => blw n e
 | .fn _ a c => cond (C0 n a) (C0 n c) false
 | .iface _ x => blw n x
 | _ => true
def C0 (n : Nat) : List AVal → Bool
 | [] => true
 | v :: r => cond (blw n v) (C0 n r) false
end
def Fg (n : Nat) : Hz → Bool
 | [] => true
 | .cells _ cs _ :: r => cond (C0 n cs) (Fg n r) false
 | _ :: r => Fg n r
def L0 (n : Nat) (v : AVal) (H : Hz) : AVal × Hz :=
 cond (Nat.ble H.length n) (v, H) (cond (Fg n (H.take n)) (match frz H n 100000 v with
  | some v' => (v', H.take n)
  | none => (v, H)) (v, H))
def A3 (P : Program) (W0 : World) (f : FuncId) (args : List AVal) (H : Hz) (v : AVal) (H' : Hz) : Prop :=
 Ix P f ∧ ∀ (F : Nat → Prop) (bs : List Nat) (w : World) (cargs : List Value), Ac W0 F bs H w → A9 F bs H w args cargs →
  Calls P f cargs.toArray w fun e w' => ∃ cv bs', e = .returned cv ∧ Rep F bs' H' w' v cv ∧ Ac W0 F bs' H' w' ∧ Ext bs H w bs' H' w'
section
variable (P : Program) (W0 : World) (G : List (Nat × AVal)) (ops : Array Oper)
def Og (s : St) (dst : Option Nat) (v : AVal) (H : Hz) (K : St → Prop) : Prop :=
 match dst with
 | none => K ⟨s.env, H, s.n⟩
 | some d => (Nat.blt d s.n && Nat.blt d 4094) = true ∧ K ⟨Env.put 12 d v s.env, H, s.n⟩
def Gx (H : Hz) (r : Option ARes) (K : AVal → Hz → Prop) : Prop :=
 match r with
 | some (.val v H' side) => Ae side ∧ K v H'
 | some (.skip H') => K (.tup []) H'
 | some (.call f args) => ∃ v H', A3 P W0 f args H v H' ∧ K v H'
 | none => False
def Gg (o : Oper) (s : St) (K : St → Prop) : Prop :=
 match C9 ops s o.guard with
 | some true => match B3 P o.op with
   | some op => Gx P W0 s.H (aop G s op) fun v H' => Og s o.dst v H' K
   | none => False
 | some false => Og s o.dst (.tup []) s.H K
 | none => False
def Jj : List Oper → St → (St → Prop) → Prop
 | [], s, K => K s
 | o :: r, s, K => Gg P W0 G ops o s fun s' => Jj r s' K
end
section
variable {P : Program} {W0 : World} {G : List (Nat × AVal)} {F : Nat → Prop} {bs : List Nat} {s : St} {a : Act} {w : World} {ops : Array Oper}
theorem RS.put (hs : RS W0 F bs s a w) {bs' : List Nat} {H' : Hz} {w' : World} {v : AVal} {cv : Value} (hv : Rep F bs' H' w' v cv) (hh : Ac W0 F bs' H' w') (he : Ext bs s.H w bs' H' w')
 {dst : Option Tmp} {K : St → Prop} (h : Og s dst v H' K) : ∃ s', K s' ∧ RS W0 F bs' s' (a.put dst cv) w' ∧ s'.H = H' := by
 cases dst with
 | none => exact ⟨_, h, ⟨hh, hs.size, fun t u hu => (hs.env t u hu).ext he⟩, rfl⟩
 | some d =>
   obtain ⟨hd, hk⟩ := h
   have hd : d < s.n ∧ d < 4094 := by simpa [Nat.blt_eq] using hd
   refine ⟨_, hk, ⟨hh, by simp [Act.put, hs.size], fun t u hu => ?_⟩, rfl⟩
   rw [Env.get_put 12 d v s.env t (Nat.add_le_add_right (Nat.le_of_lt hd.2) 2)] at hu
   by_cases htd : t = d
   · subst htd
     rw [if_pos rfl] at hu
     injection hu with hu
     subst hu
     have hget : (a.put (some t) cv).tmps.getD t undef = cv := by
      simp only [Act.put, Array.getD_eq_getD_getElem?]
      rw [Array.getElem?_setIfInBounds_self_of_lt (by rw [hs.size]; exact hd.1)]; rfl
     rw [hget]; exact hv
   · rw [if_neg htd] at hu
     have hget : (a.put (some d) cv).tmps.getD t undef = a.tmps.getD t undef := by
      simp only [Act.put, Array.getD_eq_getD_getElem?]
      rw [Array.getElem?_setIfInBounds_ne (fun e => htd e.symm)]
     rw [hget]
     exact (hs.env t u hu).ext he
theorem R3 (hs : RS W0 F bs s a w) {o : Oper} {b : Bool} (h : C9 ops s o.guard = some b) : Region.wanted o (yielded ops a.tmps) = b := by
 unfold Region.wanted
 cases hg : o.guard with
 | none => rw [hg] at h; simp only [C9, iS] at h; exact h
 | some gw =>
   obtain ⟨j, want⟩ := gw
   rw [hg] at h
   simp only [C9] at h
   cases hd : (ops[j]?).bind (·.dst) with
   | none => rw [hd] at h; cases h
   | some d =>
     rw [hd] at h
     simp only at h
     have hy : yielded ops a.tmps j = match a.tmps[d]? with | some (.bool b) => some b | _ => none := by
      simp only [yielded, hd, Option.bind_some]
      cases a.tmps[d]? with
      | none => rfl
      | some x => cases x <;> rfl
     show (yielded ops a.tmps j == some want) = b
     rw [hy]
     split at h
     · rename_i c hc
       have hr := hs.env d _ hc
       simp only [Rep] at hr
       have ht : a.tmps[d]? = some (.bool c) := by
        cases hx : a.tmps[d]? with
        | none => simp [Array.getD_eq_getD_getElem?, hx, undef] at hr
        | some x => simp [Array.getD_eq_getD_getElem?, hx] at hr; rw [hr]
       rw [ht]
       injection h with h
       subst h
       cases c <;> cases want <;> rfl
     · rename_i hc
       have hr := hs.env d _ hc
       simp only [Rep, A9] at hr
       obtain ⟨vs, hv, rfl⟩ := hr
       injection h with h
       subst h
       cases hx : a.tmps[d]? with
       | none => rfl
       | some x => simp [Array.getD_eq_getD_getElem?, hx] at hv; rw [hv]; rfl
     · cases h
theorem Nq (hg : GOK W0 G) (hs : RS W0 F bs s a w) {o : Oper} {K : St → Prop} (h : Gg P W0 G ops o s K) {next : Act → World → Prop} {Q : Exit → Act → World → Prop}
 (hn : ∀ s' bs' a' w', K s' → RS W0 F bs' s' a' w' → Ext bs s.H w bs' s'.H w' → a'.defers = a.defers → next a' w') :
 if Region.wanted o (yielded ops a.tmps) then o.wp P a w next Q ∨ (o.asks P a w ∧ LetsOut Q) else next (a.put o.dst undef) w := by
 have hput : ∀ (dst : Option Tmp) (v : Value), (a.put dst v).defers = a.defers := fun dst v => by cases dst <;> rfl
 unfold Gg at h
 split at h
 · rename_i hgd
   rw [R3 hs hgd]
   simp only [if_true]
   refine .inl ?_
   split at h
   · rename_i op hop
     cases hr : aop G s op with
     | none => rw [hr] at h; exact h.elim
     | some r =>
       rw [hr] at h
       have hok := A4l (P := P) hg hs hop hr
       cases r with
       | val v H' side =>
         obtain ⟨hsd, hk⟩ := h
         obtain ⟨cv, w', bs', h1, h2, h3, h4⟩ := hok hsd
         obtain ⟨s', hK, hrs, hH⟩ := hs.put h2 h3 h4 hk
         unfold Oper.wp
         rw [h1, Oper.upon_value]
         exact hn s' bs' _ _ hK hrs (hH ▸ h4) (hput _ _)
       | skip H' =>
         obtain ⟨w', bs', h1, h3, h4⟩ := hok
         obtain ⟨s', hK, hrs, hH⟩ := hs.put (v := .tup []) (cv := undef) (by simp only [Rep]; exact ⟨[], rfl, by simp [A9]⟩) h3 h4 h
         unfold Oper.wp
         rw [h1, Oper.upon_skip]
         exact hn s' bs' _ _ hK hrs (hH ▸ h4) (hput _ _)
       | call f args =>
         obtain ⟨v, H', hc, hk⟩ := h
         obtain ⟨cargs, h1, h2⟩ := hok hc.1
         unfold Oper.wp
         rw [h1, Oper.upon_enter]
         refine Calls.mono (hc.2 F bs w cargs hs.heap h2) fun e w' he => ?_
         obtain ⟨cv, bs', rfl, h2', h3, h4⟩ := he
         obtain ⟨s', hK, hrs, hH⟩ := hs.put h2' h3 h4 hk
         exact hn s' bs' _ _ hK hrs (hH ▸ h4) (hput _ _)
   · exact h.elim
 · rename_i hgd
   rw [R3 hs hgd]
   simp only [bFt, if_false]
   obtain ⟨s', hK, hrs, hH⟩ := hs.put (v := .tup []) (cv := undef) (by simp only [Rep]; exact ⟨[], rfl, by simp [A9]⟩) hs.heap (Ext.refl _ _ _) h
   exact hn s' bs _ _ hK hrs (hH ▸ Ext.refl _ _ _) (hput _ _)
 · exact h.elim
theorem Rx (hg : GOK W0 G) : ∀ (l : List Oper) (i : Nat), ops.toList.drop i = l → ∀ {bs : List Nat} {s : St} {a : Act} {w : World}, RS W0 F bs s a w → ∀ {K : St → Prop}, Jj P W0 G ops l s K → ∀ {Q : Exit → Act → World → Prop},
 (∀ s' bs' a' w', K s' → RS W0 F bs' s' a' w' → Ext bs s.H w bs' s'.H w' → a'.defers = a.defers → Q .normal a' w') → wpOps P ops Q (List.range' i l.length) a w
 | [], i, _, bs, s, a, w, hs, K, h, Q, hn => by
   simp only [lNi, List.range'_zero, wpOps]
   exact hn s bs a w h hs (Ext.refl _ _ _) rfl
 | o :: r, i, hd, bs, s, a, w, hs, K, h, Q, hn => by
   have hi : ops[i]? = some o := by
    have h0 := congrArg (fun l => l[0]?) hd
    simp only [List.getElem?_drop, Nat.add_zero, List.getElem?_cons_zero, Array.getElem?_toList] at h0
    exact h0
   have hr : ops.toList.drop (i + 1) = r := by
    have := congrArg (List.drop 1) hd
    simpa [List.drop_drop] using this
   simp only [lCo, List.range'_succ, wpOps, hi]
   simp only [Jj] at h
   refine Nq hg hs h fun s' bs' a' w' hk hrs hext hdf => ?_
   exact Rx hg r (i + 1) hr hrs hk fun s'' bs'' a'' w'' h1 h2 h3 h4 => hn s'' bs'' a'' w'' h1 h2 (hext.trans h3) (h4.trans hdf)
end
def convE : Av → Exit
 | .normal => .normal
 | .exit id => .exit id
 | .ret => .ret
def Ex (P : Program) (W0 : World) (c : Code) (s : St) (K : Av → St → Prop) : Prop :=
 ∀ (F : Nat → Prop) (bs : List Nat) (a : Act) (w : World), RS W0 F bs s a w → ∀ Q : Exit → Act → World → Prop,
  (∀ e s' bs' a' w', K e s' → RS W0 F bs' s' a' w' → Ext bs s.H w bs' s'.H w' → a'.defers = a.defers → Q (convE e) a' w') → c.wp P Q a w
abbrev Av.then (e : Av) (s : St) (next : St → Prop) (K : Av → St → Prop) : Prop :=
 match e with
 | .normal => next s
 | e => K e s
abbrev Av.inBlock (id : Nat) (K : Av → St → Prop) (e : Av) (s : St) : Prop :=
 match e with
 | .exit j => cond (Nat.beq j id) (K .normal s) (K (.exit j) s)
 | e => K e s
theorem Jh {P : Program} {c : Code} {Q : Exit → Act → World → Prop} {σ : Type} (R : σ → Act → World → Prop) (μ : σ → Nat) {s : σ} {a : Act} {w : World} (h₀ : R s a w)
 (round : ∀ s a w, R s a w → c.wp P (Exit.then (fun a' w' => ∃ s', R s' a' w' ∧ μ s' < μ s) Q) a w) : (Code.loop c).wp P Q a w := by
 intro b k cs
 have key : ∀ n s a w, μ s = n → R s a w →
  ∃ e a' w', Q e a' w' ∧ Arrives P (lone (b.at a (.code c :: .inLoop c :: k)) cs w) b k cs e a' w' := by
  intro n
  induction n using Nat.strongRecOn with
  | _ n ih =>
    intro s a w hn hI
    obtain ⟨e, a₁, w₁, hq, harr⟩ := round s a w hI b (.inLoop c :: k) cs
    cases e with
    | normal =>
      obtain ⟨s₁, hI₁, hlt⟩ := hq
      obtain ⟨e₂, a₂, w₂, hq₂, harr₂⟩ := ih (μ s₁) (hn ▸ hlt) s₁ a₁ w₁ rfl hI₁
      exact ⟨e₂, a₂, w₂, hq₂, .of_steps (Steps.trans harr (.one step_inLoop)) harr₂⟩
    | exit id => exact ⟨_, a₁, w₁, hq, .pass (x := .inLoop c) rfl (fun _ _ => .inl (by simp)) harr⟩
    | goto l => exact ⟨_, a₁, w₁, hq, .pass (x := .inLoop c) rfl (fun _ _ => .inl (by simp)) harr⟩
    | ret => exact ⟨_, a₁, w₁, hq, .pass (x := .inLoop c) rfl (fun _ _ => .inl (by simp)) harr⟩
    | panic ch => exact ⟨_, a₁, w₁, hq, .pass (x := .inLoop c) rfl (fun _ _ => .inl (by simp)) harr⟩
    | outgrown => exact ⟨_, a₁, w₁, hq, .pass (x := .inLoop c) rfl (fun _ _ => .inl (by simp)) harr⟩
 obtain ⟨e, a', w', hq, harr⟩ := key _ s a w rfl h₀
 exact ⟨e, a', w', hq, .of_steps (.one step_loop) harr⟩
section
variable {P : Program} {W0 : World} {G : List (Nat × AVal)} {s : St} {K : Av → St → Prop}
theorem Ex.mono {c : Code} {K' : Av → St → Prop} (h : Ex P W0 c s K) (hk : ∀ e s', K e s' → K' e s') : Ex P W0 c s K' :=
 fun F bs a w hs Q hq => h F bs a w hs Q fun e s' bs' a' w' k => hq e s' bs' a' w' (hk e s' k)
theorem Ex.skip (h : K .normal s) : Ex P W0 .skip s K := fun _ bs a w hs _ hq => wp_skip (hq .normal s bs a w h hs (Ext.refl _ _ _) rfl)
theorem Ex.exit {id : Nat} (h : K (.exit id) s) : Ex P W0 (.exit id) s K := fun _ bs a w hs _ hq => wp_exit (hq (.exit id) s bs a w h hs (Ext.refl _ _ _) rfl)
theorem Ex.ret (h : K .ret s) : Ex P W0 .ret s K := fun _ bs a w hs _ hq => wp_ret (hq .ret s bs a w h hs (Ext.refl _ _ _) rfl)
theorem Ex.region (hg : GOK W0 G) {id : Nat} {ops : Array Oper} (h : Jj P W0 G ops ops.toList s (K .normal)) : Ex P W0 (.region id ops false) s K :=
 fun _ bs a w hs Q hq => wp_region (by
  have := Rx (P := P) hg ops.toList 0 (by simp) hs h (Q := Q) fun s' bs' a' w' hk => hq .normal s' bs' a' w' hk
  simpa [List.range_eq_range'] using this)
theorem Ex.seq {x y : Code} (h : Ex P W0 x s fun e s' => e.then s' (fun s' => Ex P W0 y s' K) K) : Ex P W0 (.seq x y) s K :=
 fun F bs a w hs Q hq => wp_seq (h F bs a w hs _ fun e s' bs' a' w' hk hrs hext hd => by
  cases e with
  | normal => exact hk F bs' a' w' hrs Q fun e2 s2 bs2 a2 w2 h1 h2 h3 h4 => hq e2 s2 bs2 a2 w2 h1 h2 (hext.trans h3) (h4.trans hd)
  | exit id => exact hq (.exit id) s' bs' a' w' hk hrs hext hd
  | ret => exact hq .ret s' bs' a' w' hk hrs hext hd)
theorem Ex.cond (hg : GOK W0 G) {c : Operand} {c' : AOpd} {x y : Code} {b : Bool} (hc : Ah c = some c') (hv : ev G s c' = some (.bool b)) (ht : b = true → Ex P W0 x s K) (hf : b = false → Ex P W0 y s K) :
 Ex P W0 (.cond c x y) s K :=
 fun F bs a w hs Q hq => wp_cond_split (t := b) (by have := Bg hg hs hc hv; simpa only [Rep] using this) (fun h => ht h F bs a w hs Q hq) (fun h => hf h F bs a w hs Q hq)
theorem Ex.block {id : Nat} {c : Code} (h : Ex P W0 c s (Av.inBlock id K)) : Ex P W0 (.block id c) s K :=
 fun F bs a w hs Q hq => wp_block (h F bs a w hs _ fun e s' bs' a' w' hk hrs hext hd => by
  cases e with
  | normal => exact hq .normal s' bs' a' w' hk hrs hext hd
  | ret => exact hq .ret s' bs' a' w' hk hrs hext hd
  | exit j =>
    simp only [Av.inBlock] at hk
    show if j = id then Q .normal a' w' else Q (.exit j) a' w'
    cases hj : Nat.beq j id with
    | true =>
      rw [hj] at hk
      rw [if_pos (nBq hj)]
      exact hq .normal s' bs' a' w' hk hrs hext hd
    | false =>
      rw [hj] at hk
      rw [if_neg (Nat.ne_of_beq_eq_false hj)]
      exact hq (.exit j) s' bs' a' w' hk hrs hext hd)
theorem Ex.loop {c : Code} {σ : Type} (I : σ → St → Prop) (μ : σ → Nat) {i : σ} (h0 : I i s)
 (round : ∀ i s, I i s → Ex P W0 c s fun e s' => e.then s' (fun s' => ∃ j, I j s' ∧ μ j < μ i) K) : Ex P W0 (.loop c) s K :=
 fun F bs a w hs Q hq => by
  refine Jh (σ := σ) (fun i a' w' => ∃ s' bs', I i s' ∧ RS W0 F bs' s' a' w' ∧ Ext bs s.H w bs' s'.H w' ∧ a'.defers = a.defers) μ (s := i) ⟨s, bs, h0, hs, Ext.refl _ _ _, rfl⟩ ?_
  rintro i a1 w1 ⟨s1, bs1, hi, hrs1, hext1, hd1⟩
  refine round i s1 hi F bs1 a1 w1 hrs1 _ fun e s' bs' a' w' hk hrs hext hd => ?_
  cases e with
  | normal =>
    obtain ⟨j, hj, hlt⟩ := hk
    exact ⟨j, ⟨s', bs', hj, hrs, hext1.trans hext, hd.trans hd1⟩, hlt⟩
  | exit id => exact hq (.exit id) s' bs' a' w' hk hrs (hext1.trans hext) (hd.trans hd1)
  | ret => exact hq .ret s' bs' a' w' hk hrs (hext1.trans hext) (hd.trans hd1)
def Eg (P : Program) (W0 : World) (call : CallF) : Prop := ∀ f args H v H', call f args H = some (v, H') → A3 P W0 f args H v H'
theorem leB_le {p : Int × Int} (h : leB p = true) : p.1 ≤ p.2 := by simpa [leB] using h
theorem Nr : ∀ {l : List (Int × Int)}, Ky l = true → Ae l
 | [], _ => trivial
 | p :: r, h => by
   simp only [Ky] at h
   cases hp : leB p with
   | false => rw [hp] at h; cases h
   | true => rw [hp] at h; exact ⟨leB_le hp, Nr h⟩
theorem St.put_putP {s s' : St} {dst : Option Nat} {v : AVal} {H : Hz} {K : St → Prop} (h : s.put dst v H = some s') (hk : K s') : Og s dst v H K := by
 cases dst with
 | none => simp only [St.put, iS] at h; subst h; exact hk
 | some d =>
   simp only [St.put] at h
   cases hd : (Nat.blt d s.n && Nat.blt d 4094) with
   | false => rw [hd] at h; cases h
   | true => rw [hd, cond_true, iS] at h; subst h; exact ⟨hd, hk⟩
theorem Zl {call : CallF} (hc : Eg P W0 call) {ops : Array Oper} {o : Oper} {s s' : St} (h : Z6 P G call ops o s = some s') {K : St → Prop} (hk : K s') : Gg P W0 G ops o s K := by
 unfold Z6 at h
 unfold Gg
 cases hgd : C9 ops s o.guard with
 | none => rw [hgd] at h; cases h
 | some b =>
   rw [hgd] at h
   cases b with
   | false => exact St.put_putP h hk
   | true =>
     simp only at h ⊢
     cases hop : B3 P o.op with
     | none => rw [hop] at h; cases h
     | some op =>
       rw [hop] at h
       simp only at h ⊢
       cases hr : aop G s op with
       | none => rw [hr] at h; cases h
       | some r =>
         rw [hr] at h
         cases r with
         | val v H' side =>
           simp only [Wc] at h
           cases hsd : Ky side with
           | false => rw [hsd] at h; cases h
           | true => rw [hsd] at h; exact ⟨Nr hsd, St.put_putP h hk⟩
         | skip H' => exact St.put_putP h hk
         | call f args =>
           simp only [Wc] at h
           cases hcr : call f args s.H with
           | none => rw [hcr] at h; cases h
           | some p =>
             obtain ⟨v, H'⟩ := p
             rw [hcr] at h
             exact ⟨v, H', hc _ _ _ _ _ hcr, St.put_putP h hk⟩
theorem Wb {call : CallF} (hc : Eg P W0 call) {ops : Array Oper} : ∀ {l : List Oper} {s s' : St}, R1 P G call ops l s = some s' → ∀ {K : St → Prop}, K s' → Jj P W0 G ops l s K
 | [], s, s', h, K, hk => by simp only [R1, iS] at h; subst h; exact hk
 | o :: r, s, s', h, K, hk => by
   simp only [R1] at h
   split at h
   · rename_i s1 h1
     exact Zl hc h1 (Wb hc h hk)
   · cases h
def X8 (P : Program) (W0 : World) (draw : Array Oper → St → Option St) : Prop := ∀ id ops s s', draw ops s = some s' → ∀ K : Av → St → Prop, K .normal s' → Ex P W0 (.region id ops true) s K
theorem A4p {c : Code} {body : St → Option (Av × St)} (hb : ∀ s e s', body s = some (e, s') → Ex P W0 c s fun e1 s1 => e1 = e ∧ s1 = s') {n : Nat} {s : St} {e : Av} {s' : St} (h : Wj body n s = some (e, s')) :
 Ex P W0 (.loop c) s fun e1 s1 => e1 = e ∧ s1 = s' := by
 refine Ex.loop (σ := Nat) (fun n s => Wj body n s = some (e, s')) id (i := n) h ?_
 intro n s h
 cases n with
 | zero => cases h
 | succ n =>
   simp only [Wj] at h
   split at h
   · rename_i s1 h1
     refine (hb _ _ _ h1).mono ?_
     rintro e2 s2 ⟨rfl, rfl⟩
     exact ⟨n, h, Nat.lt_succ_self n⟩
   · rename_i hne
     refine (hb _ _ _ h).mono ?_
     rintro e2 s2 ⟨rfl, rfl⟩
     cases e2 with
     | normal => exact absurd h (hne s2)
     | exit id => exact ⟨rfl, rfl⟩
     | ret => exact ⟨rfl, rfl⟩
theorem M6 (hg : GOK W0 G) {call : CallF} (hc : Eg P W0 call) {draw : Array Oper → St → Option St} (hdr : X8 P W0 draw) : ∀ (n : Nat) {c : Code} {s : St} {e : Av} {s' : St}, Ve P G call draw n c s = some (e, s') →
 Ex P W0 c s fun e1 s1 => e1 = e ∧ s1 = s'
 | 0, _, _, _, _, h => by cases h
 | n + 1, c, s, e, s', h => by
   have ih := @M6 hg call hc draw hdr n
   simp only [Ve] at h
   cases c <;> simp only [Wv] at h <;> try (cases h; done)
   case skip => injection h with h; injection h with h1 h2; subst h1; subst h2; exact Ex.skip ⟨rfl, rfl⟩
   case exit id => injection h with h; injection h with h1 h2; subst h1; subst h2; exact Ex.exit ⟨rfl, rfl⟩
   case ret => injection h with h; injection h with h1 h2; subst h1; subst h2; exact Ex.ret ⟨rfl, rfl⟩
   case region id ops d =>
    split at h
    · rename_i s1 h1
      injection h with h; injection h with h2 h3; subst h2; subst h3
      cases d with
      | true => exact hdr id ops s s1 h1 _ ⟨rfl, rfl⟩
      | false => exact Ex.region hg (Wb hc h1 ⟨rfl, rfl⟩)
    · cases h
   case seq x y =>
    split at h
    · rename_i s1 h1
      refine Ex.seq ((ih h1).mono ?_)
      rintro e2 s2 ⟨rfl, rfl⟩
      exact ih h
    · rename_i hne
      refine Ex.seq ((ih h).mono ?_)
      rintro e2 s2 ⟨rfl, rfl⟩
      cases e2 with
      | normal => exact absurd h (hne s2)
      | exit id => exact ⟨rfl, rfl⟩
      | ret => exact ⟨rfl, rfl⟩
   case cond c x y =>
    split at h
    · rename_i c' hc'
      split at h
      · rename_i b hb
        refine Ex.cond hg hc' hb ?_ ?_
        · rintro rfl; exact ih h
        · rintro rfl; exact ih h
      · cases h
    · cases h
   case block id c =>
    split at h
    · rename_i j s1 h1
      refine Ex.block ((ih h1).mono ?_)
      rintro e2 s2 ⟨rfl, rfl⟩
      simp only [Av.inBlock]
      cases hj : Nat.beq j id with
      | true => rw [hj] at h; injection h with h; injection h with h2 h3; exact ⟨h2, h3⟩
      | false => rw [hj] at h; injection h with h; injection h with h2 h3; exact ⟨h2, h3⟩
    · rename_i hne
      refine Ex.block ((ih h).mono ?_)
      rintro e2 s2 ⟨rfl, rfl⟩
      cases e2 with
      | normal => exact ⟨rfl, rfl⟩
      | exit id => exact absurd h (hne id s2)
      | ret => exact ⟨rfl, rfl⟩
   case loop c => exact A4p (fun s e s' h => ih h) h
end
end Go.Abs
namespace Go.Abs
open Go.RowKit
variable {F : Nat → Prop}
def Fh (k : Nat) : Nat → List Value → List AVal → List Value
 | 0, _, _ => []
 | m + 1, vs, cs => (cond (Nat.beq k 1 && (cs.headD .nilIf).one) (vs.headD undef) (.agg (vs.take k).toArray)) :: Fh k m (vs.drop k) (cs.drop k)
section
variable {bs : List Nat} {H : Hz} {w : World}
theorem Rh {k : Nat} (hk : 1 ≤ k) : ∀ {m : Nat} {cs : List AVal} {vs : List Value}, A9 F bs H w cs vs → m * k ≤ cs.length →
 A9 F bs H w (En k m cs) (Fh k m vs cs) ∧ (∀ u ∈ Fh k m vs cs, u.cells.size = k) ∧ flat (Fh k m vs cs) = vs.take (m * k) ∧ (Fh k m vs cs).length = m ∧ (En k m cs).length = m
 | 0, cs, vs, h, hl => by simp [En, Fh, A9, flat]
 | m + 1, cs, vs, h, hl => by
   have hlen := h.length
   have hmk : (m + 1) * k = k + m * k := by rw [Nat.add_mul, Nat.one_mul, Nat.add_comm]
   have hkl : k ≤ cs.length := by omega
   obtain ⟨h1, h2, h3, h4, h5⟩ := Rh (m := m) hk (h.drop k) (by simp; omega)
   have htl : (vs.take k).length = k := by simp; omega
   have key : ∃ x : AVal, ∃ u : Value, (En k (m + 1) cs = x :: En k m (cs.drop k)) ∧ (Fh k (m + 1) vs cs = u :: Fh k m (vs.drop k) (cs.drop k)) ∧ Rep F bs H w x u ∧ u.cells.size = k ∧ u.cells.toList = vs.take k := by
    have hagg : Rep F bs H w (.agg (cs.take k)) (.agg (vs.take k).toArray) ∧ (Value.agg (vs.take k).toArray).cells.size = k ∧ (Value.agg (vs.take k).toArray).cells.toList = vs.take k := by
     refine ⟨by simp only [Rep]; exact ⟨_, rfl, h.take k⟩, ?_, ?_⟩
     · simp only [Value.cells]; simpa using htl
     · simp only [Value.cells]
    cases hk1 : Nat.beq k 1 with
    | false => exact ⟨_, _, by simp only [En, hk1, cond_false], by simp only [Fh, hk1, Bool.false_and, cond_false], hagg⟩
    | true =>
      have := nBq hk1; subst this
      cases cs with
      | nil => simp at hkl
      | cons c cs =>
        simp only [A9] at h
        obtain ⟨u, us, rfl, hu, hus⟩ := h
        cases h1 : c.one with
        | false => exact ⟨_, _, by simp only [En, hk1, cond_true, List.headD_cons, h1, cond_false], by simp only [Fh, hk1, Bool.true_and, List.headD_cons, h1, cond_false], hagg⟩
        | true =>
          have ho := hu.one h1
          have hc : u.cells.toList = [u] := by cases u <;> simp_all [Value.cells, Value.oneCell']
          exact ⟨c, u, by simp only [En, hk1, cond_true, List.headD_cons, h1, cond_true], by simp only [Fh, hk1, Bool.true_and, List.headD_cons, h1, cond_true], hu, by rw [← Array.length_toList, hc]; rfl, by rw [hc]; simp⟩
   obtain ⟨x, u, e1, e2, hx, hsz, hcl⟩ := key
   rw [e1, e2]
   refine ⟨by simp only [A9]; exact ⟨_, _, rfl, hx, h1⟩, fun v hv => ?_, ?_, by simp [h4], by simp [h5]⟩
   · rcases List.mem_cons.1 hv with rfl | hv
     · exact hsz
     · exact h2 v hv
   · simp only [flat, List.flatMap_cons] at h3 ⊢
     rw [h3, hcl, hmk, List.take_add]
theorem D8.take {n : Nat} {k id off len : Nat} {cap : Option Nat} {v : Value} (hid : id < n) (h : D8 bs H w k id off len cap v) : D8 (bs.take n) (H.take n) w k id off len cap v := by
 unfold D8 at h ⊢
 rw [List.getElem?_take_of_lt hid, List.getElem?_take_of_lt hid]
 exact h
theorem Ey.take {n : Nat} {id off : Nat} {v : Value} (hid : id < n) (h : Ey bs H id off v) : Ey (bs.take n) (H.take n) id off v := by
 unfold Ey at h ⊢
 rw [List.getElem?_take_of_lt hid, List.getElem?_take_of_lt hid]
 exact h
theorem E8.take {n : Nat} {id off len : Nat} {v : Value} (hid : id < n) (h : E8 bs H id off len v) : E8 (bs.take n) (H.take n) id off len v := by
 unfold E8 at h ⊢
 rw [List.getElem?_take_of_lt hid, List.getElem?_take_of_lt hid]
 exact h
theorem Fp.takeB {n : Nat} {a : Option Addr} {vs : List Value} {cap : Nat} (h : Fp F bs w a vs cap) : Fp F (bs.take n) w a vs cap := by
 cases a with
 | none => exact h
 | some a =>
   obtain ⟨h1, h2, h3⟩ := h
   exact ⟨h1, h2, fun j u hj => ⟨⟨fun hm => (h3 j u hj).1.1 (List.mem_of_mem_take hm), (h3 j u hj).1.2⟩, (h3 j u hj).2⟩⟩
mutual
theorem Uc {n : Nat} : ∀ (a : AVal) (v : Value), Rep F bs H w a v → blw n a = true → Rep F (bs.take n) (H.take n) w a v
 | .bool _, _, hr, _ | .int _ _, _, hr, _ | .str _, _, hr, _ | .nilSl, _, hr, _ | .emp, _, hr, _ | .nilPtr, _, hr, _ | .nilFn, _, hr, _ | .nilIf, _, hr, _ => by simpa only [Rep] using hr
 | .agg cs, _, hr, hb => by
   simp only [Rep] at hr ⊢
   obtain ⟨vs, hv, hl⟩ := hr
   exact ⟨vs, hv, Hn cs vs hl (by simpa only [blw] using hb)⟩
 | .tup cs, _, hr, hb => by
   simp only [Rep] at hr ⊢
   obtain ⟨vs, hv, hl⟩ := hr
   exact ⟨vs, hv, Hn cs vs hl (by simpa only [blw] using hb)⟩
 | .row k es, _, hr, hb => by
   simp only [Rep] at hr ⊢
   obtain ⟨a, cap, vs, hv, hl, hk, hrow⟩ := hr
   exact ⟨a, cap, vs, hv, Hn es vs hl (by simpa only [blw] using hb), hk, hrow.takeB⟩
 | .hsl k id off len cap, _, hr, hb => by
   simp only [Rep] at hr ⊢
   simp only [blw, Nat.blt_eq] at hb
   exact ⟨hr.1, hr.2.take hb⟩
 | .ptr id off, _, hr, hb => by
   simp only [Rep] at hr ⊢
   simp only [blw, Nat.blt_eq] at hb
   exact ⟨hr.1, hr.2.take hb⟩
 | .optr id off len, _, hr, hb => by
   simp only [Rep] at hr ⊢
   simp only [blw, Nat.blt_eq] at hb
   exact ⟨hr.1, hr.2.take hb⟩
 | .eptr e off, _, hr, hb => by
   simp only [Rep] at hr ⊢
   obtain ⟨b, base, u, hv, he, ⟨h1, h2⟩, h3⟩ := hr
   exact ⟨b, base, u, hv, Uc e u he (by simpa only [blw] using hb), ⟨fun hm => h1 (List.mem_of_mem_take hm), h2⟩, h3⟩
 | .fn f first cap, _, hr, hb => by
   simp only [Rep] at hr ⊢
   obtain ⟨fs, cs, hv, h1, h2⟩ := hr
   simp only [blw] at hb
   cases hf : C0 n first with
   | false => rw [hf] at hb; cases hb
   | true => rw [hf] at hb; exact ⟨fs, cs, hv, Hn first fs h1 hf, Hn cap cs h2 hb⟩
 | .iface t x, _, hr, hb => by
   simp only [Rep] at hr ⊢
   obtain ⟨u, hv, hx⟩ := hr
   exact ⟨u, hv, Uc x u hx (by simpa only [blw] using hb)⟩
theorem Hn {n : Nat} : ∀ (as : List AVal) (vs : List Value), A9 F bs H w as vs → C0 n as = true → A9 F (bs.take n) (H.take n) w as vs
 | [], _, hr, _ => by simpa only [A9] using hr
 | a :: as, _, hr, hb => by
   simp only [A9] at hr ⊢
   obtain ⟨u, us, hv, h1, h2⟩ := hr
   simp only [C0] at hb
   cases ha : blw n a with
   | false => rw [ha] at hb; cases hb
   | true => rw [ha] at hb; exact ⟨u, us, hv, Uc a u h1 ha, Hn as us h2 hb⟩
end
theorem P7 {b : Nat} {T : TypeId} {vs rest : List Value} {fr : Nat × Nat} (h : w.heap[b]? = some (.cells (vs ++ rest).toArray T fr)) {j : Nat} {u : Value} (hu : vs[j]? = some u) : w.cell? ⟨b, j, none⟩ = some u := by
 rw [cell_of_row w b j _ T fr h, List.getElem?_toArray, List.getElem?_append_left (List.getElem?_eq_some_iff.1 hu).1]; exact hu
mutual
theorem Ol {W0 : World} (hh : Ac W0 F bs H w) {n : Nat} : ∀ (m : Nat) (a : AVal) (v : Value) (a' : AVal), Rep F bs H w a v → frz H n m a = some a' → Rep F (bs.take n) (H.take n) w a' v
 | 0, _, _, _, _, h => by cases h
 | m + 1, a, v, a', hr, h => by
   cases a with
   | agg cs =>
     simp only [frz] at h
     cases hc : Ge H n m cs with
     | none => rw [hc] at h; cases h
     | some cs' =>
       rw [hc] at h; injection h with h; subst h
       simp only [Rep] at hr ⊢
       obtain ⟨vs, hv, hl⟩ := hr
       exact ⟨vs, hv, (Ip hh m cs vs cs' hl hc).1⟩
   | tup cs =>
     simp only [frz] at h
     cases hc : Ge H n m cs with
     | none => rw [hc] at h; cases h
     | some cs' =>
       rw [hc] at h; injection h with h; subst h
       simp only [Rep] at hr ⊢
       obtain ⟨vs, hv, hl⟩ := hr
       exact ⟨vs, hv, (Ip hh m cs vs cs' hl hc).1⟩
   | row k es =>
     simp only [frz] at h
     cases hc : Ge H n m es with
     | none => rw [hc] at h; cases h
     | some es' =>
       rw [hc] at h; injection h with h; subst h
       simp only [Rep] at hr ⊢
       obtain ⟨x, cap, vs, hv, hl, hk, hrow⟩ := hr
       obtain ⟨h1, h2⟩ := Ip hh m es vs es' hl hc
       exact ⟨x, cap, vs, by rw [h2]; exact hv, h1, hk, hrow.takeB⟩
   | hsl k id off len cap =>
     simp only [frz] at h
     cases hid : Nat.blt id n with
     | true =>
       rw [hid, cond_true] at h; injection h with h; subst h
       simp only [Nat.blt_eq] at hid
       simp only [Rep] at hr ⊢
       exact ⟨hr.1, hr.2.take hid⟩
     | false =>
       rw [hid, cond_false] at h
       cases hk : Nat.ble 1 k with
       | false => rw [hk] at h; cases h
       | true =>
         rw [hk, cond_true] at h
         have hk' := Nat.le_of_ble_eq_true hk
         have hid' : n ≤ id := by
          rcases Nat.lt_or_ge id n with h' | h'
          · have : Nat.blt id n = true := by simpa [Nat.blt_eq] using h'
            rw [this] at hid; cases hid
          · exact h'
         simp only [Rep] at hr
         obtain ⟨_, hr⟩ := hr
         unfold D8 at hr
         have fin : ∀ (T : TypeId) (cs : List AVal) (op : Bool) (b c : Nat), H[id]? = some (.cells T cs op) → bs[id]? = some b → v = .slice (some ⟨b, off, none⟩) len c → len ≤ c → off + len * k ≤ cs.length →
          ∀ es, Ge H n m (En k len (cs.drop off)) = some es → Rep F (bs.take n) (H.take n) w (.row k es) v := by
          intro T cs op b c ho hb hv hlc hle es hes
          have hob : ∃ (vs rest : List Value) (fr : Nat × Nat), w.heap[b]? = some (.cells (vs ++ rest).toArray T fr) ∧ A9 F bs H w cs vs := by
           have := hh.obj id _ b ho hb
           cases op with
           | false => obtain ⟨vs, rest, fr, h1, h2, _⟩ := this; exact ⟨vs, rest, fr, h1, h2⟩
           | true => obtain ⟨vs, rest, h1, h2⟩ := this; exact ⟨vs, rest, (0, 0), h1, h2⟩
          obtain ⟨vs, rest, fr, h1, h2⟩ := hob
          obtain ⟨c1, c2, c3, c4, c5⟩ := Rh (m := len) hk' (h2.drop off) (by simp; omega)
          obtain ⟨e1, e2⟩ := Ip hh m _ _ es c1 hes
          simp only [Rep]
          refine ⟨some ⟨b, off, none⟩, c, _, by rw [e2, c5]; exact hv, e1, c2, rfl, by rw [c4]; exact hlc, fun j u hj => ⟨⟨fun hm => ?_, fun hF => ?_⟩, ?_⟩⟩
          · obtain ⟨i, hi, he⟩ := List.mem_iff_getElem.1 hm
            have : bs[i]? = some b := by
             rw [List.getElem_take] at he
             rw [gSi]
             exact ⟨by simp at hi; omega, he⟩
            have hi' : i < n := by simp at hi; omega
            have := F7 hh.nodup this hb
            omega
          · exact (hh.forb b hF).2.2 (mGe hb)
          · rw [c3, List.getElem?_take] at hj
            split at hj
            · rw [List.getElem?_drop] at hj
              exact P7 h1 hj
            · cases hj
         split at h
         · rename_i T cs ho
           rw [ho] at hr
           obtain ⟨hle, hr⟩ := hr
           obtain ⟨b, c, hb, hv, hlc, _, _⟩ := hr (by simp)
           split at h
           · rename_i es hes
             injection h with h; subst h
             exact fin T cs false b c ho hb hv hlc hle es hes
           · cases h
         · rename_i T cs ho
           rw [ho] at hr
           obtain ⟨hle, hr⟩ := hr
           cases hcnd : (Nat.beq off 0 && Nat.beq (len * k) cs.length) with
           | false => rw [hcnd] at h; cases h
           | true =>
             rw [hcnd, cond_true] at h
             simp only [bAt] at hcnd
             have hcnd : off = 0 ∧ len * k = cs.length := ⟨nBq hcnd.1, nBq hcnd.2⟩
             obtain ⟨b, c, hb, hv, hlc, _, _⟩ := hr (fun _ => hcnd)
             split at h
             · rename_i es hes
               injection h with h; subst h
               exact fin T cs true b c ho hb hv hlc hle es (by rw [hcnd.1, List.drop_zero]; exact hes)
             · cases h
         · cases h
   | ptr id off =>
     simp only [frz] at h
     cases hid : Nat.blt id n with
     | false => rw [hid] at h; cases h
     | true =>
       rw [hid, cond_true] at h; injection h with h; subst h
       simp only [Nat.blt_eq] at hid
       simp only [Rep] at hr ⊢
       exact ⟨hr.1, hr.2.take hid⟩
   | optr id off len =>
     simp only [frz] at h
     cases hid : Nat.blt id n with
     | false => rw [hid] at h; cases h
     | true =>
       rw [hid, cond_true] at h; injection h with h; subst h
       simp only [Nat.blt_eq] at hid
       simp only [Rep] at hr ⊢
       exact ⟨hr.1, hr.2.take hid⟩
   | eptr e off =>
     simp only [frz] at h
     cases hc : frz H n m e with
     | none => rw [hc] at h; cases h
     | some e' =>
       rw [hc] at h; injection h with h; subst h
       simp only [Rep] at hr ⊢
       obtain ⟨b, base, u, hv, he, ⟨h1, h2⟩, h3⟩ := hr
       exact ⟨b, base, u, hv, Ol hh m e u e' he hc, ⟨fun hm => h1 (List.mem_of_mem_take hm), h2⟩, h3⟩
   | fn f first cap =>
     simp only [frz] at h
     cases hc : Ge H n m first with
     | none => rw [hc] at h; cases h
     | some a1 =>
       rw [hc] at h
       simp only at h
       cases hc2 : Ge H n m cap with
       | none => rw [hc2] at h; cases h
       | some c1 =>
         rw [hc2] at h; injection h with h; subst h
         simp only [Rep] at hr ⊢
         obtain ⟨fs, cs, hv, h1, h2⟩ := hr
         exact ⟨fs, cs, hv, (Ip hh m first fs a1 h1 hc).1, (Ip hh m cap cs c1 h2 hc2).1⟩
   | iface t x =>
     simp only [frz] at h
     cases hc : frz H n m x with
     | none => rw [hc] at h; cases h
     | some x' =>
       rw [hc] at h; injection h with h; subst h
       simp only [Rep] at hr ⊢
       obtain ⟨u, hv, hx⟩ := hr
       exact ⟨u, hv, Ol hh m x u x' hx hc⟩
   | _ => simp only [frz] at h; injection h with h; subst h; simpa only [Rep] using hr
theorem Ip {W0 : World} (hh : Ac W0 F bs H w) {n : Nat} : ∀ (m : Nat) (as : List AVal) (vs : List Value) (as' : List AVal), A9 F bs H w as vs → Ge H n m as = some as' → A9 F (bs.take n) (H.take n) w as' vs ∧ as'.length = as.length
 | 0, _, _, _, _, h => by simp only [Ge] at h; cases h
 | m + 1, [], vs, as', hr, h => by
   simp only [Ge] at h; injection h with h; subst h
   exact ⟨by simpa only [A9] using hr, rfl⟩
 | m + 1, a :: as, vs, as', hr, h => by
   simp only [Ge] at h
   cases hc : frz H n m a with
   | none => rw [hc] at h; cases h
   | some a1 =>
     rw [hc] at h
     simp only at h
     cases hc2 : Ge H n m as with
     | none => rw [hc2] at h; cases h
     | some as1 =>
       rw [hc2] at h; injection h with h; subst h
       simp only [A9] at hr
       obtain ⟨u, us, rfl, h1, h2⟩ := hr
       obtain ⟨h3, h4⟩ := Ip hh m as us as1 h2 hc2
       refine ⟨?_, by simp [h4]⟩
       simp only [A9]
       exact ⟨u, us, rfl, Ol hh m a u a1 h1 hc, h3⟩
end
theorem Qf {n : Nat} : ∀ {l : Hz} {i : Nat} {T : TypeId} {cs : List AVal} {op : Bool}, Fg n l = true → l[i]? = some (.cells T cs op) → C0 n cs = true
 | [], i, _, _, _, _, h => by simp at h
 | o :: r, 0, T, cs, op, hb, h => by
   simp at h; subst h
   simp only [Fg] at hb
   cases hc : C0 n cs with
   | true => rfl
   | false => rw [hc] at hb; cases hb
 | o :: r, i + 1, T, cs, op, hb, h => by
   have hr : Fg n r = true := by
    cases o with
    | cells T' cs' op' =>
      simp only [Fg] at hb
      cases hc : C0 n cs' with
      | true => rw [hc] at hb; exact hb
      | false => rw [hc] at hb; cases hb
    | iter s p => exact hb
    | dead => exact hb
   exact Qf hr (by simpa using h)
theorem Ac.take {W0 : World} (hh : Ac W0 F bs H w) {n : Nat} (hb : Fg n (H.take n) = true) : Ac W0 F (bs.take n) (H.take n) w := by
 refine ⟨by simp [hh.len], hh.base, fun b hm => hh.low b (List.mem_of_mem_take hm), hh.nodup.sublist (List.take_sublist n bs), fun b hF => ?_, fun i o b hi hbi => ?_⟩
 · obtain ⟨h1, h2, h3⟩ := hh.forb b hF
   exact ⟨h1, h2, fun hm => h3 (List.mem_of_mem_take hm)⟩
 · have hin : i < n := by
    have := (List.getElem?_eq_some_iff.1 hi).1
    simp at this; omega
   have hi' := hi
   rw [List.getElem?_take_of_lt hin] at hi hbi
   have := hh.obj i o b hi hbi
   cases o with
   | dead => trivial
   | iter s p => exact this
   | cells T cs op =>
     have hcs := Qf hb hi'
     cases op with
     | false => obtain ⟨vs, rest, fr, h1, h2, h3⟩ := this; exact ⟨vs, rest, fr, h1, Hn cs vs h2 hcs, h3⟩
     | true => obtain ⟨vs, rest, h1, h2⟩ := this; exact ⟨vs, rest, h1, Hn cs vs h2 hcs⟩
theorem Ext.take {bs0 : List Nat} {H0 : Hz} {w0 : World} (h : Ext bs0 H0 w0 bs H w) : Ext bs0 H0 w0 (bs.take H0.length) (H.take H0.length) w := by
 refine ⟨h.size, h.block, fun k hk => h.new k (List.mem_of_mem_take hk), fun i o ho => ?_⟩
 have hi := (List.getElem?_eq_some_iff.1 ho).1
 obtain ⟨o', h1, h2⟩ := h.obj i o ho
 refine ⟨o', by rw [List.getElem?_take_of_lt hi]; exact h1, ?_⟩
 have hbs : (bs.take H0.length)[i]? = bs[i]? := List.getElem?_take_of_lt hi
 cases o with
 | dead => exact h2
 | iter s p => simpa only [Bi, hbs] using h2
 | cells T cs op => cases op <;> simpa only [Bi, hbs] using h2
theorem Wy {W0 : World} (hh : Ac W0 F bs H w) {bs0 : List Nat} {H0 : Hz} {w0 : World} (he : Ext bs0 H0 w0 bs H w) {v : AVal} {cv : Value} (hv : Rep F bs H w v cv) :
 ∃ bs', Rep F bs' (L0 H0.length v H).2 w (L0 H0.length v H).1 cv ∧ Ac W0 F bs' (L0 H0.length v H).2 w ∧ Ext bs0 H0 w0 bs' (L0 H0.length v H).2 w := by
 unfold L0
 cases h1 : Nat.ble H.length H0.length with
 | true => exact ⟨bs, hv, hh, he⟩
 | false =>
   rw [cond_false]
   cases h2 : Fg H0.length (H.take H0.length) with
   | false => exact ⟨bs, hv, hh, he⟩
   | true =>
     rw [cond_true]
     split
     · rename_i v' hf
       exact ⟨bs.take H0.length, Ol hh _ v cv v' hv hf, hh.take h2, he.take⟩
     · exact ⟨bs, hv, hh, he⟩
end
theorem G4 : ∀ (as : List AVal) (i : Nat) (e : Env) (t : Nat), i + as.length ≤ 4094 → (F2 i as e).get t = if i ≤ t ∧ t < i + as.length then as[t - i]? else e.get t
 | [], i, e, t, h => by simp only [F2, lNi, Nat.add_zero]; rw [if_neg (by omega)]
 | v :: r, i, e, t, h => by
   simp only [lCo] at h
   simp only [F2]
   rw [G4 r (i + 1) _ t (by omega), Env.get_put 12 i v e t (by show i + 2 ≤ 4096; omega)]
   by_cases h1 : t = i
   · subst h1
     rw [if_neg (by omega), if_pos rfl, if_pos (by simp)]
     simp
   · by_cases h2 : i + 1 ≤ t ∧ t < i + 1 + r.length
     · rw [if_pos h2, if_pos (by simp; omega)]
       rw [show t - i = (t - (i + 1)) + 1 by omega, List.getElem?_cons_succ]
     · rw [if_neg h2, if_neg h1, if_neg (by simp; omega)]
theorem A2q (t : Nat) : Env.leaf.get t = none := rfl
theorem Je {W0 : World} {F : Nat → Prop} {bs : List Nat} {H : Hz} {w : World} (hh : Ac W0 F bs H w) {args : List AVal} {cargs : List Value} (hr : A9 F bs H w args cargs) (hl : args.length ≤ 4094) (k : Nat) :
 RS W0 F bs ⟨F2 0 args .leaf, H, args.length + (k - args.length)⟩ { tmps := cargs.toArray ++ Array.replicate (k - cargs.toArray.size) undef, defers := [] } w := by
 have hlen := hr.length
 refine ⟨hh, by simp [hlen], fun t v hv => ?_⟩
 rw [G4 args 0 .leaf t (by omega)] at hv
 split at hv
 · rename_i ht
   simp only [Nat.sub_zero] at hv
   obtain ⟨u, hu, hrep⟩ := hr.get hv
   have : (cargs.toArray ++ Array.replicate (k - cargs.toArray.size) undef).getD t undef = u := by
    rw [Array.getD_eq_getD_getElem?, Array.getElem?_append_left (by simp; omega)]
    simp [hu]
   rw [this]; exact hrep
 · rw [A2q] at hv; cases hv
def A3v (tmps : Array Value) : ResultVar → Sem Value
 | .tmp t => pure (tmps.getD t undef)
 | .cell c t => do loadVar t (← asAddr (tmps.getD c undef))
theorem Y8 {P : Program} {W0 : World} {F : Nat → Prop} {bs : List Nat} {s : St} {a : Act} {w : World} (hs : RS W0 F bs s a w) {r : ResultVar} {v : AVal} (h : Ns P s r = some v) :
 ∃ cv, Rep F bs s.H w v cv ∧ (A3v a.tmps r).run P w = .ok cv w := by
 cases r with
 | tmp t => exact ⟨_, hs.env t v h, rfl⟩
 | cell c t =>
   simp only [Ns] at h
   split at h
   · rename_i p hp
     split at h
     · rename_i n agg ht
       have hpr := hs.env c p hp
       obtain ⟨cv, h1, h2⟩ := X6 (P := P) hs.heap ht hpr h
       refine ⟨cv, h2, ?_⟩
       have hsa : ∃ ad, a.tmps.getD c undef = .pointer (some ad) := by
        cases p <;> simp only [Qi] at h <;> try (cases h; done)
        · simp only [Rep] at hpr
          obtain ⟨_, hpr⟩ := hpr
          unfold Ey at hpr
          split at h
          · rename_i ho
            rw [ho] at hpr
            obtain ⟨b, _, hb⟩ := hpr
            exact ⟨_, hb⟩
          · cases h
        · simp only [Rep] at hpr
          obtain ⟨⟨ad, had⟩, hpr⟩ := hpr
          unfold E8 at hpr
          split at h
          · rename_i ho
            rw [ho] at hpr
            cases hln : Nat.beq _ _ with
            | false => rw [hln] at h; cases h
            | true =>
              obtain ⟨b, _, hb⟩ := hpr.2 (nBq hln)
              exact ⟨_, hb⟩
          · cases h
        · simp only [Rep] at hpr
          obtain ⟨b, base, u, hb, _⟩ := hpr
          exact ⟨_, hb⟩
       obtain ⟨ad, had⟩ := hsa
       rw [had] at h1
       simpa [A3v, had, Instr.loadAt, Instr.sureAddr, asAddr] using h1
     · cases h
   · cases h
theorem Ox {P : Program} {W0 : World} {F : Nat → Prop} {bs : List Nat} {s : St} {a : Act} {w : World} (hs : RS W0 F bs s a w) : ∀ {rs : List ResultVar} {vs : List AVal}, Dz P s rs = some vs →
 ∃ cvs : List Value, A9 F bs s.H w vs cvs ∧ (rs.mapM (A3v a.tmps)).run P w = .ok cvs w
 | [], vs, h => by
   simp only [Dz, iS] at h; subst h
   exact ⟨[], by simp [A9], by simp⟩
 | r :: rs, vs, h => by
   simp only [Dz] at h
   split at h
   · rename_i v hv
     split at h
     · rename_i vs' hvs
       injection h with h; subst h
       obtain ⟨cv, h1, h2⟩ := Y8 hs hv
       obtain ⟨cvs, h3, h4⟩ := Ox hs hvs
       refine ⟨cv :: cvs, by simp only [A9]; exact ⟨_, _, rfl, h1, h3⟩, ?_⟩
       simp only [List.mapM_cons, sRb, h2, rAo, h4, Sem.run_pure]
     · cases h
   · cases h
theorem Hi {P : Program} {W0 : World} {F : Nat → Prop} {bs : List Nat} {s : St} {a : Act} {w : World} (hs : RS W0 F bs s a w) {fn : Func} {vs : List AVal} (h : Dz P s fn.results.toList = some vs) :
 ∃ cv, (results fn a.tmps).run P w = .ok cv w ∧ Rep F bs s.H w (Bq vs) cv := by
 obtain ⟨cvs, h1, h2⟩ := Ox hs h
 refine ⟨if h : cvs.toArray.size = 1 then cvs.toArray[0] else .tuple cvs.toArray, ?_, ?_⟩
 · unfold results
   simp only [sRb, Array.mapM_eq_mapM_toList, Sem.run_map]
   have key : ∀ f : ResultVar → Sem Value, (∀ r, f r = A3v a.tmps r) → (((fn.results.toList.mapM f).run P w).andThen fun a w' => Result.ok a.toArray w').andThen (fun a w' => Sem.run P (pure (if h : a.size = 1 then a[0] else Value.tuple a)) w') = Result.ok (if h : cvs.toArray.size = 1 then cvs.toArray[0] else .tuple cvs.toArray) w := by
    intro f hf
    have : f = A3v a.tmps := funext hf
    subst this
    rw [h2]
    rfl
   exact key _ (fun r => by cases r <;> rfl)
 · cases vs with
   | nil =>
     simp only [A9] at h1; subst h1
     simp only [Bq, Rep]
     exact ⟨[], by simp, by simp [A9]⟩
   | cons v vs =>
     simp only [A9] at h1
     obtain ⟨u, us, rfl, hu, hus⟩ := h1
     cases vs with
     | nil =>
       simp only [A9] at hus; subst hus
       simpa [Bq] using hu
     | cons v2 vs =>
       simp only [A9] at hus
       obtain ⟨u2, us2, rfl, hu2, hus2⟩ := hus
       simp only [Bq, Rep]
       exact ⟨u :: u2 :: us2, by simp, by simp only [A9]; exact ⟨_, _, rfl, hu, _, _, rfl, hu2, hus2⟩⟩
theorem A3.of_ex {P : Program} {W0 : World} {f : FuncId} {fn : Func} {c : Code} {args : List AVal} {H : Hz} {v : AVal} {H' : Hz} (hf : P.funcs[f]? = some fn) (hb : fn.body = some c) (hn : fn.name ≠ "runtime.NumGoroutine") (hl : args.length ≤ 4094)
 (h : Ex P W0 c ⟨F2 0 args .leaf, H, args.length + (fn.ntmps - args.length)⟩ fun e s' => (match e with | .exit _ => False | _ => True) ∧ ∃ vs, Dz P s' fn.results.toList = some vs ∧ (L0 H.length (Bq vs) s'.H = (v, H') ∨ (Bq vs, s'.H) = (v, H'))) :
 A3 P W0 f args H v H' := by
 refine ⟨⟨fn, c, hf, hb, hn⟩, fun F bs w cargs hh hr => ?_⟩
 refine calls_of_wp hf hb (h F bs _ w (Je hh hr hl fn.ntmps) _ fun e s' bs' a' w' hk hrs hext hd => ?_)
 obtain ⟨hne, vs, hvs, hlv⟩ := hk
 obtain ⟨cv, h1, h2⟩ := Hi hrs hvs
 simp only at hext
 have hlast : ∃ bs'', Rep F bs'' H' w' v cv ∧ Ac W0 F bs'' H' w' ∧ Ext bs H w bs'' H' w' := by
  rcases hlv with hlv | hlv
  · obtain ⟨bs'', h3, h4, h5⟩ := Wy hrs.heap hext h2
    rw [hlv] at h3 h4 h5
    exact ⟨bs'', h3, h4, h5⟩
  · injection hlv with e1 e2
    subst e1; subst e2
    exact ⟨bs', h2, hrs.heap, hext⟩
 obtain ⟨bs'', h3, h4, h5⟩ := hlast
 have fin : bodyPost P fn (fun e w' => ∃ cv bs', e = .returned cv ∧ Rep F bs' H' w' v cv ∧ Ac W0 F bs' H' w' ∧ Ext bs H w bs' H' w') .ret a' w' := ⟨hd, cv, h1, cv, bs'', rfl, h3, h4, h5⟩
 cases e with
 | normal => exact fin
 | ret => exact fin
 | exit id => exact hne.elim
end Go.Abs
namespace Go.Abs
open Go.RowKit
def AOpd.tmps : AOpd → List Nat
 | .tmp t => [t]
 | _ => []
def X1 (l : List AOpd) : List Nat := l.flatMap AOpd.tmps
def Zp : Option AOpd → List Nat
 | some x => x.tmps
 | none => []
def Z2 (l : List (Nat × Nat × AOpd)) : List Nat := l.flatMap fun p => p.2.2.tmps
def AOp.tmps : AOp → List Nat
 | .move x | .box _ x | .nilCheck x | .un _ x | .conv _ x | .fieldAddr _ x | .range x | .next x | .extract x _ | .len _ x | .iface _ x | .load _ _ x => x.tmps
 | .pick c a b => c.tmps ++ a.tmps ++ b.tmps
 | .alloc _ _ => []
 | .build _ ps => Z2 ps
 | .bslice _ _ _ _ ps => Z2 ps
 | .store _ a x => a.tmps ++ x.tmps
 | .bin _ _ x y => x.tmps ++ y.tmps
 | .idxSl _ x i | .idxArr _ _ x i | .idxStr x i => x.tmps ++ i.tmps
 | .cutStr x lo hi | .cutSl _ x lo hi => x.tmps ++ Zp lo ++ Zp hi
 | .mkfn _ first cap => X1 first ++ X1 cap
 | .call f args => f.tmps ++ X1 args
 | .append _ _ _ x y | .mm _ x y | .eqs _ _ x y | .idxVal _ _ _ x y => x.tmps ++ y.tmps
 | .field _ _ _ x => x.tmps
 | .cutArr _ _ x hi => x.tmps ++ Zp hi
 | .clear _ _ x => x.tmps
 | .mkSl _ _ _ x y => x.tmps ++ y.tmps
section
variable {G : List (Nat × AVal)} {e e' : Env} {H : Hz} {n : Nat}
theorem Aj {x : AOpd} (h : ∀ t ∈ x.tmps, e.get t = e'.get t) : ev G ⟨e, H, n⟩ x = ev G ⟨e', H, n⟩ x := by
 cases x with
 | tmp t => exact h t (by simp [AOpd.tmps])
 | val a => rfl
 | glob g => rfl
theorem I8 {x : Option AOpd} (h : ∀ t ∈ Zp x, e.get t = e'.get t) : oev G ⟨e, H, n⟩ x = oev G ⟨e', H, n⟩ x := by
 cases x with
 | none => rfl
 | some x => simp only [oev]; rw [Aj h]
theorem K2 : ∀ {l : List AOpd}, (∀ t ∈ X1 l, e.get t = e'.get t) → evs G ⟨e, H, n⟩ l = evs G ⟨e', H, n⟩ l
 | [], _ => rfl
 | x :: l, h => by
   simp only [X1, List.flatMap_cons, List.mem_append] at h
   simp only [evs]
   rw [Aj (fun t ht => h t (.inl ht)), K2 (l := l) (fun t ht => h t (.inr ht))]
theorem L3 : ∀ {l : List (Nat × Nat × AOpd)}, (∀ t ∈ Z2 l, e.get t = e'.get t) → Px G ⟨e, H, n⟩ l = Px G ⟨e', H, n⟩ l
 | [], _ => rfl
 | (a, b, x) :: l, h => by
   simp only [Z2, List.flatMap_cons, List.mem_append] at h
   simp only [Px]
   rw [Aj (fun t ht => h t (.inl ht)), L3 (l := l) (fun t ht => h t (.inr ht))]
theorem Zw {o : AOp} (h : ∀ t ∈ o.tmps, e.get t = e'.get t) : aop G ⟨e, H, n⟩ o = aop G ⟨e', H, n⟩ o := by
 cases o <;> simp only [AOp.tmps, List.mem_append, or_imp, forall_and] at h <;> simp only [aop]
 case move x => rw [Aj h]
 case pick c a b => rw [Aj h.1.1, Aj h.1.2, Aj h.2]
 case box T x => rw [Aj h]
 case build zs ps => rw [L3 h]
 case bslice a b c zs ps => rw [L3 h]
 case load m g x => rw [Aj h]
 case store m a x => rw [Aj h.1, Aj h.2]
 case nilCheck x => rw [Aj h]
 case bin op d x y => rw [Aj h.1, Aj h.2]
 case un op x => rw [Aj h]
 case conv c x => rw [Aj h]
 case fieldAddr o x => rw [Aj h]
 case idxSl k x i => rw [Aj h.1, Aj h.2]
 case idxArr m k x i => rw [Aj h.1, Aj h.2]
 case idxStr x i => rw [Aj h.1, Aj h.2]
 case cutStr x lo hi => rw [Aj h.1.1, I8 h.1.2, I8 h.2]
 case cutSl k x lo hi => rw [Aj h.1.1, I8 h.1.2, I8 h.2]
 case range x => rw [Aj h]
 case next x => rw [Aj h]
 case extract x i => rw [Aj h]
 case mkfn f a b => rw [K2 h.1, K2 h.2]
 case call f args => rw [Aj h.1, K2 h.2]
 case append a b c x y => rw [Aj h.1, Aj h.2]
 case len s x => rw [Aj h]
 case iface T x => rw [Aj h]
 case mm b x y => rw [Aj h.1, Aj h.2]
 case eqs b e x y => rw [Aj h.1, Aj h.2]
 case idxVal a b c x y => rw [Aj h.1, Aj h.2]
 case field a b c x => rw [Aj h]
 case cutArr a b x hi => rw [Aj h.1, I8 h.2]
 case clear a b x => rw [Aj h]
 case mkSl a b c x y => rw [Aj h.1, Aj h.2]
end
section
variable (P : Program) (W0 : World) (G : List (Nat × AVal)) (ops : Array Oper)
def Eb (o : Oper) (s : St) (K : AVal → Hz → Prop) : Prop :=
 match C9 ops s o.guard with
 | some true => match B3 P o.op with
   | some op => Gx P W0 s.H (aop G s op) K
   | none => False
 | some false => K (.tup []) s.H
 | none => False
def I1 (dst : Option Nat) (v : AVal) (e : Env) : Env :=
 match dst with
 | none => e
 | some d => Env.put 12 d v e
def Hq (dst : Option Nat) (n : Nat) : Bool :=
 match dst with
 | none => true
 | some d => Nat.blt d n && Nat.blt d 4094
def Oe (g : Option (Nat × Bool)) : List Nat :=
 match g with
 | none => []
 | some (j, _) => match (ops[j]?).bind (·.dst) with
   | some d => [d]
   | none => []
def reads (o : Oper) : List Nat :=
 Oe ops o.guard ++ match B3 P o.op with
  | some op => op.tmps
  | none => []
end
section
variable {P : Program} {W0 : World} {G : List (Nat × AVal)} {ops : Array Oper} {F : Nat → Prop}
theorem Ro {o : Oper} {s : St} {v : AVal} {H' : Hz} (h : Eb P W0 G ops o s fun v' H'' => v' = v ∧ H'' = H') (hd : Hq o.dst s.n = true) :
 Gg P W0 G ops o s fun s' => s' = ⟨I1 o.dst v s.env, H', s.n⟩ := by
 have hput : Og s o.dst v H' fun s' => s' = ⟨I1 o.dst v s.env, H', s.n⟩ := by
  cases ho : o.dst with
  | none => exact rfl
  | some d => rw [ho] at hd; exact ⟨hd, rfl⟩
 unfold Eb at h
 unfold Gg
 cases hg : C9 ops s o.guard with
 | none => rw [hg] at h; exact h.elim
 | some b =>
   rw [hg] at h
   cases b with
   | false => obtain ⟨h1, h2⟩ := h; subst h1; subst h2; exact hput
   | true =>
     simp only at h ⊢
     cases hc : B3 P o.op with
     | none => rw [hc] at h; exact h.elim
     | some op =>
       rw [hc] at h
       simp only at h ⊢
       cases hr : aop G s op with
       | none => rw [hr] at h; exact h.elim
       | some r =>
         rw [hr] at h
         cases r with
         | val v1 H1 side => obtain ⟨h1, h2, h3⟩ := h; subst h2; subst h3; exact ⟨h1, hput⟩
         | skip H1 => obtain ⟨h2, h3⟩ := h; subst h2; subst h3; exact hput
         | call f args => obtain ⟨v1, H1, h1, h2, h3⟩ := h; subst h2; subst h3; exact ⟨_, _, h1, hput⟩
theorem Oz {e e' : Env} {H H' : Hz} {n : Nat} {g : Option (Nat × Bool)} (h : ∀ t ∈ Oe ops g, e.get t = e'.get t) : C9 ops ⟨e, H, n⟩ g = C9 ops ⟨e', H', n⟩ g := by
 cases g with
 | none => rfl
 | some p =>
   obtain ⟨j, want⟩ := p
   simp only [Oe] at h
   simp only [C9]
   cases hd : (ops[j]?).bind (·.dst) with
   | none => rfl
   | some d =>
     rw [hd] at h
     simp only [h d (by simp)]
theorem Oy {e e' : Env} {H : Hz} {n : Nat} {o : Oper} {K : AVal → Hz → Prop} (h : ∀ t ∈ reads P ops o, e.get t = e'.get t) (hk : Eb P W0 G ops o ⟨e, H, n⟩ K) : Eb P W0 G ops o ⟨e', H, n⟩ K := by
 simp only [reads, List.mem_append, or_imp, forall_and] at h
 unfold Eb at hk ⊢
 rw [← Oz (e := e) (H := H) h.1]
 cases hg : C9 ops ⟨e, H, n⟩ o.guard with
 | none => rw [hg] at hk; exact hk
 | some b =>
   rw [hg] at hk
   cases b with
   | false => exact hk
   | true =>
     simp only at hk ⊢
     cases hc : B3 P o.op with
     | none => rw [hc] at hk; exact hk
     | some op =>
       rw [hc] at hk h
       simp only at hk h ⊢
       rw [← Zw h.2]
       exact hk
theorem RS.env_eq {W0 : World} {bs : List Nat} {s : St} {a : Act} {w : World} (hs : RS W0 F bs s a w) {e : Env} (h : ∀ t, e.get t = s.env.get t) : RS W0 F bs ⟨e, s.H, s.n⟩ a w :=
 ⟨hs.heap, hs.size, fun t v hv => hs.env t v (by rw [← h]; exact hv)⟩
structure Plan where
 v : Nat → AVal
 eff : Nat → Bool
 ok : Nat → Prop
 dn : Nat → Nat → Bool
 nxt : Nat → Nat → Nat
 fin : Nat
 Hs : Nat → Hz
 mask : Nat → Nat → Bool
 env : Nat → Env
def Plan.may (p : Plan) (N σ j : Nat) : Prop := (∀ i, i < N → p.eff i = true → p.mask j i = true → p.dn σ i = true) ∧ ∀ i, i < N → p.eff i = true → p.mask i j = true → p.dn σ i = false
structure I5 (P : Program) (W0 : World) (G : List (Nat × AVal)) (ops : Array Oper) (s : St) (p : Plan) : Prop where
 back : ∀ (j : Nat) (o : Oper), ops[j]? = some o → ∀ e ∈ o.after, Region.binds .any e = true → e.on < j
 mask : ∀ (j : Nat) (o : Oper) (i : Nat), ops[j]? = some o → p.mask j i = true → ∃ e ∈ o.after, Region.binds .any e = true ∧ (e.on = i ∨ p.mask e.on i = true)
 uniq : ∀ (i j : Nat) (oi oj : Oper) (t : Nat), ops[i]? = some oi → ops[j]? = some oj → oi.dst = some t → oj.dst = some t → i = j
 rd : ∀ (j : Nat) (oj : Oper) (t : Nat), ops[j]? = some oj → t ∈ Abs.reads P ops oj → ∀ (i : Nat) (oi : Oper), ops[i]? = some oi → oi.dst = some t → p.mask j i = true ∨ p.mask i j = true
 env0 : p.env 0 = s.env
 env1 : ∀ (i : Nat) (o : Oper), ops[i]? = some o → p.env (i + 1) = I1 o.dst (p.v i) (p.env i)
 ok0 : p.ok 0
 dn0 : ∀ i, i < ops.size → p.eff i = true → p.dn 0 i = false
 h0 : p.Hs 0 = s.H
 quiet : ∀ (j : Nat) (o : Oper), ops[j]? = some o → p.eff j = false → ∀ σ, p.ok σ → p.may ops.size σ j → Eb P W0 G ops o ⟨p.env j, p.Hs σ, s.n⟩ fun v' H' => v' = p.v j ∧ H' = p.Hs σ
 loud : ∀ (j : Nat) (o : Oper), ops[j]? = some o → p.eff j = true → ∀ σ, p.ok σ → p.dn σ j = false → p.may ops.size σ j →
  (Eb P W0 G ops o ⟨p.env j, p.Hs σ, s.n⟩ fun v' H' => v' = p.v j ∧ H' = p.Hs (p.nxt σ j)) ∧ p.ok (p.nxt σ j) ∧ ∀ i, i < ops.size → p.eff i = true → (p.dn (p.nxt σ j) i = true ↔ p.dn σ i = true ∨ i = j)
 last : ∀ σ, p.ok σ → (∀ i, i < ops.size → p.eff i = true → p.dn σ i = true) → p.Hs σ = p.Hs p.fin
 dst : ∀ (j : Nat) (o : Oper), ops[j]? = some o → Hq o.dst s.n = true
def Hu (ops : Array Oper) (p : Plan) (e0 : Env) (done : Nat → Prop) (e : Env) : Prop :=
 ∀ t, (∃ (i : Nat) (o : Oper), ops[i]? = some o ∧ done i ∧ o.dst = some t ∧ e.get t = some (p.v i)) ∨ ((∀ (i : Nat) (o : Oper), ops[i]? = some o → o.dst = some t → ¬ done i) ∧ e.get t = e0.get t)
theorem Hu.step {s : St} {p : Plan} (hp : I5 P W0 G ops s p) {done done' : Nat → Prop} {e : Env} (h : Hu ops p s.env done e) {j : Nat} {o : Oper} (hj : ops[j]? = some o) (hd : ∀ i, done' i ↔ done i ∨ i = j) :
 Hu ops p s.env done' (I1 o.dst (p.v j) e) := by
 have hdo := hp.dst j o hj
 intro t
 cases ho : o.dst with
 | none =>
   simp only [I1]
   rcases h t with ⟨i, oi, h1, h2, h3, h4⟩ | ⟨h1, h2⟩
   · exact .inl ⟨i, oi, h1, (hd i).2 (.inl h2), h3, h4⟩
   · refine .inr ⟨fun i oi hi hti hdi => ?_, h2⟩
     rcases (hd i).1 hdi with h' | h'
     · exact h1 i oi hi hti h'
     · subst h'; rw [hj] at hi; injection hi with hi; subst hi; rw [ho] at hti; cases hti
 | some d =>
   rw [ho] at hdo
   have hlt : d < s.n ∧ d < 4094 := by simpa [Hq, Nat.blt_eq] using hdo
   simp only [I1]
   rw [Env.get_put 12 d (p.v j) e t (Nat.add_le_add_right (Nat.le_of_lt hlt.2) 2)]
   by_cases htd : t = d
   · subst htd
     rw [if_pos rfl]
     exact .inl ⟨j, o, hj, (hd j).2 (.inr rfl), ho, rfl⟩
   · rw [if_neg htd]
     rcases h t with ⟨i, oi, h1, h2, h3, h4⟩ | ⟨h1, h2⟩
     · exact .inl ⟨i, oi, h1, (hd i).2 (.inl h2), h3, h4⟩
     · refine .inr ⟨fun i oi hi hti hdi => ?_, h2⟩
       rcases (hd i).1 hdi with h' | h'
       · exact h1 i oi hi hti h'
       · subst h'; rw [hj] at hi; injection hi with hi; subst hi; rw [ho] at hti; injection hti with hti; exact htd hti.symm
theorem Hu.seq {s : St} {p : Plan} (hp : I5 P W0 G ops s p) : ∀ j, j ≤ ops.size → Hu ops p s.env (fun i => i < j) (p.env j)
 | 0, _ => fun t => .inr ⟨fun i o _ _ h => absurd h (Nat.not_lt_zero i), by rw [hp.env0]⟩
 | j + 1, hj => by
   have ho : ops[j]? = some (ops[j]'(by omega)) := Array.getElem?_eq_getElem (by omega)
   rw [hp.env1 j _ ho]
   exact (Hu.seq hp j (by omega)).step hp ho (fun i => by constructor <;> intro h <;> omega)
theorem Hu.agree {s : St} {p : Plan} (hp : I5 P W0 G ops s p) {d1 d2 : Nat → Prop} {e1 e2 : Env} (h1 : Hu ops p s.env d1 e1) (h2 : Hu ops p s.env d2 e2) {t : Nat} (h : ∀ (i : Nat) (o : Oper), ops[i]? = some o → o.dst = some t → (d1 i ↔ d2 i)) : e1.get t = e2.get t := by
 rcases h1 t with ⟨i, o, a1, a2, a3, a4⟩ | ⟨a1, a2⟩
 · rcases h2 t with ⟨k, ok, b1, b2, b3, b4⟩ | ⟨b1, b2⟩
   · have := hp.uniq i k o ok t a1 b1 a3 b3
     subst this
     rw [a4, b4]
   · exact absurd ((h i o a1 a3).1 a2) (b1 i o a1 a3)
 · rcases h2 t with ⟨k, ok, b1, b2, b3, b4⟩ | ⟨b1, b2⟩
   · exact absurd ((h k ok b1 b3).2 b2) (a1 k ok b1 b3)
   · rw [a2, b2]
structure Inv (P : Program) (W0 : World) (G : List (Nat × AVal)) (ops : Array Oper) (s : St) (p : Plan) (F : Nat → Prop) (bs : List Nat) (a0 : Act) (w0 : World) (listed : Array Bool) (a : Act) (w : World) : Prop where
 size : listed.size = ops.size
 down : ∀ (j : Nat) (o : Oper), ops[j]? = some o → listed.getD j true = true → ∀ e ∈ o.after, Region.binds .any e = true → listed.getD e.on false = true
 go : ∃ (e : Env) (bs' : List Nat) (c : Nat), RS W0 F bs' ⟨e, p.Hs c, s.n⟩ a w ∧ Ext bs s.H w0 bs' (p.Hs c) w ∧ a.defers = a0.defers ∧ p.ok c ∧
  (∀ i, i < ops.size → p.eff i = true → (listed.getD i true = true ↔ p.dn c i = true)) ∧ Hu ops p s.env (fun i => listed.getD i true = true) e
theorem Inv.mask {s : St} {p : Plan} (hp : I5 P W0 G ops s p) {listed : Array Bool} (hsz : listed.size = ops.size)
 (down : ∀ (j : Nat) (o : Oper), ops[j]? = some o → listed.getD j true = true → ∀ e ∈ o.after, Region.binds .any e = true → listed.getD e.on false = true) :
 ∀ (j : Nat) (o : Oper), ops[j]? = some o → (∀ e ∈ o.after, Region.binds .any e = true → listed.getD e.on false = true) → ∀ i, p.mask j i = true → listed.getD i true = true := by
 intro j
 induction j using Nat.strongRecOn with
 | _ j ih =>
   intro o ho hpre i hm
   obtain ⟨e, he, hb, h⟩ := hp.mask j o i ho hm
   have hlt := hp.back j o ho e he hb
   have hl := hpre e he hb
   have hj := (Array.getElem?_eq_some_iff.1 ho).1
   have hon : e.on < listed.size := by omega
   have hl' : listed.getD e.on true = true := by
    simp [Array.getD_eq_getD_getElem?, Array.getElem?_eq_getElem hon] at hl ⊢; exact hl
   rcases h with rfl | h
   · exact hl'
   · have hoe : ops[e.on]? = some (ops[e.on]'(by omega)) := Array.getElem?_eq_getElem (by omega)
     exact ih e.on hlt _ hoe (fun e2 he2 hb2 => down e.on _ hoe hl' e2 he2 hb2) i h
def unl (n : Nat) (listed : Array Bool) : List Nat := (List.range n).filter fun i => !listed.getD i true
theorem unl_set {n : Nat} {listed : Array Bool} {i : Nat} (hi : i < n) (hn : n = listed.size) (hu : listed.getD i true = false) : (unl n (listed.setIfInBounds i true)).length < (unl n listed).length := by
 have h : unl n (listed.setIfInBounds i true) = (unl n listed).filter fun j => j != i := by
  unfold unl
  rw [List.filter_filter]
  refine List.filter_congr fun j hj => ?_
  by_cases hji : j = i
  · subst hji
    simp [Array.getD_eq_getD_getElem?, Array.getElem?_setIfInBounds_self_of_lt (show j < listed.size by omega)]
  · rw [getD_set_ne true (Ne.symm hji)]
    simp [hji]
 rw [h]
 refine List.length_filter_lt_length_iff_exists.2 ⟨i, ?_, by simp⟩
 unfold unl
 rw [List.mem_filter, List.mem_range]
 exact ⟨hi, by rw [hu]; rfl⟩
theorem Yv {s : St} {p : Plan} (hp : I5 P W0 G ops s p) {listed : Array Bool} (hsz : listed.size = ops.size) (hr : Region.ready .any ops listed = []) : ∀ j, j < ops.size → listed.getD j true = true := by
 intro j
 induction j using Nat.strongRecOn with
 | _ j ih =>
   intro hj
   cases hl : listed.getD j true with
   | true => rfl
   | false =>
     have ho : ops[j]? = some (ops[j]'hj) := Array.getElem?_eq_getElem hj
     have : j ∈ Region.ready .any ops listed := mem_ready.2 ⟨hl, _, ho, fun e he hb => by
      have hlt := hp.back j _ ho e he hb
      have h1 := ih e.on hlt (by omega)
      have hon : e.on < listed.size := by omega
      simp [Array.getD_eq_getD_getElem?, Array.getElem?_eq_getElem hon] at h1 ⊢; exact h1⟩
     rw [hr] at this
     cases this
theorem Xb (hg : GOK W0 G) {s : St} {p : Plan} (hp : I5 P W0 G ops s p) {bs : List Nat} {a0 : Act} {w0 : World} {Q : Exit → Act → World → Prop}
 (hQ : ∀ bs' a w, RS W0 F bs' ⟨p.env ops.size, p.Hs p.fin, s.n⟩ a w → Ext bs s.H w0 bs' (p.Hs p.fin) w → a.defers = a0.defers → Q .normal a w) :
 ∀ (fuel : Nat) (listed : Array Bool) (a : Act) (w : World), Inv P W0 G ops s p F bs a0 w0 listed a w → (unl ops.size listed).length ≤ fuel → wpAny P .any ops Q fuel listed a w := by
 have fin : ∀ (listed : Array Bool) (a : Act) (w : World), Inv P W0 G ops s p F bs a0 w0 listed a w → Region.ready .any ops listed = [] → Q .normal a w := by
  intro listed a w hi hr
  obtain ⟨e, bs', c, h1, h2, h3, h4, h5, h6⟩ := hi.go
  have hall := Yv hp hi.size hr
  have hc : p.Hs c = p.Hs p.fin := hp.last c h4 fun i i1 i2 => (h5 i i1 i2).1 (hall i i1)
  rw [hc] at h1 h2
  refine hQ bs' a w (h1.env_eq fun t => ?_) h2 h3
  refine Hu.agree hp (Hu.seq hp ops.size (Nat.le_refl _)) h6 fun i o hio _ => ?_
  have hi := (Array.getElem?_eq_some_iff.1 hio).1
  exact ⟨fun _ => hall i hi, fun _ => hi⟩
 intro fuel
 induction fuel with
 | zero =>
   intro listed a w hi hu
   have hnil : Region.ready .any ops listed = [] := by
    cases hr : Region.ready .any ops listed with
    | nil => rfl
    | cons j r =>
      have hj : j ∈ Region.ready .any ops listed := by rw [hr]; simp
      obtain ⟨h1, o, h2, _⟩ := mem_ready.1 hj
      have : j ∈ unl ops.size listed := by
       unfold unl
       rw [List.mem_filter, List.mem_range]
       exact ⟨(Array.getElem?_eq_some_iff.1 h2).1, by rw [h1]; rfl⟩
      rw [List.length_eq_zero_iff.1 (Nat.le_zero.1 hu)] at this
      cases this
   exact ⟨hnil, fin listed a w hi hnil⟩
 | succ fuel ih =>
   intro listed a w hi hu
   refine ⟨fin listed a w hi, fun j hj => ?_⟩
   obtain ⟨hjl, o, ho, hpre⟩ := mem_ready.1 hj
   have hjs : j < ops.size := (Array.getElem?_eq_some_iff.1 ho).1
   obtain ⟨e, bs', c, h1, h2, h3, h4, h5, h6⟩ := hi.go
   have hmj := Inv.mask hp hi.size hi.down j o ho hpre
   have hnot : ∀ i, i < ops.size → p.mask i j = true → listed.getD i true = false := by
    intro i his hm
    cases hl : listed.getD i true with
    | false => rfl
    | true =>
      have hio : ops[i]? = some (ops[i]'his) := Array.getElem?_eq_getElem his
      have := Inv.mask hp hi.size hi.down i _ hio (fun e he hb => hi.down i _ hio hl e he hb) j hm
      rw [hjl] at this; cases this
   have hrd : ∀ t ∈ reads P ops o, (p.env j).get t = e.get t := by
    intro t ht
    refine Hu.agree hp (Hu.seq hp j (Nat.le_of_lt hjs)) h6 fun i oi hio hti => ?_
    have his : i < ops.size := (Array.getElem?_eq_some_iff.1 hio).1
    have ltOf : ∀ x y ox, ops[x]? = some ox → p.mask x y = true → y < x := by
     intro x
     induction x using Nat.strongRecOn with
     | _ x ihx =>
       intro y ox hox hm
       obtain ⟨ed, hed, hb, h⟩ := hp.mask x ox y hox hm
       have hlt := hp.back x ox hox ed hed hb
       rcases h with rfl | h
       · exact hlt
       · have hxs := (Array.getElem?_eq_some_iff.1 hox).1
         have := ihx ed.on hlt y _ (Array.getElem?_eq_getElem (show ed.on < ops.size by omega)) h
         omega
    rcases hp.rd j o t ho ht i oi hio hti with hm | hm
    · exact ⟨fun _ => hmj i hm, fun _ => ltOf j i o ho hm⟩
    · have := hnot i his hm
      have hlt := ltOf i j oi hio hm
      exact ⟨fun h => by omega, fun h => by rw [this] at h; cases h⟩
   have hev : ∃ c', Eb P W0 G ops o ⟨e, p.Hs c, s.n⟩ (fun v' H' => v' = p.v j ∧ H' = p.Hs c') ∧ p.ok c' ∧
    ∀ i, i < ops.size → p.eff i = true → ((listed.setIfInBounds j true).getD i true = true ↔ p.dn c' i = true) := by
    have hset : ∀ i, i ≠ j → (listed.setIfInBounds j true).getD i true = listed.getD i true := fun i hij => getD_set_ne true (Ne.symm hij)
    have hsetj : (listed.setIfInBounds j true).getD j true = true := by
     simp [Array.getD_eq_getD_getElem?, Array.getElem?_setIfInBounds_self_of_lt (show j < listed.size by rw [hi.size]; exact hjs)]
    have hmay : p.may ops.size c j := by
     refine ⟨fun i i1 i2 i3 => (h5 i i1 i2).1 (hmj i i3), fun i i1 i2 i3 => ?_⟩
     have hl := hnot i i1 i3
     cases hd : p.dn c i with
     | false => rfl
     | true => rw [(h5 i i1 i2).2 hd] at hl; cases hl
    cases hef : p.eff j with
    | false =>
      refine ⟨c, Oy hrd (hp.quiet j o ho hef c h4 hmay), h4, fun i i1 i2 => ?_⟩
      have hij : i ≠ j := fun h => by subst h; rw [hef] at i2; cases i2
      rw [hset i hij]; exact h5 i i1 i2
    | true =>
      have hdj : p.dn c j = false := by
       cases hd : p.dn c j with
       | false => rfl
       | true => rw [(h5 j hjs hef).2 hd] at hjl; cases hjl
      obtain ⟨l1, l2, l3⟩ := hp.loud j o ho hef c h4 hdj hmay
      refine ⟨p.nxt c j, Oy hrd l1, l2, fun i i1 i2 => ?_⟩
      rw [l3 i i1 i2]
      by_cases hij : i = j
      · subst hij; exact ⟨fun _ => .inr rfl, fun _ => hsetj⟩
      · rw [hset i hij, h5 i i1 i2]
        exact ⟨fun h => .inl h, fun h => h.resolve_right hij⟩
   obtain ⟨c', hev, hc', h5'⟩ := hev
   have hop := Ro (s := ⟨e, p.Hs c, s.n⟩) hev (hp.dst j o ho)
   unfold wpOp
   rw [ho]
   simp only
   refine Nq hg h1 hop fun s' bs'' a' w' hs' hrs hext hdf => ?_
   subst hs'
   refine ih (listed.setIfInBounds j true) a' w' ⟨by simp [hi.size], fun k ok hk hkl ed hed hb => ?_, _, bs'', c', hrs, h2.trans hext, hdf.trans h3, hc', h5', ?_⟩ ?_
   · by_cases hkj : k = j
     · subst hkj
       rw [ho] at hk; injection hk with hk; subst hk
       exact getD_set_true (hpre ed hed hb)
     · rw [getD_set_ne true (Ne.symm hkj)] at hkl
       exact getD_set_true (hi.down k ok hk hkl ed hed hb)
   · refine h6.step hp ho fun i => ?_
     by_cases hij : i = j
     · subst hij
       simp [Array.getD_eq_getD_getElem?, Array.getElem?_setIfInBounds_self_of_lt (show i < listed.size by rw [hi.size]; exact hjs)]
     · rw [getD_set_ne true (Ne.symm hij)]; simp [hij]
   · have := unl_set hjs hi.size.symm hjl
     omega
theorem Ext.drawn (bs : List Nat) (H : Hz) (w : World) (n : Nat) : Ext bs H w bs H { w with drawn := n } :=
 ⟨Nat.le_refl _, fun _ _ _ => rfl, fun _ h => .inl h, fun i o h => ⟨o, h, by
  cases o with
  | dead => simp [Bi]
  | iter s p => exact .inr ⟨s, p, rfl, rfl⟩
  | cells T cs op =>
    cases op with
    | false => exact .inr ⟨T, cs, rfl, rfl, rfl⟩
    | true => exact .inr ⟨T, cs, rfl, .inr ⟨rfl, rfl, fun _ _ => rfl⟩⟩⟩⟩
theorem Ex.draw (hm : P.follows .mixedOrders = true) (hg : GOK W0 G) {id : Nat} {s : St} {p : Plan} (hp : I5 P W0 G ops s p) {K : Av → St → Prop} (hk : K .normal ⟨p.env ops.size, p.Hs p.fin, s.n⟩) : Ex P W0 (.region id ops true) s K :=
 fun F bs a w hs Q hq => wp_region_any hm (by
  have hext := Ext.drawn bs s.H w (w.drawn + 1)
  refine Xb (F := F) (bs := bs) (a0 := a) (w0 := w) hg hp (fun bs' a' w' h1 h2 h3 => hq .normal _ bs' a' w' hk h1 h2 h3) ops.size _ a _ ⟨by simp, fun j o ho hl => ?_, p.env 0, bs, 0, ?_, ?_, rfl, hp.ok0, fun i hi hef => ?_, fun t => .inr ⟨fun i o ho _ hl => ?_, by rw [hp.env0]⟩⟩ ?_
  · have := (Array.getElem?_eq_some_iff.1 ho).1
    simp [Array.getD_eq_getD_getElem?, this] at hl
  · rw [hp.env0, hp.h0]
    refine ⟨⟨hs.heap.len, hs.heap.base.trans ?_, hs.heap.low, hs.heap.nodup, hs.heap.forb, fun i o b h1 h2 => (hs.heap.obj i o b h1 h2).ext hext rfl⟩, hs.size, fun t v hv => (hs.env t v hv).ext hext⟩
    exact ⟨rfl, rfl, rfl, Nat.le_refl _, fun _ _ => rfl⟩
  · rw [hp.h0]; exact hext
  · rw [hp.dn0 i hi hef]; simp [Array.getD_eq_getD_getElem?, hi]
  · have := (Array.getElem?_eq_some_iff.1 ho).1
    simp [Array.getD_eq_getD_getElem?, this] at hl
  · unfold unl
    exact Nat.le_trans (List.length_filter_le _ _) (by simp))
end
end Go.Abs
